/- Plain lemmas for the laws of this seat: what its functions answer; no condition beyond those that each lemma states. -/
import Derived.Test.YtopigdnffnondaaRecR
import Derived.Test.YtopigdnffnondaaFpayrollref7Decode
namespace Go.Proofs.Ytopigdnffnondaa.RecD
open Go Go.RowKit Go.Proofs.YtopigdnffnondaaW.PrintWords Go.Proofs.YtopigdnffnondaaW.PrintMore Go.Proofs.Ytopigdnffnondaa.P Go.Proofs.Ytopigdnffnondaa.K Go.Proofs.Ytopigdnffnondaa.RecA Go.Proofs.Ytopigdnffnondaa.RecB
/-! records: what the reference's Decode answers is what the program's answers. -/
theorem get_l0 (b : List Int) (hb : Bs b) (hl : b.length ≤ 6) (d : Nat) : ∀ (i : Nat) (n : Int), i + d = b.length → 0 ≤ n → n < lim i → Ev (fun k => payrollref7_get.l0 k b n (i : Int)) (num n (b.drop i)) := by
  induction d with
  | zero =>
    intro i n hi h0 h1
    refine Ev.step (fun k => by rw [payrollref7_get.l0]) ?_
    refine ev_neg (by omega) (ev_some ?_)
    rw [List.drop_of_length_le (by omega), num]
  | succ d ih =>
    intro i n hi h0 h1
    refine Ev.step (fun k => by rw [payrollref7_get.l0]) ?_
    refine ev_pos (by omega) (ev_pos (by omega) ?_)
    have hd : b.drop i = b[i]'(by omega) :: b.drop (i + 1) := List.drop_eq_getElem_cons (by omega)
    have hr : rd b (i : Int) = b[i]'(by omega) := by rw [rd_nat, List.getD_eq_getElem?_getD, List.getElem?_eq_getElem (by omega)]; rfl
    have hx := hb (b[i]'(by omega)) (List.getElem_mem _)
    have hp := lim_le (i := i) (by omega)
    have e2 : wrap64 ((i : Int) + 1) = ((i + 1 : Nat) : Int) := w64n (by omega) (by omega)
    rw [hr, or_byte h0 (by omega) hx.1 hx.2, e2, hd]
    rw [num]
    exact ih (i + 1) _ (by omega) (by omega) (by rw [lim]; omega)
theorem get {b : List Int} (hb : Bs b) (hl : b.length ≤ 6) : Ev (fun k => payrollref7_get.f k b) (num 0 b) := get_l0 b hb hl b.length 0 0 (by omega) (by omega) (by rw [lim]; omega)
theorem get_mid {b : List Int} (hb : Bs b) {i j : Nat} (h : j - i ≤ 6) : Ev (fun k => payrollref7_get.f k ((b.take j).drop i)) (num 0 ((b.take j).drop i)) :=
  get ((hb.take _).drop _) (by rw [List.length_drop, List.length_take]; omega)
theorem read {b : List Int} (hb : Bs b) (hl : b.length = 24) : ∃ r : Int × Int × Int × Int × Int × Int × Int × Bool, Ev (fun k => payrollref7_read.f k b) r ∧ r.2.2.2.2.2.2.2 = isF b ∧
    (isF b = true → (⟨⟨r.1, r.2.1⟩, r.2.2.1, r.2.2.2.1, r.2.2.2.2.1, ⟨r.2.2.2.2.2.1, r.2.2.2.2.2.2.1⟩⟩ : S26) = evOf b) := by
  have hr1 := hb.at_ 1
  have hw : wrap64 (rd b 1) = rd b 1 := w64 (by omega) (by omega)
  have hdl : (b.take 24).drop 22 = b.drop 22 := by rw [List.take_of_length_le (by omega)]
  have pre : ∀ {f : Nat → Int → Int → Int → Int → Int → Int → Option (Int × Int × Int × Int × Int × Int × Int × Bool)} {r},
      Ev (fun k => f k (num 0 ((b.take 4).drop 2)) (num 0 ((b.take 8).drop 4)) (num 0 ((b.take 12).drop 8)) (num 0 ((b.take 16).drop 12)) (num 0 ((b.take 18).drop 16)) (num 0 ((b.take 22).drop 18))) r →
      Ev (fun k => (payrollref7_get.f k ((b.take 4).drop 2)).bind fun t0 => (payrollref7_get.f k ((b.take 8).drop 4)).bind fun t1 => (payrollref7_get.f k ((b.take 12).drop 8)).bind fun t2 => (payrollref7_get.f k ((b.take 16).drop 12)).bind fun t3 =>
        (payrollref7_get.f k ((b.take 18).drop 16)).bind fun t4 => (payrollref7_get.f k ((b.take 22).drop 18)).bind fun t5 => f k t0 t1 t2 t3 t4 t5) r := fun h =>
    Ev.bind (get_mid hb (by decide)) (Ev.bind (get_mid hb (by decide)) (Ev.bind (get_mid hb (by decide)) (Ev.bind (get_mid hb (by decide)) (Ev.bind (get_mid hb (by decide)) (Ev.bind (get_mid hb (by decide)) h)))))
  by_cases h0 : rd b 0 = 193
  · by_cases h1 : num 0 (b.drop 22) = sumB (b.take 22)
    · refine ⟨(num 0 ((b.take 4).drop 2), num 0 ((b.take 8).drop 4), num 0 ((b.take 12).drop 8), num 0 ((b.take 16).drop 12), rd b 1, num 0 ((b.take 18).drop 16), num 0 ((b.take 22).drop 18), okS (evOf b)), ?_, ?_, fun _ => rfl⟩
      · unfold payrollref7_read.f
        refine ev_pos hl (pre (ev_pos h0 ?_))
        refine Ev.bind (RecR.sum (hb.take _) (by rw [List.length_take]; omega)) ?_
        refine Ev.bind (get_mid hb (by decide)) ?_
        rw [hdl]
        refine ev_pos h1.symm ?_
        rw [hw]
        exact Ev.bind (RecR.valid _ _ _ _ _ _ _) (ev_some rfl)
      · unfold isF
        rw [decide_eq_true h0, decide_eq_true h1]
        rfl
    · have hf : isF b = false := by unfold isF; rw [decide_eq_false h1]; simp
      refine ⟨(num 0 ((b.take 4).drop 2), num 0 ((b.take 8).drop 4), num 0 ((b.take 12).drop 8), num 0 ((b.take 16).drop 12), rd b 1, num 0 ((b.take 18).drop 16), num 0 ((b.take 22).drop 18), false), ?_, hf.symm, fun h => by rw [hf] at h; cases h⟩
      unfold payrollref7_read.f
      refine ev_pos hl (pre (ev_pos h0 ?_))
      refine Ev.bind (RecR.sum (hb.take _) (by rw [List.length_take]; omega)) ?_
      refine Ev.bind (get_mid hb (by decide)) ?_
      rw [hdl, hw]
      exact ev_neg (fun h => h1 h.symm) (ev_some rfl)
  · have hf : isF b = false := by unfold isF; rw [decide_eq_false h0]; simp
    refine ⟨(num 0 ((b.take 4).drop 2), num 0 ((b.take 8).drop 4), num 0 ((b.take 12).drop 8), num 0 ((b.take 16).drop 12), rd b 1, num 0 ((b.take 18).drop 16), num 0 ((b.take 22).drop 18), false), ?_, hf.symm, fun h => by rw [hf] at h; cases h⟩
    unfold payrollref7_read.f
    refine ev_pos hl (pre (ev_neg h0 ?_))
    rw [hw]
    exact ev_some rfl
theorem decode_l0 (b : List Int) (hb : Bs b) (hl : b.length ≤ 1000000) (d : Nat) : ∀ (i : Nat) (es : List S26) (gs : List S55), b.length < i + d → es.length ≤ i → gs.length ≤ i → i ≤ b.length →
    Ev (fun k => payrollref7_Decode.l0 k b es gs (i : Int)) (dec b d i es gs) := by
  induction d with
  | zero =>
    intro i es gs hd he hg hi
    exact absurd hd (by omega)
  | succ d ih =>
    intro i es gs hd he hg hi
    have e24 : wrap64 ((i : Int) + 24) = ((i + 24 : Nat) : Int) := w64n (by omega) (by omega)
    have e1 : wrap64 ((i : Int) + 1) = ((i + 1 : Nat) : Int) := w64n (by omega) (by omega)
    refine Ev.step (fun k => by rw [payrollref7_Decode.l0]) ?_
    rw [e24, e1]
    unfold dec
    by_cases h : i + 24 ≤ b.length
    · rw [if_pos h]
      refine ev_pos (by omega) (ev_pos (by omega) (ev_pos (by omega) ?_))
      rw [Int.toNat_natCast, Int.toNat_natCast]
      obtain ⟨r, hr, hr1, hr2⟩ := read (win_bs hb i) (win_len h)
      refine Ev.bind hr ?_
      by_cases hf : isF (win b i) = true
      · rw [if_pos hf]
        refine ev_pos (hr1.trans hf) (ev_pos (by omega) ?_)
        rw [hr2 hf]
        exact ih (i + 24) _ gs (by omega) (by simp; omega) (by omega) (by omega)
      · rw [if_neg hf]
        refine ev_neg (by rw [hr1]; exact hf) ?_
        by_cases hg0 : 0 < gs.length
        · have ew : wrap64 ((gs.length : Int) - 1) = (gs.length : Int) - 1 := w64 (by omega) (by omega)
          rw [ew, rdT55 gs hg0]
          refine ev_pos (by omega) (ev_pos (by omega) (ev_pos (by omega) ?_))
          by_cases ht : (lastT gs).f1 = (i : Int)
          · refine ev_pos ht ?_
            have eg : gap gs i = gs.set ((gs.length : Int) - 1).toNat ⟨(lastT gs).f0, wrap64 ((lastT gs).f1 + 1)⟩ := by
              unfold gap
              rw [if_pos ⟨hg0, ht⟩, ht, e1, show ((gs.length : Int) - 1).toNat = gs.length - 1 by omega]
              rfl
            rw [← eg]
            exact ih (i + 1) es _ (by omega) (by omega) (by have := gap_len gs i; omega) (by omega)
          · refine ev_neg ht (ev_pos (by omega) ?_)
            have eg : gap gs i = gs ++ [⟨(i : Int), ((i + 1 : Nat) : Int)⟩] := by
              unfold gap
              rw [if_neg (fun h_ => ht h_.2)]
              rfl
            rw [← eg]
            exact ih (i + 1) es _ (by omega) (by omega) (by have := gap_len gs i; omega) (by omega)
        · have ew : wrap64 ((gs.length : Int) - 1) = (gs.length : Int) - 1 := w64 (by omega) (by omega)
          rw [ew]
          refine ev_neg (by omega) (ev_pos (by omega) ?_)
          have eg : gap gs i = gs ++ [⟨(i : Int), ((i + 1 : Nat) : Int)⟩] := by
            unfold gap
            rw [if_neg (fun h_ => hg0 h_.1)]
            rfl
          rw [← eg]
          exact ih (i + 1) es _ (by omega) (by omega) (by have := gap_len gs i; omega) (by omega)
    · rw [if_neg h]
      exact ev_neg (by omega) (ev_some rfl)
theorem decode {b : List Int} (hb : Bs b) (hl : b.length ≤ 1000000) : Ev (fun k => payrollref7_Decode.f k b) (dec b (b.length + 1) 0 [] []) :=
  decode_l0 b hb hl _ 0 [] [] (by omega) (by simp) (by simp) (by omega)
theorem dec_len (b : List Int) : ∀ (d i : Nat) (es : List S26) (gs : List S55), (dec b d i es gs).1.length ≤ es.length + d ∧ (dec b d i es gs).2.1.length ≤ gs.length + d
  | 0, i, es, gs => by simp [dec]
  | d + 1, i, es, gs => by
    unfold dec
    by_cases h : i + 24 ≤ b.length
    · rw [if_pos h]
      by_cases hf : isF (win b i) = true
      · rw [if_pos hf]
        have := dec_len b d (i + 24) (es ++ [evOf (win b i)]) gs
        simp at this
        omega
      · rw [if_neg hf]
        have := dec_len b d (i + 1) es (gap gs i)
        have := gap_len gs i
        omega
    · rw [if_neg h]
      simp only
      omega
end Go.Proofs.Ytopigdnffnondaa.RecD
