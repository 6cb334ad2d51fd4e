/- Plain lemmas for the laws of this seat: what its functions answer; no condition beyond those that each lemma states. -/
import Derived.Test.YtopigdnffnondaaRecA
import Derived.Test.YtopigdnffnondaaFrecordsDecode
import Derived.Test.YtopigdnffnondaaFrecordsEncode
namespace Go.Proofs.Ytopigdnffnondaa.RecB
open Go Go.RowKit Go.Proofs.YtopigdnffnondaaW.PrintWords Go.Proofs.YtopigdnffnondaaW.PrintMore Go.Proofs.Ytopigdnffnondaa.P Go.Proofs.Ytopigdnffnondaa.K Go.Proofs.Ytopigdnffnondaa.RecA
/-! records: frames, and what Decode answers. -/
def win (b : List Int) (i : Nat) : List Int := (b.take (i + 24)).drop i
theorem win_len {b : List Int} {i : Nat} (h : i + 24 ≤ b.length) : (win b i).length = 24 := by unfold win; rw [List.length_drop, List.length_take]; omega
theorem win_bs {b : List Int} (h : Bs b) (i : Nat) : Bs (win b i) := (h.take _).drop _
def evOf (b : List Int) : S26 := ⟨⟨num 0 ((b.take 4).drop 2), num 0 ((b.take 8).drop 4)⟩, num 0 ((b.take 12).drop 8), num 0 ((b.take 16).drop 12), rd b 1, ⟨num 0 ((b.take 18).drop 16), num 0 ((b.take 22).drop 18)⟩⟩
def okS (e : S26) : Bool := okE e.f0.f0 e.f0.f1 e.f1 e.f2 e.f3 e.f4.f0 e.f4.f1
def isF (b : List Int) : Bool := decide (rd b 0 = 193) && (decide (num 0 (b.drop 22) = sumB (b.take 22)) && okS (evOf b))
theorem get_mid {b : List Int} (hb : Bs b) {i j : Nat} (h : j - i ≤ 6) : Ev (fun k => records_get.f k ((b.take j).drop i)) (num 0 ((b.take j).drop i)) :=
  get ((hb.take _).drop _) (by rw [List.length_drop, List.length_take]; omega)
theorem read {b : List Int} (hb : Bs b) (hl : b.length = 24) : ∃ r : Int × Int × Int × Int × Int × Int × Int × Bool, Ev (fun k => records_read.f k b) r ∧ r.2.2.2.2.2.2.2 = isF b ∧
    (isF b = true → (⟨⟨r.1, r.2.1⟩, r.2.2.1, r.2.2.2.1, r.2.2.2.2.1, ⟨r.2.2.2.2.2.1, r.2.2.2.2.2.2.1⟩⟩ : S26) = evOf b) := by
  have hr1 := hb.at_ 1
  have hw : wrap64 (rd b 1) = rd b 1 := w64 (by omega) (by omega)
  by_cases h0 : rd b 0 = 193
  · by_cases h1 : num 0 (b.drop 22) = sumB (b.take 22)
    · refine ⟨(num 0 ((b.take 4).drop 2), num 0 ((b.take 8).drop 4), num 0 ((b.take 12).drop 8), num 0 ((b.take 16).drop 12), rd b 1, num 0 ((b.take 18).drop 16), num 0 ((b.take 22).drop 18), okS (evOf b)), ?_, ?_, fun _ => rfl⟩
      · unfold records_read.f
        refine ev_pos hl (ev_pos h0 ?_)
        refine Ev.bind (get (hb.drop _) (by rw [List.length_drop]; omega)) ?_
        refine Ev.bind (sum (hb.take _) (by rw [List.length_take]; omega)) ?_
        refine ev_pos h1 ?_
        refine Ev.bind (get_mid hb (by decide)) (Ev.bind (get_mid hb (by decide)) (Ev.bind (get_mid hb (by decide)) (Ev.bind (get_mid hb (by decide)) (Ev.bind (get_mid hb (by decide)) (Ev.bind (get_mid hb (by decide)) ?_)))))
        rw [hw]
        exact Ev.bind (valid _ _ _ _ _ _ _) (ev_some rfl)
      · unfold isF
        rw [decide_eq_true h0, decide_eq_true h1]
        rfl
    · have hf : isF b = false := by unfold isF; rw [decide_eq_false h1]; simp
      refine ⟨(0, 0, 0, 0, 0, 0, 0, false), ?_, hf.symm, fun h => by rw [hf] at h; cases h⟩
      unfold records_read.f
      refine ev_pos hl (ev_pos h0 ?_)
      refine Ev.bind (get (hb.drop _) (by rw [List.length_drop]; omega)) ?_
      refine Ev.bind (sum (hb.take _) (by rw [List.length_take]; omega)) ?_
      exact ev_neg h1 (ev_some rfl)
  · have hf : isF b = false := by unfold isF; rw [decide_eq_false h0]; simp
    refine ⟨(0, 0, 0, 0, 0, 0, 0, false), ?_, hf.symm, fun h => by rw [hf] at h; cases h⟩
    unfold records_read.f
    exact ev_pos hl (ev_neg h0 (ev_some rfl))
/-! ### Decode -/
def lastT (gs : List S55) : S55 := gs.getD (gs.length - 1) z55
def gap (gs : List S55) (i : Nat) : List S55 := if 0 < gs.length ∧ (lastT gs).f1 = (i : Int) then gs.set (gs.length - 1) ⟨(lastT gs).f0, (i : Int) + 1⟩ else gs ++ [⟨(i : Int), (i : Int) + 1⟩]
def dec (b : List Int) : Nat → Nat → List S26 → List S55 → List S26 × List S55 × Int
  | 0, i, es, gs => (es, gs, (i : Int))
  | d + 1, i, es, gs => if i + 24 ≤ b.length then (if isF (win b i) = true then dec b d (i + 24) (es ++ [evOf (win b i)]) gs else dec b d (i + 1) es (gap gs i)) else (es, gs, (i : Int))
theorem gap_len (gs : List S55) (i : Nat) : (gap gs i).length ≤ gs.length + 1 := by
  unfold gap
  split
  · rw [List.length_set]; omega
  · simp
theorem rdT55 (gs : List S55) (h : 0 < gs.length) : rd_T55 gs ((gs.length : Int) - 1) = lastT gs := by
  unfold rd_T55 lastT
  rw [show ((gs.length : Int) - 1).toNat = gs.length - 1 by omega]
theorem decode_l0 (b : List Int) (hb : Bs b) (hl : b.length ≤ 1000000) (d : Nat) : ∀ (i : Nat) (es : List S26) (gs : List S55), b.length < i + d → es.length ≤ i → gs.length ≤ i → i ≤ b.length →
    Ev (fun k => records_Decode.l0 k b es gs (i : Int)) (dec b d i es gs) := by
  induction d with
  | zero =>
    intro i es gs hd he hg hi
    exact absurd hd (by omega)
  | succ d ih =>
    intro i es gs hd he hg hi
    have e24 : wrap64 ((i : Int) + 24) = ((i + 24 : Nat) : Int) := w64n (by omega) (by omega)
    have e1 : wrap64 ((i : Int) + 1) = ((i + 1 : Nat) : Int) := w64n (by omega) (by omega)
    refine Ev.step (fun k => by rw [records_Decode.l0]) ?_
    rw [e24, e1]
    unfold dec
    by_cases h : i + 24 ≤ b.length
    · rw [if_pos h]
      refine ev_pos (by omega) (ev_pos (by omega) (ev_pos (by omega) ?_))
      rw [Int.toNat_natCast, Int.toNat_natCast]
      obtain ⟨r, hr, hr1, hr2⟩ := read (win_bs hb i) (win_len h)
      refine Ev.bind hr ?_
      by_cases hf : isF (win b i) = true
      · rw [if_pos hf]
        refine ev_pos (hr1.trans hf) (ev_pos (by omega) ?_)
        rw [hr2 hf]
        exact ih (i + 24) _ gs (by omega) (by simp; omega) (by omega) (by omega)
      · rw [if_neg hf]
        refine ev_neg (by rw [hr1]; exact hf) ?_
        by_cases hg0 : 0 < gs.length
        · have ew : wrap64 ((gs.length : Int) - 1) = (gs.length : Int) - 1 := w64 (by omega) (by omega)
          rw [ew, rdT55 gs hg0]
          refine ev_pos (by omega) (ev_pos (by omega) (ev_pos (by omega) ?_))
          by_cases ht : (lastT gs).f1 = (i : Int)
          · refine ev_pos ht ?_
            have eg : gap gs i = gs.set ((gs.length : Int) - 1).toNat ⟨(lastT gs).f0, wrap64 ((lastT gs).f1 + 1)⟩ := by
              unfold gap
              rw [if_pos ⟨hg0, ht⟩, ht, e1, show ((gs.length : Int) - 1).toNat = gs.length - 1 by omega]
              rfl
            rw [← eg]
            exact ih (i + 1) es _ (by omega) (by omega) (by have := gap_len gs i; omega) (by omega)
          · refine ev_neg ht (ev_pos (by omega) ?_)
            have eg : gap gs i = gs ++ [⟨(i : Int), ((i + 1 : Nat) : Int)⟩] := by
              unfold gap
              rw [if_neg (fun h_ => ht h_.2)]
              rfl
            rw [← eg]
            exact ih (i + 1) es _ (by omega) (by omega) (by have := gap_len gs i; omega) (by omega)
        · have ew : wrap64 ((gs.length : Int) - 1) = (gs.length : Int) - 1 := w64 (by omega) (by omega)
          rw [ew]
          refine ev_neg (by omega) (ev_pos (by omega) ?_)
          have eg : gap gs i = gs ++ [⟨(i : Int), ((i + 1 : Nat) : Int)⟩] := by
            unfold gap
            rw [if_neg (fun h_ => hg0 h_.1)]
            rfl
          rw [← eg]
          exact ih (i + 1) es _ (by omega) (by omega) (by have := gap_len gs i; omega) (by omega)
    · rw [if_neg h]
      exact ev_neg (by omega) (ev_some rfl)
theorem decode {b : List Int} (hb : Bs b) (hl : b.length ≤ 1000000) : Ev (fun k => records_Decode.f k b) (dec b (b.length + 1) 0 [] []) :=
  decode_l0 b hb hl _ 0 [] [] (by omega) (by simp) (by simp) (by omega)
/-! ### Encode -/
def body (e : S26) : List Int := [193, e.f3 % 256] ++ put2 e.f0.f0 ++ put4 e.f0.f1 ++ put4 e.f1 ++ put4 e.f2 ++ put2 e.f4.f0 ++ put4 e.f4.f1
def frame (e : S26) : List Int := body e ++ put2 (sumB (body e))
theorem body_bs (e : S26) : Bs (body e) := by
  unfold body
  exact ((((((Bs.cons (by decide) (by decide) (Bs.cons (by omega) (by omega) Bs.nil)).append (put2_bs _)).append (put4_bs _)).append (put4_bs _)).append (put4_bs _)).append (put2_bs _)).append (put4_bs _)
theorem frame_bs (e : S26) : Bs (frame e) := (body_bs e).append (put2_bs _)
theorem body_len (e : S26) : (body e).length = 22 := rfl
theorem frame_len (e : S26) : (frame e).length = 24 := rfl
theorem encode (e : S26) : Ev (fun k => records_Encode.f k e.f0.f0 e.f0.f1 e.f1 e.f2 e.f3 e.f4.f0 e.f4.f1) (if okS e = true then (frame e, 0) else ([], 1)) := by
  unfold records_Encode.f
  refine Ev.bind (valid _ _ _ _ _ _ _) ?_
  by_cases h : okS e = true
  · rw [if_pos h]
    refine ev_pos h ?_
    refine Ev.bind (putE2 _ _ (by simp)) (Ev.bind (putE4 _ _ (by simp [put2])) (Ev.bind (putE4 _ _ (by simp [put2, put4])) (Ev.bind (putE4 _ _ (by simp [put2, put4])) (Ev.bind (putE2 _ _ (by simp [put2, put4])) (Ev.bind (putE4 _ _ (by simp [put2, put4])) ?_)))))
    refine Ev.bind (sum (body_bs e) (by show (body e).length ≤ _; rw [body_len]; decide)) ?_
    exact Ev.bind (putE2 _ _ (by simp [put2, put4])) (ev_some rfl)
  · rw [if_neg h]
    exact ev_neg h (ev_some rfl)
/-- The frame of a valid event is a frame, of this event. -/
theorem ok_parts {e : S26} (h : okS e = true) : 0 ≤ e.f0.f0 ∧ e.f0.f0 < 65536 ∧ 0 ≤ e.f0.f1 ∧ e.f0.f1 < 2147483648 ∧ 1 ≤ e.f1 ∧ e.f1 < 2147483648 ∧ 0 ≤ e.f2 ∧ e.f2 ≤ 120968639 ∧ 1 ≤ e.f3 ∧ e.f3 ≤ 6 ∧ 0 ≤ e.f4.f0 ∧ e.f4.f0 < 65536 ∧ 0 ≤ e.f4.f1 ∧ e.f4.f1 < 2147483648 := by
  unfold okS okE okk at h
  simp only [Bool.and_eq_true, decide_eq_true_eq] at h
  obtain ⟨⟨h1, h2⟩, h3⟩ := h
  by_cases h4 : 1 ≤ e.f3 ∧ e.f3 ≤ 4
  · rw [if_pos h4] at h3
    simp only [decide_eq_true_eq] at h3
    omega
  · rw [if_neg h4] at h3
    by_cases h5 : e.f3 = 5 ∨ e.f3 = 6
    · rw [if_pos h5] at h3
      simp only [decide_eq_true_eq] at h3
      omega
    · rw [if_neg h5] at h3
      cases h3
theorem evOf_frame {e : S26} (h : okS e = true) : evOf (frame e) = e := by
  obtain ⟨h1, h2, h3, h4, h5, h6, h7, h8, h9, h10, h11, h12, h13, h14⟩ := ok_parts h
  have a1 : num 0 (((frame e).take 4).drop 2) = e.f0.f0 := num_put2 h1 h2
  have a2 : num 0 (((frame e).take 8).drop 4) = e.f0.f1 := num_put4 h3 (by omega)
  have a3 : num 0 (((frame e).take 12).drop 8) = e.f1 := num_put4 (by omega) (by omega)
  have a4 : num 0 (((frame e).take 16).drop 12) = e.f2 := num_put4 h7 (by omega)
  have a5 : rd (frame e) 1 = e.f3 % 256 := rfl
  have a6 : num 0 (((frame e).take 18).drop 16) = e.f4.f0 := num_put2 h11 h12
  have a7 : num 0 (((frame e).take 22).drop 18) = e.f4.f1 := num_put4 h13 (by omega)
  unfold evOf
  rw [a1, a2, a3, a4, a5, a6, a7, show e.f3 % 256 = e.f3 by omega]
theorem isF_frame {e : S26} (h : okS e = true) : isF (frame e) = true := by
  have hs := sumB_range (body_bs e)
  have a1 : num 0 ((frame e).drop 22) = sumB (body e) := num_put2 hs.1 hs.2
  have a2 : (frame e).take 22 = body e := rfl
  have a3 : rd (frame e) 0 = 193 := rfl
  unfold isF
  rw [a1, a2, a3, evOf_frame h, h]
  simp
end Go.Proofs.Ytopigdnffnondaa.RecB
