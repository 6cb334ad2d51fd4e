/- Plain lemmas for the laws of this seat: what its functions answer; no condition beyond those that each lemma states. -/
import Derived.Test.YtopigdnffnondaaRecB
import Derived.Test.YtopigdnffnondaaFpayrollref7Encode
namespace Go.Proofs.Ytopigdnffnondaa.RecR
open Go Go.RowKit Go.Proofs.YtopigdnffnondaaW.PrintWords Go.Proofs.YtopigdnffnondaaW.PrintMore Go.Proofs.Ytopigdnffnondaa.P Go.Proofs.Ytopigdnffnondaa.K Go.Proofs.Ytopigdnffnondaa.RecA Go.Proofs.Ytopigdnffnondaa.RecB
/-! records: the reference's checksum, valid events and frames are the program's. -/
theorem xor_i64 {a b : Nat} (ha : a < 4611686018427387904) (hb : b < 4611686018427387904) : bits .xor .i64 a b = ((a ^^^ b : Nat) : Int) :=
  bxor .i64 62 (by decide) (fun m hm0 hm1 => by rw [IntKind.wrap_i64]; omega) a b ha hb
theorem and_i64 {a : Nat} (ha : a < 4611686018427387904) : bits .and .i64 a 65535 = ((a % 65536 : Nat) : Int) := by
  have h := bits_mask .i64 62 (by decide) (fun m hm0 hm1 => by rw [IntKind.wrap_i64]; omega) 16 (by decide) (a : Int) (by omega) (by omega)
  have e : (2 : Int) ^ 16 - 1 = 65535 := by decide
  rw [e] at h
  rw [h]
  simp
theorem sum_l1 (x0 : List Int) (x4 : Int) (r : Int) (n : Nat) : ∀ (s : Nat) (j : Nat), s < 65536 → j + n = 8 →
    Ev (fun k => payrollref7_Sum.l0 k x0 (it n s : Nat) (wrap64 (x4 + 1))) r → Ev (fun k => payrollref7_Sum.l1 k x0 s x4 (j : Int)) r := by
  induction n with
  | zero =>
    intro s j hs hj h
    refine Ev.step (fun k => by rw [payrollref7_Sum.l1]) ?_
    exact ev_neg (by omega) h
  | succ n ih =>
    intro s j hs hj h
    refine Ev.step (fun k => by rw [payrollref7_Sum.l1]) ?_
    refine ev_pos (by omega) ?_
    have e1 : wrap64 ((j : Int) + 1) = ((j + 1 : Nat) : Int) := w64n (by omega) (by omega)
    have e2 : wrap64 ((s : Int) * 2) = ((2 * s : Nat) : Int) := w64n (by omega) (by omega)
    rw [e1, e2]
    rw [it] at h
    by_cases hc : s < 32768
    · refine ev_neg (by omega) ?_
      have : stp s = 2 * s := by unfold stp; rw [if_pos hc]
      rw [this] at h
      exact ih (2 * s) (j + 1) (by omega) (by omega) h
    · refine ev_pos (by omega) ?_
      have e3 : bits .xor .i64 (((2 * s) % 65536 : Nat) : Int) 4129 = (((2 * s) % 65536 ^^^ 4129 : Nat) : Int) := xor_i64 (by omega) (by decide)
      rw [and_i64 (by omega), e3, show 2 * s % 65536 = 2 * s - 65536 by omega]
      have : stp s = (2 * s - 65536) ^^^ 4129 := by unfold stp; rw [if_neg hc]
      rw [← this]
      exact ih (stp s) (j + 1) (stp_lt hs) (by omega) h
theorem sum_l0 (b : List Int) (hb : Bs b) (hl : b.length ≤ 1000000000000000) (d : Nat) : ∀ (i s : Nat), i + d = b.length → s < 65536 → Ev (fun k => payrollref7_Sum.l0 k b s (i : Int)) (crc s (b.drop i) : Nat) := by
  induction d with
  | zero =>
    intro i s hi hs
    refine Ev.step (fun k => by rw [payrollref7_Sum.l0]) ?_
    refine ev_neg (by omega) (ev_some ?_)
    rw [List.drop_of_length_le (by omega), crc]
  | succ d ih =>
    intro i s hi hs
    refine Ev.step (fun k => by rw [payrollref7_Sum.l0]) ?_
    refine ev_pos (by omega) (ev_pos (by omega) ?_)
    obtain ⟨x, hx⟩ : ∃ x, b[i]? = some x := ⟨b[i], List.getElem?_eq_getElem (by omega)⟩
    have hxb := hb x (List.mem_of_getElem? hx)
    have hr : rd b (i : Int) = x := by rw [rd_nat, List.getD_eq_getElem?_getD, hx]; rfl
    obtain ⟨m, rfl⟩ := Int.eq_ofNat_of_zero_le hxb.1
    have e1 : wrap64 (wrap64 (m : Int) * 256) = ((m * 256 : Nat) : Int) := by rw [w64 (x := (m : Int)) (by omega) (by omega)]; exact w64n (by omega) (by omega)
    rw [hr, e1, xor_i64 (by omega) (by omega)]
    have e2 : wrap64 ((i : Int) + 1) = ((i + 1 : Nat) : Int) := w64n (by omega) (by omega)
    refine sum_l1 b _ _ 8 _ 0 (xor16 hs (by omega)) (by omega) ?_
    rw [e2]
    have hd : b.drop i = (m : Int) :: b.drop (i + 1) := by
      rw [List.drop_eq_getElem_cons (by omega)]
      congr 1
      exact (List.getElem?_eq_some_iff.1 hx).2
    rw [hd, crc]
    have h1 := ih (i + 1) (byt s m) (by omega) (byt_lt hs (by omega))
    exact h1
theorem sum {b : List Int} (hb : Bs b) (hl : b.length ≤ 1000000000000000) : Ev (fun k => payrollref7_Sum.f k b) (sumB b) := sum_l0 b hb hl b.length 0 65535 (by omega) (by decide)
theorem wu64 {x : Int} (h0 : 0 ≤ x) (h1 : x < 18446744073709551616) : IntKind.u64.wrap x = x := by
  have : IntKind.u64.wrap x = x % 18446744073709551616 := by simp [IntKind.wrap, IntKind.bits, IntKind.signed]
  rw [this]; omega
theorem put_end (b : List Int) (n : Int) : Ev (fun k => payrollref7_put.l0 k b n (-1)) b := by
  refine Ev.step (fun k => by rw [payrollref7_put.l0]) ?_
  exact ev_neg (by omega) (ev_some rfl)
theorem put_one {b : List Int} {n : Int} {r : List Int} (m : Nat) (hm : m ≤ 7) (hl : b.length < 140737488355328) {v : Int} (hv : n / 2 ^ (8 * m) % 256 = v) (h : Ev (fun k => payrollref7_put.l0 k (b ++ [v]) n ((m : Int) - 1)) r) : Ev (fun k => payrollref7_put.l0 k b n (m : Int)) r := by
  refine Ev.step (fun k => by rw [payrollref7_put.l0]) ?_
  have e1 : wrap64 (8 * (m : Int)) = ((8 * m : Nat) : Int) := w64n (by omega) (by omega)
  rw [e1, wu64 (by omega) (by omega)]
  refine ev_pos (by omega) (ev_pos (by omega) (ev_pos hl ?_))
  rw [shr_at (8 * m) (by omega), w64 (by omega) (by omega), hv]
  exact h
theorem putE2 (b : List Int) (n : Int) (hl : b.length ≤ 1000000) : Ev (fun k => payrollref7_put.f k b n 2) (b ++ put2 n) := by
  have e : wrap64 (2 - 1) = ((1 : Nat) : Int) := by unfold wrap64; rfl
  unfold payrollref7_put.f
  rw [e]
  refine put_one 1 (by decide) (by omega) rfl ?_
  refine put_one 0 (by decide) (by simp; omega) (v := n % 256) (by simp) ?_
  have := put_end ((b ++ [n / 2 ^ 8 % 256]) ++ [n % 256]) n
  simpa [put2] using this
theorem putE4 (b : List Int) (n : Int) (hl : b.length ≤ 1000000) : Ev (fun k => payrollref7_put.f k b n 4) (b ++ put4 n) := by
  have e : wrap64 (4 - 1) = ((3 : Nat) : Int) := by unfold wrap64; rfl
  unfold payrollref7_put.f
  rw [e]
  refine put_one 3 (by decide) (by omega) rfl ?_
  refine put_one 2 (by decide) (by simp; omega) rfl ?_
  refine put_one 1 (by decide) (by simp; omega) rfl ?_
  refine put_one 0 (by decide) (by simp; omega) (v := n % 256) (by simp) ?_
  have := put_end ((((b ++ [n / 2 ^ 24 % 256]) ++ [n / 2 ^ 16 % 256]) ++ [n / 2 ^ 8 % 256]) ++ [n % 256]) n
  simpa [put4] using this
theorem key_okk (t s : Int) : payrollref7_key.f t s = some (okk t s) := RecA.key_okk t s
theorem valid_j0 (a0 a1 a2 a3 a4 a5 a6 : Int) (x : Bool) (h4 : x = true ∨ (1 ≤ a4 ∧ a4 ≤ 6)) : Ev (fun k => payrollref7_Valid.j0 k x a0 a1 a2 a3 a4 a5 a6) (!x && (if 1 ≤ a4 ∧ a4 ≤ 4 then decide (a5 = 0 ∧ a6 = 0) else if a4 = 5 ∨ a4 = 6 then okk a5 a6 else false)) := by
  refine Ev.step (fun k => by rw [payrollref7_Valid.j0]) ?_
  cases x with
  | true => exact ev_pos rfl (ev_some rfl)
  | false =>
    have h4 : 1 ≤ a4 ∧ a4 ≤ 6 := by rcases h4 with h | h; cases h; exact h
    refine ev_neg (by simp) ?_
    simp only [Bool.not_false, Bool.true_and]
    by_cases h5 : a4 = 5
    · refine ev_pos h5 ?_
      rw [key_okk, if_neg (by omega), if_pos (.inl h5)]
      exact ev_some rfl
    · refine ev_neg h5 ?_
      by_cases h6 : a4 = 6
      · refine ev_pos h6 ?_
        rw [key_okk, if_neg (by omega), if_pos (.inr h6)]
        exact ev_some rfl
      · refine ev_neg h6 (ev_some ?_)
        rw [if_pos (by omega), Bool.eq_iff_iff]
        simp
theorem valid (a0 a1 a2 a3 a4 a5 a6 : Int) : Ev (fun k => payrollref7_Valid.f k a0 a1 a2 a3 a4 a5 a6) (okE a0 a1 a2 a3 a4 a5 a6) := by
  unfold payrollref7_Valid.f okE
  rw [key_okk]
  simp only [Option.bind_some]
  cases hk : okk a0 a1 with
  | false =>
    refine ev_neg (by simp) (ev_to (valid_j0 a0 a1 a2 a3 a4 a5 a6 true (.inl rfl)) (by simp))
  | true =>
    refine ev_pos rfl ?_
    by_cases h1 : a2 < 1
    · refine ev_pos h1 (ev_to (valid_j0 a0 a1 a2 a3 a4 a5 a6 true (.inl rfl)) ?_)
      have : decide (1 ≤ a2 ∧ a2 ≤ 2147483647 ∧ 0 ≤ a3 ∧ a3 ≤ 120968639) = false := by simp; omega
      simp [this]
    · refine ev_neg h1 ?_
      by_cases h2 : a2 > 2147483647
      · refine ev_pos h2 (ev_to (valid_j0 a0 a1 a2 a3 a4 a5 a6 true (.inl rfl)) ?_)
        have : decide (1 ≤ a2 ∧ a2 ≤ 2147483647 ∧ 0 ≤ a3 ∧ a3 ≤ 120968639) = false := by simp; omega
        simp [this]
      · refine ev_neg h2 ?_
        by_cases h3 : a3 < 0
        · refine ev_pos h3 (ev_to (valid_j0 a0 a1 a2 a3 a4 a5 a6 true (.inl rfl)) ?_)
          have : decide (1 ≤ a2 ∧ a2 ≤ 2147483647 ∧ 0 ≤ a3 ∧ a3 ≤ 120968639) = false := by simp; omega
          simp [this]
        · refine ev_neg h3 ?_
          by_cases h3' : a3 > 120968639
          · refine ev_pos h3' (ev_to (valid_j0 a0 a1 a2 a3 a4 a5 a6 true (.inl rfl)) ?_)
            have : decide (1 ≤ a2 ∧ a2 ≤ 2147483647 ∧ 0 ≤ a3 ∧ a3 ≤ 120968639) = false := by simp; omega
            simp [this]
          · refine ev_neg h3' ?_
            have hd : decide (1 ≤ a2 ∧ a2 ≤ 2147483647 ∧ 0 ≤ a3 ∧ a3 ≤ 120968639) = true := by simp; omega
            rw [hd]
            by_cases h4 : a4 < 1
            · refine ev_pos h4 (ev_to (valid_j0 a0 a1 a2 a3 a4 a5 a6 true (.inl rfl)) ?_)
              rw [if_neg (by omega), if_neg (by omega)]
              rfl
            · refine ev_neg h4 ?_
              by_cases h5 : a4 > 6
              · refine ev_to (valid_j0 a0 a1 a2 a3 a4 a5 a6 _ (.inl (decide_eq_true h5))) ?_
                rw [if_neg (by omega), if_neg (by omega)]
                simp
              · refine ev_to (valid_j0 a0 a1 a2 a3 a4 a5 a6 _ (.inr (by omega))) ?_
                rw [decide_eq_false h5]
                simp
theorem encode (e : S26) : Ev (fun k => payrollref7_Encode.f k e.f0.f0 e.f0.f1 e.f1 e.f2 e.f3 e.f4.f0 e.f4.f1) (if okS e = true then (frame e, 0) else ([], 1)) := by
  unfold payrollref7_Encode.f
  refine Ev.bind (valid _ _ _ _ _ _ _) ?_
  by_cases h : okS e = true
  · rw [if_pos h]
    refine ev_pos h ?_
    refine Ev.bind (a := frame e) ?_ (ev_some rfl)
    unfold payrollref7_frame.f
    refine Ev.bind (putE2 _ _ (by simp)) (Ev.bind (putE4 _ _ (by simp [put2])) (Ev.bind (putE4 _ _ (by simp [put2, put4])) (Ev.bind (putE4 _ _ (by simp [put2, put4])) (Ev.bind (putE2 _ _ (by simp [put2, put4])) (Ev.bind (putE4 _ _ (by simp [put2, put4])) ?_)))))
    refine Ev.bind (sum (body_bs e) (by show (body e).length ≤ _; rw [body_len]; decide)) ?_
    exact Ev.bind (putE2 _ _ (by simp [put2, put4])) (ev_some rfl)
  · rw [if_neg h]
    exact ev_neg h (ev_some rfl)
end Go.Proofs.Ytopigdnffnondaa.RecR
