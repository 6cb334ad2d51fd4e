/- BracketScales: for every list of numbers the law answers true (a scaled schedule is valid, scaling by 1 changes nothing, the scaled tax of the scaled income is within the rounding of the brackets of the scaled tax). -/
import Derived.Test.YtafoplpaoahdiaaBrkB
import Derived.Test.YtafoplpaoahdiaaBrkS
import Derived.Test.YtafoplpaoahdiaaFpayrolllaw29BracketScales
namespace Go.Proofs.Ytafoplpaoahdiaa.Pure
open Go.RowKit Go.Proofs.YtafoplpaoahdiaaW.PrintWords Go.Proofs.Ytafoplpaoahdiaa.P Go.Proofs.Ytafoplpaoahdiaa.K Go.Proofs.Ytafoplpaoahdiaa.BrkA Go.Proofs.Ytafoplpaoahdiaa.BrkG Go.Proofs.Ytafoplpaoahdiaa.BrkB Go.Proofs.Ytafoplpaoahdiaa.BrkS
theorem same_loop (t : List S30) (hl : t.length ≤ 1000) (d : Nat) : ∀ i, i + d = t.length → Ev (fun k => payrolllaw29_same.l0 k t t (i : Int)) true := by
  induction d with
  | zero =>
    intro i hi
    refine Ev.step (fun k => by rw [payrolllaw29_same.l0]) ?_
    exact ev_neg (by omega) (ev_some rfl)
  | succ d ih =>
    intro i hi
    have ih := ih (i + 1) (by omega)
    have e1 : wrap64 ((i : Int) + 1) = ((i + 1 : Nat) : Int) := w64n (by omega) (by omega)
    refine Ev.step (fun k => by rw [payrolllaw29_same.l0]) ?_
    refine ev_pos (by omega) (ev_pos (by omega) (ev_pos (by omega) (ev_neg (by simp) ?_)))
    rw [e1]
    exact ih
theorem same_ev (t : List S30) (hl : t.length ≤ 1000) : Ev (fun k => payrolllaw29_same.f k t t) true := by
  unfold payrolllaw29_same.f
  exact ev_pos rfl (same_loop t hl t.length 0 (by omega))
theorem BracketScales : payrolllaw29_BracketScales.Pure := by
  intro l _ _ _
  obtain ⟨t, a1, ht, hg, htl, hv, ha0, ha1⟩ := brackets l false (a := 0) (by omega) (by omega)
  obtain ⟨q, hq, hq0, hq1⟩ := Deck.next l (a := a1) (n := 12) (by omega) (by omega) ha0 (by omega)
  obtain ⟨num, hn, hn0, hn1⟩ := Deck.next l (a := a1 + 1) (n := 1 + q + 1) (by omega) (by omega) (by omega) (by omega)
  obtain ⟨s, a3, hs, hs0, hs1, hc0, hc1⟩ := small l (a := a1 + 1 + 1) (by omega) (by omega)
  obtain ⟨den, hden⟩ : ∃ den, den = 1 + q := ⟨_, rfl⟩
  apply Ev.rounds
  unfold payrolllaw29_BracketScales.f
  have e1 : wrap64 (1 + q) = 1 + q := w64 (by omega) (by omega)
  have e2 : wrap64 (1 + q + 1) = 1 + q + 1 := w64 (by omega) (by omega)
  refine ev_bindc (a := (l, 0)) rfl (Ev.bind ht (ev_bindc hq ?_))
  simp only [e1, e2]
  refine ev_bindc hn ?_
  rw [← hden]
  have hd1 : 1 ≤ den := by omega
  have hd2 : den ≤ 12 := by omega
  have hnd : num ≤ den := by omega
  have hvb : vb t = true := vb_true.2 hv
  have r1 : scr t num den = (acc t num den t.length, 0) := by unfold scr; rw [if_pos hvb, if_neg (by omega)]
  have r2 : scr t den den = (t, 0) := by
    unfold scr; rw [if_pos hvb, if_neg (by omega), acc_one hv hd1 t.length (Nat.le_refl _), List.take_length]
  have hva := acc_valid hv hn0 hnd hd1 (show den ≤ 53 by omega)
  refine Ev.bind (scale_ev t num den) (Ev.bind (scale_ev t den den) ?_)
  rw [r1, r2]
  refine ev_pos rfl (ev_pos rfl (Ev.bind (valid_ev _) (ev_pos (vb_true.2 hva) (Ev.bind (same_ev t (by omega)) ?_))))
  refine Ev.step (fun k => by rw [payrolllaw29_BracketScales.j0]) ?_
  refine ev_neg (by decide) (ev_bindc hs ?_)
  obtain ⟨m, hm⟩ : ∃ m : Nat, 10 * s = m := ⟨(10 * s).toNat, by omega⟩
  have f1 : wrap64 (10 * s) = m := by rw [w64 (by omega) (by omega), hm]
  have hmd : 0 ≤ (m : Int) * den ∧ (m : Int) * den ≤ 72000000 := by
    have a := Int.mul_nonneg (show 0 ≤ (m : Int) by omega) (show 0 ≤ den by omega)
    have b := Int.mul_le_mul (show (m : Int) ≤ 6000000 by omega) hd2 (by omega) (by omega)
    omega
  have hmn : 0 ≤ (m : Int) * num ∧ (m : Int) * num ≤ 72000000 := by
    have a := Int.mul_nonneg (show 0 ≤ (m : Int) by omega) hn0
    have b := Int.mul_le_mul (show (m : Int) ≤ 6000000 by omega) (show num ≤ 12 by omega) hn0 (by omega)
    omega
  have f2 : wrap64 ((m : Int) * den) = (m : Int) * den := w64 (by omega) (by omega)
  have f3 : wrap64 (Int.tdiv ((m : Int) * den) den) = m := by
    rw [tdiv_pos hmd.1, Int.mul_ediv_cancel _ (show den ≠ 0 by omega)]; exact w64 (by omega) (by omega)
  have f4 : wrap64 ((m : Int) * num) = (m : Int) * num := w64 (by omega) (by omega)
  simp only [f1, f2, f3, f4]
  refine Ev.bind (exact_ev t _) (ev_neg (by omega) (Ev.bind (exact_ev _ _) ?_))
  rw [exr_ok hv hmd.1 (by omega), exr_ok hva hmn.1 (by omega)]
  refine ev_pos rfl (ev_pos rfl ?_)
  obtain ⟨y, hy⟩ : ∃ y : Nat, (m : Int) * num = y := ⟨((m : Int) * num).toNat, by omega⟩
  have hb := acc_exact hv hn0 hnd hd1 (show den ≤ 53 by omega) y
  have hsc := Brk.exact_scaled hv.ok hn0 (show 0 < den by omega) (x := (m : Int) * den) (y := (y : Int)) (by rw [← hy]; simp only [Int.mul_left_comm, Int.mul_comm])
  have ok2 := Brk.ok_scaled hv.ok hn0 (show 0 < den by omega) hnd
  have b1 := Brk.exact_nonneg ok2 (y : Int)
  have b2 := Brk.exact_le ok2 (x := (y : Int)) (by omega)
  have c1 := Brk.exact_nonneg hv.ok ((m : Int) * den)
  have c2 := Brk.exact_le hv.ok hmd.1
  rw [hy]
  show Ev (fun n => if wrap64 (wrap64 (exa (acc t num den t.length) y * den) - wrap64 (exa t ((m : Int) * den) * num)) ≤ _ then _ else _) true
  rw [hb]
  have d1 : exa t ((m : Int) * den) = Brk.exact (F t) (R t) t.length ((m : Int) * den) := rfl
  rw [d1]
  obtain ⟨A, hA⟩ : ∃ A, A = Brk.exact (F t) (R t) t.length ((m : Int) * den) := ⟨_, rfl⟩
  obtain ⟨B, hB⟩ : ∃ B, B = Brk.exact (G t num den) (R t) t.length (y : Int) := ⟨_, rfl⟩
  have hB' : Brk.exact (fun i => F t i * num / den) (R t) t.length (y : Int) = B := hB.symm
  rw [hB'] at hsc b1 b2
  rw [← hA] at hsc c1 c2
  rw [← hA, ← hB]
  have p1 : 0 ≤ B * den ∧ B * den ≤ 72000000 * 1000000 * 12 := by
    have a := Int.mul_nonneg b1 (show 0 ≤ den by omega)
    have b := Int.mul_le_mul (show B ≤ 72000000 * 1000000 by omega) hd2 (by omega) (by omega)
    omega
  have p2 : 0 ≤ A * num ∧ A * num ≤ 72000000 * 1000000 * 12 := by
    have a := Int.mul_nonneg c1 hn0
    have b := Int.mul_le_mul (show A ≤ 72000000 * 1000000 by omega) (show num ≤ 12 by omega) hn0 (by omega)
    omega
  have p3 : 0 ≤ (t.length : Int) * den ∧ (t.length : Int) * den ≤ 4 * 12 := by
    have a := Int.mul_nonneg (show 0 ≤ (t.length : Int) by omega) (show 0 ≤ den by omega)
    have b := Int.mul_le_mul (show (t.length : Int) ≤ 4 by omega) hd2 (by omega) (by omega)
    omega
  have p4 : (t.length : Int) * (1000000 * den) = (t.length : Int) * den * 1000000 := by
    rw [Int.mul_comm 1000000 den, Int.mul_assoc]
  rw [p4] at hsc
  have g1 : wrap64 (B * den) = B * den := w64 (by omega) (by omega)
  have g2 : wrap64 (A * num) = A * num := w64 (by omega) (by omega)
  have g3 : wrap64 ((t.length : Int) * den) = (t.length : Int) * den := w64 (by omega) (by omega)
  have g4 : wrap64 ((t.length : Int) * den * 1000000) = (t.length : Int) * den * 1000000 := w64 (by omega) (by omega)
  have g5 : wrap64 (B * den - A * num) = B * den - A * num := w64 (by omega) (by omega)
  have g6 : wrap64 (A * num - B * den) = A * num - B * den := w64 (by omega) (by omega)
  simp only [g1, g2, g3, g4, g5, g6]
  exact ev_pos hsc.1 (ev_pos hsc.2 (Ev.bind awake_ev (ev_some rfl)))
end Go.Proofs.Ytafoplpaoahdiaa.Pure
