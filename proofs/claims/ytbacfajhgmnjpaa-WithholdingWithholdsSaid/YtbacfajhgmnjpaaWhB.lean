/- Plain lemmas for the laws of this seat: what its functions answer; no condition beyond those that each lemma states. -/
import Derived.Test.YtbacfajhgmnjpaaWhA
import Derived.Test.YtbacfajhgmnjpaaBrkS
import Derived.Test.YtbacfajhgmnjpaaBrkT
import Derived.Test.YtbacfajhgmnjpaaFwithholdingYear
import Derived.Test.YtbacfajhgmnjpaaFwithholdingFormula
namespace Go.Proofs.Ytbacfajhgmnjpaa.WhB
open Go.RowKit Go.Proofs.YtbacfajhgmnjpaaW.PrintWords Go.Proofs.Ytbacfajhgmnjpaa.P Go.Proofs.Ytbacfajhgmnjpaa.K Go.Proofs.Ytbacfajhgmnjpaa.BrkA Go.Proofs.Ytbacfajhgmnjpaa.BrkS Go.Proofs.Ytbacfajhgmnjpaa.BrkT Go.Proofs.Ytbacfajhgmnjpaa.WhA
/-! withholding: Annual, Formula, Due, Cumulative, Year, of the program and of the reference. -/
theorem rnd_bd {n u : Int} (m : Int) (n0 : 0 ≤ n) (n1 : n ≤ 1000000000000000000) (u0 : 1 ≤ u) (u1 : u ≤ 1000000) : 0 ≤ rnd n u m ∧ rnd n u m ≤ 1000001000000 ∧ 1000000 * rnd n u m ≤ n + u * 1000000 := by
  obtain ⟨g1, g2, g3, g4, g5, g6, g7⟩ := facts n0 n1 u0 u1
  have e : (n / (u * 1000000) + 1) * u = n / (u * 1000000) * u + u := by rw [Int.add_mul, Int.one_mul]
  unfold rnd
  split
  · rw [e]; omega
  · omega
noncomputable def txv (s : List S58) (al cr u md x : Int) : Int := max (rnd (exa s (max (x - al) 0)) u md - cr) 0
theorem txv_bd {s : List S58} (hv : VB s) {al cr u md x : Int} (a0 : 0 ≤ al) (x0 : 0 ≤ x) (x1 : x ≤ 1000000000000) (c0 : 0 ≤ cr) (u0 : 1 ≤ u) (u1 : u ≤ 100) : 0 ≤ txv s al cr u md x ∧ txv s al cr u md x ≤ x + 100 := by
  have hy : 0 ≤ max (x - al) 0 ∧ max (x - al) 0 ≤ x := by omega
  obtain ⟨b0, b1⟩ := exa_bd hv hy.1 (by omega)
  obtain ⟨r0, r1, r2⟩ := rnd_bd md b0 b1 u0 (by omega : u ≤ 1000000)
  have b2 : exa s (max (x - al) 0) ≤ 1000000 * max (x - al) 0 := Brk.exact_le hv.ok hy.1
  unfold txv
  omega
section
variable {s : List S58} (hv : VB s) {al cr x u md : Int} (a0 : 0 ≤ al) (a1 : al ≤ 1000000000) (c0 : 0 ≤ cr) (c1 : cr ≤ 1000000000) (x0 : 0 ≤ x) (x1 : x ≤ 1000000000000) (u0 : 1 ≤ u) (u1 : u ≤ 100) (d0 : 0 ≤ md) (d1 : md ≤ 6)
include hv a0 a1 c0 c1 x0 x1 u0 u1 d0 d1
theorem tax_pre : mx (wrap64 (x - al)) 0 = max (x - al) 0 ∧ taxr s (max (x - al) 0) u md = (rnd (exa s (max (x - al) 0)) u md, 0) ∧ mx (wrap64 (rnd (exa s (max (x - al) 0)) u md - cr)) 0 = txv s al cr u md x := by
  have hy : 0 ≤ max (x - al) 0 ∧ max (x - al) 0 ≤ x := by omega
  have hk : chk s (max (x - al) 0) = 0 := chk_ok hv hy.1 (by omega)
  obtain ⟨b0, b1⟩ := exa_bd hv hy.1 (by omega)
  obtain ⟨r0, r1, r2⟩ := rnd_bd md b0 b1 u0 (by omega : u ≤ 1000000)
  refine ⟨by rw [mx_eq, w64 (by omega) (by omega)], ?_, ?_⟩
  · unfold taxr; rw [if_pos hk, if_neg (by omega)]
  · rw [mx_eq, w64 (by omega) (by omega)]; rfl
theorem tax_ev' (m : Int) (t : List S58) (al' cr' : Int) (rows : List S80) : Ev (fun k => withholding_tax.f k m t al' cr' u md rows s al cr x) (txv s al cr u md x, 0) := by
  obtain ⟨e1, ht, e2⟩ := tax_pre hv a0 a1 c0 c1 x0 x1 u0 u1 d0 d1
  unfold withholding_tax.f
  rw [e1]
  refine Ev.bind (tax_ev s _ u md) ?_
  rw [ht]
  refine ev_pos rfl (ev_some ?_)
  simp only [e2]
end
section
variable (m : Int) (t : List S58) (al cr u md : Int) (rows : List S80)
noncomputable def anr (x : Int) : Int × Int := if B (VT m t al cr u md rows) = true then (if 0 ≤ x ∧ x ≤ 1000000000000 then (txv t al cr u md x, 0) else (0, 2)) else (0, 1)
theorem anr_ok (h : VT m t al cr u md rows) {x : Int} (h0 : 0 ≤ x) (h1 : x ≤ 1000000000000) : anr m t al cr u md rows x = (txv t al cr u md x, 0) := by
  unfold anr; rw [if_pos (B_pos h), if_pos ⟨h0, h1⟩]
theorem annual_ev (x : Int) : Ev (fun k => withholding_Annual.f k m t al cr u md rows x) (anr m t al cr u md rows x) := by
  unfold withholding_Annual.f anr
  refine Ev.bind (tar_ev m t al cr u md rows) ?_
  by_cases h : B (VT m t al cr u md rows) = true
  · have hv := B_true.1 h
    simp only [if_pos h, total_eq]
    refine ev_bindc rfl ?_
    by_cases hx : 0 ≤ x ∧ x ≤ 1000000000000
    · rw [if_pos hx]
      refine ev_pos (by simpa using hx) (Ev.bind (tax_ev' hv.vb hv.a0 hv.a1 hv.c0 hv.c1 hx.1 hx.2 hv.u0 hv.u1 hv.d0 hv.d1 m t al cr rows) (ev_some rfl))
    · rw [if_neg hx]
      exact ev_neg (by simpa using hx) (ev_some rfl)
  · simp only [if_neg h]; exact ev_some rfl
theorem prod_bd {x n : Int} (h0 : 0 ≤ x) (h1 : x ≤ 1000000000) (h2 : 0 ≤ n) (h3 : n ≤ 53) : 0 ≤ x * n ∧ x * n ≤ 53000000000 := by
  have a := Int.mul_nonneg h0 h2
  have b := Int.mul_le_mul h1 h3 h2 (by omega)
  omega
noncomputable def fmr (x n : Int) : Int × Int := if B (VT m t al cr u md rows) = true then (if (0 ≤ x ∧ x ≤ 1000000000) ∧ (1 ≤ n ∧ n ≤ 53) then (txv t al cr u md (x * n) / n, 0) else (0, 2)) else (0, 1)
theorem div_bd' {a n : Int} (h0 : 0 ≤ a) (h1 : 1 ≤ n) : 0 ≤ a / n ∧ a / n ≤ a := ⟨Int.ediv_nonneg h0 (by omega), Int.ediv_le_self _ h0⟩
theorem formula_ev (x n : Int) : Ev (fun k => withholding_Formula.f k m t al cr u md rows x n) (fmr m t al cr u md rows x n) := by
  unfold withholding_Formula.f fmr
  refine Ev.bind (tar_ev m t al cr u md rows) ?_
  by_cases h : B (VT m t al cr u md rows) = true
  · have hv := B_true.1 h
    simp only [if_pos h, amount_eq, count_eq]
    have bad : ∀ b, b = true → ¬ ((0 ≤ x ∧ x ≤ 1000000000) ∧ (1 ≤ n ∧ n ≤ 53)) → Ev (fun k => withholding_Formula.j0 k x n b m t al cr u md rows) (if (0 ≤ x ∧ x ≤ 1000000000) ∧ (1 ≤ n ∧ n ≤ 53) then (txv t al cr u md (x * n) / n, 0) else (0, 2)) := by
      intro b hb hn
      rw [if_neg hn]
      exact Ev.step (fun k => by rw [withholding_Formula.j0]) (ev_pos hb (ev_some rfl))
    refine ev_bindc rfl ?_
    by_cases hx : 0 ≤ x ∧ x ≤ 1000000000
    case neg => exact ev_neg (by simpa using hx) (bad true rfl (fun h => hx h.1))
    refine ev_pos (by simpa using hx) (ev_bindc rfl ?_)
    by_cases hn : 1 ≤ n ∧ n ≤ 53
    case neg => exact bad _ (by simp [decide_eq_false hn]) (fun h => hn h.2)
    have e : (!decide (1 ≤ n ∧ n ≤ 53)) = false := by simp [decide_eq_true hn]
    rw [e, if_pos ⟨hx, hn⟩]
    obtain ⟨p0, p1⟩ := prod_bd hx.1 hx.2 (n := n) (by omega) hn.2
    have e1 : wrap64 (x * n) = x * n := w64 (by omega) (by omega)
    refine Ev.step (fun k => by rw [withholding_Formula.j0]) (ev_neg (by decide) ?_)
    rw [e1]
    refine Ev.bind (annual_ev m t al cr u md rows (x * n)) ?_
    rw [anr_ok m t al cr u md rows hv p0 (by omega)]
    obtain ⟨q0, q1⟩ := txv_bd hv.vb (al := al) (cr := cr) (u := u) (md := md) (x := x * n) hv.a0 p0 (by omega) hv.c0 hv.u0 hv.u1
    obtain ⟨q2, q3⟩ := div_bd' q0 hn.1
    have e2 : wrap64 (Int.tdiv (txv t al cr u md (x * n)) n) = txv t al cr u md (x * n) / n := by rw [tdiv_pos q0]; exact w64 (by omega) (by omega)
    refine ev_pos rfl (ev_neg (by omega) (ev_some ?_))
    simp only [e2]
  · simp only [if_neg h]; exact ev_some rfl
/-- The tax due after k of n periods on x. -/
noncomputable def dv (n k x : Int) : Int := txv (acc t k n t.length) (al * k / n) (cr * k / n) u md x
theorem part_bd {a k n : Int} (h0 : 0 ≤ a) (h1 : a ≤ 1000000000) (h2 : 1 ≤ k) (h3 : k ≤ n) (h4 : n ≤ 53) : 0 ≤ a * k ∧ a * k ≤ 53000000000 ∧ 0 ≤ a * k / n ∧ a * k / n ≤ 1000000000 := by
  obtain ⟨p0, p1⟩ := prod_bd h0 h1 (n := k) (by omega) (by omega)
  refine ⟨p0, p1, Int.ediv_nonneg p0 (by omega), ?_⟩
  have := Int.mul_le_mul h1 h3 (by omega) (show (0 : Int) ≤ 1000000000 by omega)
  exact Int.ediv_le_of_le_mul (by omega) (by omega)
theorem scr_ok {t : List S58} (hv : VB t) {k n : Int} (h2 : 1 ≤ k) (h3 : k ≤ n) (h4 : n ≤ 53) : scr t k n = (acc t k n t.length, 0) := by
  unfold scr; rw [if_pos (vb_true.2 hv), if_neg (by omega)]
noncomputable def dur (n k x : Int) : Int × Int := if B (VT m t al cr u md rows) = true then (if (1 ≤ n ∧ n ≤ 53) ∧ (1 ≤ k ∧ k ≤ n) ∧ (0 ≤ x ∧ x ≤ 1000000000000) then (dv t al cr u md n k x, 0) else (0, 2)) else (0, 1)
theorem dur_ok (h : VT m t al cr u md rows) {n k x : Int} (hc : (1 ≤ n ∧ n ≤ 53) ∧ (1 ≤ k ∧ k ≤ n) ∧ (0 ≤ x ∧ x ≤ 1000000000000)) : dur m t al cr u md rows n k x = (dv t al cr u md n k x, 0) := by
  unfold dur; rw [if_pos (B_pos h), if_pos hc]
theorem dur_bad (h : VT m t al cr u md rows) {n k x : Int} (hc : ¬ ((1 ≤ n ∧ n ≤ 53) ∧ (1 ≤ k ∧ k ≤ n) ∧ (0 ≤ x ∧ x ≤ 1000000000000))) : dur m t al cr u md rows n k x = (0, 2) := by
  unfold dur; rw [if_pos (B_pos h), if_neg hc]
theorem dur_inv (h : ¬ VT m t al cr u md rows) (n k x : Int) : dur m t al cr u md rows n k x = (0, 1) := by
  unfold dur; rw [B_neg h]; rfl
theorem due_ev (n k x : Int) : Ev (fun j => withholding_Due.f j m t al cr u md rows n k x) (dur m t al cr u md rows n k x) := by
  unfold withholding_Due.f dur
  refine Ev.bind (tar_ev m t al cr u md rows) ?_
  by_cases h : B (VT m t al cr u md rows) = true
  · have hv := B_true.1 h
    simp only [if_pos h, total_eq, count_eq]
    have bad : ∀ b, b = true → ¬ ((1 ≤ n ∧ n ≤ 53) ∧ (1 ≤ k ∧ k ≤ n) ∧ (0 ≤ x ∧ x ≤ 1000000000000)) → Ev (fun j => withholding_Due.j0 j n k x b m t al cr u md rows) (if (1 ≤ n ∧ n ≤ 53) ∧ (1 ≤ k ∧ k ≤ n) ∧ (0 ≤ x ∧ x ≤ 1000000000000) then (dv t al cr u md n k x, 0) else (0, 2)) := by
      intro b hb hn
      rw [if_neg hn]
      exact Ev.step (fun k => by rw [withholding_Due.j0]) (ev_pos hb (ev_some rfl))
    refine ev_bindc rfl ?_
    by_cases hn : 1 ≤ n ∧ n ≤ 53
    case neg => exact ev_neg (by simpa using hn) (bad true rfl (fun h => hn h.1))
    refine ev_pos (by simpa using hn) ?_
    by_cases h1 : k < 1
    · exact ev_pos h1 (bad true rfl (by omega))
    refine ev_neg h1 ?_
    by_cases h2 : k > n
    · exact ev_pos h2 (bad true rfl (by omega))
    refine ev_neg h2 (ev_bindc rfl ?_)
    by_cases hx : 0 ≤ x ∧ x ≤ 1000000000000
    case neg => exact bad _ (by simp [decide_eq_false hx]) (fun h => hx h.2.2)
    have e : (!decide (0 ≤ x ∧ x ≤ 1000000000000)) = false := by simp [decide_eq_true hx]
    rw [e, if_pos ⟨hn, ⟨by omega, by omega⟩, hx⟩]
    refine Ev.step (fun k => by rw [withholding_Due.j0]) (ev_neg (by decide) (Ev.bind (scale_ev t k n) ?_))
    rw [scr_ok hv.vb (by omega) (by omega) hn.2]
    obtain ⟨p0, p1, p2, p3⟩ := part_bd hv.a0 hv.a1 (k := k) (n := n) (by omega) (by omega) hn.2
    obtain ⟨q0, q1, q2, q3⟩ := part_bd hv.c0 hv.c1 (k := k) (n := n) (by omega) (by omega) hn.2
    have e1 : wrap64 (al * k) = al * k := w64 (by omega) (by omega)
    have e2 : wrap64 (cr * k) = cr * k := w64 (by omega) (by omega)
    have e3 : wrap64 (Int.tdiv (al * k) n) = al * k / n := by rw [tdiv_pos p0]; exact w64 (by omega) (by omega)
    have e4 : wrap64 (Int.tdiv (cr * k) n) = cr * k / n := by rw [tdiv_pos q0]; exact w64 (by omega) (by omega)
    simp only [e1, e2, e3, e4]
    have hva := acc_valid hv.vb (num := k) (den := n) (by omega) (by omega) hn.1 hn.2
    exact ev_pos trivial (ev_neg (by omega) (Ev.bind (tax_ev' hva p2 p3 q2 q3 hx.1 hx.2 hv.u0 hv.u1 hv.d0 hv.d1 m t al cr rows) (ev_some rfl)))
  · simp only [if_neg h]; exact ev_some rfl
theorem dv_bd (hv : VT m t al cr u md rows) {n k x : Int} (h1 : 1 ≤ k) (h2 : k ≤ n) (h3 : n ≤ 53) (x0 : 0 ≤ x) (x1 : x ≤ 1000000000000) : 0 ≤ dv t al cr u md n k x ∧ dv t al cr u md n k x ≤ x + 100 := by
  obtain ⟨p0, p1, p2, p3⟩ := part_bd hv.a0 hv.a1 (k := k) (n := n) h1 h2 h3
  obtain ⟨q0, q1, q2, q3⟩ := part_bd hv.c0 hv.c1 (k := k) (n := n) h1 h2 h3
  exact txv_bd (acc_valid hv.vb (num := k) (den := n) (by omega) (by omega) (by omega) (by omega)) p2 x0 x1 q2 hv.u0 hv.u1
noncomputable def cur (n k x w : Int) : Int × Int := if B (VT m t al cr u md rows) = true then (if (1 ≤ n ∧ n ≤ 53) ∧ (1 ≤ k ∧ k ≤ n) ∧ (0 ≤ x ∧ x ≤ 1000000000000) ∧ (-1000000000000 ≤ w ∧ w ≤ 1000000000000) then (dv t al cr u md n k x - w, 0) else (0, 2)) else (0, 1)
theorem cum_ev (n k x w : Int) : Ev (fun j => withholding_Cumulative.f j m t al cr u md rows n k x w) (cur m t al cr u md rows n k x w) := by
  unfold withholding_Cumulative.f cur
  refine Ev.bind (tar_ev m t al cr u md rows) ?_
  by_cases h : B (VT m t al cr u md rows) = true
  · have hv := B_true.1 h
    simp only [if_pos h]
    by_cases h1 : w < -1000000000000
    · refine ev_pos h1 (Ev.step (fun k => by rw [withholding_Cumulative.j0]) (ev_pos rfl (ev_some ?_)))
      rw [if_neg (by omega)]
    refine ev_neg h1 ?_
    by_cases h2 : w > 1000000000000
    · refine Ev.step (fun k => by rw [withholding_Cumulative.j0]) (ev_pos (by simp [h2]) (ev_some ?_))
      rw [if_neg (by omega)]
    refine Ev.step (fun k => by rw [withholding_Cumulative.j0]) (ev_neg (by simp; omega) (Ev.bind (due_ev m t al cr u md rows n k x) ?_))
    by_cases hc : (1 ≤ n ∧ n ≤ 53) ∧ (1 ≤ k ∧ k ≤ n) ∧ (0 ≤ x ∧ x ≤ 1000000000000)
    · rw [dur_ok m t al cr u md rows hv hc, if_pos (show (1 ≤ n ∧ n ≤ 53) ∧ (1 ≤ k ∧ k ≤ n) ∧ (0 ≤ x ∧ x ≤ 1000000000000) ∧ (-1000000000000 ≤ w ∧ w ≤ 1000000000000) from ⟨hc.1, hc.2.1, hc.2.2, by omega, by omega⟩)]
      obtain ⟨g0, g1⟩ := dv_bd m t al cr u md rows hv hc.2.1.1 hc.2.1.2 hc.1.2 hc.2.2.1 hc.2.2.2
      refine ev_pos rfl (ev_some ?_)
      have e : wrap64 (dv t al cr u md n k x - w) = dv t al cr u md n k x - w := w64 (by omega) (by omega)
      simp only [e]
    · rw [dur_bad m t al cr u md rows hv hc, if_neg (show ¬ ((1 ≤ n ∧ n ≤ 53) ∧ (1 ≤ k ∧ k ≤ n) ∧ (0 ≤ x ∧ x ≤ 1000000000000) ∧ (-1000000000000 ≤ w ∧ w ≤ 1000000000000)) from fun h => hc ⟨h.1, h.2.1, h.2.2.1⟩)]
      exact ev_neg (by decide) (ev_some rfl)
  · simp only [if_neg h]; exact ev_some rfl
/-! ### Year -/
/-- The sum of the first i incomes. -/
def sm (xs : List Int) : Nat → Int
  | 0 => 0
  | i + 1 => sm xs i + xs.getD i 0
/-- What has been withheld after i periods. -/
noncomputable def dn (n : Int) (xs : List Int) : Nat → Int
  | 0 => 0
  | i + 1 => dv t al cr u md n ((i + 1 : Nat) : Int) (sm xs (i + 1))
noncomputable def yl (n : Int) (xs : List Int) : Nat → List Int
  | 0 => []
  | i + 1 => yl n xs i ++ [dn t al cr u md n xs (i + 1) - dn t al cr u md n xs i]
theorem yl_len (n : Int) (xs : List Int) : ∀ i, (yl t al cr u md n xs i).length = i
  | 0 => rfl
  | i + 1 => by simp [yl, yl_len n xs i]
def AllAm (xs : List Int) : Prop := ∀ i, i < xs.length → 0 ≤ xs.getD i 0 ∧ xs.getD i 0 ≤ 1000000000
theorem sm_bd {xs : List Int} (h : AllAm xs) : ∀ i, i ≤ xs.length → 0 ≤ sm xs i ∧ sm xs i ≤ 1000000000 * i
  | 0, _ => by simp [sm]
  | i + 1, hi => by
    have := sm_bd h i (by omega)
    have := h i (by omega)
    simp only [sm]; omega
noncomputable def yer (n : Int) (xs : List Int) : List Int × Int :=
  if B (VT m t al cr u md rows) = true then (if (1 ≤ n ∧ n ≤ 53) ∧ (xs.length : Int) ≤ n then (if B (AllAm xs) = true then (yl t al cr u md n xs xs.length, 0) else ([], 2)) else ([], 3)) else ([], 1)
theorem dn_bd (hv : VT m t al cr u md rows) {n : Int} {xs : List Int} (h1 : 1 ≤ n) (h2 : n ≤ 53) (h3 : (xs.length : Int) ≤ n) (h : AllAm xs) : ∀ i, i ≤ xs.length → 0 ≤ dn t al cr u md n xs i ∧ dn t al cr u md n xs i ≤ 60000000000
  | 0, _ => by simp [dn]
  | i + 1, hi => by
    obtain ⟨s0, s1⟩ := sm_bd h (i + 1) hi
    obtain ⟨g0, g1⟩ := dv_bd m t al cr u md rows hv (n := n) (k := ((i + 1 : Nat) : Int)) (x := sm xs (i + 1)) (by omega) (by omega) h2 s0 (by omega)
    simp only [dn]; omega
/-- One step of the year. -/
theorem cur_step (hv : VT m t al cr u md rows) {n : Int} {xs : List Int} (h1 : 1 ≤ n) (h2 : n ≤ 53) (h3 : (xs.length : Int) ≤ n) (h : AllAm xs) (i : Nat) (hi : i < xs.length) :
    cur m t al cr u md rows n ((i + 1 : Nat) : Int) (sm xs (i + 1)) (dn t al cr u md n xs i) = (dn t al cr u md n xs (i + 1) - dn t al cr u md n xs i, 0) := by
  obtain ⟨s0, s1⟩ := sm_bd h (i + 1) hi
  obtain ⟨d0, d1⟩ := dn_bd m t al cr u md rows hv h1 h2 h3 h i (by omega)
  unfold cur
  rw [if_pos (B_pos hv), if_pos ⟨⟨h1, h2⟩, ⟨by omega, by omega⟩, ⟨s0, by omega⟩, by omega, by omega⟩]
  rfl
theorem year_l1 (hv : VT m t al cr u md rows) {n : Int} {xs : List Int} (h1 : 1 ≤ n) (h2 : n ≤ 53) (h3 : (xs.length : Int) ≤ n) (h : AllAm xs) (d : Nat) : ∀ i, i + d = xs.length →
    Ev (fun k => withholding_Year.l1 k n (yl t al cr u md n xs i) (sm xs i) (dn t al cr u md n xs i) xs (xs.length : Int) (i : Int) m t al cr u md rows) (yl t al cr u md n xs xs.length, 0) := by
  induction d with
  | zero =>
    intro i hi
    obtain rfl : i = xs.length := by omega
    exact Ev.step (fun k => by rw [withholding_Year.l1]) (ev_neg (by omega) (ev_some rfl))
  | succ d ih =>
    intro i hi
    have ih := ih (i + 1) (by omega)
    have e1 : wrap64 ((i : Int) + 1) = ((i + 1 : Nat) : Int) := w64n (by omega) (by omega)
    obtain ⟨s0, s1⟩ := sm_bd h i (by omega)
    obtain ⟨s2, s3⟩ := sm_bd h (i + 1) (by omega)
    have e2 : wrap64 (sm xs i + rd xs (i : Int)) = sm xs (i + 1) := by
      have : sm xs i + rd xs (i : Int) = sm xs (i + 1) := rfl
      rw [this]; exact w64 (by omega) (by omega)
    obtain ⟨d0, d1⟩ := dn_bd m t al cr u md rows hv h1 h2 h3 h i (by omega)
    obtain ⟨d2, d3⟩ := dn_bd m t al cr u md rows hv h1 h2 h3 h (i + 1) (by omega)
    have e3 : wrap64 (dn t al cr u md n xs i + (dn t al cr u md n xs (i + 1) - dn t al cr u md n xs i)) = dn t al cr u md n xs (i + 1) := by rw [w64 (by omega) (by omega)]; omega
    refine Ev.step (fun k => by rw [withholding_Year.l1]) (ev_pos (by omega) (ev_pos (by omega) (ev_pos (by omega) ?_)))
    simp only [e1, e2]
    refine Ev.bind (cum_ev m t al cr u md rows n _ _ _) ?_
    rw [cur_step m t al cr u md rows hv h1 h2 h3 h i (by omega)]
    refine ev_pos rfl (ev_pos (by rw [yl_len]; omega) ?_)
    simp only [e3]
    exact ih
theorem year_l0 (hv : VT m t al cr u md rows) {n : Int} {xs : List Int} (h1 : 1 ≤ n) (h2 : n ≤ 53) (h3 : (xs.length : Int) ≤ n) (d : Nat) : ∀ i, i + d = xs.length → (∀ j, j < i → 0 ≤ xs.getD j 0 ∧ xs.getD j 0 ≤ 1000000000) →
    Ev (fun k => withholding_Year.l0 k n xs xs (xs.length : Int) (i : Int) m t al cr u md rows) (if B (AllAm xs) = true then (yl t al cr u md n xs xs.length, 0) else ([], 2)) := by
  induction d with
  | zero =>
    intro i hi hj
    have hA : AllAm xs := fun j hj' => hj j (by omega)
    rw [if_pos (B_pos hA)]
    refine Ev.step (fun k => by rw [withholding_Year.l0]) (ev_neg (by omega) ?_)
    exact year_l1 m t al cr u md rows hv h1 h2 h3 hA xs.length 0 (by omega)
  | succ d ih =>
    intro i hi hj
    have e1 : wrap64 ((i : Int) + 1) = ((i + 1 : Nat) : Int) := w64n (by omega) (by omega)
    refine Ev.step (fun k => by rw [withholding_Year.l0]) (ev_pos (by omega) (ev_pos (by omega) (ev_pos (by omega) ?_)))
    simp only [e1, amount_eq, rd_nat]
    refine ev_bindc rfl ?_
    by_cases hx : 0 ≤ xs.getD i 0 ∧ xs.getD i 0 ≤ 1000000000
    · refine ev_pos (by simpa using hx) (ih (i + 1) (by omega) (fun j hjj => ?_))
      rcases Nat.lt_or_ge j i with hlt | hge
      · exact hj j hlt
      · obtain rfl : j = i := by omega
        exact hx
    · refine ev_neg (by simpa using hx) (ev_some ?_)
      rw [if_neg (by rw [B_neg (fun h => hx (h i (by omega)))]; decide)]
theorem year_ev (n : Int) (xs : List Int) : Ev (fun k => withholding_Year.f k m t al cr u md rows n xs) (yer m t al cr u md rows n xs) := by
  unfold withholding_Year.f yer
  refine Ev.bind (tar_ev m t al cr u md rows) ?_
  by_cases h : B (VT m t al cr u md rows) = true
  · have hv := B_true.1 h
    simp only [if_pos h, count_eq]
    refine ev_bindc rfl ?_
    by_cases hn : 1 ≤ n ∧ n ≤ 53
    · refine ev_pos (by simpa using hn) ?_
      by_cases hl : (xs.length : Int) > n
      · rw [if_neg (by omega)]
        exact Ev.step (fun k => by rw [withholding_Year.j0]) (ev_pos (by simp; omega) (ev_some rfl))
      · rw [if_pos ⟨hn, by omega⟩]
        refine Ev.step (fun k => by rw [withholding_Year.j0]) (ev_neg (by simp; omega) ?_)
        exact year_l0 m t al cr u md rows hv hn.1 hn.2 (by omega) xs.length 0 (by omega) (fun j hj => by omega)
    · rw [if_neg (fun h => hn h.1)]
      exact ev_neg (by simpa using hn) (Ev.step (fun k => by rw [withholding_Year.j0]) (ev_pos rfl (ev_some rfl)))
  · simp only [if_neg h]; exact ev_some rfl
end
end Go.Proofs.Ytbacfajhgmnjpaa.WhB
