/- WithholdingEven: for all numbers the law answers true (for equal incomes, a tariff without a credit and an allowance that is a multiple of the periods, the cumulative method withholds the same in each period). -/
import Derived.Test.YtbacfajhgmnjpaaWhY
import Derived.Test.YtbacfajhgmnjpaaFpayrolllaw30WithholdingEven
namespace Go.Proofs.Ytbacfajhgmnjpaa.Pure
open Go.RowKit Go.Proofs.YtbacfajhgmnjpaaW.PrintWords Go.Proofs.Ytbacfajhgmnjpaa.P Go.Proofs.Ytbacfajhgmnjpaa.K Go.Proofs.Ytbacfajhgmnjpaa.BrkA Go.Proofs.Ytbacfajhgmnjpaa.BrkT Go.Proofs.Ytbacfajhgmnjpaa.BrkS Go.Proofs.Ytbacfajhgmnjpaa.WhA Go.Proofs.Ytbacfajhgmnjpaa.WhB Go.Proofs.Ytbacfajhgmnjpaa.WhG Go.Proofs.Ytbacfajhgmnjpaa.WhY
theorem even_mod (x : Int) {n : Int} (hn : 0 < n) (hn1 : n ≤ 9223372036854775807) : ∃ v, paygen_Mod.f x n = some v ∧ 0 ≤ v ∧ v < n := by
  unfold paygen_Mod.f
  have hb := Deck.tmod_bd x hn
  rw [if_neg (by omega)]
  by_cases h : Int.tmod x n < 0
  · rw [if_pos h, w64 (by omega) (by omega)]
    exact ⟨_, rfl, by omega, by omega⟩
  · rw [if_neg h]
    exact ⟨_, rfl, by omega, by omega⟩
theorem yl_even (t : List S58) (al cr u md n : Int) (xs : List Int) (j : Nat) : ∀ i, j < i → (yl t al cr u md n xs i).getD j 0 = dn t al cr u md n xs (j + 1) - dn t al cr u md n xs j
  | 0, h => by omega
  | i + 1, h => by
    simp only [yl]
    rw [List.getD_eq_getElem?_getD]
    rcases Nat.lt_or_ge j i with hlt | hge
    · rw [List.getElem?_append_left (by rw [yl_len]; exact hlt), ← List.getD_eq_getElem?_getD]
      exact yl_even t al cr u md n xs j i hlt
    · obtain rfl : j = i := by omega
      rw [List.getElem?_append_right (by rw [yl_len]; omega), yl_len]
      simp
/-- The schedule of one bracket. -/
abbrev one (r : Int) : List S58 := [⟨0, r⟩]
theorem one_VB {r : Int} (h0 : 0 ≤ r) (h1 : r ≤ 1000000) : VB (one r) := by
  refine ⟨by simp, by simp, rfl, fun i hi => ?_⟩
  obtain rfl : i = 0 := by simpa using hi
  exact ⟨fun h => absurd h (by omega), by show (0 : Int) ≤ _; omega, h0, h1⟩
theorem one_exa (r x : Int) : exa (one r) x = r * max x 0 := by
  simp [exa, Brk.exact, Brk.sum, Brk.part]
  show r * max (x - 0) 0 = r * max x 0
  rw [Int.sub_zero]
theorem one_acc (r k n : Int) : acc (one r) k n 1 = one r := by
  simp [acc, one]
  refine ⟨?_, rfl⟩
  show 0 * k / n = 0
  rw [Int.zero_mul, Int.zero_ediv]
/-- Equal incomes. -/
theorem sm_same (N : Int) (n : Nat) : ∀ i, i ≤ n → sm (List.replicate n N) i = i * N
  | 0, _ => by simp [sm]
  | i + 1, hi => by
    have e : (List.replicate n N).getD i 0 = N := by rw [List.getD_eq_getElem?_getD, List.getElem?_replicate_of_lt (by omega)]; rfl
    rw [sm, sm_same N n i (by omega), e, Int.natCast_add, Int.add_mul]; simp
theorem rnd_whole (q : Int) : rnd (1000000 * q) 1 0 = q := by
  have e1 : (1000000 * q) / (1 * 1000000) = q := by omega
  have e2 : (1000000 * q) % (1 * 1000000) = 0 := by omega
  unfold rnd
  rw [e1, e2]
  simp [upP]
theorem even_dv {v0 v1 v2 : Int} (k : Nat) (h0 : 0 ≤ v0) (h1 : 0 ≤ v1) (h2 : 0 ≤ v2) : dv (one (10000 * v2)) (1200 * v1) 0 1 0 12 (k : Int) ((k : Int) * (100 * v0)) = k * (v2 * max (v0 - v1) 0) := by
  have ea : 1200 * v1 * (k : Int) / 12 = (k : Int) * (100 * v1) := by
    have : 1200 * v1 * (k : Int) = ((k : Int) * (100 * v1)) * 12 := by
      rw [show (1200 : Int) * v1 = 100 * v1 * 12 by omega, Int.mul_comm ((k : Int)), Int.mul_assoc (100 * v1) 12, Int.mul_assoc (100 * v1), Int.mul_comm 12]
    rw [this, Int.mul_ediv_cancel _ (by omega)]
  have em : max ((k : Int) * (100 * v0) - (k : Int) * (100 * v1)) 0 = (k : Int) * (100 * max (v0 - v1) 0) := by
    rw [← Int.mul_sub]
    rcases Int.le_total v1 v0 with h | h
    · rw [Int.max_eq_left (by exact Int.mul_nonneg (by omega) (by omega)), Int.max_eq_left (by omega)]; congr 1; omega
    · rw [Int.max_eq_right (by exact Int.mul_nonpos_of_nonneg_of_nonpos (by omega) (by omega)), Int.max_eq_right (by omega)]; simp
  have hm : 0 ≤ v2 * max (v0 - v1) 0 := Int.mul_nonneg h2 (by omega)
  have hk : 0 ≤ (k : Int) * (v2 * max (v0 - v1) 0) := Int.mul_nonneg (by omega) hm
  have hp : 0 ≤ (k : Int) * (100 * max (v0 - v1) 0) := Int.mul_nonneg (by omega) (by omega)
  unfold dv txv
  show max (rnd (exa (acc (one (10000 * v2)) k 12 1) (max ((k : Int) * (100 * v0) - 1200 * v1 * (k : Int) / 12) 0)) 1 0 - 0 * (k : Int) / 12) 0 = _
  rw [one_acc, one_exa, ea, em, Int.max_eq_left hp]
  have e : 10000 * v2 * ((k : Int) * (100 * max (v0 - v1) 0)) = 1000000 * ((k : Int) * (v2 * max (v0 - v1) 0)) := by
    obtain ⟨m, hm⟩ : ∃ m, m = max (v0 - v1) 0 := ⟨_, rfl⟩
    rw [← hm]
    rw [show (1000000 : Int) = 10000 * 100 from rfl, Int.mul_assoc 10000 v2, Int.mul_assoc 10000 100]
    congr 1
    rw [Int.mul_left_comm v2 (k : Int), Int.mul_left_comm 100 (k : Int)]
    congr 1
    rw [Int.mul_left_comm]
  rw [e, rnd_whole]
  simp only [Int.zero_mul, Int.zero_ediv, Int.sub_zero]
  exact Int.max_eq_left hk
theorem even_l1 (a : List Int) (q : Int) (hl : a.length = 12) (h : ∀ i, i < 12 → a.getD i 0 = q) (d : Nat) : ∀ i, i + d = 12 →
    Ev (fun k => payrolllaw30_WithholdingEven.l1 k a (i : Int)) true := by
  induction d with
  | zero =>
    intro i hi
    exact Ev.step (fun k => by rw [payrolllaw30_WithholdingEven.l1]) (ev_neg (by omega) (Ev.bind awake_ev (ev_some rfl)))
  | succ d ih =>
    intro i hi
    have ih := ih (i + 1) (by omega)
    have e1 : wrap64 ((i : Int) + 1) = ((i + 1 : Nat) : Int) := w64n (by omega) (by omega)
    refine Ev.step (fun k => by rw [payrolllaw30_WithholdingEven.l1]) ?_
    refine ev_pos (by omega) (ev_pos (by omega) (ev_pos (by omega) (ev_pos (by omega) (ev_pos ?_ ?_))))
    · show rd a ((i : Nat) : Int) = rd a ((0 : Nat) : Int)
      rw [rd_nat, rd_nat, h i (by omega), h 0 (by omega)]
    · rw [e1]; exact ih
theorem even_l0 {v0 v1 v2 : Int} (h0 : 0 ≤ v0) (g0 : v0 < 10000) (h1 : 0 ≤ v1) (g1 : v1 < 1000) (h2 : 0 ≤ v2) (g2 : v2 < 101) (d : Nat) : ∀ i, i + d = 12 →
    Ev (fun k => payrolllaw30_WithholdingEven.l0 k (100 * v0) (List.replicate i (100 * v0)) (i : Int) 3 (one (10000 * v2)) (1200 * v1) 0 1 0 []) true := by
  induction d with
  | zero =>
    intro i hi
    obtain rfl : i = 12 := by omega
    have hv : VT 3 (one (10000 * v2)) (1200 * v1) 0 1 0 [] := ⟨by omega, by omega, fun h => absurd h (by decide), fun _ => rfl, one_VB (by omega) (by omega), by omega, by omega, by omega, by omega, by omega, by omega, by omega, by omega⟩
    have hA : AllAm (List.replicate 12 (100 * v0)) := by
      intro i hi
      rw [List.length_replicate] at hi
      rw [List.getD_eq_getElem?_getD, List.getElem?_replicate_of_lt hi]
      show 0 ≤ 100 * v0 ∧ 100 * v0 ≤ _
      omega
    have hy : yer 3 (one (10000 * v2)) (1200 * v1) 0 1 0 [] 12 (List.replicate 12 (100 * v0)) = (yl (one (10000 * v2)) (1200 * v1) 0 1 0 12 (List.replicate 12 (100 * v0)) 12, 0) := by
      unfold yer
      rw [if_pos (B_pos hv), if_pos ⟨by omega, by simp⟩, if_pos (B_pos hA)]
      simp
    have hdn : ∀ i, i ≤ 12 → dn (one (10000 * v2)) (1200 * v1) 0 1 0 12 (List.replicate 12 (100 * v0)) i = i * (v2 * max (v0 - v1) 0) := by
      intro i hi
      cases i with
      | zero => simp [dn]
      | succ i => rw [dn, sm_same _ 12 _ hi, even_dv _ h0 h1 h2]
    refine Ev.step (fun k => by rw [payrolllaw30_WithholdingEven.l0]) (ev_neg (by omega) (Ev.bind (year_ev _ _ _ _ _ _ _ _ _) ?_))
    rw [hy]
    refine ev_pos rfl ?_
    have e : (((yl (one (10000 * v2)) (1200 * v1) 0 1 0 12 (List.replicate 12 (100 * v0)) 12).length : Int) != 12) = false := by
      rw [yl_len]; rfl
    simp only [e]
    refine Ev.step (fun k => by rw [payrolllaw30_WithholdingEven.j1]) (ev_neg (by decide) ?_)
    refine even_l1 _ (v2 * max (v0 - v1) 0) (yl_len _ _ _ _ _ _ _ _) (fun i hi => ?_) 12 0 (by omega)
    rw [yl_even _ _ _ _ _ _ _ i 12 hi, hdn (i + 1) (by omega), hdn i (by omega), Int.natCast_add, Int.add_mul]
    omega
  | succ d ih =>
    intro i hi
    have ih := ih (i + 1) (by omega)
    have e1 : wrap64 ((i : Int) + 1) = ((i + 1 : Nat) : Int) := w64n (by omega) (by omega)
    refine Ev.step (fun k => by rw [payrolllaw30_WithholdingEven.l0]) (ev_pos (by omega) (ev_pos (by simp; omega) ?_))
    rw [e1, ← List.replicate_succ']
    exact ih
theorem WithholdingEven : payrolllaw30_WithholdingEven.Pure := by
  intro a0 a1 a2 _ _ _
  obtain ⟨v0, p0, h0, g0⟩ := even_mod a0 (n := 10000) (by omega) (by omega)
  obtain ⟨v1, p1, h1, g1⟩ := even_mod a1 (n := 1000) (by omega) (by omega)
  obtain ⟨v2, p2, h2, g2⟩ := even_mod a2 (n := 101) (by omega) (by omega)
  apply Ev.rounds
  unfold payrolllaw30_WithholdingEven.f
  refine ev_bindc (a := ((3, (([(⟨0, 200000⟩ : S58)] : List (S58))), 1200, 0, 1, 0, ([] : List (S80))) : Int × (List (S58)) × Int × Int × Int × Int × (List (S80)))) rfl (ev_bindc p0 (ev_bindc p1 (ev_bindc p2 ?_)))
  rw [w64 (x := 100 * v0) (by omega) (by omega), w64 (x := 10000 * v2) (by omega) (by omega), w64 (x := 1200 * v1) (by omega) (by omega)]
  exact even_l0 h0 g0 h1 g1 h2 g2 12 0 (by omega)
end Go.Proofs.Ytbacfajhgmnjpaa.Pure
