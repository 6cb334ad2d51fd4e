/- Plain lemmas for the laws of this seat: what its functions answer; no condition beyond those that each lemma states. -/
import Derived.Test.YtbacfajhgmnjpaaWhB
namespace Go.Proofs.Ytbacfajhgmnjpaa.WhM
open Go.RowKit Go.Proofs.YtbacfajhgmnjpaaW.PrintWords Go.Proofs.Ytbacfajhgmnjpaa.P Go.Proofs.Ytbacfajhgmnjpaa.K Go.Proofs.Ytbacfajhgmnjpaa.BrkA Go.Proofs.Ytbacfajhgmnjpaa.BrkS Go.Proofs.Ytbacfajhgmnjpaa.BrkT Go.Proofs.Ytbacfajhgmnjpaa.WhA Go.Proofs.Ytbacfajhgmnjpaa.WhB
/-! A greater income never has a lesser tax. -/
theorem rnd_mono {n n' u : Int} (m : Int) (n0 : 0 ≤ n) (h : n ≤ n') (n1 : n' ≤ 1000000000000000000) (u0 : 1 ≤ u) (u1 : u ≤ 1000000) : rnd n u m ≤ rnd n' u m := by
  obtain ⟨g1, g2, g3, g4, g5, g6, g7⟩ := facts n0 (by omega : n ≤ 1000000000000000000) u0 u1
  obtain ⟨k1, k2, k3, k4, k5, k6, k7⟩ := facts (by omega : 0 ≤ n') n1 u0 u1
  have hq : n / (u * 1000000) ≤ n' / (u * 1000000) := Int.ediv_le_ediv (by omega) h
  unfold rnd
  obtain ⟨q, hq0⟩ : ∃ q, q = n / (u * 1000000) := ⟨_, rfl⟩
  obtain ⟨q', hq1⟩ : ∃ q, q = n' / (u * 1000000) := ⟨_, rfl⟩
  obtain ⟨r, hr0⟩ : ∃ q, q = n % (u * 1000000) := ⟨_, rfl⟩
  obtain ⟨r', hr1⟩ : ∃ q, q = n' % (u * 1000000) := ⟨_, rfl⟩
  rw [← hq0, ← hq1, ← hr0, ← hr1]
  rw [← hq0, ← hq1] at hq
  rw [← hq0, ← hr0] at g7
  rw [← hq1, ← hr1] at k7
  have e : ∀ z : Int, (z + 1) * u = z * u + u := fun z => by rw [Int.add_mul, Int.one_mul]
  rcases Int.lt_or_eq_of_le hq with hlt | heq
  · have h1 : (q + 1) * u ≤ q' * u := Int.mul_le_mul_of_nonneg_right (by omega) (by omega)
    rw [e] at h1
    split <;> split <;> (try rw [e]) <;> (try rw [e]) <;> omega
  · have hrr : r ≤ r' := by rw [← heq] at k7; omega
    have hup : upP m q r (u * 1000000) → upP m q' r' (u * 1000000) := by
      rw [← heq]; unfold upP; omega
    rw [← heq]
    rw [← heq] at hup
    by_cases a : upP m q r (u * 1000000)
    · rw [if_pos a, if_pos (hup a)]; omega
    · rw [if_neg a]
      split
      · rw [e]; omega
      · omega
theorem txv_mono {s : List S58} (hv : VB s) {al cr u md x x' : Int} (a0 : 0 ≤ al) (x0 : 0 ≤ x) (h : x ≤ x') (x1 : x' ≤ 1000000000000) (u0 : 1 ≤ u) (u1 : u ≤ 100) : txv s al cr u md x ≤ txv s al cr u md x' := by
  have hy : 0 ≤ max (x - al) 0 ∧ max (x - al) 0 ≤ max (x' - al) 0 ∧ max (x' - al) 0 ≤ x' := by omega
  obtain ⟨b0, b1⟩ := exa_bd hv hy.1 (by omega)
  obtain ⟨c0, c1⟩ := exa_bd hv (x := max (x' - al) 0) (by omega) (by omega)
  have hg : exa s (max (x - al) 0) ≤ exa s (max (x' - al) 0) := (Brk.exact_grows hv.ok hy.1 hy.2.1).1
  have := rnd_mono md b0 hg c1 u0 (by omega : u ≤ 1000000)
  unfold txv
  omega
theorem dv_mono {m : Int} {t : List S58} {al cr u md : Int} {rows : List S80} (hv : VT m t al cr u md rows) {n k x x' : Int} (h1 : 1 ≤ k) (h2 : k ≤ n) (h3 : n ≤ 53) (x0 : 0 ≤ x) (h : x ≤ x') (x1 : x' ≤ 1000000000000) :
    dv t al cr u md n k x ≤ dv t al cr u md n k x' := by
  obtain ⟨p0, p1, p2, p3⟩ := part_bd hv.a0 hv.a1 (k := k) (n := n) h1 h2 h3
  exact txv_mono (acc_valid hv.vb (num := k) (den := n) (by omega) (by omega) (by omega) (by omega)) p2 x0 h x1 hv.u0 hv.u1
end Go.Proofs.Ytbacfajhgmnjpaa.WhM
