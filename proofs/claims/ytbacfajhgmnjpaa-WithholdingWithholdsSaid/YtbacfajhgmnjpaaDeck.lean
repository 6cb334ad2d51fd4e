/- Plain lemmas for the laws of this seat: what its functions answer; no condition beyond those that each lemma states. -/
import Derived.Test.YtbacfajhgmnjpaaKit
import Derived.Test.YtbacfajhgmnjpaaFpaygen
namespace Go.Proofs.Ytbacfajhgmnjpaa.Deck
open Go.RowKit Go.Proofs.YtbacfajhgmnjpaaW.PrintWords Go.Proofs.Ytbacfajhgmnjpaa.P Go.Proofs.Ytbacfajhgmnjpaa.K
/-! paygen: draws from a deck stay in their range, and the place goes on by one. -/
theorem tmod_bd (x : Int) {n : Int} (hn : 0 < n) : -n < Int.tmod x n ∧ Int.tmod x n < n := by
  rcases Int.le_total 0 x with h | h
  · rw [Int.tmod_eq_emod_of_nonneg h]
    have := Int.emod_nonneg x (show n ≠ 0 by omega)
    have := Int.emod_lt_of_pos x hn
    omega
  · obtain ⟨y, rfl⟩ : ∃ y, x = -y := ⟨-x, by omega⟩
    rw [Int.neg_tmod, Int.tmod_eq_emod_of_nonneg (by omega)]
    have := Int.emod_nonneg y (show n ≠ 0 by omega)
    have := Int.emod_lt_of_pos y hn
    omega
theorem next (l : List Int) {a n : Int} (hn : 0 < n) (hn1 : n ≤ 9223372036854775807) (h0 : 0 ≤ a) (h1 : a ≤ 1000000000) :
    ∃ v, paygen_Deck_Next.f l a n = some (v, a + 1) ∧ 0 ≤ v ∧ v < n := by
  unfold paygen_Deck_Next.f
  have e1 : wrap64 (a + 1) = a + 1 := w64 (by omega) (by omega)
  rw [e1]
  by_cases h : a < (l.length : Int)
  · rw [if_pos h, if_pos h0, if_neg (by omega)]
    have hb := tmod_bd (rd l a) hn
    by_cases h2 : Int.tmod (rd l a) n < 0
    · rw [if_pos h2, w64 (by omega) (by omega)]
      exact ⟨_, rfl, by omega, by omega⟩
    · rw [if_neg h2]
      exact ⟨_, rfl, by omega, by omega⟩
  · rw [if_neg h, if_neg (by omega)]
    have hb := tmod_bd (wrap64 ((wrap64 (5 * a)) + 2)) hn
    by_cases h2 : Int.tmod (wrap64 ((wrap64 (5 * a)) + 2)) n < 0
    · rw [if_pos h2, w64 (by omega) (by omega)]
      exact ⟨_, rfl, by omega, by omega⟩
    · rw [if_neg h2]
      exact ⟨_, rfl, by omega, by omega⟩
/-- One of a list. -/
theorem pick (l : List Int) {a : Int} (xs : List Int) (hx : 0 < xs.length) (hx1 : xs.length ≤ 1000) (h0 : 0 ≤ a) (h1 : a ≤ 1000000000) :
    ∃ v, paygen_Deck_Pick.f l a xs = some (v, a + 1) ∧ v ∈ xs := by
  obtain ⟨v, hv, hv0, hv1⟩ := next l (a := a) (n := (xs.length : Int)) (by omega) (by omega) h0 h1
  unfold paygen_Deck_Pick.f
  rw [hv]
  simp only [Option.bind_some]
  rw [if_pos hv0, if_pos hv1]
  refine ⟨_, rfl, ?_⟩
  unfold rd
  have hlt : v.toNat < xs.length := by omega
  simp [List.getD_eq_getElem?_getD, hlt]
end Go.Proofs.Ytbacfajhgmnjpaa.Deck
