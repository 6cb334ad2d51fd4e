/- Plain lemmas for the laws of this seat: what its functions answer; no condition beyond those that each lemma states. -/
import Derived.Test.YtopigdnffnondaaKit
import Derived.Test.YtopigdnffnondaaFpayrollgenTapePick
namespace Go.Proofs.Ytopigdnffnondaa.Tape
open Go.RowKit Go.Proofs.YtopigdnffnondaaW.PrintWords Go.Proofs.Ytopigdnffnondaa.P Go.Proofs.Ytopigdnffnondaa.K
/-! payrollgen: choices from a tape stay in their range. -/
theorem tmod_bd (x : Int) {n : Int} (hn : 0 < n) : -n < Int.tmod x n ∧ Int.tmod x n < n := by
  rcases Int.le_total 0 x with h | h
  · rw [Int.tmod_eq_emod_of_nonneg h]
    have := Int.emod_nonneg x (show n ≠ 0 by omega)
    have := Int.emod_lt_of_pos x hn
    omega
  · obtain ⟨y, rfl⟩ : ∃ y, x = -y := ⟨-x, by omega⟩
    rw [Int.neg_tmod, Int.tmod_eq_emod_of_nonneg (by omega)]
    have := Int.emod_nonneg y (show n ≠ 0 by omega)
    have := Int.emod_lt_of_pos y hn
    omega
theorem mod (x : Int) {n : Int} (hn : 0 < n) (hn1 : n ≤ 9223372036854775807) : ∃ v, payrollgen_Mod.f x n = some v ∧ 0 ≤ v ∧ v < n := by
  unfold payrollgen_Mod.f
  have hb := tmod_bd x hn
  rw [if_neg (by omega)]
  by_cases h : Int.tmod x n < 0
  · rw [if_pos h, w64 (by omega) (by omega)]
    exact ⟨_, rfl, by omega, by omega⟩
  · rw [if_neg h]
    exact ⟨_, rfl, by omega, by omega⟩
/-- A tape: its place lies in it, and it is no longer than memory allows. -/
structure Tp (l : List Int) (a : Int) : Prop where
  h0 : 0 ≤ a
  h1 : a ≤ l.length
  hl : l.length ≤ 17592186044416
theorem tp_new {l : List Int} (h : l.length * 8 ≤ 140737488351232) : Tp l 0 := ⟨by omega, by omega, by omega⟩
theorem next {l : List Int} {a : Int} (hT : Tp l a) {n : Int} (hn : 1 ≤ n) (hn1 : n ≤ 9223372036854775807) :
    ∃ v a', payrollgen_Tape_Next.f l a n = some (v, a') ∧ 0 ≤ v ∧ v < n ∧ Tp l a' := by
  obtain ⟨h0, h1, hl⟩ := hT
  unfold payrollgen_Tape_Next.f
  rw [if_neg (by omega)]
  by_cases h : a ≥ (l.length : Int)
  · rw [if_pos h]
    exact ⟨0, a, rfl, by omega, by omega, ⟨h0, h1, hl⟩⟩
  · have e1 : wrap64 (a + 1) = a + 1 := w64 (by omega) (by omega)
    have e2 : wrap64 (a + 1 - 1) = a := by rw [w64 (by omega) (by omega)]; omega
    rw [if_neg h, e1, e2, if_pos h0, if_pos (by omega)]
    obtain ⟨v, hv, v0, v1⟩ := mod (rd l a) (n := n) (by omega) hn1
    rw [hv]
    exact ⟨v, a + 1, rfl, v0, v1, ⟨by omega, by omega, hl⟩⟩
theorem pick {l : List Int} {a : Int} (hT : Tp l a) (xs : List Int) (hx : 0 < xs.length) (hx1 : xs.length ≤ 1000) :
    ∃ v a', payrollgen_Tape_Pick.f l a xs = some (v, a') ∧ v ∈ xs ∧ Tp l a' := by
  obtain ⟨v, a', hv, v0, v1, hT'⟩ := next hT (n := (xs.length : Int)) (by omega) (by omega)
  unfold payrollgen_Tape_Pick.f
  rw [hv]
  simp only [Option.bind_some]
  rw [if_pos v0, if_pos v1]
  refine ⟨_, a', rfl, ?_, hT'⟩
  unfold rd
  have hlt : v.toNat < xs.length := by omega
  simp [List.getD_eq_getElem?_getD, hlt]
end Go.Proofs.Ytopigdnffnondaa.Tape
