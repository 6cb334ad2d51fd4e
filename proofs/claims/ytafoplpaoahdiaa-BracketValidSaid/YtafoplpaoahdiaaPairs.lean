/- Plain lemmas for the laws of this seat: what its functions answer; no condition beyond those that each lemma states. -/
import Derived.Deep.Slices
import Derived.ChangeSame
import Derived.Test.YtafoplpaoahdiaaV1
namespace Go.Proofs.Ytafoplpaoahdiaa.Pairs
open Go Go.ChangeShapes Go.WideShapes Go.Deep Go.RowKit
/-! A slice of structs of two whole numbers, read as data: its cells. -/
section
variable {H : Type} {enc : TypeId × Value → H} {P : Program} {w : World} {base : Nat} {spare : Nat → Bool} {held : Bool}
theorem open_pairs0 {t e : TypeId} {f0 f1 : Field} {A : Option Addr} {len cap fuel : Nat} {x : DataW H × List MemPlace} (ht : P.underlying t = some (.slice e)) (he : P.underlying e = some (.struct #[f0, f1]))
    (h0 : P.underlying f0.type = some (.int .i64)) (h1 : P.underlying f1.type = some (.int .i64)) (o0 : f0.offset = 0) (o1 : f1.offset = 1) (c0 : P.cellsOf f0.type = 1) (c1 : P.cellsOf f1.type = 1) (hC : P.cellsOf e = 2)
    (h : DataW.trod enc P w base spare held fuel t (Value.slice A len cap).cells.toList = some x) :
    len ≤ cap ∧ len ≤ 9223372036854775807 ∧ ∃ g : Nat → Int × Int, (0 < len → ∃ a, A = some a ∧ ∀ i, i < len → w.cell? (a.add (i * 2)) = some (.int .i64 (g i).1) ∧ w.cell? (a.add (i * 2 + 1)) = some (.int .i64 (g i).2)) := by
  rcases open_slice ht h with ⟨hcs, _⟩ | ⟨a, l, c, m, n, D, Pl, hcs, _, hl, hm, hmm, _, hi⟩
  · simp [Value.cells] at hcs
    obtain ⟨rfl, rfl, rfl⟩ := hcs
    exact ⟨Nat.le_refl _, by omega, fun _ => (0, 0), fun h => by omega⟩
  · simp [Value.cells] at hcs
    obtain ⟨rfl, rfl, rfl⟩ := hcs
    unfold maxLen at hm
    have each : ∀ i, i < len → ∃ p : Int × Int, w.cell? (a.add (i * 2)) = some (.int .i64 p.1) ∧ w.cell? (a.add (i * 2 + 1)) = some (.int .i64 p.2) := by
      intro i hil
      obtain ⟨cs', hc, ht'⟩ := hi i (by rw [hmm]; split <;> omega)
      obtain ⟨_, hcl, hat⟩ := World.cells?_some hc
      rw [hC] at hcl hat
      obtain ⟨y0, y1, k, _, _, g0, g1⟩ := trod_struct2 he ht'
      rw [o0, c0] at g0
      rw [o1, c1] at g1
      match cs', hcl with
      | [u, v], _ =>
        obtain ⟨p0, e0, _, _⟩ := DataW.trod_int h0 g0
        obtain ⟨p1, e1, _, _⟩ := DataW.trod_int h1 g1
        simp at e0 e1
        subst e0
        subst e1
        have q0 := hat 0 (by omega)
        have q1 := hat 1 (by omega)
        refine ⟨(p0, p1), ?_, ?_⟩
        · rw [add_add] at q0; simpa using q0
        · rw [add_add] at q1; simpa using q1
    refine ⟨hl, by omega, fun i => if h : i < len then Classical.choose (each i h) else (0, 0), fun _ => ⟨a, rfl, fun i hil => ?_⟩⟩
    simp only [dif_pos hil]
    exact Classical.choose_spec (each i hil)
theorem open_pairs {t e : TypeId} {f0 f1 : Field} {A : Option Addr} {len cap fuel : Nat} {x : DataW H × List MemPlace} (ht : P.underlying t = some (.slice e)) (he : P.underlying e = some (.struct #[f0, f1]))
    (h0 : P.underlying f0.type = some (.int .i64)) (h1 : P.underlying f1.type = some (.int .i64)) (o0 : f0.offset = 0) (o1 : f1.offset = 1) (c0 : P.cellsOf f0.type = 1) (c1 : P.cellsOf f1.type = 1) (hC : P.cellsOf e = 2)
    (h : DataW.trod enc P w base spare held fuel t (Value.slice A len cap).cells.toList = some x) :
    len ≤ cap ∧ len ≤ 9223372036854775807 ∧ ∃ g : Nat → Int × Int, (0 < len → ∃ a, A = some a ∧ ∀ i, i < len → w.cell? (a.add (i * 2)) = some (.int .i64 (g i).1) ∧ w.cell? (a.add (i * 2 + 1)) = some (.int .i64 (g i).2)) :=
  open_pairs0 ht he h0 h1 o0 o1 c0 c1 hC h
/-- The form of a cell that reads as a slice. -/
theorem slice_cell {t e : TypeId} {v : Value} {fuel : Nat} {x : DataW H × List MemPlace} (ht : P.underlying t = some (.slice e)) (h : DataW.trod enc P w base spare held fuel t [v] = some x) :
    ∃ A len cap, v = .slice A len cap := by
  rcases open_slice ht h with ⟨hcs, _⟩ | ⟨a, l, c, m, n, D, Pl, hcs, _⟩
  · simp at hcs; exact ⟨_, _, _, hcs⟩
  · simp at hcs; exact ⟨_, _, _, hcs⟩
end
end Go.Proofs.Ytafoplpaoahdiaa.Pairs
