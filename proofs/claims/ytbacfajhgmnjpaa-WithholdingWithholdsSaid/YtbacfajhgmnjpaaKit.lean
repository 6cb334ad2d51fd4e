/- Plain lemmas for the laws of this seat: what its functions answer; no condition beyond those that each lemma states. -/
import Derived.Test.YtbacfajhgmnjpaaV1
namespace Go.Proofs.Ytbacfajhgmnjpaa.K
open Go.RowKit Go.Proofs.YtbacfajhgmnjpaaW.PrintWords
/-! Small words for plain proofs over printed functions: 'from some number of rounds on'. -/
theorem w64 {x : Int} (h0 : -9223372036854775808 ≤ x) (h1 : x ≤ 9223372036854775807) : wrap64 x = x := by unfold wrap64; omega
theorem w64n {x : Int} {n : Nat} (h : x = n) (h1 : x ≤ 9223372036854775807) : wrap64 x = n := by rw [w64 (by omega) h1, h]
section
variable {α β : Type} {r : α}
theorem ev_pos {c : Prop} [Decidable c] {g f : Nat → Option α} (h : c) (e : Ev g r) : Ev (fun k => if c then g k else f k) r := by
  simp only [if_pos h]; exact e
theorem ev_neg {c : Prop} [Decidable c] {g f : Nat → Option α} (h : ¬ c) (e : Ev f r) : Ev (fun k => if c then g k else f k) r := by
  simp only [if_neg h]; exact e
theorem ev_bindc {g : Option β} {f : Nat → β → Option α} {a : β} (h : g = some a) (e : Ev (fun n => f n a) r) : Ev (fun n => g.bind (f n)) r := by
  subst h; simpa using e
theorem ev_some {a : α} (h : a = r) : Ev (fun _ => some a) r := by rw [h]; exact Ev.now r
theorem ev_to {g : Nat → Option α} {a : α} (e : Ev g a) (h : a = r) : Ev g r := by rw [← h]; exact e
theorem ev_uniq {g : Nat → Option α} {a b : α} (h : Ev g a) (h' : Ev g b) : a = b := by
  obtain ⟨K, h⟩ := h
  obtain ⟨K', h'⟩ := h'
  have h1 := h (max K K') (by omega)
  have h2 := h' (max K K') (by omega)
  rw [h1] at h2
  exact Option.some.inj h2
end
theorem wf64 {n : Int} (h : (Lit.int .i64 n).wf = true) : -9223372036854775808 ≤ n ∧ n ≤ 9223372036854775807 := by
  simp only [Lit.wf, Bool.and_eq_true, decide_eq_true_eq] at h
  have e1 : IntKind.i64.min = -9223372036854775808 := by decide
  have e2 : IntKind.i64.max = 9223372036854775807 := by decide
  omega
theorem rd_nat (xs : List Int) (i : Nat) : rd xs (i : Int) = xs.getD i 0 := rfl
theorem mx_eq (a b : Int) : mx a b = max a b := by unfold mx; omega
theorem mn_eq (a b : Int) : mn a b = min a b := by unfold mn; omega
theorem tmod_pos {a b : Int} (ha : 0 ≤ a) : Int.tmod a b = a % b := Int.tmod_eq_emod_of_nonneg ha
theorem tdiv_pos {a b : Int} (ha : 0 ≤ a) : Int.tdiv a b = a / b := Int.tdiv_eq_ediv_of_nonneg ha
end Go.Proofs.Ytbacfajhgmnjpaa.K
