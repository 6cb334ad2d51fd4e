/- Plain lemmas for the laws of this seat: what its functions answer; no condition beyond those that each lemma states. -/
import Derived.Test.YtbacfajhgmnjpaaWhG
import Derived.Test.YtbacfajhgmnjpaaFpaygenDeckBases
namespace Go.Proofs.Ytbacfajhgmnjpaa.WhY
open Go.RowKit Go.Proofs.YtbacfajhgmnjpaaW.PrintWords Go.Proofs.Ytbacfajhgmnjpaa.P Go.Proofs.Ytbacfajhgmnjpaa.K Go.Proofs.Ytbacfajhgmnjpaa.WhA Go.Proofs.Ytbacfajhgmnjpaa.WhB Go.Proofs.Ytbacfajhgmnjpaa.WhG
/-! paygen: drawn incomes. -/
theorem bases_loop (l : List Int) (n : Nat) (hn : n ≤ 60) (d : Nat) : ∀ (xs : List Int) (a : Int), xs.length + d = n → (∀ x ∈ xs, 0 ≤ x ∧ x ≤ 1000000) → 0 ≤ a → a + 5 * d ≤ 100000 →
    ∃ ys a', Ev (fun k => paygen_Deck_Bases.l0 k (n : Int) xs (xs.length : Int) l a) (ys, a') ∧ ys.length = n ∧ (∀ x ∈ ys, 0 ≤ x ∧ x ≤ 1000000) ∧ 0 ≤ a' ∧ a' ≤ a + 5 * d := by
  induction d with
  | zero =>
    intro xs a hl hx h0 h1
    exact ⟨xs, a, Ev.step (fun k => by rw [paygen_Deck_Bases.l0]) (ev_neg (by omega) (ev_some rfl)), by omega, hx, h0, by omega⟩
  | succ d ih =>
    intro xs a hl hx h0 h1
    obtain ⟨v, a1, hv, v0, v1, b0, b1⟩ := small l (a := a) h0 (by omega)
    obtain ⟨w, a2, hw, w0, w1, c0, c1⟩ := small l (a := a1) b0 (by omega)
    obtain ⟨p, hp, mp⟩ := Deck.pick l (a := a2) [v, w, 0, 500000, 1000000] (by simp) (by simp) c0 (by omega)
    simp only [List.mem_cons, List.not_mem_nil, or_false] at mp
    obtain ⟨ys, a', he, y1, y2, y3, y4⟩ := ih (xs ++ [p]) (a2 + 1) (by simp; omega) (fun x hx' => by
      rcases List.mem_append.1 hx' with h | h
      · exact hx x h
      · obtain rfl : x = p := by simpa using h
        omega) (by omega) (by omega)
    have e1 : wrap64 ((xs.length : Int) + 1) = (((xs ++ [p]).length : Nat) : Int) := w64n (by simp) (by omega)
    refine ⟨ys, a', ?_, y1, y2, y3, by omega⟩
    refine Ev.step (fun k => by rw [paygen_Deck_Bases.l0]) (ev_pos (by omega) (ev_bindc hv (ev_bindc hw (ev_bindc hp ?_))))
    refine ev_pos (show xs.length < 17592186044416 by omega) ?_
    rw [e1]
    exact he
theorem bases (l : List Int) (n : Nat) (hn : n ≤ 60) {a : Int} (h0 : 0 ≤ a) (h1 : a ≤ 10000) :
    ∃ ys a', Ev (fun k => paygen_Deck_Bases.f k l a (n : Int)) (ys, a') ∧ ys.length = n ∧ AllAm ys ∧ 0 ≤ a' ∧ a' ≤ a + 300 := by
  obtain ⟨ys, a', he, y1, y2, y3, y4⟩ := bases_loop l n hn n [] a (by simp) (by simp) h0 (by omega)
  refine ⟨ys, a', he, y1, fun i hi => ?_, y3, by omega⟩
  have hm : ys.getD i 0 ∈ ys := by
    rw [List.getD_eq_getElem?_getD, List.getElem?_eq_getElem hi]; exact List.getElem_mem hi
  have := y2 _ hm
  omega
end Go.Proofs.Ytbacfajhgmnjpaa.WhY
