/- WithholdingAnnual: for every list of numbers and all numbers the law answers true (the tax of a year and the tax by the formula, for drawn and for any incomes). -/
import Derived.Test.YtbacfajhgmnjpaaWhG
import Derived.Test.YtbacfajhgmnjpaaWhr
import Derived.Test.YtbacfajhgmnjpaaFpayrolllaw30WithholdingAnnual
namespace Go.Proofs.Ytbacfajhgmnjpaa.Pure
open Go.RowKit Go.Proofs.YtbacfajhgmnjpaaW.PrintWords Go.Proofs.Ytbacfajhgmnjpaa.P Go.Proofs.Ytbacfajhgmnjpaa.K Go.Proofs.Ytbacfajhgmnjpaa.BrkA Go.Proofs.Ytbacfajhgmnjpaa.WhA Go.Proofs.Ytbacfajhgmnjpaa.WhB Go.Proofs.Ytbacfajhgmnjpaa.WhG
theorem amount (l : List Int) {a : Int} (h0 : 0 ≤ a) (h1 : a ≤ 1000000) : ∃ v a', paygen_Deck_Amount.f l a = some (v, a') ∧ 0 ≤ a' ∧ a' ≤ a + 2 := by
  unfold paygen_Deck_Amount.f
  obtain ⟨v, hv, hv0, hv1⟩ := Deck.next l (a := a) (n := 6) (by omega) (by omega) h0 (by omega)
  rw [hv]
  simp only [Option.bind_some]
  by_cases h : v = 0
  · rw [if_pos h]
    obtain ⟨u, hu, hm⟩ := Deck.pick l (a := a + 1) [0, 1, 99, 100, 101] (by simp) (by simp) (by omega) (by omega)
    rw [hu]
    exact ⟨u, _, rfl, by omega, by omega⟩
  rw [if_neg h]
  by_cases h2 : v = 1
  · rw [if_pos h2]
    obtain ⟨u, hu, hm⟩ := Deck.pick l (a := a + 1) [1000000000, 999999999, 500000000, 100000000] (by simp) (by simp) (by omega) (by omega)
    rw [hu]
    exact ⟨u, _, rfl, by omega, by omega⟩
  · rw [if_neg h2]
    obtain ⟨u, hu, hu0, hu1⟩ := Deck.next l (a := a + 1) (n := 600000) (by omega) (by omega) (by omega) (by omega)
    rw [hu]
    exact ⟨u, _, rfl, by omega, by omega⟩
theorem annual_loop (xs cs : List Int) (h1 : xs.length = 3) (h2 : cs.length = 3) (m : Int) (t : List S58) (al cr u md : Int) (rs : List S80) (d : Nat) : ∀ i, i + d = 3 →
    Ev (fun k => payrolllaw30_WithholdingAnnual.l0 k xs cs (i : Int) m t al cr u md rs) true := by
  induction d with
  | zero =>
    intro i hi
    exact Ev.step (fun k => by rw [payrolllaw30_WithholdingAnnual.l0]) (ev_neg (by omega) (Ev.bind awake_ev (ev_some rfl)))
  | succ d ih =>
    intro i hi
    have ih := ih (i + 1) (by omega)
    have e1 : wrap64 ((i : Int) + 1) = ((i + 1 : Nat) : Int) := w64n (by omega) (by omega)
    refine Ev.step (fun k => by rw [payrolllaw30_WithholdingAnnual.l0]) ?_
    refine ev_pos (by omega) (ev_pos (by omega) (ev_pos (by omega) (Ev.bind (annual_ev m t al cr u md rs _) (Ev.bind (ref_annual_ev m t al cr u md rs _) (ev_pos (by omega) ?_)))))
    refine Ev.bind (formula_ev m t al cr u md rs _ _) (Ev.bind (ref_formula_ev m t al cr u md rs _ _) (ev_pos rfl (ev_pos rfl (ev_pos rfl (ev_pos rfl ?_)))))
    rw [e1]
    exact ih
theorem WithholdingAnnual : payrolllaw30_WithholdingAnnual.Pure := by
  intro l x' c' _ _ _ _ _
  obtain ⟨m, t, al, cr, u, md, rs, a1, ht, hv, _, _, ha0, ha1⟩ := tariff l (a := 0) (which := 0) (by omega) (by omega) (.inl rfl)
  obtain ⟨s, a2, hs, s0, s1, b0, b1⟩ := small l (a := a1) ha0 (by omega)
  obtain ⟨y, a3, hy, c0, c1⟩ := amount l (a := a2) b0 (by omega)
  obtain ⟨p, hp, _⟩ := Deck.pick l (a := a3) [12, 1, 53] (by simp) (by simp) c0 (by omega)
  obtain ⟨q, hq, _⟩ := Deck.pick l (a := a3 + 1) [12, 4, 54, 0] (by simp) (by simp) (by omega) (by omega)
  apply Ev.rounds
  unfold payrolllaw30_WithholdingAnnual.f
  refine ev_bindc (a := (l, 0)) rfl (Ev.bind ht (ev_bindc hs (ev_bindc hy (ev_bindc hp (ev_bindc hq ?_)))))
  exact annual_loop _ _ rfl rfl m t al cr u md rs 3 0 rfl
end Go.Proofs.Ytbacfajhgmnjpaa.Pure
