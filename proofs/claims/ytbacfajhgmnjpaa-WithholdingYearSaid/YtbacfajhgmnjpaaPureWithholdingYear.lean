/- WithholdingYear: for all lists of numbers and every number the law answers true (what the cumulative method withholds in the periods of a year, also for too many incomes and incomes out of range). -/
import Derived.Test.YtbacfajhgmnjpaaWhY
import Derived.Test.YtbacfajhgmnjpaaWhr
import Derived.Test.YtbacfajhgmnjpaaFpayrolllaw30WithholdingYear
namespace Go.Proofs.Ytbacfajhgmnjpaa.Pure
open Go.RowKit Go.Proofs.YtbacfajhgmnjpaaW.PrintWords Go.Proofs.Ytbacfajhgmnjpaa.P Go.Proofs.Ytbacfajhgmnjpaa.K Go.Proofs.Ytbacfajhgmnjpaa.BrkA Go.Proofs.Ytbacfajhgmnjpaa.WhA Go.Proofs.Ytbacfajhgmnjpaa.WhB Go.Proofs.Ytbacfajhgmnjpaa.WhG Go.Proofs.Ytbacfajhgmnjpaa.WhY
theorem ints_loop (t : List Int) (hl : t.length ≤ 1000) (d : Nat) : ∀ i, i + d = t.length → Ev (fun k => payrolllaw30_ints.l0 k t t (i : Int)) true := by
  induction d with
  | zero =>
    intro i hi
    refine Ev.step (fun k => by rw [payrolllaw30_ints.l0]) ?_
    exact ev_neg (by omega) (ev_some rfl)
  | succ d ih =>
    intro i hi
    have ih := ih (i + 1) (by omega)
    have e1 : wrap64 ((i : Int) + 1) = ((i + 1 : Nat) : Int) := w64n (by omega) (by omega)
    refine Ev.step (fun k => by rw [payrolllaw30_ints.l0]) ?_
    refine ev_pos (by omega) (ev_pos (by omega) (ev_pos (by omega) (ev_pos rfl ?_)))
    rw [e1]
    exact ih
theorem ints_ev (t : List Int) (hl : t.length ≤ 1000) : Ev (fun k => payrolllaw30_ints.f k t t) true := by
  unfold payrolllaw30_ints.f
  exact ev_pos rfl (ints_loop t hl t.length 0 (by omega))
theorem yer_len (m : Int) (t : List S58) (al cr u md : Int) (rs : List S80) (n : Int) (xs : List Int) (h : xs.length ≤ 1000) : (yer m t al cr u md rs n xs).1.length ≤ 1000 := by
  unfold yer
  split
  · split
    · split
      · simp only [yl_len]; exact h
      · simp
    · simp
  · simp
theorem WithholdingYear : payrolllaw30_WithholdingYear.Pure := by
  intro l raw c' _ _ _ _ _ _ _
  apply Ev.rounds
  unfold payrolllaw30_WithholdingYear.f
  by_cases hraw : (raw.length : Int) > 60
  · exact ev_pos hraw (Ev.bind awake_ev (ev_some rfl))
  refine ev_neg hraw ?_
  obtain ⟨m, t, al, cr, u, md, rs, a1, ht, hv, _, _, ha0, ha1⟩ := tariff l (a := 0) (which := 3) (by omega) (by omega) (.inr rfl)
  obtain ⟨q, hq, q0, q1⟩ := Deck.next l (a := a1) (n := 6) (by omega) (by omega) ha0 (by omega)
  obtain ⟨n, rfl⟩ : ∃ n : Nat, q = n := ⟨q.toNat, by omega⟩
  obtain ⟨xs, a2, hx, hl, hA, b0, b1⟩ := bases l n (by omega) (a := a1 + 1) (by omega) (by omega)
  obtain ⟨c, hc, _⟩ := Deck.pick l (a := a2) [12, 4, 5, 53] (by simp) (by simp) b0 (by omega)
  refine ev_bindc (a := (l, 0)) rfl (Ev.bind ht (ev_bindc hq (Ev.bind hx (ev_bindc hc ?_))))
  refine Ev.bind (year_ev m t al cr u md rs _ _) (Ev.bind (ref_year_ev m t al cr u md rs _ _) (Ev.bind (year_ev m t al cr u md rs _ _) (Ev.bind (ref_year_ev m t al cr u md rs _ _) ?_)))
  exact ev_pos rfl (Ev.bind (ints_ev _ (yer_len _ _ _ _ _ _ _ _ xs (by omega))) (ev_pos rfl (ev_pos rfl (Ev.bind (ints_ev _ (yer_len _ _ _ _ _ _ _ _ raw (by omega))) (ev_pos rfl (Ev.bind awake_ev (ev_some rfl)))))))
end Go.Proofs.Ytbacfajhgmnjpaa.Pure
