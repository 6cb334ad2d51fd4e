/- WithholdingDue: for every list of numbers and all numbers the law answers true (the tax due and what the cumulative method withholds, for drawn and for any numbers). -/
import Derived.Test.YtbacfajhgmnjpaaWhG
import Derived.Test.YtbacfajhgmnjpaaWhr
import Derived.Test.YtbacfajhgmnjpaaFpayrolllaw30WithholdingDue
namespace Go.Proofs.Ytbacfajhgmnjpaa.Pure
open Go.RowKit Go.Proofs.YtbacfajhgmnjpaaW.PrintWords Go.Proofs.Ytbacfajhgmnjpaa.P Go.Proofs.Ytbacfajhgmnjpaa.K Go.Proofs.Ytbacfajhgmnjpaa.BrkA Go.Proofs.Ytbacfajhgmnjpaa.WhA Go.Proofs.Ytbacfajhgmnjpaa.WhB Go.Proofs.Ytbacfajhgmnjpaa.WhG
theorem WithholdingDue : payrolllaw30_WithholdingDue.Pure := by
  intro l c' k' x' w' _ _ _ _ _ _ _
  obtain ⟨m, t, al, cr, u, md, rs, a1, ht, hv, _, _, ha0, ha1⟩ := tariff l (a := 0) (which := 0) (by omega) (by omega) (.inl rfl)
  obtain ⟨c, hc, mc⟩ := Deck.pick l (a := a1) [12, 4, 53, 1] (by simp) (by simp) ha0 (by omega)
  simp only [List.mem_cons, List.not_mem_nil, or_false] at mc
  obtain ⟨k, hk, k0, k1⟩ := Deck.next l (a := a1 + 1) (n := c) (by omega) (by omega) (by omega) (by omega)
  obtain ⟨s, a2, hs, s0, s1, b0, b1⟩ := small l (a := a1 + 1 + 1) (by omega) (by omega)
  apply Ev.rounds
  unfold payrolllaw30_WithholdingDue.f
  refine ev_bindc (a := (l, 0)) rfl (Ev.bind ht (ev_bindc hc (ev_bindc hk (ev_bindc hs ?_))))
  refine Ev.bind (due_ev m t al cr u md rs _ _ _) (Ev.bind (ref_due_ev m t al cr u md rs _ _ _) (Ev.bind (cum_ev m t al cr u md rs _ _ _ _) (Ev.bind (ref_cum_ev m t al cr u md rs _ _ _ _) (Ev.bind (cum_ev m t al cr u md rs _ _ _ _) (Ev.bind (ref_cum_ev m t al cr u md rs _ _ _ _) ?_)))))
  exact ev_pos rfl (ev_pos rfl (ev_pos rfl (ev_pos rfl (ev_pos rfl (ev_pos rfl (Ev.bind awake_ev (ev_some rfl)))))))
end Go.Proofs.Ytbacfajhgmnjpaa.Pure
