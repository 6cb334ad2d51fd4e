/- WithholdingGrows: for every list of numbers and every number the law answers true (a greater income never has a lesser tax, for each method). -/
import Derived.Test.YtbacfajhgmnjpaaWhG
import Derived.Test.YtbacfajhgmnjpaaWhM
import Derived.Test.YtbacfajhgmnjpaaFpayrolllaw30WithholdingGrows
namespace Go.Proofs.Ytbacfajhgmnjpaa.Pure
open Go.RowKit Go.Proofs.YtbacfajhgmnjpaaW.PrintWords Go.Proofs.Ytbacfajhgmnjpaa.P Go.Proofs.Ytbacfajhgmnjpaa.K Go.Proofs.Ytbacfajhgmnjpaa.BrkA Go.Proofs.Ytbacfajhgmnjpaa.WhA Go.Proofs.Ytbacfajhgmnjpaa.WhB Go.Proofs.Ytbacfajhgmnjpaa.WhG Go.Proofs.Ytbacfajhgmnjpaa.WhM
theorem mod (x : Int) {n : Int} (hn : 0 < n) (hn1 : n ≤ 9223372036854775807) : ∃ v, paygen_Mod.f x n = some v ∧ 0 ≤ v ∧ v < n := by
  unfold paygen_Mod.f
  have hb := Deck.tmod_bd x hn
  rw [if_neg (by omega)]
  by_cases h : Int.tmod x n < 0
  · rw [if_pos h, w64 (by omega) (by omega)]
    exact ⟨_, rfl, by omega, by omega⟩
  · rw [if_neg h]
    exact ⟨_, rfl, by omega, by omega⟩
theorem WithholdingGrows : payrolllaw30_WithholdingGrows.Pure := by
  intro l more _ _ _ _
  obtain ⟨m, t, al, cr, u, md, rs, a1, ht, hv, _, _, ha0, ha1⟩ := tariff l (a := 0) (which := 0) (by omega) (by omega) (.inl rfl)
  obtain ⟨s, a2, hs, s0, s1, b0, b1⟩ := small l (a := a1) ha0 (by omega)
  obtain ⟨d, hd, d0, d1⟩ := mod more (n := 1000000) (by omega) (by omega)
  obtain ⟨c, hc, mc⟩ := Deck.pick l (a := a2) [12, 4] (by simp) (by simp) b0 (by omega)
  simp only [List.mem_cons, List.not_mem_nil, or_false] at mc
  obtain ⟨k, hk, k0, k1⟩ := Deck.next l (a := a2 + 1) (n := c) (by omega) (by omega) (by omega) (by omega)
  have e1 : wrap64 (10 * s) = 10 * s := w64 (by omega) (by omega)
  have e2 : wrap64 (10 * s + d) = 10 * s + d := w64 (by omega) (by omega)
  have e3 : wrap64 (1 + k) = 1 + k := w64 (by omega) (by omega)
  apply Ev.rounds
  unfold payrolllaw30_WithholdingGrows.f
  refine ev_bindc (a := (l, 0)) rfl (Ev.bind ht (ev_bindc hs (ev_bindc hd (ev_bindc hc (ev_bindc hk ?_)))))
  simp only [e1, e2, e3]
  obtain ⟨p0, p1⟩ := prod_bd (x := 10 * s) (n := c) (by omega) (by omega) (by omega) (by omega)
  obtain ⟨p2, p3⟩ := prod_bd (x := 10 * s + d) (n := c) (by omega) (by omega) (by omega) (by omega)
  have p4 : 10 * s * c ≤ (10 * s + d) * c := Int.mul_le_mul_of_nonneg_right (by omega) (by omega)
  have fm : ∀ x, 0 ≤ x → x ≤ 1000000000 → fmr m t al cr u md rs x c = (txv t al cr u md (x * c) / c, 0) := fun x h0 h1 => by
    unfold fmr; rw [if_pos (B_pos hv), if_pos ⟨⟨h0, h1⟩, by omega, by omega⟩]
  refine Ev.bind (annual_ev m t al cr u md rs _) (Ev.bind (annual_ev m t al cr u md rs _) (Ev.bind (formula_ev m t al cr u md rs _ _) (Ev.bind (formula_ev m t al cr u md rs _ _) (Ev.bind (due_ev m t al cr u md rs _ _ _) (Ev.bind (due_ev m t al cr u md rs _ _ _) ?_)))))
  rw [anr_ok m t al cr u md rs hv (x := 10 * s) (by omega) (by omega), anr_ok m t al cr u md rs hv (x := 10 * s + d) (by omega) (by omega), fm _ (by omega) (by omega), fm _ (by omega) (by omega),
    dur_ok m t al cr u md rs hv (n := c) (k := 1 + k) (x := 10 * s) ⟨by omega, by omega, by omega⟩, dur_ok m t al cr u md rs hv (n := c) (k := 1 + k) (x := 10 * s + d) ⟨by omega, by omega, by omega⟩]
  have g1 := txv_mono hv.vb (al := al) (cr := cr) (u := u) (md := md) (x := 10 * s) (x' := 10 * s + d) hv.a0 (by omega) (by omega) (by omega) hv.u0 hv.u1
  have g2 := txv_mono hv.vb (al := al) (cr := cr) (u := u) (md := md) hv.a0 p0 p4 (by omega) hv.u0 hv.u1
  have g3 := dv_mono hv (n := c) (k := 1 + k) (x := 10 * s) (x' := 10 * s + d) (by omega) (by omega) (by omega) (by omega) (by omega) (by omega)
  obtain ⟨z0, _⟩ := txv_bd hv.vb (al := al) (cr := cr) (u := u) (md := md) (x := 10 * s) hv.a0 (by omega) (by omega) hv.c0 hv.u0 hv.u1
  obtain ⟨z1, _⟩ := txv_bd hv.vb (al := al) (cr := cr) (u := u) (md := md) (x := 10 * s * c) hv.a0 p0 (by omega) hv.c0 hv.u0 hv.u1
  obtain ⟨z2, _⟩ := dv_bd m t al cr u md rs hv (n := c) (k := 1 + k) (x := 10 * s) (by omega) (by omega) (by omega) (by omega) (by omega)
  refine ev_pos rfl (ev_pos rfl (ev_pos rfl (ev_pos rfl (ev_pos rfl (ev_pos rfl (ev_pos g1 ?_))))))
  refine ev_pos (Int.ediv_le_ediv (by omega) g2) (ev_pos g3 (ev_pos z0 (ev_pos (Int.ediv_nonneg z1 (by omega)) (ev_pos z2 (Ev.bind awake_ev (ev_some rfl))))))
end Go.Proofs.Ytbacfajhgmnjpaa.Pure
