/- BracketGrows: for every list of numbers and every number the law answers true (the exact tax grows with the income by at most one cent for each cent, and by the marginal rate for the next cent). -/
import Derived.Test.YtafoplpaoahdiaaBrkB
import Derived.Test.YtafoplpaoahdiaaFpayrolllaw29BracketGrows
namespace Go.Proofs.Ytafoplpaoahdiaa.Pure
open Go.RowKit Go.Proofs.YtafoplpaoahdiaaW.PrintWords Go.Proofs.Ytafoplpaoahdiaa.P Go.Proofs.Ytafoplpaoahdiaa.K Go.Proofs.Ytafoplpaoahdiaa.BrkA Go.Proofs.Ytafoplpaoahdiaa.BrkG Go.Proofs.Ytafoplpaoahdiaa.BrkB
theorem mod_bd (x : Int) {n : Int} (hn : 0 < n) (hn1 : n ≤ 9223372036854775807) : ∃ v, paygen_Mod.f x n = some v ∧ 0 ≤ v ∧ v < n := by
  unfold paygen_Mod.f
  have hb := Deck.tmod_bd x hn
  rw [if_neg (by omega)]
  by_cases h : Int.tmod x n < 0
  · rw [if_pos h, w64 (by omega) (by omega)]
    exact ⟨_, rfl, by omega, by omega⟩
  · rw [if_neg h]
    exact ⟨_, rfl, by omega, by omega⟩
theorem BracketGrows : payrolllaw29_BracketGrows.Pure := by
  intro l more _ _ _ _
  obtain ⟨t, a1, ht, hg, htl, hv, ha0, ha1⟩ := brackets l false (a := 0) (by omega) (by omega)
  obtain ⟨x, a2, hx, hx0, hx1, hb0, hb1⟩ := income l hg htl (a := a1) ha0 (by omega)
  obtain ⟨m, hm, hm0, hm1⟩ := mod_bd more (n := 100000) (by omega) (by omega)
  apply Ev.rounds
  unfold payrolllaw29_BracketGrows.f
  obtain ⟨n, hn⟩ : ∃ n, n = min x 999999900000 := ⟨_, rfl⟩
  have hn0 : 0 ≤ n := by omega
  have hn1 : n ≤ 999999900000 := by omega
  have e1 : wrap64 (n + m) = n + m := w64 (by omega) (by omega)
  have e2 : wrap64 (n + 1) = n + 1 := w64 (by omega) (by omega)
  have e3 : wrap64 (n + m - n) = m := by rw [w64 (by omega) (by omega)]; omega
  have e4 : wrap64 (m * 1000000) = m * 1000000 := w64 (by omega) (by omega)
  have g1 := Brk.exact_grows hv.ok hn0 (show n ≤ n + m by omega)
  have g2 := Brk.exact_step hv.ok hn0
  have g3 := Brk.exact_nonneg hv.ok n
  have g4 := Brk.exact_le hv.ok (x := n + m) (by omega)
  have g5 := Brk.exact_le hv.ok (x := n + 1) (by omega)
  have g6 := Brk.exact_nonneg hv.ok (n + 1)
  have g7 := Brk.exact_le hv.ok hn0
  refine ev_bindc (a := (l, 0)) rfl (Ev.bind ht (ev_bindc hx (ev_bindc hm ?_)))
  simp only [mn_eq]
  rw [← hn]
  simp only [e1, e2, e3, e4]
  refine Ev.bind (exact_ev t n) (Ev.bind (exact_ev t (n + m)) (Ev.bind (exact_ev t (n + 1)) (Ev.bind (marginal_ev t n) ?_)))
  rw [exr_ok hv hn0 (by omega), exr_ok hv (x := n + m) (by omega) (by omega), exr_ok hv (x := n + 1) (by omega) (by omega), mar_ok hv hn0 (by omega)]
  unfold exa
  refine ev_pos rfl (ev_pos rfl (ev_pos rfl (ev_pos rfl (ev_pos g1.1 (ev_pos ?_ (ev_pos ?_ (Ev.bind awake_ev (ev_some rfl))))))))
  · show wrap64 (Brk.exact _ _ _ _ - Brk.exact _ _ _ _) ≤ _
    rw [w64 (by omega) (by omega)]
    omega
  · show wrap64 (Brk.exact _ _ _ _ - Brk.exact _ _ _ _) = _
    rw [w64 (by omega) (by omega)]
    exact g2
end Go.Proofs.Ytafoplpaoahdiaa.Pure
