/- BracketConvex: for every list of numbers the law answers true (with ascending rates the exact tax of a sum of incomes is at least the sum of the exact taxes, and marginal rates never fall). -/
import Derived.Test.YtafoplpaoahdiaaBrkB
import Derived.Test.YtafoplpaoahdiaaFpayrolllaw29BracketConvex
namespace Go.Proofs.Ytafoplpaoahdiaa.Pure
open Go.RowKit Go.Proofs.YtafoplpaoahdiaaW.PrintWords Go.Proofs.Ytafoplpaoahdiaa.P Go.Proofs.Ytafoplpaoahdiaa.K Go.Proofs.Ytafoplpaoahdiaa.BrkA Go.Proofs.Ytafoplpaoahdiaa.BrkG Go.Proofs.Ytafoplpaoahdiaa.BrkB
theorem BracketConvex : payrolllaw29_BracketConvex.Pure := by
  intro l _ _ _
  obtain ⟨t, a1, ht, hg, htl, hv, ha0, ha1⟩ := brackets l true (a := 0) (by omega) (by omega)
  obtain ⟨x, a2, hx, hx0, hx1, hb0, hb1⟩ := small l (a := a1) ha0 (by omega)
  obtain ⟨y, a3, hy, hy0, hy1, hc0, hc1⟩ := small l (a := a2) hb0 (by omega)
  apply Ev.rounds
  unfold payrolllaw29_BracketConvex.f
  have e1 : wrap64 (10 * x) = 10 * x := w64 (by omega) (by omega)
  have e2 : wrap64 (10 * y) = 10 * y := w64 (by omega) (by omega)
  have e3 : wrap64 (10 * x + 10 * y) = 10 * x + 10 * y := w64 (by omega) (by omega)
  obtain ⟨m, hm⟩ : ∃ m : Nat, 10 * y = m := ⟨(10 * y).toNat, by omega⟩
  have g1 := Brk.exact_convex hv.ok (hg.asc rfl) (x := 10 * x) (by omega) m
  have g2 := Brk.marg_mono hv.ok (hg.asc rfl) (x := 10 * x) (y := 10 * x + m) (by omega) t.length (Nat.le_refl _)
  have g3 := Brk.exact_nonneg hv.ok (10 * x)
  have g4 := Brk.exact_le hv.ok (x := 10 * x) (by omega)
  have g5 := Brk.exact_nonneg hv.ok (m : Int)
  have g6 := Brk.exact_le hv.ok (x := (m : Int)) (by omega)
  refine ev_bindc (a := (l, 0)) rfl (Ev.bind ht (ev_bindc hx (ev_bindc hy ?_)))
  simp only [e1, e2, e3]
  simp only [hm]
  refine Ev.bind (exact_ev t (10 * x)) (Ev.bind (exact_ev t m) (Ev.bind (exact_ev t (10 * x + m)) (Ev.bind (marginal_ev t (10 * x)) (Ev.bind (marginal_ev t (10 * x + m)) ?_))))
  rw [exr_ok hv (x := 10 * x) (by omega) (by omega), exr_ok hv (x := (m : Int)) (by omega) (by omega), exr_ok hv (x := 10 * x + m) (by omega) (by omega), mar_ok hv (x := 10 * x) (by omega) (by omega), mar_ok hv (x := 10 * x + m) (by omega) (by omega)]
  unfold exa
  refine ev_pos rfl (ev_pos rfl (ev_pos rfl (ev_pos rfl (ev_pos rfl (ev_pos ?_ (ev_pos g2 (Ev.bind awake_ev (ev_some rfl))))))))
  show _ ≥ wrap64 (Brk.exact _ _ _ _ + Brk.exact _ _ _ _)
  rw [w64 (by omega) (by omega)]
  exact g1
end Go.Proofs.Ytafoplpaoahdiaa.Pure
