/- BracketLeast: for every list of numbers and every number the law answers true (Least returns the least income with the exact tax, for drawn taxes and those of incomes). -/
import Derived.Test.YtafoplpaoahdiaaBrkB
import Derived.Test.YtafoplpaoahdiaaBrkL
import Derived.Test.YtafoplpaoahdiaaFpayrolllaw29BracketLeast
namespace Go.Proofs.Ytafoplpaoahdiaa.Pure
open Go.RowKit Go.Proofs.YtafoplpaoahdiaaW.PrintWords Go.Proofs.Ytafoplpaoahdiaa.P Go.Proofs.Ytafoplpaoahdiaa.K Go.Proofs.Ytafoplpaoahdiaa.BrkA Go.Proofs.Ytafoplpaoahdiaa.BrkG Go.Proofs.Ytafoplpaoahdiaa.BrkB Go.Proofs.Ytafoplpaoahdiaa.BrkL
theorem least_law {t : List S30} (hv : VB t) (ts : List Int) (hl : ts.length ≤ 10) (hb : ∀ i : Nat, i < ts.length → ts.getD i 0 ≤ 9223372036854775807) (d : Nat) : ∀ i, i + d = ts.length →
    Ev (fun k => payrolllaw29_BracketLeast.l0 k t ts (i : Int)) true := by
  have htop : exr t 1000000000000 = (exa t 1000000000000, 0) := exr_ok hv (by omega) (by omega)
  induction d with
  | zero =>
    intro i hi
    exact Ev.step (fun k => by rw [payrolllaw29_BracketLeast.l0]) (ev_neg (by omega) (Ev.bind awake_ev (ev_some rfl)))
  | succ d ih =>
    intro i hi
    have ih := ih (i + 1) (by omega)
    have e1 : wrap64 ((i : Int) + 1) = ((i + 1 : Nat) : Int) := w64n (by omega) (by omega)
    obtain ⟨tax, htax⟩ : ∃ tax, tax = ts.getD i 0 := ⟨_, rfl⟩
    have hr : rd ts (i : Int) = tax := by rw [htax]; rfl
    have hb := hb i (by omega)
    rw [← htax] at hb
    obtain ⟨n, ok, he, hx⟩ := least_ev hv hb
    refine Ev.step (fun k => by rw [payrolllaw29_BracketLeast.l0]) ?_
    simp only [hr]
    refine ev_pos (by omega) (ev_pos (by omega) (Ev.bind he (Ev.bind (exact_ev t _) ?_)))
    rw [htop]
    refine ev_pos rfl (Ev.step (fun k => by rw [payrolllaw29_BracketLeast.j1]) ?_)
    simp only [hr, e1]
    cases ok with
    | false =>
      obtain ⟨a0, a1⟩ := hx.2 rfl
      exact ev_neg (by simp; omega) (ev_neg (by decide) (ev_pos a0 ih))
    | true =>
      obtain ⟨a0, a1, a2, a3⟩ := hx.1 rfl
      have top := (Brk.exact_grows hv.ok a0 a1).1
      have top' : exa t n ≤ exa t 1000000000000 := top
      refine ev_neg (by simp; omega) (ev_pos rfl (Ev.bind (exact_ev t n) ?_))
      rw [exr_ok hv a0 a1]
      refine ev_pos rfl (ev_pos (by omega) (ev_pos (by omega) (Ev.step (fun k => by rw [payrolllaw29_BracketLeast.j2]) ?_)))
      simp only [hr, e1]
      refine ev_neg (by simp; omega) ?_
      by_cases hn : n > 0
      · have e2 : wrap64 (n - 1) = n - 1 := w64 (by omega) (by omega)
        have := a3 hn
        refine ev_pos hn ?_
        rw [e2]
        refine Ev.bind (exact_ev t (n - 1)) ?_
        rw [exr_ok hv (x := n - 1) (by omega) (by omega)]
        exact ev_pos rfl (ev_pos (by omega) (ev_pos (by omega) (ev_neg (by show ¬ exa t (n - 1) ≥ tax; omega) ih)))
      · exact ev_neg hn ih
theorem BracketLeast : payrolllaw29_BracketLeast.Pure := by
  intro l raw _ _ _ hraw
  obtain ⟨t, a1, ht, hg, htl, hv, ha0, ha1⟩ := brackets l false (a := 0) (by omega) (by omega)
  obtain ⟨x, a2, hx, hx0, hx1, hb0, hb1⟩ := income l hg htl (a := a1) ha0 (by omega)
  have hr1 : raw ≤ 9223372036854775807 := (wf64 hraw).2
  apply Ev.rounds
  unfold payrolllaw29_BracketLeast.f
  obtain ⟨n, hn⟩ : ∃ n, n = min x 999999999999 := ⟨_, rfl⟩
  have g0 := Brk.exact_nonneg hv.ok n
  have g1 := Brk.exact_le hv.ok (x := n) (by omega)
  have e : Brk.exact (F t) (R t) t.length n = exa t n := rfl
  rw [e] at g0 g1
  refine ev_bindc (a := (l, 0)) rfl (Ev.bind ht (ev_bindc hx ?_))
  simp only [mn_eq]
  rw [← hn]
  refine Ev.bind (exact_ev t n) ?_
  rw [exr_ok hv (x := n) (by omega) (by omega)]
  refine ev_pos rfl ?_
  refine least_law hv _ (by simp) ?_ 4 0 (by simp)
  intro i hi
  have e1 : wrap64 (exa t n + 1) = exa t n + 1 := w64 (by omega) (by omega)
  have e2 : wrap64 (exa t n - 1) = exa t n - 1 := w64 (by omega) (by omega)
  simp only [e1, e2, mx_eq]
  have hi : i < 4 := by simpa using hi
  match i, hi with
  | 0, _ => show exa t n ≤ _; omega
  | 1, _ => show exa t n + 1 ≤ _; omega
  | 2, _ => show max (exa t n - 1) 0 ≤ _; omega
  | 3, _ => show raw ≤ _; exact hr1
end Go.Proofs.Ytafoplpaoahdiaa.Pure
