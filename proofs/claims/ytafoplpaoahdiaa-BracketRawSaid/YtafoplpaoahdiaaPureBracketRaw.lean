/- BracketRaw: for every schedule and all numbers the law answers true (the results for schedules of any content). -/
import Derived.Test.YtafoplpaoahdiaaBrkB
import Derived.Test.YtafoplpaoahdiaaBrkS
import Derived.Test.YtafoplpaoahdiaaBrkL
import Derived.Test.YtafoplpaoahdiaaFpayrolllaw29BracketRaw
namespace Go.Proofs.Ytafoplpaoahdiaa.Pure
open Go.RowKit Go.Proofs.YtafoplpaoahdiaaW.PrintWords Go.Proofs.Ytafoplpaoahdiaa.P Go.Proofs.Ytafoplpaoahdiaa.K Go.Proofs.Ytafoplpaoahdiaa.BrkA Go.Proofs.Ytafoplpaoahdiaa.BrkG Go.Proofs.Ytafoplpaoahdiaa.BrkB Go.Proofs.Ytafoplpaoahdiaa.BrkS Go.Proofs.Ytafoplpaoahdiaa.BrkL
theorem same_loop (t : List S30) (hl : t.length ≤ 1000) (d : Nat) : ∀ i, i + d = t.length → Ev (fun k => payrolllaw29_same.l0 k t t (i : Int)) true := by
  induction d with
  | zero =>
    intro i hi
    refine Ev.step (fun k => by rw [payrolllaw29_same.l0]) ?_
    exact ev_neg (by omega) (ev_some rfl)
  | succ d ih =>
    intro i hi
    have ih := ih (i + 1) (by omega)
    have e1 : wrap64 ((i : Int) + 1) = ((i + 1 : Nat) : Int) := w64n (by omega) (by omega)
    refine Ev.step (fun k => by rw [payrolllaw29_same.l0]) ?_
    refine ev_pos (by omega) (ev_pos (by omega) (ev_pos (by omega) (ev_neg (by simp) ?_)))
    rw [e1]
    exact ih
theorem same_ev (t : List S30) (hl : t.length ≤ 1000) : Ev (fun k => payrolllaw29_same.f k t t) true := by
  unfold payrolllaw29_same.f
  exact ev_pos rfl (same_loop t hl t.length 0 (by omega))
theorem scr_len (t : List S30) (a b : Int) : (scr t a b).1.length ≤ 1000 := by
  unfold scr
  split
  · rename_i h
    have hv := (vb_true.1 h).2.1
    split
    · simp
    · have := acc_len t a b t.length; simp only; omega
  · simp
theorem least_both (t : List S30) {tax : Int} (h : tax ≤ 9223372036854775807) :
    ∃ n ok, Ev (fun k => bracket_Least.f k t tax) (n, ok) ∧ Ev (fun k => payrollref29_Least.f k t tax) (n, ok) := by
  by_cases hv : VB t
  · obtain ⟨n, ok, h1, h2⟩ := least_ev hv h
    obtain ⟨m, ok', h3, h4⟩ := ref_least_ev hv (tax := tax)
    obtain ⟨rfl, rfl⟩ := h2.uniq hv h4
    exact ⟨n, ok, h1, h3⟩
  · exact ⟨0, false, least_bad hv tax⟩
theorem BracketRaw (t : List S30) (a1 a2 a3 a4 : Int) (h : a4 ≤ 9223372036854775807) : ∃ k, payrolllaw29_BracketRaw.f k t a1 a2 a3 a4 = some true := by
  apply Ev.rounds
  obtain ⟨n, ok, h1, h2⟩ := least_both t h
  unfold payrolllaw29_BracketRaw.f
  by_cases hl : (t.length : Int) > 30
  · exact ev_pos hl (Ev.bind awake_ev (ev_some rfl))
  · refine ev_neg hl (Ev.bind (exact_ev t _) (Ev.bind (ref_exact_ev t _) (Ev.bind (scale_ev t _ _) (Ev.bind (ref_scale_ev t _ _) (Ev.bind h1 (Ev.bind h2 ?_))))))
    exact ev_pos rfl (ev_pos rfl (Ev.bind (same_ev _ (scr_len _ _ _)) (ev_pos rfl (ev_pos rfl (ev_pos rfl (ev_pos (by simp) (Ev.bind awake_ev (ev_some rfl))))))))
end Go.Proofs.Ytafoplpaoahdiaa.Pure
