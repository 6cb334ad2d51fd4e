/- ClockDays: for every list of numbers and every number the law answers true (each instant belongs to exactly one day, between its begin and that of the next day, and days never go back). -/
import Derived.Test.YtjfdhlagnimkmaaClkD
import Derived.Test.YtjfdhlagnimkmaaFpayrolllaw4ClockDays
namespace Go.Proofs.Ytjfdhlagnimkmaa.Pure
open Go.RowKit Go.Proofs.YtjfdhlagnimkmaaW.PrintWords Go.Proofs.Ytjfdhlagnimkmaa.P Go.Proofs.Ytjfdhlagnimkmaa.K Go.Proofs.Ytjfdhlagnimkmaa.ClkA Go.Proofs.Ytjfdhlagnimkmaa.ClkB Go.Proofs.Ytjfdhlagnimkmaa.ClkC Go.Proofs.Ytjfdhlagnimkmaa.ClkD Go.Proofs.Ytjfdhlagnimkmaa.Tape
theorem days_j {o : Int} {c : List S42} (h : VZ o c) {n : Int} (n0 : 0 ≤ n) (n1 : n < 120968639) : Ev (fun k => payrolllaw4_ClockDays.j0 k n o c) true := by
  obtain ⟨d, hd⟩ : ∃ d, d = dy o c n := ⟨_, rfl⟩
  obtain ⟨e, he⟩ : ∃ e, e = dy o c (n + 1) := ⟨_, rfl⟩
  have db := dy_bd h (t := n) (by omega)
  have eb := dy_bd h (t := n + 1) (by omega)
  rw [← hd] at db
  rw [← he] at eb
  have e1 : wrap64 (d + 1) = d + 1 := w64 (by omega) (by omega)
  have e2 : wrap64 (n + 1) = n + 1 := w64 (by omega) (by omega)
  have g1 := (bg_iff h n0 (show n ≤ 120968639 by omega) db.1 (by omega)).2 (by omega)
  have g2 := fun hh => (bg_iff h n0 (show n ≤ 120968639 by omega) (d := d + 1) (by omega) (by omega)).1 hh
  have g3 := bg_iff h (t := n + 1) (by omega) (by omega) (d := d + 1) (by omega) (by omega)
  have g4 := (bg_iff h (t := n + 1) (by omega) (by omega) db.1 (by omega)).1 (by omega)
  rw [← hd] at g2
  rw [← he] at g3 g4
  have g5 : n < bg o c (d + 1) := by
    rcases Int.lt_or_le n (bg o c (d + 1)) with hh | hh
    · exact hh
    · have := g2 hh; omega
  refine Ev.step (fun k => by rw [payrolllaw4_ClockDays.j0]) ?_
  refine Ev.bind (day_ev o c n) ?_
  rw [dayr_ok h n0 (by omega), ← hd]
  simp only [e1, e2]
  refine Ev.bind (begin_ev o c d) (Ev.bind (begin_ev o c (d + 1)) (Ev.bind (day_ev o c (n + 1)) ?_))
  rw [begr_ok h db.1 (by omega), begr_ok h (d := d + 1) (by omega) (by omega), dayr_ok h (t := n + 1) (by omega) (by omega), ← he]
  refine ev_pos (by simp) (ev_pos (by simp) (ev_pos (by simp) (ev_pos (by simp) (ev_pos g1 (ev_pos g5 ?_)))))
  by_cases hc : e = d
  · refine ev_pos hc (ev_pos ?_ (Ev.bind sane_ev (ev_some rfl)))
    show n + 1 < bg o c (d + 1)
    omega
  · refine ev_neg hc (ev_pos (show e > d by omega) (ev_pos ?_ (Ev.bind sane_ev (ev_some rfl))))
    show n + 1 = bg o c (d + 1)
    omega
theorem ClockDays : payrolllaw4_ClockDays.Pure := by
  intro l x _ hl _ _
  obtain ⟨o, c, a1, hz, hv, hcl, hT1⟩ := zone (tp_new hl)
  obtain ⟨m, hm, m0, m1⟩ := mod x (n := 120968639) (by omega) (by omega)
  obtain ⟨q, a2, hq, q0, q1, hT2⟩ := next hT1 (n := 3) (by omega) (by omega)
  obtain ⟨n, a3, hn, n0, n1, hT3⟩ := near hT2
  apply Ev.rounds
  unfold payrolllaw4_ClockDays.f
  refine ev_bindc (a := (l, 0)) rfl (Ev.bind hz (ev_bindc hm (ev_bindc hq ?_)))
  by_cases h : q > 0
  · exact ev_pos h (ev_bindc hn (days_j hv (by omega) (by omega)))
  · exact ev_neg h (days_j hv m0 m1)
end Go.Proofs.Ytjfdhlagnimkmaa.Pure
