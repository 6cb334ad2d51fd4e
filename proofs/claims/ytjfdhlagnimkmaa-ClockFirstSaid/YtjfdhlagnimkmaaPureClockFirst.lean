/- ClockFirst: for every list of numbers the law answers true (First is the least instant at which the local clock shows the minute or a later one). -/
import Derived.Test.YtjfdhlagnimkmaaClkD
import Derived.Test.YtjfdhlagnimkmaaFpayrolllaw4ClockFirst
namespace Go.Proofs.Ytjfdhlagnimkmaa.Pure
open Go.RowKit Go.Proofs.YtjfdhlagnimkmaaW.PrintWords Go.Proofs.Ytjfdhlagnimkmaa.P Go.Proofs.Ytjfdhlagnimkmaa.K Go.Proofs.Ytjfdhlagnimkmaa.ClkA Go.Proofs.Ytjfdhlagnimkmaa.ClkB Go.Proofs.Ytjfdhlagnimkmaa.ClkC Go.Proofs.Ytjfdhlagnimkmaa.ClkD Go.Proofs.Ytjfdhlagnimkmaa.Tape
theorem ClockFirst : payrolllaw4_ClockFirst.Pure := by
  intro l _ hl _
  obtain ⟨o, c, a1, hz, hv, hcl, hT1⟩ := zone (tp_new hl)
  obtain ⟨n, a2, hn, n0, n1, hT2⟩ := near hT1
  obtain ⟨m, a3, hm, m0, m1, hT3⟩ := next hT2 (n := 2000) (by omega) (by omega)
  obtain ⟨q, a4, hq, q0, q1, hT4⟩ := next hT3 (n := 4000) (by omega) (by omega)
  apply Ev.rounds
  unfold payrolllaw4_ClockFirst.f
  obtain ⟨x, hx⟩ : ∃ x, x = n + m - 1000 := ⟨_, rfl⟩
  have e1 : wrap64 (n + m) = n + m := w64 (by omega) (by omega)
  have e2 : wrap64 (n + m - 1000) = x := by rw [w64 (by omega) (by omega), hx]
  obtain ⟨f1, f2, f3, f4⟩ := fir_spec hv x
  obtain ⟨v, hvv⟩ : ∃ v, v = fir o c x := ⟨_, rfl⟩
  rw [← hvv] at f1 f2 f3 f4
  have hv1 : 1 ≤ v := by
    rcases Int.lt_or_le v 1 with h | h
    · have := f3 (by omega)
      have := off_bd hv v
      omega
    · exact h
  have hv2 : v ≤ 120968639 := by
    rcases Int.lt_or_le 120968639 v with h | h
    · have := f4 120968639 (by omega) h
      have := off_bd hv 120968639
      omega
    · exact h
  obtain ⟨r, hr, r0, r1⟩ := mod q (n := v) (by omega) (by omega)
  have e3 : wrap64 (v - 1) = v - 1 := w64 (by omega) (by omega)
  have e4 : wrap64 (v - 1 - min r (v - 1)) = v - 1 - min r (v - 1) := w64 (by omega) (by omega)
  refine ev_bindc (a := (l, 0)) rfl (Ev.bind hz (ev_bindc hn (ev_bindc hm ?_)))
  simp only [e1, e2]
  refine Ev.bind (first_ev o c x) ?_
  rw [firr_ok hv, ← hvv]
  refine ev_pos rfl (ev_neg (by omega) ?_)
  refine Ev.step (fun k => by rw [payrolllaw4_ClockFirst.j0]) ?_
  refine ev_neg (fun hh => by have := of_decide_eq_true hh; omega) (Ev.bind (local_ev o c v) ?_)
  simp only [e3]
  refine Ev.bind (local_ev o c _) (ev_bindc hq (ev_bindc hr ?_))
  simp only [mn_eq, e4]
  refine Ev.bind (local_ev o c _) ?_
  rw [locr_ok hv (t := v) (by omega) (by omega), locr_ok hv (t := v - 1) (by omega) (by omega), locr_ok hv (t := v - 1 - min r (v - 1)) (by omega) (by omega)]
  refine ev_pos rfl (ev_pos rfl (ev_pos rfl (ev_pos ?_ (ev_pos ?_ (ev_pos ?_ (Ev.bind sane_ev (ev_some rfl)))))))
  · have := f3 hv2
    show v + off o c v ≥ x; omega
  · exact f4 (v - 1) (by omega) (by omega)
  · exact f4 (v - 1 - min r (v - 1)) (by omega) (by omega)
end Go.Proofs.Ytjfdhlagnimkmaa.Pure
