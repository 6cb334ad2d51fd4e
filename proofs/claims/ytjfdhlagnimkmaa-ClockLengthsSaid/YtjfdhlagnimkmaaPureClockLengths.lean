/- ClockLengths: for every list of numbers and every number the law answers true (in a zone without changes each day but the first and the last one has 1440 minutes, and a change makes the days around it longer or shorter by exactly its size). -/
import Derived.Test.YtjfdhlagnimkmaaClkD
import Derived.Test.YtjfdhlagnimkmaaFpayrolllaw4ClockLengths
namespace Go.Proofs.Ytjfdhlagnimkmaa.Pure
open Go.RowKit Go.Proofs.YtjfdhlagnimkmaaW.PrintWords Go.Proofs.Ytjfdhlagnimkmaa.P Go.Proofs.Ytjfdhlagnimkmaa.K Go.Proofs.Ytjfdhlagnimkmaa.ClkA Go.Proofs.Ytjfdhlagnimkmaa.ClkB Go.Proofs.Ytjfdhlagnimkmaa.ClkC Go.Proofs.Ytjfdhlagnimkmaa.ClkD Go.Proofs.Ytjfdhlagnimkmaa.Tape
theorem vz_nil {o : Int} (h0 : -840 ≤ o) (h1 : o ≤ 840) : VZ o [] :=
  ⟨by simp, h0, h1, fun i hi => by simp at hi, fun i hi => by simp at hi, fun i hi => by simp at hi, fun i hi => by simp at hi, fun i hi => by simp at hi⟩
theorem pts_nil (o : Int) : pts o [] = [⟨0, 120968640, o⟩] := by
  unfold pts
  have : segs o [] = [⟨0, 120968640, o⟩] := rfl
  rw [this, dropE_cons, if_neg (by show ¬ (0 : Int) = 120968640; omega)]
theorem pts_one (o a b : Int) (ha : 0 < a) : pts o [⟨a, b⟩] = [⟨0, a, o⟩, ⟨a, 120968640, b⟩] := by
  unfold pts
  have : segs o [⟨a, b⟩] = [⟨0, a, o⟩, ⟨a, 120968640, b⟩] := rfl
  rw [this, dropE_cons, if_neg]
  show ¬ (0 : Int) = a
  omega
theorem ClockLengths : payrolllaw4_ClockLengths.Pure := by
  intro l n _ hl _ _
  obtain ⟨b, a1, hb, bm, hT1⟩ := pick (tp_new hl) [60, (-60), 30, 0] (by simp) (by simp)
  obtain ⟨o, a2, ho, om, hT2⟩ := pick hT1 [0, 60, (-300), 570] (by simp) (by simp)
  obtain ⟨q, a3, hq, q0, q1, hT3⟩ := next hT2 (n := 4320) (by omega) (by omega)
  obtain ⟨m, hm, m0, m1⟩ := mod n (n := 84003) (by omega) (by omega)
  have bb : -60 ≤ b ∧ b ≤ 60 := by simp only [List.mem_cons, List.not_mem_nil, or_false] at bm; omega
  have ob : -300 ≤ o ∧ o ≤ 570 := by simp only [List.mem_cons, List.not_mem_nil, or_false] at om; omega
  clear bm om
  apply Ev.rounds
  unfold payrolllaw4_ClockLengths.f
  have e1 : wrap64 (29453760 + q) = 29453760 + q := w64 (by omega) (by omega)
  have e2 : wrap64 (o + b) = o + b := w64 (by omega) (by omega)
  have e3 : wrap64 (1 + m) = 1 + m := w64 (by omega) (by omega)
  have e4 : wrap64 (1 + m + 1) = 1 + m + 1 := w64 (by omega) (by omega)
  have e5 : wrap64 (11520 - b) = 11520 - b := w64 (by omega) (by omega)
  have hv0 : VZ o [] := vz_nil (by omega) (by omega)
  have hv1 : VZ o [⟨29453760 + q, o + b⟩] := by
    have := VZ.app hv0 (b := ⟨29453760 + q, o + b⟩) (by simp) (by show 0 ≤ 29453760 + q; omega) (by show 29453760 + q ≤ _; omega) (by show -840 ≤ o + b; omega) (by show o + b ≤ 840; omega) (fun i hi => by simp at hi)
    exact this
  have p1 := pts_one o (29453760 + q) (o + b) (by omega)
  have p0 := pts_nil o
  have b1 : bg o [⟨29453760 + q, o + b⟩] 20452 = 20452 * 1440 - o := by
    unfold bg fir
    rw [if_neg (by omega), if_neg (by omega), p1]
    simp only [firstL]
    rw [if_pos (by omega)]
    omega
  have b2 : bg o [⟨29453760 + q, o + b⟩] 20460 = 20460 * 1440 - (o + b) := by
    unfold bg fir
    rw [if_neg (by omega), if_neg (by omega), p1]
    simp only [firstL]
    rw [if_neg (by omega), if_pos (by omega)]
    omega
  have b3 : bg o [] (1 + m) = (1 + m) * 1440 - o := by
    unfold bg fir
    rw [if_neg (by omega), if_neg (by omega), p0]
    simp only [firstL]
    rw [if_pos (by omega)]
    omega
  have b4 : bg o [] (1 + m + 1) = (1 + m + 1) * 1440 - o := by
    unfold bg fir
    rw [if_neg (by omega), if_neg (by omega), p0]
    simp only [firstL]
    rw [if_pos (by omega)]
    omega
  refine ev_bindc (a := (l, 0)) rfl (ev_bindc hb (ev_bindc ho (ev_bindc hq ?_)))
  simp only [e1, e2, e5]
  refine ev_bindc rfl (Ev.bind (begin_ev o _ 20452) (Ev.bind (begin_ev o _ 20460) (ev_bindc hm ?_)))
  simp only [e3, e4]
  refine Ev.bind (begin_ev o _ (1 + m)) (Ev.bind (begin_ev o _ (1 + m + 1)) ?_)
  rw [begr_ok hv1 (d := 20452) (by omega) (by omega), begr_ok hv1 (d := 20460) (by omega) (by omega), begr_ok hv0 (d := 1 + m) (by omega) (by omega), begr_ok hv0 (d := 1 + m + 1) (by omega) (by omega), b1, b2, b3, b4]
  refine ev_pos rfl (ev_pos rfl (ev_pos rfl (ev_pos rfl (ev_pos ?_ (ev_pos ?_ (Ev.bind sane_ev (ev_some rfl)))))))
  · show wrap64 (20460 * 1440 - (o + b) - (20452 * 1440 - o)) = _
    rw [w64 (by omega) (by omega)]; omega
  · show wrap64 ((1 + m + 1) * 1440 - o - ((1 + m) * 1440 - o)) = _
    rw [w64 (by omega) (by omega)]; omega
end Go.Proofs.Ytjfdhlagnimkmaa.Pure
