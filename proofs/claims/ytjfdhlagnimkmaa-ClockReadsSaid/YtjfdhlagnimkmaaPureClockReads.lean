/- ClockReads: for every list of numbers, zone and numbers the law answers true (offsets, local minutes, instants and days of made and of arbitrary zones, or the errors). -/
import Derived.Test.YtjfdhlagnimkmaaClkR
import Derived.Test.YtjfdhlagnimkmaaClkD
import Derived.Test.YtjfdhlagnimkmaaFpayrolllaw4ClockReads
namespace Go.Proofs.Ytjfdhlagnimkmaa.Pure
open Go.RowKit Go.Proofs.YtjfdhlagnimkmaaW.PrintWords Go.Proofs.Ytjfdhlagnimkmaa.P Go.Proofs.Ytjfdhlagnimkmaa.K Go.Proofs.Ytjfdhlagnimkmaa.ClkA Go.Proofs.Ytjfdhlagnimkmaa.ClkB Go.Proofs.Ytjfdhlagnimkmaa.ClkC Go.Proofs.Ytjfdhlagnimkmaa.ClkD Go.Proofs.Ytjfdhlagnimkmaa.Tape
theorem spoil {l : List Int} {a : Int} (hT : Tp l a) (o : Int) (c : List S42) (hc : c.length ≤ 1000) : ∃ o' c' a', payrollgen_Tape_SpoilZone.f l a o c = some (o', c', a') ∧ Tp l a' := by
  unfold payrollgen_Tape_SpoilZone.f
  simp only [Option.bind_some, List.length_nil, List.nil_append, Nat.zero_add]
  rw [if_pos (by omega)]
  obtain ⟨v, a1, hv, v0, v1, hT1⟩ := next hT (n := 4) (by omega) (by omega)
  rw [hv]
  simp only [Option.bind_some]
  by_cases h0 : v = 0
  · obtain ⟨w, a2, hw, _, hT2⟩ := pick hT1 [841, -841] (by simp) (by simp)
    rw [if_pos h0, hw]
    exact ⟨_, _, _, rfl, hT2⟩
  by_cases h1 : v = 1
  · obtain ⟨w, a2, hw, _, hT2⟩ := pick hT1 [-1, 120968640, 0] (by simp) (by simp)
    rw [if_neg h0, if_pos h1, hw]
    simp only [Option.bind_some]
    rw [if_pos (by omega)]
    exact ⟨_, _, _, rfl, hT2⟩
  by_cases h2 : v = 2
  · rw [if_neg h0, if_neg h1, if_pos h2]
    by_cases hp : (c.length : Int) > 0
    · have e : wrap64 ((c.length : Int) - 1) = (c.length : Int) - 1 := w64 (by omega) (by omega)
      rw [if_pos hp, e, if_pos (by omega), if_pos (by omega), if_pos (by omega)]
      exact ⟨_, _, _, rfl, hT1⟩
    · rw [if_neg hp]; exact ⟨_, _, _, rfl, hT1⟩
  · rw [if_neg h0, if_neg h1, if_neg h2]
    by_cases hp : (c.length : Int) > 0
    · rw [if_pos hp, if_pos (by omega)]; exact ⟨_, _, _, rfl, hT1⟩
    · rw [if_neg hp]; exact ⟨_, _, _, rfl, hT1⟩
theorem reads_law (l : List Int) (o : Int) (c : List S42) (t x q : Int) (d : Nat) : ∀ (i : Nat) (a : Int), i + d = 4 → Tp l a → Ev (fun k => payrolllaw4_ClockReads.l0 k t x q (i : Int) o c l a) true := by
  induction d with
  | zero =>
    intro i a hi hT
    refine Ev.step (fun k => by rw [payrolllaw4_ClockReads.l0]) ?_
    refine ev_neg (by omega) ?_
    by_cases h : (c.length : Int) > 70
    · exact ev_pos h (ev_some rfl)
    · exact ev_neg h (Ev.bind (ClkR.reads_ev o c t x q) (ev_pos rfl (Ev.bind sane_ev (ev_some rfl))))
  | succ d ih =>
    intro i a hi hT
    have e1 : wrap64 ((i : Int) + 1) = ((i + 1 : Nat) : Int) := w64n (by omega) (by omega)
    obtain ⟨oz, cz, b1, hz, hv, hl, hT1⟩ := zone hT
    obtain ⟨n0, b2, hn0, _, _, hT2⟩ := near hT1
    obtain ⟨p0, b3, hp0, _, hT3⟩ := pick hT2 [n0, 0, 120968639, 29453759, 29455200] (by simp) (by simp)
    obtain ⟨v0, b4, hv0, _, _, hT4⟩ := next hT3 (n := 2000) (by omega) (by omega)
    obtain ⟨v1, b5, hv1, _, _, hT5⟩ := next hT4 (n := 5) (by omega) (by omega)
    obtain ⟨p1, b6, hp1, _, hT6⟩ := pick hT5 [wrap64 ((wrap64 (20454 + v1)) - 1), 0, 84006, 84005, 1] (by simp) (by simp)
    obtain ⟨o', c', b7, hs, hT7⟩ := spoil hT6 oz cz (by omega)
    refine Ev.step (fun k => by rw [payrolllaw4_ClockReads.l0]) ?_
    refine ev_pos (by omega) (Ev.bind hz (ev_bindc hn0 (ev_bindc hp0 (ev_bindc hv0 (ev_bindc hv1 (ev_bindc hp1 (Ev.bind (ClkR.reads_ev _ _ _ _ _) (ev_pos rfl (ev_bindc hs (Ev.bind (ClkR.reads_ev _ _ _ _ _) (ev_pos rfl ?_)))))))))))
    rw [e1]
    exact ih (i + 1) b7 (by omega) hT7
theorem ClockReads (l : List Int) (h : l.length * 8 ≤ 140737488351232) (o : Int) (c : List S42) (t x q : Int) : ∃ k, payrolllaw4_ClockReads.f k l o c t x q = some true := by
  apply Ev.rounds
  unfold payrolllaw4_ClockReads.f
  exact ev_bindc (a := (l, 0)) rfl (reads_law l o c t x q 4 0 0 rfl (tp_new h))
end Go.Proofs.Ytjfdhlagnimkmaa.Pure
