/- ClockLimits: for all numbers the law answers true (MaxChanges changes are accepted, and not one more). -/
import Derived.Test.YtjfdhlagnimkmaaClkR
import Derived.Test.YtjfdhlagnimkmaaClkD
import Derived.Test.YtjfdhlagnimkmaaFpayrolllaw4ClockLimits
namespace Go.Proofs.Ytjfdhlagnimkmaa.Pure
open Go.RowKit Go.Proofs.YtjfdhlagnimkmaaW.PrintWords Go.Proofs.Ytjfdhlagnimkmaa.P Go.Proofs.Ytjfdhlagnimkmaa.K Go.Proofs.Ytjfdhlagnimkmaa.ClkA Go.Proofs.Ytjfdhlagnimkmaa.ClkB Go.Proofs.Ytjfdhlagnimkmaa.ClkC Go.Proofs.Ytjfdhlagnimkmaa.ClkD Go.Proofs.Ytjfdhlagnimkmaa.Tape
def Made (c : List S42) : Prop := ∀ i, i < c.length → A c i = 29453760 + 10 * i ∧ O c i = 60 * ((i : Int) % 2)
theorem made_vz {c : List S42} (h : Made c) (hl : c.length ≤ 64) : VZ 30 c :=
  ⟨hl, by omega, by omega, fun i hi => by have := (h i hi).1; omega, fun i hi => by have := (h i hi).1; omega, fun i hi => by have := (h i hi).2; omega, fun i hi => by have := (h i hi).2; omega,
    fun i hi => by have := (h i (by omega)).1; have := (h (i + 1) hi).1; omega⟩
theorem limits_loop (x : Int) (d : Nat) : ∀ c : List S42, Made c → c.length + d ≤ 65 → Ev (fun k => payrolllaw4_ClockLimits.l0 k x (d : Int) 30 c) true := by
  induction d with
  | zero =>
    intro c hc hl
    obtain ⟨m, hm, m0, m1⟩ := mod x (n := 2000) (by omega) (by omega)
    refine Ev.step (fun k => by rw [payrolllaw4_ClockLimits.l0]) ?_
    refine ev_neg (by omega) (ev_bindc hm (Ev.bind (valid_ev 30 c) (ev_pos ?_ (Ev.bind (ClkR.reads_ev _ _ _ _ _) (ev_pos rfl (Ev.bind sane_ev (ev_some rfl)))))))
    by_cases h : c.length ≤ 64
    · rw [(made_vz hc h).zero]
      have : decide ((c.length : Int) ≤ 64) = true := decide_eq_true (by omega)
      rw [this]; rfl
    · have e : vz 30 c = 3 := by unfold vz; rw [if_pos (by omega)]
      rw [e]
      have : decide ((c.length : Int) ≤ 64) = false := decide_eq_false (by omega)
      rw [this]; rfl
  | succ d ih =>
    intro c hc hl
    have e1 : wrap64 (((d + 1 : Nat) : Int) - 1) = (d : Int) := w64n (by omega) (by omega)
    have e2 : wrap64 (10 * (c.length : Int)) = 10 * (c.length : Int) := w64 (by omega) (by omega)
    have e3 : wrap64 (29453760 + 10 * (c.length : Int)) = 29453760 + 10 * (c.length : Int) := w64 (by omega) (by omega)
    refine Ev.step (fun k => by rw [payrolllaw4_ClockLimits.l0]) ?_
    refine ev_pos (by omega) (ev_pos (by omega) ?_)
    rw [e1, e2, e3]
    refine ih _ (fun i hi => ?_) (by simp; omega)
    simp only [List.length_append, List.length_cons, List.length_nil] at hi
    rw [A_app, O_app]
    by_cases hlt : i < c.length
    · rw [if_pos hlt, if_pos hlt]; exact hc i hlt
    · obtain rfl : i = c.length := by omega
      rw [if_neg hlt, if_pos rfl, if_neg hlt, if_pos rfl]
      exact ⟨rfl, rfl⟩
theorem ClockLimits : payrolllaw4_ClockLimits.Pure := by
  intro n x _ _
  obtain ⟨m, hm, m0, m1⟩ := mod n (n := 3) (by omega) (by omega)
  apply Ev.rounds
  unfold payrolllaw4_ClockLimits.f
  refine ev_bindc hm ?_
  obtain ⟨d, hd⟩ : ∃ d : Nat, 63 + m = d := ⟨(63 + m).toNat, by omega⟩
  have e : wrap64 (63 + m) = (d : Int) := by rw [w64 (by omega) (by omega), hd]
  rw [e]
  exact limits_loop x d [] (fun i hi => by simp at hi) (by simp; omega)
end Go.Proofs.Ytjfdhlagnimkmaa.Pure
