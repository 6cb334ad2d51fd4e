/- Plain lemmas for the laws of this seat: what its functions answer; no condition beyond those that each lemma states. -/
import Derived.Test.YtopigdnffnondaaRecB
import Derived.Test.YtopigdnffnondaaTape
import Derived.Test.YtopigdnffnondaaFpayrolllaw7sane
import Derived.Test.YtopigdnffnondaaFpayrollgenTapeEvent
namespace Go.Proofs.Ytopigdnffnondaa.RecC
open Go Go.RowKit Go.Proofs.YtopigdnffnondaaW.PrintWords Go.Proofs.YtopigdnffnondaaW.PrintMore Go.Proofs.Ytopigdnffnondaa.P Go.Proofs.Ytopigdnffnondaa.K Go.Proofs.Ytopigdnffnondaa.RecA Go.Proofs.Ytopigdnffnondaa.RecB Go.Proofs.Ytopigdnffnondaa.Tape
/-! records: made events are valid; the sanity check. -/
theorem tapeKey {l : List Int} {a : Int} (hT : Tp l a) : ∃ u v a', payrollgen_Tape_Key.f l a = some (u, v, a') ∧ 0 ≤ u ∧ u < 2 ∧ 0 ≤ v ∧ v < 9 ∧ Tp l a' := by
  unfold payrollgen_Tape_Key.f
  obtain ⟨u, a1, h1, u0, u1, hT1⟩ := next hT (n := 2) (by omega) (by omega)
  rw [h1]
  simp only [Option.bind_some]
  obtain ⟨v, a2, h2, v0, v1, hT2⟩ := next hT1 (n := 9) (by omega) (by omega)
  rw [h2]
  exact ⟨u, v, a2, rfl, u0, u1, v0, v1, hT2⟩
theorem tapeNear {l : List Int} {a : Int} (hT : Tp l a) : ∃ u a', payrollgen_Tape_Near.f l a = some (u, a') ∧ 0 ≤ u ∧ u ≤ 120968639 ∧ Tp l a' := by
  unfold payrollgen_Tape_Near.f
  obtain ⟨u, a1, h1, u0, u1, hT1⟩ := next hT (n := 10) (by omega) (by omega)
  rw [h1]
  simp only [Option.bind_some]
  obtain ⟨v, a2, h2, v0, v1, hT2⟩ := next hT1 (n := 97) (by omega) (by omega)
  rw [h2]
  simp only [Option.bind_some]
  obtain ⟨x, a3, h3, x0, x1, hT3⟩ := next hT2 (n := 8) (by omega) (by omega)
  rw [h3]
  simp only [Option.bind_some]
  have e1 : wrap64 (u * 1440) = u * 1440 := w64 (by omega) (by omega)
  have e2 : wrap64 (v * 15) = v * 15 := w64 (by omega) (by omega)
  have e3 : Int.tdiv x 6 = x / 6 := tdiv_pos x0
  rw [e1, e2, e3, w64 (x := 29453760 + u * 1440) (by omega) (by omega), w64 (x := 29453760 + u * 1440 + v * 15) (by omega) (by omega), w64 (x := x / 6) (by omega) (by omega), w64 (x := 29453760 + u * 1440 + v * 15 + x / 6) (by omega) (by omega)]
  exact ⟨_, a3, rfl, by omega, by omega, hT3⟩
/-- A made event, as one value. -/
theorem tapeEvent {l : List Int} {a : Int} (hT : Tp l a) : ∃ (e : S26) (a' : Int), payrollgen_Tape_Event.f l a = some (e.f0.f0, e.f0.f1, e.f1, e.f2, e.f3, e.f4.f0, e.f4.f1, a') ∧ okS e = true ∧ Tp l a' := by
  unfold payrollgen_Tape_Event.f
  obtain ⟨u, v, a1, h1, u0, u1, v0, v1, hT1⟩ := tapeKey hT
  rw [h1]
  simp only [Option.bind_some]
  obtain ⟨p, a2, h2, p0, p1, hT2⟩ := next hT1 (n := 6) (by omega) (by omega)
  rw [h2]
  simp only [Option.bind_some]
  obtain ⟨q, a3, h3, q0, q1, hT3⟩ := tapeNear hT2
  rw [h3]
  simp only [Option.bind_some]
  obtain ⟨m, a4, h4, hm, hT4⟩ := pick hT3 [1, 2, 3, 4, 1, 2, 5, 6] (by simp) (by simp)
  rw [h4]
  simp only [Option.bind_some]
  have e1 : Int.tdiv p 5 = p / 5 := tdiv_pos p0
  rw [e1, w64 (x := p / 5) (by omega) (by omega), w64 (x := 1 + p / 5) (by omega) (by omega)]
  have hm' : 1 ≤ m ∧ m ≤ 6 := by
    simp only [List.mem_cons, List.not_mem_nil, or_false] at hm
    omega
  by_cases h5 : m ≥ 5
  · obtain ⟨s, t, a5, h6, s0, s1, t0, t1, hT5⟩ := tapeKey hT4
    rw [if_pos h5, h6]
    refine ⟨⟨⟨u, v⟩, 1 + p / 5, q, m, ⟨s, t⟩⟩, a5, rfl, ?_, hT5⟩
    unfold okS okE okk
    simp only [Bool.and_eq_true, decide_eq_true_eq]
    rw [if_neg (by omega), if_pos (by omega)]
    simp only [decide_eq_true_eq]
    omega
  · rw [if_neg h5]
    refine ⟨⟨⟨u, v⟩, 1 + p / 5, q, m, ⟨0, 0⟩⟩, a4, rfl, ?_, hT4⟩
    unfold okS okE okk
    simp only [Bool.and_eq_true, decide_eq_true_eq]
    rw [if_pos (by omega)]
    simp only [decide_eq_true_eq, and_self, and_true]
    omega
theorem sane : Ev (fun k => payrolllaw7_sane.f k) true := Ev.of (fun k => payrolllaw7_sane.mono k) (k := 300) (by kernel_rfl)
end Go.Proofs.Ytopigdnffnondaa.RecC
