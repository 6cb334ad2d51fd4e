/- RecordsEncode: for every list of numbers, event and bytes the law answers true (valid events, frames and checksums are those of the reference). -/
import Derived.Test.YtopigdnffnondaaRecC
import Derived.Test.YtopigdnffnondaaRecR
import Derived.Test.YtopigdnffnondaaFpayrolllaw7RecordsEncode
namespace Go.Proofs.Ytopigdnffnondaa.Pure
open Go Go.RowKit Go.Proofs.YtopigdnffnondaaW.PrintWords Go.Proofs.Ytopigdnffnondaa.P Go.Proofs.Ytopigdnffnondaa.K Go.Proofs.Ytopigdnffnondaa.RecA Go.Proofs.Ytopigdnffnondaa.RecB Go.Proofs.Ytopigdnffnondaa.RecC Go.Proofs.Ytopigdnffnondaa.Tape
theorem spoil {l : List Int} {a : Int} (hT : Tp l a) (e : S26) : ∃ (e' : S26) (a' : Int), payrollgen_Tape_SpoilEvent.f l a e.f0.f0 e.f0.f1 e.f1 e.f2 e.f3 e.f4.f0 e.f4.f1 = some (e'.f0.f0, e'.f0.f1, e'.f1, e'.f2, e'.f3, e'.f4.f0, e'.f4.f1, a') ∧ Tp l a' := by
  unfold payrollgen_Tape_SpoilEvent.f
  obtain ⟨v, a1, hv, v0, v1, hT1⟩ := next hT (n := 6) (by omega) (by omega)
  rw [hv]
  simp only [Option.bind_some]
  by_cases h0 : v = 0
  · obtain ⟨w, a2, hw, _, hT2⟩ := pick hT1 [0, 7, -1] (by simp) (by simp)
    rw [if_pos h0, hw]
    exact ⟨⟨e.f0, e.f1, e.f2, w, e.f4⟩, a2, rfl, hT2⟩
  rw [if_neg h0]
  by_cases h1 : v = 1
  · obtain ⟨w, a2, hw, _, hT2⟩ := pick hT1 [0, -1, 2147483648] (by simp) (by simp)
    rw [if_pos h1, hw]
    exact ⟨⟨e.f0, w, e.f2, e.f3, e.f4⟩, a2, rfl, hT2⟩
  rw [if_neg h1]
  by_cases h2 : v = 2
  · obtain ⟨w, a2, hw, _, hT2⟩ := pick hT1 [-1, 120968640, 0] (by simp) (by simp)
    rw [if_pos h2, hw]
    exact ⟨⟨e.f0, e.f1, w, e.f3, e.f4⟩, a2, rfl, hT2⟩
  rw [if_neg h2]
  by_cases h3 : v = 3
  · obtain ⟨w, a2, hw, _, hT2⟩ := pick hT1 [65536, -1, 65535] (by simp) (by simp)
    rw [if_pos h3, hw]
    exact ⟨⟨⟨w, e.f0.f1⟩, e.f1, e.f2, e.f3, e.f4⟩, a2, rfl, hT2⟩
  rw [if_neg h3]
  by_cases h4 : v = 4
  · obtain ⟨w, a2, hw, _, hT2⟩ := pick hT1 [-1, 2147483648, 2147483647] (by simp) (by simp)
    rw [if_pos h4, hw]
    exact ⟨⟨⟨e.f0.f0, w⟩, e.f1, e.f2, e.f3, e.f4⟩, a2, rfl, hT2⟩
  rw [if_neg h4]
  obtain ⟨w, a2, hw, _, hT2⟩ := pick hT1 [1, 70000, -1] (by simp) (by simp)
  rw [hw]
  exact ⟨⟨e.f0, e.f1, e.f2, e.f3, ⟨w, 0⟩⟩, a2, rfl, hT2⟩
theorem encode_j1 {l : List Int} {b : List Int} (i : Nat) (hi : i < 5) (z : S26) (a : Int) (e : S26) (h : Ev (fun k => payrolllaw7_RecordsEncode.l0 k b ((i + 1 : Nat) : Int) z.f0.f0 z.f0.f1 z.f1 z.f2 z.f3 z.f4.f0 z.f4.f1 l a) true) :
    Ev (fun k => payrolllaw7_RecordsEncode.j1 k b (i : Int) z.f0.f0 z.f0.f1 z.f1 z.f2 z.f3 z.f4.f0 z.f4.f1 l a e.f0.f0 e.f0.f1 e.f1 e.f2 e.f3 e.f4.f0 e.f4.f1) true := by
  have e1 : wrap64 ((i : Int) + 1) = ((i + 1 : Nat) : Int) := w64n (by omega) (by omega)
  refine Ev.step (fun k => by rw [payrolllaw7_RecordsEncode.j1]) ?_
  refine Ev.bind (RecB.encode e) (Ev.bind (RecR.encode e) (ev_pos rfl (ev_pos rfl ?_)))
  refine Ev.bind (RecA.valid _ _ _ _ _ _ _) (Ev.bind (RecR.valid _ _ _ _ _ _ _) (ev_neg (by simp) ?_))
  rw [e1]
  exact h
theorem encode_l0 {l : List Int} {b : List Int} (hb : Bs b) (z : S26) (d : Nat) : ∀ (i : Nat) (a : Int), i + d = 5 → Tp l a → Ev (fun k => payrolllaw7_RecordsEncode.l0 k b (i : Int) z.f0.f0 z.f0.f1 z.f1 z.f2 z.f3 z.f4.f0 z.f4.f1 l a) true := by
  induction d with
  | zero =>
    intro i a hi hT
    refine Ev.step (fun k => by rw [payrolllaw7_RecordsEncode.l0]) ?_
    refine ev_neg (by omega) ?_
    by_cases hc : (b.length : Int) > 5000
    · exact ev_pos hc (Ev.bind RecC.sane (ev_some rfl))
    · refine ev_neg hc ?_
      refine Ev.bind (RecA.sum hb (by omega)) (Ev.bind (RecR.sum hb (by omega)) (ev_pos rfl ?_))
      exact Ev.bind RecC.sane (ev_some rfl)
  | succ d ih =>
    intro i a hi hT
    refine Ev.step (fun k => by rw [payrolllaw7_RecordsEncode.l0]) ?_
    refine ev_pos (by omega) ?_
    obtain ⟨e, a1, h1, ho, hT1⟩ := tapeEvent hT
    rw [h1]
    simp only [Option.bind_some]
    by_cases h3 : (i : Int) = 3
    · refine ev_pos h3 ?_
      obtain ⟨e', a2, h2, hT2⟩ := spoil hT1 e
      rw [h2]
      exact encode_j1 i (by omega) z a2 e' (ih (i + 1) a2 (by omega) hT2)
    · refine ev_neg h3 ?_
      by_cases h4 : (i : Int) = 4
      · exact ev_pos h4 (encode_j1 i (by omega) z a1 z (ih (i + 1) a1 (by omega) hT1))
      · exact ev_neg h4 (encode_j1 i (by omega) z a1 e (ih (i + 1) a1 (by omega) hT1))
/-- The law's plain statement. -/
theorem RecordsEncode (l0 : List Int) (hl0 : l0.length * 8 ≤ 140737488351232) (a0 a1 a2 a3 a4 a5 a6 : Int) (l2 : List Int) (hw2 : Bs l2) : ∃ k, payrolllaw7_RecordsEncode.f k l0 a0 a1 a2 a3 a4 a5 a6 l2 = some true := by
  refine Ev.rounds ?_
  unfold payrolllaw7_RecordsEncode.f payrollgen_New.f
  simp only [Option.bind_some]
  exact encode_l0 hw2 ⟨⟨a0, a1⟩, a2, a3, a4, ⟨a5, a6⟩⟩ 5 0 0 (by omega) (tp_new hl0)
end Go.Proofs.Ytopigdnffnondaa.Pure
