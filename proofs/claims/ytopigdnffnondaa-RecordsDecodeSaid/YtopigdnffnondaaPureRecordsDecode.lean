/- RecordsDecode: for every list of numbers and bytes the law answers true (the events and gaps of made and of arbitrary bytes are those of the reference). -/
import Derived.Test.YtopigdnffnondaaRecF
import Derived.Test.YtopigdnffnondaaRecS
import Derived.Test.YtopigdnffnondaaRecD
import Derived.Test.YtopigdnffnondaaFpayrolllaw7RecordsDecode
namespace Go.Proofs.Ytopigdnffnondaa.Pure
open Go Go.RowKit Go.Proofs.YtopigdnffnondaaW.PrintWords Go.Proofs.Ytopigdnffnondaa.P Go.Proofs.Ytopigdnffnondaa.K Go.Proofs.Ytopigdnffnondaa.RecA Go.Proofs.Ytopigdnffnondaa.RecB Go.Proofs.Ytopigdnffnondaa.RecC Go.Proofs.Ytopigdnffnondaa.RecF Go.Proofs.Ytopigdnffnondaa.Tape
theorem decodes {b : List Int} (hb : Bs b) (hl : b.length ≤ 100000) : Ev (fun k => payrolllaw7_decodes.f k b) true := by
  unfold payrolllaw7_decodes.f
  refine Ev.bind (RecB.decode hb (by omega)) (Ev.bind (RecD.decode hb (by omega)) ?_)
  have h := RecD.dec_len b (b.length + 1) 0 [] []
  simp only [List.length_nil] at h
  refine Ev.bind (RecS.same _ _ (by omega) (by omega)) ?_
  exact ev_pos rfl (ev_some (by simp))
theorem sum_bd {b : List Int} (hb : Bs b) : Bs [sumB b / 256 % 256, sumB b % 256] := put2_bs _
theorem set_bs {b : List Int} (hb : Bs b) (i : Nat) {v : Int} (h0 : 0 ≤ v) (h1 : v < 256) : Bs (b.set i v) := fun x hx => by
  rcases List.mem_or_eq_of_mem_set hx with hx | hx
  · exact hb x hx
  · omega
theorem decode_l0 {l : List Int} {b : List Int} (hb : Bs b) (d : Nat) : ∀ (i : Nat) (a : Int), i + d = 3 → Tp l a → Ev (fun k => payrolllaw7_RecordsDecode.l0 k b (i : Int) l a) true := by
  induction d with
  | zero =>
    intro i a hi hT
    refine Ev.step (fun k => by rw [payrolllaw7_RecordsDecode.l0]) ?_
    refine ev_neg (by omega) ?_
    unfold payrolllaw7_some.f
    simp only [Option.bind_some]
    have ho : okS (⟨⟨3, 9⟩, 7, 29453760, 1, ⟨0, 0⟩⟩ : S26) = true := by decide
    have he := RecR.encode (⟨⟨3, 9⟩, 7, 29453760, 1, ⟨0, 0⟩⟩ : S26)
    rw [if_pos ho] at he
    refine Ev.bind he ?_
    obtain ⟨v, a1, h1, v0, v1, hT1⟩ := next hT (n := 22) (by omega) (by omega)
    obtain ⟨u, a2, h2, u0, u1, hT2⟩ := next hT1 (n := 256) (by omega) (by omega)
    have hf := frame_bs (⟨⟨3, 9⟩, 7, 29453760, 1, ⟨0, 0⟩⟩ : S26)
    have hl := frame_len (⟨⟨3, 9⟩, 7, 29453760, 1, ⟨0, 0⟩⟩ : S26)
    generalize frame (⟨⟨3, 9⟩, 7, 29453760, 1, ⟨0, 0⟩⟩ : S26) = x at hf hl ⊢
    simp only [Option.bind_some, List.nil_append, List.length_nil, Nat.zero_add]
    refine ev_pos (by omega) ?_
    rw [h1]
    simp only [Option.bind_some]
    rw [h2]
    simp only [Option.bind_some]
    refine ev_pos v0 (ev_pos (by omega) (ev_pos (by omega) ?_))
    have hx : Bs (x.set v.toNat (u % 256)) := set_bs hf _ (by omega) (by omega)
    have hxl : (x.set v.toNat (u % 256)).length = 24 := by rw [List.length_set]; exact hl
    generalize x.set v.toNat (u % 256) = y at hx hxl ⊢
    refine Ev.bind (RecR.sum (hx.take 22) (by rw [List.length_take]; omega)) ?_
    have hs := sumB_range (hx.take 22)
    refine ev_pos (by omega) (ev_pos (by omega) ?_)
    by_cases hc : (b.length : Int) > 3000
    · exact ev_pos hc (ev_some rfl)
    · refine ev_neg hc ?_
      refine Ev.bind (decodes (set_bs (set_bs hx _ (by omega) (by omega)) _ (by omega) (by omega)) (by rw [List.length_set, List.length_set]; omega)) (ev_pos rfl ?_)
      refine Ev.bind (decodes hb (by omega)) (ev_pos rfl ?_)
      exact Ev.bind RecC.sane (ev_some rfl)
  | succ d ih =>
    intro i a hi hT
    have e1 : wrap64 ((i : Int) + 1) = ((i + 1 : Nat) : Int) := w64n (by omega) (by omega)
    refine Ev.step (fun k => by rw [payrolllaw7_RecordsDecode.l0]) ?_
    refine ev_pos (by omega) ?_
    obtain ⟨x, a', e, hx, hlx, hT'⟩ := frames hT (n := 4) (by omega) (by omega)
    refine Ev.bind e (Ev.bind (decodes hx (by simp only; omega)) (ev_pos rfl ?_))
    rw [e1]
    exact ih (i + 1) a' (by omega) hT'
/-- The law's plain statement. -/
theorem RecordsDecode : payrolllaw7_RecordsDecode.Pure := by
  intro l0 l1 _ hl0 _ hm1 hl1 hw1
  refine Ev.rounds ?_
  unfold payrolllaw7_RecordsDecode.f payrollgen_New.f
  simp only [Option.bind_some]
  exact decode_l0 (RecF.bytes hw1) 3 0 0 (by omega) (tp_new hl0)
end Go.Proofs.Ytopigdnffnondaa.Pure
