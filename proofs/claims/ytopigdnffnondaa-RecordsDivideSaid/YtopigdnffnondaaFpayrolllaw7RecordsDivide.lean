/- Proved here: that the Go function payrolllaw7_RecordsDivide computes the plain function of that name (the machine side of the laws, reworked from a print; no condition of its own). -/
import Derived.Test.YtopigdnffnondaaProg
import Derived.Test.YtopigdnffnondaaV1
import Derived.Test.YtopigdnffnondaaFPRE0
import Derived.Test.YtopigdnffnondaaFPRE1
import Derived.Test.YtopigdnffnondaaFPRE3
import Derived.Test.YtopigdnffnondaaFPRE7
import Derived.Test.YtopigdnffnondaaFpayrollgenNew
import Derived.Test.YtopigdnffnondaaFpayrollgenMod
import Derived.Test.YtopigdnffnondaaFrecordsDecode
import Derived.Test.YtopigdnffnondaaFpayrolllaw7sane
import Derived.Test.YtopigdnffnondaaFpayrolllaw7same
import Derived.Test.YtopigdnffnondaaFpayrolllaw7frames
namespace Go.Proofs.Ytopigdnffnondaa.P
open Go.RowKit Go.Proofs.YtopigdnffnondaaW.PrintWords Go.Proofs.YtopigdnffnondaaW.PrintLast Go.Proofs.YtopigdnffnondaaW.PrintMore
attribute [local go_sem] max2_int min2_int max_two min_two max_three min_three max_four min_four   -- for this text's walks alone
set_option linter.unusedVariables false
set_option linter.unusedSimpArgs false

mutual
def payrolllaw7_RecordsDivide.j0 : Nat → Int → List Int → Option (Bool)
 | 0, _, _ => none
 | k + 1, x1, x7 => (payrollgen_Mod.f x1 (wrap64 ((x7.length : Int) + 1))).bind fun t564 => ((records_Decode.f k x7).bind fun bt565 => (if 0 ≤ t564 then (if t564 ≤ (x7.length : Int) then ((records_Decode.f k (x7.take (t564 : Int).toNat)).bind fun bt576 => (if bt576.2.2 < 0 then (payrolllaw7_RecordsDivide.j1 k x7 bt565.1 bt565.2.2 bt576.1 bt576.2.2 true) else (if bt576.2.2 > t564 then (payrolllaw7_RecordsDivide.j1 k x7 bt565.1 bt565.2.2 bt576.1 bt576.2.2 true) else (payrolllaw7_RecordsDivide.j1 k x7 bt565.1 bt565.2.2 bt576.1 bt576.2.2 (decide ((wrap64 (t564 - bt576.2.2)) > 23)))))) else (none)) else (none)))
def payrolllaw7_RecordsDivide.j1 : Nat → List Int → List (S26) → Int → List (S26) → Int → Bool → Option (Bool)
 | 0, _, _, _, _, _, _ => none
 | k + 1, x7, x9, x11, x12, x14, x58 => if x58 = true then (some false) else (if 0 ≤ x14 then (if x14 ≤ (x7.length : Int) then ((records_Decode.f k (x7.drop (x14 : Int).toNat)).bind fun bt587 => ((some (([] : List (S26)) : List (S26))).bind fun y594 => (if y594.length + x12.length < 2513169434916 then ((some (y594 ++ x12 : List (S26))).bind fun y597 => (if y597.length + bt587.1.length < 2513169434916 then ((payrolllaw7_same.f k x9 ([] : List (S55)) (y597 ++ bt587.1) ([] : List (S55))).bind fun t603 => (if t603 = true then (if (wrap64 (x14 + bt587.2.2)) = x11 then ((payrolllaw7_sane.f k).bind fun t604 => (some t604)) else (some false)) else (some false))) else (none))) else (none)))) else (none)) else (none))
end
def payrolllaw7_RecordsDivide.f (k : Nat) (l0 : List Int) (a1 : Int) (l2 : List Int) : Option (Bool) := (payrollgen_New.f l0).bind fun bt554 => ((payrolllaw7_frames.f k bt554.1 bt554.2 5).bind fun bt557 => (if (l2.length : Int) ≤ 2000 then (if bt557.1.length + l2.length < 140737488355328 then (payrolllaw7_RecordsDivide.j0 k a1 (bt557.1 ++ l2)) else (none)) else (payrolllaw7_RecordsDivide.j0 k a1 bt557.1)))
theorem payrolllaw7_RecordsDivide.mono_l : ∀ k, (∀ y0 y1, LeO (payrolllaw7_RecordsDivide.j0 k y0 y1) (payrolllaw7_RecordsDivide.j0 (k + 1) y0 y1)) ∧ (∀ y0 y1 y2 y3 y4 y5, LeO (payrolllaw7_RecordsDivide.j1 k y0 y1 y2 y3 y4 y5) (payrolllaw7_RecordsDivide.j1 (k + 1) y0 y1 y2 y3 y4 y5))
 | 0 => ⟨fun _ _ r h => by simp [payrolllaw7_RecordsDivide.j0] at h, fun _ _ _ _ _ _ r h => by simp [payrolllaw7_RecordsDivide.j1] at h⟩
 | k + 1 => by
  obtain ⟨ih0, ih1⟩ := payrolllaw7_RecordsDivide.mono_l k
  refine ⟨?_, ?_⟩
  ·
   intro y0 y1
   unfold payrolllaw7_RecordsDivide.j0
   repeat' first
   | (with_reducible exact ih0 _ _)
   | (with_reducible exact ih1 _ _ _ _ _ _)
   | (with_reducible exact payrolllaw7_frames.mono _ _ _ _)
   | (with_reducible exact payrolllaw7_same.mono _ _ _ _ _)
   | (with_reducible exact payrolllaw7_sane.mono _)
   | (with_reducible exact records_Decode.mono _ _)
   | (with_reducible exact LeO.refl _)
   | (with_reducible exact LeO.none _)
   | (with_reducible refine LeO.ite ?_ ?_)
   | (with_reducible refine LeO.bind ?_ (fun _ => ?_))
   | exact ih0 _ _
   | exact ih1 _ _ _ _ _ _
   | exact payrolllaw7_frames.mono _ _ _ _
   | exact payrolllaw7_same.mono _ _ _ _ _
   | exact payrolllaw7_sane.mono _
   | exact records_Decode.mono _ _
   | exact LeO.none _
   | refine LeO.ite ?_ ?_
   | refine LeO.bind ?_ (fun _ => ?_)
  ·
   intro y0 y1 y2 y3 y4 y5
   unfold payrolllaw7_RecordsDivide.j1
   repeat' first
   | (with_reducible exact ih0 _ _)
   | (with_reducible exact ih1 _ _ _ _ _ _)
   | (with_reducible exact payrolllaw7_frames.mono _ _ _ _)
   | (with_reducible exact payrolllaw7_same.mono _ _ _ _ _)
   | (with_reducible exact payrolllaw7_sane.mono _)
   | (with_reducible exact records_Decode.mono _ _)
   | (with_reducible exact LeO.refl _)
   | (with_reducible exact LeO.none _)
   | (with_reducible refine LeO.ite ?_ ?_)
   | (with_reducible refine LeO.bind ?_ (fun _ => ?_))
   | exact ih0 _ _
   | exact ih1 _ _ _ _ _ _
   | exact payrolllaw7_frames.mono _ _ _ _
   | exact payrolllaw7_same.mono _ _ _ _ _
   | exact payrolllaw7_sane.mono _
   | exact records_Decode.mono _ _
   | exact LeO.none _
   | refine LeO.ite ?_ ?_
   | refine LeO.bind ?_ (fun _ => ?_)
theorem payrolllaw7_RecordsDivide.mono : ∀ a0 a1 a2 k, LeO (payrolllaw7_RecordsDivide.f k a0 a1 a2) (payrolllaw7_RecordsDivide.f (k + 1) a0 a1 a2) := by
 intro a0 a1 a2 k
 obtain ⟨ih0, ih1⟩ := payrolllaw7_RecordsDivide.mono_l k
 unfold payrolllaw7_RecordsDivide.f
 repeat' first
   | (with_reducible exact ih0 _ _)
   | (with_reducible exact ih1 _ _ _ _ _ _)
   | (with_reducible exact payrolllaw7_frames.mono _ _ _ _)
   | (with_reducible exact payrolllaw7_same.mono _ _ _ _ _)
   | (with_reducible exact payrolllaw7_sane.mono _)
   | (with_reducible exact records_Decode.mono _ _)
   | (with_reducible exact LeO.refl _)
   | (with_reducible exact LeO.none _)
   | (with_reducible refine LeO.ite ?_ ?_)
   | (with_reducible refine LeO.bind ?_ (fun _ => ?_))
   | exact ih0 _ _
   | exact ih1 _ _ _ _ _ _
   | exact payrolllaw7_frames.mono _ _ _ _
   | exact payrolllaw7_same.mono _ _ _ _ _
   | exact payrolllaw7_sane.mono _
   | exact records_Decode.mono _ _
   | exact LeO.none _
   | refine LeO.ite ?_ ?_
   | refine LeO.bind ?_ (fun _ => ?_)
set_option maxHeartbeats 8000000 in
set_option maxRecDepth 100000 in
theorem payrolllaw7_RecordsDivide.calls (k : Nat) (A0 : Option Addr) (c0 : Nat) (l0 : List Int) (a1 : Int) (A2 : Option Addr) (c2 : Nat) (l2 : List Int) (r : Bool) (w : World) (hr0 : Kd.C (Kd.int .i64) w A0 l0.length l0) (hc0 : l0.length ≤ c0) (hr2 : Kd.C (Kd.int .u8) w A2 l2.length l2) (hc2 : l2.length ≤ c2) (h : payrolllaw7_RecordsDivide.f k l0 a1 l2 = some r) (hT : r = true) :
  Calls Try.prog 6 #[.slice A0 l0.length c0, .int .i64 a1, .slice A2 l2.length c2] w fun e w' => e = .returned (.bool r) ∧ Below w.heap.size w w' := by
 have HT := Aside0.mk hT
 clear hT
 have HR0 := Aside0.mk hr0
 have HC0 := Aside0.mk hc0
 clear hr0 hc0
 have HR2 := Aside0.mk hr2
 have HC2 := Aside0.mk hc2
 clear hr2 hc2
 have HB := Aside0.mk (Below.refl w.heap.size w)
 have H : ((payrollgen_New.f l0).bind fun bt554 => ((payrolllaw7_frames.f k bt554.1 bt554.2 5).bind fun bt557 => (if (l2.length : Int) ≤ 2000 then (if bt557.1.length + l2.length < 140737488355328 then (payrolllaw7_RecordsDivide.j0 k a1 (bt557.1 ++ l2)) else (none)) else (payrolllaw7_RecordsDivide.j0 k a1 bt557.1)))) = some r := h
 clear h
 replace H := Option.bind_eq_some_iff.mp H
 obtain ⟨⟨t554, t555⟩, A40, H⟩ := H
 replace H : ((payrolllaw7_frames.f k t554 t555 5).bind fun bt557 => (if (l2.length : Int) ≤ 2000 then (if bt557.1.length + l2.length < 140737488355328 then (payrolllaw7_RecordsDivide.j0 k a1 (bt557.1 ++ l2)) else (none)) else (payrolllaw7_RecordsDivide.j0 k a1 bt557.1))) = some r := H
 have A4 := Aside0.mk A40
 clear A40
 replace H := Option.bind_eq_some_iff.mp H
 obtain ⟨⟨t557, t560⟩, A50, H⟩ := H
 replace H : (if (l2.length : Int) ≤ 2000 then (if t557.length + l2.length < 140737488355328 then (payrolllaw7_RecordsDivide.j0 k a1 (t557 ++ l2)) else (none)) else (payrolllaw7_RecordsDivide.j0 k a1 t557)) = some r := H
 have A5 := Aside0.mk A50
 clear A50
 have HC6 := Aside0.mk H
 clear H
 go_enter Try.func6, Try.ntmps6
 go_upto_if 23 with (first | ((with_reducible refine gate_callee (f := 9) rfl ?_); refine goesL_ (some 19) rfl rfl Try.func9 (by kernel_rfl) rfl #[.slice A0 l0.length c0] rfl (by (try simp only [List.map_toArray, List.map_cons, List.map_nil]); first | done | rfl | (simp only [List.length_drop, List.length_take]; rfl)) ?_; (with_reducible refine (payrollgen_New.calls _ _ l0 t554 t555 w _ ?side1 ?side2 ?side3 A4.out).mono ?_); (case side1 => repeat (first | (with_reducible first | exact HB.out | apply below_alloc | apply pw_below_drewN | apply below_drew1) | exact HB.out)); (case side2 => exact HR0.out); (case side3 => exact HC0.out); rintro e w7 ⟨g556, rfl, hi, hb, hb2⟩; refine ⟨_, rfl, ?_⟩; have n0_ := Aside0.mk (hb); have n1_ := Aside0.mk (hi); clear HB; have HB := n0_; have HI556 := n1_; clear n0_ n1_; (try clear hb); (try clear hb2); (try clear hk); (try clear hi)) | ((with_reducible refine gate_callee (f := 20) rfl ?_); refine goesL_ (some 20) rfl rfl Try.func20 (by kernel_rfl) rfl #[.pointer (some ⟨g556, 0, none⟩), .int .i64 5] rfl (by (try simp only [List.map_toArray, List.map_cons, List.map_nil]); first | done | rfl | (simp only [List.length_drop, List.length_take]; rfl)) ?_; (with_reducible refine (payrolllaw7_frames.calls k g556 t554 t555 5 t557 t560 w _ ?side1 ?side2 A5.out).mono ?_); (case side1 => repeat (first | (with_reducible first | exact HI556.out | apply IsS57.alloc | apply IsS57.drewN | apply IsS57.drew | apply IsS57.set_1) | exact HI556.out)); (case side2 => repeat (first | (with_reducible first | exact HB.out | apply below_alloc | apply pw_below_drewN | apply below_drew1 | refine below_set ?_ (IsS57.ge HI556.out)) | exact HB.out)); rintro e w8 ⟨v558, rfl, ho0, hi, hb, hk⟩; refine ⟨_, rfl, ?_⟩; have n0_ := Aside0.mk (Kd.R_lower ho0 (below_size (by repeat (first | (with_reducible first | exact HB.out | apply below_alloc | apply pw_below_drewN | apply below_drew1 | refine below_set ?_ (IsS57.ge HI556.out)) | exact HB.out)))); have n1_ := Aside0.mk (hb); have n2_ := Aside0.mk (hi); clear HB; clear HI556; have HO559 := n0_; have HB := n1_; have HI556 := n2_; clear n0_ n1_ n2_; (try clear hb); (try clear hb2); (try clear hk); (try clear hi); (try clear ho0)))
 (try simp only [Act.put, List.setIfInBounds_toArray, List.set_cons_zero, List.set_cons_succ])
 go_cut [7] (fun v7 wc => ∃ (kq : Nat) (x7_5 : List Int), Aside0 (payrolllaw7_RecordsDivide.j0 kq a1 x7_5 = some r) ∧ Aside0 (kq ≤ k) ∧ Aside0 (Kd.R (Kd.int .u8) 5 wc w.heap.size (fun _ => True) v7 x7_5) ∧ Aside0 (Below w.heap.size w wc))
 case first =>
  have H := HC6.out
  clear HC6
  by_cases c9 : (l2.length : Int) ≤ 2000
  ·
   rw [if_pos c9] at H
   have c9b0 : decide ((l2.length : Int) ≤ 2000) = true := decide_eq_true c9
   have c9b1 : decide (l2.length ≤ 2000) = true := decide_eq_true (by omega)
   clear c9
   (first | rw [c9b0] | (simp only [i64_w, i32_w]; rw [c9b0]) | skip)
   by_cases c10 : t557.length + l2.length < 140737488355328
   ·
    rw [if_pos c10] at H
    have LMc10 := Aside0.mk c10
    clear c10
    obtain ⟨y561, hy561⟩ : ∃ y_ : List Int, y_ = (t557 ++ l2) := ⟨_, rfl⟩
    replace H : (payrolllaw7_RecordsDivide.j0 k a1 y561) = some r := by first | (rw [hy561]; with_reducible exact H) | (have H2_ := (Option.bind_some _ _).symm.trans H; rw [hy561]; with_reducible exact H2_) | (have H2_ := (Option.bind_some _ _).symm.trans H; with_reducible exact H2_) | with_reducible exact H | (rw [hy561]; exact H) | exact H
    have Ny561 := Aside0.mk hy561
    clear hy561
    have H' := Aside0.mk H
    clear H
    go_wp2_with (first | ((with_reducible refine gate_builtin (b := .append) (xs := #[.tmp 24, .tmp 25]) rfl ?_); at_builtin; refine Kd.R_append_rows (Kd.int .u8) (w0 := w) w.heap.size rfl (.tmp 24) (.tmp 25) 27 5 (.int .u8 0) 1 rfl Try.underlying27 info5 rfl (by decide) (by omega) v558 t557 l2 _ _ _ (fun _ => True) (fun _ => False) rfl rfl ?aO ?aR (fun _ _ h => h) (fun _ h => h.elim) ?aF ?aB ?aS ?aL ?_; (case aR => repeat (first | exact (Kd.C_below HR2.out HB.out) | (with_reducible refine Kd.C_alloc ?_ _) | (with_reducible refine Kd.C_drewN ?_ _) | (with_reducible refine Kd.C_drew ?_))); (case aB => exact (by repeat (first | (with_reducible first | exact HB.out | apply below_alloc | apply pw_below_drewN | apply below_drew1 | refine below_set ?_ (IsS57.ge HI556.out)) | exact HB.out))); (case aF => exact (fun _ _ => trivial)); (case aO => exact (by (with_reducible repeat (first | apply Kd.R_alloc | apply Kd.R_drewN | apply Kd.R_drew)); exact HO559.out)); (case aS => exact (below_size (by repeat (first | (with_reducible first | exact HB.out | apply below_alloc | apply pw_below_drewN | apply below_drew1 | refine below_set ?_ (IsS57.ge HI556.out)) | exact HB.out)))); (case aL => have := LMc10.out; omega); intro v562 w11 ho hb hg hat; rw [← Ny561.out] at ho; have n0_ := Aside0.mk (IsS57.grown (by repeat (first | (with_reducible first | exact HI556.out | apply IsS57.alloc | apply IsS57.drewN | apply IsS57.drew | apply IsS57.set_1) | exact HI556.out)) hg (IsS57.own_ne HI556.out HO559.out (by decide))); have n1_ := Aside0.mk (hb); have n2_ := Aside0.mk (ho); clear HI556; clear HB; clear HO559; have HI556 := n0_; have HB := n1_; have HO563 := n2_; clear n0_ n1_ n2_; clear ho hb hg hat))
    go_meet
    case rel => exact ⟨_, (y561), H', ⟨by first | omega | exact Nat.le_refl _⟩, ⟨by (with_reducible repeat (first | apply Kd.R_alloc | apply Kd.R_drewN | apply Kd.R_drew)); exact HO563.out⟩, ⟨by repeat (first | (with_reducible first | exact HB.out | apply below_alloc | apply pw_below_drewN | apply below_drew1 | refine below_set ?_ (IsS57.ge HI556.out)) | exact HB.out)⟩⟩
   ·
    rw [if_neg c10] at H
    exact absurd H (by simp)
  ·
   rw [if_neg c9] at H
   have c9b0 : decide ((l2.length : Int) ≤ 2000) = false := decide_eq_false c9
   have c9b1 : decide (l2.length ≤ 2000) = false := decide_eq_false (by omega)
   clear c9
   (first | rw [c9b0] | (simp only [i64_w, i32_w]; rw [c9b0]) | skip)
   have H' := Aside0.mk H
   clear H
   go_wp2
   go_meet
   case rel => exact ⟨_, (t557), H', ⟨by first | omega | exact Nat.le_refl _⟩, ⟨by (with_reducible repeat (first | apply Kd.R_alloc | apply Kd.R_drewN | apply Kd.R_drew)); exact HO559.out⟩, ⟨by repeat (first | (with_reducible first | exact HB.out | apply below_alloc | apply pw_below_drewN | apply below_drew1 | refine below_set ?_ (IsS57.ge HI556.out)) | exact HB.out)⟩⟩
 case rest =>
  clear HC6
  try clear c1
  try clear c2
  try clear p2
  try clear c6
  try clear c9
  try clear c9b0
  try clear c9b1
  try clear c10
  obtain ⟨kq, x7_5, HA, HJ5, HO_7, HB⟩ := hcut
  cases kq with
  | zero => exact absurd HA.out (by simp [payrolllaw7_RecordsDivide.j0])
  | succ kj5 =>
   have H := HA.out
   clear HA
   simp only [payrolllaw7_RecordsDivide.j0] at H
   replace H := Option.bind_eq_some_iff.mp H
   obtain ⟨t564, A120, H⟩ := H
   replace H : ((records_Decode.f kj5 x7_5).bind fun bt565 => (if 0 ≤ t564 then (if t564 ≤ (x7_5.length : Int) then ((records_Decode.f kj5 (x7_5.take (t564 : Int).toNat)).bind fun bt576 => (if bt576.2.2 < 0 then (payrolllaw7_RecordsDivide.j1 kj5 x7_5 bt565.1 bt565.2.2 bt576.1 bt576.2.2 true) else (if bt576.2.2 > t564 then (payrolllaw7_RecordsDivide.j1 kj5 x7_5 bt565.1 bt565.2.2 bt576.1 bt576.2.2 true) else (payrolllaw7_RecordsDivide.j1 kj5 x7_5 bt565.1 bt565.2.2 bt576.1 bt576.2.2 (decide ((wrap64 (t564 - bt576.2.2)) > 23)))))) else (none)) else (none))) = some r := H
   have A12 := Aside0.mk A120
   clear A120
   replace H := Option.bind_eq_some_iff.mp H
   obtain ⟨⟨t565, t566, t567⟩, A130, H⟩ := H
   replace H : (if 0 ≤ t564 then (if t564 ≤ (x7_5.length : Int) then ((records_Decode.f kj5 (x7_5.take (t564 : Int).toNat)).bind fun bt576 => (if bt576.2.2 < 0 then (payrolllaw7_RecordsDivide.j1 kj5 x7_5 t565 t567 bt576.1 bt576.2.2 true) else (if bt576.2.2 > t564 then (payrolllaw7_RecordsDivide.j1 kj5 x7_5 t565 t567 bt576.1 bt576.2.2 true) else (payrolllaw7_RecordsDivide.j1 kj5 x7_5 t565 t567 bt576.1 bt576.2.2 (decide ((wrap64 (t564 - bt576.2.2)) > 23)))))) else (none)) else (none)) = some r := H
   have A13 := Aside0.mk A130
   clear A130
   by_cases c14 : 0 ≤ t564
   ·
    rw [if_pos c14] at H
    have c14b0 := eq_true c14
    have c14b1 : decide (0 ≤ t564) = true := decide_eq_true c14
    clear c14
    by_cases c15 : t564 ≤ (x7_5.length : Int)
    ·
     rw [if_pos c15] at H
     have c15b0 := eq_true c15
     have c15b1 : decide (t564 ≤ (x7_5.length : Int)) = true := decide_eq_true c15
     clear c15
     obtain ⟨y572, hy572⟩ : ∃ y_ : List Int, y_ = (x7_5.take (t564 : Int).toNat) := ⟨_, rfl⟩
     replace H : ((records_Decode.f kj5 y572).bind fun bt576 => (if bt576.2.2 < 0 then (payrolllaw7_RecordsDivide.j1 kj5 x7_5 t565 t567 bt576.1 bt576.2.2 true) else (if bt576.2.2 > t564 then (payrolllaw7_RecordsDivide.j1 kj5 x7_5 t565 t567 bt576.1 bt576.2.2 true) else (payrolllaw7_RecordsDivide.j1 kj5 x7_5 t565 t567 bt576.1 bt576.2.2 (decide ((wrap64 (t564 - bt576.2.2)) > 23)))))) = some r := by first | (rw [hy572]; with_reducible exact H) | (have H2_ := (Option.bind_some _ _).symm.trans H; rw [hy572]; with_reducible exact H2_) | (have H2_ := (Option.bind_some _ _).symm.trans H; with_reducible exact H2_) | with_reducible exact H | (rw [hy572]; exact H) | exact H
     have Ny572 := Aside0.mk hy572
     clear hy572
     replace H := Option.bind_eq_some_iff.mp H
     obtain ⟨⟨t576, t577, t578⟩, A160, H⟩ := H
     replace H : (if t578 < 0 then (payrolllaw7_RecordsDivide.j1 kj5 x7_5 t565 t567 t576 t578 true) else (if t578 > t564 then (payrolllaw7_RecordsDivide.j1 kj5 x7_5 t565 t567 t576 t578 true) else (payrolllaw7_RecordsDivide.j1 kj5 x7_5 t565 t567 t576 t578 (decide ((wrap64 (t564 - t578)) > 23))))) = some r := H
     have A16 := Aside0.mk A160
     clear A160
     have HC17 := Aside0.mk H
     clear H
     obtain ⟨Ao18, co18, eo18⟩ := Kd.R_slice HO_7.out
     subst eo18
     go_upto_region 7 with (first | ((with_reducible refine gate_callee (f := 26) rfl ?_); refine goesL_ (some 31) rfl rfl Try.func26 (by kernel_rfl) rfl #[.int .i64 a1, .int .i64 (wrap64 ((x7_5.length : Int) + 1))] rfl (by (try simp only [List.map_toArray, List.map_cons, List.map_nil]); first | done | rfl | (simp only [List.length_drop, List.length_take]; rfl)) ?_; (with_reducible refine (payrollgen_Mod.calls a1 (wrap64 ((x7_5.length : Int) + 1)) t564 _ A12.out).mono ?_); rintro e w' ⟨rfl, ⟨nd, rfl⟩⟩; refine ⟨_, rfl, ?_⟩) | ((with_reducible refine gate_callee (f := 24) rfl ?_); refine goesL_ (some 34) rfl rfl Try.func24 (by kernel_rfl) rfl #[.slice Ao18 x7_5.length co18] rfl (by (try simp only [List.map_toArray, List.map_cons, List.map_nil]); first | done | rfl | (simp only [List.length_drop, List.length_take]; rfl)) ?_; (with_reducible refine (records_Decode.calls kj5 _ _ x7_5 t565 t566 t567 _ ?side1 ?side2 A13.out).mono ?_); (case side1 => repeat (first | exact (Kd.R_reads' HO_7.out).2.2 | (with_reducible refine Kd.C_alloc ?_ _) | (with_reducible refine Kd.C_drewN ?_ _) | (with_reducible refine Kd.C_drew ?_))); (case side2 => exact (Kd.R_reads' HO_7.out).2.1); rintro e w19 ⟨v568, v570, rfl, ho0, ho1, hb⟩; refine ⟨_, rfl, ?_⟩; have n0_ := Aside0.mk (Kd.R_below (by (with_reducible repeat (first | apply Kd.R_alloc | apply Kd.R_drewN | apply Kd.R_drew)); exact HO_7.out) hb); have n1_ := Aside0.mk (Kd.R_lower ho0 (below_size (by repeat (first | (with_reducible first | exact HB.out | apply below_alloc | apply pw_below_drewN | apply below_drew1) | exact HB.out)))); have n2_ := Aside0.mk (Kd.R_lower ho1 (below_size (by repeat (first | (with_reducible first | exact HB.out | apply below_alloc | apply pw_below_drewN | apply below_drew1) | exact HB.out)))); have n3_ := Aside0.mk (below_step (by repeat (first | (with_reducible first | exact HB.out | apply below_alloc | apply pw_below_drewN | apply below_drew1) | exact HB.out)) hb); clear HO_7; clear HB; have HO_7 := n0_; have HO569 := n1_; have HO571 := n2_; have HB := n3_; clear n0_ n1_ n2_ n3_; (try clear hb); (try clear hb2); (try clear hk); (try clear hi); (try clear ho0); (try clear ho1); have q20 : (t564 : Int) ≤ ((x7_5.length : Int) : Int) := of_decide_eq_true (by first | (with_reducible assumption) | assumption); obtain ⟨i020, hi020, _, hsz20, _⟩ := info_parts info5; have hroom20 : x7_5.length ≤ co18 := (Kd.R_reads' HO_7.out).2.1; have hC20 : Kd.C (Kd.int .u8) _ Ao18 x7_5.length x7_5 := (Kd.R_reads' HO_7.out).2.2; have hcut20 := cut_to (P := Try.prog) 27 5 .i64 Try.underlying27 hi020 Ao18 x7_5.length co18 t564 (of_decide_eq_true (by first | (with_reducible assumption) | assumption)) q20 hroom20; have hr20 := Kd.C_take (m := (t564 : Int).toNat) hC20 (by omega); have hy20 : y572.length = (t564 : Int).toNat := (by rw [Ny572.out, List.length_take]; omega); rw [← Ny572.out] at hr20; rw [← hy20] at hcut20; have HR575 := Aside0.mk hr20; have HC575 := Aside0.mk (show y572.length ≤ co18 from by omega); clear hr20 hC20 hroom20 hi020 hsz20; have KY20 := Aside0.mk hy20; clear hy20; have KL20 := Aside0.mk (show (t564 : Int).toNat ≤ x7_5.length from by omega); replace q20 := eq_true q20) | ((with_reducible refine gate_callee (f := 24) rfl ?_); refine goesL_ (some 42) rfl rfl Try.func24 (by kernel_rfl) rfl #[.slice Ao18 y572.length co18] rfl (by (try simp only [List.map_toArray, List.map_cons, List.map_nil]); first | done | rfl | (simp only [List.length_drop, List.length_take]; rfl)) ?_; (with_reducible refine (records_Decode.calls kj5 _ _ y572 t576 t577 t578 _ ?side1 ?side2 A16.out).mono ?_); (case side1 => repeat (first | exact (by repeat (first | (with_reducible exact HR575.out) | (with_reducible refine Kd.C_alloc ?_ _) | (with_reducible refine Kd.C_drewN ?_ _) | (with_reducible refine Kd.C_drew ?_) | exact HR575.out)) | (with_reducible refine Kd.C_alloc ?_ _) | (with_reducible refine Kd.C_drewN ?_ _) | (with_reducible refine Kd.C_drew ?_))); (case side2 => exact HC575.out); rintro e w21 ⟨v579, v581, rfl, ho0, ho1, hb⟩; refine ⟨_, rfl, ?_⟩; have n0_ := Aside0.mk (Kd.R_below (by (with_reducible repeat (first | apply Kd.R_alloc | apply Kd.R_drewN | apply Kd.R_drew)); exact HO_7.out) hb); have n1_ := Aside0.mk (Kd.R_elder' (by (with_reducible repeat (first | apply Kd.R_alloc | apply Kd.R_drewN | apply Kd.R_drew)); exact HO569.out) (Kd.R_base ho0) hb); have n2_ := Aside0.mk (Kd.R_elder' (by (with_reducible repeat (first | apply Kd.R_alloc | apply Kd.R_drewN | apply Kd.R_drew)); exact HO571.out) (Kd.R_base ho1) hb); have n3_ := Aside0.mk (Kd.R_lower (Kd.R_new' ho0 (Kd.R_lt (by (with_reducible repeat (first | apply Kd.R_alloc | apply Kd.R_drewN | apply Kd.R_drew)); exact HO569.out))) (below_size (by repeat (first | (with_reducible first | exact HB.out | apply below_alloc | apply pw_below_drewN | apply below_drew1) | exact HB.out)))); have n4_ := Aside0.mk (Kd.R_lower (Kd.R_new' ho1 (Kd.R_lt (by (with_reducible repeat (first | apply Kd.R_alloc | apply Kd.R_drewN | apply Kd.R_drew)); exact HO571.out))) (below_size (by repeat (first | (with_reducible first | exact HB.out | apply below_alloc | apply pw_below_drewN | apply below_drew1) | exact HB.out)))); have n5_ := Aside0.mk (Kd.C_below (by repeat (first | (with_reducible exact HR575.out) | (with_reducible refine Kd.C_alloc ?_ _) | (with_reducible refine Kd.C_drewN ?_ _) | (with_reducible refine Kd.C_drew ?_) | exact HR575.out)) hb); have n6_ := Aside0.mk (below_step (by repeat (first | (with_reducible first | exact HB.out | apply below_alloc | apply pw_below_drewN | apply below_drew1) | exact HB.out)) hb); clear HO_7; clear HO569; clear HO571; clear HR575; clear HB; have HO_7 := n0_; have HO569 := n1_; have HO571 := n2_; have HO580 := n3_; have HO582 := n4_; have HR575 := n5_; have HB := n6_; clear n0_ n1_ n2_ n3_ n4_ n5_ n6_; (try clear hb); (try clear hb2); (try clear hk); (try clear hi); (try clear ho0); (try clear ho1)))
     (try simp only [Act.put, List.setIfInBounds_toArray, List.set_cons_zero, List.set_cons_succ])
     go_cut [58] (fun v58 wc => ∃ (kq : Nat) (x58_16 : Bool), v58 = .bool x58_16 ∧ Aside0 (payrolllaw7_RecordsDivide.j1 kq x7_5 t565 t567 t576 t578 x58_16 = some r) ∧ Aside0 (kq ≤ kj5) ∧ Aside0 (Kd.R (Kd.int .u8) 5 wc w.heap.size (fun _ => True) (.slice Ao18 x7_5.length co18) x7_5) ∧ Aside0 (Kd.R k26 26 wc w.heap.size (fun k_ => some k_ ≠ (v579 : Value).ownBlock) v568 t565) ∧ Aside0 (Kd.R k26 26 wc w.heap.size (fun k_ => some k_ ≠ (v568 : Value).ownBlock) v579 t576) ∧ Aside0 (Kd.C (Kd.int .u8) wc Ao18 y572.length y572) ∧ Aside0 (Below w.heap.size w wc))
     case first =>
      have H := HC17.out
      clear HC17
      by_cases c22 : t578 < 0
      ·
       rw [if_pos c22] at H
       have c22b0 : decide (t578 < 0) = true := decide_eq_true c22
       clear c22
       (first | rw [c22b0] | (simp only [i64_w, i32_w]; rw [c22b0]) | skip)
       have H' := Aside0.mk H
       clear H
       go_wp2
       go_meet
       case rel => exact ⟨_, (true), (by first | rfl | (simp; done) | (simp [*]; done)), H', ⟨by have := HJ5.out; first | omega | exact Nat.le_refl _⟩, ⟨by (with_reducible repeat (first | apply Kd.R_alloc | apply Kd.R_drewN | apply Kd.R_drew)); exact HO_7.out⟩, ⟨by (with_reducible repeat (first | apply Kd.R_alloc | apply Kd.R_drewN | apply Kd.R_drew)); exact Kd.R_mono HO569.out (fun _ hk => hk.2)⟩, ⟨by (with_reducible repeat (first | apply Kd.R_alloc | apply Kd.R_drewN | apply Kd.R_drew)); exact Kd.R_mono HO580.out (fun _ hk => hk.2)⟩, ⟨by repeat (first | (with_reducible exact HR575.out) | (with_reducible refine Kd.C_alloc ?_ _) | (with_reducible refine Kd.C_drewN ?_ _) | (with_reducible refine Kd.C_drew ?_) | exact HR575.out)⟩, ⟨by repeat (first | (with_reducible first | exact HB.out | apply below_alloc | apply pw_below_drewN | apply below_drew1) | exact HB.out)⟩⟩
      ·
       rw [if_neg c22] at H
       have c22b0 : decide (t578 < 0) = false := decide_eq_false c22
       clear c22
       (first | rw [c22b0] | (simp only [i64_w, i32_w]; rw [c22b0]) | skip)
       by_cases c23 : t578 > t564
       ·
        rw [if_pos c23] at H
        have c23b0 : decide (t564 < t578) = true := decide_eq_true c23
        clear c23
        have H' := Aside0.mk H
        clear H
        go_wp2
        go_meet
        case rel => exact ⟨_, (true), (by first | rfl | (simp; done) | (simp [*]; done)), H', ⟨by have := HJ5.out; first | omega | exact Nat.le_refl _⟩, ⟨by (with_reducible repeat (first | apply Kd.R_alloc | apply Kd.R_drewN | apply Kd.R_drew)); exact HO_7.out⟩, ⟨by (with_reducible repeat (first | apply Kd.R_alloc | apply Kd.R_drewN | apply Kd.R_drew)); exact Kd.R_mono HO569.out (fun _ hk => hk.2)⟩, ⟨by (with_reducible repeat (first | apply Kd.R_alloc | apply Kd.R_drewN | apply Kd.R_drew)); exact Kd.R_mono HO580.out (fun _ hk => hk.2)⟩, ⟨by repeat (first | (with_reducible exact HR575.out) | (with_reducible refine Kd.C_alloc ?_ _) | (with_reducible refine Kd.C_drewN ?_ _) | (with_reducible refine Kd.C_drew ?_) | exact HR575.out)⟩, ⟨by repeat (first | (with_reducible first | exact HB.out | apply below_alloc | apply pw_below_drewN | apply below_drew1) | exact HB.out)⟩⟩
       ·
        rw [if_neg c23] at H
        have c23b0 : decide (t564 < t578) = false := decide_eq_false c23
        clear c23
        have H' := Aside0.mk H
        clear H
        go_wp2
        go_meet
        case rel => exact ⟨_, (decide ((wrap64 (t564 - t578)) > 23)), (by first | rfl | (simp; done) | (simp [*]; done)), H', ⟨by have := HJ5.out; first | omega | exact Nat.le_refl _⟩, ⟨by (with_reducible repeat (first | apply Kd.R_alloc | apply Kd.R_drewN | apply Kd.R_drew)); exact HO_7.out⟩, ⟨by (with_reducible repeat (first | apply Kd.R_alloc | apply Kd.R_drewN | apply Kd.R_drew)); exact Kd.R_mono HO569.out (fun _ hk => hk.2)⟩, ⟨by (with_reducible repeat (first | apply Kd.R_alloc | apply Kd.R_drewN | apply Kd.R_drew)); exact Kd.R_mono HO580.out (fun _ hk => hk.2)⟩, ⟨by repeat (first | (with_reducible exact HR575.out) | (with_reducible refine Kd.C_alloc ?_ _) | (with_reducible refine Kd.C_drewN ?_ _) | (with_reducible refine Kd.C_drew ?_) | exact HR575.out)⟩, ⟨by repeat (first | (with_reducible first | exact HB.out | apply below_alloc | apply pw_below_drewN | apply below_drew1) | exact HB.out)⟩⟩
     case rest =>
      clear HC17
      try clear c1
      try clear c2
      try clear p2
      try clear q2
      try clear c6
      try clear p6
      try clear c9
      try clear c9b0
      try clear c9b1
      try clear c10
      try clear c14
      try clear c14b0
      try clear c14b1
      try clear c15
      try clear c15b0
      try clear c15b1
      try clear c20
      try clear q20
      try clear c22
      try clear c22b0
      try clear c23
      try clear c23b0
      try clear p2
      try clear q20
      obtain ⟨kq, x58_16, rfl, HA, HJ16, HO_7, HO_9, HO_12, HR575, HB⟩ := hcut
      cases kq with
      | zero => exact absurd HA.out (by simp [payrolllaw7_RecordsDivide.j1])
      | succ kj16 =>
       have H := HA.out
       clear HA
       simp only [payrolllaw7_RecordsDivide.j1] at H
       by_cases c24 : x58_16 = true
       ·
        subst c24
        have H1 : (some false) = some r := by rw [if_pos rfl] at H; exact H
        clear H
        have H := H1
        clear H1
        obtain rfl := Option.some.inj H
        go_wp2
        go_ret
        exact ⟨by first | rfl | (simp [errW_none, errW_some] <;> rfl) | (simp [*, errW_none, errW_some] <;> rfl), by repeat (first | (with_reducible first | exact HB.out | apply below_alloc | apply pw_below_drewN | apply below_drew1) | exact HB.out)⟩
       ·
        replace c24 := Bool.eq_false_iff.mpr c24
        subst c24
        have H1 : (if 0 ≤ t578 then (if t578 ≤ (x7_5.length : Int) then ((records_Decode.f kj16 (x7_5.drop (t578 : Int).toNat)).bind fun bt587 => ((some (([] : List (S26)) : List (S26))).bind fun y594 => (if y594.length + t576.length < 2513169434916 then ((some (y594 ++ t576 : List (S26))).bind fun y597 => (if y597.length + bt587.1.length < 2513169434916 then ((payrolllaw7_same.f kj16 t565 ([] : List (S55)) (y597 ++ bt587.1) ([] : List (S55))).bind fun t603 => (if t603 = true then (if (wrap64 (t578 + bt587.2.2)) = t567 then ((payrolllaw7_sane.f kj16).bind fun t604 => (some t604)) else (some false)) else (some false))) else (none))) else (none)))) else (none)) else (none)) = some r := by rw [if_neg (show ¬ (false = true) by decide)] at H; exact H
        clear H
        have H := H1
        clear H1
        by_cases c25 : 0 ≤ t578
        ·
         rw [if_pos c25] at H
         have c25b0 := eq_true c25
         have c25b1 : decide (0 ≤ t578) = true := decide_eq_true c25
         clear c25
         by_cases c26 : t578 ≤ (x7_5.length : Int)
         ·
          rw [if_pos c26] at H
          have c26b0 := eq_true c26
          have c26b1 : decide (t578 ≤ (x7_5.length : Int)) = true := decide_eq_true c26
          clear c26
          obtain ⟨y583, hy583⟩ : ∃ y_ : List Int, y_ = (x7_5.drop (t578 : Int).toNat) := ⟨_, rfl⟩
          replace H : ((records_Decode.f kj16 y583).bind fun bt587 => ((some (([] : List (S26)) : List (S26))).bind fun y594 => (if y594.length + t576.length < 2513169434916 then ((some (y594 ++ t576 : List (S26))).bind fun y597 => (if y597.length + bt587.1.length < 2513169434916 then ((payrolllaw7_same.f kj16 t565 ([] : List (S55)) (y597 ++ bt587.1) ([] : List (S55))).bind fun t603 => (if t603 = true then (if (wrap64 (t578 + bt587.2.2)) = t567 then ((payrolllaw7_sane.f kj16).bind fun t604 => (some t604)) else (some false)) else (some false))) else (none))) else (none)))) = some r := by first | (rw [hy583]; with_reducible exact H) | (have H2_ := (Option.bind_some _ _).symm.trans H; rw [hy583]; with_reducible exact H2_) | (have H2_ := (Option.bind_some _ _).symm.trans H; with_reducible exact H2_) | with_reducible exact H | (rw [hy583]; exact H) | exact H
          have Ny583 := Aside0.mk hy583
          clear hy583
          replace H := Option.bind_eq_some_iff.mp H
          obtain ⟨⟨t587, t588, t589⟩, A270, H⟩ := H
          replace H : ((some (([] : List (S26)) : List (S26))).bind fun y594 => (if y594.length + t576.length < 2513169434916 then ((some (y594 ++ t576 : List (S26))).bind fun y597 => (if y597.length + t587.length < 2513169434916 then ((payrolllaw7_same.f kj16 t565 ([] : List (S55)) (y597 ++ t587) ([] : List (S55))).bind fun t603 => (if t603 = true then (if (wrap64 (t578 + t589)) = t567 then ((payrolllaw7_sane.f kj16).bind fun t604 => (some t604)) else (some false)) else (some false))) else (none))) else (none))) = some r := H
          have A27 := Aside0.mk A270
          clear A270
          obtain ⟨y594, hy594⟩ : ∃ y_ : List (S26), y_ = (([] : List (S26))) := ⟨_, rfl⟩
          replace H : (if y594.length + t576.length < 2513169434916 then ((some (y594 ++ t576 : List (S26))).bind fun y597 => (if y597.length + t587.length < 2513169434916 then ((payrolllaw7_same.f kj16 t565 ([] : List (S55)) (y597 ++ t587) ([] : List (S55))).bind fun t603 => (if t603 = true then (if (wrap64 (t578 + t589)) = t567 then ((payrolllaw7_sane.f kj16).bind fun t604 => (some t604)) else (some false)) else (some false))) else (none))) else (none)) = some r := by first | (rw [hy594]; with_reducible exact H) | (have H2_ := (Option.bind_some _ _).symm.trans H; rw [hy594]; with_reducible exact H2_) | (have H2_ := (Option.bind_some _ _).symm.trans H; with_reducible exact H2_) | with_reducible exact H | (rw [hy594]; exact H) | exact H
          have Ny594 := Aside0.mk hy594
          clear hy594
          by_cases c28 : y594.length + t576.length < 2513169434916
          ·
           rw [if_pos c28] at H
           have LMc28 := Aside0.mk c28
           clear c28
           obtain ⟨y597, hy597⟩ : ∃ y_ : List (S26), y_ = (y594 ++ t576) := ⟨_, rfl⟩
           replace H : (if y597.length + t587.length < 2513169434916 then ((payrolllaw7_same.f kj16 t565 ([] : List (S55)) (y597 ++ t587) ([] : List (S55))).bind fun t603 => (if t603 = true then (if (wrap64 (t578 + t589)) = t567 then ((payrolllaw7_sane.f kj16).bind fun t604 => (some t604)) else (some false)) else (some false))) else (none)) = some r := by first | (rw [hy597]; with_reducible exact H) | (have H2_ := (Option.bind_some _ _).symm.trans H; rw [hy597]; with_reducible exact H2_) | (have H2_ := (Option.bind_some _ _).symm.trans H; with_reducible exact H2_) | with_reducible exact H | (rw [hy597]; exact H) | exact H
           have Ny597 := Aside0.mk hy597
           clear hy597
           by_cases c29 : y597.length + t587.length < 2513169434916
           ·
            rw [if_pos c29] at H
            have LMc29 := Aside0.mk c29
            clear c29
            obtain ⟨y600, hy600⟩ : ∃ y_ : List (S26), y_ = (y597 ++ t587) := ⟨_, rfl⟩
            replace H : ((payrolllaw7_same.f kj16 t565 ([] : List (S55)) y600 ([] : List (S55))).bind fun t603 => (if t603 = true then (if (wrap64 (t578 + t589)) = t567 then ((payrolllaw7_sane.f kj16).bind fun t604 => (some t604)) else (some false)) else (some false))) = some r := by first | (rw [hy600]; with_reducible exact H) | (have H2_ := (Option.bind_some _ _).symm.trans H; rw [hy600]; with_reducible exact H2_) | (have H2_ := (Option.bind_some _ _).symm.trans H; with_reducible exact H2_) | with_reducible exact H | (rw [hy600]; exact H) | exact H
            have Ny600 := Aside0.mk hy600
            clear hy600
            replace H := Option.bind_eq_some_iff.mp H
            obtain ⟨t603, A300, H⟩ := H
            replace H : (if t603 = true then (if (wrap64 (t578 + t589)) = t567 then ((payrolllaw7_sane.f kj16).bind fun t604 => (some t604)) else (some false)) else (some false)) = some r := H
            have A30 := Aside0.mk A300
            clear A300
            by_cases c31 : t603 = true
            ·
             subst c31
             have H1 : (if (wrap64 (t578 + t589)) = t567 then ((payrolllaw7_sane.f kj16).bind fun t604 => (some t604)) else (some false)) = some r := by rw [if_pos rfl] at H; exact H
             clear H
             have H := H1
             clear H1
             by_cases c32 : (wrap64 (t578 + t589)) = t567
             ·
              rw [if_pos c32] at H
              have c32b0 : ((wrap64 (t578 + t589)) == t567) = true := beq_iff_eq.mpr c32
              have c32b1 : ((wrap64 (t578 + t589)) != t567) = false := bne_eq_false_iff_eq.mpr c32
              clear c32
              replace H := Option.bind_eq_some_iff.mp H
              obtain ⟨t604, A330, H⟩ := H
              replace H : (some t604) = some r := H
              have A33 := Aside0.mk A330
              clear A330
              obtain rfl := Option.some.inj H
              have q34 : (t578 : Int) ≤ ((x7_5.length : Int) : Int) := of_decide_eq_true (by first | (with_reducible assumption) | assumption)
              obtain ⟨i034, hi034, _, hsz34, _⟩ := info_parts info5
              have hroom34 : x7_5.length ≤ co18 := (Kd.R_reads' HO_7.out).2.1
              have hC34 : Kd.C (Kd.int .u8) _ Ao18 x7_5.length x7_5 := (Kd.R_reads' HO_7.out).2.2
              have q034 : (0 : Int) ≤ (t578 : Int) := of_decide_eq_true (by first | (with_reducible assumption) | assumption)
              have hcut34 := cut_from (P := Try.prog) 27 5 .i64 Try.underlying27 hi034 1 hsz34 Ao18 x7_5.length co18 t578 q034 q34
              have hr34 := Kd.C_drop (m := (t578 : Int).toNat) (c := co18) hC34 (by omega) hroom34
              obtain ⟨A34, hA34⟩ : ∃ A1, A1 = (if co18 = (t578 : Int).toNat then Ao18 else (Ao18 : Option Addr).map (·.add ((t578 : Int).toNat * 1))) := ⟨_, rfl⟩
              obtain ⟨c34, hc34⟩ : ∃ c1, c1 = co18 - (t578 : Int).toNat := ⟨_, rfl⟩
              have hy34 : y583.length = x7_5.length - (t578 : Int).toNat := (by rw [Ny583.out, List.length_drop] <;> omega)
              rw [show (x7_5).drop (t578 : Int).toNat = y583 from Ny583.out.symm] at hr34
              replace hr34 : Kd.C (Kd.int .u8) _ A34 y583.length y583 := (by rw [hA34]; exact hr34)
              rw [← hy34, ← hA34, ← hc34] at hcut34
              have HR586 := Aside0.mk hr34
              have HC586 := Aside0.mk (show y583.length ≤ c34 from by rw [hy34, hc34]; exact Nat.sub_le_sub_right hroom34 _)
              clear hr34 hC34 hroom34 hi034 hsz34 hc34
              have KY34 := Aside0.mk hy34
              have KA34 := Aside0.mk hA34
              clear hy34 hA34
              have KL34 := Aside0.mk (show (t578 : Int).toNat ≤ x7_5.length from by omega)
              replace q34 := eq_true q34
              go_wp2_with (first | ((with_reducible refine gate_callee (f := 24) rfl ?_); refine goesL_ (some 63) rfl rfl Try.func24 (by kernel_rfl) rfl #[.slice A34 y583.length c34] rfl (by (try simp only [List.map_toArray, List.map_cons, List.map_nil]); first | done | rfl | (simp only [List.length_drop, List.length_take]; rfl)) ?_; (with_reducible refine (records_Decode.calls kj16 _ _ y583 t587 t588 t589 _ ?side1 ?side2 A27.out).mono ?_); (case side1 => repeat (first | exact (by repeat (first | (with_reducible exact HR586.out) | (with_reducible refine Kd.C_alloc ?_ _) | (with_reducible refine Kd.C_drewN ?_ _) | (with_reducible refine Kd.C_drew ?_) | exact HR586.out)) | (with_reducible refine Kd.C_alloc ?_ _) | (with_reducible refine Kd.C_drewN ?_ _) | (with_reducible refine Kd.C_drew ?_))); (case side2 => exact HC586.out); rintro e w35 ⟨v590, v592, rfl, ho0, ho1, hb⟩; refine ⟨_, rfl, ?_⟩; have n0_ := Aside0.mk (Kd.R_below (by (with_reducible repeat (first | apply Kd.R_alloc | apply Kd.R_drewN | apply Kd.R_drew)); exact HO_7.out) hb); have n1_ := Aside0.mk (Kd.R_elder' (by (with_reducible repeat (first | apply Kd.R_alloc | apply Kd.R_drewN | apply Kd.R_drew)); exact HO_9.out) (Kd.R_base ho0) hb); have n2_ := Aside0.mk (Kd.R_elder' (by (with_reducible repeat (first | apply Kd.R_alloc | apply Kd.R_drewN | apply Kd.R_drew)); exact HO_12.out) (Kd.R_base ho0) hb); have n3_ := Aside0.mk (Kd.R_lower (Kd.R_new' (Kd.R_new' ho0 (Kd.R_lt (by (with_reducible repeat (first | apply Kd.R_alloc | apply Kd.R_drewN | apply Kd.R_drew)); exact HO_9.out))) (Kd.R_lt (by (with_reducible repeat (first | apply Kd.R_alloc | apply Kd.R_drewN | apply Kd.R_drew)); exact HO_12.out))) (below_size (by repeat (first | (with_reducible first | exact HB.out | apply below_alloc | apply pw_below_drewN | apply below_drew1) | exact HB.out)))); have n4_ := Aside0.mk (Kd.R_lower ho1 (below_size (by repeat (first | (with_reducible first | exact HB.out | apply below_alloc | apply pw_below_drewN | apply below_drew1) | exact HB.out)))); have n5_ := Aside0.mk (Kd.C_below (by repeat (first | (with_reducible exact HR575.out) | (with_reducible refine Kd.C_alloc ?_ _) | (with_reducible refine Kd.C_drewN ?_ _) | (with_reducible refine Kd.C_drew ?_) | exact HR575.out)) hb); have n6_ := Aside0.mk (Kd.C_below (by repeat (first | (with_reducible exact HR586.out) | (with_reducible refine Kd.C_alloc ?_ _) | (with_reducible refine Kd.C_drewN ?_ _) | (with_reducible refine Kd.C_drew ?_) | exact HR586.out)) hb); have n7_ := Aside0.mk (below_step (by repeat (first | (with_reducible first | exact HB.out | apply below_alloc | apply pw_below_drewN | apply below_drew1) | exact HB.out)) hb); clear HO_7; clear HO_9; clear HO_12; clear HR575; clear HR586; clear HB; have HO_7 := n0_; have HO_9 := n1_; have HO_12 := n2_; have HO591 := n3_; have HO593 := n4_; have HR575 := n5_; have HR586 := n6_; have HB := n7_; clear n0_ n1_ n2_ n3_ n4_ n5_ n6_ n7_; (try clear hb); (try clear hb2); (try clear hk); (try clear hi); (try clear ho0); (try clear ho1)) | ((with_reducible refine gate_dst (N := 68) rfl ?_); refine Kd.R_lit k26 _ 26 ?hg (N := 68) ?hd (xs := ([] : List (S26))) (inner := []) (ok := fun _ => True) (okp := fun _ => True) ?hr ?hp (fun _ hk => hk) trivial (Below.refl _ _) (Nat.le_refl _) (by simp) ?_; (case hd => rfl); (case hg => rfl); (case hr => first | (go_simp; done) | (go_simp; rfl)); (case hp => exact (Reps.none _ _)); intro v595 w36 ho37 hb hg_ hnew_; clear hg_ hnew_; (first | rw [← Ny594.out] at ho37 | (simp only [Int.reduceToNat] at ho37; rw [← Ny594.out] at ho37)); have n0_ := Aside0.mk (Kd.R_below (by (with_reducible repeat (first | apply Kd.R_alloc | apply Kd.R_drewN | apply Kd.R_drew)); exact HO_7.out) hb); have n1_ := Aside0.mk (Kd.R_elder' (by (with_reducible repeat (first | apply Kd.R_alloc | apply Kd.R_drewN | apply Kd.R_drew)); exact HO_9.out) (Kd.R_base ho37) hb); have n2_ := Aside0.mk (Kd.R_elder' (by (with_reducible repeat (first | apply Kd.R_alloc | apply Kd.R_drewN | apply Kd.R_drew)); exact HO_12.out) (Kd.R_base ho37) hb); have n3_ := Aside0.mk (Kd.R_elder' (by (with_reducible repeat (first | apply Kd.R_alloc | apply Kd.R_drewN | apply Kd.R_drew)); exact HO591.out) (Kd.R_base ho37) hb); have n4_ := Aside0.mk (Kd.R_below (by (with_reducible repeat (first | apply Kd.R_alloc | apply Kd.R_drewN | apply Kd.R_drew)); exact HO593.out) hb); have n5_ := Aside0.mk (Kd.R_lower (Kd.R_new' (Kd.R_new' (Kd.R_new' ho37 (Kd.R_lt (by (with_reducible repeat (first | apply Kd.R_alloc | apply Kd.R_drewN | apply Kd.R_drew)); exact HO_9.out))) (Kd.R_lt (by (with_reducible repeat (first | apply Kd.R_alloc | apply Kd.R_drewN | apply Kd.R_drew)); exact HO_12.out))) (Kd.R_lt (by (with_reducible repeat (first | apply Kd.R_alloc | apply Kd.R_drewN | apply Kd.R_drew)); exact HO591.out))) (below_size (by repeat (first | (with_reducible first | exact HB.out | apply below_alloc | apply pw_below_drewN | apply below_drew1) | exact HB.out)))); have n6_ := Aside0.mk (Kd.C_below (by repeat (first | (with_reducible exact HR575.out) | (with_reducible refine Kd.C_alloc ?_ _) | (with_reducible refine Kd.C_drewN ?_ _) | (with_reducible refine Kd.C_drew ?_) | exact HR575.out)) hb); have n7_ := Aside0.mk (Kd.C_below (by repeat (first | (with_reducible exact HR586.out) | (with_reducible refine Kd.C_alloc ?_ _) | (with_reducible refine Kd.C_drewN ?_ _) | (with_reducible refine Kd.C_drew ?_) | exact HR586.out)) hb); have n8_ := Aside0.mk (below_step (by repeat (first | (with_reducible first | exact HB.out | apply below_alloc | apply pw_below_drewN | apply below_drew1) | exact HB.out)) hb); clear HO_7; clear HO_9; clear HO_12; clear HO591; clear HO593; clear HR575; clear HR586; clear HB; have HO_7 := n0_; have HO_9 := n1_; have HO_12 := n2_; have HO591 := n3_; have HO593 := n4_; have HO596 := n5_; have HR575 := n6_; have HR586 := n7_; have HB := n8_; clear n0_ n1_ n2_ n3_ n4_ n5_ n6_ n7_ n8_; clear hb ho37; obtain ⟨Ao39, co39, eo39⟩ := Kd.R_slice HO_12.out; subst eo39) | ((with_reducible refine gate_builtin (b := .append) (xs := #[.tmp 68, .tmp 69]) rfl ?_); at_builtin; refine Kd.R_append_rows k26 (w0 := w) w.heap.size rfl (.tmp 68) (.tmp 69) 44 26 (.agg #[(.int .i64 0), (.int .i64 0), (.int .i64 0), (.int .i64 0), (.int .i64 0), (.int .i64 0), (.int .i64 0)]) 56 rfl Try.underlying44 info26 rfl (by decide) (by omega) v595 y594 t576 _ _ _ (fun k_ => some k_ ≠ (v568 : Value).ownBlock ∧ some k_ ≠ (.slice Ao39 t576.length co39 : Value).ownBlock ∧ some k_ ≠ (v590 : Value).ownBlock) (fun _ => False) rfl rfl ?aO ?aR (fun _ _ h => h) (fun _ h => h.elim) ?aF ?aB ?aS ?aL ?_; (case aR => repeat (first | exact (Kd.R_reads' HO_12.out).2.2 | (with_reducible refine Kd.C_alloc ?_ _) | (with_reducible refine Kd.C_drewN ?_ _) | (with_reducible refine Kd.C_drew ?_))); (case aB => exact (by repeat (first | (with_reducible first | exact HB.out | apply below_alloc | apply pw_below_drewN | apply below_drew1) | exact HB.out))); (case aF => exact (fun k_ hk => ⟨Kd.fresh' (Kd.R_lt (by (with_reducible repeat (first | apply Kd.R_alloc | apply Kd.R_drewN | apply Kd.R_drew)); exact HO_9.out)) k_ hk, Kd.fresh' (Kd.R_lt (by (with_reducible repeat (first | apply Kd.R_alloc | apply Kd.R_drewN | apply Kd.R_drew)); exact HO_12.out)) k_ hk, Kd.fresh' (Kd.R_lt (by (with_reducible repeat (first | apply Kd.R_alloc | apply Kd.R_drewN | apply Kd.R_drew)); exact HO591.out)) k_ hk⟩)); (case aO => exact (by (with_reducible repeat (first | apply Kd.R_alloc | apply Kd.R_drewN | apply Kd.R_drew)); exact Kd.R_mono HO596.out (fun _ hk => ⟨hk.1.1.2, ⟨hk.1.2, hk.2⟩⟩))); (case aS => exact (below_size (by repeat (first | (with_reducible first | exact HB.out | apply below_alloc | apply pw_below_drewN | apply below_drew1) | exact HB.out)))); (case aL => have := LMc28.out; omega); intro v598 w38 ho hb hg hat; rw [← Ny597.out] at ho; have n0_ := Aside0.mk (Kd.R_over' (by (with_reducible repeat (first | apply Kd.R_alloc | apply Kd.R_drewN | apply Kd.R_drew)); exact HO_7.out) (Kd.R_typed (by (with_reducible repeat (first | apply Kd.R_alloc | apply Kd.R_drewN | apply Kd.R_drew)); exact HO596.out)) (by decide) hg); have n1_ := Aside0.mk (Kd.R_after (ok := (fun k_ => some k_ ≠ (.slice Ao39 t576.length co39 : Value).ownBlock ∧ some k_ ≠ (v590 : Value).ownBlock)) (by (with_reducible repeat (first | apply Kd.R_alloc | apply Kd.R_drewN | apply Kd.R_drew)); exact HO_9.out) hg hat); have n2_ := Aside0.mk (Kd.R_after (ok := (fun k_ => some k_ ≠ (v568 : Value).ownBlock ∧ some k_ ≠ (v590 : Value).ownBlock)) (by (with_reducible repeat (first | apply Kd.R_alloc | apply Kd.R_drewN | apply Kd.R_drew)); exact HO_12.out) hg hat); have n3_ := Aside0.mk (Kd.R_after (ok := (fun k_ => some k_ ≠ (v568 : Value).ownBlock ∧ some k_ ≠ (.slice Ao39 t576.length co39 : Value).ownBlock)) (by (with_reducible repeat (first | apply Kd.R_alloc | apply Kd.R_drewN | apply Kd.R_drew)); exact Kd.R_mono HO591.out (fun _ hk => ⟨⟨hk.1.1.2, hk.1.2⟩, hk.2⟩)) hg hat); have n4_ := Aside0.mk (Kd.R_over' (by (with_reducible repeat (first | apply Kd.R_alloc | apply Kd.R_drewN | apply Kd.R_drew)); exact HO593.out) (Kd.R_typed (by (with_reducible repeat (first | apply Kd.R_alloc | apply Kd.R_drewN | apply Kd.R_drew)); exact HO596.out)) (by decide) hg); have n5_ := Aside0.mk (hb); have n6_ := Aside0.mk ((show Kd.C (Kd.int .u8) w38 Ao18 y572.length y572 from by rw [Ny572.out]; exact Kd.C_take (m := (t564 : Int).toNat) ((Kd.R_reads' (Kd.R_over' (by (with_reducible repeat (first | apply Kd.R_alloc | apply Kd.R_drewN | apply Kd.R_drew)); exact HO_7.out) (Kd.R_typed (by (with_reducible repeat (first | apply Kd.R_alloc | apply Kd.R_drewN | apply Kd.R_drew)); exact HO596.out)) (by decide) hg)).2.2) KL20.out)); have n7_ := Aside0.mk ((show Kd.C (Kd.int .u8) w38 A34 y583.length y583 from by rw [Ny583.out, KA34.out]; exact Kd.C_drop (m := (t578 : Int).toNat) (c := co18) ((Kd.R_reads' (Kd.R_over' (by (with_reducible repeat (first | apply Kd.R_alloc | apply Kd.R_drewN | apply Kd.R_drew)); exact HO_7.out) (Kd.R_typed (by (with_reducible repeat (first | apply Kd.R_alloc | apply Kd.R_drewN | apply Kd.R_drew)); exact HO596.out)) (by decide) hg)).2.2) KL34.out ((Kd.R_reads' (Kd.R_over' (by (with_reducible repeat (first | apply Kd.R_alloc | apply Kd.R_drewN | apply Kd.R_drew)); exact HO_7.out) (Kd.R_typed (by (with_reducible repeat (first | apply Kd.R_alloc | apply Kd.R_drewN | apply Kd.R_drew)); exact HO596.out)) (by decide) hg)).2.1))); have n8_ := Aside0.mk (ho); clear HO_7; clear HO_9; clear HO_12; clear HO591; clear HO593; clear HB; clear HR575; clear HR586; clear HO596; have HO_7 := n0_; have HO_9 := n1_; have HO_12 := n2_; have HO591 := n3_; have HO593 := n4_; have HB := n5_; have HR575 := n6_; have HR586 := n7_; have HO599 := n8_; clear n0_ n1_ n2_ n3_ n4_ n5_ n6_ n7_ n8_; clear ho hb hg hat; obtain ⟨Ao41, co41, eo41⟩ := Kd.R_slice HO591.out; subst eo41) | ((with_reducible refine gate_builtin (b := .append) (xs := #[.tmp 70, .tmp 71]) rfl ?_); at_builtin; refine Kd.R_append_rows k26 (w0 := w) w.heap.size rfl (.tmp 70) (.tmp 71) 44 26 (.agg #[(.int .i64 0), (.int .i64 0), (.int .i64 0), (.int .i64 0), (.int .i64 0), (.int .i64 0), (.int .i64 0)]) 56 rfl Try.underlying44 info26 rfl (by decide) (by omega) v598 y597 t587 _ _ _ (fun k_ => some k_ ≠ (v568 : Value).ownBlock ∧ some k_ ≠ (.slice Ao39 t576.length co39 : Value).ownBlock ∧ some k_ ≠ (.slice Ao41 t587.length co41 : Value).ownBlock) (fun _ => False) rfl rfl ?aO ?aR (fun _ _ h => h) (fun _ h => h.elim) ?aF ?aB ?aS ?aL ?_; (case aR => repeat (first | exact (Kd.R_reads' HO591.out).2.2 | (with_reducible refine Kd.C_alloc ?_ _) | (with_reducible refine Kd.C_drewN ?_ _) | (with_reducible refine Kd.C_drew ?_))); (case aB => exact (by repeat (first | (with_reducible first | exact HB.out | apply below_alloc | apply pw_below_drewN | apply below_drew1) | exact HB.out))); (case aF => exact (fun k_ hk => ⟨Kd.fresh' (Kd.R_lt (by (with_reducible repeat (first | apply Kd.R_alloc | apply Kd.R_drewN | apply Kd.R_drew)); exact HO_9.out)) k_ hk, Kd.fresh' (Kd.R_lt (by (with_reducible repeat (first | apply Kd.R_alloc | apply Kd.R_drewN | apply Kd.R_drew)); exact HO_12.out)) k_ hk, Kd.fresh' (Kd.R_lt (by (with_reducible repeat (first | apply Kd.R_alloc | apply Kd.R_drewN | apply Kd.R_drew)); exact HO591.out)) k_ hk⟩)); (case aO => exact (by (with_reducible repeat (first | apply Kd.R_alloc | apply Kd.R_drewN | apply Kd.R_drew)); exact HO599.out)); (case aS => exact (below_size (by repeat (first | (with_reducible first | exact HB.out | apply below_alloc | apply pw_below_drewN | apply below_drew1) | exact HB.out)))); (case aL => have := LMc29.out; omega); intro v601 w40 ho hb hg hat; rw [← Ny600.out] at ho; have n0_ := Aside0.mk (Kd.R_over' (by (with_reducible repeat (first | apply Kd.R_alloc | apply Kd.R_drewN | apply Kd.R_drew)); exact HO_7.out) (Kd.R_typed (by (with_reducible repeat (first | apply Kd.R_alloc | apply Kd.R_drewN | apply Kd.R_drew)); exact HO599.out)) (by decide) hg); have n1_ := Aside0.mk (Kd.R_after (ok := (fun k_ => some k_ ≠ (.slice Ao39 t576.length co39 : Value).ownBlock ∧ some k_ ≠ (.slice Ao41 t587.length co41 : Value).ownBlock)) (by (with_reducible repeat (first | apply Kd.R_alloc | apply Kd.R_drewN | apply Kd.R_drew)); exact HO_9.out) hg hat); have n2_ := Aside0.mk (Kd.R_after (ok := (fun k_ => some k_ ≠ (v568 : Value).ownBlock ∧ some k_ ≠ (.slice Ao41 t587.length co41 : Value).ownBlock)) (by (with_reducible repeat (first | apply Kd.R_alloc | apply Kd.R_drewN | apply Kd.R_drew)); exact HO_12.out) hg hat); have n3_ := Aside0.mk (Kd.R_after (ok := (fun k_ => some k_ ≠ (v568 : Value).ownBlock ∧ some k_ ≠ (.slice Ao39 t576.length co39 : Value).ownBlock)) (by (with_reducible repeat (first | apply Kd.R_alloc | apply Kd.R_drewN | apply Kd.R_drew)); exact HO591.out) hg hat); have n4_ := Aside0.mk (Kd.R_over' (by (with_reducible repeat (first | apply Kd.R_alloc | apply Kd.R_drewN | apply Kd.R_drew)); exact HO593.out) (Kd.R_typed (by (with_reducible repeat (first | apply Kd.R_alloc | apply Kd.R_drewN | apply Kd.R_drew)); exact HO599.out)) (by decide) hg); have n5_ := Aside0.mk (hb); have n6_ := Aside0.mk ((show Kd.C (Kd.int .u8) w40 Ao18 y572.length y572 from by rw [Ny572.out]; exact Kd.C_take (m := (t564 : Int).toNat) ((Kd.R_reads' (Kd.R_over' (by (with_reducible repeat (first | apply Kd.R_alloc | apply Kd.R_drewN | apply Kd.R_drew)); exact HO_7.out) (Kd.R_typed (by (with_reducible repeat (first | apply Kd.R_alloc | apply Kd.R_drewN | apply Kd.R_drew)); exact HO599.out)) (by decide) hg)).2.2) KL20.out)); have n7_ := Aside0.mk ((show Kd.C (Kd.int .u8) w40 A34 y583.length y583 from by rw [Ny583.out, KA34.out]; exact Kd.C_drop (m := (t578 : Int).toNat) (c := co18) ((Kd.R_reads' (Kd.R_over' (by (with_reducible repeat (first | apply Kd.R_alloc | apply Kd.R_drewN | apply Kd.R_drew)); exact HO_7.out) (Kd.R_typed (by (with_reducible repeat (first | apply Kd.R_alloc | apply Kd.R_drewN | apply Kd.R_drew)); exact HO599.out)) (by decide) hg)).2.2) KL34.out ((Kd.R_reads' (Kd.R_over' (by (with_reducible repeat (first | apply Kd.R_alloc | apply Kd.R_drewN | apply Kd.R_drew)); exact HO_7.out) (Kd.R_typed (by (with_reducible repeat (first | apply Kd.R_alloc | apply Kd.R_drewN | apply Kd.R_drew)); exact HO599.out)) (by decide) hg)).2.1))); have n8_ := Aside0.mk (ho); clear HO_7; clear HO_9; clear HO_12; clear HO591; clear HO593; clear HB; clear HR575; clear HR586; clear HO599; have HO_7 := n0_; have HO_9 := n1_; have HO_12 := n2_; have HO591 := n3_; have HO593 := n4_; have HB := n5_; have HR575 := n6_; have HR586 := n7_; have HO602 := n8_; clear n0_ n1_ n2_ n3_ n4_ n5_ n6_ n7_ n8_; clear ho hb hg hat; obtain ⟨Ao42, co42, eo42⟩ := Kd.R_slice HO_9.out; subst eo42; obtain ⟨Ao43, co43, eo43⟩ := Kd.R_slice HO602.out; subst eo43) | ((with_reducible refine gate_callee (f := 25) rfl ?_); refine goesL_ (some 73) rfl rfl Try.func25 (by kernel_rfl) rfl #[.slice Ao42 t565.length co42, .slice none 0 0, .slice Ao43 y600.length co43, .slice none 0 0] rfl (by (try simp only [List.map_toArray, List.map_cons, List.map_nil]); first | done | rfl | (simp only [List.length_drop, List.length_take]; rfl)) ?_; (refine (payrolllaw7_same.calls kj16 _ _ t565 _ _ ([] : List (S55)) _ _ y600 _ _ ([] : List (S55)) true _ ?side1 ?side2 ?side3 ?side4 ?side5 ?side6 ?side7 ?side8 A30.out).mono ?_); (case side1 => repeat (first | exact (Kd.R_reads' HO_9.out).2.2 | (with_reducible refine Kd.C_alloc ?_ _) | (with_reducible refine Kd.C_drewN ?_ _) | (with_reducible refine Kd.C_drew ?_))); (case side2 => exact (Kd.R_reads' HO_9.out).2.1); (case side3 => exact Kd.C_nil _ _); (case side4 => exact Nat.le_refl _); (case side5 => repeat (first | exact (Kd.R_reads' HO602.out).2.2 | (with_reducible refine Kd.C_alloc ?_ _) | (with_reducible refine Kd.C_drewN ?_ _) | (with_reducible refine Kd.C_drew ?_))); (case side6 => exact (Kd.R_reads' HO602.out).2.1); (case side7 => exact Kd.C_nil _ _); (case side8 => exact Nat.le_refl _); rintro e w' ⟨rfl, ⟨nd, rfl⟩⟩; refine ⟨_, rfl, ?_⟩) | (go_at_call 18; (with_reducible refine (payrolllaw7_sane.calls kj16  t604 _ A33.out).mono ?_); rintro e w44 ⟨rfl, hb⟩; have n0_ := Aside0.mk (Kd.R_below (by (with_reducible repeat (first | apply Kd.R_alloc | apply Kd.R_drewN | apply Kd.R_drew)); exact HO_7.out) hb); have n1_ := Aside0.mk (Kd.R_below (by (with_reducible repeat (first | apply Kd.R_alloc | apply Kd.R_drewN | apply Kd.R_drew)); exact HO_9.out) hb); have n2_ := Aside0.mk (Kd.R_below (by (with_reducible repeat (first | apply Kd.R_alloc | apply Kd.R_drewN | apply Kd.R_drew)); exact HO_12.out) hb); have n3_ := Aside0.mk (Kd.R_below (by (with_reducible repeat (first | apply Kd.R_alloc | apply Kd.R_drewN | apply Kd.R_drew)); exact HO591.out) hb); have n4_ := Aside0.mk (Kd.R_below (by (with_reducible repeat (first | apply Kd.R_alloc | apply Kd.R_drewN | apply Kd.R_drew)); exact HO593.out) hb); have n5_ := Aside0.mk (Kd.R_below (by (with_reducible repeat (first | apply Kd.R_alloc | apply Kd.R_drewN | apply Kd.R_drew)); exact HO602.out) hb); have n6_ := Aside0.mk (Kd.C_below (by repeat (first | (with_reducible exact HR575.out) | (with_reducible refine Kd.C_alloc ?_ _) | (with_reducible refine Kd.C_drewN ?_ _) | (with_reducible refine Kd.C_drew ?_) | exact HR575.out)) hb); have n7_ := Aside0.mk (Kd.C_below (by repeat (first | (with_reducible exact HR586.out) | (with_reducible refine Kd.C_alloc ?_ _) | (with_reducible refine Kd.C_drewN ?_ _) | (with_reducible refine Kd.C_drew ?_) | exact HR586.out)) hb); have n8_ := Aside0.mk (below_step (by repeat (first | (with_reducible first | exact HB.out | apply below_alloc | apply pw_below_drewN | apply below_drew1) | exact HB.out)) hb); clear HO_7; clear HO_9; clear HO_12; clear HO591; clear HO593; clear HO602; clear HR575; clear HR586; clear HB; have HO_7 := n0_; have HO_9 := n1_; have HO_12 := n2_; have HO591 := n3_; have HO593 := n4_; have HO602 := n5_; have HR575 := n6_; have HR586 := n7_; have HB := n8_; clear n0_ n1_ n2_ n3_ n4_ n5_ n6_ n7_ n8_; (try clear hb); (try clear hb2); (try clear hk); (try clear hi)))
              go_ret
              exact ⟨by first | rfl | (simp [errW_none, errW_some] <;> rfl) | (simp [*, errW_none, errW_some] <;> rfl), by repeat (first | (with_reducible first | exact HB.out | apply below_alloc | apply pw_below_drewN | apply below_drew1) | exact HB.out)⟩
             ·
              rw [if_neg c32] at H
              have c32b0 : ((wrap64 (t578 + t589)) == t567) = false := beq_eq_false_iff_ne.mpr c32
              have c32b1 : ((wrap64 (t578 + t589)) != t567) = true := bne_iff_ne.mpr c32
              exact absurd (Option.some.inj H) (by rw [HT.out]; decide)
            ·
             replace c31 := Bool.eq_false_iff.mpr c31
             subst c31
             have H1 : (some false) = some r := by rw [if_neg (show ¬ (false = true) by decide)] at H; exact H
             clear H
             have H := H1
             clear H1
             obtain rfl := Option.some.inj H
             have q55 : (t578 : Int) ≤ ((x7_5.length : Int) : Int) := of_decide_eq_true (by first | (with_reducible assumption) | assumption)
             obtain ⟨i055, hi055, _, hsz55, _⟩ := info_parts info5
             have hroom55 : x7_5.length ≤ co18 := (Kd.R_reads' HO_7.out).2.1
             have hC55 : Kd.C (Kd.int .u8) _ Ao18 x7_5.length x7_5 := (Kd.R_reads' HO_7.out).2.2
             have q055 : (0 : Int) ≤ (t578 : Int) := of_decide_eq_true (by first | (with_reducible assumption) | assumption)
             have hcut55 := cut_from (P := Try.prog) 27 5 .i64 Try.underlying27 hi055 1 hsz55 Ao18 x7_5.length co18 t578 q055 q55
             have hr55 := Kd.C_drop (m := (t578 : Int).toNat) (c := co18) hC55 (by omega) hroom55
             obtain ⟨A55, hA55⟩ : ∃ A1, A1 = (if co18 = (t578 : Int).toNat then Ao18 else (Ao18 : Option Addr).map (·.add ((t578 : Int).toNat * 1))) := ⟨_, rfl⟩
             obtain ⟨c55, hc55⟩ : ∃ c1, c1 = co18 - (t578 : Int).toNat := ⟨_, rfl⟩
             have hy55 : y583.length = x7_5.length - (t578 : Int).toNat := (by rw [Ny583.out, List.length_drop] <;> omega)
             rw [show (x7_5).drop (t578 : Int).toNat = y583 from Ny583.out.symm] at hr55
             replace hr55 : Kd.C (Kd.int .u8) _ A55 y583.length y583 := (by rw [hA55]; exact hr55)
             rw [← hy55, ← hA55, ← hc55] at hcut55
             have HR586 := Aside0.mk hr55
             have HC586 := Aside0.mk (show y583.length ≤ c55 from by rw [hy55, hc55]; exact Nat.sub_le_sub_right hroom55 _)
             clear hr55 hC55 hroom55 hi055 hsz55 hc55
             have KY55 := Aside0.mk hy55
             have KA55 := Aside0.mk hA55
             clear hy55 hA55
             have KL55 := Aside0.mk (show (t578 : Int).toNat ≤ x7_5.length from by omega)
             replace q55 := eq_true q55
             go_wp2_with (first | ((with_reducible refine gate_callee (f := 24) rfl ?_); refine goesL_ (some 63) rfl rfl Try.func24 (by kernel_rfl) rfl #[.slice A55 y583.length c55] rfl (by (try simp only [List.map_toArray, List.map_cons, List.map_nil]); first | done | rfl | (simp only [List.length_drop, List.length_take]; rfl)) ?_; (with_reducible refine (records_Decode.calls kj16 _ _ y583 t587 t588 t589 _ ?side1 ?side2 A27.out).mono ?_); (case side1 => repeat (first | exact (by repeat (first | (with_reducible exact HR586.out) | (with_reducible refine Kd.C_alloc ?_ _) | (with_reducible refine Kd.C_drewN ?_ _) | (with_reducible refine Kd.C_drew ?_) | exact HR586.out)) | (with_reducible refine Kd.C_alloc ?_ _) | (with_reducible refine Kd.C_drewN ?_ _) | (with_reducible refine Kd.C_drew ?_))); (case side2 => exact HC586.out); rintro e w56 ⟨v590, v592, rfl, ho0, ho1, hb⟩; refine ⟨_, rfl, ?_⟩; have n0_ := Aside0.mk (Kd.R_below (by (with_reducible repeat (first | apply Kd.R_alloc | apply Kd.R_drewN | apply Kd.R_drew)); exact HO_7.out) hb); have n1_ := Aside0.mk (Kd.R_elder' (by (with_reducible repeat (first | apply Kd.R_alloc | apply Kd.R_drewN | apply Kd.R_drew)); exact HO_9.out) (Kd.R_base ho0) hb); have n2_ := Aside0.mk (Kd.R_elder' (by (with_reducible repeat (first | apply Kd.R_alloc | apply Kd.R_drewN | apply Kd.R_drew)); exact HO_12.out) (Kd.R_base ho0) hb); have n3_ := Aside0.mk (Kd.R_lower (Kd.R_new' (Kd.R_new' ho0 (Kd.R_lt (by (with_reducible repeat (first | apply Kd.R_alloc | apply Kd.R_drewN | apply Kd.R_drew)); exact HO_9.out))) (Kd.R_lt (by (with_reducible repeat (first | apply Kd.R_alloc | apply Kd.R_drewN | apply Kd.R_drew)); exact HO_12.out))) (below_size (by repeat (first | (with_reducible first | exact HB.out | apply below_alloc | apply pw_below_drewN | apply below_drew1) | exact HB.out)))); have n4_ := Aside0.mk (Kd.R_lower ho1 (below_size (by repeat (first | (with_reducible first | exact HB.out | apply below_alloc | apply pw_below_drewN | apply below_drew1) | exact HB.out)))); have n5_ := Aside0.mk (Kd.C_below (by repeat (first | (with_reducible exact HR575.out) | (with_reducible refine Kd.C_alloc ?_ _) | (with_reducible refine Kd.C_drewN ?_ _) | (with_reducible refine Kd.C_drew ?_) | exact HR575.out)) hb); have n6_ := Aside0.mk (Kd.C_below (by repeat (first | (with_reducible exact HR586.out) | (with_reducible refine Kd.C_alloc ?_ _) | (with_reducible refine Kd.C_drewN ?_ _) | (with_reducible refine Kd.C_drew ?_) | exact HR586.out)) hb); have n7_ := Aside0.mk (below_step (by repeat (first | (with_reducible first | exact HB.out | apply below_alloc | apply pw_below_drewN | apply below_drew1) | exact HB.out)) hb); clear HO_7; clear HO_9; clear HO_12; clear HR575; clear HR586; clear HB; have HO_7 := n0_; have HO_9 := n1_; have HO_12 := n2_; have HO591 := n3_; have HO593 := n4_; have HR575 := n5_; have HR586 := n6_; have HB := n7_; clear n0_ n1_ n2_ n3_ n4_ n5_ n6_ n7_; (try clear hb); (try clear hb2); (try clear hk); (try clear hi); (try clear ho0); (try clear ho1)) | ((with_reducible refine gate_dst (N := 68) rfl ?_); refine Kd.R_lit k26 _ 26 ?hg (N := 68) ?hd (xs := ([] : List (S26))) (inner := []) (ok := fun _ => True) (okp := fun _ => True) ?hr ?hp (fun _ hk => hk) trivial (Below.refl _ _) (Nat.le_refl _) (by simp) ?_; (case hd => rfl); (case hg => rfl); (case hr => first | (go_simp; done) | (go_simp; rfl)); (case hp => exact (Reps.none _ _)); intro v595 w57 ho58 hb hg_ hnew_; clear hg_ hnew_; (first | rw [← Ny594.out] at ho58 | (simp only [Int.reduceToNat] at ho58; rw [← Ny594.out] at ho58)); have n0_ := Aside0.mk (Kd.R_below (by (with_reducible repeat (first | apply Kd.R_alloc | apply Kd.R_drewN | apply Kd.R_drew)); exact HO_7.out) hb); have n1_ := Aside0.mk (Kd.R_elder' (by (with_reducible repeat (first | apply Kd.R_alloc | apply Kd.R_drewN | apply Kd.R_drew)); exact HO_9.out) (Kd.R_base ho58) hb); have n2_ := Aside0.mk (Kd.R_elder' (by (with_reducible repeat (first | apply Kd.R_alloc | apply Kd.R_drewN | apply Kd.R_drew)); exact HO_12.out) (Kd.R_base ho58) hb); have n3_ := Aside0.mk (Kd.R_elder' (by (with_reducible repeat (first | apply Kd.R_alloc | apply Kd.R_drewN | apply Kd.R_drew)); exact HO591.out) (Kd.R_base ho58) hb); have n4_ := Aside0.mk (Kd.R_below (by (with_reducible repeat (first | apply Kd.R_alloc | apply Kd.R_drewN | apply Kd.R_drew)); exact HO593.out) hb); have n5_ := Aside0.mk (Kd.R_lower (Kd.R_new' (Kd.R_new' (Kd.R_new' ho58 (Kd.R_lt (by (with_reducible repeat (first | apply Kd.R_alloc | apply Kd.R_drewN | apply Kd.R_drew)); exact HO_9.out))) (Kd.R_lt (by (with_reducible repeat (first | apply Kd.R_alloc | apply Kd.R_drewN | apply Kd.R_drew)); exact HO_12.out))) (Kd.R_lt (by (with_reducible repeat (first | apply Kd.R_alloc | apply Kd.R_drewN | apply Kd.R_drew)); exact HO591.out))) (below_size (by repeat (first | (with_reducible first | exact HB.out | apply below_alloc | apply pw_below_drewN | apply below_drew1) | exact HB.out)))); have n6_ := Aside0.mk (Kd.C_below (by repeat (first | (with_reducible exact HR575.out) | (with_reducible refine Kd.C_alloc ?_ _) | (with_reducible refine Kd.C_drewN ?_ _) | (with_reducible refine Kd.C_drew ?_) | exact HR575.out)) hb); have n7_ := Aside0.mk (Kd.C_below (by repeat (first | (with_reducible exact HR586.out) | (with_reducible refine Kd.C_alloc ?_ _) | (with_reducible refine Kd.C_drewN ?_ _) | (with_reducible refine Kd.C_drew ?_) | exact HR586.out)) hb); have n8_ := Aside0.mk (below_step (by repeat (first | (with_reducible first | exact HB.out | apply below_alloc | apply pw_below_drewN | apply below_drew1) | exact HB.out)) hb); clear HO_7; clear HO_9; clear HO_12; clear HO591; clear HO593; clear HR575; clear HR586; clear HB; have HO_7 := n0_; have HO_9 := n1_; have HO_12 := n2_; have HO591 := n3_; have HO593 := n4_; have HO596 := n5_; have HR575 := n6_; have HR586 := n7_; have HB := n8_; clear n0_ n1_ n2_ n3_ n4_ n5_ n6_ n7_ n8_; clear hb ho58; obtain ⟨Ao60, co60, eo60⟩ := Kd.R_slice HO_12.out; subst eo60) | ((with_reducible refine gate_builtin (b := .append) (xs := #[.tmp 68, .tmp 69]) rfl ?_); at_builtin; refine Kd.R_append_rows k26 (w0 := w) w.heap.size rfl (.tmp 68) (.tmp 69) 44 26 (.agg #[(.int .i64 0), (.int .i64 0), (.int .i64 0), (.int .i64 0), (.int .i64 0), (.int .i64 0), (.int .i64 0)]) 56 rfl Try.underlying44 info26 rfl (by decide) (by omega) v595 y594 t576 _ _ _ (fun k_ => some k_ ≠ (v568 : Value).ownBlock ∧ some k_ ≠ (.slice Ao60 t576.length co60 : Value).ownBlock ∧ some k_ ≠ (v590 : Value).ownBlock) (fun _ => False) rfl rfl ?aO ?aR (fun _ _ h => h) (fun _ h => h.elim) ?aF ?aB ?aS ?aL ?_; (case aR => repeat (first | exact (Kd.R_reads' HO_12.out).2.2 | (with_reducible refine Kd.C_alloc ?_ _) | (with_reducible refine Kd.C_drewN ?_ _) | (with_reducible refine Kd.C_drew ?_))); (case aB => exact (by repeat (first | (with_reducible first | exact HB.out | apply below_alloc | apply pw_below_drewN | apply below_drew1) | exact HB.out))); (case aF => exact (fun k_ hk => ⟨Kd.fresh' (Kd.R_lt (by (with_reducible repeat (first | apply Kd.R_alloc | apply Kd.R_drewN | apply Kd.R_drew)); exact HO_9.out)) k_ hk, Kd.fresh' (Kd.R_lt (by (with_reducible repeat (first | apply Kd.R_alloc | apply Kd.R_drewN | apply Kd.R_drew)); exact HO_12.out)) k_ hk, Kd.fresh' (Kd.R_lt (by (with_reducible repeat (first | apply Kd.R_alloc | apply Kd.R_drewN | apply Kd.R_drew)); exact HO591.out)) k_ hk⟩)); (case aO => exact (by (with_reducible repeat (first | apply Kd.R_alloc | apply Kd.R_drewN | apply Kd.R_drew)); exact Kd.R_mono HO596.out (fun _ hk => ⟨hk.1.1.2, ⟨hk.1.2, hk.2⟩⟩))); (case aS => exact (below_size (by repeat (first | (with_reducible first | exact HB.out | apply below_alloc | apply pw_below_drewN | apply below_drew1) | exact HB.out)))); (case aL => have := LMc28.out; omega); intro v598 w59 ho hb hg hat; rw [← Ny597.out] at ho; have n0_ := Aside0.mk (Kd.R_over' (by (with_reducible repeat (first | apply Kd.R_alloc | apply Kd.R_drewN | apply Kd.R_drew)); exact HO_7.out) (Kd.R_typed (by (with_reducible repeat (first | apply Kd.R_alloc | apply Kd.R_drewN | apply Kd.R_drew)); exact HO596.out)) (by decide) hg); have n1_ := Aside0.mk (Kd.R_after (ok := (fun k_ => some k_ ≠ (.slice Ao60 t576.length co60 : Value).ownBlock ∧ some k_ ≠ (v590 : Value).ownBlock)) (by (with_reducible repeat (first | apply Kd.R_alloc | apply Kd.R_drewN | apply Kd.R_drew)); exact HO_9.out) hg hat); have n2_ := Aside0.mk (Kd.R_after (ok := (fun k_ => some k_ ≠ (v568 : Value).ownBlock ∧ some k_ ≠ (v590 : Value).ownBlock)) (by (with_reducible repeat (first | apply Kd.R_alloc | apply Kd.R_drewN | apply Kd.R_drew)); exact HO_12.out) hg hat); have n3_ := Aside0.mk (Kd.R_after (ok := (fun k_ => some k_ ≠ (v568 : Value).ownBlock ∧ some k_ ≠ (.slice Ao60 t576.length co60 : Value).ownBlock)) (by (with_reducible repeat (first | apply Kd.R_alloc | apply Kd.R_drewN | apply Kd.R_drew)); exact Kd.R_mono HO591.out (fun _ hk => ⟨⟨hk.1.1.2, hk.1.2⟩, hk.2⟩)) hg hat); have n4_ := Aside0.mk (Kd.R_over' (by (with_reducible repeat (first | apply Kd.R_alloc | apply Kd.R_drewN | apply Kd.R_drew)); exact HO593.out) (Kd.R_typed (by (with_reducible repeat (first | apply Kd.R_alloc | apply Kd.R_drewN | apply Kd.R_drew)); exact HO596.out)) (by decide) hg); have n5_ := Aside0.mk (hb); have n6_ := Aside0.mk ((show Kd.C (Kd.int .u8) w59 Ao18 y572.length y572 from by rw [Ny572.out]; exact Kd.C_take (m := (t564 : Int).toNat) ((Kd.R_reads' (Kd.R_over' (by (with_reducible repeat (first | apply Kd.R_alloc | apply Kd.R_drewN | apply Kd.R_drew)); exact HO_7.out) (Kd.R_typed (by (with_reducible repeat (first | apply Kd.R_alloc | apply Kd.R_drewN | apply Kd.R_drew)); exact HO596.out)) (by decide) hg)).2.2) KL20.out)); have n7_ := Aside0.mk ((show Kd.C (Kd.int .u8) w59 A55 y583.length y583 from by rw [Ny583.out, KA55.out]; exact Kd.C_drop (m := (t578 : Int).toNat) (c := co18) ((Kd.R_reads' (Kd.R_over' (by (with_reducible repeat (first | apply Kd.R_alloc | apply Kd.R_drewN | apply Kd.R_drew)); exact HO_7.out) (Kd.R_typed (by (with_reducible repeat (first | apply Kd.R_alloc | apply Kd.R_drewN | apply Kd.R_drew)); exact HO596.out)) (by decide) hg)).2.2) KL55.out ((Kd.R_reads' (Kd.R_over' (by (with_reducible repeat (first | apply Kd.R_alloc | apply Kd.R_drewN | apply Kd.R_drew)); exact HO_7.out) (Kd.R_typed (by (with_reducible repeat (first | apply Kd.R_alloc | apply Kd.R_drewN | apply Kd.R_drew)); exact HO596.out)) (by decide) hg)).2.1))); have n8_ := Aside0.mk (ho); clear HO_7; clear HO_9; clear HO_12; clear HO591; clear HO593; clear HB; clear HR575; clear HR586; clear HO596; have HO_7 := n0_; have HO_9 := n1_; have HO_12 := n2_; have HO591 := n3_; have HO593 := n4_; have HB := n5_; have HR575 := n6_; have HR586 := n7_; have HO599 := n8_; clear n0_ n1_ n2_ n3_ n4_ n5_ n6_ n7_ n8_; clear ho hb hg hat; obtain ⟨Ao62, co62, eo62⟩ := Kd.R_slice HO591.out; subst eo62) | ((with_reducible refine gate_builtin (b := .append) (xs := #[.tmp 70, .tmp 71]) rfl ?_); at_builtin; refine Kd.R_append_rows k26 (w0 := w) w.heap.size rfl (.tmp 70) (.tmp 71) 44 26 (.agg #[(.int .i64 0), (.int .i64 0), (.int .i64 0), (.int .i64 0), (.int .i64 0), (.int .i64 0), (.int .i64 0)]) 56 rfl Try.underlying44 info26 rfl (by decide) (by omega) v598 y597 t587 _ _ _ (fun k_ => some k_ ≠ (v568 : Value).ownBlock ∧ some k_ ≠ (.slice Ao60 t576.length co60 : Value).ownBlock ∧ some k_ ≠ (.slice Ao62 t587.length co62 : Value).ownBlock) (fun _ => False) rfl rfl ?aO ?aR (fun _ _ h => h) (fun _ h => h.elim) ?aF ?aB ?aS ?aL ?_; (case aR => repeat (first | exact (Kd.R_reads' HO591.out).2.2 | (with_reducible refine Kd.C_alloc ?_ _) | (with_reducible refine Kd.C_drewN ?_ _) | (with_reducible refine Kd.C_drew ?_))); (case aB => exact (by repeat (first | (with_reducible first | exact HB.out | apply below_alloc | apply pw_below_drewN | apply below_drew1) | exact HB.out))); (case aF => exact (fun k_ hk => ⟨Kd.fresh' (Kd.R_lt (by (with_reducible repeat (first | apply Kd.R_alloc | apply Kd.R_drewN | apply Kd.R_drew)); exact HO_9.out)) k_ hk, Kd.fresh' (Kd.R_lt (by (with_reducible repeat (first | apply Kd.R_alloc | apply Kd.R_drewN | apply Kd.R_drew)); exact HO_12.out)) k_ hk, Kd.fresh' (Kd.R_lt (by (with_reducible repeat (first | apply Kd.R_alloc | apply Kd.R_drewN | apply Kd.R_drew)); exact HO591.out)) k_ hk⟩)); (case aO => exact (by (with_reducible repeat (first | apply Kd.R_alloc | apply Kd.R_drewN | apply Kd.R_drew)); exact HO599.out)); (case aS => exact (below_size (by repeat (first | (with_reducible first | exact HB.out | apply below_alloc | apply pw_below_drewN | apply below_drew1) | exact HB.out)))); (case aL => have := LMc29.out; omega); intro v601 w61 ho hb hg hat; rw [← Ny600.out] at ho; have n0_ := Aside0.mk (Kd.R_over' (by (with_reducible repeat (first | apply Kd.R_alloc | apply Kd.R_drewN | apply Kd.R_drew)); exact HO_7.out) (Kd.R_typed (by (with_reducible repeat (first | apply Kd.R_alloc | apply Kd.R_drewN | apply Kd.R_drew)); exact HO599.out)) (by decide) hg); have n1_ := Aside0.mk (Kd.R_after (ok := (fun k_ => some k_ ≠ (.slice Ao60 t576.length co60 : Value).ownBlock ∧ some k_ ≠ (.slice Ao62 t587.length co62 : Value).ownBlock)) (by (with_reducible repeat (first | apply Kd.R_alloc | apply Kd.R_drewN | apply Kd.R_drew)); exact HO_9.out) hg hat); have n2_ := Aside0.mk (Kd.R_after (ok := (fun k_ => some k_ ≠ (v568 : Value).ownBlock ∧ some k_ ≠ (.slice Ao62 t587.length co62 : Value).ownBlock)) (by (with_reducible repeat (first | apply Kd.R_alloc | apply Kd.R_drewN | apply Kd.R_drew)); exact HO_12.out) hg hat); have n3_ := Aside0.mk (Kd.R_after (ok := (fun k_ => some k_ ≠ (v568 : Value).ownBlock ∧ some k_ ≠ (.slice Ao60 t576.length co60 : Value).ownBlock)) (by (with_reducible repeat (first | apply Kd.R_alloc | apply Kd.R_drewN | apply Kd.R_drew)); exact HO591.out) hg hat); have n4_ := Aside0.mk (Kd.R_over' (by (with_reducible repeat (first | apply Kd.R_alloc | apply Kd.R_drewN | apply Kd.R_drew)); exact HO593.out) (Kd.R_typed (by (with_reducible repeat (first | apply Kd.R_alloc | apply Kd.R_drewN | apply Kd.R_drew)); exact HO599.out)) (by decide) hg); have n5_ := Aside0.mk (hb); have n6_ := Aside0.mk ((show Kd.C (Kd.int .u8) w61 Ao18 y572.length y572 from by rw [Ny572.out]; exact Kd.C_take (m := (t564 : Int).toNat) ((Kd.R_reads' (Kd.R_over' (by (with_reducible repeat (first | apply Kd.R_alloc | apply Kd.R_drewN | apply Kd.R_drew)); exact HO_7.out) (Kd.R_typed (by (with_reducible repeat (first | apply Kd.R_alloc | apply Kd.R_drewN | apply Kd.R_drew)); exact HO599.out)) (by decide) hg)).2.2) KL20.out)); have n7_ := Aside0.mk ((show Kd.C (Kd.int .u8) w61 A55 y583.length y583 from by rw [Ny583.out, KA55.out]; exact Kd.C_drop (m := (t578 : Int).toNat) (c := co18) ((Kd.R_reads' (Kd.R_over' (by (with_reducible repeat (first | apply Kd.R_alloc | apply Kd.R_drewN | apply Kd.R_drew)); exact HO_7.out) (Kd.R_typed (by (with_reducible repeat (first | apply Kd.R_alloc | apply Kd.R_drewN | apply Kd.R_drew)); exact HO599.out)) (by decide) hg)).2.2) KL55.out ((Kd.R_reads' (Kd.R_over' (by (with_reducible repeat (first | apply Kd.R_alloc | apply Kd.R_drewN | apply Kd.R_drew)); exact HO_7.out) (Kd.R_typed (by (with_reducible repeat (first | apply Kd.R_alloc | apply Kd.R_drewN | apply Kd.R_drew)); exact HO599.out)) (by decide) hg)).2.1))); have n8_ := Aside0.mk (ho); clear HO_7; clear HO_9; clear HO_12; clear HO591; clear HO593; clear HB; clear HR575; clear HR586; clear HO599; have HO_7 := n0_; have HO_9 := n1_; have HO_12 := n2_; have HO591 := n3_; have HO593 := n4_; have HB := n5_; have HR575 := n6_; have HR586 := n7_; have HO602 := n8_; clear n0_ n1_ n2_ n3_ n4_ n5_ n6_ n7_ n8_; clear ho hb hg hat; obtain ⟨Ao63, co63, eo63⟩ := Kd.R_slice HO_9.out; subst eo63; obtain ⟨Ao64, co64, eo64⟩ := Kd.R_slice HO602.out; subst eo64) | ((with_reducible refine gate_callee (f := 25) rfl ?_); refine goesL_ (some 73) rfl rfl Try.func25 (by kernel_rfl) rfl #[.slice Ao63 t565.length co63, .slice none 0 0, .slice Ao64 y600.length co64, .slice none 0 0] rfl (by (try simp only [List.map_toArray, List.map_cons, List.map_nil]); first | done | rfl | (simp only [List.length_drop, List.length_take]; rfl)) ?_; (refine (payrolllaw7_same.calls kj16 _ _ t565 _ _ ([] : List (S55)) _ _ y600 _ _ ([] : List (S55)) false _ ?side1 ?side2 ?side3 ?side4 ?side5 ?side6 ?side7 ?side8 A30.out).mono ?_); (case side1 => repeat (first | exact (Kd.R_reads' HO_9.out).2.2 | (with_reducible refine Kd.C_alloc ?_ _) | (with_reducible refine Kd.C_drewN ?_ _) | (with_reducible refine Kd.C_drew ?_))); (case side2 => exact (Kd.R_reads' HO_9.out).2.1); (case side3 => exact Kd.C_nil _ _); (case side4 => exact Nat.le_refl _); (case side5 => repeat (first | exact (Kd.R_reads' HO602.out).2.2 | (with_reducible refine Kd.C_alloc ?_ _) | (with_reducible refine Kd.C_drewN ?_ _) | (with_reducible refine Kd.C_drew ?_))); (case side6 => exact (Kd.R_reads' HO602.out).2.1); (case side7 => exact Kd.C_nil _ _); (case side8 => exact Nat.le_refl _); rintro e w' ⟨rfl, ⟨nd, rfl⟩⟩; refine ⟨_, rfl, ?_⟩))
             go_ret
             exact ⟨by first | rfl | (simp [errW_none, errW_some] <;> rfl) | (simp [*, errW_none, errW_some] <;> rfl), by repeat (first | (with_reducible first | exact HB.out | apply below_alloc | apply pw_below_drewN | apply below_drew1) | exact HB.out)⟩
           ·
            rw [if_neg c29] at H
            exact absurd H (by simp)
          ·
           rw [if_neg c28] at H
           exact absurd H (by simp)
         ·
          rw [if_neg c26] at H
          exact absurd H (by simp)
        ·
         rw [if_neg c25] at H
         exact absurd H (by simp)
    ·
     rw [if_neg c15] at H
     exact absurd H (by simp)
   ·
    rw [if_neg c14] at H
    exact absurd H (by simp)

/-- THE ONE PURE STATEMENT of payrolllaw7_RecordsDivide: yours. -/
def payrolllaw7_RecordsDivide.Pure : Prop := ∀ (l0 : List Int) (a1 : Int) (l2 : List Int), l0.length ≤ maxLen → l0.length * 8 ≤ 140737488351232 → (∀ x ∈ l0, (Lit.int .i64 x).wf = true) → (Lit.int .i64 a1).wf = true → l2.length ≤ maxLen → l2.length * 1 ≤ 140737488351232 → (∀ x ∈ l2, (Lit.int .u8 x).wf = true) → ∃ k, payrolllaw7_RecordsDivide.f k l0 a1 l2 = some true
theorem payrolllaw7_RecordsDivide.walk (P : payrolllaw7_RecordsDivide.Pure) (a0 : Option Addr) (len0 cap0 : Nat) (z0 : List Int) (a1 : Int) (a2 : Option Addr) (len2 cap2 : Nat) (z2 : List Int) (w : World) (w0 : (a0 = none ∧ len0 = 0 ∧ cap0 = 0 ∧ z0 = []) ∨ ∃ x, a0 = some x ∧ len0 ≤ cap0 ∧ cap0 ≤ maxLen ∧ z0.length = cap0 ∧ (∀ i, i < z0.length → w.cell? (x.add i) = some (.int .i64 (z0.getD i 0))) ∧ ∀ n ∈ z0, (Lit.int .i64 n).wf = true) (y0 : len0 * 8 ≤ 140737488351232) (w1 : (Lit.int .i64 a1).wf = true) (w2 : (a2 = none ∧ len2 = 0 ∧ cap2 = 0 ∧ z2 = []) ∨ ∃ x, a2 = some x ∧ len2 ≤ cap2 ∧ cap2 ≤ maxLen ∧ z2.length = cap2 ∧ (∀ i, i < z2.length → w.cell? (x.add i) = some (.int .u8 (z2.getD i 0))) ∧ ∀ n ∈ z2, (Lit.int .u8 n).wf = true) (y2 : len2 * 1 ≤ 140737488351232) :
  Calls Try.prog 6 #[.slice a0 len0 cap0, .int .i64 a1, .slice a2 len2 cap2] w fun e w' => e = .returned (.bool true) ∧ Below w.heap.size w w' := by
 obtain ⟨l0, rfl, hr0, hm0, hw0, hc0⟩ := ReadsInt.ofRowC w0
 obtain ⟨l2, rfl, hr2, hm2, hw2, hc2⟩ := ReadsInt.ofRowC w2
 obtain ⟨k, h⟩ := P l0 a1 l2 hm0 y0 hw0 w1 hm2 y2 hw2
 refine (payrolllaw7_RecordsDivide.calls k _ _ l0 a1 _ _ l2 true w (Kd.C_of_reads (d := (0 : Int)) (h1 := fun _ => rfl) hr0) hc0 (Kd.C_of_reads (d := (0 : Int)) (h1 := fun _ => rfl) hr2) hc2 h rfl).mono ?_
 rintro e w' ⟨rfl, hd⟩
 exact ⟨rfl, hd⟩

end Go.Proofs.Ytopigdnffnondaa.P
