/- Proved here: that the Go function payrolllaw7_RecordsDamage computes the plain function of that name (the machine side of the laws, reworked from a print; no condition of its own). -/
import Derived.Test.YtopigdnffnondaaProg
import Derived.Test.YtopigdnffnondaaV1
import Derived.Test.YtopigdnffnondaaFPRE0
import Derived.Test.YtopigdnffnondaaFPRE3
import Derived.Test.YtopigdnffnondaaFPRE5
import Derived.Test.YtopigdnffnondaaFPRE7
import Derived.Test.YtopigdnffnondaaFpayrollgenNew
import Derived.Test.YtopigdnffnondaaFpayrollgenMod
import Derived.Test.YtopigdnffnondaaFpayrollgenTapeEvent
import Derived.Test.YtopigdnffnondaaFrecordsEncode
import Derived.Test.YtopigdnffnondaaFrecordsDecode
import Derived.Test.YtopigdnffnondaaFpayrolllaw7sane
namespace Go.Proofs.Ytopigdnffnondaa.P
open Go.RowKit Go.Proofs.YtopigdnffnondaaW.PrintWords Go.Proofs.YtopigdnffnondaaW.PrintLast Go.Proofs.YtopigdnffnondaaW.PrintMore
attribute [local go_sem] max2_int min2_int max_two min_two max_three min_three max_four min_four   -- for this text's walks alone
set_option linter.unusedVariables false
set_option linter.unusedSimpArgs false

attribute [local go_sem high] eqA26
def payrolllaw7_RecordsDamage.j0 : Nat → Int → Int → List Int → Bool → Int → Int → Int → Int → Int → Int → Int → Option (Bool)
 | 0, _, _, _, _, _, _, _, _, _, _, _ => none
 | k + 1, x1, x2, x9, x33, x617000, x617001, x617002, x617003, x617004, x617005, x617006 => if x33 = true then (some false) else ((some (([] : List Int) : List Int)).bind fun y621 => (if y621.length + x9.length < 140737488355328 then ((some (y621 ++ x9 : List Int)).bind fun y624 => ((payrollgen_Mod.f x1 24).bind fun t627 => (if 0 ≤ t627 then (if t627 < (y624.length : Int) then ((some (y624.set (t627 : Int).toNat (Go.bits .xor .u8 (rd y624 t627) (Go.bits .or .u8 x2 1)) : List Int)).bind fun y629 => ((records_Decode.f k y629).bind fun bt630 => ((some (([] : List Int) : List Int)).bind fun y637 => (if y637.length + y629.length < 140737488355328 then ((some (y637 ++ y629 : List Int)).bind fun y640 => (if y640.length + x9.length < 140737488355328 then ((records_Decode.f k (y640 ++ x9)).bind fun bt646 => (if (bt630.1.length : Int) = 0 then (if bt630.2.2 = 1 then (if bt646.2.2 < 1 then (some false) else (if (bt646.1.length : Int) > 0 then (if (bt646.1.length : Int) > 1 then ((payrolllaw7_sane.f k).bind fun t653 => (some t653)) else (if 0 < (bt646.1.length : Int) then (if ((((rd_T26 bt646.1 0).f0.f0) == x617000 && (((rd_T26 bt646.1 0).f0.f1) == x617001)) && (((rd_T26 bt646.1 0).f1) == x617002 && (((rd_T26 bt646.1 0).f2) == x617003 && (((rd_T26 bt646.1 0).f3) == x617004 && ((((rd_T26 bt646.1 0).f4.f0) == x617005 && (((rd_T26 bt646.1 0).f4.f1) == x617006))))))) = true then (if bt646.2.2 = 48 then ((payrolllaw7_sane.f k).bind fun t655 => (some t655)) else (if ((!(((rd_T26 bt646.1 0).f0.f0) == x617000) || (!(((rd_T26 bt646.1 0).f0.f1) == x617001))) || (!(((rd_T26 bt646.1 0).f1) == x617002) || (!(((rd_T26 bt646.1 0).f2) == x617003) || (!(((rd_T26 bt646.1 0).f3) == x617004) || ((!(((rd_T26 bt646.1 0).f4.f0) == x617005) || (!(((rd_T26 bt646.1 0).f4.f1) == x617006)))))))) = true then ((payrolllaw7_sane.f k).bind fun t657 => (some t657)) else (some false))) else (if ((!(((rd_T26 bt646.1 0).f0.f0) == x617000) || (!(((rd_T26 bt646.1 0).f0.f1) == x617001))) || (!(((rd_T26 bt646.1 0).f1) == x617002) || (!(((rd_T26 bt646.1 0).f2) == x617003) || (!(((rd_T26 bt646.1 0).f3) == x617004) || ((!(((rd_T26 bt646.1 0).f4.f0) == x617005) || (!(((rd_T26 bt646.1 0).f4.f1) == x617006)))))))) = true then ((payrolllaw7_sane.f k).bind fun t659 => (some t659)) else (some false))) else (none))) else (some false))) else (some false)) else (some false))) else (none))) else (none))))) else (none)) else (none)))) else (none)))
def payrolllaw7_RecordsDamage.f (k : Nat) (l0 : List Int) (a1 : Int) (a2 : Int) : Option (Bool) := (payrollgen_New.f l0).bind fun bt605 => ((payrollgen_Tape_Event.f bt605.1 bt605.2).bind fun bt608 => ((records_Encode.f k bt608.1 bt608.2.1 bt608.2.2.1 bt608.2.2.2.1 bt608.2.2.2.2.1 bt608.2.2.2.2.2.1 bt608.2.2.2.2.2.2.1).bind fun bt617 => (if bt617.2 = 0 then (payrolllaw7_RecordsDamage.j0 k a1 a2 bt617.1 ((bt617.1.length : Int) != 24) bt608.1 bt608.2.1 bt608.2.2.1 bt608.2.2.2.1 bt608.2.2.2.2.1 bt608.2.2.2.2.2.1 bt608.2.2.2.2.2.2.1) else (payrolllaw7_RecordsDamage.j0 k a1 a2 bt617.1 true bt608.1 bt608.2.1 bt608.2.2.1 bt608.2.2.2.1 bt608.2.2.2.2.1 bt608.2.2.2.2.2.1 bt608.2.2.2.2.2.2.1))))
theorem payrolllaw7_RecordsDamage.mono_l : ∀ k, (∀ y0 y1 y2 y3 y4 y5 y6 y7 y8 y9 y10, LeO (payrolllaw7_RecordsDamage.j0 k y0 y1 y2 y3 y4 y5 y6 y7 y8 y9 y10) (payrolllaw7_RecordsDamage.j0 (k + 1) y0 y1 y2 y3 y4 y5 y6 y7 y8 y9 y10))
 | 0 => fun _ _ _ _ _ _ _ _ _ _ _ r h => by simp [payrolllaw7_RecordsDamage.j0] at h
 | k + 1 => by
  have ih0 := payrolllaw7_RecordsDamage.mono_l k
  ·
   intro y0 y1 y2 y3 y4 y5 y6 y7 y8 y9 y10
   unfold payrolllaw7_RecordsDamage.j0
   repeat' first
   | (with_reducible exact ih0 _ _ _ _ _ _ _ _ _ _ _)
   | (with_reducible exact payrolllaw7_sane.mono _)
   | (with_reducible exact records_Decode.mono _ _)
   | (with_reducible exact records_Encode.mono _ _ _ _ _ _ _ _)
   | (with_reducible exact LeO.refl _)
   | (with_reducible exact LeO.none _)
   | (with_reducible refine LeO.ite ?_ ?_)
   | (with_reducible refine LeO.bind ?_ (fun _ => ?_))
   | exact ih0 _ _ _ _ _ _ _ _ _ _ _
   | exact payrolllaw7_sane.mono _
   | exact records_Decode.mono _ _
   | exact records_Encode.mono _ _ _ _ _ _ _ _
   | exact LeO.none _
   | refine LeO.ite ?_ ?_
   | refine LeO.bind ?_ (fun _ => ?_)
theorem payrolllaw7_RecordsDamage.mono : ∀ a0 a1 a2 k, LeO (payrolllaw7_RecordsDamage.f k a0 a1 a2) (payrolllaw7_RecordsDamage.f (k + 1) a0 a1 a2) := by
 intro a0 a1 a2 k
 have ih0 := payrolllaw7_RecordsDamage.mono_l k
 unfold payrolllaw7_RecordsDamage.f
 repeat' first
   | (with_reducible exact ih0 _ _ _ _ _ _ _ _ _ _ _)
   | (with_reducible exact payrolllaw7_sane.mono _)
   | (with_reducible exact records_Decode.mono _ _)
   | (with_reducible exact records_Encode.mono _ _ _ _ _ _ _ _)
   | (with_reducible exact LeO.refl _)
   | (with_reducible exact LeO.none _)
   | (with_reducible refine LeO.ite ?_ ?_)
   | (with_reducible refine LeO.bind ?_ (fun _ => ?_))
   | exact ih0 _ _ _ _ _ _ _ _ _ _ _
   | exact payrolllaw7_sane.mono _
   | exact records_Decode.mono _ _
   | exact records_Encode.mono _ _ _ _ _ _ _ _
   | exact LeO.none _
   | refine LeO.ite ?_ ?_
   | refine LeO.bind ?_ (fun _ => ?_)
def payrolllaw7_RecordsDamage.T12 : Bool × List (List Nat × List Nat) := (true, [([], []), ([0], [0]), ([1], [1]), ([2], [2]), ([3], [3]), ([4, 3], [3, 4]), ([5, 3], [3, 5]), ([6, 3, 3], [3, 6]), ([7], [7]), ([8, 7], [7, 8]), ([9, 7], [7, 9]), ([7], [7]), ([10, 11, 7], [7, 10, 11]), ([12, 7, 7], [7, 12]), ([13], [13]), ([14, 13], [13, 14]), ([13, 15, 7], [7, 13, 15]), ([7, 16, 3], [3, 7, 16]), ([17, 13, 3], [3, 17]), ([18], [18]), ([19, 18], [18, 19]), ([20, 18], [18, 20]), ([18], [18]), ([21, 22, 18], [18, 21, 22]), ([18, 23, 3], [3, 18, 23]), ([3, 24], [3, 24]), ([25, 18], [25]), ([26, 26], [26]), ([26, 27], [26, 27]), ([28, 27, 0, 1, 2, 3, 4, 5, 6, 7, 8, 9, 10, 11, 12, 13, 14, 15, 16, 17, 18, 19, 20, 21, 22, 23, 24, 25, 26, 27, 28], [28])])
def payrolllaw7_RecordsDamage.B12 : List Nat := [0, 1, 3, 7, 15, 31, 63, 127, 255, 511, 1023, 255, 4095, 8191, 16383, 32767, 65535, 131071, 262143, 524287, 1048575, 2097151, 524287, 8388607, 16777215, 33554431, 67108863, 134217727, 268435455, 536870911]
theorem payrolllaw7_RecordsDamage.tab12 : rtab .any (opsOf Try.f7 12) = payrolllaw7_RecordsDamage.T12 := by kernel_rfl
theorem payrolllaw7_RecordsDamage.bits12 : waitsOk payrolllaw7_RecordsDamage.T12.2 payrolllaw7_RecordsDamage.B12 = true := by kernel_rfl
set_option maxHeartbeats 8000000 in
set_option maxRecDepth 100000 in
theorem payrolllaw7_RecordsDamage.calls (k : Nat) (A0 : Option Addr) (c0 : Nat) (l0 : List Int) (a1 : Int) (a2 : Int) (r : Bool) (w : World) (hr0 : Kd.C (Kd.int .i64) w A0 l0.length l0) (hc0 : l0.length ≤ c0) (h : payrolllaw7_RecordsDamage.f k l0 a1 a2 = some r) (hT : r = true) :
  Calls Try.prog 7 #[.slice A0 l0.length c0, .int .i64 a1, .int .u8 a2] w fun e w' => e = .returned (.bool r) ∧ Below w.heap.size w w' := by
 have HT := Aside0.mk hT
 clear hT
 have hu26 := Try.underlying26
 have HR0 := Aside0.mk hr0
 have HC0 := Aside0.mk hc0
 clear hr0 hc0
 have HB := Aside0.mk (Below.refl w.heap.size w)
 have H : ((payrollgen_New.f l0).bind fun bt605 => ((payrollgen_Tape_Event.f bt605.1 bt605.2).bind fun bt608 => ((records_Encode.f k bt608.1 bt608.2.1 bt608.2.2.1 bt608.2.2.2.1 bt608.2.2.2.2.1 bt608.2.2.2.2.2.1 bt608.2.2.2.2.2.2.1).bind fun bt617 => (if bt617.2 = 0 then (payrolllaw7_RecordsDamage.j0 k a1 a2 bt617.1 ((bt617.1.length : Int) != 24) bt608.1 bt608.2.1 bt608.2.2.1 bt608.2.2.2.1 bt608.2.2.2.2.1 bt608.2.2.2.2.2.1 bt608.2.2.2.2.2.2.1) else (payrolllaw7_RecordsDamage.j0 k a1 a2 bt617.1 true bt608.1 bt608.2.1 bt608.2.2.1 bt608.2.2.2.1 bt608.2.2.2.2.1 bt608.2.2.2.2.2.1 bt608.2.2.2.2.2.2.1))))) = some r := h
 clear h
 replace H := Option.bind_eq_some_iff.mp H
 obtain ⟨⟨t605, t606⟩, A40, H⟩ := H
 replace H : ((payrollgen_Tape_Event.f t605 t606).bind fun bt608 => ((records_Encode.f k bt608.1 bt608.2.1 bt608.2.2.1 bt608.2.2.2.1 bt608.2.2.2.2.1 bt608.2.2.2.2.2.1 bt608.2.2.2.2.2.2.1).bind fun bt617 => (if bt617.2 = 0 then (payrolllaw7_RecordsDamage.j0 k a1 a2 bt617.1 ((bt617.1.length : Int) != 24) bt608.1 bt608.2.1 bt608.2.2.1 bt608.2.2.2.1 bt608.2.2.2.2.1 bt608.2.2.2.2.2.1 bt608.2.2.2.2.2.2.1) else (payrolllaw7_RecordsDamage.j0 k a1 a2 bt617.1 true bt608.1 bt608.2.1 bt608.2.2.1 bt608.2.2.2.1 bt608.2.2.2.2.1 bt608.2.2.2.2.2.1 bt608.2.2.2.2.2.2.1)))) = some r := H
 have A4 := Aside0.mk A40
 clear A40
 replace H := Option.bind_eq_some_iff.mp H
 obtain ⟨⟨t608, t609, t610, t611, t612, t613, t614, t615⟩, A50, H⟩ := H
 replace H : ((records_Encode.f k t608 t609 t610 t611 t612 t613 t614).bind fun bt617 => (if bt617.2 = 0 then (payrolllaw7_RecordsDamage.j0 k a1 a2 bt617.1 ((bt617.1.length : Int) != 24) t608 t609 t610 t611 t612 t613 t614) else (payrolllaw7_RecordsDamage.j0 k a1 a2 bt617.1 true t608 t609 t610 t611 t612 t613 t614))) = some r := H
 have A5 := Aside0.mk A50
 clear A50
 replace H := Option.bind_eq_some_iff.mp H
 obtain ⟨⟨t617, t620⟩, A60, H⟩ := H
 replace H : (if t620 = 0 then (payrolllaw7_RecordsDamage.j0 k a1 a2 t617 ((t617.length : Int) != 24) t608 t609 t610 t611 t612 t613 t614) else (payrolllaw7_RecordsDamage.j0 k a1 a2 t617 true t608 t609 t610 t611 t612 t613 t614)) = some r := H
 have A6 := Aside0.mk A60
 clear A60
 have HC7 := Aside0.mk H
 clear H
 go_enter Try.func7, Try.ntmps7
 go_upto_region 4 with (first | ((with_reducible refine gate_callee (f := 9) rfl ?_); refine goesL_ (some 19) rfl rfl Try.func9 (by kernel_rfl) rfl #[.slice A0 l0.length c0] rfl (by (try simp only [List.map_toArray, List.map_cons, List.map_nil]); first | done | rfl | (simp only [List.length_drop, List.length_take]; rfl)) ?_; (with_reducible refine (payrollgen_New.calls _ _ l0 t605 t606 w _ ?side1 ?side2 ?side3 A4.out).mono ?_); (case side1 => repeat (first | (with_reducible first | exact HB.out | apply below_alloc | apply pw_below_drewN | apply below_drew1) | exact HB.out)); (case side2 => exact HR0.out); (case side3 => exact HC0.out); rintro e w8 ⟨g607, rfl, hi, hb, hb2⟩; refine ⟨_, rfl, ?_⟩; have n0_ := Aside0.mk (hb); have n1_ := Aside0.mk (hi); clear HB; have HB := n0_; have HI607 := n1_; clear n0_ n1_; (try clear hb); (try clear hb2); (try clear hk); (try clear hi)) | ((with_reducible refine gate_callee (f := 10) rfl ?_); refine goesL_ (some 21) rfl rfl Try.func10 (by kernel_rfl) rfl #[.pointer (some ⟨g607, 0, none⟩)] rfl (by (try simp only [List.map_toArray, List.map_cons, List.map_nil]); first | done | rfl | (simp only [List.length_drop, List.length_take]; rfl)) ?_; (with_reducible refine (payrollgen_Tape_Event.calls g607 t605 t606 t608 t609 t610 t611 t612 t613 t614 t615 w _ ?side1 ?side2 A5.out).mono ?_); (case side1 => repeat (first | (with_reducible first | exact HI607.out | apply IsS57.alloc | apply IsS57.drewN | apply IsS57.drew | apply IsS57.set_1) | exact HI607.out)); (case side2 => repeat (first | (with_reducible first | exact HB.out | apply below_alloc | apply pw_below_drewN | apply below_drew1 | refine below_set ?_ (IsS57.ge HI607.out)) | exact HB.out)); rintro e w9 ⟨rfl, hi, hb, hk⟩; refine ⟨_, rfl, ?_⟩; have n0_ := Aside0.mk (hb); have n1_ := Aside0.mk (hi); clear HB; clear HI607; have HB := n0_; have HI607 := n1_; clear n0_ n1_; (try clear hb); (try clear hb2); (try clear hk); (try clear hi)) | ((with_reducible refine gate_dst (N := 8) rfl ?_); (try (refine gate_guard (by rfl) ?_; dsimp only)); refine box_event ?hg (N := 8) ?hd (cs := #[.int .i64 0, .int .i64 0, .int .i64 0, .int .i64 0, .int .i64 0, .int .i64 0, .int .i64 0]) (t := 26) ?hr ?_; (case hd => rfl); (case hg => rfl); (case hr => first | (go_simp; done) | (go_simp; rfl)); intro gb616 hg w10 hbox hb; have n0_ := Aside0.mk (IsS57.below (by repeat (first | (with_reducible first | exact HI607.out | apply IsS57.alloc | apply IsS57.drewN | apply IsS57.drew | apply IsS57.set_1) | exact HI607.out)) hb); have n1_ := Aside0.mk (below_step (by repeat (first | (with_reducible first | exact HB.out | apply below_alloc | apply pw_below_drewN | apply below_drew1 | refine below_set ?_ (IsS57.ge HI607.out)) | exact HB.out)) hb); have n2_ := Aside0.mk (hbox); have n3_ := Aside0.mk ((by rw [hg]; exact (below_size (by repeat (first | (with_reducible first | exact HB.out | apply below_alloc | apply pw_below_drewN | apply below_drew1 | refine below_set ?_ (IsS57.ge HI607.out)) | exact HB.out))) : w.heap.size ≤ gb616)); have n4_ := Aside0.mk ((by rw [hg]; exact (below_size (by repeat (first | (with_reducible first | exact HB.out | apply below_alloc | apply pw_below_drewN | apply below_drew1 | refine below_set ?_ (IsS57.ge HI607.out)) | exact HB.out))) : w.heap.size ≤ gb616)); have n5_ := Aside0.mk ((by rw [hg]; exact Nat.ne_of_lt (IsS57.lt (show IsS57 w _ g607 t605 t615 from by repeat (first | (with_reducible first | exact HI607.out | apply IsS57.alloc | apply IsS57.drewN | apply IsS57.drew | apply IsS57.set_1) | exact HI607.out))) : g607 ≠ gb616)); have n6_ := Aside0.mk ((by rw [hg]; exact Nat.ne_of_gt (IsS57.lt (show IsS57 w _ g607 t605 t615 from by repeat (first | (with_reducible first | exact HI607.out | apply IsS57.alloc | apply IsS57.drewN | apply IsS57.drew | apply IsS57.set_1) | exact HI607.out))) : gb616 ≠ g607)); clear HI607; clear HB; have HI607 := n0_; have HB := n1_; have BK616 := n2_; have GW616 := n3_; have GE616 := n4_; have NB607_616 := n5_; have NB616_607 := n6_; clear n0_ n1_ n2_ n3_ n4_ n5_ n6_; clear hb hbox hg; have hnb11 := NB616_607.out; have hnc11 := NB607_616.out; have hcz12_0 : w10.cell? ⟨gb616, 0, none⟩ = some (.int .i64 0) := (blk_cell BK616.out 0).trans rfl; have hcz12_1 : w10.cell? ⟨gb616, 1, none⟩ = some (.int .i64 0) := (blk_cell BK616.out 1).trans rfl; have hcz12_2 : w10.cell? ⟨gb616, 2, none⟩ = some (.int .i64 0) := (blk_cell BK616.out 2).trans rfl; have hcz12_3 : w10.cell? ⟨gb616, 3, none⟩ = some (.int .i64 0) := (blk_cell BK616.out 3).trans rfl; have hcz12_4 : w10.cell? ⟨gb616, 4, none⟩ = some (.int .i64 0) := (blk_cell BK616.out 4).trans rfl; have hcz12_5 : w10.cell? ⟨gb616, 5, none⟩ = some (.int .i64 0) := (blk_cell BK616.out 5).trans rfl; have hcz12_6 : w10.cell? ⟨gb616, 6, none⟩ = some (.int .i64 0) := (blk_cell BK616.out 6).trans rfl; have hfz12_0 := blk_frozen BK616.out 0; have hfz12_1 := blk_frozen BK616.out 1; have hfz12_2 := blk_frozen BK616.out 2; have hfz12_3 := blk_frozen BK616.out 3; have hfz12_4 := blk_frozen BK616.out 4; have hfz12_5 := blk_frozen BK616.out 5; have hfz12_6 := blk_frozen BK616.out 6) | ((with_reducible refine gate_callee (f := 12) rfl ?_); refine goesL_ (some 24) rfl rfl Try.func12 (by kernel_rfl) rfl #[.agg #[.int .i64 t608, .int .i64 t609, .int .i64 t610, .int .i64 t611, .int .i64 t612, .int .i64 t613, .int .i64 t614]] rfl (by (try simp only [List.map_toArray, List.map_cons, List.map_nil]); first | done | rfl | (simp only [List.length_drop, List.length_take]; rfl)) ?_; (with_reducible refine (records_Encode.calls k t608 t609 t610 t611 t612 t613 t614 t617 t620 _ A6.out).mono ?_); rintro e w13 ⟨v618, rfl, ho0, hb⟩; refine ⟨_, rfl, ?_⟩; have n0_ := Aside0.mk (Kd.R_lower ho0 (below_size (by repeat (first | (with_reducible first | exact HB.out | apply below_alloc | apply pw_below_drewN | apply below_drew1 | refine below_set ?_ (IsS57.ge HI607.out) | refine below_set ?_ GE616.out) | exact HB.out)))); have n1_ := Aside0.mk (IsS57.below (show IsS57 w (((((((w10.setCell ⟨gb616, 0, none⟩ (.int .i64 t608)).setCell ⟨gb616, 1, none⟩ (.int .i64 t609)).setCell ⟨gb616, 2, none⟩ (.int .i64 t610)).setCell ⟨gb616, 3, none⟩ (.int .i64 t611)).setCell ⟨gb616, 4, none⟩ (.int .i64 t612)).setCell ⟨gb616, 5, none⟩ (.int .i64 t613)).setCell ⟨gb616, 6, none⟩ (.int .i64 t614)) g607 t605 t615 from by repeat (first | (with_reducible first | exact HI607.out | apply IsS57.alloc | apply IsS57.drewN | apply IsS57.drew | apply IsS57.set_1 | refine IsS57.far ?_ NB607_616.out _) | exact HI607.out)) hb); have n2_ := Aside0.mk (blk_below (g := gb616) (o := .cells #[.int .i64 t608, .int .i64 t609, .int .i64 t610, .int .i64 t611, .int .i64 t612, .int .i64 t613, .int .i64 t614] 26 (0, 0)) (by (with_reducible repeat (first | refine blk_drewN ?_ _ | refine blk_drew ?_ | refine blk_alloc ?_ _)); refine blk_put (cs := #[.int .i64 t608, .int .i64 t609, .int .i64 t610, .int .i64 t611, .int .i64 t612, .int .i64 t613, .int .i64 0]) ?_ 6 _ rfl; (with_reducible repeat (first | refine blk_drewN ?_ _ | refine blk_drew ?_ | refine blk_alloc ?_ _)); refine blk_put (cs := #[.int .i64 t608, .int .i64 t609, .int .i64 t610, .int .i64 t611, .int .i64 t612, .int .i64 0, .int .i64 0]) ?_ 5 _ rfl; (with_reducible repeat (first | refine blk_drewN ?_ _ | refine blk_drew ?_ | refine blk_alloc ?_ _)); refine blk_put (cs := #[.int .i64 t608, .int .i64 t609, .int .i64 t610, .int .i64 t611, .int .i64 0, .int .i64 0, .int .i64 0]) ?_ 4 _ rfl; (with_reducible repeat (first | refine blk_drewN ?_ _ | refine blk_drew ?_ | refine blk_alloc ?_ _)); refine blk_put (cs := #[.int .i64 t608, .int .i64 t609, .int .i64 t610, .int .i64 0, .int .i64 0, .int .i64 0, .int .i64 0]) ?_ 3 _ rfl; (with_reducible repeat (first | refine blk_drewN ?_ _ | refine blk_drew ?_ | refine blk_alloc ?_ _)); refine blk_put (cs := #[.int .i64 t608, .int .i64 t609, .int .i64 0, .int .i64 0, .int .i64 0, .int .i64 0, .int .i64 0]) ?_ 2 _ rfl; (with_reducible repeat (first | refine blk_drewN ?_ _ | refine blk_drew ?_ | refine blk_alloc ?_ _)); refine blk_put (cs := #[.int .i64 t608, .int .i64 0, .int .i64 0, .int .i64 0, .int .i64 0, .int .i64 0, .int .i64 0]) ?_ 1 _ rfl; (with_reducible repeat (first | refine blk_drewN ?_ _ | refine blk_drew ?_ | refine blk_alloc ?_ _)); refine blk_put (cs := #[.int .i64 0, .int .i64 0, .int .i64 0, .int .i64 0, .int .i64 0, .int .i64 0, .int .i64 0]) ?_ 0 _ rfl; (with_reducible repeat (first | refine blk_drewN ?_ _ | refine blk_drew ?_ | refine blk_alloc ?_ _)); exact BK616.out) hb); have n3_ := Aside0.mk (below_step (by repeat (first | (with_reducible first | exact HB.out | apply below_alloc | apply pw_below_drewN | apply below_drew1 | refine below_set ?_ (IsS57.ge HI607.out) | refine below_set ?_ GE616.out) | exact HB.out)) hb); clear HI607; clear BK616; clear HB; have HO619 := n0_; have HI607 := n1_; have BK616 := n2_; have HB := n3_; clear n0_ n1_ n2_ n3_; (try clear hb); (try clear hb2); (try clear hk); (try clear hi); (try clear ho0)))
 (try simp only [Act.put, List.setIfInBounds_toArray, List.set_cons_zero, List.set_cons_succ])
 go_cut [33] (fun v33 wc => ∃ (kq : Nat) (x33_6 : Bool), v33 = .bool x33_6 ∧ Aside0 (payrolllaw7_RecordsDamage.j0 kq a1 a2 t617 x33_6 t608 t609 t610 t611 t612 t613 t614 = some r) ∧ Aside0 (kq ≤ k) ∧ Aside0 (Kd.R (Kd.int .u8) 5 wc w.heap.size (fun _ => True) v618 t617) ∧ Aside0 (wc.heap[gb616]? = some (.cells #[.int .i64 t608, .int .i64 t609, .int .i64 t610, .int .i64 t611, .int .i64 t612, .int .i64 t613, .int .i64 t614] 26 (0, 0))) ∧ Aside0 (Below w.heap.size w wc))
 case first =>
  have H := HC7.out
  clear HC7
  by_cases c14 : t620 = 0
  ·
   rw [if_pos c14] at H
   have c14b0 : (t620 == 0) = true := beq_iff_eq.mpr c14
   have c14b1 : (t620 != 0) = false := bne_eq_false_iff_eq.mpr c14
   clear c14
   (first | rw [c14b0] | (simp only [i64_w, i32_w]; rw [c14b0]) | skip)
   have H' := Aside0.mk H
   clear H
   obtain ⟨Ao15, co15, eo15⟩ := Kd.R_slice HO619.out
   subst eo15
   go_wp2
   go_meet
   case rel => exact ⟨_, (((t617.length : Int) != 24)), (by first | rfl | (simp; done) | (simp [*]; done)), H', ⟨by first | omega | exact Nat.le_refl _⟩, ⟨by (with_reducible repeat (first | apply Kd.R_alloc | apply Kd.R_drewN | apply Kd.R_drew)); exact HO619.out⟩, ⟨by (with_reducible repeat (first | refine blk_drewN ?_ _ | refine blk_drew ?_ | refine blk_alloc ?_ _)); exact BK616.out⟩, ⟨by repeat (first | (with_reducible first | exact HB.out | apply below_alloc | apply pw_below_drewN | apply below_drew1 | refine below_set ?_ (IsS57.ge HI607.out) | refine below_set ?_ GE616.out) | exact HB.out)⟩⟩
  ·
   rw [if_neg c14] at H
   have c14b0 : (t620 == 0) = false := beq_eq_false_iff_ne.mpr c14
   have c14b1 : (t620 != 0) = true := bne_iff_ne.mpr c14
   (first | rw [c14b0] | (simp only [i64_w, i32_w]; rw [c14b0]) | skip)
   have H' := Aside0.mk H
   clear H
   go_wp2
   go_meet
   case rel => exact ⟨_, (true), (by first | rfl | (simp; done) | (simp [*]; done)), H', ⟨by first | omega | exact Nat.le_refl _⟩, ⟨by (with_reducible repeat (first | apply Kd.R_alloc | apply Kd.R_drewN | apply Kd.R_drew)); exact HO619.out⟩, ⟨by (with_reducible repeat (first | refine blk_drewN ?_ _ | refine blk_drew ?_ | refine blk_alloc ?_ _)); exact BK616.out⟩, ⟨by repeat (first | (with_reducible first | exact HB.out | apply below_alloc | apply pw_below_drewN | apply below_drew1 | refine below_set ?_ (IsS57.ge HI607.out) | refine below_set ?_ GE616.out) | exact HB.out)⟩⟩
 case rest =>
  clear HC7
  try clear c1
  try clear p2
  try clear c7
  try clear c9
  try clear c10
  try clear c11
  try clear c12
  try clear c14
  try clear c14b0
  try clear c14b1
  try clear hcz12_0
  try clear hcz12_1
  try clear hcz12_2
  try clear hcz12_3
  try clear hcz12_4
  try clear hcz12_5
  try clear hcz12_6
  try clear hfz12_0
  try clear hfz12_1
  try clear hfz12_2
  try clear hfz12_3
  try clear hfz12_4
  try clear hfz12_5
  try clear hfz12_6
  obtain ⟨kq, x33_6, rfl, HA, HJ6, HO_9, BK616, HB⟩ := hcut
  cases kq with
  | zero => exact absurd HA.out (by simp [payrolllaw7_RecordsDamage.j0])
  | succ kj6 =>
   have H := HA.out
   clear HA
   simp only [payrolllaw7_RecordsDamage.j0] at H
   by_cases c16 : x33_6 = true
   ·
    subst c16
    have H1 : (some false) = some r := by rw [if_pos rfl] at H; exact H
    clear H
    have H := H1
    clear H1
    obtain rfl := Option.some.inj H
    go_wp2
    go_ret
    exact ⟨by first | rfl | (simp [errW_none, errW_some] <;> rfl) | (simp [*, errW_none, errW_some] <;> rfl), by repeat (first | (with_reducible first | exact HB.out | apply below_alloc | apply pw_below_drewN | apply below_drew1 | refine below_set ?_ GE616.out) | exact HB.out)⟩
   ·
    replace c16 := Bool.eq_false_iff.mpr c16
    subst c16
    have H1 : ((some (([] : List Int) : List Int)).bind fun y621 => (if y621.length + t617.length < 140737488355328 then ((some (y621 ++ t617 : List Int)).bind fun y624 => ((payrollgen_Mod.f a1 24).bind fun t627 => (if 0 ≤ t627 then (if t627 < (y624.length : Int) then ((some (y624.set (t627 : Int).toNat (Go.bits .xor .u8 (rd y624 t627) (Go.bits .or .u8 a2 1)) : List Int)).bind fun y629 => ((records_Decode.f kj6 y629).bind fun bt630 => ((some (([] : List Int) : List Int)).bind fun y637 => (if y637.length + y629.length < 140737488355328 then ((some (y637 ++ y629 : List Int)).bind fun y640 => (if y640.length + t617.length < 140737488355328 then ((records_Decode.f kj6 (y640 ++ t617)).bind fun bt646 => (if (bt630.1.length : Int) = 0 then (if bt630.2.2 = 1 then (if bt646.2.2 < 1 then (some false) else (if (bt646.1.length : Int) > 0 then (if (bt646.1.length : Int) > 1 then ((payrolllaw7_sane.f kj6).bind fun t653 => (some t653)) else (if 0 < (bt646.1.length : Int) then (if ((((rd_T26 bt646.1 0).f0.f0) == t608 && (((rd_T26 bt646.1 0).f0.f1) == t609)) && (((rd_T26 bt646.1 0).f1) == t610 && (((rd_T26 bt646.1 0).f2) == t611 && (((rd_T26 bt646.1 0).f3) == t612 && ((((rd_T26 bt646.1 0).f4.f0) == t613 && (((rd_T26 bt646.1 0).f4.f1) == t614))))))) = true then (if bt646.2.2 = 48 then ((payrolllaw7_sane.f kj6).bind fun t655 => (some t655)) else (if ((!(((rd_T26 bt646.1 0).f0.f0) == t608) || (!(((rd_T26 bt646.1 0).f0.f1) == t609))) || (!(((rd_T26 bt646.1 0).f1) == t610) || (!(((rd_T26 bt646.1 0).f2) == t611) || (!(((rd_T26 bt646.1 0).f3) == t612) || ((!(((rd_T26 bt646.1 0).f4.f0) == t613) || (!(((rd_T26 bt646.1 0).f4.f1) == t614)))))))) = true then ((payrolllaw7_sane.f kj6).bind fun t657 => (some t657)) else (some false))) else (if ((!(((rd_T26 bt646.1 0).f0.f0) == t608) || (!(((rd_T26 bt646.1 0).f0.f1) == t609))) || (!(((rd_T26 bt646.1 0).f1) == t610) || (!(((rd_T26 bt646.1 0).f2) == t611) || (!(((rd_T26 bt646.1 0).f3) == t612) || ((!(((rd_T26 bt646.1 0).f4.f0) == t613) || (!(((rd_T26 bt646.1 0).f4.f1) == t614)))))))) = true then ((payrolllaw7_sane.f kj6).bind fun t659 => (some t659)) else (some false))) else (none))) else (some false))) else (some false)) else (some false))) else (none))) else (none))))) else (none)) else (none)))) else (none))) = some r := by rw [if_neg (show ¬ (false = true) by decide)] at H; exact H
    clear H
    have H := H1
    clear H1
    obtain ⟨y621, hy621⟩ : ∃ y_ : List Int, y_ = (([] : List Int)) := ⟨_, rfl⟩
    replace H : (if y621.length + t617.length < 140737488355328 then ((some (y621 ++ t617 : List Int)).bind fun y624 => ((payrollgen_Mod.f a1 24).bind fun t627 => (if 0 ≤ t627 then (if t627 < (y624.length : Int) then ((some (y624.set (t627 : Int).toNat (Go.bits .xor .u8 (rd y624 t627) (Go.bits .or .u8 a2 1)) : List Int)).bind fun y629 => ((records_Decode.f kj6 y629).bind fun bt630 => ((some (([] : List Int) : List Int)).bind fun y637 => (if y637.length + y629.length < 140737488355328 then ((some (y637 ++ y629 : List Int)).bind fun y640 => (if y640.length + t617.length < 140737488355328 then ((records_Decode.f kj6 (y640 ++ t617)).bind fun bt646 => (if (bt630.1.length : Int) = 0 then (if bt630.2.2 = 1 then (if bt646.2.2 < 1 then (some false) else (if (bt646.1.length : Int) > 0 then (if (bt646.1.length : Int) > 1 then ((payrolllaw7_sane.f kj6).bind fun t653 => (some t653)) else (if 0 < (bt646.1.length : Int) then (if ((((rd_T26 bt646.1 0).f0.f0) == t608 && (((rd_T26 bt646.1 0).f0.f1) == t609)) && (((rd_T26 bt646.1 0).f1) == t610 && (((rd_T26 bt646.1 0).f2) == t611 && (((rd_T26 bt646.1 0).f3) == t612 && ((((rd_T26 bt646.1 0).f4.f0) == t613 && (((rd_T26 bt646.1 0).f4.f1) == t614))))))) = true then (if bt646.2.2 = 48 then ((payrolllaw7_sane.f kj6).bind fun t655 => (some t655)) else (if ((!(((rd_T26 bt646.1 0).f0.f0) == t608) || (!(((rd_T26 bt646.1 0).f0.f1) == t609))) || (!(((rd_T26 bt646.1 0).f1) == t610) || (!(((rd_T26 bt646.1 0).f2) == t611) || (!(((rd_T26 bt646.1 0).f3) == t612) || ((!(((rd_T26 bt646.1 0).f4.f0) == t613) || (!(((rd_T26 bt646.1 0).f4.f1) == t614)))))))) = true then ((payrolllaw7_sane.f kj6).bind fun t657 => (some t657)) else (some false))) else (if ((!(((rd_T26 bt646.1 0).f0.f0) == t608) || (!(((rd_T26 bt646.1 0).f0.f1) == t609))) || (!(((rd_T26 bt646.1 0).f1) == t610) || (!(((rd_T26 bt646.1 0).f2) == t611) || (!(((rd_T26 bt646.1 0).f3) == t612) || ((!(((rd_T26 bt646.1 0).f4.f0) == t613) || (!(((rd_T26 bt646.1 0).f4.f1) == t614)))))))) = true then ((payrolllaw7_sane.f kj6).bind fun t659 => (some t659)) else (some false))) else (none))) else (some false))) else (some false)) else (some false))) else (none))) else (none))))) else (none)) else (none)))) else (none)) = some r := by first | (rw [hy621]; with_reducible exact H) | (have H2_ := (Option.bind_some _ _).symm.trans H; rw [hy621]; with_reducible exact H2_) | (have H2_ := (Option.bind_some _ _).symm.trans H; with_reducible exact H2_) | with_reducible exact H | (rw [hy621]; exact H) | exact H
    have Ny621 := Aside0.mk hy621
    clear hy621
    by_cases c17 : y621.length + t617.length < 140737488355328
    ·
     rw [if_pos c17] at H
     have LMc17 := Aside0.mk c17
     clear c17
     obtain ⟨y624, hy624⟩ : ∃ y_ : List Int, y_ = (y621 ++ t617) := ⟨_, rfl⟩
     replace H : ((payrollgen_Mod.f a1 24).bind fun t627 => (if 0 ≤ t627 then (if t627 < (y624.length : Int) then ((some (y624.set (t627 : Int).toNat (Go.bits .xor .u8 (rd y624 t627) (Go.bits .or .u8 a2 1)) : List Int)).bind fun y629 => ((records_Decode.f kj6 y629).bind fun bt630 => ((some (([] : List Int) : List Int)).bind fun y637 => (if y637.length + y629.length < 140737488355328 then ((some (y637 ++ y629 : List Int)).bind fun y640 => (if y640.length + t617.length < 140737488355328 then ((records_Decode.f kj6 (y640 ++ t617)).bind fun bt646 => (if (bt630.1.length : Int) = 0 then (if bt630.2.2 = 1 then (if bt646.2.2 < 1 then (some false) else (if (bt646.1.length : Int) > 0 then (if (bt646.1.length : Int) > 1 then ((payrolllaw7_sane.f kj6).bind fun t653 => (some t653)) else (if 0 < (bt646.1.length : Int) then (if ((((rd_T26 bt646.1 0).f0.f0) == t608 && (((rd_T26 bt646.1 0).f0.f1) == t609)) && (((rd_T26 bt646.1 0).f1) == t610 && (((rd_T26 bt646.1 0).f2) == t611 && (((rd_T26 bt646.1 0).f3) == t612 && ((((rd_T26 bt646.1 0).f4.f0) == t613 && (((rd_T26 bt646.1 0).f4.f1) == t614))))))) = true then (if bt646.2.2 = 48 then ((payrolllaw7_sane.f kj6).bind fun t655 => (some t655)) else (if ((!(((rd_T26 bt646.1 0).f0.f0) == t608) || (!(((rd_T26 bt646.1 0).f0.f1) == t609))) || (!(((rd_T26 bt646.1 0).f1) == t610) || (!(((rd_T26 bt646.1 0).f2) == t611) || (!(((rd_T26 bt646.1 0).f3) == t612) || ((!(((rd_T26 bt646.1 0).f4.f0) == t613) || (!(((rd_T26 bt646.1 0).f4.f1) == t614)))))))) = true then ((payrolllaw7_sane.f kj6).bind fun t657 => (some t657)) else (some false))) else (if ((!(((rd_T26 bt646.1 0).f0.f0) == t608) || (!(((rd_T26 bt646.1 0).f0.f1) == t609))) || (!(((rd_T26 bt646.1 0).f1) == t610) || (!(((rd_T26 bt646.1 0).f2) == t611) || (!(((rd_T26 bt646.1 0).f3) == t612) || ((!(((rd_T26 bt646.1 0).f4.f0) == t613) || (!(((rd_T26 bt646.1 0).f4.f1) == t614)))))))) = true then ((payrolllaw7_sane.f kj6).bind fun t659 => (some t659)) else (some false))) else (none))) else (some false))) else (some false)) else (some false))) else (none))) else (none))))) else (none)) else (none))) = some r := by first | (rw [hy624]; with_reducible exact H) | (have H2_ := (Option.bind_some _ _).symm.trans H; rw [hy624]; with_reducible exact H2_) | (have H2_ := (Option.bind_some _ _).symm.trans H; with_reducible exact H2_) | with_reducible exact H | (rw [hy624]; exact H) | exact H
     have Ny624 := Aside0.mk hy624
     clear hy624
     replace H := Option.bind_eq_some_iff.mp H
     obtain ⟨t627, A180, H⟩ := H
     replace H : (if 0 ≤ t627 then (if t627 < (y624.length : Int) then ((some (y624.set (t627 : Int).toNat (Go.bits .xor .u8 (rd y624 t627) (Go.bits .or .u8 a2 1)) : List Int)).bind fun y629 => ((records_Decode.f kj6 y629).bind fun bt630 => ((some (([] : List Int) : List Int)).bind fun y637 => (if y637.length + y629.length < 140737488355328 then ((some (y637 ++ y629 : List Int)).bind fun y640 => (if y640.length + t617.length < 140737488355328 then ((records_Decode.f kj6 (y640 ++ t617)).bind fun bt646 => (if (bt630.1.length : Int) = 0 then (if bt630.2.2 = 1 then (if bt646.2.2 < 1 then (some false) else (if (bt646.1.length : Int) > 0 then (if (bt646.1.length : Int) > 1 then ((payrolllaw7_sane.f kj6).bind fun t653 => (some t653)) else (if 0 < (bt646.1.length : Int) then (if ((((rd_T26 bt646.1 0).f0.f0) == t608 && (((rd_T26 bt646.1 0).f0.f1) == t609)) && (((rd_T26 bt646.1 0).f1) == t610 && (((rd_T26 bt646.1 0).f2) == t611 && (((rd_T26 bt646.1 0).f3) == t612 && ((((rd_T26 bt646.1 0).f4.f0) == t613 && (((rd_T26 bt646.1 0).f4.f1) == t614))))))) = true then (if bt646.2.2 = 48 then ((payrolllaw7_sane.f kj6).bind fun t655 => (some t655)) else (if ((!(((rd_T26 bt646.1 0).f0.f0) == t608) || (!(((rd_T26 bt646.1 0).f0.f1) == t609))) || (!(((rd_T26 bt646.1 0).f1) == t610) || (!(((rd_T26 bt646.1 0).f2) == t611) || (!(((rd_T26 bt646.1 0).f3) == t612) || ((!(((rd_T26 bt646.1 0).f4.f0) == t613) || (!(((rd_T26 bt646.1 0).f4.f1) == t614)))))))) = true then ((payrolllaw7_sane.f kj6).bind fun t657 => (some t657)) else (some false))) else (if ((!(((rd_T26 bt646.1 0).f0.f0) == t608) || (!(((rd_T26 bt646.1 0).f0.f1) == t609))) || (!(((rd_T26 bt646.1 0).f1) == t610) || (!(((rd_T26 bt646.1 0).f2) == t611) || (!(((rd_T26 bt646.1 0).f3) == t612) || ((!(((rd_T26 bt646.1 0).f4.f0) == t613) || (!(((rd_T26 bt646.1 0).f4.f1) == t614)))))))) = true then ((payrolllaw7_sane.f kj6).bind fun t659 => (some t659)) else (some false))) else (none))) else (some false))) else (some false)) else (some false))) else (none))) else (none))))) else (none)) else (none)) = some r := H
     have A18 := Aside0.mk A180
     clear A180
     by_cases c19 : 0 ≤ t627
     ·
      rw [if_pos c19] at H
      have c19b0 : decide (0 ≤ t627) = true := decide_eq_true c19
      clear c19
      by_cases c20 : t627 < (y624.length : Int)
      ·
       rw [if_pos c20] at H
       have c20b0 : decide (t627 < (y624.length : Int)) = true := decide_eq_true c20
       clear c20
       obtain ⟨y629, hy629⟩ : ∃ y_ : List Int, y_ = (y624.set (t627 : Int).toNat (Go.bits .xor .u8 (rd y624 t627) (Go.bits .or .u8 a2 1))) := ⟨_, rfl⟩
       replace H : ((records_Decode.f kj6 y629).bind fun bt630 => ((some (([] : List Int) : List Int)).bind fun y637 => (if y637.length + y629.length < 140737488355328 then ((some (y637 ++ y629 : List Int)).bind fun y640 => (if y640.length + t617.length < 140737488355328 then ((records_Decode.f kj6 (y640 ++ t617)).bind fun bt646 => (if (bt630.1.length : Int) = 0 then (if bt630.2.2 = 1 then (if bt646.2.2 < 1 then (some false) else (if (bt646.1.length : Int) > 0 then (if (bt646.1.length : Int) > 1 then ((payrolllaw7_sane.f kj6).bind fun t653 => (some t653)) else (if 0 < (bt646.1.length : Int) then (if ((((rd_T26 bt646.1 0).f0.f0) == t608 && (((rd_T26 bt646.1 0).f0.f1) == t609)) && (((rd_T26 bt646.1 0).f1) == t610 && (((rd_T26 bt646.1 0).f2) == t611 && (((rd_T26 bt646.1 0).f3) == t612 && ((((rd_T26 bt646.1 0).f4.f0) == t613 && (((rd_T26 bt646.1 0).f4.f1) == t614))))))) = true then (if bt646.2.2 = 48 then ((payrolllaw7_sane.f kj6).bind fun t655 => (some t655)) else (if ((!(((rd_T26 bt646.1 0).f0.f0) == t608) || (!(((rd_T26 bt646.1 0).f0.f1) == t609))) || (!(((rd_T26 bt646.1 0).f1) == t610) || (!(((rd_T26 bt646.1 0).f2) == t611) || (!(((rd_T26 bt646.1 0).f3) == t612) || ((!(((rd_T26 bt646.1 0).f4.f0) == t613) || (!(((rd_T26 bt646.1 0).f4.f1) == t614)))))))) = true then ((payrolllaw7_sane.f kj6).bind fun t657 => (some t657)) else (some false))) else (if ((!(((rd_T26 bt646.1 0).f0.f0) == t608) || (!(((rd_T26 bt646.1 0).f0.f1) == t609))) || (!(((rd_T26 bt646.1 0).f1) == t610) || (!(((rd_T26 bt646.1 0).f2) == t611) || (!(((rd_T26 bt646.1 0).f3) == t612) || ((!(((rd_T26 bt646.1 0).f4.f0) == t613) || (!(((rd_T26 bt646.1 0).f4.f1) == t614)))))))) = true then ((payrolllaw7_sane.f kj6).bind fun t659 => (some t659)) else (some false))) else (none))) else (some false))) else (some false)) else (some false))) else (none))) else (none)))) = some r := by first | (rw [hy629]; with_reducible exact H) | (have H2_ := (Option.bind_some _ _).symm.trans H; rw [hy629]; with_reducible exact H2_) | (have H2_ := (Option.bind_some _ _).symm.trans H; with_reducible exact H2_) | with_reducible exact H | (rw [hy629]; exact H) | exact H
       have Ny629 := Aside0.mk hy629
       clear hy629
       replace H := Option.bind_eq_some_iff.mp H
       obtain ⟨⟨t630, t631, t632⟩, A220, H⟩ := H
       replace H : ((some (([] : List Int) : List Int)).bind fun y637 => (if y637.length + y629.length < 140737488355328 then ((some (y637 ++ y629 : List Int)).bind fun y640 => (if y640.length + t617.length < 140737488355328 then ((records_Decode.f kj6 (y640 ++ t617)).bind fun bt646 => (if (t630.length : Int) = 0 then (if t632 = 1 then (if bt646.2.2 < 1 then (some false) else (if (bt646.1.length : Int) > 0 then (if (bt646.1.length : Int) > 1 then ((payrolllaw7_sane.f kj6).bind fun t653 => (some t653)) else (if 0 < (bt646.1.length : Int) then (if ((((rd_T26 bt646.1 0).f0.f0) == t608 && (((rd_T26 bt646.1 0).f0.f1) == t609)) && (((rd_T26 bt646.1 0).f1) == t610 && (((rd_T26 bt646.1 0).f2) == t611 && (((rd_T26 bt646.1 0).f3) == t612 && ((((rd_T26 bt646.1 0).f4.f0) == t613 && (((rd_T26 bt646.1 0).f4.f1) == t614))))))) = true then (if bt646.2.2 = 48 then ((payrolllaw7_sane.f kj6).bind fun t655 => (some t655)) else (if ((!(((rd_T26 bt646.1 0).f0.f0) == t608) || (!(((rd_T26 bt646.1 0).f0.f1) == t609))) || (!(((rd_T26 bt646.1 0).f1) == t610) || (!(((rd_T26 bt646.1 0).f2) == t611) || (!(((rd_T26 bt646.1 0).f3) == t612) || ((!(((rd_T26 bt646.1 0).f4.f0) == t613) || (!(((rd_T26 bt646.1 0).f4.f1) == t614)))))))) = true then ((payrolllaw7_sane.f kj6).bind fun t657 => (some t657)) else (some false))) else (if ((!(((rd_T26 bt646.1 0).f0.f0) == t608) || (!(((rd_T26 bt646.1 0).f0.f1) == t609))) || (!(((rd_T26 bt646.1 0).f1) == t610) || (!(((rd_T26 bt646.1 0).f2) == t611) || (!(((rd_T26 bt646.1 0).f3) == t612) || ((!(((rd_T26 bt646.1 0).f4.f0) == t613) || (!(((rd_T26 bt646.1 0).f4.f1) == t614)))))))) = true then ((payrolllaw7_sane.f kj6).bind fun t659 => (some t659)) else (some false))) else (none))) else (some false))) else (some false)) else (some false))) else (none))) else (none))) = some r := H
       have A22 := Aside0.mk A220
       clear A220
       obtain ⟨y637, hy637⟩ : ∃ y_ : List Int, y_ = (([] : List Int)) := ⟨_, rfl⟩
       replace H : (if y637.length + y629.length < 140737488355328 then ((some (y637 ++ y629 : List Int)).bind fun y640 => (if y640.length + t617.length < 140737488355328 then ((records_Decode.f kj6 (y640 ++ t617)).bind fun bt646 => (if (t630.length : Int) = 0 then (if t632 = 1 then (if bt646.2.2 < 1 then (some false) else (if (bt646.1.length : Int) > 0 then (if (bt646.1.length : Int) > 1 then ((payrolllaw7_sane.f kj6).bind fun t653 => (some t653)) else (if 0 < (bt646.1.length : Int) then (if ((((rd_T26 bt646.1 0).f0.f0) == t608 && (((rd_T26 bt646.1 0).f0.f1) == t609)) && (((rd_T26 bt646.1 0).f1) == t610 && (((rd_T26 bt646.1 0).f2) == t611 && (((rd_T26 bt646.1 0).f3) == t612 && ((((rd_T26 bt646.1 0).f4.f0) == t613 && (((rd_T26 bt646.1 0).f4.f1) == t614))))))) = true then (if bt646.2.2 = 48 then ((payrolllaw7_sane.f kj6).bind fun t655 => (some t655)) else (if ((!(((rd_T26 bt646.1 0).f0.f0) == t608) || (!(((rd_T26 bt646.1 0).f0.f1) == t609))) || (!(((rd_T26 bt646.1 0).f1) == t610) || (!(((rd_T26 bt646.1 0).f2) == t611) || (!(((rd_T26 bt646.1 0).f3) == t612) || ((!(((rd_T26 bt646.1 0).f4.f0) == t613) || (!(((rd_T26 bt646.1 0).f4.f1) == t614)))))))) = true then ((payrolllaw7_sane.f kj6).bind fun t657 => (some t657)) else (some false))) else (if ((!(((rd_T26 bt646.1 0).f0.f0) == t608) || (!(((rd_T26 bt646.1 0).f0.f1) == t609))) || (!(((rd_T26 bt646.1 0).f1) == t610) || (!(((rd_T26 bt646.1 0).f2) == t611) || (!(((rd_T26 bt646.1 0).f3) == t612) || ((!(((rd_T26 bt646.1 0).f4.f0) == t613) || (!(((rd_T26 bt646.1 0).f4.f1) == t614)))))))) = true then ((payrolllaw7_sane.f kj6).bind fun t659 => (some t659)) else (some false))) else (none))) else (some false))) else (some false)) else (some false))) else (none))) else (none)) = some r := by first | (rw [hy637]; with_reducible exact H) | (have H2_ := (Option.bind_some _ _).symm.trans H; rw [hy637]; with_reducible exact H2_) | (have H2_ := (Option.bind_some _ _).symm.trans H; with_reducible exact H2_) | with_reducible exact H | (rw [hy637]; exact H) | exact H
       have Ny637 := Aside0.mk hy637
       clear hy637
       by_cases c23 : y637.length + y629.length < 140737488355328
       ·
        rw [if_pos c23] at H
        have LMc23 := Aside0.mk c23
        clear c23
        obtain ⟨y640, hy640⟩ : ∃ y_ : List Int, y_ = (y637 ++ y629) := ⟨_, rfl⟩
        replace H : (if y640.length + t617.length < 140737488355328 then ((records_Decode.f kj6 (y640 ++ t617)).bind fun bt646 => (if (t630.length : Int) = 0 then (if t632 = 1 then (if bt646.2.2 < 1 then (some false) else (if (bt646.1.length : Int) > 0 then (if (bt646.1.length : Int) > 1 then ((payrolllaw7_sane.f kj6).bind fun t653 => (some t653)) else (if 0 < (bt646.1.length : Int) then (if ((((rd_T26 bt646.1 0).f0.f0) == t608 && (((rd_T26 bt646.1 0).f0.f1) == t609)) && (((rd_T26 bt646.1 0).f1) == t610 && (((rd_T26 bt646.1 0).f2) == t611 && (((rd_T26 bt646.1 0).f3) == t612 && ((((rd_T26 bt646.1 0).f4.f0) == t613 && (((rd_T26 bt646.1 0).f4.f1) == t614))))))) = true then (if bt646.2.2 = 48 then ((payrolllaw7_sane.f kj6).bind fun t655 => (some t655)) else (if ((!(((rd_T26 bt646.1 0).f0.f0) == t608) || (!(((rd_T26 bt646.1 0).f0.f1) == t609))) || (!(((rd_T26 bt646.1 0).f1) == t610) || (!(((rd_T26 bt646.1 0).f2) == t611) || (!(((rd_T26 bt646.1 0).f3) == t612) || ((!(((rd_T26 bt646.1 0).f4.f0) == t613) || (!(((rd_T26 bt646.1 0).f4.f1) == t614)))))))) = true then ((payrolllaw7_sane.f kj6).bind fun t657 => (some t657)) else (some false))) else (if ((!(((rd_T26 bt646.1 0).f0.f0) == t608) || (!(((rd_T26 bt646.1 0).f0.f1) == t609))) || (!(((rd_T26 bt646.1 0).f1) == t610) || (!(((rd_T26 bt646.1 0).f2) == t611) || (!(((rd_T26 bt646.1 0).f3) == t612) || ((!(((rd_T26 bt646.1 0).f4.f0) == t613) || (!(((rd_T26 bt646.1 0).f4.f1) == t614)))))))) = true then ((payrolllaw7_sane.f kj6).bind fun t659 => (some t659)) else (some false))) else (none))) else (some false))) else (some false)) else (some false))) else (none)) = some r := by first | (rw [hy640]; with_reducible exact H) | (have H2_ := (Option.bind_some _ _).symm.trans H; rw [hy640]; with_reducible exact H2_) | (have H2_ := (Option.bind_some _ _).symm.trans H; with_reducible exact H2_) | with_reducible exact H | (rw [hy640]; exact H) | exact H
        have Ny640 := Aside0.mk hy640
        clear hy640
        by_cases c24 : y640.length + t617.length < 140737488355328
        ·
         rw [if_pos c24] at H
         have LMc24 := Aside0.mk c24
         clear c24
         obtain ⟨y643, hy643⟩ : ∃ y_ : List Int, y_ = (y640 ++ t617) := ⟨_, rfl⟩
         replace H : ((records_Decode.f kj6 y643).bind fun bt646 => (if (t630.length : Int) = 0 then (if t632 = 1 then (if bt646.2.2 < 1 then (some false) else (if (bt646.1.length : Int) > 0 then (if (bt646.1.length : Int) > 1 then ((payrolllaw7_sane.f kj6).bind fun t653 => (some t653)) else (if 0 < (bt646.1.length : Int) then (if ((((rd_T26 bt646.1 0).f0.f0) == t608 && (((rd_T26 bt646.1 0).f0.f1) == t609)) && (((rd_T26 bt646.1 0).f1) == t610 && (((rd_T26 bt646.1 0).f2) == t611 && (((rd_T26 bt646.1 0).f3) == t612 && ((((rd_T26 bt646.1 0).f4.f0) == t613 && (((rd_T26 bt646.1 0).f4.f1) == t614))))))) = true then (if bt646.2.2 = 48 then ((payrolllaw7_sane.f kj6).bind fun t655 => (some t655)) else (if ((!(((rd_T26 bt646.1 0).f0.f0) == t608) || (!(((rd_T26 bt646.1 0).f0.f1) == t609))) || (!(((rd_T26 bt646.1 0).f1) == t610) || (!(((rd_T26 bt646.1 0).f2) == t611) || (!(((rd_T26 bt646.1 0).f3) == t612) || ((!(((rd_T26 bt646.1 0).f4.f0) == t613) || (!(((rd_T26 bt646.1 0).f4.f1) == t614)))))))) = true then ((payrolllaw7_sane.f kj6).bind fun t657 => (some t657)) else (some false))) else (if ((!(((rd_T26 bt646.1 0).f0.f0) == t608) || (!(((rd_T26 bt646.1 0).f0.f1) == t609))) || (!(((rd_T26 bt646.1 0).f1) == t610) || (!(((rd_T26 bt646.1 0).f2) == t611) || (!(((rd_T26 bt646.1 0).f3) == t612) || ((!(((rd_T26 bt646.1 0).f4.f0) == t613) || (!(((rd_T26 bt646.1 0).f4.f1) == t614)))))))) = true then ((payrolllaw7_sane.f kj6).bind fun t659 => (some t659)) else (some false))) else (none))) else (some false))) else (some false)) else (some false))) = some r := by first | (rw [hy643]; with_reducible exact H) | (have H2_ := (Option.bind_some _ _).symm.trans H; rw [hy643]; with_reducible exact H2_) | (have H2_ := (Option.bind_some _ _).symm.trans H; with_reducible exact H2_) | with_reducible exact H | (rw [hy643]; exact H) | exact H
         have Ny643 := Aside0.mk hy643
         clear hy643
         replace H := Option.bind_eq_some_iff.mp H
         obtain ⟨⟨t646, t647, t648⟩, A250, H⟩ := H
         replace H : (if (t630.length : Int) = 0 then (if t632 = 1 then (if t648 < 1 then (some false) else (if (t646.length : Int) > 0 then (if (t646.length : Int) > 1 then ((payrolllaw7_sane.f kj6).bind fun t653 => (some t653)) else (if 0 < (t646.length : Int) then (if ((((rd_T26 t646 0).f0.f0) == t608 && (((rd_T26 t646 0).f0.f1) == t609)) && (((rd_T26 t646 0).f1) == t610 && (((rd_T26 t646 0).f2) == t611 && (((rd_T26 t646 0).f3) == t612 && ((((rd_T26 t646 0).f4.f0) == t613 && (((rd_T26 t646 0).f4.f1) == t614))))))) = true then (if t648 = 48 then ((payrolllaw7_sane.f kj6).bind fun t655 => (some t655)) else (if ((!(((rd_T26 t646 0).f0.f0) == t608) || (!(((rd_T26 t646 0).f0.f1) == t609))) || (!(((rd_T26 t646 0).f1) == t610) || (!(((rd_T26 t646 0).f2) == t611) || (!(((rd_T26 t646 0).f3) == t612) || ((!(((rd_T26 t646 0).f4.f0) == t613) || (!(((rd_T26 t646 0).f4.f1) == t614)))))))) = true then ((payrolllaw7_sane.f kj6).bind fun t657 => (some t657)) else (some false))) else (if ((!(((rd_T26 t646 0).f0.f0) == t608) || (!(((rd_T26 t646 0).f0.f1) == t609))) || (!(((rd_T26 t646 0).f1) == t610) || (!(((rd_T26 t646 0).f2) == t611) || (!(((rd_T26 t646 0).f3) == t612) || ((!(((rd_T26 t646 0).f4.f0) == t613) || (!(((rd_T26 t646 0).f4.f1) == t614)))))))) = true then ((payrolllaw7_sane.f kj6).bind fun t659 => (some t659)) else (some false))) else (none))) else (some false))) else (some false)) else (some false)) = some r := H
         have A25 := Aside0.mk A250
         clear A250
         by_cases c26 : (t630.length : Int) = 0
         ·
          rw [if_pos c26] at H
          have c26b0 : ((t630.length : Int) == 0) = true := beq_iff_eq.mpr c26
          have c26b1 : ((t630.length : Int) != 0) = false := bne_eq_false_iff_eq.mpr c26
          clear c26
          by_cases c27 : t632 = 1
          ·
           rw [if_pos c27] at H
           have c27b0 : (t632 == 1) = true := beq_iff_eq.mpr c27
           have c27b1 : (t632 != 1) = false := bne_eq_false_iff_eq.mpr c27
           clear c27
           by_cases c28 : t648 < 1
           ·
            rw [if_pos c28] at H
            have c28b0 : decide (t648 < 1) = true := decide_eq_true c28
            clear c28
            obtain rfl := Option.some.inj H
            go_wp2_with (first | ((with_reducible refine gate_dst (N := 34) rfl ?_); (try (refine gate_guard (by rfl) ?_; dsimp only)); refine Kd.R_lit (Kd.int .u8) _ 5 ?hg (N := 34) ?hd (xs := ([] : List Int)) (inner := []) (ok := fun _ => True) (okp := fun _ => True) ?hr ?hp (fun _ hk => hk) trivial (Below.refl _ _) (Nat.le_refl _) (by simp) ?_; (case hd => rfl); (case hg => rfl); (case hr => first | (go_simp; done) | (go_simp; rfl)); (case hp => exact (Reps.none _ _)); intro v622 w29 ho30 hb hg_ hnew_; clear hg_ hnew_; (first | rw [← Ny621.out] at ho30 | (simp only [Int.reduceToNat] at ho30; rw [← Ny621.out] at ho30)); have n0_ := Aside0.mk (Kd.R_elder' (by (with_reducible repeat (first | apply Kd.R_alloc | apply Kd.R_drewN | apply Kd.R_drew)); exact HO_9.out) (Kd.R_base ho30) hb); have n1_ := Aside0.mk (Kd.R_lower (Kd.R_new' ho30 (Kd.R_lt (by (with_reducible repeat (first | apply Kd.R_alloc | apply Kd.R_drewN | apply Kd.R_drew)); exact HO_9.out))) (below_size (by repeat (first | (with_reducible first | exact HB.out | apply below_alloc | apply pw_below_drewN | apply below_drew1 | refine below_set ?_ GE616.out) | exact HB.out)))); have n2_ := Aside0.mk (blk_below (g := gb616) (o := .cells #[.int .i64 t608, .int .i64 t609, .int .i64 t610, .int .i64 t611, .int .i64 t612, .int .i64 t613, .int .i64 t614] 26 (0, 0)) (by (with_reducible repeat (first | refine blk_drewN ?_ _ | refine blk_drew ?_ | refine blk_alloc ?_ _)); exact BK616.out) hb); have n3_ := Aside0.mk (below_step (by repeat (first | (with_reducible first | exact HB.out | apply below_alloc | apply pw_below_drewN | apply below_drew1 | refine below_set ?_ GE616.out) | exact HB.out)) hb); clear HO_9; clear BK616; clear HB; have HO_9 := n0_; have HO623 := n1_; have BK616 := n2_; have HB := n3_; clear n0_ n1_ n2_ n3_; clear hb ho30; obtain ⟨Ao32, co32, eo32⟩ := Kd.R_slice HO_9.out; subst eo32) | ((with_reducible refine gate_builtin (b := .append) (xs := #[.tmp 34, .tmp 35]) rfl ?_); (try (refine gate_guard (by rfl) ?_; dsimp only)); at_builtin; refine Kd.R_append_rows (Kd.int .u8) (w0 := w) w.heap.size rfl (.tmp 34) (.tmp 35) 27 5 (.int .u8 0) 1 rfl Try.underlying27 info5 rfl (by decide) (by omega) v622 y621 t617 _ _ _ (fun k_ => some k_ ≠ (.slice Ao32 t617.length co32 : Value).ownBlock) (fun _ => False) rfl rfl ?aO ?aR (fun _ _ h => h) (fun _ h => h.elim) ?aF ?aB ?aS ?aL ?_; (case aR => repeat (first | exact (Kd.R_reads' HO_9.out).2.2 | (with_reducible refine Kd.C_alloc ?_ _) | (with_reducible refine Kd.C_drewN ?_ _) | (with_reducible refine Kd.C_drew ?_))); (case aB => exact (by repeat (first | (with_reducible first | exact HB.out | apply below_alloc | apply pw_below_drewN | apply below_drew1 | refine below_set ?_ GE616.out) | exact HB.out))); (case aF => exact (fun k_ hk => Kd.fresh' (Kd.R_lt (by (with_reducible repeat (first | apply Kd.R_alloc | apply Kd.R_drewN | apply Kd.R_drew)); exact HO_9.out)) k_ hk)); (case aO => exact (by (with_reducible repeat (first | apply Kd.R_alloc | apply Kd.R_drewN | apply Kd.R_drew)); exact Kd.R_mono HO623.out (fun _ hk => hk.2))); (case aS => exact (below_size (by repeat (first | (with_reducible first | exact HB.out | apply below_alloc | apply pw_below_drewN | apply below_drew1 | refine below_set ?_ GE616.out) | exact HB.out)))); (case aL => have := LMc17.out; omega); intro v625 w31 ho hb hg hat; rw [← Ny624.out] at ho; have n0_ := Aside0.mk (Kd.R_after (ok := (fun _ => True)) (by (with_reducible repeat (first | apply Kd.R_alloc | apply Kd.R_drewN | apply Kd.R_drew)); exact HO_9.out) hg hat); have n1_ := Aside0.mk (blk_grown (g := gb616) (o := .cells #[.int .i64 t608, .int .i64 t609, .int .i64 t610, .int .i64 t611, .int .i64 t612, .int .i64 t613, .int .i64 t614] 26 (0, 0)) (by (with_reducible repeat (first | refine blk_drewN ?_ _ | refine blk_drew ?_ | refine blk_alloc ?_ _)); exact BK616.out) hg (Kd.R_ne HO623.out BK616.out (by decide))); have n2_ := Aside0.mk (hb); have n3_ := Aside0.mk (ho); clear HO_9; clear BK616; clear HB; clear HO623; have HO_9 := n0_; have BK616 := n1_; have HB := n2_; have HO626 := n3_; clear n0_ n1_ n2_ n3_; clear ho hb hg hat) | ((with_reducible refine gate_callee (f := 26) rfl ?_); refine goesL_ (some 39) rfl rfl Try.func26 (by kernel_rfl) rfl #[.int .i64 a1, .int .i64 24] rfl (by (try simp only [List.map_toArray, List.map_cons, List.map_nil]); first | done | rfl | (simp only [List.length_drop, List.length_take]; rfl)) ?_; (with_reducible refine (payrollgen_Mod.calls a1 24 t627 _ A18.out).mono ?_); rintro e w' ⟨rfl, ⟨nd, rfl⟩⟩; refine ⟨_, rfl, ?_⟩; (try (rw [drewN_self w31]; generalize hq_ : World.drewN w31 _ = w31; have n0_ : Aside0 (Kd.R (Kd.int .u8) 5 w31 w.heap.size (fun k_ => some k_ ≠ (.slice Ao32 t617.length co32 : Value).ownBlock) v625 y624) := ⟨by rw [← hq_]; exact (by (with_reducible repeat (first | apply Kd.R_alloc | apply Kd.R_drewN | apply Kd.R_drew)); exact HO626.out)⟩; have n1_ : Aside0 (Kd.R (Kd.int .u8) 5 w31 w.heap.size (fun k_ => some k_ ≠ (v625 : Value).ownBlock) (.slice Ao32 t617.length co32) t617) := ⟨by rw [← hq_]; exact (by (with_reducible repeat (first | apply Kd.R_alloc | apply Kd.R_drewN | apply Kd.R_drew)); exact Kd.R_mono HO_9.out (fun _ hk => hk.2))⟩; have n2_ : Aside0 (w31.heap[gb616]? = some (.cells #[.int .i64 t608, .int .i64 t609, .int .i64 t610, .int .i64 t611, .int .i64 t612, .int .i64 t613, .int .i64 t614] 26 (0, 0))) := ⟨by rw [← hq_]; exact (by (with_reducible repeat (first | refine blk_drewN ?_ _ | refine blk_drew ?_ | refine blk_alloc ?_ _)); exact BK616.out)⟩; have n3_ : Aside0 (Below w.heap.size w w31) := ⟨by rw [← hq_]; exact (by repeat (first | (with_reducible first | exact HB.out | apply below_alloc | apply pw_below_drewN | apply below_drew1 | refine below_set ?_ GE616.out) | exact HB.out))⟩; clear HO626 HO_9 BK616 HB hq_; have HO626 := n0_; have HO_9 := n1_; have BK616 := n2_; have HB := n3_; clear n0_ n1_ n2_ n3_)); obtain ⟨Ao33, co33, eo33⟩ := Kd.R_slice HO626.out; subst eo33; have p628 : 0 ≤ (t627 : Int) := of_decide_eq_true (by first | (with_reducible assumption) | assumption); have q628 : t627 < (y624.length : Int) := of_decide_eq_true (by first | (with_reducible assumption) | assumption); obtain ⟨ad628, e628, hx628_0⟩ := Kd.at_int (Kd.R_reads' HO626.out).2.2 t627 p628 q628; cases e628; replace p628 := eq_true p628; replace q628 := eq_true q628; have p21 : 0 ≤ (t627 : Int) := of_decide_eq_true (by first | (with_reducible assumption) | assumption); have q21 : (t627 : Int) < ((y624.length : Int) : Int) := of_decide_eq_true (by first | (with_reducible assumption) | assumption); obtain ⟨go21, co21, eo21, gb21, gl21, cl21, HG21⟩ := Kd.R_form HO626.out (by omega); (first | cases eo21 | (injection eo21 with ea_ en_ ec_; (first | subst ea_ | (injection ea_ with ea_; subst ea_)); subst ec_; clear en_)); have GB21 := Aside0.mk gb21; have GG21 := Aside0.mk HG21; clear gb21 gl21 HG21; (first | simp only [add_plain] at hx628_0 | skip); obtain ⟨hx21_0, hf21_0⟩ := Kd.R_celln 0 HO626.out (t627 : Int) p21 q21; replace p21 := eq_true p21; replace q21 := eq_true q21; obtain ⟨hy34_, hz34_⟩ := Kd.R_celln 0 HO626.out (t627 : Int) (of_decide_eq_true (by first | (with_reducible assumption) | assumption)) (of_decide_eq_true (by first | (with_reducible assumption) | assumption)); have HP34 := Kd.R_putg HO626.out (t627 : Int) (Go.bits .xor .u8 (rd y624 t627) (Go.bits .or .u8 a2 1))) | ((with_reducible refine gate_store (t := 5) (p := 45) rfl ?_); refine store_event (t := 5) (p := 45) (v := ?vo_w35) (w1 := (w31.setCell ⟨go21, (t627 : Int).toNat, none⟩ (.int .u8 (Go.bits .xor .u8 (rd y624 t627) (Go.bits .or .u8 a2 1))))) ?hg ?ho ?hn ?hr ?_; (case ho => rfl); (case hg => rfl); (case hn => rfl); (case hr => first | (go_simp; done) | (go_simp; rfl)); intro w35 hw; have hg : w31.grownBy w35 (some go21) := (by rw [hw]; exact HP34.2); have hp_ : Kd.R (Kd.int .u8) 5 w35 w.heap.size (fun k_ => some k_ ≠ (.slice Ao32 t617.length co32 : Value).ownBlock) (.slice (some ⟨go21, 0, none⟩) y624.length co33) y629 := (by rw [hw, Ny629.out]; exact HP34.1); clear HP34; have n0_ := Aside0.mk (Kd.R_after (v := (.slice (some ⟨go21, 0, none⟩) y624.length co33)) (v1 := (.slice (some ⟨go21, 0, none⟩) y624.length co33)) (ok := (fun _ => True)) (by (with_reducible repeat (first | apply Kd.R_alloc | apply Kd.R_drewN | apply Kd.R_drew)); exact Kd.R_mono HO_9.out (fun _ hk => ⟨trivial, hk⟩)) hg (.inl rfl)); have n1_ := Aside0.mk (blk_grown (g := gb616) (o := .cells #[.int .i64 t608, .int .i64 t609, .int .i64 t610, .int .i64 t611, .int .i64 t612, .int .i64 t613, .int .i64 t614] 26 (0, 0)) (by (with_reducible repeat (first | refine blk_drewN ?_ _ | refine blk_drew ?_ | refine blk_alloc ?_ _)); exact BK616.out) hg (Kd.R_ne HO626.out BK616.out (by decide))); have n2_ := Aside0.mk (hp_); have n3_ := Aside0.mk ((by rw [hw]; exact below_set (HB.out) GB21.out : Below w.heap.size w w35)); clear HO_9; clear BK616; clear HO626; clear HB; have HO_9 := n0_; have BK616 := n1_; have HO626 := n2_; have HB := n3_; clear n0_ n1_ n2_ n3_; clear hg hw hp_) | ((with_reducible refine gate_callee (f := 24) rfl ?_); refine goesL_ (some 48) rfl rfl Try.func24 (by kernel_rfl) rfl #[.slice (some ⟨go21, 0, none⟩) y629.length co33] rfl (by (try simp only [List.map_toArray, List.map_cons, List.map_nil]); first | done | (rw [show y629.length = y624.length from (Kd.R_reads' HO626.out).1.symm] <;> rfl) | rfl | (simp only [List.length_drop, List.length_take]; rfl)) ?_; (with_reducible refine (records_Decode.calls kj6 _ _ y629 t630 t631 t632 _ ?side1 ?side2 A22.out).mono ?_); (case side1 => repeat (first | exact (Kd.R_reads' HO626.out).2.2 | (with_reducible refine Kd.C_alloc ?_ _) | (with_reducible refine Kd.C_drewN ?_ _) | (with_reducible refine Kd.C_drew ?_))); (case side2 => rw [show y629.length = y624.length from (Kd.R_reads' HO626.out).1.symm]; exact (Kd.R_reads' HO626.out).2.1); rintro e w36 ⟨v633, v635, rfl, ho0, ho1, hb⟩; refine ⟨_, rfl, ?_⟩; have n0_ := Aside0.mk (Kd.R_below (by (with_reducible repeat (first | apply Kd.R_alloc | apply Kd.R_drewN | apply Kd.R_drew)); exact HO_9.out) hb); have n1_ := Aside0.mk (Kd.R_below (by (with_reducible repeat (first | apply Kd.R_alloc | apply Kd.R_drewN | apply Kd.R_drew)); exact HO626.out) hb); have n2_ := Aside0.mk (Kd.R_lower (Kd.R_newB ho0 (g := gb616) (o := .cells #[.int .i64 t608, .int .i64 t609, .int .i64 t610, .int .i64 t611, .int .i64 t612, .int .i64 t613, .int .i64 t614] 26 (0, 0)) (by (with_reducible repeat (first | refine blk_drewN ?_ _ | refine blk_drew ?_ | refine blk_alloc ?_ _)); exact BK616.out)) (below_size (by repeat (first | (with_reducible first | exact HB.out | apply below_alloc | apply pw_below_drewN | apply below_drew1 | refine below_set ?_ GE616.out) | exact HB.out)))); have n3_ := Aside0.mk (Kd.R_lower ho1 (below_size (by repeat (first | (with_reducible first | exact HB.out | apply below_alloc | apply pw_below_drewN | apply below_drew1 | refine below_set ?_ GE616.out) | exact HB.out)))); have n4_ := Aside0.mk (blk_below (g := gb616) (o := .cells #[.int .i64 t608, .int .i64 t609, .int .i64 t610, .int .i64 t611, .int .i64 t612, .int .i64 t613, .int .i64 t614] 26 (0, 0)) (by (with_reducible repeat (first | refine blk_drewN ?_ _ | refine blk_drew ?_ | refine blk_alloc ?_ _)); exact BK616.out) hb); have n5_ := Aside0.mk (below_step (by repeat (first | (with_reducible first | exact HB.out | apply below_alloc | apply pw_below_drewN | apply below_drew1 | refine below_set ?_ GE616.out) | exact HB.out)) hb); clear HO_9; clear HO626; clear BK616; clear HB; have HO_9 := n0_; have HO626 := n1_; have HO634 := n2_; have HO636 := n3_; have BK616 := n4_; have HB := n5_; clear n0_ n1_ n2_ n3_ n4_ n5_; (try clear hb); (try clear hb2); (try clear hk); (try clear hi); (try clear ho0); (try clear ho1)) | ((with_reducible refine gate_dst (N := 53) rfl ?_); (try (refine gate_guard (by rfl) ?_; dsimp only)); refine Kd.R_lit (Kd.int .u8) _ 5 ?hg (N := 53) ?hd (xs := ([] : List Int)) (inner := []) (ok := fun _ => True) (okp := fun _ => True) ?hr ?hp (fun _ hk => hk) trivial (Below.refl _ _) (Nat.le_refl _) (by simp) ?_; (case hd => rfl); (case hg => rfl); (case hr => first | (go_simp; done) | (go_simp; rfl)); (case hp => exact (Reps.none _ _)); intro v638 w37 ho38 hb hg_ hnew_; clear hg_ hnew_; (first | rw [← Ny637.out] at ho38 | (simp only [Int.reduceToNat] at ho38; rw [← Ny637.out] at ho38)); have n0_ := Aside0.mk (Kd.R_elder' (by (with_reducible repeat (first | apply Kd.R_alloc | apply Kd.R_drewN | apply Kd.R_drew)); exact HO_9.out) (Kd.R_base ho38) hb); have n1_ := Aside0.mk (Kd.R_elder' (by (with_reducible repeat (first | apply Kd.R_alloc | apply Kd.R_drewN | apply Kd.R_drew)); exact HO626.out) (Kd.R_base ho38) hb); have n2_ := Aside0.mk (Kd.R_below (by (with_reducible repeat (first | apply Kd.R_alloc | apply Kd.R_drewN | apply Kd.R_drew)); exact HO634.out) hb); have n3_ := Aside0.mk (Kd.R_below (by (with_reducible repeat (first | apply Kd.R_alloc | apply Kd.R_drewN | apply Kd.R_drew)); exact HO636.out) hb); have n4_ := Aside0.mk (Kd.R_lower (Kd.R_new' (Kd.R_new' ho38 (Kd.R_lt (by (with_reducible repeat (first | apply Kd.R_alloc | apply Kd.R_drewN | apply Kd.R_drew)); exact HO_9.out))) (Kd.R_lt (by (with_reducible repeat (first | apply Kd.R_alloc | apply Kd.R_drewN | apply Kd.R_drew)); exact HO626.out))) (below_size (by repeat (first | (with_reducible first | exact HB.out | apply below_alloc | apply pw_below_drewN | apply below_drew1 | refine below_set ?_ GE616.out) | exact HB.out)))); have n5_ := Aside0.mk (blk_below (g := gb616) (o := .cells #[.int .i64 t608, .int .i64 t609, .int .i64 t610, .int .i64 t611, .int .i64 t612, .int .i64 t613, .int .i64 t614] 26 (0, 0)) (by (with_reducible repeat (first | refine blk_drewN ?_ _ | refine blk_drew ?_ | refine blk_alloc ?_ _)); exact BK616.out) hb); have n6_ := Aside0.mk (below_step (by repeat (first | (with_reducible first | exact HB.out | apply below_alloc | apply pw_below_drewN | apply below_drew1 | refine below_set ?_ GE616.out) | exact HB.out)) hb); clear HO_9; clear HO626; clear HO634; clear HO636; clear BK616; clear HB; have HO_9 := n0_; have HO626 := n1_; have HO634 := n2_; have HO636 := n3_; have HO639 := n4_; have BK616 := n5_; have HB := n6_; clear n0_ n1_ n2_ n3_ n4_ n5_ n6_; clear hb ho38) | ((with_reducible refine gate_builtin (b := .append) (xs := #[.tmp 53, .tmp 54]) rfl ?_); (try (refine gate_guard (by rfl) ?_; dsimp only)); at_builtin; refine Kd.R_append_rows (Kd.int .u8) (w0 := w) w.heap.size rfl (.tmp 53) (.tmp 54) 27 5 (.int .u8 0) 1 rfl Try.underlying27 info5 rfl (by decide) (by omega) v638 y637 y629 _ _ _ (fun k_ => some k_ ≠ (.slice Ao32 t617.length co32 : Value).ownBlock ∧ some k_ ≠ (.slice (some ⟨go21, 0, none⟩) y624.length co33 : Value).ownBlock) (fun _ => False) rfl rfl ?aO ?aR (fun _ _ h => h) (fun _ h => h.elim) ?aF ?aB ?aS ?aL ?_; (case aR => rw [show y624.length = y629.length from (Kd.R_reads' HO626.out).1]; repeat (first | exact (Kd.R_reads' HO626.out).2.2 | (with_reducible refine Kd.C_alloc ?_ _) | (with_reducible refine Kd.C_drewN ?_ _) | (with_reducible refine Kd.C_drew ?_))); (case aB => exact (by repeat (first | (with_reducible first | exact HB.out | apply below_alloc | apply pw_below_drewN | apply below_drew1 | refine below_set ?_ GE616.out) | exact HB.out))); (case aF => exact (fun k_ hk => ⟨Kd.fresh' (Kd.R_lt (by (with_reducible repeat (first | apply Kd.R_alloc | apply Kd.R_drewN | apply Kd.R_drew)); exact HO_9.out)) k_ hk, Kd.fresh' (Kd.R_lt (by (with_reducible repeat (first | apply Kd.R_alloc | apply Kd.R_drewN | apply Kd.R_drew)); exact HO626.out)) k_ hk⟩)); (case aO => exact (by (with_reducible repeat (first | apply Kd.R_alloc | apply Kd.R_drewN | apply Kd.R_drew)); exact Kd.R_mono HO639.out (fun _ hk => ⟨hk.1.2, hk.2⟩))); (case aS => exact (below_size (by repeat (first | (with_reducible first | exact HB.out | apply below_alloc | apply pw_below_drewN | apply below_drew1 | refine below_set ?_ GE616.out) | exact HB.out)))); (case aL => have := LMc23.out; have hlx_ := (Kd.R_reads' HO626.out).1; omega); intro v641 w39 ho hb hg hat; rw [← Ny640.out] at ho; have n0_ := Aside0.mk (Kd.R_after (ok := (fun k_ => some k_ ≠ (.slice (some ⟨go21, 0, none⟩) y624.length co33 : Value).ownBlock)) (by (with_reducible repeat (first | apply Kd.R_alloc | apply Kd.R_drewN | apply Kd.R_drew)); exact Kd.R_mono HO_9.out (fun _ hk => ⟨hk.1.2, hk.2⟩)) hg hat); have n1_ := Aside0.mk (blk_grown (g := gb616) (o := .cells #[.int .i64 t608, .int .i64 t609, .int .i64 t610, .int .i64 t611, .int .i64 t612, .int .i64 t613, .int .i64 t614] 26 (0, 0)) (by (with_reducible repeat (first | refine blk_drewN ?_ _ | refine blk_drew ?_ | refine blk_alloc ?_ _)); exact BK616.out) hg (Kd.R_ne HO639.out BK616.out (by decide))); have n2_ := Aside0.mk (Kd.R_after (ok := (fun k_ => some k_ ≠ (.slice Ao32 t617.length co32 : Value).ownBlock)) (by (with_reducible repeat (first | apply Kd.R_alloc | apply Kd.R_drewN | apply Kd.R_drew)); exact HO626.out) hg hat); have n3_ := Aside0.mk (Kd.R_over' (by (with_reducible repeat (first | apply Kd.R_alloc | apply Kd.R_drewN | apply Kd.R_drew)); exact HO634.out) (Kd.R_typed (by (with_reducible repeat (first | apply Kd.R_alloc | apply Kd.R_drewN | apply Kd.R_drew)); exact HO639.out)) (by decide) hg); have n4_ := Aside0.mk (Kd.R_over' (by (with_reducible repeat (first | apply Kd.R_alloc | apply Kd.R_drewN | apply Kd.R_drew)); exact HO636.out) (Kd.R_typed (by (with_reducible repeat (first | apply Kd.R_alloc | apply Kd.R_drewN | apply Kd.R_drew)); exact HO639.out)) (by decide) hg); have n5_ := Aside0.mk (hb); have n6_ := Aside0.mk (ho); clear HO_9; clear BK616; clear HO626; clear HO634; clear HO636; clear HB; clear HO639; have HO_9 := n0_; have BK616 := n1_; have HO626 := n2_; have HO634 := n3_; have HO636 := n4_; have HB := n5_; have HO642 := n6_; clear n0_ n1_ n2_ n3_ n4_ n5_ n6_; clear ho hb hg hat) | ((with_reducible refine gate_builtin (b := .append) (xs := #[.tmp 55, .tmp 56]) rfl ?_); (try (refine gate_guard (by rfl) ?_; dsimp only)); at_builtin; refine Kd.R_append_rows (Kd.int .u8) (w0 := w) w.heap.size rfl (.tmp 55) (.tmp 56) 27 5 (.int .u8 0) 1 rfl Try.underlying27 info5 rfl (by decide) (by omega) v641 y640 t617 _ _ _ (fun k_ => some k_ ≠ (.slice Ao32 t617.length co32 : Value).ownBlock ∧ some k_ ≠ (.slice (some ⟨go21, 0, none⟩) y624.length co33 : Value).ownBlock) (fun _ => False) rfl rfl ?aO ?aR (fun _ _ h => h) (fun _ h => h.elim) ?aF ?aB ?aS ?aL ?_; (case aR => repeat (first | exact (Kd.R_reads' HO_9.out).2.2 | (with_reducible refine Kd.C_alloc ?_ _) | (with_reducible refine Kd.C_drewN ?_ _) | (with_reducible refine Kd.C_drew ?_))); (case aB => exact (by repeat (first | (with_reducible first | exact HB.out | apply below_alloc | apply pw_below_drewN | apply below_drew1 | refine below_set ?_ GE616.out) | exact HB.out))); (case aF => exact (fun k_ hk => ⟨Kd.fresh' (Kd.R_lt (by (with_reducible repeat (first | apply Kd.R_alloc | apply Kd.R_drewN | apply Kd.R_drew)); exact HO_9.out)) k_ hk, Kd.fresh' (Kd.R_lt (by (with_reducible repeat (first | apply Kd.R_alloc | apply Kd.R_drewN | apply Kd.R_drew)); exact HO626.out)) k_ hk⟩)); (case aO => exact (by (with_reducible repeat (first | apply Kd.R_alloc | apply Kd.R_drewN | apply Kd.R_drew)); exact HO642.out)); (case aS => exact (below_size (by repeat (first | (with_reducible first | exact HB.out | apply below_alloc | apply pw_below_drewN | apply below_drew1 | refine below_set ?_ GE616.out) | exact HB.out)))); (case aL => have := LMc24.out; omega); intro v644 w40 ho hb hg hat; rw [← Ny643.out] at ho; have n0_ := Aside0.mk (Kd.R_after (ok := (fun k_ => some k_ ≠ (.slice (some ⟨go21, 0, none⟩) y624.length co33 : Value).ownBlock)) (by (with_reducible repeat (first | apply Kd.R_alloc | apply Kd.R_drewN | apply Kd.R_drew)); exact HO_9.out) hg hat); have n1_ := Aside0.mk (blk_grown (g := gb616) (o := .cells #[.int .i64 t608, .int .i64 t609, .int .i64 t610, .int .i64 t611, .int .i64 t612, .int .i64 t613, .int .i64 t614] 26 (0, 0)) (by (with_reducible repeat (first | refine blk_drewN ?_ _ | refine blk_drew ?_ | refine blk_alloc ?_ _)); exact BK616.out) hg (Kd.R_ne HO642.out BK616.out (by decide))); have n2_ := Aside0.mk (Kd.R_after (ok := (fun k_ => some k_ ≠ (.slice Ao32 t617.length co32 : Value).ownBlock)) (by (with_reducible repeat (first | apply Kd.R_alloc | apply Kd.R_drewN | apply Kd.R_drew)); exact HO626.out) hg hat); have n3_ := Aside0.mk (Kd.R_over' (by (with_reducible repeat (first | apply Kd.R_alloc | apply Kd.R_drewN | apply Kd.R_drew)); exact HO634.out) (Kd.R_typed (by (with_reducible repeat (first | apply Kd.R_alloc | apply Kd.R_drewN | apply Kd.R_drew)); exact HO642.out)) (by decide) hg); have n4_ := Aside0.mk (Kd.R_over' (by (with_reducible repeat (first | apply Kd.R_alloc | apply Kd.R_drewN | apply Kd.R_drew)); exact HO636.out) (Kd.R_typed (by (with_reducible repeat (first | apply Kd.R_alloc | apply Kd.R_drewN | apply Kd.R_drew)); exact HO642.out)) (by decide) hg); have n5_ := Aside0.mk (hb); have n6_ := Aside0.mk (ho); clear HO_9; clear BK616; clear HO626; clear HO634; clear HO636; clear HB; clear HO642; have HO_9 := n0_; have BK616 := n1_; have HO626 := n2_; have HO634 := n3_; have HO636 := n4_; have HB := n5_; have HO645 := n6_; clear n0_ n1_ n2_ n3_ n4_ n5_ n6_; clear ho hb hg hat; obtain ⟨Ao41, co41, eo41⟩ := Kd.R_slice HO645.out; subst eo41) | ((with_reducible refine gate_callee (f := 24) rfl ?_); refine goesL_ (some 58) rfl rfl Try.func24 (by kernel_rfl) rfl #[.slice Ao41 y643.length co41] rfl (by (try simp only [List.map_toArray, List.map_cons, List.map_nil]); first | done | rfl | (simp only [List.length_drop, List.length_take]; rfl)) ?_; (with_reducible refine (records_Decode.calls kj6 _ _ y643 t646 t647 t648 _ ?side1 ?side2 A25.out).mono ?_); (case side1 => repeat (first | exact (Kd.R_reads' HO645.out).2.2 | (with_reducible refine Kd.C_alloc ?_ _) | (with_reducible refine Kd.C_drewN ?_ _) | (with_reducible refine Kd.C_drew ?_))); (case side2 => exact (Kd.R_reads' HO645.out).2.1); rintro e w42 ⟨v649, v651, rfl, ho0, ho1, hb⟩; refine ⟨_, rfl, ?_⟩; have n0_ := Aside0.mk (Kd.R_below (by (with_reducible repeat (first | apply Kd.R_alloc | apply Kd.R_drewN | apply Kd.R_drew)); exact HO_9.out) hb); have n1_ := Aside0.mk (Kd.R_below (by (with_reducible repeat (first | apply Kd.R_alloc | apply Kd.R_drewN | apply Kd.R_drew)); exact HO626.out) hb); have n2_ := Aside0.mk (Kd.R_elder' (by (with_reducible repeat (first | apply Kd.R_alloc | apply Kd.R_drewN | apply Kd.R_drew)); exact HO634.out) (Kd.R_base ho0) hb); have n3_ := Aside0.mk (Kd.R_elder' (by (with_reducible repeat (first | apply Kd.R_alloc | apply Kd.R_drewN | apply Kd.R_drew)); exact HO636.out) (Kd.R_base ho1) hb); have n4_ := Aside0.mk (Kd.R_below (by (with_reducible repeat (first | apply Kd.R_alloc | apply Kd.R_drewN | apply Kd.R_drew)); exact HO645.out) hb); have n5_ := Aside0.mk (Kd.R_lower (Kd.R_newB (Kd.R_new' ho0 (Kd.R_lt (by (with_reducible repeat (first | apply Kd.R_alloc | apply Kd.R_drewN | apply Kd.R_drew)); exact HO634.out))) (g := gb616) (o := .cells #[.int .i64 t608, .int .i64 t609, .int .i64 t610, .int .i64 t611, .int .i64 t612, .int .i64 t613, .int .i64 t614] 26 (0, 0)) (by (with_reducible repeat (first | refine blk_drewN ?_ _ | refine blk_drew ?_ | refine blk_alloc ?_ _)); exact BK616.out)) (below_size (by repeat (first | (with_reducible first | exact HB.out | apply below_alloc | apply pw_below_drewN | apply below_drew1 | refine below_set ?_ GE616.out) | exact HB.out)))); have n6_ := Aside0.mk (Kd.R_lower (Kd.R_new' ho1 (Kd.R_lt (by (with_reducible repeat (first | apply Kd.R_alloc | apply Kd.R_drewN | apply Kd.R_drew)); exact HO636.out))) (below_size (by repeat (first | (with_reducible first | exact HB.out | apply below_alloc | apply pw_below_drewN | apply below_drew1 | refine below_set ?_ GE616.out) | exact HB.out)))); have n7_ := Aside0.mk (blk_below (g := gb616) (o := .cells #[.int .i64 t608, .int .i64 t609, .int .i64 t610, .int .i64 t611, .int .i64 t612, .int .i64 t613, .int .i64 t614] 26 (0, 0)) (by (with_reducible repeat (first | refine blk_drewN ?_ _ | refine blk_drew ?_ | refine blk_alloc ?_ _)); exact BK616.out) hb); have n8_ := Aside0.mk (below_step (by repeat (first | (with_reducible first | exact HB.out | apply below_alloc | apply pw_below_drewN | apply below_drew1 | refine below_set ?_ GE616.out) | exact HB.out)) hb); clear HO_9; clear HO626; clear HO634; clear HO636; clear HO645; clear BK616; clear HB; have HO_9 := n0_; have HO626 := n1_; have HO634 := n2_; have HO636 := n3_; have HO645 := n4_; have HO650 := n5_; have HO652 := n6_; have BK616 := n7_; have HB := n8_; clear n0_ n1_ n2_ n3_ n4_ n5_ n6_ n7_ n8_; (try clear hb); (try clear hb2); (try clear hk); (try clear hi); (try clear ho0); (try clear ho1); obtain ⟨Ao43, co43, eo43⟩ := Kd.R_slice HO634.out; subst eo43))
            go_ret
            exact ⟨by first | rfl | (simp [errW_none, errW_some] <;> rfl) | (simp [*, errW_none, errW_some] <;> rfl), by repeat (first | (with_reducible first | exact HB.out | apply below_alloc | apply pw_below_drewN | apply below_drew1 | refine below_set ?_ GE616.out) | exact HB.out)⟩
           ·
            rw [if_neg c28] at H
            have c28b0 : decide (t648 < 1) = false := decide_eq_false c28
            clear c28
            by_cases c44 : (t646.length : Int) > 0
            ·
             rw [if_pos c44] at H
             have c44b0 : decide (0 < (t646.length : Int)) = true := decide_eq_true c44
             have c44b1 : decide (0 < t646.length) = true := decide_eq_true (by omega)
             clear c44
             by_cases c45 : (t646.length : Int) > 1
             ·
              rw [if_pos c45] at H
              have c45b0 : decide (1 < (t646.length : Int)) = true := decide_eq_true c45
              have c45b1 : decide (1 < t646.length) = true := decide_eq_true (by omega)
              clear c45
              replace H := Option.bind_eq_some_iff.mp H
              obtain ⟨t653, A460, H⟩ := H
              replace H : (some t653) = some r := H
              have A46 := Aside0.mk A460
              clear A460
              obtain rfl := Option.some.inj H
              try go_wp2_with (first | ((with_reducible refine gate_dst (N := 34) rfl ?_); (try (refine gate_guard (by rfl) ?_; dsimp only)); refine Kd.R_lit (Kd.int .u8) _ 5 ?hg (N := 34) ?hd (xs := ([] : List Int)) (inner := []) (ok := fun _ => True) (okp := fun _ => True) ?hr ?hp (fun _ hk => hk) trivial (Below.refl _ _) (Nat.le_refl _) (by simp) ?_; (case hd => rfl); (case hg => rfl); (case hr => first | (go_simp; done) | (go_simp; rfl)); (case hp => exact (Reps.none _ _)); intro v622 w47 ho48 hb hg_ hnew_; clear hg_ hnew_; (first | rw [← Ny621.out] at ho48 | (simp only [Int.reduceToNat] at ho48; rw [← Ny621.out] at ho48)); have n0_ := Aside0.mk (Kd.R_elder' (by (with_reducible repeat (first | apply Kd.R_alloc | apply Kd.R_drewN | apply Kd.R_drew)); exact HO_9.out) (Kd.R_base ho48) hb); have n1_ := Aside0.mk (Kd.R_lower (Kd.R_new' ho48 (Kd.R_lt (by (with_reducible repeat (first | apply Kd.R_alloc | apply Kd.R_drewN | apply Kd.R_drew)); exact HO_9.out))) (below_size (by repeat (first | (with_reducible first | exact HB.out | apply below_alloc | apply pw_below_drewN | apply below_drew1 | refine below_set ?_ GE616.out) | exact HB.out)))); have n2_ := Aside0.mk (blk_below (g := gb616) (o := .cells #[.int .i64 t608, .int .i64 t609, .int .i64 t610, .int .i64 t611, .int .i64 t612, .int .i64 t613, .int .i64 t614] 26 (0, 0)) (by (with_reducible repeat (first | refine blk_drewN ?_ _ | refine blk_drew ?_ | refine blk_alloc ?_ _)); exact BK616.out) hb); have n3_ := Aside0.mk (below_step (by repeat (first | (with_reducible first | exact HB.out | apply below_alloc | apply pw_below_drewN | apply below_drew1 | refine below_set ?_ GE616.out) | exact HB.out)) hb); clear HO_9; clear BK616; clear HB; have HO_9 := n0_; have HO623 := n1_; have BK616 := n2_; have HB := n3_; clear n0_ n1_ n2_ n3_; clear hb ho48; obtain ⟨Ao50, co50, eo50⟩ := Kd.R_slice HO_9.out; subst eo50) | ((with_reducible refine gate_builtin (b := .append) (xs := #[.tmp 34, .tmp 35]) rfl ?_); (try (refine gate_guard (by rfl) ?_; dsimp only)); at_builtin; refine Kd.R_append_rows (Kd.int .u8) (w0 := w) w.heap.size rfl (.tmp 34) (.tmp 35) 27 5 (.int .u8 0) 1 rfl Try.underlying27 info5 rfl (by decide) (by omega) v622 y621 t617 _ _ _ (fun k_ => some k_ ≠ (.slice Ao50 t617.length co50 : Value).ownBlock) (fun _ => False) rfl rfl ?aO ?aR (fun _ _ h => h) (fun _ h => h.elim) ?aF ?aB ?aS ?aL ?_; (case aR => repeat (first | exact (Kd.R_reads' HO_9.out).2.2 | (with_reducible refine Kd.C_alloc ?_ _) | (with_reducible refine Kd.C_drewN ?_ _) | (with_reducible refine Kd.C_drew ?_))); (case aB => exact (by repeat (first | (with_reducible first | exact HB.out | apply below_alloc | apply pw_below_drewN | apply below_drew1 | refine below_set ?_ GE616.out) | exact HB.out))); (case aF => exact (fun k_ hk => Kd.fresh' (Kd.R_lt (by (with_reducible repeat (first | apply Kd.R_alloc | apply Kd.R_drewN | apply Kd.R_drew)); exact HO_9.out)) k_ hk)); (case aO => exact (by (with_reducible repeat (first | apply Kd.R_alloc | apply Kd.R_drewN | apply Kd.R_drew)); exact Kd.R_mono HO623.out (fun _ hk => hk.2))); (case aS => exact (below_size (by repeat (first | (with_reducible first | exact HB.out | apply below_alloc | apply pw_below_drewN | apply below_drew1 | refine below_set ?_ GE616.out) | exact HB.out)))); (case aL => have := LMc17.out; omega); intro v625 w49 ho hb hg hat; rw [← Ny624.out] at ho; have n0_ := Aside0.mk (Kd.R_after (ok := (fun _ => True)) (by (with_reducible repeat (first | apply Kd.R_alloc | apply Kd.R_drewN | apply Kd.R_drew)); exact HO_9.out) hg hat); have n1_ := Aside0.mk (blk_grown (g := gb616) (o := .cells #[.int .i64 t608, .int .i64 t609, .int .i64 t610, .int .i64 t611, .int .i64 t612, .int .i64 t613, .int .i64 t614] 26 (0, 0)) (by (with_reducible repeat (first | refine blk_drewN ?_ _ | refine blk_drew ?_ | refine blk_alloc ?_ _)); exact BK616.out) hg (Kd.R_ne HO623.out BK616.out (by decide))); have n2_ := Aside0.mk (hb); have n3_ := Aside0.mk (ho); clear HO_9; clear BK616; clear HB; clear HO623; have HO_9 := n0_; have BK616 := n1_; have HB := n2_; have HO626 := n3_; clear n0_ n1_ n2_ n3_; clear ho hb hg hat) | ((with_reducible refine gate_callee (f := 26) rfl ?_); refine goesL_ (some 39) rfl rfl Try.func26 (by kernel_rfl) rfl #[.int .i64 a1, .int .i64 24] rfl (by (try simp only [List.map_toArray, List.map_cons, List.map_nil]); first | done | rfl | (simp only [List.length_drop, List.length_take]; rfl)) ?_; (with_reducible refine (payrollgen_Mod.calls a1 24 t627 _ A18.out).mono ?_); rintro e w' ⟨rfl, ⟨nd, rfl⟩⟩; refine ⟨_, rfl, ?_⟩; (try (rw [drewN_self w49]; generalize hq_ : World.drewN w49 _ = w49; have n0_ : Aside0 (Kd.R (Kd.int .u8) 5 w49 w.heap.size (fun k_ => some k_ ≠ (.slice Ao50 t617.length co50 : Value).ownBlock) v625 y624) := ⟨by rw [← hq_]; exact (by (with_reducible repeat (first | apply Kd.R_alloc | apply Kd.R_drewN | apply Kd.R_drew)); exact HO626.out)⟩; have n1_ : Aside0 (Kd.R (Kd.int .u8) 5 w49 w.heap.size (fun k_ => some k_ ≠ (v625 : Value).ownBlock) (.slice Ao50 t617.length co50) t617) := ⟨by rw [← hq_]; exact (by (with_reducible repeat (first | apply Kd.R_alloc | apply Kd.R_drewN | apply Kd.R_drew)); exact Kd.R_mono HO_9.out (fun _ hk => hk.2))⟩; have n2_ : Aside0 (w49.heap[gb616]? = some (.cells #[.int .i64 t608, .int .i64 t609, .int .i64 t610, .int .i64 t611, .int .i64 t612, .int .i64 t613, .int .i64 t614] 26 (0, 0))) := ⟨by rw [← hq_]; exact (by (with_reducible repeat (first | refine blk_drewN ?_ _ | refine blk_drew ?_ | refine blk_alloc ?_ _)); exact BK616.out)⟩; have n3_ : Aside0 (Below w.heap.size w w49) := ⟨by rw [← hq_]; exact (by repeat (first | (with_reducible first | exact HB.out | apply below_alloc | apply pw_below_drewN | apply below_drew1 | refine below_set ?_ GE616.out) | exact HB.out))⟩; clear HO626 HO_9 BK616 HB hq_; have HO626 := n0_; have HO_9 := n1_; have BK616 := n2_; have HB := n3_; clear n0_ n1_ n2_ n3_)); obtain ⟨Ao51, co51, eo51⟩ := Kd.R_slice HO626.out; subst eo51; have p628 : 0 ≤ (t627 : Int) := of_decide_eq_true (by first | (with_reducible assumption) | assumption); have q628 : t627 < (y624.length : Int) := of_decide_eq_true (by first | (with_reducible assumption) | assumption); obtain ⟨ad628, e628, hx628_0⟩ := Kd.at_int (Kd.R_reads' HO626.out).2.2 t627 p628 q628; cases e628; replace p628 := eq_true p628; replace q628 := eq_true q628; have p21 : 0 ≤ (t627 : Int) := of_decide_eq_true (by first | (with_reducible assumption) | assumption); have q21 : (t627 : Int) < ((y624.length : Int) : Int) := of_decide_eq_true (by first | (with_reducible assumption) | assumption); obtain ⟨go21, co21, eo21, gb21, gl21, cl21, HG21⟩ := Kd.R_form HO626.out (by omega); (first | cases eo21 | (injection eo21 with ea_ en_ ec_; (first | subst ea_ | (injection ea_ with ea_; subst ea_)); subst ec_; clear en_)); have GB21 := Aside0.mk gb21; have GG21 := Aside0.mk HG21; clear gb21 gl21 HG21; (first | simp only [add_plain] at hx628_0 | skip); obtain ⟨hx21_0, hf21_0⟩ := Kd.R_celln 0 HO626.out (t627 : Int) p21 q21; replace p21 := eq_true p21; replace q21 := eq_true q21; obtain ⟨hy52_, hz52_⟩ := Kd.R_celln 0 HO626.out (t627 : Int) (of_decide_eq_true (by first | (with_reducible assumption) | assumption)) (of_decide_eq_true (by first | (with_reducible assumption) | assumption)); have HP52 := Kd.R_putg HO626.out (t627 : Int) (Go.bits .xor .u8 (rd y624 t627) (Go.bits .or .u8 a2 1))) | ((with_reducible refine gate_store (t := 5) (p := 45) rfl ?_); refine store_event (t := 5) (p := 45) (v := ?vo_w53) (w1 := (w49.setCell ⟨go21, (t627 : Int).toNat, none⟩ (.int .u8 (Go.bits .xor .u8 (rd y624 t627) (Go.bits .or .u8 a2 1))))) ?hg ?ho ?hn ?hr ?_; (case ho => rfl); (case hg => rfl); (case hn => rfl); (case hr => first | (go_simp; done) | (go_simp; rfl)); intro w53 hw; have hg : w49.grownBy w53 (some go21) := (by rw [hw]; exact HP52.2); have hp_ : Kd.R (Kd.int .u8) 5 w53 w.heap.size (fun k_ => some k_ ≠ (.slice Ao50 t617.length co50 : Value).ownBlock) (.slice (some ⟨go21, 0, none⟩) y624.length co51) y629 := (by rw [hw, Ny629.out]; exact HP52.1); clear HP52; have n0_ := Aside0.mk (Kd.R_after (v := (.slice (some ⟨go21, 0, none⟩) y624.length co51)) (v1 := (.slice (some ⟨go21, 0, none⟩) y624.length co51)) (ok := (fun _ => True)) (by (with_reducible repeat (first | apply Kd.R_alloc | apply Kd.R_drewN | apply Kd.R_drew)); exact Kd.R_mono HO_9.out (fun _ hk => ⟨trivial, hk⟩)) hg (.inl rfl)); have n1_ := Aside0.mk (blk_grown (g := gb616) (o := .cells #[.int .i64 t608, .int .i64 t609, .int .i64 t610, .int .i64 t611, .int .i64 t612, .int .i64 t613, .int .i64 t614] 26 (0, 0)) (by (with_reducible repeat (first | refine blk_drewN ?_ _ | refine blk_drew ?_ | refine blk_alloc ?_ _)); exact BK616.out) hg (Kd.R_ne HO626.out BK616.out (by decide))); have n2_ := Aside0.mk (hp_); have n3_ := Aside0.mk ((by rw [hw]; exact below_set (HB.out) GB21.out : Below w.heap.size w w53)); clear HO_9; clear BK616; clear HO626; clear HB; have HO_9 := n0_; have BK616 := n1_; have HO626 := n2_; have HB := n3_; clear n0_ n1_ n2_ n3_; clear hg hw hp_) | ((with_reducible refine gate_callee (f := 24) rfl ?_); refine goesL_ (some 48) rfl rfl Try.func24 (by kernel_rfl) rfl #[.slice (some ⟨go21, 0, none⟩) y629.length co51] rfl (by (try simp only [List.map_toArray, List.map_cons, List.map_nil]); first | done | (rw [show y629.length = y624.length from (Kd.R_reads' HO626.out).1.symm] <;> rfl) | rfl | (simp only [List.length_drop, List.length_take]; rfl)) ?_; (with_reducible refine (records_Decode.calls kj6 _ _ y629 t630 t631 t632 _ ?side1 ?side2 A22.out).mono ?_); (case side1 => repeat (first | exact (Kd.R_reads' HO626.out).2.2 | (with_reducible refine Kd.C_alloc ?_ _) | (with_reducible refine Kd.C_drewN ?_ _) | (with_reducible refine Kd.C_drew ?_))); (case side2 => rw [show y629.length = y624.length from (Kd.R_reads' HO626.out).1.symm]; exact (Kd.R_reads' HO626.out).2.1); rintro e w54 ⟨v633, v635, rfl, ho0, ho1, hb⟩; refine ⟨_, rfl, ?_⟩; have n0_ := Aside0.mk (Kd.R_below (by (with_reducible repeat (first | apply Kd.R_alloc | apply Kd.R_drewN | apply Kd.R_drew)); exact HO_9.out) hb); have n1_ := Aside0.mk (Kd.R_below (by (with_reducible repeat (first | apply Kd.R_alloc | apply Kd.R_drewN | apply Kd.R_drew)); exact HO626.out) hb); have n2_ := Aside0.mk (Kd.R_lower (Kd.R_newB ho0 (g := gb616) (o := .cells #[.int .i64 t608, .int .i64 t609, .int .i64 t610, .int .i64 t611, .int .i64 t612, .int .i64 t613, .int .i64 t614] 26 (0, 0)) (by (with_reducible repeat (first | refine blk_drewN ?_ _ | refine blk_drew ?_ | refine blk_alloc ?_ _)); exact BK616.out)) (below_size (by repeat (first | (with_reducible first | exact HB.out | apply below_alloc | apply pw_below_drewN | apply below_drew1 | refine below_set ?_ GE616.out) | exact HB.out)))); have n3_ := Aside0.mk (Kd.R_lower ho1 (below_size (by repeat (first | (with_reducible first | exact HB.out | apply below_alloc | apply pw_below_drewN | apply below_drew1 | refine below_set ?_ GE616.out) | exact HB.out)))); have n4_ := Aside0.mk (blk_below (g := gb616) (o := .cells #[.int .i64 t608, .int .i64 t609, .int .i64 t610, .int .i64 t611, .int .i64 t612, .int .i64 t613, .int .i64 t614] 26 (0, 0)) (by (with_reducible repeat (first | refine blk_drewN ?_ _ | refine blk_drew ?_ | refine blk_alloc ?_ _)); exact BK616.out) hb); have n5_ := Aside0.mk (below_step (by repeat (first | (with_reducible first | exact HB.out | apply below_alloc | apply pw_below_drewN | apply below_drew1 | refine below_set ?_ GE616.out) | exact HB.out)) hb); clear HO_9; clear HO626; clear BK616; clear HB; have HO_9 := n0_; have HO626 := n1_; have HO634 := n2_; have HO636 := n3_; have BK616 := n4_; have HB := n5_; clear n0_ n1_ n2_ n3_ n4_ n5_; (try clear hb); (try clear hb2); (try clear hk); (try clear hi); (try clear ho0); (try clear ho1)) | ((with_reducible refine gate_dst (N := 53) rfl ?_); (try (refine gate_guard (by rfl) ?_; dsimp only)); refine Kd.R_lit (Kd.int .u8) _ 5 ?hg (N := 53) ?hd (xs := ([] : List Int)) (inner := []) (ok := fun _ => True) (okp := fun _ => True) ?hr ?hp (fun _ hk => hk) trivial (Below.refl _ _) (Nat.le_refl _) (by simp) ?_; (case hd => rfl); (case hg => rfl); (case hr => first | (go_simp; done) | (go_simp; rfl)); (case hp => exact (Reps.none _ _)); intro v638 w55 ho56 hb hg_ hnew_; clear hg_ hnew_; (first | rw [← Ny637.out] at ho56 | (simp only [Int.reduceToNat] at ho56; rw [← Ny637.out] at ho56)); have n0_ := Aside0.mk (Kd.R_elder' (by (with_reducible repeat (first | apply Kd.R_alloc | apply Kd.R_drewN | apply Kd.R_drew)); exact HO_9.out) (Kd.R_base ho56) hb); have n1_ := Aside0.mk (Kd.R_elder' (by (with_reducible repeat (first | apply Kd.R_alloc | apply Kd.R_drewN | apply Kd.R_drew)); exact HO626.out) (Kd.R_base ho56) hb); have n2_ := Aside0.mk (Kd.R_below (by (with_reducible repeat (first | apply Kd.R_alloc | apply Kd.R_drewN | apply Kd.R_drew)); exact HO634.out) hb); have n3_ := Aside0.mk (Kd.R_below (by (with_reducible repeat (first | apply Kd.R_alloc | apply Kd.R_drewN | apply Kd.R_drew)); exact HO636.out) hb); have n4_ := Aside0.mk (Kd.R_lower (Kd.R_new' (Kd.R_new' ho56 (Kd.R_lt (by (with_reducible repeat (first | apply Kd.R_alloc | apply Kd.R_drewN | apply Kd.R_drew)); exact HO_9.out))) (Kd.R_lt (by (with_reducible repeat (first | apply Kd.R_alloc | apply Kd.R_drewN | apply Kd.R_drew)); exact HO626.out))) (below_size (by repeat (first | (with_reducible first | exact HB.out | apply below_alloc | apply pw_below_drewN | apply below_drew1 | refine below_set ?_ GE616.out) | exact HB.out)))); have n5_ := Aside0.mk (blk_below (g := gb616) (o := .cells #[.int .i64 t608, .int .i64 t609, .int .i64 t610, .int .i64 t611, .int .i64 t612, .int .i64 t613, .int .i64 t614] 26 (0, 0)) (by (with_reducible repeat (first | refine blk_drewN ?_ _ | refine blk_drew ?_ | refine blk_alloc ?_ _)); exact BK616.out) hb); have n6_ := Aside0.mk (below_step (by repeat (first | (with_reducible first | exact HB.out | apply below_alloc | apply pw_below_drewN | apply below_drew1 | refine below_set ?_ GE616.out) | exact HB.out)) hb); clear HO_9; clear HO626; clear HO634; clear HO636; clear BK616; clear HB; have HO_9 := n0_; have HO626 := n1_; have HO634 := n2_; have HO636 := n3_; have HO639 := n4_; have BK616 := n5_; have HB := n6_; clear n0_ n1_ n2_ n3_ n4_ n5_ n6_; clear hb ho56) | ((with_reducible refine gate_builtin (b := .append) (xs := #[.tmp 53, .tmp 54]) rfl ?_); (try (refine gate_guard (by rfl) ?_; dsimp only)); at_builtin; refine Kd.R_append_rows (Kd.int .u8) (w0 := w) w.heap.size rfl (.tmp 53) (.tmp 54) 27 5 (.int .u8 0) 1 rfl Try.underlying27 info5 rfl (by decide) (by omega) v638 y637 y629 _ _ _ (fun k_ => some k_ ≠ (.slice Ao50 t617.length co50 : Value).ownBlock ∧ some k_ ≠ (.slice (some ⟨go21, 0, none⟩) y624.length co51 : Value).ownBlock) (fun _ => False) rfl rfl ?aO ?aR (fun _ _ h => h) (fun _ h => h.elim) ?aF ?aB ?aS ?aL ?_; (case aR => rw [show y624.length = y629.length from (Kd.R_reads' HO626.out).1]; repeat (first | exact (Kd.R_reads' HO626.out).2.2 | (with_reducible refine Kd.C_alloc ?_ _) | (with_reducible refine Kd.C_drewN ?_ _) | (with_reducible refine Kd.C_drew ?_))); (case aB => exact (by repeat (first | (with_reducible first | exact HB.out | apply below_alloc | apply pw_below_drewN | apply below_drew1 | refine below_set ?_ GE616.out) | exact HB.out))); (case aF => exact (fun k_ hk => ⟨Kd.fresh' (Kd.R_lt (by (with_reducible repeat (first | apply Kd.R_alloc | apply Kd.R_drewN | apply Kd.R_drew)); exact HO_9.out)) k_ hk, Kd.fresh' (Kd.R_lt (by (with_reducible repeat (first | apply Kd.R_alloc | apply Kd.R_drewN | apply Kd.R_drew)); exact HO626.out)) k_ hk⟩)); (case aO => exact (by (with_reducible repeat (first | apply Kd.R_alloc | apply Kd.R_drewN | apply Kd.R_drew)); exact Kd.R_mono HO639.out (fun _ hk => ⟨hk.1.2, hk.2⟩))); (case aS => exact (below_size (by repeat (first | (with_reducible first | exact HB.out | apply below_alloc | apply pw_below_drewN | apply below_drew1 | refine below_set ?_ GE616.out) | exact HB.out)))); (case aL => have := LMc23.out; have hlx_ := (Kd.R_reads' HO626.out).1; omega); intro v641 w57 ho hb hg hat; rw [← Ny640.out] at ho; have n0_ := Aside0.mk (Kd.R_after (ok := (fun k_ => some k_ ≠ (.slice (some ⟨go21, 0, none⟩) y624.length co51 : Value).ownBlock)) (by (with_reducible repeat (first | apply Kd.R_alloc | apply Kd.R_drewN | apply Kd.R_drew)); exact Kd.R_mono HO_9.out (fun _ hk => ⟨hk.1.2, hk.2⟩)) hg hat); have n1_ := Aside0.mk (blk_grown (g := gb616) (o := .cells #[.int .i64 t608, .int .i64 t609, .int .i64 t610, .int .i64 t611, .int .i64 t612, .int .i64 t613, .int .i64 t614] 26 (0, 0)) (by (with_reducible repeat (first | refine blk_drewN ?_ _ | refine blk_drew ?_ | refine blk_alloc ?_ _)); exact BK616.out) hg (Kd.R_ne HO639.out BK616.out (by decide))); have n2_ := Aside0.mk (Kd.R_after (ok := (fun k_ => some k_ ≠ (.slice Ao50 t617.length co50 : Value).ownBlock)) (by (with_reducible repeat (first | apply Kd.R_alloc | apply Kd.R_drewN | apply Kd.R_drew)); exact HO626.out) hg hat); have n3_ := Aside0.mk (Kd.R_over' (by (with_reducible repeat (first | apply Kd.R_alloc | apply Kd.R_drewN | apply Kd.R_drew)); exact HO634.out) (Kd.R_typed (by (with_reducible repeat (first | apply Kd.R_alloc | apply Kd.R_drewN | apply Kd.R_drew)); exact HO639.out)) (by decide) hg); have n4_ := Aside0.mk (Kd.R_over' (by (with_reducible repeat (first | apply Kd.R_alloc | apply Kd.R_drewN | apply Kd.R_drew)); exact HO636.out) (Kd.R_typed (by (with_reducible repeat (first | apply Kd.R_alloc | apply Kd.R_drewN | apply Kd.R_drew)); exact HO639.out)) (by decide) hg); have n5_ := Aside0.mk (hb); have n6_ := Aside0.mk (ho); clear HO_9; clear BK616; clear HO626; clear HO634; clear HO636; clear HB; clear HO639; have HO_9 := n0_; have BK616 := n1_; have HO626 := n2_; have HO634 := n3_; have HO636 := n4_; have HB := n5_; have HO642 := n6_; clear n0_ n1_ n2_ n3_ n4_ n5_ n6_; clear ho hb hg hat) | ((with_reducible refine gate_builtin (b := .append) (xs := #[.tmp 55, .tmp 56]) rfl ?_); (try (refine gate_guard (by rfl) ?_; dsimp only)); at_builtin; refine Kd.R_append_rows (Kd.int .u8) (w0 := w) w.heap.size rfl (.tmp 55) (.tmp 56) 27 5 (.int .u8 0) 1 rfl Try.underlying27 info5 rfl (by decide) (by omega) v641 y640 t617 _ _ _ (fun k_ => some k_ ≠ (.slice Ao50 t617.length co50 : Value).ownBlock ∧ some k_ ≠ (.slice (some ⟨go21, 0, none⟩) y624.length co51 : Value).ownBlock) (fun _ => False) rfl rfl ?aO ?aR (fun _ _ h => h) (fun _ h => h.elim) ?aF ?aB ?aS ?aL ?_; (case aR => repeat (first | exact (Kd.R_reads' HO_9.out).2.2 | (with_reducible refine Kd.C_alloc ?_ _) | (with_reducible refine Kd.C_drewN ?_ _) | (with_reducible refine Kd.C_drew ?_))); (case aB => exact (by repeat (first | (with_reducible first | exact HB.out | apply below_alloc | apply pw_below_drewN | apply below_drew1 | refine below_set ?_ GE616.out) | exact HB.out))); (case aF => exact (fun k_ hk => ⟨Kd.fresh' (Kd.R_lt (by (with_reducible repeat (first | apply Kd.R_alloc | apply Kd.R_drewN | apply Kd.R_drew)); exact HO_9.out)) k_ hk, Kd.fresh' (Kd.R_lt (by (with_reducible repeat (first | apply Kd.R_alloc | apply Kd.R_drewN | apply Kd.R_drew)); exact HO626.out)) k_ hk⟩)); (case aO => exact (by (with_reducible repeat (first | apply Kd.R_alloc | apply Kd.R_drewN | apply Kd.R_drew)); exact HO642.out)); (case aS => exact (below_size (by repeat (first | (with_reducible first | exact HB.out | apply below_alloc | apply pw_below_drewN | apply below_drew1 | refine below_set ?_ GE616.out) | exact HB.out)))); (case aL => have := LMc24.out; omega); intro v644 w58 ho hb hg hat; rw [← Ny643.out] at ho; have n0_ := Aside0.mk (Kd.R_after (ok := (fun k_ => some k_ ≠ (.slice (some ⟨go21, 0, none⟩) y624.length co51 : Value).ownBlock)) (by (with_reducible repeat (first | apply Kd.R_alloc | apply Kd.R_drewN | apply Kd.R_drew)); exact HO_9.out) hg hat); have n1_ := Aside0.mk (blk_grown (g := gb616) (o := .cells #[.int .i64 t608, .int .i64 t609, .int .i64 t610, .int .i64 t611, .int .i64 t612, .int .i64 t613, .int .i64 t614] 26 (0, 0)) (by (with_reducible repeat (first | refine blk_drewN ?_ _ | refine blk_drew ?_ | refine blk_alloc ?_ _)); exact BK616.out) hg (Kd.R_ne HO642.out BK616.out (by decide))); have n2_ := Aside0.mk (Kd.R_after (ok := (fun k_ => some k_ ≠ (.slice Ao50 t617.length co50 : Value).ownBlock)) (by (with_reducible repeat (first | apply Kd.R_alloc | apply Kd.R_drewN | apply Kd.R_drew)); exact HO626.out) hg hat); have n3_ := Aside0.mk (Kd.R_over' (by (with_reducible repeat (first | apply Kd.R_alloc | apply Kd.R_drewN | apply Kd.R_drew)); exact HO634.out) (Kd.R_typed (by (with_reducible repeat (first | apply Kd.R_alloc | apply Kd.R_drewN | apply Kd.R_drew)); exact HO642.out)) (by decide) hg); have n4_ := Aside0.mk (Kd.R_over' (by (with_reducible repeat (first | apply Kd.R_alloc | apply Kd.R_drewN | apply Kd.R_drew)); exact HO636.out) (Kd.R_typed (by (with_reducible repeat (first | apply Kd.R_alloc | apply Kd.R_drewN | apply Kd.R_drew)); exact HO642.out)) (by decide) hg); have n5_ := Aside0.mk (hb); have n6_ := Aside0.mk (ho); clear HO_9; clear BK616; clear HO626; clear HO634; clear HO636; clear HB; clear HO642; have HO_9 := n0_; have BK616 := n1_; have HO626 := n2_; have HO634 := n3_; have HO636 := n4_; have HB := n5_; have HO645 := n6_; clear n0_ n1_ n2_ n3_ n4_ n5_ n6_; clear ho hb hg hat; obtain ⟨Ao59, co59, eo59⟩ := Kd.R_slice HO645.out; subst eo59) | ((with_reducible refine gate_callee (f := 24) rfl ?_); refine goesL_ (some 58) rfl rfl Try.func24 (by kernel_rfl) rfl #[.slice Ao59 y643.length co59] rfl (by (try simp only [List.map_toArray, List.map_cons, List.map_nil]); first | done | rfl | (simp only [List.length_drop, List.length_take]; rfl)) ?_; (with_reducible refine (records_Decode.calls kj6 _ _ y643 t646 t647 t648 _ ?side1 ?side2 A25.out).mono ?_); (case side1 => repeat (first | exact (Kd.R_reads' HO645.out).2.2 | (with_reducible refine Kd.C_alloc ?_ _) | (with_reducible refine Kd.C_drewN ?_ _) | (with_reducible refine Kd.C_drew ?_))); (case side2 => exact (Kd.R_reads' HO645.out).2.1); rintro e w60 ⟨v649, v651, rfl, ho0, ho1, hb⟩; refine ⟨_, rfl, ?_⟩; have n0_ := Aside0.mk (Kd.R_below (by (with_reducible repeat (first | apply Kd.R_alloc | apply Kd.R_drewN | apply Kd.R_drew)); exact HO_9.out) hb); have n1_ := Aside0.mk (Kd.R_below (by (with_reducible repeat (first | apply Kd.R_alloc | apply Kd.R_drewN | apply Kd.R_drew)); exact HO626.out) hb); have n2_ := Aside0.mk (Kd.R_elder' (by (with_reducible repeat (first | apply Kd.R_alloc | apply Kd.R_drewN | apply Kd.R_drew)); exact HO634.out) (Kd.R_base ho0) hb); have n3_ := Aside0.mk (Kd.R_elder' (by (with_reducible repeat (first | apply Kd.R_alloc | apply Kd.R_drewN | apply Kd.R_drew)); exact HO636.out) (Kd.R_base ho1) hb); have n4_ := Aside0.mk (Kd.R_below (by (with_reducible repeat (first | apply Kd.R_alloc | apply Kd.R_drewN | apply Kd.R_drew)); exact HO645.out) hb); have n5_ := Aside0.mk (Kd.R_lower (Kd.R_newB (Kd.R_new' ho0 (Kd.R_lt (by (with_reducible repeat (first | apply Kd.R_alloc | apply Kd.R_drewN | apply Kd.R_drew)); exact HO634.out))) (g := gb616) (o := .cells #[.int .i64 t608, .int .i64 t609, .int .i64 t610, .int .i64 t611, .int .i64 t612, .int .i64 t613, .int .i64 t614] 26 (0, 0)) (by (with_reducible repeat (first | refine blk_drewN ?_ _ | refine blk_drew ?_ | refine blk_alloc ?_ _)); exact BK616.out)) (below_size (by repeat (first | (with_reducible first | exact HB.out | apply below_alloc | apply pw_below_drewN | apply below_drew1 | refine below_set ?_ GE616.out) | exact HB.out)))); have n6_ := Aside0.mk (Kd.R_lower (Kd.R_new' ho1 (Kd.R_lt (by (with_reducible repeat (first | apply Kd.R_alloc | apply Kd.R_drewN | apply Kd.R_drew)); exact HO636.out))) (below_size (by repeat (first | (with_reducible first | exact HB.out | apply below_alloc | apply pw_below_drewN | apply below_drew1 | refine below_set ?_ GE616.out) | exact HB.out)))); have n7_ := Aside0.mk (blk_below (g := gb616) (o := .cells #[.int .i64 t608, .int .i64 t609, .int .i64 t610, .int .i64 t611, .int .i64 t612, .int .i64 t613, .int .i64 t614] 26 (0, 0)) (by (with_reducible repeat (first | refine blk_drewN ?_ _ | refine blk_drew ?_ | refine blk_alloc ?_ _)); exact BK616.out) hb); have n8_ := Aside0.mk (below_step (by repeat (first | (with_reducible first | exact HB.out | apply below_alloc | apply pw_below_drewN | apply below_drew1 | refine below_set ?_ GE616.out) | exact HB.out)) hb); clear HO_9; clear HO626; clear HO634; clear HO636; clear HO645; clear BK616; clear HB; have HO_9 := n0_; have HO626 := n1_; have HO634 := n2_; have HO636 := n3_; have HO645 := n4_; have HO650 := n5_; have HO652 := n6_; have BK616 := n7_; have HB := n8_; clear n0_ n1_ n2_ n3_ n4_ n5_ n6_ n7_ n8_; (try clear hb); (try clear hb2); (try clear hk); (try clear hi); (try clear ho0); (try clear ho1); obtain ⟨Ao61, co61, eo61⟩ := Kd.R_slice HO634.out; subst eo61))
              have n0_ := Aside0.mk (Kd.R_drew HO_9.out)
              have n1_ := Aside0.mk (Kd.R_drew HO626.out)
              have n2_ := Aside0.mk (Kd.R_drew HO634.out)
              have n3_ := Aside0.mk (Kd.R_drew HO636.out)
              have n4_ := Aside0.mk (Kd.R_drew HO645.out)
              have n5_ := Aside0.mk (Kd.R_drew HO650.out)
              have n6_ := Aside0.mk (Kd.R_drew HO652.out)
              have n7_ := Aside0.mk (blk_drew BK616.out)
              have n8_ := Aside0.mk (below_drew1 HB.out)
              clear HO_9
              clear HO626
              clear HO634
              clear HO636
              clear HO645
              clear HO650
              clear HO652
              clear BK616
              clear HB
              have HO_9 := n0_
              have HO626 := n1_
              have HO634 := n2_
              have HO636 := n3_
              have HO645 := n4_
              have HO650 := n5_
              have HO652 := n6_
              have BK616 := n7_
              have HB := n8_
              clear n0_ n1_ n2_ n3_ n4_ n5_ n6_ n7_ n8_
              obtain ⟨Ao63, co63, eo63⟩ := Kd.R_slice HO650.out
              (first | subst eo63 | (injection eo63 with f1_ f2_ f3_; have f4_ := f1_.symm; have f5_ := f3_.symm; clear f1_ f2_ f3_; subst f4_; subst f5_))
              refine start_ (n := 30) (S := fun w' => True) (ds := []) #[false, false, false, false, false, false, false, false, false, false, false, false, false, false, false, false, false, false, false, false, false, false, false, false, false, false, false, false, false, false] (by kernel_rfl) rfl rfl trivial (fun hHeld => ?_); refine with_tabW payrolllaw7_RecordsDamage.tab12 payrolllaw7_RecordsDamage.bits12 (fun HT_ HW_ => ?_)
              generalize w60.drew = w62 at HO_9 HO626 HO634 HO636 HO645 HO650 HO652 BK616 HB hHeld ⊢
              refine pure_ (i := 0) (N := some 73) (v := ?_) (a' := ?_) #[true, false, false, false, false, false, false, false, false, false, false, false, false, false, false, false, false, false, false, false, false, false, false, false, false, false, false, false, false, false] rfl rfl (any_of HT_.out (by kernel_rfl)) (fun _ _ _ h => h) (Or.inl ⟨by rfl, ?_⟩) ?_ ?_
              rotate_left
              ·
               intro w'
               go_simp
               with_reducible rfl
              rotate_left
              ·
               simp only [Act.put, List.setIfInBounds_toArray, List.set_cons_zero, List.set_cons_succ, i64_w, i32_w]
               rfl
              refine pure_ (i := 1) (N := some 74) (v := ?_) (a' := ?_) #[true, true, false, false, false, false, false, false, false, false, false, false, false, false, false, false, false, false, false, false, false, false, false, false, false, false, false, false, false, false] rfl rfl (any_of HT_.out (by kernel_rfl)) (fun _ _ _ h => h) (Or.inl ⟨by rfl, ?_⟩) ?_ ?_
              rotate_left
              ·
               intro w'
               go_simp
               with_reducible rfl
              rotate_left
              ·
               simp only [Act.put, List.setIfInBounds_toArray, List.set_cons_zero, List.set_cons_succ, i64_w, i32_w]
               rfl
              refine pure_ (i := 2) (N := some 75) (v := ?_) (a' := ?_) #[true, true, true, false, false, false, false, false, false, false, false, false, false, false, false, false, false, false, false, false, false, false, false, false, false, false, false, false, false, false] rfl rfl (any_of HT_.out (by kernel_rfl)) (fun _ _ _ h => h) (Or.inl ⟨by rfl, ?_⟩) ?_ ?_
              rotate_left
              ·
               intro w'
               go_simp
               with_reducible rfl
              rotate_left
              ·
               simp only [Act.put, List.setIfInBounds_toArray, List.set_cons_zero, List.set_cons_succ, i64_w, i32_w]
               rfl
              refine pure_ (i := 3) (N := some 76) (v := ?_) (a' := ?_) #[true, true, true, true, false, false, false, false, false, false, false, false, false, false, false, false, false, false, false, false, false, false, false, false, false, false, false, false, false, false] rfl rfl (any_of HT_.out (by kernel_rfl)) (fun _ _ _ h => h) (Or.inl ⟨by rfl, ?_⟩) ?_ ?_
              rotate_left
              ·
               intro w'
               go_simp
               with_reducible rfl
              rotate_left
              ·
               simp only [Act.put, List.setIfInBounds_toArray, List.set_cons_zero, List.set_cons_succ, i64_w, i32_w]
               rfl
              refine pure_ (i := 4) (N := some 77) (v := ?_) (a' := ?_) #[true, true, true, true, true, false, false, false, false, false, false, false, false, false, false, false, false, false, false, false, false, false, false, false, false, false, false, false, false, false] rfl rfl (any_of HT_.out (by kernel_rfl)) (fun _ _ _ h => h) (Or.inl ⟨by rfl, ?_⟩) ?_ ?_
              rotate_left
              ·
               intro w'
               go_simp
               with_reducible rfl
              rotate_left
              ·
               simp only [Act.put, List.setIfInBounds_toArray, List.set_cons_zero, List.set_cons_succ, i64_w, i32_w]
               rfl
              refine pure_ (i := 5) (N := some 78) (v := ?_) (a' := ?_) #[true, true, true, true, true, true, false, false, false, false, false, false, false, false, false, false, false, false, false, false, false, false, false, false, false, false, false, false, false, false] rfl rfl (any_of HT_.out (by kernel_rfl)) (fun _ _ _ h => h) (Or.inl ⟨by rfl, ?_⟩) ?_ ?_
              rotate_left
              ·
               intro w'
               go_simp
               with_reducible rfl
              rotate_left
              ·
               simp only [Act.put, List.setIfInBounds_toArray, List.set_cons_zero, List.set_cons_succ, i64_w, i32_w]
               rfl
              refine pure_ (i := 6) (N := some 79) (v := ?_) (a' := ?_) #[true, true, true, true, true, true, true, false, false, false, false, false, false, false, false, false, false, false, false, false, false, false, false, false, false, false, false, false, false, false] rfl rfl (any_of HT_.out (by kernel_rfl)) (fun _ _ _ h => h) (Or.inl ⟨by rfl, ?_⟩) ?_ ?_
              rotate_left
              ·
               intro w'
               go_simp
               with_reducible rfl
              rotate_left
              ·
               simp only [Act.put, List.setIfInBounds_toArray, List.set_cons_zero, List.set_cons_succ, i64_w, i32_w]
               rfl
              refine pure_ (i := 7) (N := some 80) (v := ?_) (a' := ?_) #[true, true, true, true, true, true, true, true, false, false, false, false, false, false, false, false, false, false, false, false, false, false, false, false, false, false, false, false, false, false] rfl rfl (any_of HT_.out (by kernel_rfl)) (fun _ _ _ h => h) (Or.inl ⟨by rfl, ?_⟩) ?_ ?_
              rotate_left
              ·
               intro w'
               go_simp
               with_reducible rfl
              rotate_left
              ·
               simp only [Act.put, List.setIfInBounds_toArray, List.set_cons_zero, List.set_cons_succ, i64_w, i32_w]
               rfl
              refine pure_ (i := 8) (N := some 81) (v := undef) (a' := ?_) #[true, true, true, true, true, true, true, true, true, false, false, false, false, false, false, false, false, false, false, false, false, false, false, false, false, false, false, false, false, false] rfl rfl (any_of HT_.out (by kernel_rfl)) (fun _ _ _ h => h) (Or.inr ⟨by rfl, rfl⟩) ?_ ?_
              rotate_left
              ·
               simp only [Act.put, List.setIfInBounds_toArray, List.set_cons_zero, List.set_cons_succ, i64_w, i32_w]
               rfl
              refine pure_ (i := 9) (N := some 82) (v := undef) (a' := ?_) #[true, true, true, true, true, true, true, true, true, true, false, false, false, false, false, false, false, false, false, false, false, false, false, false, false, false, false, false, false, false] rfl rfl (any_of HT_.out (by kernel_rfl)) (fun _ _ _ h => h) (Or.inr ⟨by rfl, rfl⟩) ?_ ?_
              rotate_left
              ·
               simp only [Act.put, List.setIfInBounds_toArray, List.set_cons_zero, List.set_cons_succ, i64_w, i32_w]
               rfl
              refine pure_ (i := 10) (N := some 83) (v := undef) (a' := ?_) #[true, true, true, true, true, true, true, true, true, true, true, false, false, false, false, false, false, false, false, false, false, false, false, false, false, false, false, false, false, false] rfl rfl (any_of HT_.out (by kernel_rfl)) (fun _ _ _ h => h) (Or.inr ⟨by rfl, rfl⟩) ?_ ?_
              rotate_left
              ·
               simp only [Act.put, List.setIfInBounds_toArray, List.set_cons_zero, List.set_cons_succ, i64_w, i32_w]
               rfl
              refine pure_ (i := 11) (N := some 84) (v := undef) (a' := ?_) #[true, true, true, true, true, true, true, true, true, true, true, true, false, false, false, false, false, false, false, false, false, false, false, false, false, false, false, false, false, false] rfl rfl (any_of HT_.out (by kernel_rfl)) (fun _ _ _ h => h) (Or.inr ⟨by rfl, rfl⟩) ?_ ?_
              rotate_left
              ·
               simp only [Act.put, List.setIfInBounds_toArray, List.set_cons_zero, List.set_cons_succ, i64_w, i32_w]
               rfl
              refine pure_ (i := 12) (N := some 85) (v := undef) (a' := ?_) #[true, true, true, true, true, true, true, true, true, true, true, true, true, false, false, false, false, false, false, false, false, false, false, false, false, false, false, false, false, false] rfl rfl (any_of HT_.out (by kernel_rfl)) (fun _ _ _ h => h) (Or.inr ⟨by rfl, rfl⟩) ?_ ?_
              rotate_left
              ·
               simp only [Act.put, List.setIfInBounds_toArray, List.set_cons_zero, List.set_cons_succ, i64_w, i32_w]
               rfl
              refine pure_ (i := 13) (N := some 86) (v := undef) (a' := ?_) #[true, true, true, true, true, true, true, true, true, true, true, true, true, true, false, false, false, false, false, false, false, false, false, false, false, false, false, false, false, false] rfl rfl (any_of HT_.out (by kernel_rfl)) (fun _ _ _ h => h) (Or.inr ⟨by rfl, rfl⟩) ?_ ?_
              rotate_left
              ·
               simp only [Act.put, List.setIfInBounds_toArray, List.set_cons_zero, List.set_cons_succ, i64_w, i32_w]
               rfl
              refine pure_ (i := 14) (N := some 87) (v := undef) (a' := ?_) #[true, true, true, true, true, true, true, true, true, true, true, true, true, true, true, false, false, false, false, false, false, false, false, false, false, false, false, false, false, false] rfl rfl (any_of HT_.out (by kernel_rfl)) (fun _ _ _ h => h) (Or.inr ⟨by rfl, rfl⟩) ?_ ?_
              rotate_left
              ·
               simp only [Act.put, List.setIfInBounds_toArray, List.set_cons_zero, List.set_cons_succ, i64_w, i32_w]
               rfl
              refine pure_ (i := 15) (N := some 88) (v := undef) (a' := ?_) #[true, true, true, true, true, true, true, true, true, true, true, true, true, true, true, true, false, false, false, false, false, false, false, false, false, false, false, false, false, false] rfl rfl (any_of HT_.out (by kernel_rfl)) (fun _ _ _ h => h) (Or.inr ⟨by rfl, rfl⟩) ?_ ?_
              rotate_left
              ·
               simp only [Act.put, List.setIfInBounds_toArray, List.set_cons_zero, List.set_cons_succ, i64_w, i32_w]
               rfl
              refine pure_ (i := 16) (N := some 89) (v := undef) (a' := ?_) #[true, true, true, true, true, true, true, true, true, true, true, true, true, true, true, true, true, false, false, false, false, false, false, false, false, false, false, false, false, false] rfl rfl (any_of HT_.out (by kernel_rfl)) (fun _ _ _ h => h) (Or.inr ⟨by rfl, rfl⟩) ?_ ?_
              rotate_left
              ·
               simp only [Act.put, List.setIfInBounds_toArray, List.set_cons_zero, List.set_cons_succ, i64_w, i32_w]
               rfl
              refine pure_ (i := 17) (N := some 90) (v := ?_) (a' := ?_) #[true, true, true, true, true, true, true, true, true, true, true, true, true, true, true, true, true, true, false, false, false, false, false, false, false, false, false, false, false, false] rfl rfl (any_of HT_.out (by kernel_rfl)) (fun _ _ _ h => h) (Or.inl ⟨by rfl, ?_⟩) ?_ ?_
              rotate_left
              ·
               intro w'
               go_simp
               with_reducible rfl
              rotate_left
              ·
               simp only [Act.put, List.setIfInBounds_toArray, List.set_cons_zero, List.set_cons_succ, i64_w, i32_w]
               rfl
              refine pure_ (i := 18) (N := some 91) (v := ?_) (a' := ?_) #[true, true, true, true, true, true, true, true, true, true, true, true, true, true, true, true, true, true, true, false, false, false, false, false, false, false, false, false, false, false] rfl rfl (any_of HT_.out (by kernel_rfl)) (fun _ _ _ h => h) (Or.inl ⟨by rfl, ?_⟩) ?_ ?_
              rotate_left
              ·
               intro w'
               go_simp
               with_reducible rfl
              rotate_left
              ·
               simp only [Act.put, List.setIfInBounds_toArray, List.set_cons_zero, List.set_cons_succ, i64_w, i32_w]
               rfl
              refine pure_ (i := 19) (N := some 92) (v := undef) (a' := ?_) #[true, true, true, true, true, true, true, true, true, true, true, true, true, true, true, true, true, true, true, true, false, false, false, false, false, false, false, false, false, false] rfl rfl (any_of HT_.out (by kernel_rfl)) (fun _ _ _ h => h) (Or.inr ⟨by rfl, rfl⟩) ?_ ?_
              rotate_left
              ·
               simp only [Act.put, List.setIfInBounds_toArray, List.set_cons_zero, List.set_cons_succ, i64_w, i32_w]
               rfl
              refine pure_ (i := 20) (N := some 93) (v := undef) (a' := ?_) #[true, true, true, true, true, true, true, true, true, true, true, true, true, true, true, true, true, true, true, true, true, false, false, false, false, false, false, false, false, false] rfl rfl (any_of HT_.out (by kernel_rfl)) (fun _ _ _ h => h) (Or.inr ⟨by rfl, rfl⟩) ?_ ?_
              rotate_left
              ·
               simp only [Act.put, List.setIfInBounds_toArray, List.set_cons_zero, List.set_cons_succ, i64_w, i32_w]
               rfl
              refine pure_ (i := 21) (N := some 94) (v := undef) (a' := ?_) #[true, true, true, true, true, true, true, true, true, true, true, true, true, true, true, true, true, true, true, true, true, true, false, false, false, false, false, false, false, false] rfl rfl (any_of HT_.out (by kernel_rfl)) (fun _ _ _ h => h) (Or.inr ⟨by rfl, rfl⟩) ?_ ?_
              rotate_left
              ·
               simp only [Act.put, List.setIfInBounds_toArray, List.set_cons_zero, List.set_cons_succ, i64_w, i32_w]
               rfl
              refine pure_ (i := 22) (N := some 95) (v := undef) (a' := ?_) #[true, true, true, true, true, true, true, true, true, true, true, true, true, true, true, true, true, true, true, true, true, true, true, false, false, false, false, false, false, false] rfl rfl (any_of HT_.out (by kernel_rfl)) (fun _ _ _ h => h) (Or.inr ⟨by rfl, rfl⟩) ?_ ?_
              rotate_left
              ·
               simp only [Act.put, List.setIfInBounds_toArray, List.set_cons_zero, List.set_cons_succ, i64_w, i32_w]
               rfl
              refine pure_ (i := 23) (N := some 96) (v := undef) (a' := ?_) #[true, true, true, true, true, true, true, true, true, true, true, true, true, true, true, true, true, true, true, true, true, true, true, true, false, false, false, false, false, false] rfl rfl (any_of HT_.out (by kernel_rfl)) (fun _ _ _ h => h) (Or.inr ⟨by rfl, rfl⟩) ?_ ?_
              rotate_left
              ·
               simp only [Act.put, List.setIfInBounds_toArray, List.set_cons_zero, List.set_cons_succ, i64_w, i32_w]
               rfl
              refine pure_ (i := 24) (N := some 97) (v := ?_) (a' := ?_) #[true, true, true, true, true, true, true, true, true, true, true, true, true, true, true, true, true, true, true, true, true, true, true, true, true, false, false, false, false, false] rfl rfl (any_of HT_.out (by kernel_rfl)) (fun _ _ _ h => h) (Or.inl ⟨by rfl, ?_⟩) ?_ ?_
              rotate_left
              ·
               intro w'
               go_simp
               with_reducible rfl
              rotate_left
              ·
               simp only [Act.put, List.setIfInBounds_toArray, List.set_cons_zero, List.set_cons_succ, i64_w, i32_w]
               rfl
              refine pure_ (i := 25) (N := some 98) (v := ?_) (a' := ?_) #[true, true, true, true, true, true, true, true, true, true, true, true, true, true, true, true, true, true, true, true, true, true, true, true, true, true, false, false, false, false] rfl rfl (any_of HT_.out (by kernel_rfl)) (fun _ _ _ h => h) (Or.inl ⟨by rfl, ?_⟩) ?_ ?_
              rotate_left
              ·
               intro w'
               go_simp
               with_reducible rfl
              rotate_left
              ·
               simp only [Act.put, List.setIfInBounds_toArray, List.set_cons_zero, List.set_cons_succ, i64_w, i32_w]
               rfl
              refine pure_ (i := 26) (N := some 99) (v := ?_) (a' := ?_) #[true, true, true, true, true, true, true, true, true, true, true, true, true, true, true, true, true, true, true, true, true, true, true, true, true, true, true, false, false, false] rfl rfl (any_of HT_.out (by kernel_rfl)) (fun _ _ _ h => h) (Or.inl ⟨by rfl, ?_⟩) ?_ ?_
              rotate_left
              ·
               intro w'
               go_simp
               with_reducible rfl
              rotate_left
              ·
               simp only [Act.put, List.setIfInBounds_toArray, List.set_cons_zero, List.set_cons_succ, i64_w, i32_w]
               rfl
              refine one_ (i := 27) (N := some 100) #[true, true, true, true, true, true, true, true, true, true, true, true, true, true, true, true, true, true, true, true, true, true, true, true, true, true, true, true, false, false] rfl rfl (one_of HT_.out (by kernel_rfl)) (by decide) (fun K hK => ?_)
              refine goes_ Try.func18 (by kernel_rfl) rfl #[] (by rfl) rfl rfl (by (try simp only [List.map_toArray, List.map_cons, List.map_nil]); first | done | rfl | (simp only [List.length_drop, List.length_take]; rfl)) ?_
              with_reducible refine (payrolllaw7_sane.calls kj6  t653 _ A46.out).mono ?_
              rintro e w64 ⟨rfl, hb⟩
              refine ⟨_, rfl, ?_⟩
              have n0_ := Aside0.mk (Kd.R_below (by (with_reducible repeat (first | apply Kd.R_alloc | apply Kd.R_drewN | apply Kd.R_drew)); exact HO_9.out) hb)
              have n1_ := Aside0.mk (Kd.R_below (by (with_reducible repeat (first | apply Kd.R_alloc | apply Kd.R_drewN | apply Kd.R_drew)); exact HO626.out) hb)
              have n2_ := Aside0.mk (Kd.R_below (by (with_reducible repeat (first | apply Kd.R_alloc | apply Kd.R_drewN | apply Kd.R_drew)); exact HO634.out) hb)
              have n3_ := Aside0.mk (Kd.R_below (by (with_reducible repeat (first | apply Kd.R_alloc | apply Kd.R_drewN | apply Kd.R_drew)); exact HO636.out) hb)
              have n4_ := Aside0.mk (Kd.R_below (by (with_reducible repeat (first | apply Kd.R_alloc | apply Kd.R_drewN | apply Kd.R_drew)); exact HO645.out) hb)
              have n5_ := Aside0.mk (Kd.R_below (by (with_reducible repeat (first | apply Kd.R_alloc | apply Kd.R_drewN | apply Kd.R_drew)); exact HO650.out) hb)
              have n6_ := Aside0.mk (Kd.R_below (by (with_reducible repeat (first | apply Kd.R_alloc | apply Kd.R_drewN | apply Kd.R_drew)); exact HO652.out) hb)
              have n7_ := Aside0.mk (blk_below (g := gb616) (o := .cells #[.int .i64 t608, .int .i64 t609, .int .i64 t610, .int .i64 t611, .int .i64 t612, .int .i64 t613, .int .i64 t614] 26 (0, 0)) (by (with_reducible repeat (first | refine blk_drewN ?_ _ | refine blk_drew ?_ | refine blk_alloc ?_ _)); exact BK616.out) hb)
              have n8_ := Aside0.mk (below_step (by repeat (first | (with_reducible first | exact HB.out | apply below_alloc | apply pw_below_drewN | apply below_drew1 | refine below_set ?_ GE616.out) | exact HB.out)) hb)
              clear HO_9
              clear HO626
              clear HO634
              clear HO636
              clear HO645
              clear HO650
              clear HO652
              clear BK616
              clear HB
              have HO_9 := n0_
              have HO626 := n1_
              have HO634 := n2_
              have HO636 := n3_
              have HO645 := n4_
              have HO650 := n5_
              have HO652 := n6_
              have BK616 := n7_
              have HB := n8_
              clear n0_ n1_ n2_ n3_ n4_ n5_ n6_ n7_ n8_
              (try clear hb)
              (try clear hb2)
              (try clear hk)
              (try clear hi)
              refine hK.out _ _ trivial (fun hHeld => ?_)
              clear hK K
              refine norm_ (a' := ?_) ?_ ?_
              rotate_left
              ·
               show Act.put _ (some 100) _ = _
               simp only [Act.put, List.setIfInBounds_toArray, List.set_cons_zero, List.set_cons_succ, i64_w, i32_w]
               rfl
              refine pure_ (i := 28) (N := some 101) (v := ?_) (a' := ?_) #[true, true, true, true, true, true, true, true, true, true, true, true, true, true, true, true, true, true, true, true, true, true, true, true, true, true, true, true, true, false] rfl rfl (any_of HT_.out (by kernel_rfl)) (fun _ _ _ h => h) (Or.inl ⟨by rfl, ?_⟩) ?_ ?_
              rotate_left
              ·
               intro w'
               go_simp
               with_reducible rfl
              rotate_left
              ·
               simp only [Act.put, List.setIfInBounds_toArray, List.set_cons_zero, List.set_cons_succ, i64_w, i32_w]
               rfl
              refine pure_ (i := 29) (N := some 6) (v := ?_) (a' := ?_) #[true, true, true, true, true, true, true, true, true, true, true, true, true, true, true, true, true, true, true, true, true, true, true, true, true, true, true, true, true, true] rfl rfl (any_of HT_.out (by kernel_rfl)) (fun _ _ _ h => h) (Or.inl ⟨by rfl, ?_⟩) ?_ ?_
              rotate_left
              ·
               intro w'
               go_simp
               with_reducible rfl
              rotate_left
              ·
               simp only [Act.put, List.setIfInBounds_toArray, List.set_cons_zero, List.set_cons_succ, i64_w, i32_w]
               rfl
              refine done_ (done_of HT_.out (by kernel_rfl)) ?_
              try go_wp2
              go_ret
              exact ⟨by first | rfl | (simp [errW_none, errW_some] <;> rfl) | (simp [*, errW_none, errW_some] <;> rfl), by repeat (first | (with_reducible first | exact HB.out | apply below_alloc | apply pw_below_drewN | apply below_drew1 | refine below_set ?_ GE616.out) | exact HB.out)⟩
             ·
              rw [if_neg c45] at H
              have c45b0 : decide (1 < (t646.length : Int)) = false := decide_eq_false c45
              have c45b1 : decide (1 < t646.length) = false := decide_eq_false (by omega)
              clear c45
              by_cases c65 : 0 < (t646.length : Int)
              ·
               rw [if_pos c65] at H
               have c65b0 : decide (0 < (t646.length : Int)) = true := decide_eq_true c65
               have c65b1 : decide (0 < t646.length) = true := decide_eq_true (by omega)
               clear c65
               by_cases c66 : ((((rd_T26 t646 0).f0.f0) == t608 && (((rd_T26 t646 0).f0.f1) == t609)) && (((rd_T26 t646 0).f1) == t610 && (((rd_T26 t646 0).f2) == t611 && (((rd_T26 t646 0).f3) == t612 && ((((rd_T26 t646 0).f4.f0) == t613 && (((rd_T26 t646 0).f4.f1) == t614))))))) = true
               ·
                rw [if_pos c66] at H
                have c66b0 : ((((rd_T26 t646 0).f0.f0) == t608 && (((rd_T26 t646 0).f0.f1) == t609)) && (((rd_T26 t646 0).f1) == t610 && (((rd_T26 t646 0).f2) == t611 && (((rd_T26 t646 0).f3) == t612 && ((((rd_T26 t646 0).f4.f0) == t613 && (((rd_T26 t646 0).f4.f1) == t614))))))) = true := c66
                clear c66
                by_cases c67 : t648 = 48
                ·
                 rw [if_pos c67] at H
                 have c67b0 : (t648 == 48) = true := beq_iff_eq.mpr c67
                 have c67b1 : (t648 != 48) = false := bne_eq_false_iff_eq.mpr c67
                 clear c67
                 replace H := Option.bind_eq_some_iff.mp H
                 obtain ⟨t655, A680, H⟩ := H
                 replace H : (some t655) = some r := H
                 have A68 := Aside0.mk A680
                 clear A680
                 obtain rfl := Option.some.inj H
                 try go_wp2_with (first | ((with_reducible refine gate_dst (N := 34) rfl ?_); (try (refine gate_guard (by rfl) ?_; dsimp only)); refine Kd.R_lit (Kd.int .u8) _ 5 ?hg (N := 34) ?hd (xs := ([] : List Int)) (inner := []) (ok := fun _ => True) (okp := fun _ => True) ?hr ?hp (fun _ hk => hk) trivial (Below.refl _ _) (Nat.le_refl _) (by simp) ?_; (case hd => rfl); (case hg => rfl); (case hr => first | (go_simp; done) | (go_simp; rfl)); (case hp => exact (Reps.none _ _)); intro v622 w69 ho70 hb hg_ hnew_; clear hg_ hnew_; (first | rw [← Ny621.out] at ho70 | (simp only [Int.reduceToNat] at ho70; rw [← Ny621.out] at ho70)); have n0_ := Aside0.mk (Kd.R_elder' (by (with_reducible repeat (first | apply Kd.R_alloc | apply Kd.R_drewN | apply Kd.R_drew)); exact HO_9.out) (Kd.R_base ho70) hb); have n1_ := Aside0.mk (Kd.R_lower (Kd.R_new' ho70 (Kd.R_lt (by (with_reducible repeat (first | apply Kd.R_alloc | apply Kd.R_drewN | apply Kd.R_drew)); exact HO_9.out))) (below_size (by repeat (first | (with_reducible first | exact HB.out | apply below_alloc | apply pw_below_drewN | apply below_drew1 | refine below_set ?_ GE616.out) | exact HB.out)))); have n2_ := Aside0.mk (blk_below (g := gb616) (o := .cells #[.int .i64 t608, .int .i64 t609, .int .i64 t610, .int .i64 t611, .int .i64 t612, .int .i64 t613, .int .i64 t614] 26 (0, 0)) (by (with_reducible repeat (first | refine blk_drewN ?_ _ | refine blk_drew ?_ | refine blk_alloc ?_ _)); exact BK616.out) hb); have n3_ := Aside0.mk (below_step (by repeat (first | (with_reducible first | exact HB.out | apply below_alloc | apply pw_below_drewN | apply below_drew1 | refine below_set ?_ GE616.out) | exact HB.out)) hb); clear HO_9; clear BK616; clear HB; have HO_9 := n0_; have HO623 := n1_; have BK616 := n2_; have HB := n3_; clear n0_ n1_ n2_ n3_; clear hb ho70; obtain ⟨Ao72, co72, eo72⟩ := Kd.R_slice HO_9.out; subst eo72) | ((with_reducible refine gate_builtin (b := .append) (xs := #[.tmp 34, .tmp 35]) rfl ?_); (try (refine gate_guard (by rfl) ?_; dsimp only)); at_builtin; refine Kd.R_append_rows (Kd.int .u8) (w0 := w) w.heap.size rfl (.tmp 34) (.tmp 35) 27 5 (.int .u8 0) 1 rfl Try.underlying27 info5 rfl (by decide) (by omega) v622 y621 t617 _ _ _ (fun k_ => some k_ ≠ (.slice Ao72 t617.length co72 : Value).ownBlock) (fun _ => False) rfl rfl ?aO ?aR (fun _ _ h => h) (fun _ h => h.elim) ?aF ?aB ?aS ?aL ?_; (case aR => repeat (first | exact (Kd.R_reads' HO_9.out).2.2 | (with_reducible refine Kd.C_alloc ?_ _) | (with_reducible refine Kd.C_drewN ?_ _) | (with_reducible refine Kd.C_drew ?_))); (case aB => exact (by repeat (first | (with_reducible first | exact HB.out | apply below_alloc | apply pw_below_drewN | apply below_drew1 | refine below_set ?_ GE616.out) | exact HB.out))); (case aF => exact (fun k_ hk => Kd.fresh' (Kd.R_lt (by (with_reducible repeat (first | apply Kd.R_alloc | apply Kd.R_drewN | apply Kd.R_drew)); exact HO_9.out)) k_ hk)); (case aO => exact (by (with_reducible repeat (first | apply Kd.R_alloc | apply Kd.R_drewN | apply Kd.R_drew)); exact Kd.R_mono HO623.out (fun _ hk => hk.2))); (case aS => exact (below_size (by repeat (first | (with_reducible first | exact HB.out | apply below_alloc | apply pw_below_drewN | apply below_drew1 | refine below_set ?_ GE616.out) | exact HB.out)))); (case aL => have := LMc17.out; omega); intro v625 w71 ho hb hg hat; rw [← Ny624.out] at ho; have n0_ := Aside0.mk (Kd.R_after (ok := (fun _ => True)) (by (with_reducible repeat (first | apply Kd.R_alloc | apply Kd.R_drewN | apply Kd.R_drew)); exact HO_9.out) hg hat); have n1_ := Aside0.mk (blk_grown (g := gb616) (o := .cells #[.int .i64 t608, .int .i64 t609, .int .i64 t610, .int .i64 t611, .int .i64 t612, .int .i64 t613, .int .i64 t614] 26 (0, 0)) (by (with_reducible repeat (first | refine blk_drewN ?_ _ | refine blk_drew ?_ | refine blk_alloc ?_ _)); exact BK616.out) hg (Kd.R_ne HO623.out BK616.out (by decide))); have n2_ := Aside0.mk (hb); have n3_ := Aside0.mk (ho); clear HO_9; clear BK616; clear HB; clear HO623; have HO_9 := n0_; have BK616 := n1_; have HB := n2_; have HO626 := n3_; clear n0_ n1_ n2_ n3_; clear ho hb hg hat) | ((with_reducible refine gate_callee (f := 26) rfl ?_); refine goesL_ (some 39) rfl rfl Try.func26 (by kernel_rfl) rfl #[.int .i64 a1, .int .i64 24] rfl (by (try simp only [List.map_toArray, List.map_cons, List.map_nil]); first | done | rfl | (simp only [List.length_drop, List.length_take]; rfl)) ?_; (with_reducible refine (payrollgen_Mod.calls a1 24 t627 _ A18.out).mono ?_); rintro e w' ⟨rfl, ⟨nd, rfl⟩⟩; refine ⟨_, rfl, ?_⟩; (try (rw [drewN_self w71]; generalize hq_ : World.drewN w71 _ = w71; have n0_ : Aside0 (Kd.R (Kd.int .u8) 5 w71 w.heap.size (fun k_ => some k_ ≠ (.slice Ao72 t617.length co72 : Value).ownBlock) v625 y624) := ⟨by rw [← hq_]; exact (by (with_reducible repeat (first | apply Kd.R_alloc | apply Kd.R_drewN | apply Kd.R_drew)); exact HO626.out)⟩; have n1_ : Aside0 (Kd.R (Kd.int .u8) 5 w71 w.heap.size (fun k_ => some k_ ≠ (v625 : Value).ownBlock) (.slice Ao72 t617.length co72) t617) := ⟨by rw [← hq_]; exact (by (with_reducible repeat (first | apply Kd.R_alloc | apply Kd.R_drewN | apply Kd.R_drew)); exact Kd.R_mono HO_9.out (fun _ hk => hk.2))⟩; have n2_ : Aside0 (w71.heap[gb616]? = some (.cells #[.int .i64 t608, .int .i64 t609, .int .i64 t610, .int .i64 t611, .int .i64 t612, .int .i64 t613, .int .i64 t614] 26 (0, 0))) := ⟨by rw [← hq_]; exact (by (with_reducible repeat (first | refine blk_drewN ?_ _ | refine blk_drew ?_ | refine blk_alloc ?_ _)); exact BK616.out)⟩; have n3_ : Aside0 (Below w.heap.size w w71) := ⟨by rw [← hq_]; exact (by repeat (first | (with_reducible first | exact HB.out | apply below_alloc | apply pw_below_drewN | apply below_drew1 | refine below_set ?_ GE616.out) | exact HB.out))⟩; clear HO626 HO_9 BK616 HB hq_; have HO626 := n0_; have HO_9 := n1_; have BK616 := n2_; have HB := n3_; clear n0_ n1_ n2_ n3_)); obtain ⟨Ao73, co73, eo73⟩ := Kd.R_slice HO626.out; subst eo73; have p628 : 0 ≤ (t627 : Int) := of_decide_eq_true (by first | (with_reducible assumption) | assumption); have q628 : t627 < (y624.length : Int) := of_decide_eq_true (by first | (with_reducible assumption) | assumption); obtain ⟨ad628, e628, hx628_0⟩ := Kd.at_int (Kd.R_reads' HO626.out).2.2 t627 p628 q628; cases e628; replace p628 := eq_true p628; replace q628 := eq_true q628; have p21 : 0 ≤ (t627 : Int) := of_decide_eq_true (by first | (with_reducible assumption) | assumption); have q21 : (t627 : Int) < ((y624.length : Int) : Int) := of_decide_eq_true (by first | (with_reducible assumption) | assumption); obtain ⟨go21, co21, eo21, gb21, gl21, cl21, HG21⟩ := Kd.R_form HO626.out (by omega); (first | cases eo21 | (injection eo21 with ea_ en_ ec_; (first | subst ea_ | (injection ea_ with ea_; subst ea_)); subst ec_; clear en_)); have GB21 := Aside0.mk gb21; have GG21 := Aside0.mk HG21; clear gb21 gl21 HG21; (first | simp only [add_plain] at hx628_0 | skip); obtain ⟨hx21_0, hf21_0⟩ := Kd.R_celln 0 HO626.out (t627 : Int) p21 q21; replace p21 := eq_true p21; replace q21 := eq_true q21; obtain ⟨hy74_, hz74_⟩ := Kd.R_celln 0 HO626.out (t627 : Int) (of_decide_eq_true (by first | (with_reducible assumption) | assumption)) (of_decide_eq_true (by first | (with_reducible assumption) | assumption)); have HP74 := Kd.R_putg HO626.out (t627 : Int) (Go.bits .xor .u8 (rd y624 t627) (Go.bits .or .u8 a2 1))) | ((with_reducible refine gate_store (t := 5) (p := 45) rfl ?_); refine store_event (t := 5) (p := 45) (v := ?vo_w75) (w1 := (w71.setCell ⟨go21, (t627 : Int).toNat, none⟩ (.int .u8 (Go.bits .xor .u8 (rd y624 t627) (Go.bits .or .u8 a2 1))))) ?hg ?ho ?hn ?hr ?_; (case ho => rfl); (case hg => rfl); (case hn => rfl); (case hr => first | (go_simp; done) | (go_simp; rfl)); intro w75 hw; have hg : w71.grownBy w75 (some go21) := (by rw [hw]; exact HP74.2); have hp_ : Kd.R (Kd.int .u8) 5 w75 w.heap.size (fun k_ => some k_ ≠ (.slice Ao72 t617.length co72 : Value).ownBlock) (.slice (some ⟨go21, 0, none⟩) y624.length co73) y629 := (by rw [hw, Ny629.out]; exact HP74.1); clear HP74; have n0_ := Aside0.mk (Kd.R_after (v := (.slice (some ⟨go21, 0, none⟩) y624.length co73)) (v1 := (.slice (some ⟨go21, 0, none⟩) y624.length co73)) (ok := (fun _ => True)) (by (with_reducible repeat (first | apply Kd.R_alloc | apply Kd.R_drewN | apply Kd.R_drew)); exact Kd.R_mono HO_9.out (fun _ hk => ⟨trivial, hk⟩)) hg (.inl rfl)); have n1_ := Aside0.mk (blk_grown (g := gb616) (o := .cells #[.int .i64 t608, .int .i64 t609, .int .i64 t610, .int .i64 t611, .int .i64 t612, .int .i64 t613, .int .i64 t614] 26 (0, 0)) (by (with_reducible repeat (first | refine blk_drewN ?_ _ | refine blk_drew ?_ | refine blk_alloc ?_ _)); exact BK616.out) hg (Kd.R_ne HO626.out BK616.out (by decide))); have n2_ := Aside0.mk (hp_); have n3_ := Aside0.mk ((by rw [hw]; exact below_set (HB.out) GB21.out : Below w.heap.size w w75)); clear HO_9; clear BK616; clear HO626; clear HB; have HO_9 := n0_; have BK616 := n1_; have HO626 := n2_; have HB := n3_; clear n0_ n1_ n2_ n3_; clear hg hw hp_) | ((with_reducible refine gate_callee (f := 24) rfl ?_); refine goesL_ (some 48) rfl rfl Try.func24 (by kernel_rfl) rfl #[.slice (some ⟨go21, 0, none⟩) y629.length co73] rfl (by (try simp only [List.map_toArray, List.map_cons, List.map_nil]); first | done | (rw [show y629.length = y624.length from (Kd.R_reads' HO626.out).1.symm] <;> rfl) | rfl | (simp only [List.length_drop, List.length_take]; rfl)) ?_; (with_reducible refine (records_Decode.calls kj6 _ _ y629 t630 t631 t632 _ ?side1 ?side2 A22.out).mono ?_); (case side1 => repeat (first | exact (Kd.R_reads' HO626.out).2.2 | (with_reducible refine Kd.C_alloc ?_ _) | (with_reducible refine Kd.C_drewN ?_ _) | (with_reducible refine Kd.C_drew ?_))); (case side2 => rw [show y629.length = y624.length from (Kd.R_reads' HO626.out).1.symm]; exact (Kd.R_reads' HO626.out).2.1); rintro e w76 ⟨v633, v635, rfl, ho0, ho1, hb⟩; refine ⟨_, rfl, ?_⟩; have n0_ := Aside0.mk (Kd.R_below (by (with_reducible repeat (first | apply Kd.R_alloc | apply Kd.R_drewN | apply Kd.R_drew)); exact HO_9.out) hb); have n1_ := Aside0.mk (Kd.R_below (by (with_reducible repeat (first | apply Kd.R_alloc | apply Kd.R_drewN | apply Kd.R_drew)); exact HO626.out) hb); have n2_ := Aside0.mk (Kd.R_lower (Kd.R_newB ho0 (g := gb616) (o := .cells #[.int .i64 t608, .int .i64 t609, .int .i64 t610, .int .i64 t611, .int .i64 t612, .int .i64 t613, .int .i64 t614] 26 (0, 0)) (by (with_reducible repeat (first | refine blk_drewN ?_ _ | refine blk_drew ?_ | refine blk_alloc ?_ _)); exact BK616.out)) (below_size (by repeat (first | (with_reducible first | exact HB.out | apply below_alloc | apply pw_below_drewN | apply below_drew1 | refine below_set ?_ GE616.out) | exact HB.out)))); have n3_ := Aside0.mk (Kd.R_lower ho1 (below_size (by repeat (first | (with_reducible first | exact HB.out | apply below_alloc | apply pw_below_drewN | apply below_drew1 | refine below_set ?_ GE616.out) | exact HB.out)))); have n4_ := Aside0.mk (blk_below (g := gb616) (o := .cells #[.int .i64 t608, .int .i64 t609, .int .i64 t610, .int .i64 t611, .int .i64 t612, .int .i64 t613, .int .i64 t614] 26 (0, 0)) (by (with_reducible repeat (first | refine blk_drewN ?_ _ | refine blk_drew ?_ | refine blk_alloc ?_ _)); exact BK616.out) hb); have n5_ := Aside0.mk (below_step (by repeat (first | (with_reducible first | exact HB.out | apply below_alloc | apply pw_below_drewN | apply below_drew1 | refine below_set ?_ GE616.out) | exact HB.out)) hb); clear HO_9; clear HO626; clear BK616; clear HB; have HO_9 := n0_; have HO626 := n1_; have HO634 := n2_; have HO636 := n3_; have BK616 := n4_; have HB := n5_; clear n0_ n1_ n2_ n3_ n4_ n5_; (try clear hb); (try clear hb2); (try clear hk); (try clear hi); (try clear ho0); (try clear ho1)) | ((with_reducible refine gate_dst (N := 53) rfl ?_); (try (refine gate_guard (by rfl) ?_; dsimp only)); refine Kd.R_lit (Kd.int .u8) _ 5 ?hg (N := 53) ?hd (xs := ([] : List Int)) (inner := []) (ok := fun _ => True) (okp := fun _ => True) ?hr ?hp (fun _ hk => hk) trivial (Below.refl _ _) (Nat.le_refl _) (by simp) ?_; (case hd => rfl); (case hg => rfl); (case hr => first | (go_simp; done) | (go_simp; rfl)); (case hp => exact (Reps.none _ _)); intro v638 w77 ho78 hb hg_ hnew_; clear hg_ hnew_; (first | rw [← Ny637.out] at ho78 | (simp only [Int.reduceToNat] at ho78; rw [← Ny637.out] at ho78)); have n0_ := Aside0.mk (Kd.R_elder' (by (with_reducible repeat (first | apply Kd.R_alloc | apply Kd.R_drewN | apply Kd.R_drew)); exact HO_9.out) (Kd.R_base ho78) hb); have n1_ := Aside0.mk (Kd.R_elder' (by (with_reducible repeat (first | apply Kd.R_alloc | apply Kd.R_drewN | apply Kd.R_drew)); exact HO626.out) (Kd.R_base ho78) hb); have n2_ := Aside0.mk (Kd.R_below (by (with_reducible repeat (first | apply Kd.R_alloc | apply Kd.R_drewN | apply Kd.R_drew)); exact HO634.out) hb); have n3_ := Aside0.mk (Kd.R_below (by (with_reducible repeat (first | apply Kd.R_alloc | apply Kd.R_drewN | apply Kd.R_drew)); exact HO636.out) hb); have n4_ := Aside0.mk (Kd.R_lower (Kd.R_new' (Kd.R_new' ho78 (Kd.R_lt (by (with_reducible repeat (first | apply Kd.R_alloc | apply Kd.R_drewN | apply Kd.R_drew)); exact HO_9.out))) (Kd.R_lt (by (with_reducible repeat (first | apply Kd.R_alloc | apply Kd.R_drewN | apply Kd.R_drew)); exact HO626.out))) (below_size (by repeat (first | (with_reducible first | exact HB.out | apply below_alloc | apply pw_below_drewN | apply below_drew1 | refine below_set ?_ GE616.out) | exact HB.out)))); have n5_ := Aside0.mk (blk_below (g := gb616) (o := .cells #[.int .i64 t608, .int .i64 t609, .int .i64 t610, .int .i64 t611, .int .i64 t612, .int .i64 t613, .int .i64 t614] 26 (0, 0)) (by (with_reducible repeat (first | refine blk_drewN ?_ _ | refine blk_drew ?_ | refine blk_alloc ?_ _)); exact BK616.out) hb); have n6_ := Aside0.mk (below_step (by repeat (first | (with_reducible first | exact HB.out | apply below_alloc | apply pw_below_drewN | apply below_drew1 | refine below_set ?_ GE616.out) | exact HB.out)) hb); clear HO_9; clear HO626; clear HO634; clear HO636; clear BK616; clear HB; have HO_9 := n0_; have HO626 := n1_; have HO634 := n2_; have HO636 := n3_; have HO639 := n4_; have BK616 := n5_; have HB := n6_; clear n0_ n1_ n2_ n3_ n4_ n5_ n6_; clear hb ho78) | ((with_reducible refine gate_builtin (b := .append) (xs := #[.tmp 53, .tmp 54]) rfl ?_); (try (refine gate_guard (by rfl) ?_; dsimp only)); at_builtin; refine Kd.R_append_rows (Kd.int .u8) (w0 := w) w.heap.size rfl (.tmp 53) (.tmp 54) 27 5 (.int .u8 0) 1 rfl Try.underlying27 info5 rfl (by decide) (by omega) v638 y637 y629 _ _ _ (fun k_ => some k_ ≠ (.slice Ao72 t617.length co72 : Value).ownBlock ∧ some k_ ≠ (.slice (some ⟨go21, 0, none⟩) y624.length co73 : Value).ownBlock) (fun _ => False) rfl rfl ?aO ?aR (fun _ _ h => h) (fun _ h => h.elim) ?aF ?aB ?aS ?aL ?_; (case aR => rw [show y624.length = y629.length from (Kd.R_reads' HO626.out).1]; repeat (first | exact (Kd.R_reads' HO626.out).2.2 | (with_reducible refine Kd.C_alloc ?_ _) | (with_reducible refine Kd.C_drewN ?_ _) | (with_reducible refine Kd.C_drew ?_))); (case aB => exact (by repeat (first | (with_reducible first | exact HB.out | apply below_alloc | apply pw_below_drewN | apply below_drew1 | refine below_set ?_ GE616.out) | exact HB.out))); (case aF => exact (fun k_ hk => ⟨Kd.fresh' (Kd.R_lt (by (with_reducible repeat (first | apply Kd.R_alloc | apply Kd.R_drewN | apply Kd.R_drew)); exact HO_9.out)) k_ hk, Kd.fresh' (Kd.R_lt (by (with_reducible repeat (first | apply Kd.R_alloc | apply Kd.R_drewN | apply Kd.R_drew)); exact HO626.out)) k_ hk⟩)); (case aO => exact (by (with_reducible repeat (first | apply Kd.R_alloc | apply Kd.R_drewN | apply Kd.R_drew)); exact Kd.R_mono HO639.out (fun _ hk => ⟨hk.1.2, hk.2⟩))); (case aS => exact (below_size (by repeat (first | (with_reducible first | exact HB.out | apply below_alloc | apply pw_below_drewN | apply below_drew1 | refine below_set ?_ GE616.out) | exact HB.out)))); (case aL => have := LMc23.out; have hlx_ := (Kd.R_reads' HO626.out).1; omega); intro v641 w79 ho hb hg hat; rw [← Ny640.out] at ho; have n0_ := Aside0.mk (Kd.R_after (ok := (fun k_ => some k_ ≠ (.slice (some ⟨go21, 0, none⟩) y624.length co73 : Value).ownBlock)) (by (with_reducible repeat (first | apply Kd.R_alloc | apply Kd.R_drewN | apply Kd.R_drew)); exact Kd.R_mono HO_9.out (fun _ hk => ⟨hk.1.2, hk.2⟩)) hg hat); have n1_ := Aside0.mk (blk_grown (g := gb616) (o := .cells #[.int .i64 t608, .int .i64 t609, .int .i64 t610, .int .i64 t611, .int .i64 t612, .int .i64 t613, .int .i64 t614] 26 (0, 0)) (by (with_reducible repeat (first | refine blk_drewN ?_ _ | refine blk_drew ?_ | refine blk_alloc ?_ _)); exact BK616.out) hg (Kd.R_ne HO639.out BK616.out (by decide))); have n2_ := Aside0.mk (Kd.R_after (ok := (fun k_ => some k_ ≠ (.slice Ao72 t617.length co72 : Value).ownBlock)) (by (with_reducible repeat (first | apply Kd.R_alloc | apply Kd.R_drewN | apply Kd.R_drew)); exact HO626.out) hg hat); have n3_ := Aside0.mk (Kd.R_over' (by (with_reducible repeat (first | apply Kd.R_alloc | apply Kd.R_drewN | apply Kd.R_drew)); exact HO634.out) (Kd.R_typed (by (with_reducible repeat (first | apply Kd.R_alloc | apply Kd.R_drewN | apply Kd.R_drew)); exact HO639.out)) (by decide) hg); have n4_ := Aside0.mk (Kd.R_over' (by (with_reducible repeat (first | apply Kd.R_alloc | apply Kd.R_drewN | apply Kd.R_drew)); exact HO636.out) (Kd.R_typed (by (with_reducible repeat (first | apply Kd.R_alloc | apply Kd.R_drewN | apply Kd.R_drew)); exact HO639.out)) (by decide) hg); have n5_ := Aside0.mk (hb); have n6_ := Aside0.mk (ho); clear HO_9; clear BK616; clear HO626; clear HO634; clear HO636; clear HB; clear HO639; have HO_9 := n0_; have BK616 := n1_; have HO626 := n2_; have HO634 := n3_; have HO636 := n4_; have HB := n5_; have HO642 := n6_; clear n0_ n1_ n2_ n3_ n4_ n5_ n6_; clear ho hb hg hat) | ((with_reducible refine gate_builtin (b := .append) (xs := #[.tmp 55, .tmp 56]) rfl ?_); (try (refine gate_guard (by rfl) ?_; dsimp only)); at_builtin; refine Kd.R_append_rows (Kd.int .u8) (w0 := w) w.heap.size rfl (.tmp 55) (.tmp 56) 27 5 (.int .u8 0) 1 rfl Try.underlying27 info5 rfl (by decide) (by omega) v641 y640 t617 _ _ _ (fun k_ => some k_ ≠ (.slice Ao72 t617.length co72 : Value).ownBlock ∧ some k_ ≠ (.slice (some ⟨go21, 0, none⟩) y624.length co73 : Value).ownBlock) (fun _ => False) rfl rfl ?aO ?aR (fun _ _ h => h) (fun _ h => h.elim) ?aF ?aB ?aS ?aL ?_; (case aR => repeat (first | exact (Kd.R_reads' HO_9.out).2.2 | (with_reducible refine Kd.C_alloc ?_ _) | (with_reducible refine Kd.C_drewN ?_ _) | (with_reducible refine Kd.C_drew ?_))); (case aB => exact (by repeat (first | (with_reducible first | exact HB.out | apply below_alloc | apply pw_below_drewN | apply below_drew1 | refine below_set ?_ GE616.out) | exact HB.out))); (case aF => exact (fun k_ hk => ⟨Kd.fresh' (Kd.R_lt (by (with_reducible repeat (first | apply Kd.R_alloc | apply Kd.R_drewN | apply Kd.R_drew)); exact HO_9.out)) k_ hk, Kd.fresh' (Kd.R_lt (by (with_reducible repeat (first | apply Kd.R_alloc | apply Kd.R_drewN | apply Kd.R_drew)); exact HO626.out)) k_ hk⟩)); (case aO => exact (by (with_reducible repeat (first | apply Kd.R_alloc | apply Kd.R_drewN | apply Kd.R_drew)); exact HO642.out)); (case aS => exact (below_size (by repeat (first | (with_reducible first | exact HB.out | apply below_alloc | apply pw_below_drewN | apply below_drew1 | refine below_set ?_ GE616.out) | exact HB.out)))); (case aL => have := LMc24.out; omega); intro v644 w80 ho hb hg hat; rw [← Ny643.out] at ho; have n0_ := Aside0.mk (Kd.R_after (ok := (fun k_ => some k_ ≠ (.slice (some ⟨go21, 0, none⟩) y624.length co73 : Value).ownBlock)) (by (with_reducible repeat (first | apply Kd.R_alloc | apply Kd.R_drewN | apply Kd.R_drew)); exact HO_9.out) hg hat); have n1_ := Aside0.mk (blk_grown (g := gb616) (o := .cells #[.int .i64 t608, .int .i64 t609, .int .i64 t610, .int .i64 t611, .int .i64 t612, .int .i64 t613, .int .i64 t614] 26 (0, 0)) (by (with_reducible repeat (first | refine blk_drewN ?_ _ | refine blk_drew ?_ | refine blk_alloc ?_ _)); exact BK616.out) hg (Kd.R_ne HO642.out BK616.out (by decide))); have n2_ := Aside0.mk (Kd.R_after (ok := (fun k_ => some k_ ≠ (.slice Ao72 t617.length co72 : Value).ownBlock)) (by (with_reducible repeat (first | apply Kd.R_alloc | apply Kd.R_drewN | apply Kd.R_drew)); exact HO626.out) hg hat); have n3_ := Aside0.mk (Kd.R_over' (by (with_reducible repeat (first | apply Kd.R_alloc | apply Kd.R_drewN | apply Kd.R_drew)); exact HO634.out) (Kd.R_typed (by (with_reducible repeat (first | apply Kd.R_alloc | apply Kd.R_drewN | apply Kd.R_drew)); exact HO642.out)) (by decide) hg); have n4_ := Aside0.mk (Kd.R_over' (by (with_reducible repeat (first | apply Kd.R_alloc | apply Kd.R_drewN | apply Kd.R_drew)); exact HO636.out) (Kd.R_typed (by (with_reducible repeat (first | apply Kd.R_alloc | apply Kd.R_drewN | apply Kd.R_drew)); exact HO642.out)) (by decide) hg); have n5_ := Aside0.mk (hb); have n6_ := Aside0.mk (ho); clear HO_9; clear BK616; clear HO626; clear HO634; clear HO636; clear HB; clear HO642; have HO_9 := n0_; have BK616 := n1_; have HO626 := n2_; have HO634 := n3_; have HO636 := n4_; have HB := n5_; have HO645 := n6_; clear n0_ n1_ n2_ n3_ n4_ n5_ n6_; clear ho hb hg hat; obtain ⟨Ao81, co81, eo81⟩ := Kd.R_slice HO645.out; subst eo81) | ((with_reducible refine gate_callee (f := 24) rfl ?_); refine goesL_ (some 58) rfl rfl Try.func24 (by kernel_rfl) rfl #[.slice Ao81 y643.length co81] rfl (by (try simp only [List.map_toArray, List.map_cons, List.map_nil]); first | done | rfl | (simp only [List.length_drop, List.length_take]; rfl)) ?_; (with_reducible refine (records_Decode.calls kj6 _ _ y643 t646 t647 t648 _ ?side1 ?side2 A25.out).mono ?_); (case side1 => repeat (first | exact (Kd.R_reads' HO645.out).2.2 | (with_reducible refine Kd.C_alloc ?_ _) | (with_reducible refine Kd.C_drewN ?_ _) | (with_reducible refine Kd.C_drew ?_))); (case side2 => exact (Kd.R_reads' HO645.out).2.1); rintro e w82 ⟨v649, v651, rfl, ho0, ho1, hb⟩; refine ⟨_, rfl, ?_⟩; have n0_ := Aside0.mk (Kd.R_below (by (with_reducible repeat (first | apply Kd.R_alloc | apply Kd.R_drewN | apply Kd.R_drew)); exact HO_9.out) hb); have n1_ := Aside0.mk (Kd.R_below (by (with_reducible repeat (first | apply Kd.R_alloc | apply Kd.R_drewN | apply Kd.R_drew)); exact HO626.out) hb); have n2_ := Aside0.mk (Kd.R_elder' (by (with_reducible repeat (first | apply Kd.R_alloc | apply Kd.R_drewN | apply Kd.R_drew)); exact HO634.out) (Kd.R_base ho0) hb); have n3_ := Aside0.mk (Kd.R_elder' (by (with_reducible repeat (first | apply Kd.R_alloc | apply Kd.R_drewN | apply Kd.R_drew)); exact HO636.out) (Kd.R_base ho1) hb); have n4_ := Aside0.mk (Kd.R_below (by (with_reducible repeat (first | apply Kd.R_alloc | apply Kd.R_drewN | apply Kd.R_drew)); exact HO645.out) hb); have n5_ := Aside0.mk (Kd.R_lower (Kd.R_newB (Kd.R_new' ho0 (Kd.R_lt (by (with_reducible repeat (first | apply Kd.R_alloc | apply Kd.R_drewN | apply Kd.R_drew)); exact HO634.out))) (g := gb616) (o := .cells #[.int .i64 t608, .int .i64 t609, .int .i64 t610, .int .i64 t611, .int .i64 t612, .int .i64 t613, .int .i64 t614] 26 (0, 0)) (by (with_reducible repeat (first | refine blk_drewN ?_ _ | refine blk_drew ?_ | refine blk_alloc ?_ _)); exact BK616.out)) (below_size (by repeat (first | (with_reducible first | exact HB.out | apply below_alloc | apply pw_below_drewN | apply below_drew1 | refine below_set ?_ GE616.out) | exact HB.out)))); have n6_ := Aside0.mk (Kd.R_lower (Kd.R_new' ho1 (Kd.R_lt (by (with_reducible repeat (first | apply Kd.R_alloc | apply Kd.R_drewN | apply Kd.R_drew)); exact HO636.out))) (below_size (by repeat (first | (with_reducible first | exact HB.out | apply below_alloc | apply pw_below_drewN | apply below_drew1 | refine below_set ?_ GE616.out) | exact HB.out)))); have n7_ := Aside0.mk (blk_below (g := gb616) (o := .cells #[.int .i64 t608, .int .i64 t609, .int .i64 t610, .int .i64 t611, .int .i64 t612, .int .i64 t613, .int .i64 t614] 26 (0, 0)) (by (with_reducible repeat (first | refine blk_drewN ?_ _ | refine blk_drew ?_ | refine blk_alloc ?_ _)); exact BK616.out) hb); have n8_ := Aside0.mk (below_step (by repeat (first | (with_reducible first | exact HB.out | apply below_alloc | apply pw_below_drewN | apply below_drew1 | refine below_set ?_ GE616.out) | exact HB.out)) hb); clear HO_9; clear HO626; clear HO634; clear HO636; clear HO645; clear BK616; clear HB; have HO_9 := n0_; have HO626 := n1_; have HO634 := n2_; have HO636 := n3_; have HO645 := n4_; have HO650 := n5_; have HO652 := n6_; have BK616 := n7_; have HB := n8_; clear n0_ n1_ n2_ n3_ n4_ n5_ n6_ n7_ n8_; (try clear hb); (try clear hb2); (try clear hk); (try clear hi); (try clear ho0); (try clear ho1); obtain ⟨Ao83, co83, eo83⟩ := Kd.R_slice HO634.out; subst eo83))
                 have n0_ := Aside0.mk (Kd.R_drew HO_9.out)
                 have n1_ := Aside0.mk (Kd.R_drew HO626.out)
                 have n2_ := Aside0.mk (Kd.R_drew HO634.out)
                 have n3_ := Aside0.mk (Kd.R_drew HO636.out)
                 have n4_ := Aside0.mk (Kd.R_drew HO645.out)
                 have n5_ := Aside0.mk (Kd.R_drew HO650.out)
                 have n6_ := Aside0.mk (Kd.R_drew HO652.out)
                 have n7_ := Aside0.mk (blk_drew BK616.out)
                 have n8_ := Aside0.mk (below_drew1 HB.out)
                 clear HO_9
                 clear HO626
                 clear HO634
                 clear HO636
                 clear HO645
                 clear HO650
                 clear HO652
                 clear BK616
                 clear HB
                 have HO_9 := n0_
                 have HO626 := n1_
                 have HO634 := n2_
                 have HO636 := n3_
                 have HO645 := n4_
                 have HO650 := n5_
                 have HO652 := n6_
                 have BK616 := n7_
                 have HB := n8_
                 clear n0_ n1_ n2_ n3_ n4_ n5_ n6_ n7_ n8_
                 obtain ⟨Ao85, co85, eo85⟩ := Kd.R_slice HO650.out
                 (first | subst eo85 | (injection eo85 with f1_ f2_ f3_; have f4_ := f1_.symm; have f5_ := f3_.symm; clear f1_ f2_ f3_; subst f4_; subst f5_))
                 have p654 : 0 ≤ (0 : Int) := (by omega)
                 have q654 : 0 < (t646.length : Int) := of_decide_eq_true (by first | (with_reducible assumption) | assumption)
                 obtain ⟨ad654, e654, hx654_0, hx654_1, hx654_2, hx654_3, hx654_4, hx654_5, hx654_6⟩ := at_T26 (Kd.R_reads' HO650.out).2.2 0 p654 q654
                 cases e654
                 have qi654 : (0 < t646.length) = True := eq_true (by omega)
                 (try rw [show ((0 : Int)).toNat = 0 from rfl] at hx654_0)
                 (try rw [show 0 * 7 = 0 from rfl] at hx654_0)
                 (try rw [Addr.add_zero'] at hx654_0)
                 (try rw [show ((0 : Int)).toNat = 0 from rfl] at hx654_1)
                 (try rw [show 0 * 7 = 0 from rfl] at hx654_1)
                 (try rw [Addr.add_zero'] at hx654_1)
                 (try rw [show ((0 : Int)).toNat = 0 from rfl] at hx654_2)
                 (try rw [show 0 * 7 = 0 from rfl] at hx654_2)
                 (try rw [Addr.add_zero'] at hx654_2)
                 (try rw [show ((0 : Int)).toNat = 0 from rfl] at hx654_3)
                 (try rw [show 0 * 7 = 0 from rfl] at hx654_3)
                 (try rw [Addr.add_zero'] at hx654_3)
                 (try rw [show ((0 : Int)).toNat = 0 from rfl] at hx654_4)
                 (try rw [show 0 * 7 = 0 from rfl] at hx654_4)
                 (try rw [Addr.add_zero'] at hx654_4)
                 (try rw [show ((0 : Int)).toNat = 0 from rfl] at hx654_5)
                 (try rw [show 0 * 7 = 0 from rfl] at hx654_5)
                 (try rw [Addr.add_zero'] at hx654_5)
                 (try rw [show ((0 : Int)).toNat = 0 from rfl] at hx654_6)
                 (try rw [show 0 * 7 = 0 from rfl] at hx654_6)
                 (try rw [Addr.add_zero'] at hx654_6)
                 replace p654 := eq_true p654
                 replace q654 := eq_true q654
                 refine start_ (n := 30) (S := fun w' => w'.cell? ⟨gb616, 0, none⟩ = some (.int .i64 t608) ∧ w'.cell? ⟨gb616, 1, none⟩ = some (.int .i64 t609) ∧ w'.cell? ⟨gb616, 2, none⟩ = some (.int .i64 t610) ∧ w'.cell? ⟨gb616, 3, none⟩ = some (.int .i64 t611) ∧ w'.cell? ⟨gb616, 4, none⟩ = some (.int .i64 t612) ∧ w'.cell? ⟨gb616, 5, none⟩ = some (.int .i64 t613) ∧ w'.cell? ⟨gb616, 6, none⟩ = some (.int .i64 t614) ∧ w'.cell? ad654 = some (.int .i64 ((rd_T26 t646 0).f0.f0)) ∧ w'.cell? ⟨ad654.block, ad654.off + 1, none⟩ = some (.int .i64 ((rd_T26 t646 0).f0.f1)) ∧ w'.cell? ⟨ad654.block, ad654.off + 2, none⟩ = some (.int .i64 ((rd_T26 t646 0).f1)) ∧ w'.cell? ⟨ad654.block, ad654.off + 3, none⟩ = some (.int .i64 ((rd_T26 t646 0).f2)) ∧ w'.cell? ⟨ad654.block, ad654.off + 4, none⟩ = some (.int .i64 ((rd_T26 t646 0).f3)) ∧ w'.cell? ⟨ad654.block, ad654.off + 5, none⟩ = some (.int .i64 ((rd_T26 t646 0).f4.f0)) ∧ w'.cell? ⟨ad654.block, ad654.off + 6, none⟩ = some (.int .i64 ((rd_T26 t646 0).f4.f1))) (ds := []) #[false, false, false, false, false, false, false, false, false, false, false, false, false, false, false, false, false, false, false, false, false, false, false, false, false, false, false, false, false, false] (by kernel_rfl) rfl rfl ⟨(blk_cell BK616.out 0).trans rfl, (blk_cell BK616.out 1).trans rfl, (blk_cell BK616.out 2).trans rfl, (blk_cell BK616.out 3).trans rfl, (blk_cell BK616.out 4).trans rfl, (blk_cell BK616.out 5).trans rfl, (blk_cell BK616.out 6).trans rfl, hx654_0, hx654_1, hx654_2, hx654_3, hx654_4, hx654_5, hx654_6⟩ (fun hHeld => ?_); refine with_tabW payrolllaw7_RecordsDamage.tab12 payrolllaw7_RecordsDamage.bits12 (fun HT_ HW_ => ?_)
                 generalize w82.drew = w84 at HO_9 HO626 HO634 HO636 HO645 HO650 HO652 BK616 HB hx654_0 hx654_1 hx654_2 hx654_3 hx654_4 hx654_5 hx654_6 hHeld ⊢
                 refine pure_ (i := 0) (N := some 73) (v := ?_) (a' := ?_) #[true, false, false, false, false, false, false, false, false, false, false, false, false, false, false, false, false, false, false, false, false, false, false, false, false, false, false, false, false, false] rfl rfl (any_of HT_.out (by kernel_rfl)) (fun _ _ _ h => h) (Or.inl ⟨by rfl, ?_⟩) ?_ ?_
                 rotate_left
                 ·
                  intro w'
                  go_simp
                  with_reducible rfl
                 rotate_left
                 ·
                  simp only [Act.put, List.setIfInBounds_toArray, List.set_cons_zero, List.set_cons_succ, i64_w, i32_w]
                  rfl
                 refine pure_ (i := 1) (N := some 74) (v := ?_) (a' := ?_) #[true, true, false, false, false, false, false, false, false, false, false, false, false, false, false, false, false, false, false, false, false, false, false, false, false, false, false, false, false, false] rfl rfl (any_of HT_.out (by kernel_rfl)) (fun _ _ _ h => h) (Or.inl ⟨by rfl, ?_⟩) ?_ ?_
                 rotate_left
                 ·
                  intro w'
                  go_simp
                  with_reducible rfl
                 rotate_left
                 ·
                  simp only [Act.put, List.setIfInBounds_toArray, List.set_cons_zero, List.set_cons_succ, i64_w, i32_w]
                  rfl
                 refine pure_ (i := 2) (N := some 75) (v := ?_) (a' := ?_) #[true, true, true, false, false, false, false, false, false, false, false, false, false, false, false, false, false, false, false, false, false, false, false, false, false, false, false, false, false, false] rfl rfl (any_of HT_.out (by kernel_rfl)) (fun _ _ _ h => h) (Or.inl ⟨by rfl, ?_⟩) ?_ ?_
                 rotate_left
                 ·
                  intro w'
                  go_simp
                  with_reducible rfl
                 rotate_left
                 ·
                  simp only [Act.put, List.setIfInBounds_toArray, List.set_cons_zero, List.set_cons_succ, i64_w, i32_w]
                  rfl
                 refine pure_ (i := 3) (N := some 76) (v := ?_) (a' := ?_) #[true, true, true, true, false, false, false, false, false, false, false, false, false, false, false, false, false, false, false, false, false, false, false, false, false, false, false, false, false, false] rfl rfl (any_of HT_.out (by kernel_rfl)) (fun _ _ _ h => h) (Or.inl ⟨by rfl, ?_⟩) ?_ ?_
                 rotate_left
                 ·
                  intro w'
                  go_simp
                  with_reducible rfl
                 rotate_left
                 ·
                  simp only [Act.put, List.setIfInBounds_toArray, List.set_cons_zero, List.set_cons_succ, i64_w, i32_w]
                  rfl
                 refine pure_ (i := 4) (N := some 77) (v := ?_) (a' := ?_) #[true, true, true, true, true, false, false, false, false, false, false, false, false, false, false, false, false, false, false, false, false, false, false, false, false, false, false, false, false, false] rfl rfl (any_of HT_.out (by kernel_rfl)) (fun _ _ _ h => h) (Or.inl ⟨by rfl, ?_⟩) ?_ ?_
                 rotate_left
                 ·
                  intro w'
                  go_simp
                  with_reducible rfl
                 rotate_left
                 ·
                  simp only [Act.put, List.setIfInBounds_toArray, List.set_cons_zero, List.set_cons_succ, i64_w, i32_w]
                  rfl
                 refine pure_ (i := 5) (N := some 78) (v := ?_) (a' := ?_) #[true, true, true, true, true, true, false, false, false, false, false, false, false, false, false, false, false, false, false, false, false, false, false, false, false, false, false, false, false, false] rfl rfl (any_of HT_.out (by kernel_rfl)) (fun _ _ _ h => h) (Or.inl ⟨by rfl, ?_⟩) ?_ ?_
                 rotate_left
                 ·
                  intro w'
                  go_simp
                  with_reducible rfl
                 rotate_left
                 ·
                  simp only [Act.put, List.setIfInBounds_toArray, List.set_cons_zero, List.set_cons_succ, i64_w, i32_w]
                  rfl
                 refine pure_ (i := 6) (N := some 79) (v := ?_) (a' := ?_) #[true, true, true, true, true, true, true, false, false, false, false, false, false, false, false, false, false, false, false, false, false, false, false, false, false, false, false, false, false, false] rfl rfl (any_of HT_.out (by kernel_rfl)) (fun _ _ _ h => h) (Or.inl ⟨by rfl, ?_⟩) ?_ ?_
                 rotate_left
                 ·
                  intro w'
                  go_simp
                  with_reducible rfl
                 rotate_left
                 ·
                  simp only [Act.put, List.setIfInBounds_toArray, List.set_cons_zero, List.set_cons_succ, i64_w, i32_w]
                  rfl
                 refine pure_ (i := 7) (N := some 80) (v := ?_) (a' := ?_) #[true, true, true, true, true, true, true, true, false, false, false, false, false, false, false, false, false, false, false, false, false, false, false, false, false, false, false, false, false, false] rfl rfl (any_of HT_.out (by kernel_rfl)) (fun _ _ _ h => h) (Or.inl ⟨by rfl, ?_⟩) ?_ ?_
                 rotate_left
                 ·
                  intro w'
                  go_simp
                  with_reducible rfl
                 rotate_left
                 ·
                  simp only [Act.put, List.setIfInBounds_toArray, List.set_cons_zero, List.set_cons_succ, i64_w, i32_w]
                  rfl
                 refine pure_ (i := 8) (N := some 81) (v := ?_) (a' := ?_) #[true, true, true, true, true, true, true, true, true, false, false, false, false, false, false, false, false, false, false, false, false, false, false, false, false, false, false, false, false, false] rfl rfl (any_of HT_.out (by kernel_rfl)) (fun _ _ _ h => h) (Or.inl ⟨by rfl, ?_⟩) ?_ ?_
                 rotate_left
                 ·
                  intro w'
                  go_simp
                  with_reducible rfl
                 rotate_left
                 ·
                  simp only [Act.put, List.setIfInBounds_toArray, List.set_cons_zero, List.set_cons_succ, i64_w, i32_w]
                  rfl
                 refine pure_ (i := 9) (N := some 82) (v := ?_) (a' := ?_) #[true, true, true, true, true, true, true, true, true, true, false, false, false, false, false, false, false, false, false, false, false, false, false, false, false, false, false, false, false, false] rfl rfl (any_of HT_.out (by kernel_rfl)) (fun _ _ _ h => h) (Or.inl ⟨by rfl, ?_⟩) ?_ ?_
                 rotate_left
                 ·
                  intro w'
                  go_simp
                  with_reducible rfl
                 rotate_left
                 ·
                  simp only [Act.put, List.setIfInBounds_toArray, List.set_cons_zero, List.set_cons_succ, i64_w, i32_w]
                  rfl
                 refine take_ (i := 10) (N := some 83) (v := ?_) (a' := ?_) #[true, true, true, true, true, true, true, true, true, true, true, false, false, false, false, false, false, false, false, false, false, false, false, false, false, false, false, false, false, false] rfl rfl (take_ofW HT_.out HW_.out (by kernel_rfl)) (fun _ _ _ h => h) (Or.inl ⟨by rfl, ?_⟩) hHeld ?_ ?_
                 rotate_left
                 ·
                  rintro w' ⟨s0, s1, s2, s3, s4, s5, s6, s7, s8, s9, s10, s11, s12, s13⟩
                  go_simp
                  with_reducible rfl
                 rotate_left
                 ·
                  simp only [Act.put, List.setIfInBounds_toArray, List.set_cons_zero, List.set_cons_succ, i64_w, i32_w]
                  rfl
                 refine take_ (i := 11) (N := some 84) (v := ?_) (a' := ?_) #[true, true, true, true, true, true, true, true, true, true, true, true, false, false, false, false, false, false, false, false, false, false, false, false, false, false, false, false, false, false] rfl rfl (take_ofW HT_.out HW_.out (by kernel_rfl)) (fun _ _ _ h => h) (Or.inl ⟨by rfl, ?_⟩) hHeld ?_ ?_
                 rotate_left
                 ·
                  rintro w' ⟨s0, s1, s2, s3, s4, s5, s6, s7, s8, s9, s10, s11, s12, s13⟩
                  go_simp
                  with_reducible rfl
                 rotate_left
                 ·
                  simp only [Act.put, List.setIfInBounds_toArray, List.set_cons_zero, List.set_cons_succ, i64_w, i32_w]
                  rfl
                 refine pure_ (i := 12) (N := some 85) (v := ?_) (a' := ?_) #[true, true, true, true, true, true, true, true, true, true, true, true, true, false, false, false, false, false, false, false, false, false, false, false, false, false, false, false, false, false] rfl rfl (any_of HT_.out (by kernel_rfl)) (fun _ _ _ h => h) (Or.inl ⟨by rfl, ?_⟩) ?_ ?_
                 rotate_left
                 ·
                  intro w'
                  go_simp
                  with_reducible rfl
                 rotate_left
                 ·
                  simp only [Act.put, List.setIfInBounds_toArray, List.set_cons_zero, List.set_cons_succ, i64_w, i32_w]
                  rfl
                 refine pure_ (i := 13) (N := some 86) (v := ?_) (a' := ?_) #[true, true, true, true, true, true, true, true, true, true, true, true, true, true, false, false, false, false, false, false, false, false, false, false, false, false, false, false, false, false] rfl rfl (any_of HT_.out (by kernel_rfl)) (fun _ _ _ h => h) (Or.inl ⟨by rfl, ?_⟩) ?_ ?_
                 rotate_left
                 ·
                  intro w'
                  go_simp
                  with_reducible rfl
                 rotate_left
                 ·
                  simp only [Act.put, List.setIfInBounds_toArray, List.set_cons_zero, List.set_cons_succ, i64_w, i32_w]
                  rfl
                 refine pure_ (i := 14) (N := some 87) (v := ?_) (a' := ?_) #[true, true, true, true, true, true, true, true, true, true, true, true, true, true, true, false, false, false, false, false, false, false, false, false, false, false, false, false, false, false] rfl rfl (any_of HT_.out (by kernel_rfl)) (fun _ _ _ h => h) (Or.inl ⟨by rfl, ?_⟩) ?_ ?_
                 rotate_left
                 ·
                  intro w'
                  go_simp
                  with_reducible rfl
                 rotate_left
                 ·
                  simp only [Act.put, List.setIfInBounds_toArray, List.set_cons_zero, List.set_cons_succ, i64_w, i32_w]
                  rfl
                 refine pure_ (i := 15) (N := some 88) (v := ?_) (a' := ?_) #[true, true, true, true, true, true, true, true, true, true, true, true, true, true, true, true, false, false, false, false, false, false, false, false, false, false, false, false, false, false] rfl rfl (any_of HT_.out (by kernel_rfl)) (fun _ _ _ h => h) (Or.inl ⟨by rfl, ?_⟩) ?_ ?_
                 rotate_left
                 ·
                  intro w'
                  go_simp
                  with_reducible rfl
                 rotate_left
                 ·
                  simp only [Act.put, List.setIfInBounds_toArray, List.set_cons_zero, List.set_cons_succ, i64_w, i32_w]
                  rfl
                 refine pure_ (i := 16) (N := some 89) (v := ?_) (a' := ?_) #[true, true, true, true, true, true, true, true, true, true, true, true, true, true, true, true, true, false, false, false, false, false, false, false, false, false, false, false, false, false] rfl rfl (any_of HT_.out (by kernel_rfl)) (fun _ _ _ h => h) (Or.inl ⟨by rfl, ?_⟩) ?_ ?_
                 rotate_left
                 ·
                  intro w'
                  go_simp
                  with_reducible rfl
                 rotate_left
                 ·
                  simp only [Act.put, List.setIfInBounds_toArray, List.set_cons_zero, List.set_cons_succ, i64_w, i32_w]
                  rfl
                 refine pure_ (i := 17) (N := some 90) (v := ?_) (a' := ?_) #[true, true, true, true, true, true, true, true, true, true, true, true, true, true, true, true, true, true, false, false, false, false, false, false, false, false, false, false, false, false] rfl rfl (any_of HT_.out (by kernel_rfl)) (fun _ _ _ h => h) (Or.inl ⟨by rfl, ?_⟩) ?_ ?_
                 rotate_left
                 ·
                  intro w'
                  go_simp
                  with_reducible rfl
                 rotate_left
                 ·
                  simp only [Act.put, List.setIfInBounds_toArray, List.set_cons_zero, List.set_cons_succ, i64_w, i32_w]
                  rfl
                 refine pure_ (i := 18) (N := some 91) (v := ?_) (a' := ?_) #[true, true, true, true, true, true, true, true, true, true, true, true, true, true, true, true, true, true, true, false, false, false, false, false, false, false, false, false, false, false] rfl rfl (any_of HT_.out (by kernel_rfl)) (fun _ _ _ h => h) (Or.inl ⟨by rfl, ?_⟩) ?_ ?_
                 rotate_left
                 ·
                  intro w'
                  go_simp
                  with_reducible rfl
                 rotate_left
                 ·
                  simp only [Act.put, List.setIfInBounds_toArray, List.set_cons_zero, List.set_cons_succ, i64_w, i32_w]
                  rfl
                 refine pure_ (i := 19) (N := some 92) (v := undef) (a' := ?_) #[true, true, true, true, true, true, true, true, true, true, true, true, true, true, true, true, true, true, true, true, false, false, false, false, false, false, false, false, false, false] rfl rfl (any_of HT_.out (by kernel_rfl)) (fun _ _ _ h => h) (Or.inr ⟨by rfl, rfl⟩) ?_ ?_
                 rotate_left
                 ·
                  simp only [Act.put, List.setIfInBounds_toArray, List.set_cons_zero, List.set_cons_succ, i64_w, i32_w]
                  rfl
                 refine pure_ (i := 20) (N := some 93) (v := undef) (a' := ?_) #[true, true, true, true, true, true, true, true, true, true, true, true, true, true, true, true, true, true, true, true, true, false, false, false, false, false, false, false, false, false] rfl rfl (any_of HT_.out (by kernel_rfl)) (fun _ _ _ h => h) (Or.inr ⟨by rfl, rfl⟩) ?_ ?_
                 rotate_left
                 ·
                  simp only [Act.put, List.setIfInBounds_toArray, List.set_cons_zero, List.set_cons_succ, i64_w, i32_w]
                  rfl
                 refine pure_ (i := 21) (N := some 94) (v := undef) (a' := ?_) #[true, true, true, true, true, true, true, true, true, true, true, true, true, true, true, true, true, true, true, true, true, true, false, false, false, false, false, false, false, false] rfl rfl (any_of HT_.out (by kernel_rfl)) (fun _ _ _ h => h) (Or.inr ⟨by rfl, rfl⟩) ?_ ?_
                 rotate_left
                 ·
                  simp only [Act.put, List.setIfInBounds_toArray, List.set_cons_zero, List.set_cons_succ, i64_w, i32_w]
                  rfl
                 refine pure_ (i := 22) (N := some 95) (v := undef) (a' := ?_) #[true, true, true, true, true, true, true, true, true, true, true, true, true, true, true, true, true, true, true, true, true, true, true, false, false, false, false, false, false, false] rfl rfl (any_of HT_.out (by kernel_rfl)) (fun _ _ _ h => h) (Or.inr ⟨by rfl, rfl⟩) ?_ ?_
                 rotate_left
                 ·
                  simp only [Act.put, List.setIfInBounds_toArray, List.set_cons_zero, List.set_cons_succ, i64_w, i32_w]
                  rfl
                 refine pure_ (i := 23) (N := some 96) (v := undef) (a' := ?_) #[true, true, true, true, true, true, true, true, true, true, true, true, true, true, true, true, true, true, true, true, true, true, true, true, false, false, false, false, false, false] rfl rfl (any_of HT_.out (by kernel_rfl)) (fun _ _ _ h => h) (Or.inr ⟨by rfl, rfl⟩) ?_ ?_
                 rotate_left
                 ·
                  simp only [Act.put, List.setIfInBounds_toArray, List.set_cons_zero, List.set_cons_succ, i64_w, i32_w]
                  rfl
                 refine pure_ (i := 24) (N := some 97) (v := ?_) (a' := ?_) #[true, true, true, true, true, true, true, true, true, true, true, true, true, true, true, true, true, true, true, true, true, true, true, true, true, false, false, false, false, false] rfl rfl (any_of HT_.out (by kernel_rfl)) (fun _ _ _ h => h) (Or.inl ⟨by rfl, ?_⟩) ?_ ?_
                 rotate_left
                 ·
                  intro w'
                  go_simp
                  with_reducible rfl
                 rotate_left
                 ·
                  simp only [Act.put, List.setIfInBounds_toArray, List.set_cons_zero, List.set_cons_succ, i64_w, i32_w]
                  rfl
                 refine pure_ (i := 25) (N := some 98) (v := ?_) (a' := ?_) #[true, true, true, true, true, true, true, true, true, true, true, true, true, true, true, true, true, true, true, true, true, true, true, true, true, true, false, false, false, false] rfl rfl (any_of HT_.out (by kernel_rfl)) (fun _ _ _ h => h) (Or.inl ⟨by rfl, ?_⟩) ?_ ?_
                 rotate_left
                 ·
                  intro w'
                  go_simp
                  with_reducible rfl
                 rotate_left
                 ·
                  simp only [Act.put, List.setIfInBounds_toArray, List.set_cons_zero, List.set_cons_succ, i64_w, i32_w]
                  rfl
                 refine pure_ (i := 26) (N := some 99) (v := ?_) (a' := ?_) #[true, true, true, true, true, true, true, true, true, true, true, true, true, true, true, true, true, true, true, true, true, true, true, true, true, true, true, false, false, false] rfl rfl (any_of HT_.out (by kernel_rfl)) (fun _ _ _ h => h) (Or.inl ⟨by rfl, ?_⟩) ?_ ?_
                 rotate_left
                 ·
                  intro w'
                  go_simp
                  with_reducible rfl
                 rotate_left
                 ·
                  simp only [Act.put, List.setIfInBounds_toArray, List.set_cons_zero, List.set_cons_succ, i64_w, i32_w]
                  rfl
                 refine one_ (i := 27) (N := some 100) #[true, true, true, true, true, true, true, true, true, true, true, true, true, true, true, true, true, true, true, true, true, true, true, true, true, true, true, true, false, false] rfl rfl (one_of HT_.out (by kernel_rfl)) (by decide) (fun K hK => ?_)
                 refine goes_ Try.func18 (by kernel_rfl) rfl #[] (by rfl) rfl rfl (by (try simp only [List.map_toArray, List.map_cons, List.map_nil]); first | done | rfl | (simp only [List.length_drop, List.length_take]; rfl)) ?_
                 with_reducible refine (payrolllaw7_sane.calls kj6  t655 _ A68.out).mono ?_
                 rintro e w86 ⟨rfl, hb⟩
                 have HS7_ := (hb.cell (World.block_lt_of_cell? _ _ (hHeld.2.2.2.2.2.2.2.1))).trans (hHeld.2.2.2.2.2.2.2.1)
                 have HS8_ := (hb.cell (World.block_lt_of_cell? _ _ (hHeld.2.2.2.2.2.2.2.2.1))).trans (hHeld.2.2.2.2.2.2.2.2.1)
                 have HS9_ := (hb.cell (World.block_lt_of_cell? _ _ (hHeld.2.2.2.2.2.2.2.2.2.1))).trans (hHeld.2.2.2.2.2.2.2.2.2.1)
                 have HS10_ := (hb.cell (World.block_lt_of_cell? _ _ (hHeld.2.2.2.2.2.2.2.2.2.2.1))).trans (hHeld.2.2.2.2.2.2.2.2.2.2.1)
                 have HS11_ := (hb.cell (World.block_lt_of_cell? _ _ (hHeld.2.2.2.2.2.2.2.2.2.2.2.1))).trans (hHeld.2.2.2.2.2.2.2.2.2.2.2.1)
                 have HS12_ := (hb.cell (World.block_lt_of_cell? _ _ (hHeld.2.2.2.2.2.2.2.2.2.2.2.2.1))).trans (hHeld.2.2.2.2.2.2.2.2.2.2.2.2.1)
                 have HS13_ := (hb.cell (World.block_lt_of_cell? _ _ (hHeld.2.2.2.2.2.2.2.2.2.2.2.2.2))).trans (hHeld.2.2.2.2.2.2.2.2.2.2.2.2.2)
                 refine ⟨_, rfl, ?_⟩
                 have n0_ := Aside0.mk (Kd.R_below (by (with_reducible repeat (first | apply Kd.R_alloc | apply Kd.R_drewN | apply Kd.R_drew)); exact HO_9.out) hb)
                 have n1_ := Aside0.mk (Kd.R_below (by (with_reducible repeat (first | apply Kd.R_alloc | apply Kd.R_drewN | apply Kd.R_drew)); exact HO626.out) hb)
                 have n2_ := Aside0.mk (Kd.R_below (by (with_reducible repeat (first | apply Kd.R_alloc | apply Kd.R_drewN | apply Kd.R_drew)); exact HO634.out) hb)
                 have n3_ := Aside0.mk (Kd.R_below (by (with_reducible repeat (first | apply Kd.R_alloc | apply Kd.R_drewN | apply Kd.R_drew)); exact HO636.out) hb)
                 have n4_ := Aside0.mk (Kd.R_below (by (with_reducible repeat (first | apply Kd.R_alloc | apply Kd.R_drewN | apply Kd.R_drew)); exact HO645.out) hb)
                 have n5_ := Aside0.mk (Kd.R_below (by (with_reducible repeat (first | apply Kd.R_alloc | apply Kd.R_drewN | apply Kd.R_drew)); exact HO650.out) hb)
                 have n6_ := Aside0.mk (Kd.R_below (by (with_reducible repeat (first | apply Kd.R_alloc | apply Kd.R_drewN | apply Kd.R_drew)); exact HO652.out) hb)
                 have n7_ := Aside0.mk (blk_below (g := gb616) (o := .cells #[.int .i64 t608, .int .i64 t609, .int .i64 t610, .int .i64 t611, .int .i64 t612, .int .i64 t613, .int .i64 t614] 26 (0, 0)) (by (with_reducible repeat (first | refine blk_drewN ?_ _ | refine blk_drew ?_ | refine blk_alloc ?_ _)); exact BK616.out) hb)
                 have n8_ := Aside0.mk (below_step (by repeat (first | (with_reducible first | exact HB.out | apply below_alloc | apply pw_below_drewN | apply below_drew1 | refine below_set ?_ GE616.out) | exact HB.out)) hb)
                 clear HO_9
                 clear HO626
                 clear HO634
                 clear HO636
                 clear HO645
                 clear HO650
                 clear HO652
                 clear BK616
                 clear HB
                 have HO_9 := n0_
                 have HO626 := n1_
                 have HO634 := n2_
                 have HO636 := n3_
                 have HO645 := n4_
                 have HO650 := n5_
                 have HO652 := n6_
                 have BK616 := n7_
                 have HB := n8_
                 clear n0_ n1_ n2_ n3_ n4_ n5_ n6_ n7_ n8_
                 (try clear hb)
                 (try clear hb2)
                 (try clear hk)
                 (try clear hi)
                 refine hK.out _ _ ⟨(blk_cell BK616.out 0).trans rfl, (blk_cell BK616.out 1).trans rfl, (blk_cell BK616.out 2).trans rfl, (blk_cell BK616.out 3).trans rfl, (blk_cell BK616.out 4).trans rfl, (blk_cell BK616.out 5).trans rfl, (blk_cell BK616.out 6).trans rfl, HS7_, HS8_, HS9_, HS10_, HS11_, HS12_, HS13_⟩ (fun hHeld => ?_)
                 clear hK K
                 refine norm_ (a' := ?_) ?_ ?_
                 rotate_left
                 ·
                  show Act.put _ (some 100) _ = _
                  simp only [Act.put, List.setIfInBounds_toArray, List.set_cons_zero, List.set_cons_succ, i64_w, i32_w]
                  rfl
                 refine pure_ (i := 28) (N := some 101) (v := ?_) (a' := ?_) #[true, true, true, true, true, true, true, true, true, true, true, true, true, true, true, true, true, true, true, true, true, true, true, true, true, true, true, true, true, false] rfl rfl (any_of HT_.out (by kernel_rfl)) (fun _ _ _ h => h) (Or.inl ⟨by rfl, ?_⟩) ?_ ?_
                 rotate_left
                 ·
                  intro w'
                  go_simp
                  with_reducible rfl
                 rotate_left
                 ·
                  simp only [Act.put, List.setIfInBounds_toArray, List.set_cons_zero, List.set_cons_succ, i64_w, i32_w]
                  rfl
                 refine pure_ (i := 29) (N := some 6) (v := ?_) (a' := ?_) #[true, true, true, true, true, true, true, true, true, true, true, true, true, true, true, true, true, true, true, true, true, true, true, true, true, true, true, true, true, true] rfl rfl (any_of HT_.out (by kernel_rfl)) (fun _ _ _ h => h) (Or.inl ⟨by rfl, ?_⟩) ?_ ?_
                 rotate_left
                 ·
                  intro w'
                  go_simp
                  with_reducible rfl
                 rotate_left
                 ·
                  simp only [Act.put, List.setIfInBounds_toArray, List.set_cons_zero, List.set_cons_succ, i64_w, i32_w]
                  rfl
                 refine done_ (done_of HT_.out (by kernel_rfl)) ?_
                 try go_wp2
                 go_ret
                 exact ⟨by first | rfl | (simp [errW_none, errW_some] <;> rfl) | (simp [*, errW_none, errW_some] <;> rfl), by repeat (first | (with_reducible first | exact HB.out | apply below_alloc | apply pw_below_drewN | apply below_drew1 | refine below_set ?_ GE616.out) | exact HB.out)⟩
                ·
                 rw [if_neg c67] at H
                 have c67b0 : (t648 == 48) = false := beq_eq_false_iff_ne.mpr c67
                 have c67b1 : (t648 != 48) = true := bne_iff_ne.mpr c67
                 by_cases c87 : ((!(((rd_T26 t646 0).f0.f0) == t608) || (!(((rd_T26 t646 0).f0.f1) == t609))) || (!(((rd_T26 t646 0).f1) == t610) || (!(((rd_T26 t646 0).f2) == t611) || (!(((rd_T26 t646 0).f3) == t612) || ((!(((rd_T26 t646 0).f4.f0) == t613) || (!(((rd_T26 t646 0).f4.f1) == t614)))))))) = true
                 ·
                  rw [if_pos c87] at H
                  exfalso
                  have c66x := c66b0
                  simp only [Bool.and_eq_true, beq_iff_eq] at c66x
                  obtain ⟨⟨d1, d2⟩, d3, d4, d5, d6, d7⟩ := c66x
                  simp [d1, d2, d3, d4, d5, d6, d7] at c87
                 ·
                  rw [if_neg c87] at H
                  have c87b0 : ((!(((rd_T26 t646 0).f0.f0) == t608) || (!(((rd_T26 t646 0).f0.f1) == t609))) || (!(((rd_T26 t646 0).f1) == t610) || (!(((rd_T26 t646 0).f2) == t611) || (!(((rd_T26 t646 0).f3) == t612) || ((!(((rd_T26 t646 0).f4.f0) == t613) || (!(((rd_T26 t646 0).f4.f1) == t614)))))))) = false := by simpa using c87
                  clear c87
                  exact absurd (Option.some.inj H) (by rw [HT.out]; decide)
               ·
                rw [if_neg c66] at H
                have c66b0 : ((((rd_T26 t646 0).f0.f0) == t608 && (((rd_T26 t646 0).f0.f1) == t609)) && (((rd_T26 t646 0).f1) == t610 && (((rd_T26 t646 0).f2) == t611 && (((rd_T26 t646 0).f3) == t612 && ((((rd_T26 t646 0).f4.f0) == t613 && (((rd_T26 t646 0).f4.f1) == t614))))))) = false := by simpa using c66
                clear c66
                by_cases c124 : ((!(((rd_T26 t646 0).f0.f0) == t608) || (!(((rd_T26 t646 0).f0.f1) == t609))) || (!(((rd_T26 t646 0).f1) == t610) || (!(((rd_T26 t646 0).f2) == t611) || (!(((rd_T26 t646 0).f3) == t612) || ((!(((rd_T26 t646 0).f4.f0) == t613) || (!(((rd_T26 t646 0).f4.f1) == t614)))))))) = true
                ·
                 rw [if_pos c124] at H
                 have c124b0 : ((!(((rd_T26 t646 0).f0.f0) == t608) || (!(((rd_T26 t646 0).f0.f1) == t609))) || (!(((rd_T26 t646 0).f1) == t610) || (!(((rd_T26 t646 0).f2) == t611) || (!(((rd_T26 t646 0).f3) == t612) || ((!(((rd_T26 t646 0).f4.f0) == t613) || (!(((rd_T26 t646 0).f4.f1) == t614)))))))) = true := c124
                 clear c124
                 replace H := Option.bind_eq_some_iff.mp H
                 obtain ⟨t659, A1250, H⟩ := H
                 replace H : (some t659) = some r := H
                 have A125 := Aside0.mk A1250
                 clear A1250
                 obtain rfl := Option.some.inj H
                 try go_wp2_with (first | ((with_reducible refine gate_dst (N := 34) rfl ?_); (try (refine gate_guard (by rfl) ?_; dsimp only)); refine Kd.R_lit (Kd.int .u8) _ 5 ?hg (N := 34) ?hd (xs := ([] : List Int)) (inner := []) (ok := fun _ => True) (okp := fun _ => True) ?hr ?hp (fun _ hk => hk) trivial (Below.refl _ _) (Nat.le_refl _) (by simp) ?_; (case hd => rfl); (case hg => rfl); (case hr => first | (go_simp; done) | (go_simp; rfl)); (case hp => exact (Reps.none _ _)); intro v622 w126 ho127 hb hg_ hnew_; clear hg_ hnew_; (first | rw [← Ny621.out] at ho127 | (simp only [Int.reduceToNat] at ho127; rw [← Ny621.out] at ho127)); have n0_ := Aside0.mk (Kd.R_elder' (by (with_reducible repeat (first | apply Kd.R_alloc | apply Kd.R_drewN | apply Kd.R_drew)); exact HO_9.out) (Kd.R_base ho127) hb); have n1_ := Aside0.mk (Kd.R_lower (Kd.R_new' ho127 (Kd.R_lt (by (with_reducible repeat (first | apply Kd.R_alloc | apply Kd.R_drewN | apply Kd.R_drew)); exact HO_9.out))) (below_size (by repeat (first | (with_reducible first | exact HB.out | apply below_alloc | apply pw_below_drewN | apply below_drew1 | refine below_set ?_ GE616.out) | exact HB.out)))); have n2_ := Aside0.mk (blk_below (g := gb616) (o := .cells #[.int .i64 t608, .int .i64 t609, .int .i64 t610, .int .i64 t611, .int .i64 t612, .int .i64 t613, .int .i64 t614] 26 (0, 0)) (by (with_reducible repeat (first | refine blk_drewN ?_ _ | refine blk_drew ?_ | refine blk_alloc ?_ _)); exact BK616.out) hb); have n3_ := Aside0.mk (below_step (by repeat (first | (with_reducible first | exact HB.out | apply below_alloc | apply pw_below_drewN | apply below_drew1 | refine below_set ?_ GE616.out) | exact HB.out)) hb); clear HO_9; clear BK616; clear HB; have HO_9 := n0_; have HO623 := n1_; have BK616 := n2_; have HB := n3_; clear n0_ n1_ n2_ n3_; clear hb ho127; obtain ⟨Ao129, co129, eo129⟩ := Kd.R_slice HO_9.out; subst eo129) | ((with_reducible refine gate_builtin (b := .append) (xs := #[.tmp 34, .tmp 35]) rfl ?_); (try (refine gate_guard (by rfl) ?_; dsimp only)); at_builtin; refine Kd.R_append_rows (Kd.int .u8) (w0 := w) w.heap.size rfl (.tmp 34) (.tmp 35) 27 5 (.int .u8 0) 1 rfl Try.underlying27 info5 rfl (by decide) (by omega) v622 y621 t617 _ _ _ (fun k_ => some k_ ≠ (.slice Ao129 t617.length co129 : Value).ownBlock) (fun _ => False) rfl rfl ?aO ?aR (fun _ _ h => h) (fun _ h => h.elim) ?aF ?aB ?aS ?aL ?_; (case aR => repeat (first | exact (Kd.R_reads' HO_9.out).2.2 | (with_reducible refine Kd.C_alloc ?_ _) | (with_reducible refine Kd.C_drewN ?_ _) | (with_reducible refine Kd.C_drew ?_))); (case aB => exact (by repeat (first | (with_reducible first | exact HB.out | apply below_alloc | apply pw_below_drewN | apply below_drew1 | refine below_set ?_ GE616.out) | exact HB.out))); (case aF => exact (fun k_ hk => Kd.fresh' (Kd.R_lt (by (with_reducible repeat (first | apply Kd.R_alloc | apply Kd.R_drewN | apply Kd.R_drew)); exact HO_9.out)) k_ hk)); (case aO => exact (by (with_reducible repeat (first | apply Kd.R_alloc | apply Kd.R_drewN | apply Kd.R_drew)); exact Kd.R_mono HO623.out (fun _ hk => hk.2))); (case aS => exact (below_size (by repeat (first | (with_reducible first | exact HB.out | apply below_alloc | apply pw_below_drewN | apply below_drew1 | refine below_set ?_ GE616.out) | exact HB.out)))); (case aL => have := LMc17.out; omega); intro v625 w128 ho hb hg hat; rw [← Ny624.out] at ho; have n0_ := Aside0.mk (Kd.R_after (ok := (fun _ => True)) (by (with_reducible repeat (first | apply Kd.R_alloc | apply Kd.R_drewN | apply Kd.R_drew)); exact HO_9.out) hg hat); have n1_ := Aside0.mk (blk_grown (g := gb616) (o := .cells #[.int .i64 t608, .int .i64 t609, .int .i64 t610, .int .i64 t611, .int .i64 t612, .int .i64 t613, .int .i64 t614] 26 (0, 0)) (by (with_reducible repeat (first | refine blk_drewN ?_ _ | refine blk_drew ?_ | refine blk_alloc ?_ _)); exact BK616.out) hg (Kd.R_ne HO623.out BK616.out (by decide))); have n2_ := Aside0.mk (hb); have n3_ := Aside0.mk (ho); clear HO_9; clear BK616; clear HB; clear HO623; have HO_9 := n0_; have BK616 := n1_; have HB := n2_; have HO626 := n3_; clear n0_ n1_ n2_ n3_; clear ho hb hg hat) | ((with_reducible refine gate_callee (f := 26) rfl ?_); refine goesL_ (some 39) rfl rfl Try.func26 (by kernel_rfl) rfl #[.int .i64 a1, .int .i64 24] rfl (by (try simp only [List.map_toArray, List.map_cons, List.map_nil]); first | done | rfl | (simp only [List.length_drop, List.length_take]; rfl)) ?_; (with_reducible refine (payrollgen_Mod.calls a1 24 t627 _ A18.out).mono ?_); rintro e w' ⟨rfl, ⟨nd, rfl⟩⟩; refine ⟨_, rfl, ?_⟩; (try (rw [drewN_self w128]; generalize hq_ : World.drewN w128 _ = w128; have n0_ : Aside0 (Kd.R (Kd.int .u8) 5 w128 w.heap.size (fun k_ => some k_ ≠ (.slice Ao129 t617.length co129 : Value).ownBlock) v625 y624) := ⟨by rw [← hq_]; exact (by (with_reducible repeat (first | apply Kd.R_alloc | apply Kd.R_drewN | apply Kd.R_drew)); exact HO626.out)⟩; have n1_ : Aside0 (Kd.R (Kd.int .u8) 5 w128 w.heap.size (fun k_ => some k_ ≠ (v625 : Value).ownBlock) (.slice Ao129 t617.length co129) t617) := ⟨by rw [← hq_]; exact (by (with_reducible repeat (first | apply Kd.R_alloc | apply Kd.R_drewN | apply Kd.R_drew)); exact Kd.R_mono HO_9.out (fun _ hk => hk.2))⟩; have n2_ : Aside0 (w128.heap[gb616]? = some (.cells #[.int .i64 t608, .int .i64 t609, .int .i64 t610, .int .i64 t611, .int .i64 t612, .int .i64 t613, .int .i64 t614] 26 (0, 0))) := ⟨by rw [← hq_]; exact (by (with_reducible repeat (first | refine blk_drewN ?_ _ | refine blk_drew ?_ | refine blk_alloc ?_ _)); exact BK616.out)⟩; have n3_ : Aside0 (Below w.heap.size w w128) := ⟨by rw [← hq_]; exact (by repeat (first | (with_reducible first | exact HB.out | apply below_alloc | apply pw_below_drewN | apply below_drew1 | refine below_set ?_ GE616.out) | exact HB.out))⟩; clear HO626 HO_9 BK616 HB hq_; have HO626 := n0_; have HO_9 := n1_; have BK616 := n2_; have HB := n3_; clear n0_ n1_ n2_ n3_)); obtain ⟨Ao130, co130, eo130⟩ := Kd.R_slice HO626.out; subst eo130; have p628 : 0 ≤ (t627 : Int) := of_decide_eq_true (by first | (with_reducible assumption) | assumption); have q628 : t627 < (y624.length : Int) := of_decide_eq_true (by first | (with_reducible assumption) | assumption); obtain ⟨ad628, e628, hx628_0⟩ := Kd.at_int (Kd.R_reads' HO626.out).2.2 t627 p628 q628; cases e628; replace p628 := eq_true p628; replace q628 := eq_true q628; have p21 : 0 ≤ (t627 : Int) := of_decide_eq_true (by first | (with_reducible assumption) | assumption); have q21 : (t627 : Int) < ((y624.length : Int) : Int) := of_decide_eq_true (by first | (with_reducible assumption) | assumption); obtain ⟨go21, co21, eo21, gb21, gl21, cl21, HG21⟩ := Kd.R_form HO626.out (by omega); (first | cases eo21 | (injection eo21 with ea_ en_ ec_; (first | subst ea_ | (injection ea_ with ea_; subst ea_)); subst ec_; clear en_)); have GB21 := Aside0.mk gb21; have GG21 := Aside0.mk HG21; clear gb21 gl21 HG21; (first | simp only [add_plain] at hx628_0 | skip); obtain ⟨hx21_0, hf21_0⟩ := Kd.R_celln 0 HO626.out (t627 : Int) p21 q21; replace p21 := eq_true p21; replace q21 := eq_true q21; obtain ⟨hy131_, hz131_⟩ := Kd.R_celln 0 HO626.out (t627 : Int) (of_decide_eq_true (by first | (with_reducible assumption) | assumption)) (of_decide_eq_true (by first | (with_reducible assumption) | assumption)); have HP131 := Kd.R_putg HO626.out (t627 : Int) (Go.bits .xor .u8 (rd y624 t627) (Go.bits .or .u8 a2 1))) | ((with_reducible refine gate_store (t := 5) (p := 45) rfl ?_); refine store_event (t := 5) (p := 45) (v := ?vo_w132) (w1 := (w128.setCell ⟨go21, (t627 : Int).toNat, none⟩ (.int .u8 (Go.bits .xor .u8 (rd y624 t627) (Go.bits .or .u8 a2 1))))) ?hg ?ho ?hn ?hr ?_; (case ho => rfl); (case hg => rfl); (case hn => rfl); (case hr => first | (go_simp; done) | (go_simp; rfl)); intro w132 hw; have hg : w128.grownBy w132 (some go21) := (by rw [hw]; exact HP131.2); have hp_ : Kd.R (Kd.int .u8) 5 w132 w.heap.size (fun k_ => some k_ ≠ (.slice Ao129 t617.length co129 : Value).ownBlock) (.slice (some ⟨go21, 0, none⟩) y624.length co130) y629 := (by rw [hw, Ny629.out]; exact HP131.1); clear HP131; have n0_ := Aside0.mk (Kd.R_after (v := (.slice (some ⟨go21, 0, none⟩) y624.length co130)) (v1 := (.slice (some ⟨go21, 0, none⟩) y624.length co130)) (ok := (fun _ => True)) (by (with_reducible repeat (first | apply Kd.R_alloc | apply Kd.R_drewN | apply Kd.R_drew)); exact Kd.R_mono HO_9.out (fun _ hk => ⟨trivial, hk⟩)) hg (.inl rfl)); have n1_ := Aside0.mk (blk_grown (g := gb616) (o := .cells #[.int .i64 t608, .int .i64 t609, .int .i64 t610, .int .i64 t611, .int .i64 t612, .int .i64 t613, .int .i64 t614] 26 (0, 0)) (by (with_reducible repeat (first | refine blk_drewN ?_ _ | refine blk_drew ?_ | refine blk_alloc ?_ _)); exact BK616.out) hg (Kd.R_ne HO626.out BK616.out (by decide))); have n2_ := Aside0.mk (hp_); have n3_ := Aside0.mk ((by rw [hw]; exact below_set (HB.out) GB21.out : Below w.heap.size w w132)); clear HO_9; clear BK616; clear HO626; clear HB; have HO_9 := n0_; have BK616 := n1_; have HO626 := n2_; have HB := n3_; clear n0_ n1_ n2_ n3_; clear hg hw hp_) | ((with_reducible refine gate_callee (f := 24) rfl ?_); refine goesL_ (some 48) rfl rfl Try.func24 (by kernel_rfl) rfl #[.slice (some ⟨go21, 0, none⟩) y629.length co130] rfl (by (try simp only [List.map_toArray, List.map_cons, List.map_nil]); first | done | (rw [show y629.length = y624.length from (Kd.R_reads' HO626.out).1.symm] <;> rfl) | rfl | (simp only [List.length_drop, List.length_take]; rfl)) ?_; (with_reducible refine (records_Decode.calls kj6 _ _ y629 t630 t631 t632 _ ?side1 ?side2 A22.out).mono ?_); (case side1 => repeat (first | exact (Kd.R_reads' HO626.out).2.2 | (with_reducible refine Kd.C_alloc ?_ _) | (with_reducible refine Kd.C_drewN ?_ _) | (with_reducible refine Kd.C_drew ?_))); (case side2 => rw [show y629.length = y624.length from (Kd.R_reads' HO626.out).1.symm]; exact (Kd.R_reads' HO626.out).2.1); rintro e w133 ⟨v633, v635, rfl, ho0, ho1, hb⟩; refine ⟨_, rfl, ?_⟩; have n0_ := Aside0.mk (Kd.R_below (by (with_reducible repeat (first | apply Kd.R_alloc | apply Kd.R_drewN | apply Kd.R_drew)); exact HO_9.out) hb); have n1_ := Aside0.mk (Kd.R_below (by (with_reducible repeat (first | apply Kd.R_alloc | apply Kd.R_drewN | apply Kd.R_drew)); exact HO626.out) hb); have n2_ := Aside0.mk (Kd.R_lower (Kd.R_newB ho0 (g := gb616) (o := .cells #[.int .i64 t608, .int .i64 t609, .int .i64 t610, .int .i64 t611, .int .i64 t612, .int .i64 t613, .int .i64 t614] 26 (0, 0)) (by (with_reducible repeat (first | refine blk_drewN ?_ _ | refine blk_drew ?_ | refine blk_alloc ?_ _)); exact BK616.out)) (below_size (by repeat (first | (with_reducible first | exact HB.out | apply below_alloc | apply pw_below_drewN | apply below_drew1 | refine below_set ?_ GE616.out) | exact HB.out)))); have n3_ := Aside0.mk (Kd.R_lower ho1 (below_size (by repeat (first | (with_reducible first | exact HB.out | apply below_alloc | apply pw_below_drewN | apply below_drew1 | refine below_set ?_ GE616.out) | exact HB.out)))); have n4_ := Aside0.mk (blk_below (g := gb616) (o := .cells #[.int .i64 t608, .int .i64 t609, .int .i64 t610, .int .i64 t611, .int .i64 t612, .int .i64 t613, .int .i64 t614] 26 (0, 0)) (by (with_reducible repeat (first | refine blk_drewN ?_ _ | refine blk_drew ?_ | refine blk_alloc ?_ _)); exact BK616.out) hb); have n5_ := Aside0.mk (below_step (by repeat (first | (with_reducible first | exact HB.out | apply below_alloc | apply pw_below_drewN | apply below_drew1 | refine below_set ?_ GE616.out) | exact HB.out)) hb); clear HO_9; clear HO626; clear BK616; clear HB; have HO_9 := n0_; have HO626 := n1_; have HO634 := n2_; have HO636 := n3_; have BK616 := n4_; have HB := n5_; clear n0_ n1_ n2_ n3_ n4_ n5_; (try clear hb); (try clear hb2); (try clear hk); (try clear hi); (try clear ho0); (try clear ho1)) | ((with_reducible refine gate_dst (N := 53) rfl ?_); (try (refine gate_guard (by rfl) ?_; dsimp only)); refine Kd.R_lit (Kd.int .u8) _ 5 ?hg (N := 53) ?hd (xs := ([] : List Int)) (inner := []) (ok := fun _ => True) (okp := fun _ => True) ?hr ?hp (fun _ hk => hk) trivial (Below.refl _ _) (Nat.le_refl _) (by simp) ?_; (case hd => rfl); (case hg => rfl); (case hr => first | (go_simp; done) | (go_simp; rfl)); (case hp => exact (Reps.none _ _)); intro v638 w134 ho135 hb hg_ hnew_; clear hg_ hnew_; (first | rw [← Ny637.out] at ho135 | (simp only [Int.reduceToNat] at ho135; rw [← Ny637.out] at ho135)); have n0_ := Aside0.mk (Kd.R_elder' (by (with_reducible repeat (first | apply Kd.R_alloc | apply Kd.R_drewN | apply Kd.R_drew)); exact HO_9.out) (Kd.R_base ho135) hb); have n1_ := Aside0.mk (Kd.R_elder' (by (with_reducible repeat (first | apply Kd.R_alloc | apply Kd.R_drewN | apply Kd.R_drew)); exact HO626.out) (Kd.R_base ho135) hb); have n2_ := Aside0.mk (Kd.R_below (by (with_reducible repeat (first | apply Kd.R_alloc | apply Kd.R_drewN | apply Kd.R_drew)); exact HO634.out) hb); have n3_ := Aside0.mk (Kd.R_below (by (with_reducible repeat (first | apply Kd.R_alloc | apply Kd.R_drewN | apply Kd.R_drew)); exact HO636.out) hb); have n4_ := Aside0.mk (Kd.R_lower (Kd.R_new' (Kd.R_new' ho135 (Kd.R_lt (by (with_reducible repeat (first | apply Kd.R_alloc | apply Kd.R_drewN | apply Kd.R_drew)); exact HO_9.out))) (Kd.R_lt (by (with_reducible repeat (first | apply Kd.R_alloc | apply Kd.R_drewN | apply Kd.R_drew)); exact HO626.out))) (below_size (by repeat (first | (with_reducible first | exact HB.out | apply below_alloc | apply pw_below_drewN | apply below_drew1 | refine below_set ?_ GE616.out) | exact HB.out)))); have n5_ := Aside0.mk (blk_below (g := gb616) (o := .cells #[.int .i64 t608, .int .i64 t609, .int .i64 t610, .int .i64 t611, .int .i64 t612, .int .i64 t613, .int .i64 t614] 26 (0, 0)) (by (with_reducible repeat (first | refine blk_drewN ?_ _ | refine blk_drew ?_ | refine blk_alloc ?_ _)); exact BK616.out) hb); have n6_ := Aside0.mk (below_step (by repeat (first | (with_reducible first | exact HB.out | apply below_alloc | apply pw_below_drewN | apply below_drew1 | refine below_set ?_ GE616.out) | exact HB.out)) hb); clear HO_9; clear HO626; clear HO634; clear HO636; clear BK616; clear HB; have HO_9 := n0_; have HO626 := n1_; have HO634 := n2_; have HO636 := n3_; have HO639 := n4_; have BK616 := n5_; have HB := n6_; clear n0_ n1_ n2_ n3_ n4_ n5_ n6_; clear hb ho135) | ((with_reducible refine gate_builtin (b := .append) (xs := #[.tmp 53, .tmp 54]) rfl ?_); (try (refine gate_guard (by rfl) ?_; dsimp only)); at_builtin; refine Kd.R_append_rows (Kd.int .u8) (w0 := w) w.heap.size rfl (.tmp 53) (.tmp 54) 27 5 (.int .u8 0) 1 rfl Try.underlying27 info5 rfl (by decide) (by omega) v638 y637 y629 _ _ _ (fun k_ => some k_ ≠ (.slice Ao129 t617.length co129 : Value).ownBlock ∧ some k_ ≠ (.slice (some ⟨go21, 0, none⟩) y624.length co130 : Value).ownBlock) (fun _ => False) rfl rfl ?aO ?aR (fun _ _ h => h) (fun _ h => h.elim) ?aF ?aB ?aS ?aL ?_; (case aR => rw [show y624.length = y629.length from (Kd.R_reads' HO626.out).1]; repeat (first | exact (Kd.R_reads' HO626.out).2.2 | (with_reducible refine Kd.C_alloc ?_ _) | (with_reducible refine Kd.C_drewN ?_ _) | (with_reducible refine Kd.C_drew ?_))); (case aB => exact (by repeat (first | (with_reducible first | exact HB.out | apply below_alloc | apply pw_below_drewN | apply below_drew1 | refine below_set ?_ GE616.out) | exact HB.out))); (case aF => exact (fun k_ hk => ⟨Kd.fresh' (Kd.R_lt (by (with_reducible repeat (first | apply Kd.R_alloc | apply Kd.R_drewN | apply Kd.R_drew)); exact HO_9.out)) k_ hk, Kd.fresh' (Kd.R_lt (by (with_reducible repeat (first | apply Kd.R_alloc | apply Kd.R_drewN | apply Kd.R_drew)); exact HO626.out)) k_ hk⟩)); (case aO => exact (by (with_reducible repeat (first | apply Kd.R_alloc | apply Kd.R_drewN | apply Kd.R_drew)); exact Kd.R_mono HO639.out (fun _ hk => ⟨hk.1.2, hk.2⟩))); (case aS => exact (below_size (by repeat (first | (with_reducible first | exact HB.out | apply below_alloc | apply pw_below_drewN | apply below_drew1 | refine below_set ?_ GE616.out) | exact HB.out)))); (case aL => have := LMc23.out; have hlx_ := (Kd.R_reads' HO626.out).1; omega); intro v641 w136 ho hb hg hat; rw [← Ny640.out] at ho; have n0_ := Aside0.mk (Kd.R_after (ok := (fun k_ => some k_ ≠ (.slice (some ⟨go21, 0, none⟩) y624.length co130 : Value).ownBlock)) (by (with_reducible repeat (first | apply Kd.R_alloc | apply Kd.R_drewN | apply Kd.R_drew)); exact Kd.R_mono HO_9.out (fun _ hk => ⟨hk.1.2, hk.2⟩)) hg hat); have n1_ := Aside0.mk (blk_grown (g := gb616) (o := .cells #[.int .i64 t608, .int .i64 t609, .int .i64 t610, .int .i64 t611, .int .i64 t612, .int .i64 t613, .int .i64 t614] 26 (0, 0)) (by (with_reducible repeat (first | refine blk_drewN ?_ _ | refine blk_drew ?_ | refine blk_alloc ?_ _)); exact BK616.out) hg (Kd.R_ne HO639.out BK616.out (by decide))); have n2_ := Aside0.mk (Kd.R_after (ok := (fun k_ => some k_ ≠ (.slice Ao129 t617.length co129 : Value).ownBlock)) (by (with_reducible repeat (first | apply Kd.R_alloc | apply Kd.R_drewN | apply Kd.R_drew)); exact HO626.out) hg hat); have n3_ := Aside0.mk (Kd.R_over' (by (with_reducible repeat (first | apply Kd.R_alloc | apply Kd.R_drewN | apply Kd.R_drew)); exact HO634.out) (Kd.R_typed (by (with_reducible repeat (first | apply Kd.R_alloc | apply Kd.R_drewN | apply Kd.R_drew)); exact HO639.out)) (by decide) hg); have n4_ := Aside0.mk (Kd.R_over' (by (with_reducible repeat (first | apply Kd.R_alloc | apply Kd.R_drewN | apply Kd.R_drew)); exact HO636.out) (Kd.R_typed (by (with_reducible repeat (first | apply Kd.R_alloc | apply Kd.R_drewN | apply Kd.R_drew)); exact HO639.out)) (by decide) hg); have n5_ := Aside0.mk (hb); have n6_ := Aside0.mk (ho); clear HO_9; clear BK616; clear HO626; clear HO634; clear HO636; clear HB; clear HO639; have HO_9 := n0_; have BK616 := n1_; have HO626 := n2_; have HO634 := n3_; have HO636 := n4_; have HB := n5_; have HO642 := n6_; clear n0_ n1_ n2_ n3_ n4_ n5_ n6_; clear ho hb hg hat) | ((with_reducible refine gate_builtin (b := .append) (xs := #[.tmp 55, .tmp 56]) rfl ?_); (try (refine gate_guard (by rfl) ?_; dsimp only)); at_builtin; refine Kd.R_append_rows (Kd.int .u8) (w0 := w) w.heap.size rfl (.tmp 55) (.tmp 56) 27 5 (.int .u8 0) 1 rfl Try.underlying27 info5 rfl (by decide) (by omega) v641 y640 t617 _ _ _ (fun k_ => some k_ ≠ (.slice Ao129 t617.length co129 : Value).ownBlock ∧ some k_ ≠ (.slice (some ⟨go21, 0, none⟩) y624.length co130 : Value).ownBlock) (fun _ => False) rfl rfl ?aO ?aR (fun _ _ h => h) (fun _ h => h.elim) ?aF ?aB ?aS ?aL ?_; (case aR => repeat (first | exact (Kd.R_reads' HO_9.out).2.2 | (with_reducible refine Kd.C_alloc ?_ _) | (with_reducible refine Kd.C_drewN ?_ _) | (with_reducible refine Kd.C_drew ?_))); (case aB => exact (by repeat (first | (with_reducible first | exact HB.out | apply below_alloc | apply pw_below_drewN | apply below_drew1 | refine below_set ?_ GE616.out) | exact HB.out))); (case aF => exact (fun k_ hk => ⟨Kd.fresh' (Kd.R_lt (by (with_reducible repeat (first | apply Kd.R_alloc | apply Kd.R_drewN | apply Kd.R_drew)); exact HO_9.out)) k_ hk, Kd.fresh' (Kd.R_lt (by (with_reducible repeat (first | apply Kd.R_alloc | apply Kd.R_drewN | apply Kd.R_drew)); exact HO626.out)) k_ hk⟩)); (case aO => exact (by (with_reducible repeat (first | apply Kd.R_alloc | apply Kd.R_drewN | apply Kd.R_drew)); exact HO642.out)); (case aS => exact (below_size (by repeat (first | (with_reducible first | exact HB.out | apply below_alloc | apply pw_below_drewN | apply below_drew1 | refine below_set ?_ GE616.out) | exact HB.out)))); (case aL => have := LMc24.out; omega); intro v644 w137 ho hb hg hat; rw [← Ny643.out] at ho; have n0_ := Aside0.mk (Kd.R_after (ok := (fun k_ => some k_ ≠ (.slice (some ⟨go21, 0, none⟩) y624.length co130 : Value).ownBlock)) (by (with_reducible repeat (first | apply Kd.R_alloc | apply Kd.R_drewN | apply Kd.R_drew)); exact HO_9.out) hg hat); have n1_ := Aside0.mk (blk_grown (g := gb616) (o := .cells #[.int .i64 t608, .int .i64 t609, .int .i64 t610, .int .i64 t611, .int .i64 t612, .int .i64 t613, .int .i64 t614] 26 (0, 0)) (by (with_reducible repeat (first | refine blk_drewN ?_ _ | refine blk_drew ?_ | refine blk_alloc ?_ _)); exact BK616.out) hg (Kd.R_ne HO642.out BK616.out (by decide))); have n2_ := Aside0.mk (Kd.R_after (ok := (fun k_ => some k_ ≠ (.slice Ao129 t617.length co129 : Value).ownBlock)) (by (with_reducible repeat (first | apply Kd.R_alloc | apply Kd.R_drewN | apply Kd.R_drew)); exact HO626.out) hg hat); have n3_ := Aside0.mk (Kd.R_over' (by (with_reducible repeat (first | apply Kd.R_alloc | apply Kd.R_drewN | apply Kd.R_drew)); exact HO634.out) (Kd.R_typed (by (with_reducible repeat (first | apply Kd.R_alloc | apply Kd.R_drewN | apply Kd.R_drew)); exact HO642.out)) (by decide) hg); have n4_ := Aside0.mk (Kd.R_over' (by (with_reducible repeat (first | apply Kd.R_alloc | apply Kd.R_drewN | apply Kd.R_drew)); exact HO636.out) (Kd.R_typed (by (with_reducible repeat (first | apply Kd.R_alloc | apply Kd.R_drewN | apply Kd.R_drew)); exact HO642.out)) (by decide) hg); have n5_ := Aside0.mk (hb); have n6_ := Aside0.mk (ho); clear HO_9; clear BK616; clear HO626; clear HO634; clear HO636; clear HB; clear HO642; have HO_9 := n0_; have BK616 := n1_; have HO626 := n2_; have HO634 := n3_; have HO636 := n4_; have HB := n5_; have HO645 := n6_; clear n0_ n1_ n2_ n3_ n4_ n5_ n6_; clear ho hb hg hat; obtain ⟨Ao138, co138, eo138⟩ := Kd.R_slice HO645.out; subst eo138) | ((with_reducible refine gate_callee (f := 24) rfl ?_); refine goesL_ (some 58) rfl rfl Try.func24 (by kernel_rfl) rfl #[.slice Ao138 y643.length co138] rfl (by (try simp only [List.map_toArray, List.map_cons, List.map_nil]); first | done | rfl | (simp only [List.length_drop, List.length_take]; rfl)) ?_; (with_reducible refine (records_Decode.calls kj6 _ _ y643 t646 t647 t648 _ ?side1 ?side2 A25.out).mono ?_); (case side1 => repeat (first | exact (Kd.R_reads' HO645.out).2.2 | (with_reducible refine Kd.C_alloc ?_ _) | (with_reducible refine Kd.C_drewN ?_ _) | (with_reducible refine Kd.C_drew ?_))); (case side2 => exact (Kd.R_reads' HO645.out).2.1); rintro e w139 ⟨v649, v651, rfl, ho0, ho1, hb⟩; refine ⟨_, rfl, ?_⟩; have n0_ := Aside0.mk (Kd.R_below (by (with_reducible repeat (first | apply Kd.R_alloc | apply Kd.R_drewN | apply Kd.R_drew)); exact HO_9.out) hb); have n1_ := Aside0.mk (Kd.R_below (by (with_reducible repeat (first | apply Kd.R_alloc | apply Kd.R_drewN | apply Kd.R_drew)); exact HO626.out) hb); have n2_ := Aside0.mk (Kd.R_elder' (by (with_reducible repeat (first | apply Kd.R_alloc | apply Kd.R_drewN | apply Kd.R_drew)); exact HO634.out) (Kd.R_base ho0) hb); have n3_ := Aside0.mk (Kd.R_elder' (by (with_reducible repeat (first | apply Kd.R_alloc | apply Kd.R_drewN | apply Kd.R_drew)); exact HO636.out) (Kd.R_base ho1) hb); have n4_ := Aside0.mk (Kd.R_below (by (with_reducible repeat (first | apply Kd.R_alloc | apply Kd.R_drewN | apply Kd.R_drew)); exact HO645.out) hb); have n5_ := Aside0.mk (Kd.R_lower (Kd.R_newB (Kd.R_new' ho0 (Kd.R_lt (by (with_reducible repeat (first | apply Kd.R_alloc | apply Kd.R_drewN | apply Kd.R_drew)); exact HO634.out))) (g := gb616) (o := .cells #[.int .i64 t608, .int .i64 t609, .int .i64 t610, .int .i64 t611, .int .i64 t612, .int .i64 t613, .int .i64 t614] 26 (0, 0)) (by (with_reducible repeat (first | refine blk_drewN ?_ _ | refine blk_drew ?_ | refine blk_alloc ?_ _)); exact BK616.out)) (below_size (by repeat (first | (with_reducible first | exact HB.out | apply below_alloc | apply pw_below_drewN | apply below_drew1 | refine below_set ?_ GE616.out) | exact HB.out)))); have n6_ := Aside0.mk (Kd.R_lower (Kd.R_new' ho1 (Kd.R_lt (by (with_reducible repeat (first | apply Kd.R_alloc | apply Kd.R_drewN | apply Kd.R_drew)); exact HO636.out))) (below_size (by repeat (first | (with_reducible first | exact HB.out | apply below_alloc | apply pw_below_drewN | apply below_drew1 | refine below_set ?_ GE616.out) | exact HB.out)))); have n7_ := Aside0.mk (blk_below (g := gb616) (o := .cells #[.int .i64 t608, .int .i64 t609, .int .i64 t610, .int .i64 t611, .int .i64 t612, .int .i64 t613, .int .i64 t614] 26 (0, 0)) (by (with_reducible repeat (first | refine blk_drewN ?_ _ | refine blk_drew ?_ | refine blk_alloc ?_ _)); exact BK616.out) hb); have n8_ := Aside0.mk (below_step (by repeat (first | (with_reducible first | exact HB.out | apply below_alloc | apply pw_below_drewN | apply below_drew1 | refine below_set ?_ GE616.out) | exact HB.out)) hb); clear HO_9; clear HO626; clear HO634; clear HO636; clear HO645; clear BK616; clear HB; have HO_9 := n0_; have HO626 := n1_; have HO634 := n2_; have HO636 := n3_; have HO645 := n4_; have HO650 := n5_; have HO652 := n6_; have BK616 := n7_; have HB := n8_; clear n0_ n1_ n2_ n3_ n4_ n5_ n6_ n7_ n8_; (try clear hb); (try clear hb2); (try clear hk); (try clear hi); (try clear ho0); (try clear ho1); obtain ⟨Ao140, co140, eo140⟩ := Kd.R_slice HO634.out; subst eo140))
                 have n0_ := Aside0.mk (Kd.R_drew HO_9.out)
                 have n1_ := Aside0.mk (Kd.R_drew HO626.out)
                 have n2_ := Aside0.mk (Kd.R_drew HO634.out)
                 have n3_ := Aside0.mk (Kd.R_drew HO636.out)
                 have n4_ := Aside0.mk (Kd.R_drew HO645.out)
                 have n5_ := Aside0.mk (Kd.R_drew HO650.out)
                 have n6_ := Aside0.mk (Kd.R_drew HO652.out)
                 have n7_ := Aside0.mk (blk_drew BK616.out)
                 have n8_ := Aside0.mk (below_drew1 HB.out)
                 clear HO_9
                 clear HO626
                 clear HO634
                 clear HO636
                 clear HO645
                 clear HO650
                 clear HO652
                 clear BK616
                 clear HB
                 have HO_9 := n0_
                 have HO626 := n1_
                 have HO634 := n2_
                 have HO636 := n3_
                 have HO645 := n4_
                 have HO650 := n5_
                 have HO652 := n6_
                 have BK616 := n7_
                 have HB := n8_
                 clear n0_ n1_ n2_ n3_ n4_ n5_ n6_ n7_ n8_
                 obtain ⟨Ao142, co142, eo142⟩ := Kd.R_slice HO650.out
                 (first | subst eo142 | (injection eo142 with f1_ f2_ f3_; have f4_ := f1_.symm; have f5_ := f3_.symm; clear f1_ f2_ f3_; subst f4_; subst f5_))
                 have p654 : 0 ≤ (0 : Int) := (by omega)
                 have q654 : 0 < (t646.length : Int) := of_decide_eq_true (by first | (with_reducible assumption) | assumption)
                 obtain ⟨ad654, e654, hx654_0, hx654_1, hx654_2, hx654_3, hx654_4, hx654_5, hx654_6⟩ := at_T26 (Kd.R_reads' HO650.out).2.2 0 p654 q654
                 cases e654
                 have qi654 : (0 < t646.length) = True := eq_true (by omega)
                 (try rw [show ((0 : Int)).toNat = 0 from rfl] at hx654_0)
                 (try rw [show 0 * 7 = 0 from rfl] at hx654_0)
                 (try rw [Addr.add_zero'] at hx654_0)
                 (try rw [show ((0 : Int)).toNat = 0 from rfl] at hx654_1)
                 (try rw [show 0 * 7 = 0 from rfl] at hx654_1)
                 (try rw [Addr.add_zero'] at hx654_1)
                 (try rw [show ((0 : Int)).toNat = 0 from rfl] at hx654_2)
                 (try rw [show 0 * 7 = 0 from rfl] at hx654_2)
                 (try rw [Addr.add_zero'] at hx654_2)
                 (try rw [show ((0 : Int)).toNat = 0 from rfl] at hx654_3)
                 (try rw [show 0 * 7 = 0 from rfl] at hx654_3)
                 (try rw [Addr.add_zero'] at hx654_3)
                 (try rw [show ((0 : Int)).toNat = 0 from rfl] at hx654_4)
                 (try rw [show 0 * 7 = 0 from rfl] at hx654_4)
                 (try rw [Addr.add_zero'] at hx654_4)
                 (try rw [show ((0 : Int)).toNat = 0 from rfl] at hx654_5)
                 (try rw [show 0 * 7 = 0 from rfl] at hx654_5)
                 (try rw [Addr.add_zero'] at hx654_5)
                 (try rw [show ((0 : Int)).toNat = 0 from rfl] at hx654_6)
                 (try rw [show 0 * 7 = 0 from rfl] at hx654_6)
                 (try rw [Addr.add_zero'] at hx654_6)
                 replace p654 := eq_true p654
                 replace q654 := eq_true q654
                 have p658 : 0 ≤ (0 : Int) := (by omega)
                 have q658 : 0 < (t646.length : Int) := of_decide_eq_true (by first | (with_reducible assumption) | assumption)
                 obtain ⟨ad658, e658, hx658_0, hx658_1, hx658_2, hx658_3, hx658_4, hx658_5, hx658_6⟩ := at_T26 (Kd.R_reads' HO650.out).2.2 0 p658 q658
                 obtain rfl : ad654 = ad658 := (by injection e658)
                 have qi658 : (0 < t646.length) = True := eq_true (by omega)
                 (try rw [show ((0 : Int)).toNat = 0 from rfl] at hx658_0)
                 (try rw [show 0 * 7 = 0 from rfl] at hx658_0)
                 (try rw [Addr.add_zero'] at hx658_0)
                 (try rw [show ((0 : Int)).toNat = 0 from rfl] at hx658_1)
                 (try rw [show 0 * 7 = 0 from rfl] at hx658_1)
                 (try rw [Addr.add_zero'] at hx658_1)
                 (try rw [show ((0 : Int)).toNat = 0 from rfl] at hx658_2)
                 (try rw [show 0 * 7 = 0 from rfl] at hx658_2)
                 (try rw [Addr.add_zero'] at hx658_2)
                 (try rw [show ((0 : Int)).toNat = 0 from rfl] at hx658_3)
                 (try rw [show 0 * 7 = 0 from rfl] at hx658_3)
                 (try rw [Addr.add_zero'] at hx658_3)
                 (try rw [show ((0 : Int)).toNat = 0 from rfl] at hx658_4)
                 (try rw [show 0 * 7 = 0 from rfl] at hx658_4)
                 (try rw [Addr.add_zero'] at hx658_4)
                 (try rw [show ((0 : Int)).toNat = 0 from rfl] at hx658_5)
                 (try rw [show 0 * 7 = 0 from rfl] at hx658_5)
                 (try rw [Addr.add_zero'] at hx658_5)
                 (try rw [show ((0 : Int)).toNat = 0 from rfl] at hx658_6)
                 (try rw [show 0 * 7 = 0 from rfl] at hx658_6)
                 (try rw [Addr.add_zero'] at hx658_6)
                 replace p658 := eq_true p658
                 replace q658 := eq_true q658
                 refine start_ (n := 30) (S := fun w' => w'.cell? ⟨gb616, 0, none⟩ = some (.int .i64 t608) ∧ w'.cell? ⟨gb616, 1, none⟩ = some (.int .i64 t609) ∧ w'.cell? ⟨gb616, 2, none⟩ = some (.int .i64 t610) ∧ w'.cell? ⟨gb616, 3, none⟩ = some (.int .i64 t611) ∧ w'.cell? ⟨gb616, 4, none⟩ = some (.int .i64 t612) ∧ w'.cell? ⟨gb616, 5, none⟩ = some (.int .i64 t613) ∧ w'.cell? ⟨gb616, 6, none⟩ = some (.int .i64 t614) ∧ w'.cell? ad654 = some (.int .i64 ((rd_T26 t646 0).f0.f0)) ∧ w'.cell? ⟨ad654.block, ad654.off + 1, none⟩ = some (.int .i64 ((rd_T26 t646 0).f0.f1)) ∧ w'.cell? ⟨ad654.block, ad654.off + 2, none⟩ = some (.int .i64 ((rd_T26 t646 0).f1)) ∧ w'.cell? ⟨ad654.block, ad654.off + 3, none⟩ = some (.int .i64 ((rd_T26 t646 0).f2)) ∧ w'.cell? ⟨ad654.block, ad654.off + 4, none⟩ = some (.int .i64 ((rd_T26 t646 0).f3)) ∧ w'.cell? ⟨ad654.block, ad654.off + 5, none⟩ = some (.int .i64 ((rd_T26 t646 0).f4.f0)) ∧ w'.cell? ⟨ad654.block, ad654.off + 6, none⟩ = some (.int .i64 ((rd_T26 t646 0).f4.f1)) ∧ w'.cell? ad654 = some (.int .i64 ((rd_T26 t646 0).f0.f0)) ∧ w'.cell? ⟨ad654.block, ad654.off + 1, none⟩ = some (.int .i64 ((rd_T26 t646 0).f0.f1)) ∧ w'.cell? ⟨ad654.block, ad654.off + 2, none⟩ = some (.int .i64 ((rd_T26 t646 0).f1)) ∧ w'.cell? ⟨ad654.block, ad654.off + 3, none⟩ = some (.int .i64 ((rd_T26 t646 0).f2)) ∧ w'.cell? ⟨ad654.block, ad654.off + 4, none⟩ = some (.int .i64 ((rd_T26 t646 0).f3)) ∧ w'.cell? ⟨ad654.block, ad654.off + 5, none⟩ = some (.int .i64 ((rd_T26 t646 0).f4.f0)) ∧ w'.cell? ⟨ad654.block, ad654.off + 6, none⟩ = some (.int .i64 ((rd_T26 t646 0).f4.f1))) (ds := []) #[false, false, false, false, false, false, false, false, false, false, false, false, false, false, false, false, false, false, false, false, false, false, false, false, false, false, false, false, false, false] (by kernel_rfl) rfl rfl ⟨(blk_cell BK616.out 0).trans rfl, (blk_cell BK616.out 1).trans rfl, (blk_cell BK616.out 2).trans rfl, (blk_cell BK616.out 3).trans rfl, (blk_cell BK616.out 4).trans rfl, (blk_cell BK616.out 5).trans rfl, (blk_cell BK616.out 6).trans rfl, hx654_0, hx654_1, hx654_2, hx654_3, hx654_4, hx654_5, hx654_6, hx658_0, hx658_1, hx658_2, hx658_3, hx658_4, hx658_5, hx658_6⟩ (fun hHeld => ?_); refine with_tabW payrolllaw7_RecordsDamage.tab12 payrolllaw7_RecordsDamage.bits12 (fun HT_ HW_ => ?_)
                 generalize w139.drew = w141 at HO_9 HO626 HO634 HO636 HO645 HO650 HO652 BK616 HB hx654_0 hx654_1 hx654_2 hx654_3 hx654_4 hx654_5 hx654_6 hx658_0 hx658_1 hx658_2 hx658_3 hx658_4 hx658_5 hx658_6 hHeld ⊢
                 refine pure_ (i := 0) (N := some 73) (v := ?_) (a' := ?_) #[true, false, false, false, false, false, false, false, false, false, false, false, false, false, false, false, false, false, false, false, false, false, false, false, false, false, false, false, false, false] rfl rfl (any_of HT_.out (by kernel_rfl)) (fun _ _ _ h => h) (Or.inl ⟨by rfl, ?_⟩) ?_ ?_
                 rotate_left
                 ·
                  intro w'
                  go_simp
                  with_reducible rfl
                 rotate_left
                 ·
                  simp only [Act.put, List.setIfInBounds_toArray, List.set_cons_zero, List.set_cons_succ, i64_w, i32_w]
                  rfl
                 refine pure_ (i := 1) (N := some 74) (v := ?_) (a' := ?_) #[true, true, false, false, false, false, false, false, false, false, false, false, false, false, false, false, false, false, false, false, false, false, false, false, false, false, false, false, false, false] rfl rfl (any_of HT_.out (by kernel_rfl)) (fun _ _ _ h => h) (Or.inl ⟨by rfl, ?_⟩) ?_ ?_
                 rotate_left
                 ·
                  intro w'
                  go_simp
                  with_reducible rfl
                 rotate_left
                 ·
                  simp only [Act.put, List.setIfInBounds_toArray, List.set_cons_zero, List.set_cons_succ, i64_w, i32_w]
                  rfl
                 refine pure_ (i := 2) (N := some 75) (v := ?_) (a' := ?_) #[true, true, true, false, false, false, false, false, false, false, false, false, false, false, false, false, false, false, false, false, false, false, false, false, false, false, false, false, false, false] rfl rfl (any_of HT_.out (by kernel_rfl)) (fun _ _ _ h => h) (Or.inl ⟨by rfl, ?_⟩) ?_ ?_
                 rotate_left
                 ·
                  intro w'
                  go_simp
                  with_reducible rfl
                 rotate_left
                 ·
                  simp only [Act.put, List.setIfInBounds_toArray, List.set_cons_zero, List.set_cons_succ, i64_w, i32_w]
                  rfl
                 refine pure_ (i := 3) (N := some 76) (v := ?_) (a' := ?_) #[true, true, true, true, false, false, false, false, false, false, false, false, false, false, false, false, false, false, false, false, false, false, false, false, false, false, false, false, false, false] rfl rfl (any_of HT_.out (by kernel_rfl)) (fun _ _ _ h => h) (Or.inl ⟨by rfl, ?_⟩) ?_ ?_
                 rotate_left
                 ·
                  intro w'
                  go_simp
                  with_reducible rfl
                 rotate_left
                 ·
                  simp only [Act.put, List.setIfInBounds_toArray, List.set_cons_zero, List.set_cons_succ, i64_w, i32_w]
                  rfl
                 refine pure_ (i := 4) (N := some 77) (v := ?_) (a' := ?_) #[true, true, true, true, true, false, false, false, false, false, false, false, false, false, false, false, false, false, false, false, false, false, false, false, false, false, false, false, false, false] rfl rfl (any_of HT_.out (by kernel_rfl)) (fun _ _ _ h => h) (Or.inl ⟨by rfl, ?_⟩) ?_ ?_
                 rotate_left
                 ·
                  intro w'
                  go_simp
                  with_reducible rfl
                 rotate_left
                 ·
                  simp only [Act.put, List.setIfInBounds_toArray, List.set_cons_zero, List.set_cons_succ, i64_w, i32_w]
                  rfl
                 refine pure_ (i := 5) (N := some 78) (v := ?_) (a' := ?_) #[true, true, true, true, true, true, false, false, false, false, false, false, false, false, false, false, false, false, false, false, false, false, false, false, false, false, false, false, false, false] rfl rfl (any_of HT_.out (by kernel_rfl)) (fun _ _ _ h => h) (Or.inl ⟨by rfl, ?_⟩) ?_ ?_
                 rotate_left
                 ·
                  intro w'
                  go_simp
                  with_reducible rfl
                 rotate_left
                 ·
                  simp only [Act.put, List.setIfInBounds_toArray, List.set_cons_zero, List.set_cons_succ, i64_w, i32_w]
                  rfl
                 refine pure_ (i := 6) (N := some 79) (v := ?_) (a' := ?_) #[true, true, true, true, true, true, true, false, false, false, false, false, false, false, false, false, false, false, false, false, false, false, false, false, false, false, false, false, false, false] rfl rfl (any_of HT_.out (by kernel_rfl)) (fun _ _ _ h => h) (Or.inl ⟨by rfl, ?_⟩) ?_ ?_
                 rotate_left
                 ·
                  intro w'
                  go_simp
                  with_reducible rfl
                 rotate_left
                 ·
                  simp only [Act.put, List.setIfInBounds_toArray, List.set_cons_zero, List.set_cons_succ, i64_w, i32_w]
                  rfl
                 refine pure_ (i := 7) (N := some 80) (v := ?_) (a' := ?_) #[true, true, true, true, true, true, true, true, false, false, false, false, false, false, false, false, false, false, false, false, false, false, false, false, false, false, false, false, false, false] rfl rfl (any_of HT_.out (by kernel_rfl)) (fun _ _ _ h => h) (Or.inl ⟨by rfl, ?_⟩) ?_ ?_
                 rotate_left
                 ·
                  intro w'
                  go_simp
                  with_reducible rfl
                 rotate_left
                 ·
                  simp only [Act.put, List.setIfInBounds_toArray, List.set_cons_zero, List.set_cons_succ, i64_w, i32_w]
                  rfl
                 refine pure_ (i := 8) (N := some 81) (v := ?_) (a' := ?_) #[true, true, true, true, true, true, true, true, true, false, false, false, false, false, false, false, false, false, false, false, false, false, false, false, false, false, false, false, false, false] rfl rfl (any_of HT_.out (by kernel_rfl)) (fun _ _ _ h => h) (Or.inl ⟨by rfl, ?_⟩) ?_ ?_
                 rotate_left
                 ·
                  intro w'
                  go_simp
                  with_reducible rfl
                 rotate_left
                 ·
                  simp only [Act.put, List.setIfInBounds_toArray, List.set_cons_zero, List.set_cons_succ, i64_w, i32_w]
                  rfl
                 refine pure_ (i := 9) (N := some 82) (v := ?_) (a' := ?_) #[true, true, true, true, true, true, true, true, true, true, false, false, false, false, false, false, false, false, false, false, false, false, false, false, false, false, false, false, false, false] rfl rfl (any_of HT_.out (by kernel_rfl)) (fun _ _ _ h => h) (Or.inl ⟨by rfl, ?_⟩) ?_ ?_
                 rotate_left
                 ·
                  intro w'
                  go_simp
                  with_reducible rfl
                 rotate_left
                 ·
                  simp only [Act.put, List.setIfInBounds_toArray, List.set_cons_zero, List.set_cons_succ, i64_w, i32_w]
                  rfl
                 refine take_ (i := 10) (N := some 83) (v := ?_) (a' := ?_) #[true, true, true, true, true, true, true, true, true, true, true, false, false, false, false, false, false, false, false, false, false, false, false, false, false, false, false, false, false, false] rfl rfl (take_ofW HT_.out HW_.out (by kernel_rfl)) (fun _ _ _ h => h) (Or.inl ⟨by rfl, ?_⟩) hHeld ?_ ?_
                 rotate_left
                 ·
                  rintro w' ⟨s0, s1, s2, s3, s4, s5, s6, s7, s8, s9, s10, s11, s12, s13, s14, s15, s16, s17, s18, s19, s20⟩
                  go_simp
                  with_reducible rfl
                 rotate_left
                 ·
                  simp only [Act.put, List.setIfInBounds_toArray, List.set_cons_zero, List.set_cons_succ, i64_w, i32_w]
                  rfl
                 refine take_ (i := 11) (N := some 84) (v := ?_) (a' := ?_) #[true, true, true, true, true, true, true, true, true, true, true, true, false, false, false, false, false, false, false, false, false, false, false, false, false, false, false, false, false, false] rfl rfl (take_ofW HT_.out HW_.out (by kernel_rfl)) (fun _ _ _ h => h) (Or.inl ⟨by rfl, ?_⟩) hHeld ?_ ?_
                 rotate_left
                 ·
                  rintro w' ⟨s0, s1, s2, s3, s4, s5, s6, s7, s8, s9, s10, s11, s12, s13, s14, s15, s16, s17, s18, s19, s20⟩
                  go_simp
                  with_reducible rfl
                 rotate_left
                 ·
                  simp only [Act.put, List.setIfInBounds_toArray, List.set_cons_zero, List.set_cons_succ, i64_w, i32_w]
                  rfl
                 refine pure_ (i := 12) (N := some 85) (v := ?_) (a' := ?_) #[true, true, true, true, true, true, true, true, true, true, true, true, true, false, false, false, false, false, false, false, false, false, false, false, false, false, false, false, false, false] rfl rfl (any_of HT_.out (by kernel_rfl)) (fun _ _ _ h => h) (Or.inl ⟨by rfl, ?_⟩) ?_ ?_
                 rotate_left
                 ·
                  intro w'
                  go_simp
                  with_reducible rfl
                 rotate_left
                 ·
                  simp only [Act.put, List.setIfInBounds_toArray, List.set_cons_zero, List.set_cons_succ, i64_w, i32_w]
                  rfl
                 refine pure_ (i := 13) (N := some 86) (v := ?_) (a' := ?_) #[true, true, true, true, true, true, true, true, true, true, true, true, true, true, false, false, false, false, false, false, false, false, false, false, false, false, false, false, false, false] rfl rfl (any_of HT_.out (by kernel_rfl)) (fun _ _ _ h => h) (Or.inl ⟨by rfl, ?_⟩) ?_ ?_
                 rotate_left
                 ·
                  intro w'
                  go_simp
                  with_reducible rfl
                 rotate_left
                 ·
                  simp only [Act.put, List.setIfInBounds_toArray, List.set_cons_zero, List.set_cons_succ, i64_w, i32_w]
                  rfl
                 refine pure_ (i := 14) (N := some 87) (v := undef) (a' := ?_) #[true, true, true, true, true, true, true, true, true, true, true, true, true, true, true, false, false, false, false, false, false, false, false, false, false, false, false, false, false, false] rfl rfl (any_of HT_.out (by kernel_rfl)) (fun _ _ _ h => h) (Or.inr ⟨by rfl, rfl⟩) ?_ ?_
                 rotate_left
                 ·
                  simp only [Act.put, List.setIfInBounds_toArray, List.set_cons_zero, List.set_cons_succ, i64_w, i32_w]
                  rfl
                 refine pure_ (i := 15) (N := some 88) (v := undef) (a' := ?_) #[true, true, true, true, true, true, true, true, true, true, true, true, true, true, true, true, false, false, false, false, false, false, false, false, false, false, false, false, false, false] rfl rfl (any_of HT_.out (by kernel_rfl)) (fun _ _ _ h => h) (Or.inr ⟨by rfl, rfl⟩) ?_ ?_
                 rotate_left
                 ·
                  simp only [Act.put, List.setIfInBounds_toArray, List.set_cons_zero, List.set_cons_succ, i64_w, i32_w]
                  rfl
                 refine pure_ (i := 16) (N := some 89) (v := ?_) (a' := ?_) #[true, true, true, true, true, true, true, true, true, true, true, true, true, true, true, true, true, false, false, false, false, false, false, false, false, false, false, false, false, false] rfl rfl (any_of HT_.out (by kernel_rfl)) (fun _ _ _ h => h) (Or.inl ⟨by rfl, ?_⟩) ?_ ?_
                 rotate_left
                 ·
                  intro w'
                  go_simp
                  with_reducible rfl
                 rotate_left
                 ·
                  simp only [Act.put, List.setIfInBounds_toArray, List.set_cons_zero, List.set_cons_succ, i64_w, i32_w]
                  rfl
                 refine pure_ (i := 17) (N := some 90) (v := ?_) (a' := ?_) #[true, true, true, true, true, true, true, true, true, true, true, true, true, true, true, true, true, true, false, false, false, false, false, false, false, false, false, false, false, false] rfl rfl (any_of HT_.out (by kernel_rfl)) (fun _ _ _ h => h) (Or.inl ⟨by rfl, ?_⟩) ?_ ?_
                 rotate_left
                 ·
                  intro w'
                  go_simp
                  with_reducible rfl
                 rotate_left
                 ·
                  simp only [Act.put, List.setIfInBounds_toArray, List.set_cons_zero, List.set_cons_succ, i64_w, i32_w]
                  rfl
                 refine pure_ (i := 18) (N := some 91) (v := ?_) (a' := ?_) #[true, true, true, true, true, true, true, true, true, true, true, true, true, true, true, true, true, true, true, false, false, false, false, false, false, false, false, false, false, false] rfl rfl (any_of HT_.out (by kernel_rfl)) (fun _ _ _ h => h) (Or.inl ⟨by rfl, ?_⟩) ?_ ?_
                 rotate_left
                 ·
                  intro w'
                  go_simp
                  with_reducible rfl
                 rotate_left
                 ·
                  simp only [Act.put, List.setIfInBounds_toArray, List.set_cons_zero, List.set_cons_succ, i64_w, i32_w]
                  rfl
                 refine pure_ (i := 19) (N := some 92) (v := ?_) (a' := ?_) #[true, true, true, true, true, true, true, true, true, true, true, true, true, true, true, true, true, true, true, true, false, false, false, false, false, false, false, false, false, false] rfl rfl (any_of HT_.out (by kernel_rfl)) (fun _ _ _ h => h) (Or.inl ⟨by rfl, ?_⟩) ?_ ?_
                 rotate_left
                 ·
                  intro w'
                  go_simp
                  with_reducible rfl
                 rotate_left
                 ·
                  simp only [Act.put, List.setIfInBounds_toArray, List.set_cons_zero, List.set_cons_succ, i64_w, i32_w]
                  rfl
                 refine pure_ (i := 20) (N := some 93) (v := ?_) (a' := ?_) #[true, true, true, true, true, true, true, true, true, true, true, true, true, true, true, true, true, true, true, true, true, false, false, false, false, false, false, false, false, false] rfl rfl (any_of HT_.out (by kernel_rfl)) (fun _ _ _ h => h) (Or.inl ⟨by rfl, ?_⟩) ?_ ?_
                 rotate_left
                 ·
                  intro w'
                  go_simp
                  with_reducible rfl
                 rotate_left
                 ·
                  simp only [Act.put, List.setIfInBounds_toArray, List.set_cons_zero, List.set_cons_succ, i64_w, i32_w]
                  rfl
                 refine take_ (i := 21) (N := some 94) (v := ?_) (a' := ?_) #[true, true, true, true, true, true, true, true, true, true, true, true, true, true, true, true, true, true, true, true, true, true, false, false, false, false, false, false, false, false] rfl rfl (take_ofW HT_.out HW_.out (by kernel_rfl)) (fun _ _ _ h => h) (Or.inl ⟨by rfl, ?_⟩) hHeld ?_ ?_
                 rotate_left
                 ·
                  rintro w' ⟨s0, s1, s2, s3, s4, s5, s6, s7, s8, s9, s10, s11, s12, s13, s14, s15, s16, s17, s18, s19, s20⟩
                  go_simp
                  with_reducible rfl
                 rotate_left
                 ·
                  simp only [Act.put, List.setIfInBounds_toArray, List.set_cons_zero, List.set_cons_succ, i64_w, i32_w]
                  rfl
                 refine take_ (i := 22) (N := some 95) (v := ?_) (a' := ?_) #[true, true, true, true, true, true, true, true, true, true, true, true, true, true, true, true, true, true, true, true, true, true, true, false, false, false, false, false, false, false] rfl rfl (take_ofW HT_.out HW_.out (by kernel_rfl)) (fun _ _ _ h => h) (Or.inl ⟨by rfl, ?_⟩) hHeld ?_ ?_
                 rotate_left
                 ·
                  rintro w' ⟨s0, s1, s2, s3, s4, s5, s6, s7, s8, s9, s10, s11, s12, s13, s14, s15, s16, s17, s18, s19, s20⟩
                  go_simp
                  with_reducible rfl
                 rotate_left
                 ·
                  simp only [Act.put, List.setIfInBounds_toArray, List.set_cons_zero, List.set_cons_succ, i64_w, i32_w]
                  rfl
                 refine pure_ (i := 23) (N := some 96) (v := ?_) (a' := ?_) #[true, true, true, true, true, true, true, true, true, true, true, true, true, true, true, true, true, true, true, true, true, true, true, true, false, false, false, false, false, false] rfl rfl (any_of HT_.out (by kernel_rfl)) (fun _ _ _ h => h) (Or.inl ⟨by rfl, ?_⟩) ?_ ?_
                 rotate_left
                 ·
                  intro w'
                  go_simp
                  with_reducible rfl
                 rotate_left
                 ·
                  simp only [Act.put, List.setIfInBounds_toArray, List.set_cons_zero, List.set_cons_succ, i64_w, i32_w]
                  rfl
                 refine pure_ (i := 24) (N := some 97) (v := ?_) (a' := ?_) #[true, true, true, true, true, true, true, true, true, true, true, true, true, true, true, true, true, true, true, true, true, true, true, true, true, false, false, false, false, false] rfl rfl (any_of HT_.out (by kernel_rfl)) (fun _ _ _ h => h) (Or.inl ⟨by rfl, ?_⟩) ?_ ?_
                 rotate_left
                 ·
                  intro w'
                  go_simp
                  with_reducible rfl
                 rotate_left
                 ·
                  simp only [Act.put, List.setIfInBounds_toArray, List.set_cons_zero, List.set_cons_succ, i64_w, i32_w]
                  rfl
                 refine pure_ (i := 25) (N := some 98) (v := ?_) (a' := ?_) #[true, true, true, true, true, true, true, true, true, true, true, true, true, true, true, true, true, true, true, true, true, true, true, true, true, true, false, false, false, false] rfl rfl (any_of HT_.out (by kernel_rfl)) (fun _ _ _ h => h) (Or.inl ⟨by rfl, ?_⟩) ?_ ?_
                 rotate_left
                 ·
                  intro w'
                  go_simp
                  with_reducible rfl
                 rotate_left
                 ·
                  simp only [Act.put, List.setIfInBounds_toArray, List.set_cons_zero, List.set_cons_succ, i64_w, i32_w]
                  rfl
                 refine pure_ (i := 26) (N := some 99) (v := ?_) (a' := ?_) #[true, true, true, true, true, true, true, true, true, true, true, true, true, true, true, true, true, true, true, true, true, true, true, true, true, true, true, false, false, false] rfl rfl (any_of HT_.out (by kernel_rfl)) (fun _ _ _ h => h) (Or.inl ⟨by rfl, ?_⟩) ?_ ?_
                 rotate_left
                 ·
                  intro w'
                  go_simp
                  with_reducible rfl
                 rotate_left
                 ·
                  simp only [Act.put, List.setIfInBounds_toArray, List.set_cons_zero, List.set_cons_succ, i64_w, i32_w]
                  rfl
                 refine one_ (i := 27) (N := some 100) #[true, true, true, true, true, true, true, true, true, true, true, true, true, true, true, true, true, true, true, true, true, true, true, true, true, true, true, true, false, false] rfl rfl (one_of HT_.out (by kernel_rfl)) (by decide) (fun K hK => ?_)
                 refine goes_ Try.func18 (by kernel_rfl) rfl #[] (by rfl) rfl rfl (by (try simp only [List.map_toArray, List.map_cons, List.map_nil]); first | done | rfl | (simp only [List.length_drop, List.length_take]; rfl)) ?_
                 with_reducible refine (payrolllaw7_sane.calls kj6  t659 _ A125.out).mono ?_
                 rintro e w143 ⟨rfl, hb⟩
                 have HS7_ := (hb.cell (World.block_lt_of_cell? _ _ (hHeld.2.2.2.2.2.2.2.1))).trans (hHeld.2.2.2.2.2.2.2.1)
                 have HS8_ := (hb.cell (World.block_lt_of_cell? _ _ (hHeld.2.2.2.2.2.2.2.2.1))).trans (hHeld.2.2.2.2.2.2.2.2.1)
                 have HS9_ := (hb.cell (World.block_lt_of_cell? _ _ (hHeld.2.2.2.2.2.2.2.2.2.1))).trans (hHeld.2.2.2.2.2.2.2.2.2.1)
                 have HS10_ := (hb.cell (World.block_lt_of_cell? _ _ (hHeld.2.2.2.2.2.2.2.2.2.2.1))).trans (hHeld.2.2.2.2.2.2.2.2.2.2.1)
                 have HS11_ := (hb.cell (World.block_lt_of_cell? _ _ (hHeld.2.2.2.2.2.2.2.2.2.2.2.1))).trans (hHeld.2.2.2.2.2.2.2.2.2.2.2.1)
                 have HS12_ := (hb.cell (World.block_lt_of_cell? _ _ (hHeld.2.2.2.2.2.2.2.2.2.2.2.2.1))).trans (hHeld.2.2.2.2.2.2.2.2.2.2.2.2.1)
                 have HS13_ := (hb.cell (World.block_lt_of_cell? _ _ (hHeld.2.2.2.2.2.2.2.2.2.2.2.2.2.1))).trans (hHeld.2.2.2.2.2.2.2.2.2.2.2.2.2.1)
                 have HS14_ := (hb.cell (World.block_lt_of_cell? _ _ (hHeld.2.2.2.2.2.2.2.2.2.2.2.2.2.2.1))).trans (hHeld.2.2.2.2.2.2.2.2.2.2.2.2.2.2.1)
                 have HS15_ := (hb.cell (World.block_lt_of_cell? _ _ (hHeld.2.2.2.2.2.2.2.2.2.2.2.2.2.2.2.1))).trans (hHeld.2.2.2.2.2.2.2.2.2.2.2.2.2.2.2.1)
                 have HS16_ := (hb.cell (World.block_lt_of_cell? _ _ (hHeld.2.2.2.2.2.2.2.2.2.2.2.2.2.2.2.2.1))).trans (hHeld.2.2.2.2.2.2.2.2.2.2.2.2.2.2.2.2.1)
                 have HS17_ := (hb.cell (World.block_lt_of_cell? _ _ (hHeld.2.2.2.2.2.2.2.2.2.2.2.2.2.2.2.2.2.1))).trans (hHeld.2.2.2.2.2.2.2.2.2.2.2.2.2.2.2.2.2.1)
                 have HS18_ := (hb.cell (World.block_lt_of_cell? _ _ (hHeld.2.2.2.2.2.2.2.2.2.2.2.2.2.2.2.2.2.2.1))).trans (hHeld.2.2.2.2.2.2.2.2.2.2.2.2.2.2.2.2.2.2.1)
                 have HS19_ := (hb.cell (World.block_lt_of_cell? _ _ (hHeld.2.2.2.2.2.2.2.2.2.2.2.2.2.2.2.2.2.2.2.1))).trans (hHeld.2.2.2.2.2.2.2.2.2.2.2.2.2.2.2.2.2.2.2.1)
                 have HS20_ := (hb.cell (World.block_lt_of_cell? _ _ (hHeld.2.2.2.2.2.2.2.2.2.2.2.2.2.2.2.2.2.2.2.2))).trans (hHeld.2.2.2.2.2.2.2.2.2.2.2.2.2.2.2.2.2.2.2.2)
                 refine ⟨_, rfl, ?_⟩
                 have n0_ := Aside0.mk (Kd.R_below (by (with_reducible repeat (first | apply Kd.R_alloc | apply Kd.R_drewN | apply Kd.R_drew)); exact HO_9.out) hb)
                 have n1_ := Aside0.mk (Kd.R_below (by (with_reducible repeat (first | apply Kd.R_alloc | apply Kd.R_drewN | apply Kd.R_drew)); exact HO626.out) hb)
                 have n2_ := Aside0.mk (Kd.R_below (by (with_reducible repeat (first | apply Kd.R_alloc | apply Kd.R_drewN | apply Kd.R_drew)); exact HO634.out) hb)
                 have n3_ := Aside0.mk (Kd.R_below (by (with_reducible repeat (first | apply Kd.R_alloc | apply Kd.R_drewN | apply Kd.R_drew)); exact HO636.out) hb)
                 have n4_ := Aside0.mk (Kd.R_below (by (with_reducible repeat (first | apply Kd.R_alloc | apply Kd.R_drewN | apply Kd.R_drew)); exact HO645.out) hb)
                 have n5_ := Aside0.mk (Kd.R_below (by (with_reducible repeat (first | apply Kd.R_alloc | apply Kd.R_drewN | apply Kd.R_drew)); exact HO650.out) hb)
                 have n6_ := Aside0.mk (Kd.R_below (by (with_reducible repeat (first | apply Kd.R_alloc | apply Kd.R_drewN | apply Kd.R_drew)); exact HO652.out) hb)
                 have n7_ := Aside0.mk (blk_below (g := gb616) (o := .cells #[.int .i64 t608, .int .i64 t609, .int .i64 t610, .int .i64 t611, .int .i64 t612, .int .i64 t613, .int .i64 t614] 26 (0, 0)) (by (with_reducible repeat (first | refine blk_drewN ?_ _ | refine blk_drew ?_ | refine blk_alloc ?_ _)); exact BK616.out) hb)
                 have n8_ := Aside0.mk (below_step (by repeat (first | (with_reducible first | exact HB.out | apply below_alloc | apply pw_below_drewN | apply below_drew1 | refine below_set ?_ GE616.out) | exact HB.out)) hb)
                 clear HO_9
                 clear HO626
                 clear HO634
                 clear HO636
                 clear HO645
                 clear HO650
                 clear HO652
                 clear BK616
                 clear HB
                 have HO_9 := n0_
                 have HO626 := n1_
                 have HO634 := n2_
                 have HO636 := n3_
                 have HO645 := n4_
                 have HO650 := n5_
                 have HO652 := n6_
                 have BK616 := n7_
                 have HB := n8_
                 clear n0_ n1_ n2_ n3_ n4_ n5_ n6_ n7_ n8_
                 (try clear hb)
                 (try clear hb2)
                 (try clear hk)
                 (try clear hi)
                 refine hK.out _ _ ⟨(blk_cell BK616.out 0).trans rfl, (blk_cell BK616.out 1).trans rfl, (blk_cell BK616.out 2).trans rfl, (blk_cell BK616.out 3).trans rfl, (blk_cell BK616.out 4).trans rfl, (blk_cell BK616.out 5).trans rfl, (blk_cell BK616.out 6).trans rfl, HS7_, HS8_, HS9_, HS10_, HS11_, HS12_, HS13_, HS14_, HS15_, HS16_, HS17_, HS18_, HS19_, HS20_⟩ (fun hHeld => ?_)
                 clear hK K
                 refine norm_ (a' := ?_) ?_ ?_
                 rotate_left
                 ·
                  show Act.put _ (some 100) _ = _
                  simp only [Act.put, List.setIfInBounds_toArray, List.set_cons_zero, List.set_cons_succ, i64_w, i32_w]
                  rfl
                 refine pure_ (i := 28) (N := some 101) (v := ?_) (a' := ?_) #[true, true, true, true, true, true, true, true, true, true, true, true, true, true, true, true, true, true, true, true, true, true, true, true, true, true, true, true, true, false] rfl rfl (any_of HT_.out (by kernel_rfl)) (fun _ _ _ h => h) (Or.inl ⟨by rfl, ?_⟩) ?_ ?_
                 rotate_left
                 ·
                  intro w'
                  go_simp
                  with_reducible rfl
                 rotate_left
                 ·
                  simp only [Act.put, List.setIfInBounds_toArray, List.set_cons_zero, List.set_cons_succ, i64_w, i32_w]
                  rfl
                 refine pure_ (i := 29) (N := some 6) (v := ?_) (a' := ?_) #[true, true, true, true, true, true, true, true, true, true, true, true, true, true, true, true, true, true, true, true, true, true, true, true, true, true, true, true, true, true] rfl rfl (any_of HT_.out (by kernel_rfl)) (fun _ _ _ h => h) (Or.inl ⟨by rfl, ?_⟩) ?_ ?_
                 rotate_left
                 ·
                  intro w'
                  go_simp
                  with_reducible rfl
                 rotate_left
                 ·
                  simp only [Act.put, List.setIfInBounds_toArray, List.set_cons_zero, List.set_cons_succ, i64_w, i32_w]
                  rfl
                 refine done_ (done_of HT_.out (by kernel_rfl)) ?_
                 try go_wp2
                 go_ret
                 exact ⟨by first | rfl | (simp [errW_none, errW_some] <;> rfl) | (simp [*, errW_none, errW_some] <;> rfl), by repeat (first | (with_reducible first | exact HB.out | apply below_alloc | apply pw_below_drewN | apply below_drew1 | refine below_set ?_ GE616.out) | exact HB.out)⟩
                ·
                 rw [if_neg c124] at H
                 have c124b0 : ((!(((rd_T26 t646 0).f0.f0) == t608) || (!(((rd_T26 t646 0).f0.f1) == t609))) || (!(((rd_T26 t646 0).f1) == t610) || (!(((rd_T26 t646 0).f2) == t611) || (!(((rd_T26 t646 0).f3) == t612) || ((!(((rd_T26 t646 0).f4.f0) == t613) || (!(((rd_T26 t646 0).f4.f1) == t614)))))))) = false := by simpa using c124
                 clear c124
                 exact absurd (Option.some.inj H) (by rw [HT.out]; decide)
              ·
               rw [if_neg c65] at H
               exact absurd H (by simp)
            ·
             rw [if_neg c44] at H
             have c44b0 : decide (0 < (t646.length : Int)) = false := decide_eq_false c44
             have c44b1 : decide (0 < t646.length) = false := decide_eq_false (by omega)
             clear c44
             exact absurd (Option.some.inj H) (by rw [HT.out]; decide)
          ·
           rw [if_neg c27] at H
           have c27b0 : (t632 == 1) = false := beq_eq_false_iff_ne.mpr c27
           have c27b1 : (t632 != 1) = true := bne_iff_ne.mpr c27
           exact absurd (Option.some.inj H) (by rw [HT.out]; decide)
         ·
          rw [if_neg c26] at H
          have c26b0 : ((t630.length : Int) == 0) = false := beq_eq_false_iff_ne.mpr c26
          have c26b1 : ((t630.length : Int) != 0) = true := bne_iff_ne.mpr c26
          have c26b2 : ¬ (t630 = []) := fun h_ => c26 (by rw [h_]; rfl)
          exact absurd (Option.some.inj H) (by rw [HT.out]; decide)
        ·
         rw [if_neg c24] at H
         exact absurd H (by simp)
       ·
        rw [if_neg c23] at H
        exact absurd H (by simp)
      ·
       rw [if_neg c20] at H
       exact absurd H (by simp)
     ·
      rw [if_neg c19] at H
      exact absurd H (by simp)
    ·
     rw [if_neg c17] at H
     exact absurd H (by simp)

/-- THE ONE PURE STATEMENT of payrolllaw7_RecordsDamage: yours. -/
def payrolllaw7_RecordsDamage.Pure : Prop := ∀ (l0 : List Int) (a1 : Int) (a2 : Int), l0.length ≤ maxLen → l0.length * 8 ≤ 140737488351232 → (∀ x ∈ l0, (Lit.int .i64 x).wf = true) → (Lit.int .i64 a1).wf = true → (Lit.int .u8 a2).wf = true → ∃ k, payrolllaw7_RecordsDamage.f k l0 a1 a2 = some true
theorem payrolllaw7_RecordsDamage.walk (P : payrolllaw7_RecordsDamage.Pure) (a0 : Option Addr) (len0 cap0 : Nat) (z0 : List Int) (a1 : Int) (a2 : Int) (w : World) (w0 : (a0 = none ∧ len0 = 0 ∧ cap0 = 0 ∧ z0 = []) ∨ ∃ x, a0 = some x ∧ len0 ≤ cap0 ∧ cap0 ≤ maxLen ∧ z0.length = cap0 ∧ (∀ i, i < z0.length → w.cell? (x.add i) = some (.int .i64 (z0.getD i 0))) ∧ ∀ n ∈ z0, (Lit.int .i64 n).wf = true) (y0 : len0 * 8 ≤ 140737488351232) (w1 : (Lit.int .i64 a1).wf = true) (w2 : (Lit.int .u8 a2).wf = true) :
  Calls Try.prog 7 #[.slice a0 len0 cap0, .int .i64 a1, .int .u8 a2] w fun e w' => e = .returned (.bool true) ∧ Below w.heap.size w w' := by
 obtain ⟨l0, rfl, hr0, hm0, hw0, hc0⟩ := ReadsInt.ofRowC w0
 obtain ⟨k, h⟩ := P l0 a1 a2 hm0 y0 hw0 w1 w2
 refine (payrolllaw7_RecordsDamage.calls k _ _ l0 a1 a2 true w (Kd.C_of_reads (d := (0 : Int)) (h1 := fun _ => rfl) hr0) hc0 h rfl).mono ?_
 rintro e w' ⟨rfl, hd⟩
 exact ⟨rfl, hd⟩

end Go.Proofs.Ytopigdnffnondaa.P
