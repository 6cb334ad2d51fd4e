/- Proved here: that the Go function payrolllaw7_RecordsEncode computes the plain function of that name (the machine side of the laws, reworked from a print; no condition of its own). -/
import Derived.Test.YtopigdnffnondaaProg
import Derived.Test.YtopigdnffnondaaV1
import Derived.Test.YtopigdnffnondaaFPRE0
import Derived.Test.YtopigdnffnondaaFPRE7
import Derived.Test.YtopigdnffnondaaFpayrollgenNew
import Derived.Test.YtopigdnffnondaaFpayrollgenTapeEvent
import Derived.Test.YtopigdnffnondaaFpayrollgenTapeSpoilEvent
import Derived.Test.YtopigdnffnondaaFrecordsValid
import Derived.Test.YtopigdnffnondaaFrecordsSum
import Derived.Test.YtopigdnffnondaaFrecordsEncode
import Derived.Test.YtopigdnffnondaaFpayrollref7Valid
import Derived.Test.YtopigdnffnondaaFpayrollref7Sum
import Derived.Test.YtopigdnffnondaaFpayrollref7Encode
import Derived.Test.YtopigdnffnondaaFpayrolllaw7sane
namespace Go.Proofs.Ytopigdnffnondaa.P
open Go.RowKit Go.Proofs.YtopigdnffnondaaW.PrintWords Go.Proofs.YtopigdnffnondaaW.PrintLast Go.Proofs.YtopigdnffnondaaW.PrintMore
attribute [local go_sem] max2_int min2_int max_two min_two max_three min_three max_four min_four   -- for this text's walks alone
set_option linter.unusedVariables false
set_option linter.unusedSimpArgs false

mutual
def payrolllaw7_RecordsEncode.l0 : Nat → List Int → Int → Int → Int → Int → Int → Int → Int → Int → List Int → Int → Option (Bool)
 | 0, _, _, _, _, _, _, _, _, _, _, _ => none
 | k + 1, x2, x8, x333000, x333001, x333002, x333003, x333004, x333005, x333006, x336000, x336001 => if x8 < 5 then ((payrollgen_Tape_Event.f x336000 x336001).bind fun bt340 => (if x8 = 3 then ((payrollgen_Tape_SpoilEvent.f x336000 bt340.2.2.2.2.2.2.2 bt340.1 bt340.2.1 bt340.2.2.1 bt340.2.2.2.1 bt340.2.2.2.2.1 bt340.2.2.2.2.2.1 bt340.2.2.2.2.2.2.1).bind fun bt349 => (payrolllaw7_RecordsEncode.j1 k x2 x8 x333000 x333001 x333002 x333003 x333004 x333005 x333006 x336000 bt349.2.2.2.2.2.2.2 bt349.1 bt349.2.1 bt349.2.2.1 bt349.2.2.2.1 bt349.2.2.2.2.1 bt349.2.2.2.2.2.1 bt349.2.2.2.2.2.2.1)) else (if x8 = 4 then (payrolllaw7_RecordsEncode.j1 k x2 x8 x333000 x333001 x333002 x333003 x333004 x333005 x333006 x336000 bt340.2.2.2.2.2.2.2 x333000 x333001 x333002 x333003 x333004 x333005 x333006) else (payrolllaw7_RecordsEncode.j1 k x2 x8 x333000 x333001 x333002 x333003 x333004 x333005 x333006 x336000 bt340.2.2.2.2.2.2.2 bt340.1 bt340.2.1 bt340.2.2.1 bt340.2.2.2.1 bt340.2.2.2.2.1 bt340.2.2.2.2.2.1 bt340.2.2.2.2.2.2.1)))) else (if (x2.length : Int) > 5000 then ((payrolllaw7_sane.f k).bind fun t336 => (some t336)) else ((records_Sum.f k x2).bind fun t337 => ((payrollref7_Sum.f k x2).bind fun t338 => (if t337 = t338 then ((payrolllaw7_sane.f k).bind fun t339 => (some t339)) else (some false)))))
def payrolllaw7_RecordsEncode.j1 : Nat → List Int → Int → Int → Int → Int → Int → Int → Int → Int → List Int → Int → Int → Int → Int → Int → Int → Int → Int → Option (Bool)
 | 0, _, _, _, _, _, _, _, _, _, _, _, _, _, _, _, _, _, _ => none
 | k + 1, x2, x8, x333000, x333001, x333002, x333003, x333004, x333005, x333006, x336000, x336001, x349000, x349001, x349002, x349003, x349004, x349005, x349006 => (records_Encode.f k x349000 x349001 x349002 x349003 x349004 x349005 x349006).bind fun bt357 => ((payrollref7_Encode.f k x349000 x349001 x349002 x349003 x349004 x349005 x349006).bind fun bt361 => (if (strOfNums bt357.1).toList = (strOfNums bt361.1).toList then (if bt357.2 = bt361.2 then ((records_Valid.f k x349000 x349001 x349002 x349003 x349004 x349005 x349006).bind fun t365 => ((payrollref7_Valid.f k x349000 x349001 x349002 x349003 x349004 x349005 x349006).bind fun t366 => (if (t365 != t366) = true then (some false) else (payrolllaw7_RecordsEncode.l0 k x2 (wrap64 (x8 + 1)) x333000 x333001 x333002 x333003 x333004 x333005 x333006 x336000 x336001)))) else (some false)) else (some false)))
end
def payrolllaw7_RecordsEncode.f (k : Nat) (l0 : List Int) (a1_0 : Int) (a1_1 : Int) (a1_2 : Int) (a1_3 : Int) (a1_4 : Int) (a1_5 : Int) (a1_6 : Int) (l2 : List Int) : Option (Bool) := (payrollgen_New.f l0).bind fun bt333 => (payrolllaw7_RecordsEncode.l0 k l2 0 a1_0 a1_1 a1_2 a1_3 a1_4 a1_5 a1_6 bt333.1 bt333.2)
theorem payrolllaw7_RecordsEncode.mono_l : ∀ k, (∀ y0 y1 y2 y3 y4 y5 y6 y7 y8 y9 y10, LeO (payrolllaw7_RecordsEncode.l0 k y0 y1 y2 y3 y4 y5 y6 y7 y8 y9 y10) (payrolllaw7_RecordsEncode.l0 (k + 1) y0 y1 y2 y3 y4 y5 y6 y7 y8 y9 y10)) ∧ (∀ y0 y1 y2 y3 y4 y5 y6 y7 y8 y9 y10 y11 y12 y13 y14 y15 y16 y17, LeO (payrolllaw7_RecordsEncode.j1 k y0 y1 y2 y3 y4 y5 y6 y7 y8 y9 y10 y11 y12 y13 y14 y15 y16 y17) (payrolllaw7_RecordsEncode.j1 (k + 1) y0 y1 y2 y3 y4 y5 y6 y7 y8 y9 y10 y11 y12 y13 y14 y15 y16 y17))
 | 0 => ⟨fun _ _ _ _ _ _ _ _ _ _ _ r h => by simp [payrolllaw7_RecordsEncode.l0] at h, fun _ _ _ _ _ _ _ _ _ _ _ _ _ _ _ _ _ _ r h => by simp [payrolllaw7_RecordsEncode.j1] at h⟩
 | k + 1 => by
  obtain ⟨ih0, ih1⟩ := payrolllaw7_RecordsEncode.mono_l k
  refine ⟨?_, ?_⟩
  ·
   intro y0 y1 y2 y3 y4 y5 y6 y7 y8 y9 y10
   unfold payrolllaw7_RecordsEncode.l0
   repeat' first
   | (with_reducible exact ih0 _ _ _ _ _ _ _ _ _ _ _)
   | (with_reducible exact ih1 _ _ _ _ _ _ _ _ _ _ _ _ _ _ _ _ _ _)
   | (with_reducible exact payrolllaw7_sane.mono _)
   | (with_reducible exact payrollref7_Encode.mono _ _ _ _ _ _ _ _)
   | (with_reducible exact payrollref7_Sum.mono _ _)
   | (with_reducible exact payrollref7_Valid.mono _ _ _ _ _ _ _ _)
   | (with_reducible exact records_Encode.mono _ _ _ _ _ _ _ _)
   | (with_reducible exact records_Sum.mono _ _)
   | (with_reducible exact records_Valid.mono _ _ _ _ _ _ _ _)
   | (with_reducible exact LeO.refl _)
   | (with_reducible exact LeO.none _)
   | (with_reducible refine LeO.ite ?_ ?_)
   | (with_reducible refine LeO.bind ?_ (fun _ => ?_))
   | exact ih0 _ _ _ _ _ _ _ _ _ _ _
   | exact ih1 _ _ _ _ _ _ _ _ _ _ _ _ _ _ _ _ _ _
   | exact payrolllaw7_sane.mono _
   | exact payrollref7_Encode.mono _ _ _ _ _ _ _ _
   | exact payrollref7_Sum.mono _ _
   | exact payrollref7_Valid.mono _ _ _ _ _ _ _ _
   | exact records_Encode.mono _ _ _ _ _ _ _ _
   | exact records_Sum.mono _ _
   | exact records_Valid.mono _ _ _ _ _ _ _ _
   | exact LeO.none _
   | refine LeO.ite ?_ ?_
   | refine LeO.bind ?_ (fun _ => ?_)
  ·
   intro y0 y1 y2 y3 y4 y5 y6 y7 y8 y9 y10 y11 y12 y13 y14 y15 y16 y17
   unfold payrolllaw7_RecordsEncode.j1
   repeat' first
   | (with_reducible exact ih0 _ _ _ _ _ _ _ _ _ _ _)
   | (with_reducible exact ih1 _ _ _ _ _ _ _ _ _ _ _ _ _ _ _ _ _ _)
   | (with_reducible exact payrolllaw7_sane.mono _)
   | (with_reducible exact payrollref7_Encode.mono _ _ _ _ _ _ _ _)
   | (with_reducible exact payrollref7_Sum.mono _ _)
   | (with_reducible exact payrollref7_Valid.mono _ _ _ _ _ _ _ _)
   | (with_reducible exact records_Encode.mono _ _ _ _ _ _ _ _)
   | (with_reducible exact records_Sum.mono _ _)
   | (with_reducible exact records_Valid.mono _ _ _ _ _ _ _ _)
   | (with_reducible exact LeO.refl _)
   | (with_reducible exact LeO.none _)
   | (with_reducible refine LeO.ite ?_ ?_)
   | (with_reducible refine LeO.bind ?_ (fun _ => ?_))
   | exact ih0 _ _ _ _ _ _ _ _ _ _ _
   | exact ih1 _ _ _ _ _ _ _ _ _ _ _ _ _ _ _ _ _ _
   | exact payrolllaw7_sane.mono _
   | exact payrollref7_Encode.mono _ _ _ _ _ _ _ _
   | exact payrollref7_Sum.mono _ _
   | exact payrollref7_Valid.mono _ _ _ _ _ _ _ _
   | exact records_Encode.mono _ _ _ _ _ _ _ _
   | exact records_Sum.mono _ _
   | exact records_Valid.mono _ _ _ _ _ _ _ _
   | exact LeO.none _
   | refine LeO.ite ?_ ?_
   | refine LeO.bind ?_ (fun _ => ?_)
theorem payrolllaw7_RecordsEncode.mono : ∀ a0 a1 a2 a3 a4 a5 a6 a7 a8 k, LeO (payrolllaw7_RecordsEncode.f k a0 a1 a2 a3 a4 a5 a6 a7 a8) (payrolllaw7_RecordsEncode.f (k + 1) a0 a1 a2 a3 a4 a5 a6 a7 a8) := by
 intro a0 a1 a2 a3 a4 a5 a6 a7 a8 k
 obtain ⟨ih0, ih1⟩ := payrolllaw7_RecordsEncode.mono_l k
 unfold payrolllaw7_RecordsEncode.f
 repeat' first
   | (with_reducible exact ih0 _ _ _ _ _ _ _ _ _ _ _)
   | (with_reducible exact ih1 _ _ _ _ _ _ _ _ _ _ _ _ _ _ _ _ _ _)
   | (with_reducible exact payrolllaw7_sane.mono _)
   | (with_reducible exact payrollref7_Encode.mono _ _ _ _ _ _ _ _)
   | (with_reducible exact payrollref7_Sum.mono _ _)
   | (with_reducible exact payrollref7_Valid.mono _ _ _ _ _ _ _ _)
   | (with_reducible exact records_Encode.mono _ _ _ _ _ _ _ _)
   | (with_reducible exact records_Sum.mono _ _)
   | (with_reducible exact records_Valid.mono _ _ _ _ _ _ _ _)
   | (with_reducible exact LeO.refl _)
   | (with_reducible exact LeO.none _)
   | (with_reducible refine LeO.ite ?_ ?_)
   | (with_reducible refine LeO.bind ?_ (fun _ => ?_))
   | exact ih0 _ _ _ _ _ _ _ _ _ _ _
   | exact ih1 _ _ _ _ _ _ _ _ _ _ _ _ _ _ _ _ _ _
   | exact payrolllaw7_sane.mono _
   | exact payrollref7_Encode.mono _ _ _ _ _ _ _ _
   | exact payrollref7_Sum.mono _ _
   | exact payrollref7_Valid.mono _ _ _ _ _ _ _ _
   | exact records_Encode.mono _ _ _ _ _ _ _ _
   | exact records_Sum.mono _ _
   | exact records_Valid.mono _ _ _ _ _ _ _ _
   | exact LeO.none _
   | refine LeO.ite ?_ ?_
   | refine LeO.bind ?_ (fun _ => ?_)
def payrolllaw7_RecordsEncode.T13 : Bool × List (List Nat × List Nat) := (true, [([], []), ([0], [0]), ([], []), ([2], [2]), ([1, 3], [1, 3]), ([4], [4]), ([5], [5]), ([5], [5]), ([6, 7, 5], [5, 6, 7]), ([5, 8], [5, 8]), ([9, 5], [9]), ([10], [10]), ([11, 10, 10], [10, 11]), ([10], [10]), ([13, 12, 10], [10, 13]), ([12, 14, 10], [10, 12, 14]), ([10, 15], [10, 15])])
def payrolllaw7_RecordsEncode.B13 : List Nat := [0, 1, 0, 4, 15, 31, 63, 63, 255, 511, 1023, 2047, 4095, 2047, 16383, 32767, 65535]
theorem payrolllaw7_RecordsEncode.tab13 : rtab .any (opsOf Try.f3 13) = payrolllaw7_RecordsEncode.T13 := by kernel_rfl
theorem payrolllaw7_RecordsEncode.bits13 : waitsOk payrolllaw7_RecordsEncode.T13.2 payrolllaw7_RecordsEncode.B13 = true := by kernel_rfl
set_option maxHeartbeats 8000000 in
set_option maxRecDepth 100000 in
theorem payrolllaw7_RecordsEncode.calls (k : Nat) (A0 : Option Addr) (c0 : Nat) (l0 : List Int) (a1_0 : Int) (a1_1 : Int) (a1_2 : Int) (a1_3 : Int) (a1_4 : Int) (a1_5 : Int) (a1_6 : Int) (A2 : Option Addr) (c2 : Nat) (l2 : List Int) (r : Bool) (w : World) (hr0 : Kd.C (Kd.int .i64) w A0 l0.length l0) (hc0 : l0.length ≤ c0) (hr2 : Kd.C (Kd.int .u8) w A2 l2.length l2) (hc2 : l2.length ≤ c2) (h : payrolllaw7_RecordsEncode.f k l0 a1_0 a1_1 a1_2 a1_3 a1_4 a1_5 a1_6 l2 = some r) (hT : r = true) :
  Calls Try.prog 3 #[.slice A0 l0.length c0, .agg #[.int .i64 a1_0, .int .i64 a1_1, .int .i64 a1_2, .int .i64 a1_3, .int .i64 a1_4, .int .i64 a1_5, .int .i64 a1_6], .slice A2 l2.length c2] w fun e w' => e = .returned (.bool r) ∧ Below w.heap.size w w' := by
 have HT := Aside0.mk hT
 clear hT
 have hu26 := Try.underlying26
 have HR0 := Aside0.mk hr0
 have HC0 := Aside0.mk hc0
 clear hr0 hc0
 have HR2 := Aside0.mk hr2
 have HC2 := Aside0.mk hc2
 clear hr2 hc2
 have HB := Aside0.mk (Below.refl w.heap.size w)
 have H : ((payrollgen_New.f l0).bind fun bt333 => (payrolllaw7_RecordsEncode.l0 k l2 0 a1_0 a1_1 a1_2 a1_3 a1_4 a1_5 a1_6 bt333.1 bt333.2)) = some r := h
 clear h
 replace H := Option.bind_eq_some_iff.mp H
 obtain ⟨⟨t333, t334⟩, A40, H⟩ := H
 replace H : (payrolllaw7_RecordsEncode.l0 k l2 0 a1_0 a1_1 a1_2 a1_3 a1_4 a1_5 a1_6 t333 t334) = some r := H
 have A4 := Aside0.mk A40
 clear A40
 have H' := Aside0.mk H
 clear H
 go_enter Try.func3, Try.ntmps3
 go_wp2_with (first | ((with_reducible refine gate_dst (N := 4) rfl ?_); refine box_event ?hg (N := 4) ?hd (cs := #[.int .i64 a1_0, .int .i64 a1_1, .int .i64 a1_2, .int .i64 a1_3, .int .i64 a1_4, .int .i64 a1_5, .int .i64 a1_6]) (t := 26) ?hr ?_; (case hd => rfl); (case hg => rfl); (case hr => first | (go_simp; done) | (go_simp; rfl)); intro gb332 hg w5 hbox hb; have n0_ := Aside0.mk (below_step (by repeat (first | (with_reducible first | exact HB.out | apply below_alloc | apply pw_below_drewN | apply below_drew1) | exact HB.out)) hb); have n1_ := Aside0.mk (hbox); have n2_ := Aside0.mk ((by rw [hg]; exact (below_size (by repeat (first | (with_reducible first | exact HB.out | apply below_alloc | apply pw_below_drewN | apply below_drew1) | exact HB.out))) : w.heap.size ≤ gb332)); have n3_ := Aside0.mk ((by rw [hg]; exact (below_size (by repeat (first | (with_reducible first | exact HB.out | apply below_alloc | apply pw_below_drewN | apply below_drew1) | exact HB.out))) : w.heap.size ≤ gb332)); clear HB; have HB := n0_; have BK332 := n1_; have GW332 := n2_; have GE332 := n3_; clear n0_ n1_ n2_ n3_; clear hb hbox hg) | ((with_reducible refine gate_callee (f := 9) rfl ?_); refine goesL_ (some 15) rfl rfl Try.func9 (by kernel_rfl) rfl #[.slice A0 l0.length c0] rfl (by (try simp only [List.map_toArray, List.map_cons, List.map_nil]); first | done | rfl | (simp only [List.length_drop, List.length_take]; rfl)) ?_; (with_reducible refine (payrollgen_New.calls _ _ l0 t333 t334 w _ ?side1 ?side2 ?side3 A4.out).mono ?_); (case side1 => repeat (first | (with_reducible first | exact HB.out | apply below_alloc | apply pw_below_drewN | apply below_drew1 | refine below_set ?_ GE332.out) | exact HB.out)); (case side2 => exact HR0.out); (case side3 => exact HC0.out); rintro e w6 ⟨g335, rfl, hi, hb, hb2⟩; refine ⟨_, rfl, ?_⟩; have n0_ := Aside0.mk (blk_below (g := gb332) (o := .cells #[.int .i64 a1_0, .int .i64 a1_1, .int .i64 a1_2, .int .i64 a1_3, .int .i64 a1_4, .int .i64 a1_5, .int .i64 a1_6] 26 (0, 0)) (by (with_reducible repeat (first | refine blk_drewN ?_ _ | refine blk_drew ?_ | refine blk_alloc ?_ _)); exact BK332.out) hb2); have n1_ := Aside0.mk (hb); have n2_ := Aside0.mk (hi); have n3_ := Aside0.mk (IsS57.ne_blk hi (blk_below (g := gb332) (o := .cells #[.int .i64 a1_0, .int .i64 a1_1, .int .i64 a1_2, .int .i64 a1_3, .int .i64 a1_4, .int .i64 a1_5, .int .i64 a1_6] 26 (0, 0)) (by (with_reducible repeat (first | refine blk_drewN ?_ _ | refine blk_drew ?_ | refine blk_alloc ?_ _)); exact BK332.out) hb2) (by decide)); have n4_ := Aside0.mk (Ne.symm (IsS57.ne_blk hi (blk_below (g := gb332) (o := .cells #[.int .i64 a1_0, .int .i64 a1_1, .int .i64 a1_2, .int .i64 a1_3, .int .i64 a1_4, .int .i64 a1_5, .int .i64 a1_6] 26 (0, 0)) (by (with_reducible repeat (first | refine blk_drewN ?_ _ | refine blk_drew ?_ | refine blk_alloc ?_ _)); exact BK332.out) hb2) (by decide))); clear BK332; clear HB; have BK332 := n0_; have HB := n1_; have HI335 := n2_; have NB335_332 := n3_; have NB332_335 := n4_; clear n0_ n1_ n2_ n3_ n4_; (try clear hb); (try clear hb2); (try clear hk); (try clear hi)))
 go_loopg [8] k (fun kq v8 w' => ∃ (x8_1 : Int) (x336001_1 : Int), v8 = .int .i64 x8_1 ∧ Aside0 (payrolllaw7_RecordsEncode.l0 kq l2 x8_1 a1_0 a1_1 a1_2 a1_3 a1_4 a1_5 a1_6 t333 x336001_1 = some r) ∧ Aside0 (kq ≤ k) ∧ Aside0 (w'.heap[gb332]? = some (.cells #[.int .i64 a1_0, .int .i64 a1_1, .int .i64 a1_2, .int .i64 a1_3, .int .i64 a1_4, .int .i64 a1_5, .int .i64 a1_6] 26 (0, 0))) ∧ Aside0 (IsS57 w w' g335 t333 x336001_1) ∧ Aside0 (Below w.heap.size w w'))
 case atStart => exact ⟨(0), (t334), (by first | rfl | (simp; done) | (simp [*]; done)), H', ⟨Nat.le_refl _⟩, ⟨by (with_reducible repeat (first | refine blk_drewN ?_ _ | refine blk_drew ?_ | refine blk_alloc ?_ _)); exact BK332.out⟩, ⟨by repeat (first | (with_reducible first | exact HI335.out | apply IsS57.alloc | apply IsS57.drewN | apply IsS57.drew | apply IsS57.set_1 | refine IsS57.far ?_ NB335_332.out _) | exact HI335.out)⟩, ⟨by repeat (first | (with_reducible first | exact HB.out | apply below_alloc | apply pw_below_drewN | apply below_drew1 | refine below_set ?_ (IsS57.ge HI335.out) | refine below_set ?_ GE332.out) | exact HB.out)⟩⟩
 case round =>
  clear H'
  try clear c2
  try clear p2
  try clear c3
  obtain ⟨x8_1, x336001_1, rfl, HA, HK1, BK332, HI335, HB⟩ := hrel
  cases gk with
  | zero => exact absurd HA.out (by simp [payrolllaw7_RecordsEncode.l0])
  | succ k1 =>
   have H := HA.out
   clear HA
   simp only [payrolllaw7_RecordsEncode.l0] at H
   by_cases c7 : x8_1 < 5
   ·
    rw [if_pos c7] at H
    have c7b0 : decide (x8_1 < 5) = true := decide_eq_true c7
    clear c7
    replace H := Option.bind_eq_some_iff.mp H
    obtain ⟨⟨t340, t341, t342, t343, t344, t345, t346, t347⟩, A80, H⟩ := H
    replace H : (if x8_1 = 3 then ((payrollgen_Tape_SpoilEvent.f t333 t347 t340 t341 t342 t343 t344 t345 t346).bind fun bt349 => (payrolllaw7_RecordsEncode.j1 k1 l2 x8_1 a1_0 a1_1 a1_2 a1_3 a1_4 a1_5 a1_6 t333 bt349.2.2.2.2.2.2.2 bt349.1 bt349.2.1 bt349.2.2.1 bt349.2.2.2.1 bt349.2.2.2.2.1 bt349.2.2.2.2.2.1 bt349.2.2.2.2.2.2.1)) else (if x8_1 = 4 then (payrolllaw7_RecordsEncode.j1 k1 l2 x8_1 a1_0 a1_1 a1_2 a1_3 a1_4 a1_5 a1_6 t333 t347 a1_0 a1_1 a1_2 a1_3 a1_4 a1_5 a1_6) else (payrolllaw7_RecordsEncode.j1 k1 l2 x8_1 a1_0 a1_1 a1_2 a1_3 a1_4 a1_5 a1_6 t333 t347 t340 t341 t342 t343 t344 t345 t346))) = some r := H
    have A8 := Aside0.mk A80
    clear A80
    have HC9 := Aside0.mk H
    clear H
    go_upto_block 2 with (first | ((with_reducible refine gate_callee (f := 10) rfl ?_); refine goesL_ (some 21) rfl rfl Try.func10 (by kernel_rfl) rfl #[.pointer (some ⟨g335, 0, none⟩)] rfl (by (try simp only [List.map_toArray, List.map_cons, List.map_nil]); first | done | rfl | (simp only [List.length_drop, List.length_take]; rfl)) ?_; (with_reducible refine (payrollgen_Tape_Event.calls g335 t333 x336001_1 t340 t341 t342 t343 t344 t345 t346 t347 w _ ?side1 ?side2 A8.out).mono ?_); (case side1 => repeat (first | (with_reducible first | exact HI335.out | apply IsS57.alloc | apply IsS57.drewN | apply IsS57.drew | apply IsS57.set_1 | refine IsS57.far ?_ NB335_332.out _) | exact HI335.out)); (case side2 => repeat (first | (with_reducible first | exact HB.out | apply below_alloc | apply pw_below_drewN | apply below_drew1 | refine below_set ?_ (IsS57.ge HI335.out) | refine below_set ?_ GE332.out) | exact HB.out)); rintro e w10 ⟨rfl, hi, hb, hk⟩; refine ⟨_, rfl, ?_⟩; have n0_ := Aside0.mk (KeepBut.blk hk (g' := gb332) (o := .cells #[.int .i64 a1_0, .int .i64 a1_1, .int .i64 a1_2, .int .i64 a1_3, .int .i64 a1_4, .int .i64 a1_5, .int .i64 a1_6] 26 (0, 0)) (by (with_reducible repeat (first | refine blk_drewN ?_ _ | refine blk_drew ?_ | refine blk_alloc ?_ _)); exact BK332.out) NB332_335.out (by simp)); have n1_ := Aside0.mk (hb); have n2_ := Aside0.mk (hi); clear BK332; clear HB; clear HI335; have BK332 := n0_; have HB := n1_; have HI335 := n2_; clear n0_ n1_ n2_; (try clear hb); (try clear hb2); (try clear hk); (try clear hi)) | ((with_reducible refine gate_dst (N := 9) rfl ?_); refine box_event ?hg (N := 9) ?hd (cs := #[.int .i64 0, .int .i64 0, .int .i64 0, .int .i64 0, .int .i64 0, .int .i64 0, .int .i64 0]) (t := 26) ?hr ?_; (case hd => rfl); (case hg => rfl); (case hr => first | (go_simp; done) | (go_simp; rfl)); intro gb348 hg w11 hbox hb; have n0_ := Aside0.mk (blk_below (g := gb332) (o := .cells #[.int .i64 a1_0, .int .i64 a1_1, .int .i64 a1_2, .int .i64 a1_3, .int .i64 a1_4, .int .i64 a1_5, .int .i64 a1_6] 26 (0, 0)) (by (with_reducible repeat (first | refine blk_drewN ?_ _ | refine blk_drew ?_ | refine blk_alloc ?_ _)); exact BK332.out) hb); have n1_ := Aside0.mk (IsS57.below (by repeat (first | (with_reducible first | exact HI335.out | apply IsS57.alloc | apply IsS57.drewN | apply IsS57.drew | apply IsS57.set_1 | refine IsS57.far ?_ NB335_332.out _) | exact HI335.out)) hb); have n2_ := Aside0.mk (below_step (by repeat (first | (with_reducible first | exact HB.out | apply below_alloc | apply pw_below_drewN | apply below_drew1 | refine below_set ?_ (IsS57.ge HI335.out) | refine below_set ?_ GE332.out) | exact HB.out)) hb); have n3_ := Aside0.mk (hbox); have n4_ := Aside0.mk ((by rw [hg]; exact (below_size (by repeat (first | (with_reducible first | exact HB.out | apply below_alloc | apply pw_below_drewN | apply below_drew1 | refine below_set ?_ (IsS57.ge HI335.out) | refine below_set ?_ GE332.out) | exact HB.out))) : w.heap.size ≤ gb348)); have n5_ := Aside0.mk ((by rw [hg]; exact (below_size (by repeat (first | (with_reducible first | exact HB.out | apply below_alloc | apply pw_below_drewN | apply below_drew1 | refine below_set ?_ (IsS57.ge HI335.out) | refine below_set ?_ GE332.out) | exact HB.out))) : w.heap.size ≤ gb348)); have n6_ := Aside0.mk ((by rw [hg]; exact Nat.ne_of_lt (blk_lt (g := gb332) (o := .cells #[.int .i64 a1_0, .int .i64 a1_1, .int .i64 a1_2, .int .i64 a1_3, .int .i64 a1_4, .int .i64 a1_5, .int .i64 a1_6] 26 (0, 0)) (by (with_reducible repeat (first | refine blk_drewN ?_ _ | refine blk_drew ?_ | refine blk_alloc ?_ _)); exact BK332.out)) : gb332 ≠ gb348)); have n7_ := Aside0.mk ((by rw [hg]; exact Nat.ne_of_gt (blk_lt (g := gb332) (o := .cells #[.int .i64 a1_0, .int .i64 a1_1, .int .i64 a1_2, .int .i64 a1_3, .int .i64 a1_4, .int .i64 a1_5, .int .i64 a1_6] 26 (0, 0)) (by (with_reducible repeat (first | refine blk_drewN ?_ _ | refine blk_drew ?_ | refine blk_alloc ?_ _)); exact BK332.out)) : gb348 ≠ gb332)); have n8_ := Aside0.mk ((by rw [hg]; exact Nat.ne_of_lt (IsS57.lt (show IsS57 w _ g335 t333 t347 from by repeat (first | (with_reducible first | exact HI335.out | apply IsS57.alloc | apply IsS57.drewN | apply IsS57.drew | apply IsS57.set_1 | refine IsS57.far ?_ NB335_332.out _) | exact HI335.out))) : g335 ≠ gb348)); have n9_ := Aside0.mk ((by rw [hg]; exact Nat.ne_of_gt (IsS57.lt (show IsS57 w _ g335 t333 t347 from by repeat (first | (with_reducible first | exact HI335.out | apply IsS57.alloc | apply IsS57.drewN | apply IsS57.drew | apply IsS57.set_1 | refine IsS57.far ?_ NB335_332.out _) | exact HI335.out))) : gb348 ≠ g335)); clear BK332; clear HI335; clear HB; have BK332 := n0_; have HI335 := n1_; have HB := n2_; have BK348 := n3_; have GW348 := n4_; have GE348 := n5_; have NB332_348 := n6_; have NB348_332 := n7_; have NB335_348 := n8_; have NB348_335 := n9_; clear n0_ n1_ n2_ n3_ n4_ n5_ n6_ n7_ n8_ n9_; clear hb hbox hg; have hnb12 := NB348_332.out; have hnc12 := NB332_348.out; have hnb13 := NB348_335.out; have hnc13 := NB335_348.out; have hcz14_0 : w11.cell? ⟨gb348, 0, none⟩ = some (.int .i64 0) := (blk_cell BK348.out 0).trans rfl; have hcz14_1 : w11.cell? ⟨gb348, 1, none⟩ = some (.int .i64 0) := (blk_cell BK348.out 1).trans rfl; have hcz14_2 : w11.cell? ⟨gb348, 2, none⟩ = some (.int .i64 0) := (blk_cell BK348.out 2).trans rfl; have hcz14_3 : w11.cell? ⟨gb348, 3, none⟩ = some (.int .i64 0) := (blk_cell BK348.out 3).trans rfl; have hcz14_4 : w11.cell? ⟨gb348, 4, none⟩ = some (.int .i64 0) := (blk_cell BK348.out 4).trans rfl; have hcz14_5 : w11.cell? ⟨gb348, 5, none⟩ = some (.int .i64 0) := (blk_cell BK348.out 5).trans rfl; have hcz14_6 : w11.cell? ⟨gb348, 6, none⟩ = some (.int .i64 0) := (blk_cell BK348.out 6).trans rfl; have hfz14_0 := blk_frozen BK348.out 0; have hfz14_1 := blk_frozen BK348.out 1; have hfz14_2 := blk_frozen BK348.out 2; have hfz14_3 := blk_frozen BK348.out 3; have hfz14_4 := blk_frozen BK348.out 4; have hfz14_5 := blk_frozen BK348.out 5; have hfz14_6 := blk_frozen BK348.out 6))
    (try simp only [Act.put, List.setIfInBounds_toArray, List.set_cons_zero, List.set_cons_succ])
    go_cut [] (fun wc => ∃ (kq : Nat) (x336001_8 : Int) (x349000_8 : Int) (x349001_8 : Int) (x349002_8 : Int) (x349003_8 : Int) (x349004_8 : Int) (x349005_8 : Int) (x349006_8 : Int), Aside0 (payrolllaw7_RecordsEncode.j1 kq l2 x8_1 a1_0 a1_1 a1_2 a1_3 a1_4 a1_5 a1_6 t333 x336001_8 x349000_8 x349001_8 x349002_8 x349003_8 x349004_8 x349005_8 x349006_8 = some r) ∧ Aside0 (kq ≤ k1) ∧ Aside0 (wc.heap[gb332]? = some (.cells #[.int .i64 a1_0, .int .i64 a1_1, .int .i64 a1_2, .int .i64 a1_3, .int .i64 a1_4, .int .i64 a1_5, .int .i64 a1_6] 26 (0, 0))) ∧ Aside0 (wc.heap[gb348]? = some (.cells #[.int .i64 x349000_8, .int .i64 x349001_8, .int .i64 x349002_8, .int .i64 x349003_8, .int .i64 x349004_8, .int .i64 x349005_8, .int .i64 x349006_8] 26 (0, 0))) ∧ Aside0 (IsS57 w wc g335 t333 x336001_8) ∧ Aside0 (Below w.heap.size w wc))
    case first =>
     have H := HC9.out
     clear HC9
     by_cases c15 : x8_1 = 3
     ·
      rw [if_pos c15] at H
      have c15b0 : (x8_1 == 3) = true := beq_iff_eq.mpr c15
      have c15b1 : (x8_1 != 3) = false := bne_eq_false_iff_eq.mpr c15
      clear c15
      (first | rw [c15b0] | (simp only [i64_w, i32_w]; rw [c15b0]) | skip)
      replace H := Option.bind_eq_some_iff.mp H
      obtain ⟨⟨t349, t350, t351, t352, t353, t354, t355, t356⟩, A160, H⟩ := H
      replace H : (payrolllaw7_RecordsEncode.j1 k1 l2 x8_1 a1_0 a1_1 a1_2 a1_3 a1_4 a1_5 a1_6 t333 t356 t349 t350 t351 t352 t353 t354 t355) = some r := H
      have A16 := Aside0.mk A160
      clear A160
      have H' := Aside0.mk H
      clear H
      have hnb17 := NB348_332.out
      have hnc17 := NB332_348.out
      have hnb18 := NB348_335.out
      have hnc18 := NB335_348.out
      have hcz19_0 : w11.cell? ⟨gb348, 0, none⟩ = some (.int .i64 0) := (blk_cell BK348.out 0).trans rfl
      have hcz19_1 : w11.cell? ⟨gb348, 1, none⟩ = some (.int .i64 0) := (blk_cell BK348.out 1).trans rfl
      have hcz19_2 : w11.cell? ⟨gb348, 2, none⟩ = some (.int .i64 0) := (blk_cell BK348.out 2).trans rfl
      have hcz19_3 : w11.cell? ⟨gb348, 3, none⟩ = some (.int .i64 0) := (blk_cell BK348.out 3).trans rfl
      have hcz19_4 : w11.cell? ⟨gb348, 4, none⟩ = some (.int .i64 0) := (blk_cell BK348.out 4).trans rfl
      have hcz19_5 : w11.cell? ⟨gb348, 5, none⟩ = some (.int .i64 0) := (blk_cell BK348.out 5).trans rfl
      have hcz19_6 : w11.cell? ⟨gb348, 6, none⟩ = some (.int .i64 0) := (blk_cell BK348.out 6).trans rfl
      have hfz19_0 := blk_frozen BK348.out 0
      have hfz19_1 := blk_frozen BK348.out 1
      have hfz19_2 := blk_frozen BK348.out 2
      have hfz19_3 := blk_frozen BK348.out 3
      have hfz19_4 := blk_frozen BK348.out 4
      have hfz19_5 := blk_frozen BK348.out 5
      have hfz19_6 := blk_frozen BK348.out 6
      go_wp2_with (first | ((with_reducible refine gate_callee (f := 11) rfl ?_); refine goesL_ (some 27) rfl rfl Try.func11 (by kernel_rfl) rfl #[.pointer (some ⟨g335, 0, none⟩), .agg #[.int .i64 t340, .int .i64 t341, .int .i64 t342, .int .i64 t343, .int .i64 t344, .int .i64 t345, .int .i64 t346]] rfl (by (try simp only [List.map_toArray, List.map_cons, List.map_nil]); first | done | rfl | (simp only [List.length_drop, List.length_take]; rfl)) ?_; (with_reducible refine (payrollgen_Tape_SpoilEvent.calls g335 t333 t347 t340 t341 t342 t343 t344 t345 t346 t349 t350 t351 t352 t353 t354 t355 t356 w _ ?side1 ?side2 A16.out).mono ?_); (case side1 => repeat (first | (with_reducible first | exact HI335.out | apply IsS57.alloc | apply IsS57.drewN | apply IsS57.drew | apply IsS57.set_1 | refine IsS57.far ?_ NB335_332.out _ | refine IsS57.far ?_ NB335_348.out _) | exact HI335.out)); (case side2 => repeat (first | (with_reducible first | exact HB.out | apply below_alloc | apply pw_below_drewN | apply below_drew1 | refine below_set ?_ (IsS57.ge HI335.out) | refine below_set ?_ GE332.out | refine below_set ?_ GE348.out) | exact HB.out)); rintro e w20 ⟨rfl, hi, hb, hk⟩; refine ⟨_, rfl, ?_⟩; have n0_ := Aside0.mk (KeepBut.blk hk (g' := gb332) (o := .cells #[.int .i64 a1_0, .int .i64 a1_1, .int .i64 a1_2, .int .i64 a1_3, .int .i64 a1_4, .int .i64 a1_5, .int .i64 a1_6] 26 (0, 0)) (by (with_reducible repeat (first | refine blk_drewN ?_ _ | refine blk_drew ?_ | refine blk_alloc ?_ _)); refine blk_far ?_ NB332_348.out _; (with_reducible repeat (first | refine blk_drewN ?_ _ | refine blk_drew ?_ | refine blk_alloc ?_ _)); refine blk_far ?_ NB332_348.out _; (with_reducible repeat (first | refine blk_drewN ?_ _ | refine blk_drew ?_ | refine blk_alloc ?_ _)); refine blk_far ?_ NB332_348.out _; (with_reducible repeat (first | refine blk_drewN ?_ _ | refine blk_drew ?_ | refine blk_alloc ?_ _)); refine blk_far ?_ NB332_348.out _; (with_reducible repeat (first | refine blk_drewN ?_ _ | refine blk_drew ?_ | refine blk_alloc ?_ _)); refine blk_far ?_ NB332_348.out _; (with_reducible repeat (first | refine blk_drewN ?_ _ | refine blk_drew ?_ | refine blk_alloc ?_ _)); refine blk_far ?_ NB332_348.out _; (with_reducible repeat (first | refine blk_drewN ?_ _ | refine blk_drew ?_ | refine blk_alloc ?_ _)); refine blk_far ?_ NB332_348.out _; (with_reducible repeat (first | refine blk_drewN ?_ _ | refine blk_drew ?_ | refine blk_alloc ?_ _)); exact BK332.out) NB332_335.out (by simp)); have n1_ := Aside0.mk (KeepBut.blk hk (g' := gb348) (o := .cells #[.int .i64 t340, .int .i64 t341, .int .i64 t342, .int .i64 t343, .int .i64 t344, .int .i64 t345, .int .i64 t346] 26 (0, 0)) (by (with_reducible repeat (first | refine blk_drewN ?_ _ | refine blk_drew ?_ | refine blk_alloc ?_ _)); refine blk_put (cs := #[.int .i64 t340, .int .i64 t341, .int .i64 t342, .int .i64 t343, .int .i64 t344, .int .i64 t345, .int .i64 0]) ?_ 6 _ rfl; (with_reducible repeat (first | refine blk_drewN ?_ _ | refine blk_drew ?_ | refine blk_alloc ?_ _)); refine blk_put (cs := #[.int .i64 t340, .int .i64 t341, .int .i64 t342, .int .i64 t343, .int .i64 t344, .int .i64 0, .int .i64 0]) ?_ 5 _ rfl; (with_reducible repeat (first | refine blk_drewN ?_ _ | refine blk_drew ?_ | refine blk_alloc ?_ _)); refine blk_put (cs := #[.int .i64 t340, .int .i64 t341, .int .i64 t342, .int .i64 t343, .int .i64 0, .int .i64 0, .int .i64 0]) ?_ 4 _ rfl; (with_reducible repeat (first | refine blk_drewN ?_ _ | refine blk_drew ?_ | refine blk_alloc ?_ _)); refine blk_put (cs := #[.int .i64 t340, .int .i64 t341, .int .i64 t342, .int .i64 0, .int .i64 0, .int .i64 0, .int .i64 0]) ?_ 3 _ rfl; (with_reducible repeat (first | refine blk_drewN ?_ _ | refine blk_drew ?_ | refine blk_alloc ?_ _)); refine blk_put (cs := #[.int .i64 t340, .int .i64 t341, .int .i64 0, .int .i64 0, .int .i64 0, .int .i64 0, .int .i64 0]) ?_ 2 _ rfl; (with_reducible repeat (first | refine blk_drewN ?_ _ | refine blk_drew ?_ | refine blk_alloc ?_ _)); refine blk_put (cs := #[.int .i64 t340, .int .i64 0, .int .i64 0, .int .i64 0, .int .i64 0, .int .i64 0, .int .i64 0]) ?_ 1 _ rfl; (with_reducible repeat (first | refine blk_drewN ?_ _ | refine blk_drew ?_ | refine blk_alloc ?_ _)); refine blk_put (cs := #[.int .i64 0, .int .i64 0, .int .i64 0, .int .i64 0, .int .i64 0, .int .i64 0, .int .i64 0]) ?_ 0 _ rfl; (with_reducible repeat (first | refine blk_drewN ?_ _ | refine blk_drew ?_ | refine blk_alloc ?_ _)); exact BK348.out) NB348_335.out (by simp)); have n2_ := Aside0.mk (hb); have n3_ := Aside0.mk (hi); clear BK332; clear BK348; clear HB; clear HI335; have BK332 := n0_; have BK348 := n1_; have HB := n2_; have HI335 := n3_; clear n0_ n1_ n2_ n3_; (try clear hb); (try clear hb2); (try clear hk); (try clear hi); have hcz21_0 : w20.cell? ⟨gb348, 0, none⟩ = some (.int .i64 t340) := (blk_cell BK348.out 0).trans rfl; have hcz21_1 : w20.cell? ⟨gb348, 1, none⟩ = some (.int .i64 t341) := (blk_cell BK348.out 1).trans rfl; have hcz21_2 : w20.cell? ⟨gb348, 2, none⟩ = some (.int .i64 t342) := (blk_cell BK348.out 2).trans rfl; have hcz21_3 : w20.cell? ⟨gb348, 3, none⟩ = some (.int .i64 t343) := (blk_cell BK348.out 3).trans rfl; have hcz21_4 : w20.cell? ⟨gb348, 4, none⟩ = some (.int .i64 t344) := (blk_cell BK348.out 4).trans rfl; have hcz21_5 : w20.cell? ⟨gb348, 5, none⟩ = some (.int .i64 t345) := (blk_cell BK348.out 5).trans rfl; have hcz21_6 : w20.cell? ⟨gb348, 6, none⟩ = some (.int .i64 t346) := (blk_cell BK348.out 6).trans rfl; have hfz21_0 := blk_frozen BK348.out 0; have hfz21_1 := blk_frozen BK348.out 1; have hfz21_2 := blk_frozen BK348.out 2; have hfz21_3 := blk_frozen BK348.out 3; have hfz21_4 := blk_frozen BK348.out 4; have hfz21_5 := blk_frozen BK348.out 5; have hfz21_6 := blk_frozen BK348.out 6))
      go_meet
      case rel => exact ⟨_, (t356), (t349), (t350), (t351), (t352), (t353), (t354), (t355), H', ⟨by have := HK1.out; first | omega | exact Nat.le_refl _⟩, ⟨by (with_reducible repeat (first | refine blk_drewN ?_ _ | refine blk_drew ?_ | refine blk_alloc ?_ _)); refine blk_far ?_ NB332_348.out _; (with_reducible repeat (first | refine blk_drewN ?_ _ | refine blk_drew ?_ | refine blk_alloc ?_ _)); refine blk_far ?_ NB332_348.out _; (with_reducible repeat (first | refine blk_drewN ?_ _ | refine blk_drew ?_ | refine blk_alloc ?_ _)); refine blk_far ?_ NB332_348.out _; (with_reducible repeat (first | refine blk_drewN ?_ _ | refine blk_drew ?_ | refine blk_alloc ?_ _)); refine blk_far ?_ NB332_348.out _; (with_reducible repeat (first | refine blk_drewN ?_ _ | refine blk_drew ?_ | refine blk_alloc ?_ _)); refine blk_far ?_ NB332_348.out _; (with_reducible repeat (first | refine blk_drewN ?_ _ | refine blk_drew ?_ | refine blk_alloc ?_ _)); refine blk_far ?_ NB332_348.out _; (with_reducible repeat (first | refine blk_drewN ?_ _ | refine blk_drew ?_ | refine blk_alloc ?_ _)); refine blk_far ?_ NB332_348.out _; (with_reducible repeat (first | refine blk_drewN ?_ _ | refine blk_drew ?_ | refine blk_alloc ?_ _)); exact BK332.out⟩, ⟨by (with_reducible repeat (first | refine blk_drewN ?_ _ | refine blk_drew ?_ | refine blk_alloc ?_ _)); refine blk_put (cs := #[.int .i64 t349, .int .i64 t350, .int .i64 t351, .int .i64 t352, .int .i64 t353, .int .i64 t354, .int .i64 t346]) ?_ 6 _ rfl; (with_reducible repeat (first | refine blk_drewN ?_ _ | refine blk_drew ?_ | refine blk_alloc ?_ _)); refine blk_put (cs := #[.int .i64 t349, .int .i64 t350, .int .i64 t351, .int .i64 t352, .int .i64 t353, .int .i64 t345, .int .i64 t346]) ?_ 5 _ rfl; (with_reducible repeat (first | refine blk_drewN ?_ _ | refine blk_drew ?_ | refine blk_alloc ?_ _)); refine blk_put (cs := #[.int .i64 t349, .int .i64 t350, .int .i64 t351, .int .i64 t352, .int .i64 t344, .int .i64 t345, .int .i64 t346]) ?_ 4 _ rfl; (with_reducible repeat (first | refine blk_drewN ?_ _ | refine blk_drew ?_ | refine blk_alloc ?_ _)); refine blk_put (cs := #[.int .i64 t349, .int .i64 t350, .int .i64 t351, .int .i64 t343, .int .i64 t344, .int .i64 t345, .int .i64 t346]) ?_ 3 _ rfl; (with_reducible repeat (first | refine blk_drewN ?_ _ | refine blk_drew ?_ | refine blk_alloc ?_ _)); refine blk_put (cs := #[.int .i64 t349, .int .i64 t350, .int .i64 t342, .int .i64 t343, .int .i64 t344, .int .i64 t345, .int .i64 t346]) ?_ 2 _ rfl; (with_reducible repeat (first | refine blk_drewN ?_ _ | refine blk_drew ?_ | refine blk_alloc ?_ _)); refine blk_put (cs := #[.int .i64 t349, .int .i64 t341, .int .i64 t342, .int .i64 t343, .int .i64 t344, .int .i64 t345, .int .i64 t346]) ?_ 1 _ rfl; (with_reducible repeat (first | refine blk_drewN ?_ _ | refine blk_drew ?_ | refine blk_alloc ?_ _)); refine blk_put (cs := #[.int .i64 t340, .int .i64 t341, .int .i64 t342, .int .i64 t343, .int .i64 t344, .int .i64 t345, .int .i64 t346]) ?_ 0 _ rfl; (with_reducible repeat (first | refine blk_drewN ?_ _ | refine blk_drew ?_ | refine blk_alloc ?_ _)); exact BK348.out⟩, ⟨by repeat (first | (with_reducible first | exact HI335.out | apply IsS57.alloc | apply IsS57.drewN | apply IsS57.drew | apply IsS57.set_1 | refine IsS57.far ?_ NB335_332.out _ | refine IsS57.far ?_ NB335_348.out _) | exact HI335.out)⟩, ⟨by repeat (first | (with_reducible first | exact HB.out | apply below_alloc | apply pw_below_drewN | apply below_drew1 | refine below_set ?_ (IsS57.ge HI335.out) | refine below_set ?_ GE332.out | refine below_set ?_ GE348.out) | exact HB.out)⟩⟩
     ·
      rw [if_neg c15] at H
      have c15b0 : (x8_1 == 3) = false := beq_eq_false_iff_ne.mpr c15
      have c15b1 : (x8_1 != 3) = true := bne_iff_ne.mpr c15
      (first | rw [c15b0] | (simp only [i64_w, i32_w]; rw [c15b0]) | skip)
      by_cases c22 : x8_1 = 4
      ·
       rw [if_pos c22] at H
       have c22b0 : (x8_1 == 4) = true := beq_iff_eq.mpr c22
       have c22b1 : (x8_1 != 4) = false := bne_eq_false_iff_eq.mpr c22
       clear c22
       have H' := Aside0.mk H
       clear H
       have hnb23 := NB332_348.out
       have hnc23 := NB348_332.out
       have hnb24 := NB332_335.out
       have hnc24 := NB335_332.out
       have hcz25_0 : w11.cell? ⟨gb332, 0, none⟩ = some (.int .i64 a1_0) := (blk_cell BK332.out 0).trans rfl
       have hcz25_1 : w11.cell? ⟨gb332, 1, none⟩ = some (.int .i64 a1_1) := (blk_cell BK332.out 1).trans rfl
       have hcz25_2 : w11.cell? ⟨gb332, 2, none⟩ = some (.int .i64 a1_2) := (blk_cell BK332.out 2).trans rfl
       have hcz25_3 : w11.cell? ⟨gb332, 3, none⟩ = some (.int .i64 a1_3) := (blk_cell BK332.out 3).trans rfl
       have hcz25_4 : w11.cell? ⟨gb332, 4, none⟩ = some (.int .i64 a1_4) := (blk_cell BK332.out 4).trans rfl
       have hcz25_5 : w11.cell? ⟨gb332, 5, none⟩ = some (.int .i64 a1_5) := (blk_cell BK332.out 5).trans rfl
       have hcz25_6 : w11.cell? ⟨gb332, 6, none⟩ = some (.int .i64 a1_6) := (blk_cell BK332.out 6).trans rfl
       have hfz25_0 := blk_frozen BK332.out 0
       have hfz25_1 := blk_frozen BK332.out 1
       have hfz25_2 := blk_frozen BK332.out 2
       have hfz25_3 := blk_frozen BK332.out 3
       have hfz25_4 := blk_frozen BK332.out 4
       have hfz25_5 := blk_frozen BK332.out 5
       have hfz25_6 := blk_frozen BK332.out 6
       have hnb26 := NB348_335.out
       have hnc26 := NB335_348.out
       have hcz27_0 : w11.cell? ⟨gb348, 0, none⟩ = some (.int .i64 0) := (blk_cell BK348.out 0).trans rfl
       have hcz27_1 : w11.cell? ⟨gb348, 1, none⟩ = some (.int .i64 0) := (blk_cell BK348.out 1).trans rfl
       have hcz27_2 : w11.cell? ⟨gb348, 2, none⟩ = some (.int .i64 0) := (blk_cell BK348.out 2).trans rfl
       have hcz27_3 : w11.cell? ⟨gb348, 3, none⟩ = some (.int .i64 0) := (blk_cell BK348.out 3).trans rfl
       have hcz27_4 : w11.cell? ⟨gb348, 4, none⟩ = some (.int .i64 0) := (blk_cell BK348.out 4).trans rfl
       have hcz27_5 : w11.cell? ⟨gb348, 5, none⟩ = some (.int .i64 0) := (blk_cell BK348.out 5).trans rfl
       have hcz27_6 : w11.cell? ⟨gb348, 6, none⟩ = some (.int .i64 0) := (blk_cell BK348.out 6).trans rfl
       have hfz27_0 := blk_frozen BK348.out 0
       have hfz27_1 := blk_frozen BK348.out 1
       have hfz27_2 := blk_frozen BK348.out 2
       have hfz27_3 := blk_frozen BK348.out 3
       have hfz27_4 := blk_frozen BK348.out 4
       have hfz27_5 := blk_frozen BK348.out 5
       have hfz27_6 := blk_frozen BK348.out 6
       go_wp2
       go_meet
       case rel => exact ⟨_, (t347), (a1_0), (a1_1), (a1_2), (a1_3), (a1_4), (a1_5), (a1_6), H', ⟨by have := HK1.out; first | omega | exact Nat.le_refl _⟩, ⟨by (with_reducible repeat (first | refine blk_drewN ?_ _ | refine blk_drew ?_ | refine blk_alloc ?_ _)); refine blk_far ?_ NB332_348.out _; (with_reducible repeat (first | refine blk_drewN ?_ _ | refine blk_drew ?_ | refine blk_alloc ?_ _)); refine blk_far ?_ NB332_348.out _; (with_reducible repeat (first | refine blk_drewN ?_ _ | refine blk_drew ?_ | refine blk_alloc ?_ _)); refine blk_far ?_ NB332_348.out _; (with_reducible repeat (first | refine blk_drewN ?_ _ | refine blk_drew ?_ | refine blk_alloc ?_ _)); refine blk_far ?_ NB332_348.out _; (with_reducible repeat (first | refine blk_drewN ?_ _ | refine blk_drew ?_ | refine blk_alloc ?_ _)); refine blk_far ?_ NB332_348.out _; (with_reducible repeat (first | refine blk_drewN ?_ _ | refine blk_drew ?_ | refine blk_alloc ?_ _)); refine blk_far ?_ NB332_348.out _; (with_reducible repeat (first | refine blk_drewN ?_ _ | refine blk_drew ?_ | refine blk_alloc ?_ _)); refine blk_far ?_ NB332_348.out _; (with_reducible repeat (first | refine blk_drewN ?_ _ | refine blk_drew ?_ | refine blk_alloc ?_ _)); refine blk_far ?_ NB332_348.out _; (with_reducible repeat (first | refine blk_drewN ?_ _ | refine blk_drew ?_ | refine blk_alloc ?_ _)); refine blk_far ?_ NB332_348.out _; (with_reducible repeat (first | refine blk_drewN ?_ _ | refine blk_drew ?_ | refine blk_alloc ?_ _)); refine blk_far ?_ NB332_348.out _; (with_reducible repeat (first | refine blk_drewN ?_ _ | refine blk_drew ?_ | refine blk_alloc ?_ _)); refine blk_far ?_ NB332_348.out _; (with_reducible repeat (first | refine blk_drewN ?_ _ | refine blk_drew ?_ | refine blk_alloc ?_ _)); refine blk_far ?_ NB332_348.out _; (with_reducible repeat (first | refine blk_drewN ?_ _ | refine blk_drew ?_ | refine blk_alloc ?_ _)); refine blk_far ?_ NB332_348.out _; (with_reducible repeat (first | refine blk_drewN ?_ _ | refine blk_drew ?_ | refine blk_alloc ?_ _)); refine blk_far ?_ NB332_348.out _; (with_reducible repeat (first | refine blk_drewN ?_ _ | refine blk_drew ?_ | refine blk_alloc ?_ _)); exact BK332.out⟩, ⟨by (with_reducible repeat (first | refine blk_drewN ?_ _ | refine blk_drew ?_ | refine blk_alloc ?_ _)); refine blk_put (cs := #[.int .i64 a1_0, .int .i64 a1_1, .int .i64 a1_2, .int .i64 a1_3, .int .i64 a1_4, .int .i64 a1_5, .int .i64 t346]) ?_ 6 _ rfl; (with_reducible repeat (first | refine blk_drewN ?_ _ | refine blk_drew ?_ | refine blk_alloc ?_ _)); refine blk_put (cs := #[.int .i64 a1_0, .int .i64 a1_1, .int .i64 a1_2, .int .i64 a1_3, .int .i64 a1_4, .int .i64 t345, .int .i64 t346]) ?_ 5 _ rfl; (with_reducible repeat (first | refine blk_drewN ?_ _ | refine blk_drew ?_ | refine blk_alloc ?_ _)); refine blk_put (cs := #[.int .i64 a1_0, .int .i64 a1_1, .int .i64 a1_2, .int .i64 a1_3, .int .i64 t344, .int .i64 t345, .int .i64 t346]) ?_ 4 _ rfl; (with_reducible repeat (first | refine blk_drewN ?_ _ | refine blk_drew ?_ | refine blk_alloc ?_ _)); refine blk_put (cs := #[.int .i64 a1_0, .int .i64 a1_1, .int .i64 a1_2, .int .i64 t343, .int .i64 t344, .int .i64 t345, .int .i64 t346]) ?_ 3 _ rfl; (with_reducible repeat (first | refine blk_drewN ?_ _ | refine blk_drew ?_ | refine blk_alloc ?_ _)); refine blk_put (cs := #[.int .i64 a1_0, .int .i64 a1_1, .int .i64 t342, .int .i64 t343, .int .i64 t344, .int .i64 t345, .int .i64 t346]) ?_ 2 _ rfl; (with_reducible repeat (first | refine blk_drewN ?_ _ | refine blk_drew ?_ | refine blk_alloc ?_ _)); refine blk_put (cs := #[.int .i64 a1_0, .int .i64 t341, .int .i64 t342, .int .i64 t343, .int .i64 t344, .int .i64 t345, .int .i64 t346]) ?_ 1 _ rfl; (with_reducible repeat (first | refine blk_drewN ?_ _ | refine blk_drew ?_ | refine blk_alloc ?_ _)); refine blk_put (cs := #[.int .i64 t340, .int .i64 t341, .int .i64 t342, .int .i64 t343, .int .i64 t344, .int .i64 t345, .int .i64 t346]) ?_ 0 _ rfl; (with_reducible repeat (first | refine blk_drewN ?_ _ | refine blk_drew ?_ | refine blk_alloc ?_ _)); refine blk_put (cs := #[.int .i64 t340, .int .i64 t341, .int .i64 t342, .int .i64 t343, .int .i64 t344, .int .i64 t345, .int .i64 0]) ?_ 6 _ rfl; (with_reducible repeat (first | refine blk_drewN ?_ _ | refine blk_drew ?_ | refine blk_alloc ?_ _)); refine blk_put (cs := #[.int .i64 t340, .int .i64 t341, .int .i64 t342, .int .i64 t343, .int .i64 t344, .int .i64 0, .int .i64 0]) ?_ 5 _ rfl; (with_reducible repeat (first | refine blk_drewN ?_ _ | refine blk_drew ?_ | refine blk_alloc ?_ _)); refine blk_put (cs := #[.int .i64 t340, .int .i64 t341, .int .i64 t342, .int .i64 t343, .int .i64 0, .int .i64 0, .int .i64 0]) ?_ 4 _ rfl; (with_reducible repeat (first | refine blk_drewN ?_ _ | refine blk_drew ?_ | refine blk_alloc ?_ _)); refine blk_put (cs := #[.int .i64 t340, .int .i64 t341, .int .i64 t342, .int .i64 0, .int .i64 0, .int .i64 0, .int .i64 0]) ?_ 3 _ rfl; (with_reducible repeat (first | refine blk_drewN ?_ _ | refine blk_drew ?_ | refine blk_alloc ?_ _)); refine blk_put (cs := #[.int .i64 t340, .int .i64 t341, .int .i64 0, .int .i64 0, .int .i64 0, .int .i64 0, .int .i64 0]) ?_ 2 _ rfl; (with_reducible repeat (first | refine blk_drewN ?_ _ | refine blk_drew ?_ | refine blk_alloc ?_ _)); refine blk_put (cs := #[.int .i64 t340, .int .i64 0, .int .i64 0, .int .i64 0, .int .i64 0, .int .i64 0, .int .i64 0]) ?_ 1 _ rfl; (with_reducible repeat (first | refine blk_drewN ?_ _ | refine blk_drew ?_ | refine blk_alloc ?_ _)); refine blk_put (cs := #[.int .i64 0, .int .i64 0, .int .i64 0, .int .i64 0, .int .i64 0, .int .i64 0, .int .i64 0]) ?_ 0 _ rfl; (with_reducible repeat (first | refine blk_drewN ?_ _ | refine blk_drew ?_ | refine blk_alloc ?_ _)); exact BK348.out⟩, ⟨by repeat (first | (with_reducible first | exact HI335.out | apply IsS57.alloc | apply IsS57.drewN | apply IsS57.drew | apply IsS57.set_1 | refine IsS57.far ?_ NB335_332.out _ | refine IsS57.far ?_ NB335_348.out _) | exact HI335.out)⟩, ⟨by repeat (first | (with_reducible first | exact HB.out | apply below_alloc | apply pw_below_drewN | apply below_drew1 | refine below_set ?_ (IsS57.ge HI335.out) | refine below_set ?_ GE332.out | refine below_set ?_ GE348.out) | exact HB.out)⟩⟩
      ·
       rw [if_neg c22] at H
       have c22b0 : (x8_1 == 4) = false := beq_eq_false_iff_ne.mpr c22
       have c22b1 : (x8_1 != 4) = true := bne_iff_ne.mpr c22
       have H' := Aside0.mk H
       clear H
       go_wp2
       go_meet
       case rel => exact ⟨_, (t347), (t340), (t341), (t342), (t343), (t344), (t345), (t346), H', ⟨by have := HK1.out; first | omega | exact Nat.le_refl _⟩, ⟨by (with_reducible repeat (first | refine blk_drewN ?_ _ | refine blk_drew ?_ | refine blk_alloc ?_ _)); refine blk_far ?_ NB332_348.out _; (with_reducible repeat (first | refine blk_drewN ?_ _ | refine blk_drew ?_ | refine blk_alloc ?_ _)); refine blk_far ?_ NB332_348.out _; (with_reducible repeat (first | refine blk_drewN ?_ _ | refine blk_drew ?_ | refine blk_alloc ?_ _)); refine blk_far ?_ NB332_348.out _; (with_reducible repeat (first | refine blk_drewN ?_ _ | refine blk_drew ?_ | refine blk_alloc ?_ _)); refine blk_far ?_ NB332_348.out _; (with_reducible repeat (first | refine blk_drewN ?_ _ | refine blk_drew ?_ | refine blk_alloc ?_ _)); refine blk_far ?_ NB332_348.out _; (with_reducible repeat (first | refine blk_drewN ?_ _ | refine blk_drew ?_ | refine blk_alloc ?_ _)); refine blk_far ?_ NB332_348.out _; (with_reducible repeat (first | refine blk_drewN ?_ _ | refine blk_drew ?_ | refine blk_alloc ?_ _)); refine blk_far ?_ NB332_348.out _; (with_reducible repeat (first | refine blk_drewN ?_ _ | refine blk_drew ?_ | refine blk_alloc ?_ _)); exact BK332.out⟩, ⟨by (with_reducible repeat (first | refine blk_drewN ?_ _ | refine blk_drew ?_ | refine blk_alloc ?_ _)); refine blk_put (cs := #[.int .i64 t340, .int .i64 t341, .int .i64 t342, .int .i64 t343, .int .i64 t344, .int .i64 t345, .int .i64 0]) ?_ 6 _ rfl; (with_reducible repeat (first | refine blk_drewN ?_ _ | refine blk_drew ?_ | refine blk_alloc ?_ _)); refine blk_put (cs := #[.int .i64 t340, .int .i64 t341, .int .i64 t342, .int .i64 t343, .int .i64 t344, .int .i64 0, .int .i64 0]) ?_ 5 _ rfl; (with_reducible repeat (first | refine blk_drewN ?_ _ | refine blk_drew ?_ | refine blk_alloc ?_ _)); refine blk_put (cs := #[.int .i64 t340, .int .i64 t341, .int .i64 t342, .int .i64 t343, .int .i64 0, .int .i64 0, .int .i64 0]) ?_ 4 _ rfl; (with_reducible repeat (first | refine blk_drewN ?_ _ | refine blk_drew ?_ | refine blk_alloc ?_ _)); refine blk_put (cs := #[.int .i64 t340, .int .i64 t341, .int .i64 t342, .int .i64 0, .int .i64 0, .int .i64 0, .int .i64 0]) ?_ 3 _ rfl; (with_reducible repeat (first | refine blk_drewN ?_ _ | refine blk_drew ?_ | refine blk_alloc ?_ _)); refine blk_put (cs := #[.int .i64 t340, .int .i64 t341, .int .i64 0, .int .i64 0, .int .i64 0, .int .i64 0, .int .i64 0]) ?_ 2 _ rfl; (with_reducible repeat (first | refine blk_drewN ?_ _ | refine blk_drew ?_ | refine blk_alloc ?_ _)); refine blk_put (cs := #[.int .i64 t340, .int .i64 0, .int .i64 0, .int .i64 0, .int .i64 0, .int .i64 0, .int .i64 0]) ?_ 1 _ rfl; (with_reducible repeat (first | refine blk_drewN ?_ _ | refine blk_drew ?_ | refine blk_alloc ?_ _)); refine blk_put (cs := #[.int .i64 0, .int .i64 0, .int .i64 0, .int .i64 0, .int .i64 0, .int .i64 0, .int .i64 0]) ?_ 0 _ rfl; (with_reducible repeat (first | refine blk_drewN ?_ _ | refine blk_drew ?_ | refine blk_alloc ?_ _)); exact BK348.out⟩, ⟨by repeat (first | (with_reducible first | exact HI335.out | apply IsS57.alloc | apply IsS57.drewN | apply IsS57.drew | apply IsS57.set_1 | refine IsS57.far ?_ NB335_332.out _ | refine IsS57.far ?_ NB335_348.out _) | exact HI335.out)⟩, ⟨by repeat (first | (with_reducible first | exact HB.out | apply below_alloc | apply pw_below_drewN | apply below_drew1 | refine below_set ?_ (IsS57.ge HI335.out) | refine below_set ?_ GE332.out | refine below_set ?_ GE348.out) | exact HB.out)⟩⟩
    case rest =>
     clear HC9
     try clear c1
     try clear c2
     try clear p2
     try clear c3
     try clear c7
     try clear c7b0
     try clear c9
     try clear c10
     try clear c11
     try clear c12
     try clear c13
     try clear c15
     try clear c15b0
     try clear c15b1
     try clear c17
     try clear c18
     try clear c22
     try clear c22b0
     try clear c22b1
     try clear c23
     try clear c24
     try clear c26
     try clear hcz14_0
     try clear hcz14_1
     try clear hcz14_2
     try clear hcz14_3
     try clear hcz14_4
     try clear hcz14_5
     try clear hcz14_6
     try clear hcz19_0
     try clear hcz19_1
     try clear hcz19_2
     try clear hcz19_3
     try clear hcz19_4
     try clear hcz19_5
     try clear hcz19_6
     try clear hcz21_0
     try clear hcz21_1
     try clear hcz21_2
     try clear hcz21_3
     try clear hcz21_4
     try clear hcz21_5
     try clear hcz21_6
     try clear hcz25_0
     try clear hcz25_1
     try clear hcz25_2
     try clear hcz25_3
     try clear hcz25_4
     try clear hcz25_5
     try clear hcz25_6
     try clear hcz27_0
     try clear hcz27_1
     try clear hcz27_2
     try clear hcz27_3
     try clear hcz27_4
     try clear hcz27_5
     try clear hcz27_6
     try clear hfz14_0
     try clear hfz14_1
     try clear hfz14_2
     try clear hfz14_3
     try clear hfz14_4
     try clear hfz14_5
     try clear hfz14_6
     try clear hfz19_0
     try clear hfz19_1
     try clear hfz19_2
     try clear hfz19_3
     try clear hfz19_4
     try clear hfz19_5
     try clear hfz19_6
     try clear hfz21_0
     try clear hfz21_1
     try clear hfz21_2
     try clear hfz21_3
     try clear hfz21_4
     try clear hfz21_5
     try clear hfz21_6
     try clear hfz25_0
     try clear hfz25_1
     try clear hfz25_2
     try clear hfz25_3
     try clear hfz25_4
     try clear hfz25_5
     try clear hfz25_6
     try clear hfz27_0
     try clear hfz27_1
     try clear hfz27_2
     try clear hfz27_3
     try clear hfz27_4
     try clear hfz27_5
     try clear hfz27_6
     try clear p2
     obtain ⟨kq, x336001_8, x349000_8, x349001_8, x349002_8, x349003_8, x349004_8, x349005_8, x349006_8, HA, HJ8, BK332, BK348, HI335, HB⟩ := hcut
     cases kq with
     | zero => exact absurd HA.out (by simp [payrolllaw7_RecordsEncode.j1])
     | succ kj8 =>
      have H := HA.out
      clear HA
      simp only [payrolllaw7_RecordsEncode.j1] at H
      replace H := Option.bind_eq_some_iff.mp H
      obtain ⟨⟨t357, t360⟩, A280, H⟩ := H
      replace H : ((payrollref7_Encode.f kj8 x349000_8 x349001_8 x349002_8 x349003_8 x349004_8 x349005_8 x349006_8).bind fun bt361 => (if (strOfNums t357).toList = (strOfNums bt361.1).toList then (if t360 = bt361.2 then ((records_Valid.f kj8 x349000_8 x349001_8 x349002_8 x349003_8 x349004_8 x349005_8 x349006_8).bind fun t365 => ((payrollref7_Valid.f kj8 x349000_8 x349001_8 x349002_8 x349003_8 x349004_8 x349005_8 x349006_8).bind fun t366 => (if (t365 != t366) = true then (some false) else (payrolllaw7_RecordsEncode.l0 kj8 l2 (wrap64 (x8_1 + 1)) a1_0 a1_1 a1_2 a1_3 a1_4 a1_5 a1_6 t333 x336001_8)))) else (some false)) else (some false))) = some r := H
      have A28 := Aside0.mk A280
      clear A280
      replace H := Option.bind_eq_some_iff.mp H
      obtain ⟨⟨t361, t364⟩, A290, H⟩ := H
      replace H : (if (strOfNums t357).toList = (strOfNums t361).toList then (if t360 = t364 then ((records_Valid.f kj8 x349000_8 x349001_8 x349002_8 x349003_8 x349004_8 x349005_8 x349006_8).bind fun t365 => ((payrollref7_Valid.f kj8 x349000_8 x349001_8 x349002_8 x349003_8 x349004_8 x349005_8 x349006_8).bind fun t366 => (if (t365 != t366) = true then (some false) else (payrolllaw7_RecordsEncode.l0 kj8 l2 (wrap64 (x8_1 + 1)) a1_0 a1_1 a1_2 a1_3 a1_4 a1_5 a1_6 t333 x336001_8)))) else (some false)) else (some false)) = some r := H
      have A29 := Aside0.mk A290
      clear A290
      by_cases c30 : (strOfNums t357).toList = (strOfNums t361).toList
      ·
       rw [if_pos c30] at H
       have c30b0 : ((strOfNums t357).toList == (strOfNums t361).toList) = true := beq_iff_eq.mpr c30
       have c30b1 : ((strOfNums t357).toList != (strOfNums t361).toList) = false := bne_eq_false_iff_eq.mpr c30
       clear c30
       by_cases c31 : t360 = t364
       ·
        rw [if_pos c31] at H
        have c31b0 : (t360 == t364) = true := beq_iff_eq.mpr c31
        have c31b1 : (t360 != t364) = false := bne_eq_false_iff_eq.mpr c31
        clear c31
        replace H := Option.bind_eq_some_iff.mp H
        obtain ⟨t365, A320, H⟩ := H
        replace H : ((payrollref7_Valid.f kj8 x349000_8 x349001_8 x349002_8 x349003_8 x349004_8 x349005_8 x349006_8).bind fun t366 => (if (t365 != t366) = true then (some false) else (payrolllaw7_RecordsEncode.l0 kj8 l2 (wrap64 (x8_1 + 1)) a1_0 a1_1 a1_2 a1_3 a1_4 a1_5 a1_6 t333 x336001_8))) = some r := H
        have A32 := Aside0.mk A320
        clear A320
        replace H := Option.bind_eq_some_iff.mp H
        obtain ⟨t366, A330, H⟩ := H
        replace H : (if (t365 != t366) = true then (some false) else (payrolllaw7_RecordsEncode.l0 kj8 l2 (wrap64 (x8_1 + 1)) a1_0 a1_1 a1_2 a1_3 a1_4 a1_5 a1_6 t333 x336001_8)) = some r := H
        have A33 := Aside0.mk A330
        clear A330
        by_cases c34 : (t365 != t366) = true
        ·
         rw [if_pos c34] at H
         have c34b0 : (t365 != t366) = true := c34
         (try (have c34b1 : decide (t365 = t366) = false := by simpa using c34))
         (try (have c34b2 : (t365 == t366) = false := by simpa using c34))
         (try (have c34b3 : ¬ (t365 = t366) := by simpa using c34))
         clear c34
         obtain rfl := Option.some.inj H
         have hnb35 := NB348_332.out
         have hnc35 := NB332_348.out
         have hnb36 := NB348_335.out
         have hnc36 := NB335_348.out
         have hcz37_0 : wc.cell? ⟨gb348, 0, none⟩ = some (.int .i64 x349000_8) := (blk_cell BK348.out 0).trans rfl
         have hcz37_1 : wc.cell? ⟨gb348, 1, none⟩ = some (.int .i64 x349001_8) := (blk_cell BK348.out 1).trans rfl
         have hcz37_2 : wc.cell? ⟨gb348, 2, none⟩ = some (.int .i64 x349002_8) := (blk_cell BK348.out 2).trans rfl
         have hcz37_3 : wc.cell? ⟨gb348, 3, none⟩ = some (.int .i64 x349003_8) := (blk_cell BK348.out 3).trans rfl
         have hcz37_4 : wc.cell? ⟨gb348, 4, none⟩ = some (.int .i64 x349004_8) := (blk_cell BK348.out 4).trans rfl
         have hcz37_5 : wc.cell? ⟨gb348, 5, none⟩ = some (.int .i64 x349005_8) := (blk_cell BK348.out 5).trans rfl
         have hcz37_6 : wc.cell? ⟨gb348, 6, none⟩ = some (.int .i64 x349006_8) := (blk_cell BK348.out 6).trans rfl
         have hfz37_0 := blk_frozen BK348.out 0
         have hfz37_1 := blk_frozen BK348.out 1
         have hfz37_2 := blk_frozen BK348.out 2
         have hfz37_3 := blk_frozen BK348.out 3
         have hfz37_4 := blk_frozen BK348.out 4
         have hfz37_5 := blk_frozen BK348.out 5
         have hfz37_6 := blk_frozen BK348.out 6
         try go_wp2_with (first | ((with_reducible refine gate_callee (f := 12) rfl ?_); refine goesL_ (some 33) rfl rfl Try.func12 (by kernel_rfl) rfl #[.agg #[.int .i64 x349000_8, .int .i64 x349001_8, .int .i64 x349002_8, .int .i64 x349003_8, .int .i64 x349004_8, .int .i64 x349005_8, .int .i64 x349006_8]] rfl (by (try simp only [List.map_toArray, List.map_cons, List.map_nil]); first | done | rfl | (simp only [List.length_drop, List.length_take]; rfl)) ?_; (with_reducible refine (records_Encode.calls kj8 x349000_8 x349001_8 x349002_8 x349003_8 x349004_8 x349005_8 x349006_8 t357 t360 _ A28.out).mono ?_); rintro e w38 ⟨v358, rfl, ho0, hb⟩; refine ⟨_, rfl, ?_⟩; have n0_ := Aside0.mk (Kd.R_lower ho0 (below_size (by repeat (first | (with_reducible first | exact HB.out | apply below_alloc | apply pw_below_drewN | apply below_drew1 | refine below_set ?_ (IsS57.ge HI335.out) | refine below_set ?_ GE332.out | refine below_set ?_ GE348.out) | exact HB.out)))); have n1_ := Aside0.mk (blk_below (g := gb332) (o := .cells #[.int .i64 a1_0, .int .i64 a1_1, .int .i64 a1_2, .int .i64 a1_3, .int .i64 a1_4, .int .i64 a1_5, .int .i64 a1_6] 26 (0, 0)) (by (with_reducible repeat (first | refine blk_drewN ?_ _ | refine blk_drew ?_ | refine blk_alloc ?_ _)); exact BK332.out) hb); have n2_ := Aside0.mk (blk_below (g := gb348) (o := .cells #[.int .i64 x349000_8, .int .i64 x349001_8, .int .i64 x349002_8, .int .i64 x349003_8, .int .i64 x349004_8, .int .i64 x349005_8, .int .i64 x349006_8] 26 (0, 0)) (by (with_reducible repeat (first | refine blk_drewN ?_ _ | refine blk_drew ?_ | refine blk_alloc ?_ _)); exact BK348.out) hb); have n3_ := Aside0.mk (IsS57.below (by repeat (first | (with_reducible first | exact HI335.out | apply IsS57.alloc | apply IsS57.drewN | apply IsS57.drew | apply IsS57.set_1 | refine IsS57.far ?_ NB335_332.out _ | refine IsS57.far ?_ NB335_348.out _) | exact HI335.out)) hb); have n4_ := Aside0.mk (below_step (by repeat (first | (with_reducible first | exact HB.out | apply below_alloc | apply pw_below_drewN | apply below_drew1 | refine below_set ?_ (IsS57.ge HI335.out) | refine below_set ?_ GE332.out | refine below_set ?_ GE348.out) | exact HB.out)) hb); clear BK332; clear BK348; clear HI335; clear HB; have HO359 := n0_; have BK332 := n1_; have BK348 := n2_; have HI335 := n3_; have HB := n4_; clear n0_ n1_ n2_ n3_ n4_; (try clear hb); (try clear hb2); (try clear hk); (try clear hi); (try clear ho0); have hcz39_0 : w38.cell? ⟨gb348, 0, none⟩ = some (.int .i64 x349000_8) := (blk_cell BK348.out 0).trans rfl; have hcz39_1 : w38.cell? ⟨gb348, 1, none⟩ = some (.int .i64 x349001_8) := (blk_cell BK348.out 1).trans rfl; have hcz39_2 : w38.cell? ⟨gb348, 2, none⟩ = some (.int .i64 x349002_8) := (blk_cell BK348.out 2).trans rfl; have hcz39_3 : w38.cell? ⟨gb348, 3, none⟩ = some (.int .i64 x349003_8) := (blk_cell BK348.out 3).trans rfl; have hcz39_4 : w38.cell? ⟨gb348, 4, none⟩ = some (.int .i64 x349004_8) := (blk_cell BK348.out 4).trans rfl; have hcz39_5 : w38.cell? ⟨gb348, 5, none⟩ = some (.int .i64 x349005_8) := (blk_cell BK348.out 5).trans rfl; have hcz39_6 : w38.cell? ⟨gb348, 6, none⟩ = some (.int .i64 x349006_8) := (blk_cell BK348.out 6).trans rfl; have hfz39_0 := blk_frozen BK348.out 0; have hfz39_1 := blk_frozen BK348.out 1; have hfz39_2 := blk_frozen BK348.out 2; have hfz39_3 := blk_frozen BK348.out 3; have hfz39_4 := blk_frozen BK348.out 4; have hfz39_5 := blk_frozen BK348.out 5; have hfz39_6 := blk_frozen BK348.out 6) | ((with_reducible refine gate_callee (f := 13) rfl ?_); refine goesL_ (some 38) rfl rfl Try.func13 (by kernel_rfl) rfl #[.agg #[.int .i64 x349000_8, .int .i64 x349001_8, .int .i64 x349002_8, .int .i64 x349003_8, .int .i64 x349004_8, .int .i64 x349005_8, .int .i64 x349006_8]] rfl (by (try simp only [List.map_toArray, List.map_cons, List.map_nil]); first | done | rfl | (simp only [List.length_drop, List.length_take]; rfl)) ?_; (with_reducible refine (payrollref7_Encode.calls kj8 x349000_8 x349001_8 x349002_8 x349003_8 x349004_8 x349005_8 x349006_8 t361 t364 _ A29.out).mono ?_); rintro e w40 ⟨v362, rfl, ho0, hb⟩; refine ⟨_, rfl, ?_⟩; have n0_ := Aside0.mk (Kd.R_elder' (by (with_reducible repeat (first | apply Kd.R_alloc | apply Kd.R_drewN | apply Kd.R_drew)); exact HO359.out) (Kd.R_base ho0) hb); have n1_ := Aside0.mk (Kd.R_lower (Kd.R_new' ho0 (Kd.R_lt (by (with_reducible repeat (first | apply Kd.R_alloc | apply Kd.R_drewN | apply Kd.R_drew)); exact HO359.out))) (below_size (by repeat (first | (with_reducible first | exact HB.out | apply below_alloc | apply pw_below_drewN | apply below_drew1 | refine below_set ?_ (IsS57.ge HI335.out) | refine below_set ?_ GE332.out | refine below_set ?_ GE348.out) | exact HB.out)))); have n2_ := Aside0.mk (blk_below (g := gb332) (o := .cells #[.int .i64 a1_0, .int .i64 a1_1, .int .i64 a1_2, .int .i64 a1_3, .int .i64 a1_4, .int .i64 a1_5, .int .i64 a1_6] 26 (0, 0)) (by (with_reducible repeat (first | refine blk_drewN ?_ _ | refine blk_drew ?_ | refine blk_alloc ?_ _)); exact BK332.out) hb); have n3_ := Aside0.mk (blk_below (g := gb348) (o := .cells #[.int .i64 x349000_8, .int .i64 x349001_8, .int .i64 x349002_8, .int .i64 x349003_8, .int .i64 x349004_8, .int .i64 x349005_8, .int .i64 x349006_8] 26 (0, 0)) (by (with_reducible repeat (first | refine blk_drewN ?_ _ | refine blk_drew ?_ | refine blk_alloc ?_ _)); exact BK348.out) hb); have n4_ := Aside0.mk (IsS57.below (by repeat (first | (with_reducible first | exact HI335.out | apply IsS57.alloc | apply IsS57.drewN | apply IsS57.drew | apply IsS57.set_1 | refine IsS57.far ?_ NB335_332.out _ | refine IsS57.far ?_ NB335_348.out _) | exact HI335.out)) hb); have n5_ := Aside0.mk (below_step (by repeat (first | (with_reducible first | exact HB.out | apply below_alloc | apply pw_below_drewN | apply below_drew1 | refine below_set ?_ (IsS57.ge HI335.out) | refine below_set ?_ GE332.out | refine below_set ?_ GE348.out) | exact HB.out)) hb); clear HO359; clear BK332; clear BK348; clear HI335; clear HB; have HO359 := n0_; have HO363 := n1_; have BK332 := n2_; have BK348 := n3_; have HI335 := n4_; have HB := n5_; clear n0_ n1_ n2_ n3_ n4_ n5_; (try clear hb); (try clear hb2); (try clear hk); (try clear hi); (try clear ho0)))
         have n0_ := Aside0.mk (Kd.R_drew HO359.out)
         have n1_ := Aside0.mk (Kd.R_drew HO363.out)
         have n2_ := Aside0.mk (blk_drew BK332.out)
         have n3_ := Aside0.mk (blk_drew BK348.out)
         have n4_ := Aside0.mk (IsS57.drew HI335.out)
         have n5_ := Aside0.mk (below_drew1 HB.out)
         clear HO359
         clear HO363
         clear BK332
         clear BK348
         clear HI335
         clear HB
         have HO359 := n0_
         have HO363 := n1_
         have BK332 := n2_
         have BK348 := n3_
         have HI335 := n4_
         have HB := n5_
         clear n0_ n1_ n2_ n3_ n4_ n5_
         refine start_ (n := 17) (S := fun w' => w'.cell? ⟨gb348, 0, none⟩ = some (.int .i64 x349000_8) ∧ w'.cell? ⟨gb348, 1, none⟩ = some (.int .i64 x349001_8) ∧ w'.cell? ⟨gb348, 2, none⟩ = some (.int .i64 x349002_8) ∧ w'.cell? ⟨gb348, 3, none⟩ = some (.int .i64 x349003_8) ∧ w'.cell? ⟨gb348, 4, none⟩ = some (.int .i64 x349004_8) ∧ w'.cell? ⟨gb348, 5, none⟩ = some (.int .i64 x349005_8) ∧ w'.cell? ⟨gb348, 6, none⟩ = some (.int .i64 x349006_8) ∧ (convert 27 9 v358).run Try.prog w' = .ok (.string (strOfNums t357)) w' ∧ (convert 27 9 v362).run Try.prog w' = .ok (.string (strOfNums t361)) w') (ds := []) #[false, false, false, false, false, false, false, false, false, false, false, false, false, false, false, false, false] (by kernel_rfl) rfl rfl ⟨(blk_cell BK348.out 0).trans rfl, (blk_cell BK348.out 1).trans rfl, (blk_cell BK348.out 2).trans rfl, (blk_cell BK348.out 3).trans rfl, (blk_cell BK348.out 4).trans rfl, (blk_cell BK348.out 5).trans rfl, (blk_cell BK348.out 6).trans rfl, own_string (P := Try.prog) Try.underlying27 Try.underlying5 Try.underlying9 (Kd.own_of_R HO359.out), own_string (P := Try.prog) Try.underlying27 Try.underlying5 Try.underlying9 (Kd.own_of_R HO363.out)⟩ (fun hHeld => ?_); refine with_tabW payrolllaw7_RecordsEncode.tab13 payrolllaw7_RecordsEncode.bits13 (fun HT_ HW_ => ?_)
         generalize w40.drew = w41 at HO359 HO363 BK332 BK348 HI335 HB hHeld ⊢
         refine pure_ (i := 0) (N := some 41) (v := ?_) (a' := ?_) #[true, false, false, false, false, false, false, false, false, false, false, false, false, false, false, false, false] rfl rfl (any_of HT_.out (by kernel_rfl)) (fun _ _ _ h => h) (Or.inl ⟨by rfl, ?_⟩) ?_ ?_
         rotate_left
         ·
          intro w'
          go_simp
          with_reducible rfl
         rotate_left
         ·
          simp only [Act.put, List.setIfInBounds_toArray, List.set_cons_zero, List.set_cons_succ, i64_w, i32_w]
          rfl
         refine take_ (i := 1) (N := some 42) (v := ?_) (a' := ?_) #[true, true, false, false, false, false, false, false, false, false, false, false, false, false, false, false, false] rfl rfl (take_ofW HT_.out HW_.out (by kernel_rfl)) (fun _ _ _ h => h) (Or.inl ⟨by rfl, ?_⟩) hHeld ?_ ?_
         rotate_left
         ·
          rintro w' ⟨s0, s1, s2, s3, s4, s5, s6, s7, s8⟩
          go_simp
          with_reducible rfl
         rotate_left
         ·
          simp only [Act.put, List.setIfInBounds_toArray, List.set_cons_zero, List.set_cons_succ, i64_w, i32_w]
          rfl
         refine pure_ (i := 2) (N := some 43) (v := ?_) (a' := ?_) #[true, true, true, false, false, false, false, false, false, false, false, false, false, false, false, false, false] rfl rfl (any_of HT_.out (by kernel_rfl)) (fun _ _ _ h => h) (Or.inl ⟨by rfl, ?_⟩) ?_ ?_
         rotate_left
         ·
          intro w'
          go_simp
          with_reducible rfl
         rotate_left
         ·
          simp only [Act.put, List.setIfInBounds_toArray, List.set_cons_zero, List.set_cons_succ, i64_w, i32_w]
          rfl
         refine take_ (i := 3) (N := some 44) (v := ?_) (a' := ?_) #[true, true, true, true, false, false, false, false, false, false, false, false, false, false, false, false, false] rfl rfl (take_ofW HT_.out HW_.out (by kernel_rfl)) (fun _ _ _ h => h) (Or.inl ⟨by rfl, ?_⟩) hHeld ?_ ?_
         rotate_left
         ·
          rintro w' ⟨s0, s1, s2, s3, s4, s5, s6, s7, s8⟩
          go_simp
          with_reducible rfl
         rotate_left
         ·
          simp only [Act.put, List.setIfInBounds_toArray, List.set_cons_zero, List.set_cons_succ, i64_w, i32_w]
          rfl
         refine pure_ (i := 4) (N := some 45) (v := ?_) (a' := ?_) #[true, true, true, true, true, false, false, false, false, false, false, false, false, false, false, false, false] rfl rfl (any_of HT_.out (by kernel_rfl)) (fun _ _ _ h => h) (Or.inl ⟨by rfl, ?_⟩) ?_ ?_
         rotate_left
         ·
          intro w'
          go_simp
          with_reducible rfl
         rotate_left
         ·
          simp only [Act.put, List.setIfInBounds_toArray, List.set_cons_zero, List.set_cons_succ, i64_w, i32_w]
          rfl
         refine pure_ (i := 5) (N := some 46) (v := ?_) (a' := ?_) #[true, true, true, true, true, true, false, false, false, false, false, false, false, false, false, false, false] rfl rfl (any_of HT_.out (by kernel_rfl)) (fun _ _ _ h => h) (Or.inl ⟨by rfl, ?_⟩) ?_ ?_
         rotate_left
         ·
          intro w'
          go_simp
          with_reducible rfl
         rotate_left
         ·
          simp only [Act.put, List.setIfInBounds_toArray, List.set_cons_zero, List.set_cons_succ, i64_w, i32_w]
          rfl
         refine pure_ (i := 6) (N := some 47) (v := ?_) (a' := ?_) #[true, true, true, true, true, true, true, false, false, false, false, false, false, false, false, false, false] rfl rfl (any_of HT_.out (by kernel_rfl)) (fun _ _ _ h => h) (Or.inl ⟨by rfl, ?_⟩) ?_ ?_
         rotate_left
         ·
          intro w'
          go_simp
          with_reducible rfl
         rotate_left
         ·
          simp only [Act.put, List.setIfInBounds_toArray, List.set_cons_zero, List.set_cons_succ, i64_w, i32_w]
          rfl
         refine pure_ (i := 7) (N := some 48) (v := ?_) (a' := ?_) #[true, true, true, true, true, true, true, true, false, false, false, false, false, false, false, false, false] rfl rfl (any_of HT_.out (by kernel_rfl)) (fun _ _ _ h => h) (Or.inl ⟨by rfl, ?_⟩) ?_ ?_
         rotate_left
         ·
          intro w'
          go_simp
          with_reducible rfl
         rotate_left
         ·
          simp only [Act.put, List.setIfInBounds_toArray, List.set_cons_zero, List.set_cons_succ, i64_w, i32_w]
          rfl
         refine pure_ (i := 8) (N := some 49) (v := ?_) (a' := ?_) #[true, true, true, true, true, true, true, true, true, false, false, false, false, false, false, false, false] rfl rfl (any_of HT_.out (by kernel_rfl)) (fun _ _ _ h => h) (Or.inl ⟨by rfl, ?_⟩) ?_ ?_
         rotate_left
         ·
          intro w'
          go_simp
          with_reducible rfl
         rotate_left
         ·
          simp only [Act.put, List.setIfInBounds_toArray, List.set_cons_zero, List.set_cons_succ, i64_w, i32_w]
          rfl
         refine pure_ (i := 9) (N := some 50) (v := ?_) (a' := ?_) #[true, true, true, true, true, true, true, true, true, true, false, false, false, false, false, false, false] rfl rfl (any_of HT_.out (by kernel_rfl)) (fun _ _ _ h => h) (Or.inl ⟨by rfl, ?_⟩) ?_ ?_
         rotate_left
         ·
          intro w'
          go_simp
          with_reducible rfl
         rotate_left
         ·
          simp only [Act.put, List.setIfInBounds_toArray, List.set_cons_zero, List.set_cons_succ, i64_w, i32_w]
          rfl
         refine pure_ (i := 10) (N := some 51) (v := ?_) (a' := ?_) #[true, true, true, true, true, true, true, true, true, true, true, false, false, false, false, false, false] rfl rfl (any_of HT_.out (by kernel_rfl)) (fun _ _ _ h => h) (Or.inl ⟨by rfl, ?_⟩) ?_ ?_
         rotate_left
         ·
          intro w'
          go_simp
          with_reducible rfl
         rotate_left
         ·
          simp only [Act.put, List.setIfInBounds_toArray, List.set_cons_zero, List.set_cons_succ, i64_w, i32_w]
          rfl
         refine take_ (i := 11) (N := some 52) (v := ?_) (a' := ?_) #[true, true, true, true, true, true, true, true, true, true, true, true, false, false, false, false, false] rfl rfl (take_ofW HT_.out HW_.out (by kernel_rfl)) (fun _ _ _ h => h) (Or.inl ⟨by rfl, ?_⟩) hHeld ?_ ?_
         rotate_left
         ·
          rintro w' ⟨s0, s1, s2, s3, s4, s5, s6, s7, s8⟩
          go_simp
          with_reducible rfl
         rotate_left
         ·
          simp only [Act.put, List.setIfInBounds_toArray, List.set_cons_zero, List.set_cons_succ, i64_w, i32_w]
          rfl
         refine take_ (i := 13) (N := some 54) (v := ?_) (a' := ?_) #[true, true, true, true, true, true, true, true, true, true, true, true, false, true, false, false, false] rfl rfl (take_ofW HT_.out HW_.out (by kernel_rfl)) (fun _ _ _ h => h) (Or.inl ⟨by rfl, ?_⟩) hHeld ?_ ?_
         rotate_left
         ·
          rintro w' ⟨s0, s1, s2, s3, s4, s5, s6, s7, s8⟩
          go_simp
          with_reducible rfl
         rotate_left
         ·
          simp only [Act.put, List.setIfInBounds_toArray, List.set_cons_zero, List.set_cons_succ, i64_w, i32_w]
          rfl
         refine one_ (i := 12) (N := some 53) #[true, true, true, true, true, true, true, true, true, true, true, true, true, true, false, false, false] rfl rfl (one_of HT_.out (by kernel_rfl)) (by decide) (fun K hK => ?_)
         refine goes_ Try.func14 (by kernel_rfl) rfl #[.agg #[.int .i64 x349000_8, .int .i64 x349001_8, .int .i64 x349002_8, .int .i64 x349003_8, .int .i64 x349004_8, .int .i64 x349005_8, .int .i64 x349006_8]] (by rfl) rfl rfl (by (try simp only [List.map_toArray, List.map_cons, List.map_nil]); first | done | rfl | (simp only [List.length_drop, List.length_take]; rfl)) ?_
         with_reducible refine (records_Valid.calls kj8 x349000_8 x349001_8 x349002_8 x349003_8 x349004_8 x349005_8 x349006_8 t365 _ A32.out).mono ?_
         rintro e w45 ⟨rfl, hb⟩
         refine ⟨_, rfl, ?_⟩
         have n0_ := Aside0.mk (Kd.R_below (by (with_reducible repeat (first | apply Kd.R_alloc | apply Kd.R_drewN | apply Kd.R_drew)); exact HO359.out) hb)
         have n1_ := Aside0.mk (Kd.R_below (by (with_reducible repeat (first | apply Kd.R_alloc | apply Kd.R_drewN | apply Kd.R_drew)); exact HO363.out) hb)
         have n2_ := Aside0.mk (blk_below (g := gb332) (o := .cells #[.int .i64 a1_0, .int .i64 a1_1, .int .i64 a1_2, .int .i64 a1_3, .int .i64 a1_4, .int .i64 a1_5, .int .i64 a1_6] 26 (0, 0)) (by (with_reducible repeat (first | refine blk_drewN ?_ _ | refine blk_drew ?_ | refine blk_alloc ?_ _)); exact BK332.out) hb)
         have n3_ := Aside0.mk (blk_below (g := gb348) (o := .cells #[.int .i64 x349000_8, .int .i64 x349001_8, .int .i64 x349002_8, .int .i64 x349003_8, .int .i64 x349004_8, .int .i64 x349005_8, .int .i64 x349006_8] 26 (0, 0)) (by (with_reducible repeat (first | refine blk_drewN ?_ _ | refine blk_drew ?_ | refine blk_alloc ?_ _)); exact BK348.out) hb)
         have n4_ := Aside0.mk (IsS57.below (by repeat (first | (with_reducible first | exact HI335.out | apply IsS57.alloc | apply IsS57.drewN | apply IsS57.drew | apply IsS57.set_1 | refine IsS57.far ?_ NB335_332.out _ | refine IsS57.far ?_ NB335_348.out _) | exact HI335.out)) hb)
         have n5_ := Aside0.mk (below_step (by repeat (first | (with_reducible first | exact HB.out | apply below_alloc | apply pw_below_drewN | apply below_drew1 | refine below_set ?_ (IsS57.ge HI335.out) | refine below_set ?_ GE332.out | refine below_set ?_ GE348.out) | exact HB.out)) hb)
         clear HO359
         clear HO363
         clear BK332
         clear BK348
         clear HI335
         clear HB
         have HO359 := n0_
         have HO363 := n1_
         have BK332 := n2_
         have BK348 := n3_
         have HI335 := n4_
         have HB := n5_
         clear n0_ n1_ n2_ n3_ n4_ n5_
         (try clear hb)
         (try clear hb2)
         (try clear hk)
         (try clear hi)
         refine hK.out _ _ ⟨(blk_cell BK348.out 0).trans rfl, (blk_cell BK348.out 1).trans rfl, (blk_cell BK348.out 2).trans rfl, (blk_cell BK348.out 3).trans rfl, (blk_cell BK348.out 4).trans rfl, (blk_cell BK348.out 5).trans rfl, (blk_cell BK348.out 6).trans rfl, own_string (P := Try.prog) Try.underlying27 Try.underlying5 Try.underlying9 (Kd.own_of_R HO359.out), own_string (P := Try.prog) Try.underlying27 Try.underlying5 Try.underlying9 (Kd.own_of_R HO363.out)⟩ (fun hHeld => ?_)
         clear hK K
         refine norm_ (a' := ?_) ?_ ?_
         rotate_left
         ·
          show Act.put _ (some 53) _ = _
          simp only [Act.put, List.setIfInBounds_toArray, List.set_cons_zero, List.set_cons_succ, i64_w, i32_w]
          rfl
         refine one_ (i := 14) (N := some 55) #[true, true, true, true, true, true, true, true, true, true, true, true, true, true, true, false, false] rfl rfl (one_of HT_.out (by kernel_rfl)) (by decide) (fun K hK => ?_)
         refine goes_ Try.func15 (by kernel_rfl) rfl #[.agg #[.int .i64 x349000_8, .int .i64 x349001_8, .int .i64 x349002_8, .int .i64 x349003_8, .int .i64 x349004_8, .int .i64 x349005_8, .int .i64 x349006_8]] (by rfl) rfl rfl (by (try simp only [List.map_toArray, List.map_cons, List.map_nil]); first | done | rfl | (simp only [List.length_drop, List.length_take]; rfl)) ?_
         with_reducible refine (payrollref7_Valid.calls kj8 x349000_8 x349001_8 x349002_8 x349003_8 x349004_8 x349005_8 x349006_8 t366 _ A33.out).mono ?_
         rintro e w46 ⟨rfl, hb⟩
         refine ⟨_, rfl, ?_⟩
         have n0_ := Aside0.mk (Kd.R_below (by (with_reducible repeat (first | apply Kd.R_alloc | apply Kd.R_drewN | apply Kd.R_drew)); exact HO359.out) hb)
         have n1_ := Aside0.mk (Kd.R_below (by (with_reducible repeat (first | apply Kd.R_alloc | apply Kd.R_drewN | apply Kd.R_drew)); exact HO363.out) hb)
         have n2_ := Aside0.mk (blk_below (g := gb332) (o := .cells #[.int .i64 a1_0, .int .i64 a1_1, .int .i64 a1_2, .int .i64 a1_3, .int .i64 a1_4, .int .i64 a1_5, .int .i64 a1_6] 26 (0, 0)) (by (with_reducible repeat (first | refine blk_drewN ?_ _ | refine blk_drew ?_ | refine blk_alloc ?_ _)); exact BK332.out) hb)
         have n3_ := Aside0.mk (blk_below (g := gb348) (o := .cells #[.int .i64 x349000_8, .int .i64 x349001_8, .int .i64 x349002_8, .int .i64 x349003_8, .int .i64 x349004_8, .int .i64 x349005_8, .int .i64 x349006_8] 26 (0, 0)) (by (with_reducible repeat (first | refine blk_drewN ?_ _ | refine blk_drew ?_ | refine blk_alloc ?_ _)); exact BK348.out) hb)
         have n4_ := Aside0.mk (IsS57.below (by repeat (first | (with_reducible first | exact HI335.out | apply IsS57.alloc | apply IsS57.drewN | apply IsS57.drew | apply IsS57.set_1 | refine IsS57.far ?_ NB335_332.out _ | refine IsS57.far ?_ NB335_348.out _) | exact HI335.out)) hb)
         have n5_ := Aside0.mk (below_step (by repeat (first | (with_reducible first | exact HB.out | apply below_alloc | apply pw_below_drewN | apply below_drew1 | refine below_set ?_ (IsS57.ge HI335.out) | refine below_set ?_ GE332.out | refine below_set ?_ GE348.out) | exact HB.out)) hb)
         clear HO359
         clear HO363
         clear BK332
         clear BK348
         clear HI335
         clear HB
         have HO359 := n0_
         have HO363 := n1_
         have BK332 := n2_
         have BK348 := n3_
         have HI335 := n4_
         have HB := n5_
         clear n0_ n1_ n2_ n3_ n4_ n5_
         (try clear hb)
         (try clear hb2)
         (try clear hk)
         (try clear hi)
         refine hK.out _ _ ⟨(blk_cell BK348.out 0).trans rfl, (blk_cell BK348.out 1).trans rfl, (blk_cell BK348.out 2).trans rfl, (blk_cell BK348.out 3).trans rfl, (blk_cell BK348.out 4).trans rfl, (blk_cell BK348.out 5).trans rfl, (blk_cell BK348.out 6).trans rfl, own_string (P := Try.prog) Try.underlying27 Try.underlying5 Try.underlying9 (Kd.own_of_R HO359.out), own_string (P := Try.prog) Try.underlying27 Try.underlying5 Try.underlying9 (Kd.own_of_R HO363.out)⟩ (fun hHeld => ?_)
         clear hK K
         refine norm_ (a' := ?_) ?_ ?_
         rotate_left
         ·
          show Act.put _ (some 55) _ = _
          simp only [Act.put, List.setIfInBounds_toArray, List.set_cons_zero, List.set_cons_succ, i64_w, i32_w]
          rfl
         refine pure_ (i := 15) (N := some 56) (v := ?_) (a' := ?_) #[true, true, true, true, true, true, true, true, true, true, true, true, true, true, true, true, false] rfl rfl (any_of HT_.out (by kernel_rfl)) (fun _ _ _ h => h) (Or.inl ⟨by rfl, ?_⟩) ?_ ?_
         rotate_left
         ·
          intro w'
          go_simp
          with_reducible rfl
         rotate_left
         ·
          simp only [Act.put, List.setIfInBounds_toArray, List.set_cons_zero, List.set_cons_succ, i64_w, i32_w]
          rfl
         refine pure_ (i := 16) (N := some 57) (v := ?_) (a' := ?_) #[true, true, true, true, true, true, true, true, true, true, true, true, true, true, true, true, true] rfl rfl (any_of HT_.out (by kernel_rfl)) (fun _ _ _ h => h) (Or.inl ⟨by rfl, ?_⟩) ?_ ?_
         rotate_left
         ·
          intro w'
          go_simp
          with_reducible rfl
         rotate_left
         ·
          simp only [Act.put, List.setIfInBounds_toArray, List.set_cons_zero, List.set_cons_succ, i64_w, i32_w]
          rfl
         refine done_ (done_of HT_.out (by kernel_rfl)) ?_
         try go_wp2
         go_ret
         exact ⟨by first | rfl | (simp [errW_none, errW_some] <;> rfl) | (simp [*, errW_none, errW_some] <;> rfl), by repeat (first | (with_reducible first | exact HB.out | apply below_alloc | apply pw_below_drewN | apply below_drew1 | refine below_set ?_ (IsS57.ge HI335.out) | refine below_set ?_ GE332.out | refine below_set ?_ GE348.out) | exact HB.out)⟩
        ·
         rw [if_neg c34] at H
         have c34b0 : (t365 != t366) = false := by simpa using c34
         (try (have c34b1 : decide (t365 = t366) = true := by simpa using c34))
         (try (have c34b2 : (t365 == t366) = true := by simpa using c34))
         clear c34
         have H' := Aside0.mk H
         clear H
         have hnb47 := NB348_332.out
         have hnc47 := NB332_348.out
         have hnb48 := NB348_335.out
         have hnc48 := NB335_348.out
         have hcz49_0 : wc.cell? ⟨gb348, 0, none⟩ = some (.int .i64 x349000_8) := (blk_cell BK348.out 0).trans rfl
         have hcz49_1 : wc.cell? ⟨gb348, 1, none⟩ = some (.int .i64 x349001_8) := (blk_cell BK348.out 1).trans rfl
         have hcz49_2 : wc.cell? ⟨gb348, 2, none⟩ = some (.int .i64 x349002_8) := (blk_cell BK348.out 2).trans rfl
         have hcz49_3 : wc.cell? ⟨gb348, 3, none⟩ = some (.int .i64 x349003_8) := (blk_cell BK348.out 3).trans rfl
         have hcz49_4 : wc.cell? ⟨gb348, 4, none⟩ = some (.int .i64 x349004_8) := (blk_cell BK348.out 4).trans rfl
         have hcz49_5 : wc.cell? ⟨gb348, 5, none⟩ = some (.int .i64 x349005_8) := (blk_cell BK348.out 5).trans rfl
         have hcz49_6 : wc.cell? ⟨gb348, 6, none⟩ = some (.int .i64 x349006_8) := (blk_cell BK348.out 6).trans rfl
         have hfz49_0 := blk_frozen BK348.out 0
         have hfz49_1 := blk_frozen BK348.out 1
         have hfz49_2 := blk_frozen BK348.out 2
         have hfz49_3 := blk_frozen BK348.out 3
         have hfz49_4 := blk_frozen BK348.out 4
         have hfz49_5 := blk_frozen BK348.out 5
         have hfz49_6 := blk_frozen BK348.out 6
         try go_wp2_with (first | ((with_reducible refine gate_callee (f := 12) rfl ?_); refine goesL_ (some 33) rfl rfl Try.func12 (by kernel_rfl) rfl #[.agg #[.int .i64 x349000_8, .int .i64 x349001_8, .int .i64 x349002_8, .int .i64 x349003_8, .int .i64 x349004_8, .int .i64 x349005_8, .int .i64 x349006_8]] rfl (by (try simp only [List.map_toArray, List.map_cons, List.map_nil]); first | done | rfl | (simp only [List.length_drop, List.length_take]; rfl)) ?_; (with_reducible refine (records_Encode.calls kj8 x349000_8 x349001_8 x349002_8 x349003_8 x349004_8 x349005_8 x349006_8 t357 t360 _ A28.out).mono ?_); rintro e w50 ⟨v358, rfl, ho0, hb⟩; refine ⟨_, rfl, ?_⟩; have n0_ := Aside0.mk (Kd.R_lower ho0 (below_size (by repeat (first | (with_reducible first | exact HB.out | apply below_alloc | apply pw_below_drewN | apply below_drew1 | refine below_set ?_ (IsS57.ge HI335.out) | refine below_set ?_ GE332.out | refine below_set ?_ GE348.out) | exact HB.out)))); have n1_ := Aside0.mk (blk_below (g := gb332) (o := .cells #[.int .i64 a1_0, .int .i64 a1_1, .int .i64 a1_2, .int .i64 a1_3, .int .i64 a1_4, .int .i64 a1_5, .int .i64 a1_6] 26 (0, 0)) (by (with_reducible repeat (first | refine blk_drewN ?_ _ | refine blk_drew ?_ | refine blk_alloc ?_ _)); exact BK332.out) hb); have n2_ := Aside0.mk (blk_below (g := gb348) (o := .cells #[.int .i64 x349000_8, .int .i64 x349001_8, .int .i64 x349002_8, .int .i64 x349003_8, .int .i64 x349004_8, .int .i64 x349005_8, .int .i64 x349006_8] 26 (0, 0)) (by (with_reducible repeat (first | refine blk_drewN ?_ _ | refine blk_drew ?_ | refine blk_alloc ?_ _)); exact BK348.out) hb); have n3_ := Aside0.mk (IsS57.below (by repeat (first | (with_reducible first | exact HI335.out | apply IsS57.alloc | apply IsS57.drewN | apply IsS57.drew | apply IsS57.set_1 | refine IsS57.far ?_ NB335_332.out _ | refine IsS57.far ?_ NB335_348.out _) | exact HI335.out)) hb); have n4_ := Aside0.mk (below_step (by repeat (first | (with_reducible first | exact HB.out | apply below_alloc | apply pw_below_drewN | apply below_drew1 | refine below_set ?_ (IsS57.ge HI335.out) | refine below_set ?_ GE332.out | refine below_set ?_ GE348.out) | exact HB.out)) hb); clear BK332; clear BK348; clear HI335; clear HB; have HO359 := n0_; have BK332 := n1_; have BK348 := n2_; have HI335 := n3_; have HB := n4_; clear n0_ n1_ n2_ n3_ n4_; (try clear hb); (try clear hb2); (try clear hk); (try clear hi); (try clear ho0); have hcz51_0 : w50.cell? ⟨gb348, 0, none⟩ = some (.int .i64 x349000_8) := (blk_cell BK348.out 0).trans rfl; have hcz51_1 : w50.cell? ⟨gb348, 1, none⟩ = some (.int .i64 x349001_8) := (blk_cell BK348.out 1).trans rfl; have hcz51_2 : w50.cell? ⟨gb348, 2, none⟩ = some (.int .i64 x349002_8) := (blk_cell BK348.out 2).trans rfl; have hcz51_3 : w50.cell? ⟨gb348, 3, none⟩ = some (.int .i64 x349003_8) := (blk_cell BK348.out 3).trans rfl; have hcz51_4 : w50.cell? ⟨gb348, 4, none⟩ = some (.int .i64 x349004_8) := (blk_cell BK348.out 4).trans rfl; have hcz51_5 : w50.cell? ⟨gb348, 5, none⟩ = some (.int .i64 x349005_8) := (blk_cell BK348.out 5).trans rfl; have hcz51_6 : w50.cell? ⟨gb348, 6, none⟩ = some (.int .i64 x349006_8) := (blk_cell BK348.out 6).trans rfl; have hfz51_0 := blk_frozen BK348.out 0; have hfz51_1 := blk_frozen BK348.out 1; have hfz51_2 := blk_frozen BK348.out 2; have hfz51_3 := blk_frozen BK348.out 3; have hfz51_4 := blk_frozen BK348.out 4; have hfz51_5 := blk_frozen BK348.out 5; have hfz51_6 := blk_frozen BK348.out 6) | ((with_reducible refine gate_callee (f := 13) rfl ?_); refine goesL_ (some 38) rfl rfl Try.func13 (by kernel_rfl) rfl #[.agg #[.int .i64 x349000_8, .int .i64 x349001_8, .int .i64 x349002_8, .int .i64 x349003_8, .int .i64 x349004_8, .int .i64 x349005_8, .int .i64 x349006_8]] rfl (by (try simp only [List.map_toArray, List.map_cons, List.map_nil]); first | done | rfl | (simp only [List.length_drop, List.length_take]; rfl)) ?_; (with_reducible refine (payrollref7_Encode.calls kj8 x349000_8 x349001_8 x349002_8 x349003_8 x349004_8 x349005_8 x349006_8 t361 t364 _ A29.out).mono ?_); rintro e w52 ⟨v362, rfl, ho0, hb⟩; refine ⟨_, rfl, ?_⟩; have n0_ := Aside0.mk (Kd.R_elder' (by (with_reducible repeat (first | apply Kd.R_alloc | apply Kd.R_drewN | apply Kd.R_drew)); exact HO359.out) (Kd.R_base ho0) hb); have n1_ := Aside0.mk (Kd.R_lower (Kd.R_new' ho0 (Kd.R_lt (by (with_reducible repeat (first | apply Kd.R_alloc | apply Kd.R_drewN | apply Kd.R_drew)); exact HO359.out))) (below_size (by repeat (first | (with_reducible first | exact HB.out | apply below_alloc | apply pw_below_drewN | apply below_drew1 | refine below_set ?_ (IsS57.ge HI335.out) | refine below_set ?_ GE332.out | refine below_set ?_ GE348.out) | exact HB.out)))); have n2_ := Aside0.mk (blk_below (g := gb332) (o := .cells #[.int .i64 a1_0, .int .i64 a1_1, .int .i64 a1_2, .int .i64 a1_3, .int .i64 a1_4, .int .i64 a1_5, .int .i64 a1_6] 26 (0, 0)) (by (with_reducible repeat (first | refine blk_drewN ?_ _ | refine blk_drew ?_ | refine blk_alloc ?_ _)); exact BK332.out) hb); have n3_ := Aside0.mk (blk_below (g := gb348) (o := .cells #[.int .i64 x349000_8, .int .i64 x349001_8, .int .i64 x349002_8, .int .i64 x349003_8, .int .i64 x349004_8, .int .i64 x349005_8, .int .i64 x349006_8] 26 (0, 0)) (by (with_reducible repeat (first | refine blk_drewN ?_ _ | refine blk_drew ?_ | refine blk_alloc ?_ _)); exact BK348.out) hb); have n4_ := Aside0.mk (IsS57.below (by repeat (first | (with_reducible first | exact HI335.out | apply IsS57.alloc | apply IsS57.drewN | apply IsS57.drew | apply IsS57.set_1 | refine IsS57.far ?_ NB335_332.out _ | refine IsS57.far ?_ NB335_348.out _) | exact HI335.out)) hb); have n5_ := Aside0.mk (below_step (by repeat (first | (with_reducible first | exact HB.out | apply below_alloc | apply pw_below_drewN | apply below_drew1 | refine below_set ?_ (IsS57.ge HI335.out) | refine below_set ?_ GE332.out | refine below_set ?_ GE348.out) | exact HB.out)) hb); clear HO359; clear BK332; clear BK348; clear HI335; clear HB; have HO359 := n0_; have HO363 := n1_; have BK332 := n2_; have BK348 := n3_; have HI335 := n4_; have HB := n5_; clear n0_ n1_ n2_ n3_ n4_ n5_; (try clear hb); (try clear hb2); (try clear hk); (try clear hi); (try clear ho0)))
         have n0_ := Aside0.mk (Kd.R_drew HO359.out)
         have n1_ := Aside0.mk (Kd.R_drew HO363.out)
         have n2_ := Aside0.mk (blk_drew BK332.out)
         have n3_ := Aside0.mk (blk_drew BK348.out)
         have n4_ := Aside0.mk (IsS57.drew HI335.out)
         have n5_ := Aside0.mk (below_drew1 HB.out)
         clear HO359
         clear HO363
         clear BK332
         clear BK348
         clear HI335
         clear HB
         have HO359 := n0_
         have HO363 := n1_
         have BK332 := n2_
         have BK348 := n3_
         have HI335 := n4_
         have HB := n5_
         clear n0_ n1_ n2_ n3_ n4_ n5_
         refine start_ (n := 17) (S := fun w' => w'.cell? ⟨gb348, 0, none⟩ = some (.int .i64 x349000_8) ∧ w'.cell? ⟨gb348, 1, none⟩ = some (.int .i64 x349001_8) ∧ w'.cell? ⟨gb348, 2, none⟩ = some (.int .i64 x349002_8) ∧ w'.cell? ⟨gb348, 3, none⟩ = some (.int .i64 x349003_8) ∧ w'.cell? ⟨gb348, 4, none⟩ = some (.int .i64 x349004_8) ∧ w'.cell? ⟨gb348, 5, none⟩ = some (.int .i64 x349005_8) ∧ w'.cell? ⟨gb348, 6, none⟩ = some (.int .i64 x349006_8) ∧ (convert 27 9 v358).run Try.prog w' = .ok (.string (strOfNums t357)) w' ∧ (convert 27 9 v362).run Try.prog w' = .ok (.string (strOfNums t361)) w') (ds := []) #[false, false, false, false, false, false, false, false, false, false, false, false, false, false, false, false, false] (by kernel_rfl) rfl rfl ⟨(blk_cell BK348.out 0).trans rfl, (blk_cell BK348.out 1).trans rfl, (blk_cell BK348.out 2).trans rfl, (blk_cell BK348.out 3).trans rfl, (blk_cell BK348.out 4).trans rfl, (blk_cell BK348.out 5).trans rfl, (blk_cell BK348.out 6).trans rfl, own_string (P := Try.prog) Try.underlying27 Try.underlying5 Try.underlying9 (Kd.own_of_R HO359.out), own_string (P := Try.prog) Try.underlying27 Try.underlying5 Try.underlying9 (Kd.own_of_R HO363.out)⟩ (fun hHeld => ?_); refine with_tabW payrolllaw7_RecordsEncode.tab13 payrolllaw7_RecordsEncode.bits13 (fun HT_ HW_ => ?_)
         generalize w52.drew = w53 at HO359 HO363 BK332 BK348 HI335 HB hHeld ⊢
         refine pure_ (i := 0) (N := some 41) (v := ?_) (a' := ?_) #[true, false, false, false, false, false, false, false, false, false, false, false, false, false, false, false, false] rfl rfl (any_of HT_.out (by kernel_rfl)) (fun _ _ _ h => h) (Or.inl ⟨by rfl, ?_⟩) ?_ ?_
         rotate_left
         ·
          intro w'
          go_simp
          with_reducible rfl
         rotate_left
         ·
          simp only [Act.put, List.setIfInBounds_toArray, List.set_cons_zero, List.set_cons_succ, i64_w, i32_w]
          rfl
         refine take_ (i := 1) (N := some 42) (v := ?_) (a' := ?_) #[true, true, false, false, false, false, false, false, false, false, false, false, false, false, false, false, false] rfl rfl (take_ofW HT_.out HW_.out (by kernel_rfl)) (fun _ _ _ h => h) (Or.inl ⟨by rfl, ?_⟩) hHeld ?_ ?_
         rotate_left
         ·
          rintro w' ⟨s0, s1, s2, s3, s4, s5, s6, s7, s8⟩
          go_simp
          with_reducible rfl
         rotate_left
         ·
          simp only [Act.put, List.setIfInBounds_toArray, List.set_cons_zero, List.set_cons_succ, i64_w, i32_w]
          rfl
         refine pure_ (i := 2) (N := some 43) (v := ?_) (a' := ?_) #[true, true, true, false, false, false, false, false, false, false, false, false, false, false, false, false, false] rfl rfl (any_of HT_.out (by kernel_rfl)) (fun _ _ _ h => h) (Or.inl ⟨by rfl, ?_⟩) ?_ ?_
         rotate_left
         ·
          intro w'
          go_simp
          with_reducible rfl
         rotate_left
         ·
          simp only [Act.put, List.setIfInBounds_toArray, List.set_cons_zero, List.set_cons_succ, i64_w, i32_w]
          rfl
         refine take_ (i := 3) (N := some 44) (v := ?_) (a' := ?_) #[true, true, true, true, false, false, false, false, false, false, false, false, false, false, false, false, false] rfl rfl (take_ofW HT_.out HW_.out (by kernel_rfl)) (fun _ _ _ h => h) (Or.inl ⟨by rfl, ?_⟩) hHeld ?_ ?_
         rotate_left
         ·
          rintro w' ⟨s0, s1, s2, s3, s4, s5, s6, s7, s8⟩
          go_simp
          with_reducible rfl
         rotate_left
         ·
          simp only [Act.put, List.setIfInBounds_toArray, List.set_cons_zero, List.set_cons_succ, i64_w, i32_w]
          rfl
         refine pure_ (i := 4) (N := some 45) (v := ?_) (a' := ?_) #[true, true, true, true, true, false, false, false, false, false, false, false, false, false, false, false, false] rfl rfl (any_of HT_.out (by kernel_rfl)) (fun _ _ _ h => h) (Or.inl ⟨by rfl, ?_⟩) ?_ ?_
         rotate_left
         ·
          intro w'
          go_simp
          with_reducible rfl
         rotate_left
         ·
          simp only [Act.put, List.setIfInBounds_toArray, List.set_cons_zero, List.set_cons_succ, i64_w, i32_w]
          rfl
         refine pure_ (i := 5) (N := some 46) (v := ?_) (a' := ?_) #[true, true, true, true, true, true, false, false, false, false, false, false, false, false, false, false, false] rfl rfl (any_of HT_.out (by kernel_rfl)) (fun _ _ _ h => h) (Or.inl ⟨by rfl, ?_⟩) ?_ ?_
         rotate_left
         ·
          intro w'
          go_simp
          with_reducible rfl
         rotate_left
         ·
          simp only [Act.put, List.setIfInBounds_toArray, List.set_cons_zero, List.set_cons_succ, i64_w, i32_w]
          rfl
         refine pure_ (i := 6) (N := some 47) (v := ?_) (a' := ?_) #[true, true, true, true, true, true, true, false, false, false, false, false, false, false, false, false, false] rfl rfl (any_of HT_.out (by kernel_rfl)) (fun _ _ _ h => h) (Or.inl ⟨by rfl, ?_⟩) ?_ ?_
         rotate_left
         ·
          intro w'
          go_simp
          with_reducible rfl
         rotate_left
         ·
          simp only [Act.put, List.setIfInBounds_toArray, List.set_cons_zero, List.set_cons_succ, i64_w, i32_w]
          rfl
         refine pure_ (i := 7) (N := some 48) (v := ?_) (a' := ?_) #[true, true, true, true, true, true, true, true, false, false, false, false, false, false, false, false, false] rfl rfl (any_of HT_.out (by kernel_rfl)) (fun _ _ _ h => h) (Or.inl ⟨by rfl, ?_⟩) ?_ ?_
         rotate_left
         ·
          intro w'
          go_simp
          with_reducible rfl
         rotate_left
         ·
          simp only [Act.put, List.setIfInBounds_toArray, List.set_cons_zero, List.set_cons_succ, i64_w, i32_w]
          rfl
         refine pure_ (i := 8) (N := some 49) (v := ?_) (a' := ?_) #[true, true, true, true, true, true, true, true, true, false, false, false, false, false, false, false, false] rfl rfl (any_of HT_.out (by kernel_rfl)) (fun _ _ _ h => h) (Or.inl ⟨by rfl, ?_⟩) ?_ ?_
         rotate_left
         ·
          intro w'
          go_simp
          with_reducible rfl
         rotate_left
         ·
          simp only [Act.put, List.setIfInBounds_toArray, List.set_cons_zero, List.set_cons_succ, i64_w, i32_w]
          rfl
         refine pure_ (i := 9) (N := some 50) (v := ?_) (a' := ?_) #[true, true, true, true, true, true, true, true, true, true, false, false, false, false, false, false, false] rfl rfl (any_of HT_.out (by kernel_rfl)) (fun _ _ _ h => h) (Or.inl ⟨by rfl, ?_⟩) ?_ ?_
         rotate_left
         ·
          intro w'
          go_simp
          with_reducible rfl
         rotate_left
         ·
          simp only [Act.put, List.setIfInBounds_toArray, List.set_cons_zero, List.set_cons_succ, i64_w, i32_w]
          rfl
         refine pure_ (i := 10) (N := some 51) (v := ?_) (a' := ?_) #[true, true, true, true, true, true, true, true, true, true, true, false, false, false, false, false, false] rfl rfl (any_of HT_.out (by kernel_rfl)) (fun _ _ _ h => h) (Or.inl ⟨by rfl, ?_⟩) ?_ ?_
         rotate_left
         ·
          intro w'
          go_simp
          with_reducible rfl
         rotate_left
         ·
          simp only [Act.put, List.setIfInBounds_toArray, List.set_cons_zero, List.set_cons_succ, i64_w, i32_w]
          rfl
         refine take_ (i := 11) (N := some 52) (v := ?_) (a' := ?_) #[true, true, true, true, true, true, true, true, true, true, true, true, false, false, false, false, false] rfl rfl (take_ofW HT_.out HW_.out (by kernel_rfl)) (fun _ _ _ h => h) (Or.inl ⟨by rfl, ?_⟩) hHeld ?_ ?_
         rotate_left
         ·
          rintro w' ⟨s0, s1, s2, s3, s4, s5, s6, s7, s8⟩
          go_simp
          with_reducible rfl
         rotate_left
         ·
          simp only [Act.put, List.setIfInBounds_toArray, List.set_cons_zero, List.set_cons_succ, i64_w, i32_w]
          rfl
         refine take_ (i := 13) (N := some 54) (v := ?_) (a' := ?_) #[true, true, true, true, true, true, true, true, true, true, true, true, false, true, false, false, false] rfl rfl (take_ofW HT_.out HW_.out (by kernel_rfl)) (fun _ _ _ h => h) (Or.inl ⟨by rfl, ?_⟩) hHeld ?_ ?_
         rotate_left
         ·
          rintro w' ⟨s0, s1, s2, s3, s4, s5, s6, s7, s8⟩
          go_simp
          with_reducible rfl
         rotate_left
         ·
          simp only [Act.put, List.setIfInBounds_toArray, List.set_cons_zero, List.set_cons_succ, i64_w, i32_w]
          rfl
         refine one_ (i := 12) (N := some 53) #[true, true, true, true, true, true, true, true, true, true, true, true, true, true, false, false, false] rfl rfl (one_of HT_.out (by kernel_rfl)) (by decide) (fun K hK => ?_)
         refine goes_ Try.func14 (by kernel_rfl) rfl #[.agg #[.int .i64 x349000_8, .int .i64 x349001_8, .int .i64 x349002_8, .int .i64 x349003_8, .int .i64 x349004_8, .int .i64 x349005_8, .int .i64 x349006_8]] (by rfl) rfl rfl (by (try simp only [List.map_toArray, List.map_cons, List.map_nil]); first | done | rfl | (simp only [List.length_drop, List.length_take]; rfl)) ?_
         with_reducible refine (records_Valid.calls kj8 x349000_8 x349001_8 x349002_8 x349003_8 x349004_8 x349005_8 x349006_8 t365 _ A32.out).mono ?_
         rintro e w57 ⟨rfl, hb⟩
         refine ⟨_, rfl, ?_⟩
         have n0_ := Aside0.mk (Kd.R_below (by (with_reducible repeat (first | apply Kd.R_alloc | apply Kd.R_drewN | apply Kd.R_drew)); exact HO359.out) hb)
         have n1_ := Aside0.mk (Kd.R_below (by (with_reducible repeat (first | apply Kd.R_alloc | apply Kd.R_drewN | apply Kd.R_drew)); exact HO363.out) hb)
         have n2_ := Aside0.mk (blk_below (g := gb332) (o := .cells #[.int .i64 a1_0, .int .i64 a1_1, .int .i64 a1_2, .int .i64 a1_3, .int .i64 a1_4, .int .i64 a1_5, .int .i64 a1_6] 26 (0, 0)) (by (with_reducible repeat (first | refine blk_drewN ?_ _ | refine blk_drew ?_ | refine blk_alloc ?_ _)); exact BK332.out) hb)
         have n3_ := Aside0.mk (blk_below (g := gb348) (o := .cells #[.int .i64 x349000_8, .int .i64 x349001_8, .int .i64 x349002_8, .int .i64 x349003_8, .int .i64 x349004_8, .int .i64 x349005_8, .int .i64 x349006_8] 26 (0, 0)) (by (with_reducible repeat (first | refine blk_drewN ?_ _ | refine blk_drew ?_ | refine blk_alloc ?_ _)); exact BK348.out) hb)
         have n4_ := Aside0.mk (IsS57.below (by repeat (first | (with_reducible first | exact HI335.out | apply IsS57.alloc | apply IsS57.drewN | apply IsS57.drew | apply IsS57.set_1 | refine IsS57.far ?_ NB335_332.out _ | refine IsS57.far ?_ NB335_348.out _) | exact HI335.out)) hb)
         have n5_ := Aside0.mk (below_step (by repeat (first | (with_reducible first | exact HB.out | apply below_alloc | apply pw_below_drewN | apply below_drew1 | refine below_set ?_ (IsS57.ge HI335.out) | refine below_set ?_ GE332.out | refine below_set ?_ GE348.out) | exact HB.out)) hb)
         clear HO359
         clear HO363
         clear BK332
         clear BK348
         clear HI335
         clear HB
         have HO359 := n0_
         have HO363 := n1_
         have BK332 := n2_
         have BK348 := n3_
         have HI335 := n4_
         have HB := n5_
         clear n0_ n1_ n2_ n3_ n4_ n5_
         (try clear hb)
         (try clear hb2)
         (try clear hk)
         (try clear hi)
         refine hK.out _ _ ⟨(blk_cell BK348.out 0).trans rfl, (blk_cell BK348.out 1).trans rfl, (blk_cell BK348.out 2).trans rfl, (blk_cell BK348.out 3).trans rfl, (blk_cell BK348.out 4).trans rfl, (blk_cell BK348.out 5).trans rfl, (blk_cell BK348.out 6).trans rfl, own_string (P := Try.prog) Try.underlying27 Try.underlying5 Try.underlying9 (Kd.own_of_R HO359.out), own_string (P := Try.prog) Try.underlying27 Try.underlying5 Try.underlying9 (Kd.own_of_R HO363.out)⟩ (fun hHeld => ?_)
         clear hK K
         refine norm_ (a' := ?_) ?_ ?_
         rotate_left
         ·
          show Act.put _ (some 53) _ = _
          simp only [Act.put, List.setIfInBounds_toArray, List.set_cons_zero, List.set_cons_succ, i64_w, i32_w]
          rfl
         refine one_ (i := 14) (N := some 55) #[true, true, true, true, true, true, true, true, true, true, true, true, true, true, true, false, false] rfl rfl (one_of HT_.out (by kernel_rfl)) (by decide) (fun K hK => ?_)
         refine goes_ Try.func15 (by kernel_rfl) rfl #[.agg #[.int .i64 x349000_8, .int .i64 x349001_8, .int .i64 x349002_8, .int .i64 x349003_8, .int .i64 x349004_8, .int .i64 x349005_8, .int .i64 x349006_8]] (by rfl) rfl rfl (by (try simp only [List.map_toArray, List.map_cons, List.map_nil]); first | done | rfl | (simp only [List.length_drop, List.length_take]; rfl)) ?_
         with_reducible refine (payrollref7_Valid.calls kj8 x349000_8 x349001_8 x349002_8 x349003_8 x349004_8 x349005_8 x349006_8 t366 _ A33.out).mono ?_
         rintro e w58 ⟨rfl, hb⟩
         refine ⟨_, rfl, ?_⟩
         have n0_ := Aside0.mk (Kd.R_below (by (with_reducible repeat (first | apply Kd.R_alloc | apply Kd.R_drewN | apply Kd.R_drew)); exact HO359.out) hb)
         have n1_ := Aside0.mk (Kd.R_below (by (with_reducible repeat (first | apply Kd.R_alloc | apply Kd.R_drewN | apply Kd.R_drew)); exact HO363.out) hb)
         have n2_ := Aside0.mk (blk_below (g := gb332) (o := .cells #[.int .i64 a1_0, .int .i64 a1_1, .int .i64 a1_2, .int .i64 a1_3, .int .i64 a1_4, .int .i64 a1_5, .int .i64 a1_6] 26 (0, 0)) (by (with_reducible repeat (first | refine blk_drewN ?_ _ | refine blk_drew ?_ | refine blk_alloc ?_ _)); exact BK332.out) hb)
         have n3_ := Aside0.mk (blk_below (g := gb348) (o := .cells #[.int .i64 x349000_8, .int .i64 x349001_8, .int .i64 x349002_8, .int .i64 x349003_8, .int .i64 x349004_8, .int .i64 x349005_8, .int .i64 x349006_8] 26 (0, 0)) (by (with_reducible repeat (first | refine blk_drewN ?_ _ | refine blk_drew ?_ | refine blk_alloc ?_ _)); exact BK348.out) hb)
         have n4_ := Aside0.mk (IsS57.below (by repeat (first | (with_reducible first | exact HI335.out | apply IsS57.alloc | apply IsS57.drewN | apply IsS57.drew | apply IsS57.set_1 | refine IsS57.far ?_ NB335_332.out _ | refine IsS57.far ?_ NB335_348.out _) | exact HI335.out)) hb)
         have n5_ := Aside0.mk (below_step (by repeat (first | (with_reducible first | exact HB.out | apply below_alloc | apply pw_below_drewN | apply below_drew1 | refine below_set ?_ (IsS57.ge HI335.out) | refine below_set ?_ GE332.out | refine below_set ?_ GE348.out) | exact HB.out)) hb)
         clear HO359
         clear HO363
         clear BK332
         clear BK348
         clear HI335
         clear HB
         have HO359 := n0_
         have HO363 := n1_
         have BK332 := n2_
         have BK348 := n3_
         have HI335 := n4_
         have HB := n5_
         clear n0_ n1_ n2_ n3_ n4_ n5_
         (try clear hb)
         (try clear hb2)
         (try clear hk)
         (try clear hi)
         refine hK.out _ _ ⟨(blk_cell BK348.out 0).trans rfl, (blk_cell BK348.out 1).trans rfl, (blk_cell BK348.out 2).trans rfl, (blk_cell BK348.out 3).trans rfl, (blk_cell BK348.out 4).trans rfl, (blk_cell BK348.out 5).trans rfl, (blk_cell BK348.out 6).trans rfl, own_string (P := Try.prog) Try.underlying27 Try.underlying5 Try.underlying9 (Kd.own_of_R HO359.out), own_string (P := Try.prog) Try.underlying27 Try.underlying5 Try.underlying9 (Kd.own_of_R HO363.out)⟩ (fun hHeld => ?_)
         clear hK K
         refine norm_ (a' := ?_) ?_ ?_
         rotate_left
         ·
          show Act.put _ (some 55) _ = _
          simp only [Act.put, List.setIfInBounds_toArray, List.set_cons_zero, List.set_cons_succ, i64_w, i32_w]
          rfl
         refine pure_ (i := 15) (N := some 56) (v := ?_) (a' := ?_) #[true, true, true, true, true, true, true, true, true, true, true, true, true, true, true, true, false] rfl rfl (any_of HT_.out (by kernel_rfl)) (fun _ _ _ h => h) (Or.inl ⟨by rfl, ?_⟩) ?_ ?_
         rotate_left
         ·
          intro w'
          go_simp
          with_reducible rfl
         rotate_left
         ·
          simp only [Act.put, List.setIfInBounds_toArray, List.set_cons_zero, List.set_cons_succ, i64_w, i32_w]
          rfl
         refine pure_ (i := 16) (N := some 57) (v := ?_) (a' := ?_) #[true, true, true, true, true, true, true, true, true, true, true, true, true, true, true, true, true] rfl rfl (any_of HT_.out (by kernel_rfl)) (fun _ _ _ h => h) (Or.inl ⟨by rfl, ?_⟩) ?_ ?_
         rotate_left
         ·
          intro w'
          go_simp
          with_reducible rfl
         rotate_left
         ·
          simp only [Act.put, List.setIfInBounds_toArray, List.set_cons_zero, List.set_cons_succ, i64_w, i32_w]
          rfl
         refine done_ (done_of HT_.out (by kernel_rfl)) ?_
         try go_wp2
         go_roundg kj8
         case measure => have := HK1.out; have := HJ8.out; omega
         case rel => exact ⟨(wrap64 (x8_1 + 1)), (x336001_8), (by first | rfl | (simp; done) | (simp [*]; done)), H', ⟨by have := HK1.out; have := HJ8.out; omega⟩, ⟨by (with_reducible repeat (first | refine blk_drewN ?_ _ | refine blk_drew ?_ | refine blk_alloc ?_ _)); exact BK332.out⟩, ⟨by repeat (first | (with_reducible first | exact HI335.out | apply IsS57.alloc | apply IsS57.drewN | apply IsS57.drew | apply IsS57.set_1 | refine IsS57.far ?_ NB335_332.out _ | refine IsS57.far ?_ NB335_348.out _) | exact HI335.out)⟩, ⟨by repeat (first | (with_reducible first | exact HB.out | apply below_alloc | apply pw_below_drewN | apply below_drew1 | refine below_set ?_ (IsS57.ge HI335.out) | refine below_set ?_ GE332.out | refine below_set ?_ GE348.out) | exact HB.out)⟩⟩
       ·
        rw [if_neg c31] at H
        have c31b0 : (t360 == t364) = false := beq_eq_false_iff_ne.mpr c31
        have c31b1 : (t360 != t364) = true := bne_iff_ne.mpr c31
        exact absurd (Option.some.inj H) (by rw [HT.out]; decide)
      ·
       rw [if_neg c30] at H
       have c30b0 : ((strOfNums t357).toList == (strOfNums t361).toList) = false := beq_eq_false_iff_ne.mpr c30
       have c30b1 : ((strOfNums t357).toList != (strOfNums t361).toList) = true := bne_iff_ne.mpr c30
       exact absurd (Option.some.inj H) (by rw [HT.out]; decide)
   ·
    rw [if_neg c7] at H
    have c7b0 : decide (x8_1 < 5) = false := decide_eq_false c7
    clear c7
    by_cases c79 : (l2.length : Int) > 5000
    ·
     rw [if_pos c79] at H
     have c79b0 : decide (5000 < (l2.length : Int)) = true := decide_eq_true c79
     have c79b1 : decide (5000 < l2.length) = true := decide_eq_true (by omega)
     clear c79
     replace H := Option.bind_eq_some_iff.mp H
     obtain ⟨t336, A800, H⟩ := H
     replace H : (some t336) = some r := H
     have A80 := Aside0.mk A800
     clear A800
     obtain rfl := Option.some.inj H
     go_wp2_with (first | (go_at_call 18; (with_reducible refine (payrolllaw7_sane.calls k1  t336 _ A80.out).mono ?_); rintro e w81 ⟨rfl, hb⟩; have n0_ := Aside0.mk (blk_below (g := gb332) (o := .cells #[.int .i64 a1_0, .int .i64 a1_1, .int .i64 a1_2, .int .i64 a1_3, .int .i64 a1_4, .int .i64 a1_5, .int .i64 a1_6] 26 (0, 0)) (by (with_reducible repeat (first | refine blk_drewN ?_ _ | refine blk_drew ?_ | refine blk_alloc ?_ _)); exact BK332.out) hb); have n1_ := Aside0.mk (IsS57.below (by repeat (first | (with_reducible first | exact HI335.out | apply IsS57.alloc | apply IsS57.drewN | apply IsS57.drew | apply IsS57.set_1 | refine IsS57.far ?_ NB335_332.out _) | exact HI335.out)) hb); have n2_ := Aside0.mk (below_step (by repeat (first | (with_reducible first | exact HB.out | apply below_alloc | apply pw_below_drewN | apply below_drew1 | refine below_set ?_ (IsS57.ge HI335.out) | refine below_set ?_ GE332.out) | exact HB.out)) hb); clear BK332; clear HI335; clear HB; have BK332 := n0_; have HI335 := n1_; have HB := n2_; clear n0_ n1_ n2_; (try clear hb); (try clear hb2); (try clear hk); (try clear hi)))
     go_ret
     exact ⟨by first | rfl | (simp [errW_none, errW_some] <;> rfl) | (simp [*, errW_none, errW_some] <;> rfl), by repeat (first | (with_reducible first | exact HB.out | apply below_alloc | apply pw_below_drewN | apply below_drew1 | refine below_set ?_ (IsS57.ge HI335.out) | refine below_set ?_ GE332.out) | exact HB.out)⟩
    ·
     rw [if_neg c79] at H
     have c79b0 : decide (5000 < (l2.length : Int)) = false := decide_eq_false c79
     have c79b1 : decide (5000 < l2.length) = false := decide_eq_false (by omega)
     clear c79
     replace H := Option.bind_eq_some_iff.mp H
     obtain ⟨t337, A820, H⟩ := H
     replace H : ((payrollref7_Sum.f k1 l2).bind fun t338 => (if t337 = t338 then ((payrolllaw7_sane.f k1).bind fun t339 => (some t339)) else (some false))) = some r := H
     have A82 := Aside0.mk A820
     clear A820
     replace H := Option.bind_eq_some_iff.mp H
     obtain ⟨t338, A830, H⟩ := H
     replace H : (if t337 = t338 then ((payrolllaw7_sane.f k1).bind fun t339 => (some t339)) else (some false)) = some r := H
     have A83 := Aside0.mk A830
     clear A830
     by_cases c84 : t337 = t338
     ·
      rw [if_pos c84] at H
      have c84b0 : (t337 == t338) = true := beq_iff_eq.mpr c84
      have c84b1 : (t337 != t338) = false := bne_eq_false_iff_eq.mpr c84
      clear c84
      replace H := Option.bind_eq_some_iff.mp H
      obtain ⟨t339, A850, H⟩ := H
      replace H : (some t339) = some r := H
      have A85 := Aside0.mk A850
      clear A850
      obtain rfl := Option.some.inj H
      go_wp2_with (first | (go_at_call 16; (with_reducible refine (records_Sum.calls k1 _ _ l2 t337 _ ?side1 ?side2 A82.out).mono ?_); (case side1 => repeat (first | exact (Kd.C_below HR2.out HB.out) | (with_reducible refine Kd.C_alloc ?_ _) | (with_reducible refine Kd.C_drewN ?_ _) | (with_reducible refine Kd.C_drew ?_))); (case side2 => exact HC2.out); rintro e w' ⟨rfl, ⟨nd, rfl⟩⟩) | (go_at_call 17; (with_reducible refine (payrollref7_Sum.calls k1 _ _ l2 t338 _ ?side1 ?side2 A83.out).mono ?_); (case side1 => repeat (first | exact (Kd.C_below HR2.out (by repeat (first | (with_reducible first | exact HB.out | apply below_alloc | apply pw_below_drewN | apply below_drew1 | refine below_set ?_ (IsS57.ge HI335.out) | refine below_set ?_ GE332.out) | exact HB.out))) | (with_reducible refine Kd.C_alloc ?_ _) | (with_reducible refine Kd.C_drewN ?_ _) | (with_reducible refine Kd.C_drew ?_))); (case side2 => exact HC2.out); rintro e w' ⟨rfl, ⟨nd, rfl⟩⟩) | (go_at_call 18; (with_reducible refine (payrolllaw7_sane.calls k1  t339 _ A85.out).mono ?_); rintro e w86 ⟨rfl, hb⟩; have n0_ := Aside0.mk (blk_below (g := gb332) (o := .cells #[.int .i64 a1_0, .int .i64 a1_1, .int .i64 a1_2, .int .i64 a1_3, .int .i64 a1_4, .int .i64 a1_5, .int .i64 a1_6] 26 (0, 0)) (by (with_reducible repeat (first | refine blk_drewN ?_ _ | refine blk_drew ?_ | refine blk_alloc ?_ _)); exact BK332.out) hb); have n1_ := Aside0.mk (IsS57.below (by repeat (first | (with_reducible first | exact HI335.out | apply IsS57.alloc | apply IsS57.drewN | apply IsS57.drew | apply IsS57.set_1 | refine IsS57.far ?_ NB335_332.out _) | exact HI335.out)) hb); have n2_ := Aside0.mk (below_step (by repeat (first | (with_reducible first | exact HB.out | apply below_alloc | apply pw_below_drewN | apply below_drew1 | refine below_set ?_ (IsS57.ge HI335.out) | refine below_set ?_ GE332.out) | exact HB.out)) hb); clear BK332; clear HI335; clear HB; have BK332 := n0_; have HI335 := n1_; have HB := n2_; clear n0_ n1_ n2_; (try clear hb); (try clear hb2); (try clear hk); (try clear hi)))
      go_ret
      exact ⟨by first | rfl | (simp [errW_none, errW_some] <;> rfl) | (simp [*, errW_none, errW_some] <;> rfl), by repeat (first | (with_reducible first | exact HB.out | apply below_alloc | apply pw_below_drewN | apply below_drew1 | refine below_set ?_ (IsS57.ge HI335.out) | refine below_set ?_ GE332.out) | exact HB.out)⟩
     ·
      rw [if_neg c84] at H
      have c84b0 : (t337 == t338) = false := beq_eq_false_iff_ne.mpr c84
      have c84b1 : (t337 != t338) = true := bne_iff_ne.mpr c84
      exact absurd (Option.some.inj H) (by rw [HT.out]; decide)

end Go.Proofs.Ytopigdnffnondaa.P
