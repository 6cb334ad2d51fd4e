/- Proved here: that the Go function payrolllaw4_ClockReads computes the plain function of that name (the machine side of the laws, reworked from a print; no condition of its own). -/
import Derived.Test.YtjfdhlagnimkmaaProg
import Derived.Test.YtjfdhlagnimkmaaV1
import Derived.Test.YtjfdhlagnimkmaaFPRE0
import Derived.Test.YtjfdhlagnimkmaaFPRE1
import Derived.Test.YtjfdhlagnimkmaaFPRE3
import Derived.Test.YtjfdhlagnimkmaaFpayrollgenNew
import Derived.Test.YtjfdhlagnimkmaaFpayrollgenTapeNext
import Derived.Test.YtjfdhlagnimkmaaFpayrollgenTapePick
import Derived.Test.YtjfdhlagnimkmaaFpayrollgenTapeZone
import Derived.Test.YtjfdhlagnimkmaaFpayrollgenTapeNear
import Derived.Test.YtjfdhlagnimkmaaFpayrolllaw4sane
import Derived.Test.YtjfdhlagnimkmaaFpayrolllaw4reads
import Derived.Test.YtjfdhlagnimkmaaFpayrollgenTapeSpoilZone
namespace Go.Proofs.Ytjfdhlagnimkmaa.P
open Go.RowKit Go.Proofs.YtjfdhlagnimkmaaW.PrintWords Go.Proofs.YtjfdhlagnimkmaaW.PrintLast Go.Proofs.YtjfdhlagnimkmaaW.PrintMore
attribute [local go_sem] max2_int min2_int max_two min_two max_three min_three max_four min_four   -- for this text's walks alone
set_option linter.unusedVariables false
set_option linter.unusedSimpArgs false

def payrolllaw4_ClockReads.l0 : Nat → Int → Int → Int → Int → Int → List (S42) → List Int → Int → Option (Bool)
 | 0, _, _, _, _, _, _, _, _ => none
 | k + 1, x2, x3, x4, x12, x415000, x415001, x418000, x418001 => if x12 < 4 then ((payrollgen_Tape_Zone.f k x418000 x418001).bind fun bt420 => ((payrollgen_Tape_Near.f x418000 bt420.2.2).bind fun bt426 => ((payrollgen_Tape_Pick.f x418000 bt426.2 (([bt426.1, 0, 120968639, 29453759, 29455200] : List Int))).bind fun bt431 => ((payrollgen_Tape_Next.f x418000 bt431.2 2000).bind fun bt433 => ((payrollgen_Tape_Next.f x418000 bt433.2 5).bind fun bt435 => ((payrollgen_Tape_Pick.f x418000 bt435.2 (([wrap64 ((wrap64 (20454 + bt435.1)) - 1), 0, 84006, 84005, 1] : List Int))).bind fun bt440 => ((payrolllaw4_reads.f k bt420.1 bt420.2.1 bt431.1 (wrap64 ((wrap64 (bt431.1 + bt433.1)) - 1000)) bt440.1).bind fun t442 => (if t442 = true then ((payrollgen_Tape_SpoilZone.f x418000 bt440.2 bt420.1 bt420.2.1).bind fun bt443 => ((payrolllaw4_reads.f k bt443.1 bt443.2.1 bt431.1 bt431.1 20454).bind fun t448 => (if t448 = true then (payrolllaw4_ClockReads.l0 k x2 x3 x4 (wrap64 (x12 + 1)) x415000 x415001 x418000 bt443.2.2) else (some false)))) else (some false))))))))) else (if (x415001.length : Int) > 70 then (some true) else ((payrolllaw4_reads.f k x415000 x415001 x2 x3 x4).bind fun t418 => (if t418 = true then ((payrolllaw4_sane.f k).bind fun t419 => (some t419)) else (some false))))
def payrolllaw4_ClockReads.f (k : Nat) (l0 : List Int) (a1_0 : Int) (l1_1 : List (S42)) (a2 : Int) (a3 : Int) (a4 : Int) : Option (Bool) := (payrollgen_New.f l0).bind fun bt415 => (payrolllaw4_ClockReads.l0 k a2 a3 a4 0 a1_0 l1_1 bt415.1 bt415.2)
theorem payrolllaw4_ClockReads.mono_l : ∀ k, (∀ y0 y1 y2 y3 y4 y5 y6 y7, LeO (payrolllaw4_ClockReads.l0 k y0 y1 y2 y3 y4 y5 y6 y7) (payrolllaw4_ClockReads.l0 (k + 1) y0 y1 y2 y3 y4 y5 y6 y7))
 | 0 => fun _ _ _ _ _ _ _ _ r h => by simp [payrolllaw4_ClockReads.l0] at h
 | k + 1 => by
  have ih0 := payrolllaw4_ClockReads.mono_l k
  ·
   intro y0 y1 y2 y3 y4 y5 y6 y7
   unfold payrolllaw4_ClockReads.l0
   repeat' first
   | (with_reducible exact ih0 _ _ _ _ _ _ _ _)
   | (with_reducible exact payrollgen_Tape_Zone.mono _ _ _)
   | (with_reducible exact payrolllaw4_reads.mono _ _ _ _ _ _)
   | (with_reducible exact payrolllaw4_sane.mono _)
   | (with_reducible exact LeO.refl _)
   | (with_reducible exact LeO.none _)
   | (with_reducible refine LeO.ite ?_ ?_)
   | (with_reducible refine LeO.bind ?_ (fun _ => ?_))
   | exact ih0 _ _ _ _ _ _ _ _
   | exact payrollgen_Tape_Zone.mono _ _ _
   | exact payrolllaw4_reads.mono _ _ _ _ _ _
   | exact payrolllaw4_sane.mono _
   | exact LeO.none _
   | refine LeO.ite ?_ ?_
   | refine LeO.bind ?_ (fun _ => ?_)
theorem payrolllaw4_ClockReads.mono : ∀ a0 a1 a2 a3 a4 a5 k, LeO (payrolllaw4_ClockReads.f k a0 a1 a2 a3 a4 a5) (payrolllaw4_ClockReads.f (k + 1) a0 a1 a2 a3 a4 a5) := by
 intro a0 a1 a2 a3 a4 a5 k
 have ih0 := payrolllaw4_ClockReads.mono_l k
 unfold payrolllaw4_ClockReads.f
 repeat' first
   | (with_reducible exact ih0 _ _ _ _ _ _ _ _)
   | (with_reducible exact payrollgen_Tape_Zone.mono _ _ _)
   | (with_reducible exact payrolllaw4_reads.mono _ _ _ _ _ _)
   | (with_reducible exact payrolllaw4_sane.mono _)
   | (with_reducible exact LeO.refl _)
   | (with_reducible exact LeO.none _)
   | (with_reducible refine LeO.ite ?_ ?_)
   | (with_reducible refine LeO.bind ?_ (fun _ => ?_))
   | exact ih0 _ _ _ _ _ _ _ _
   | exact payrollgen_Tape_Zone.mono _ _ _
   | exact payrolllaw4_reads.mono _ _ _ _ _ _
   | exact payrolllaw4_sane.mono _
   | exact LeO.none _
   | refine LeO.ite ?_ ?_
   | refine LeO.bind ?_ (fun _ => ?_)
def payrolllaw4_ClockReads.T7 : Bool × List (List Nat × List Nat) := (true, [([], []), ([], []), ([], []), ([], []), ([3], [3]), ([2, 4], [2, 4]), ([5], [5]), ([], []), ([], []), ([8, 4], [8]), ([9], [9]), ([10], [10]), ([11], [11]), ([7, 12, 9], [7, 12]), ([0, 1, 6, 13, 13], [0, 1, 6, 13]), ([14], [14]), ([15, 14], [15]), ([16], [16]), ([16], [16]), ([17, 18, 16, 16], [16, 17, 18]), ([16], [16]), ([16], [16]), ([19, 20, 21, 19, 16], [16, 19, 20, 21]), ([22, 16], [16, 22]), ([16, 23], [16, 23])])
def payrolllaw4_ClockReads.B7 : List Nat := [0, 0, 0, 0, 8, 28, 60, 0, 0, 280, 792, 1816, 3864, 8088, 16383, 32767, 65535, 131071, 131071, 524287, 131071, 131071, 4194303, 8388607, 16777215]
theorem payrolllaw4_ClockReads.tab7 : rtab .any (opsOf Try.f7 7) = payrolllaw4_ClockReads.T7 := by kernel_rfl
theorem payrolllaw4_ClockReads.bits7 : waitsOk payrolllaw4_ClockReads.T7.2 payrolllaw4_ClockReads.B7 = true := by kernel_rfl
set_option maxHeartbeats 8000000 in
set_option maxRecDepth 100000 in
theorem payrolllaw4_ClockReads.calls (k : Nat) (A0 : Option Addr) (c0 : Nat) (l0 : List Int) (a1_0 : Int) (A1_1 : Option Addr) (c1_1 : Nat) (l1_1 : List (S42)) (a2 : Int) (a3 : Int) (a4 : Int) (r : Bool) (w : World) (hr0 : Kd.C (Kd.int .i64) w A0 l0.length l0) (hc0 : l0.length ≤ c0) (hr1_1 : Kd.C k42 w A1_1 l1_1.length l1_1) (hc1_1 : l1_1.length ≤ c1_1) (h : payrolllaw4_ClockReads.f k l0 a1_0 l1_1 a2 a3 a4 = some r) :
  Calls Try.prog 7 #[.slice A0 l0.length c0, .agg #[.int .i64 a1_0, .slice A1_1 l1_1.length c1_1], .int .i64 a2, .int .i64 a3, .int .i64 a4] w fun e w' => e = .returned (.bool r) ∧ Below w.heap.size w w' := by
 have hu27 := Try.underlying27
 have HR0 := Aside0.mk hr0
 have HC0 := Aside0.mk hc0
 clear hr0 hc0
 have HR1_1 := Aside0.mk hr1_1
 have HC1_1 := Aside0.mk hc1_1
 clear hr1_1 hc1_1
 have HB := Aside0.mk (Below.refl w.heap.size w)
 have H : ((payrollgen_New.f l0).bind fun bt415 => (payrolllaw4_ClockReads.l0 k a2 a3 a4 0 a1_0 l1_1 bt415.1 bt415.2)) = some r := h
 clear h
 replace H := Option.bind_eq_some_iff.mp H
 obtain ⟨⟨t415, t416⟩, A60, H⟩ := H
 replace H : (payrolllaw4_ClockReads.l0 k a2 a3 a4 0 a1_0 l1_1 t415 t416) = some r := H
 have A6 := Aside0.mk A60
 clear A60
 have H' := Aside0.mk H
 clear H
 go_enter Try.func7, Try.ntmps7
 go_wp2_with (first | ((with_reducible refine gate_dst (N := 6) rfl ?_); refine box_event ?hg (N := 6) ?hd (cs := #[.int .i64 a1_0, .slice A1_1 l1_1.length c1_1]) (t := 27) ?hr ?_; (case hd => rfl); (case hg => rfl); (case hr => first | (go_simp; done) | (go_simp; rfl)); intro gb414 hg w7 hbox hb; have n0_ := Aside0.mk (below_step (by repeat (first | (with_reducible first | exact HB.out | apply below_alloc | apply pw_below_drewN | apply below_drew1) | exact HB.out)) hb); have n1_ := Aside0.mk (hbox); have n2_ := Aside0.mk ((by rw [hg]; exact (below_size (by repeat (first | (with_reducible first | exact HB.out | apply below_alloc | apply pw_below_drewN | apply below_drew1) | exact HB.out))) : w.heap.size ≤ gb414)); have n3_ := Aside0.mk ((by rw [hg]; exact (below_size (by repeat (first | (with_reducible first | exact HB.out | apply below_alloc | apply pw_below_drewN | apply below_drew1) | exact HB.out))) : w.heap.size ≤ gb414)); clear HB; have HB := n0_; have BK414 := n1_; have GW414 := n2_; have GE414 := n3_; clear n0_ n1_ n2_ n3_; clear hb hbox hg) | ((with_reducible refine gate_callee (f := 9) rfl ?_); refine goesL_ (some 16) rfl rfl Try.func9 (by kernel_rfl) rfl #[.slice A0 l0.length c0] rfl (by (try simp only [List.map_toArray, List.map_cons, List.map_nil]); first | done | rfl | (simp only [List.length_drop, List.length_take]; rfl)) ?_; (with_reducible refine (payrollgen_New.calls _ _ l0 t415 t416 w _ ?side1 ?side2 ?side3 A6.out).mono ?_); (case side1 => repeat (first | (with_reducible first | exact HB.out | apply below_alloc | apply pw_below_drewN | apply below_drew1 | refine below_set ?_ GE414.out) | exact HB.out)); (case side2 => exact HR0.out); (case side3 => exact HC0.out); rintro e w8 ⟨g417, rfl, hi, hb, hb2⟩; refine ⟨_, rfl, ?_⟩; have n0_ := Aside0.mk (blk_below (g := gb414) (o := .cells #[.int .i64 a1_0, .slice A1_1 l1_1.length c1_1] 27 (0, 0)) (by (with_reducible repeat (first | refine blk_drewN ?_ _ | refine blk_drew ?_ | refine blk_alloc ?_ _)); exact BK414.out) hb2); have n1_ := Aside0.mk (hb); have n2_ := Aside0.mk (hi); have n3_ := Aside0.mk (IsS49.ne_blk hi (blk_below (g := gb414) (o := .cells #[.int .i64 a1_0, .slice A1_1 l1_1.length c1_1] 27 (0, 0)) (by (with_reducible repeat (first | refine blk_drewN ?_ _ | refine blk_drew ?_ | refine blk_alloc ?_ _)); exact BK414.out) hb2) (by decide)); have n4_ := Aside0.mk (Ne.symm (IsS49.ne_blk hi (blk_below (g := gb414) (o := .cells #[.int .i64 a1_0, .slice A1_1 l1_1.length c1_1] 27 (0, 0)) (by (with_reducible repeat (first | refine blk_drewN ?_ _ | refine blk_drew ?_ | refine blk_alloc ?_ _)); exact BK414.out) hb2) (by decide))); clear BK414; clear HB; have BK414 := n0_; have HB := n1_; have HI417 := n2_; have NB417_414 := n3_; have NB414_417 := n4_; clear n0_ n1_ n2_ n3_ n4_; (try clear hb); (try clear hb2); (try clear hk); (try clear hi)))
 go_loopg [12] k (fun kq v12 w' => ∃ (x12_1 : Int) (x418001_1 : Int), v12 = .int .i64 x12_1 ∧ Aside0 (payrolllaw4_ClockReads.l0 kq a2 a3 a4 x12_1 a1_0 l1_1 t415 x418001_1 = some r) ∧ Aside0 (kq ≤ k) ∧ Aside0 (w'.heap[gb414]? = some (.cells #[.int .i64 a1_0, (.slice A1_1 l1_1.length c1_1)] 27 (0, 0))) ∧ Aside0 (IsS49 w w' g417 t415 x418001_1) ∧ Aside0 (Below w.heap.size w w'))
 case atStart => exact ⟨(0), (t416), (by first | rfl | (simp; done) | (simp [*]; done)), H', ⟨Nat.le_refl _⟩, ⟨by (with_reducible repeat (first | refine blk_drewN ?_ _ | refine blk_drew ?_ | refine blk_alloc ?_ _)); exact BK414.out⟩, ⟨by repeat (first | (with_reducible first | exact HI417.out | apply IsS49.alloc | apply IsS49.drewN | apply IsS49.drew | apply IsS49.set_1 | refine IsS49.far ?_ NB417_414.out _) | exact HI417.out)⟩, ⟨by repeat (first | (with_reducible first | exact HB.out | apply below_alloc | apply pw_below_drewN | apply below_drew1 | refine below_set ?_ (IsS49.ge HI417.out) | refine below_set ?_ GE414.out) | exact HB.out)⟩⟩
 case round =>
  clear H'
  try clear c1
  try clear p2
  try clear c7
  obtain ⟨x12_1, x418001_1, rfl, HA, HK1, BK414, HI417, HB⟩ := hrel
  cases gk with
  | zero => exact absurd HA.out (by simp [payrolllaw4_ClockReads.l0])
  | succ k1 =>
   have H := HA.out
   clear HA
   simp only [payrolllaw4_ClockReads.l0] at H
   by_cases c9 : x12_1 < 4
   ·
    rw [if_pos c9] at H
    have c9b0 : decide (x12_1 < 4) = true := decide_eq_true c9
    clear c9
    replace H := Option.bind_eq_some_iff.mp H
    obtain ⟨⟨t420, t421, t424⟩, A100, H⟩ := H
    replace H : ((payrollgen_Tape_Near.f t415 t424).bind fun bt426 => ((payrollgen_Tape_Pick.f t415 bt426.2 (([bt426.1, 0, 120968639, 29453759, 29455200] : List Int))).bind fun bt431 => ((payrollgen_Tape_Next.f t415 bt431.2 2000).bind fun bt433 => ((payrollgen_Tape_Next.f t415 bt433.2 5).bind fun bt435 => ((payrollgen_Tape_Pick.f t415 bt435.2 (([wrap64 ((wrap64 (20454 + bt435.1)) - 1), 0, 84006, 84005, 1] : List Int))).bind fun bt440 => ((payrolllaw4_reads.f k1 t420 t421 bt431.1 (wrap64 ((wrap64 (bt431.1 + bt433.1)) - 1000)) bt440.1).bind fun t442 => (if t442 = true then ((payrollgen_Tape_SpoilZone.f t415 bt440.2 t420 t421).bind fun bt443 => ((payrolllaw4_reads.f k1 bt443.1 bt443.2.1 bt431.1 bt431.1 20454).bind fun t448 => (if t448 = true then (payrolllaw4_ClockReads.l0 k1 a2 a3 a4 (wrap64 (x12_1 + 1)) a1_0 l1_1 t415 bt443.2.2) else (some false)))) else (some false)))))))) = some r := H
    have A10 := Aside0.mk A100
    clear A100
    replace H := Option.bind_eq_some_iff.mp H
    obtain ⟨⟨t426, t427⟩, A110, H⟩ := H
    replace H : ((payrollgen_Tape_Pick.f t415 t427 (([t426, 0, 120968639, 29453759, 29455200] : List Int))).bind fun bt431 => ((payrollgen_Tape_Next.f t415 bt431.2 2000).bind fun bt433 => ((payrollgen_Tape_Next.f t415 bt433.2 5).bind fun bt435 => ((payrollgen_Tape_Pick.f t415 bt435.2 (([wrap64 ((wrap64 (20454 + bt435.1)) - 1), 0, 84006, 84005, 1] : List Int))).bind fun bt440 => ((payrolllaw4_reads.f k1 t420 t421 bt431.1 (wrap64 ((wrap64 (bt431.1 + bt433.1)) - 1000)) bt440.1).bind fun t442 => (if t442 = true then ((payrollgen_Tape_SpoilZone.f t415 bt440.2 t420 t421).bind fun bt443 => ((payrolllaw4_reads.f k1 bt443.1 bt443.2.1 bt431.1 bt431.1 20454).bind fun t448 => (if t448 = true then (payrolllaw4_ClockReads.l0 k1 a2 a3 a4 (wrap64 (x12_1 + 1)) a1_0 l1_1 t415 bt443.2.2) else (some false)))) else (some false))))))) = some r := H
    have A11 := Aside0.mk A110
    clear A110
    obtain ⟨y428, hy428⟩ : ∃ y_ : List Int, y_ = (([t426, 0, 120968639, 29453759, 29455200] : List Int)) := ⟨_, rfl⟩
    replace H : ((payrollgen_Tape_Pick.f t415 t427 y428).bind fun bt431 => ((payrollgen_Tape_Next.f t415 bt431.2 2000).bind fun bt433 => ((payrollgen_Tape_Next.f t415 bt433.2 5).bind fun bt435 => ((payrollgen_Tape_Pick.f t415 bt435.2 (([wrap64 ((wrap64 (20454 + bt435.1)) - 1), 0, 84006, 84005, 1] : List Int))).bind fun bt440 => ((payrolllaw4_reads.f k1 t420 t421 bt431.1 (wrap64 ((wrap64 (bt431.1 + bt433.1)) - 1000)) bt440.1).bind fun t442 => (if t442 = true then ((payrollgen_Tape_SpoilZone.f t415 bt440.2 t420 t421).bind fun bt443 => ((payrolllaw4_reads.f k1 bt443.1 bt443.2.1 bt431.1 bt431.1 20454).bind fun t448 => (if t448 = true then (payrolllaw4_ClockReads.l0 k1 a2 a3 a4 (wrap64 (x12_1 + 1)) a1_0 l1_1 t415 bt443.2.2) else (some false)))) else (some false))))))) = some r := by first | (rw [hy428]; with_reducible exact H) | (have H2_ := (Option.bind_some _ _).symm.trans H; rw [hy428]; with_reducible exact H2_) | (have H2_ := (Option.bind_some _ _).symm.trans H; with_reducible exact H2_) | with_reducible exact H | (rw [hy428]; exact H) | exact H
    have Ny428 := Aside0.mk hy428
    clear hy428
    replace H := Option.bind_eq_some_iff.mp H
    obtain ⟨⟨t431, t432⟩, A120, H⟩ := H
    replace H : ((payrollgen_Tape_Next.f t415 t432 2000).bind fun bt433 => ((payrollgen_Tape_Next.f t415 bt433.2 5).bind fun bt435 => ((payrollgen_Tape_Pick.f t415 bt435.2 (([wrap64 ((wrap64 (20454 + bt435.1)) - 1), 0, 84006, 84005, 1] : List Int))).bind fun bt440 => ((payrolllaw4_reads.f k1 t420 t421 t431 (wrap64 ((wrap64 (t431 + bt433.1)) - 1000)) bt440.1).bind fun t442 => (if t442 = true then ((payrollgen_Tape_SpoilZone.f t415 bt440.2 t420 t421).bind fun bt443 => ((payrolllaw4_reads.f k1 bt443.1 bt443.2.1 t431 t431 20454).bind fun t448 => (if t448 = true then (payrolllaw4_ClockReads.l0 k1 a2 a3 a4 (wrap64 (x12_1 + 1)) a1_0 l1_1 t415 bt443.2.2) else (some false)))) else (some false)))))) = some r := H
    have A12 := Aside0.mk A120
    clear A120
    replace H := Option.bind_eq_some_iff.mp H
    obtain ⟨⟨t433, t434⟩, A130, H⟩ := H
    replace H : ((payrollgen_Tape_Next.f t415 t434 5).bind fun bt435 => ((payrollgen_Tape_Pick.f t415 bt435.2 (([wrap64 ((wrap64 (20454 + bt435.1)) - 1), 0, 84006, 84005, 1] : List Int))).bind fun bt440 => ((payrolllaw4_reads.f k1 t420 t421 t431 (wrap64 ((wrap64 (t431 + t433)) - 1000)) bt440.1).bind fun t442 => (if t442 = true then ((payrollgen_Tape_SpoilZone.f t415 bt440.2 t420 t421).bind fun bt443 => ((payrolllaw4_reads.f k1 bt443.1 bt443.2.1 t431 t431 20454).bind fun t448 => (if t448 = true then (payrolllaw4_ClockReads.l0 k1 a2 a3 a4 (wrap64 (x12_1 + 1)) a1_0 l1_1 t415 bt443.2.2) else (some false)))) else (some false))))) = some r := H
    have A13 := Aside0.mk A130
    clear A130
    replace H := Option.bind_eq_some_iff.mp H
    obtain ⟨⟨t435, t436⟩, A140, H⟩ := H
    replace H : ((payrollgen_Tape_Pick.f t415 t436 (([wrap64 ((wrap64 (20454 + t435)) - 1), 0, 84006, 84005, 1] : List Int))).bind fun bt440 => ((payrolllaw4_reads.f k1 t420 t421 t431 (wrap64 ((wrap64 (t431 + t433)) - 1000)) bt440.1).bind fun t442 => (if t442 = true then ((payrollgen_Tape_SpoilZone.f t415 bt440.2 t420 t421).bind fun bt443 => ((payrolllaw4_reads.f k1 bt443.1 bt443.2.1 t431 t431 20454).bind fun t448 => (if t448 = true then (payrolllaw4_ClockReads.l0 k1 a2 a3 a4 (wrap64 (x12_1 + 1)) a1_0 l1_1 t415 bt443.2.2) else (some false)))) else (some false)))) = some r := H
    have A14 := Aside0.mk A140
    clear A140
    obtain ⟨y437, hy437⟩ : ∃ y_ : List Int, y_ = (([wrap64 ((wrap64 (20454 + t435)) - 1), 0, 84006, 84005, 1] : List Int)) := ⟨_, rfl⟩
    replace H : ((payrollgen_Tape_Pick.f t415 t436 y437).bind fun bt440 => ((payrolllaw4_reads.f k1 t420 t421 t431 (wrap64 ((wrap64 (t431 + t433)) - 1000)) bt440.1).bind fun t442 => (if t442 = true then ((payrollgen_Tape_SpoilZone.f t415 bt440.2 t420 t421).bind fun bt443 => ((payrolllaw4_reads.f k1 bt443.1 bt443.2.1 t431 t431 20454).bind fun t448 => (if t448 = true then (payrolllaw4_ClockReads.l0 k1 a2 a3 a4 (wrap64 (x12_1 + 1)) a1_0 l1_1 t415 bt443.2.2) else (some false)))) else (some false)))) = some r := by first | (rw [hy437]; with_reducible exact H) | (have H2_ := (Option.bind_some _ _).symm.trans H; rw [hy437]; with_reducible exact H2_) | (have H2_ := (Option.bind_some _ _).symm.trans H; with_reducible exact H2_) | with_reducible exact H | (rw [hy437]; exact H) | exact H
    have Ny437 := Aside0.mk hy437
    clear hy437
    replace H := Option.bind_eq_some_iff.mp H
    obtain ⟨⟨t440, t441⟩, A150, H⟩ := H
    replace H : ((payrolllaw4_reads.f k1 t420 t421 t431 (wrap64 ((wrap64 (t431 + t433)) - 1000)) t440).bind fun t442 => (if t442 = true then ((payrollgen_Tape_SpoilZone.f t415 t441 t420 t421).bind fun bt443 => ((payrolllaw4_reads.f k1 bt443.1 bt443.2.1 t431 t431 20454).bind fun t448 => (if t448 = true then (payrolllaw4_ClockReads.l0 k1 a2 a3 a4 (wrap64 (x12_1 + 1)) a1_0 l1_1 t415 bt443.2.2) else (some false)))) else (some false))) = some r := H
    have A15 := Aside0.mk A150
    clear A150
    replace H := Option.bind_eq_some_iff.mp H
    obtain ⟨t442, A160, H⟩ := H
    replace H : (if t442 = true then ((payrollgen_Tape_SpoilZone.f t415 t441 t420 t421).bind fun bt443 => ((payrolllaw4_reads.f k1 bt443.1 bt443.2.1 t431 t431 20454).bind fun t448 => (if t448 = true then (payrolllaw4_ClockReads.l0 k1 a2 a3 a4 (wrap64 (x12_1 + 1)) a1_0 l1_1 t415 bt443.2.2) else (some false)))) else (some false)) = some r := H
    have A16 := Aside0.mk A160
    clear A160
    by_cases c17 : t442 = true
    ·
     subst c17
     have H1 : ((payrollgen_Tape_SpoilZone.f t415 t441 t420 t421).bind fun bt443 => ((payrolllaw4_reads.f k1 bt443.1 bt443.2.1 t431 t431 20454).bind fun t448 => (if t448 = true then (payrolllaw4_ClockReads.l0 k1 a2 a3 a4 (wrap64 (x12_1 + 1)) a1_0 l1_1 t415 bt443.2.2) else (some false)))) = some r := by rw [if_pos rfl] at H; exact H
     clear H
     have H := H1
     clear H1
     replace H := Option.bind_eq_some_iff.mp H
     obtain ⟨⟨t443, t444, t447⟩, A180, H⟩ := H
     replace H : ((payrolllaw4_reads.f k1 t443 t444 t431 t431 20454).bind fun t448 => (if t448 = true then (payrolllaw4_ClockReads.l0 k1 a2 a3 a4 (wrap64 (x12_1 + 1)) a1_0 l1_1 t415 t447) else (some false))) = some r := H
     have A18 := Aside0.mk A180
     clear A180
     replace H := Option.bind_eq_some_iff.mp H
     obtain ⟨t448, A190, H⟩ := H
     replace H : (if t448 = true then (payrolllaw4_ClockReads.l0 k1 a2 a3 a4 (wrap64 (x12_1 + 1)) a1_0 l1_1 t415 t447) else (some false)) = some r := H
     have A19 := Aside0.mk A190
     clear A190
     by_cases c20 : t448 = true
     ·
      subst c20
      have H1 : (payrolllaw4_ClockReads.l0 k1 a2 a3 a4 (wrap64 (x12_1 + 1)) a1_0 l1_1 t415 t447) = some r := by rw [if_pos rfl] at H; exact H
      clear H
      have H := H1
      clear H1
      have H' := Aside0.mk H
      clear H
      try go_wp2_with (first | ((with_reducible refine gate_callee (f := 10) rfl ?_); refine goesL_ (some 22) rfl rfl Try.func10 (by kernel_rfl) rfl #[.pointer (some ⟨g417, 0, none⟩)] rfl (by (try simp only [List.map_toArray, List.map_cons, List.map_nil]); first | done | rfl | (simp only [List.length_drop, List.length_take]; rfl)) ?_; (with_reducible refine (payrollgen_Tape_Zone.calls k1 g417 t415 x418001_1 t420 t421 t424 w _ ?side1 ?side2 A10.out).mono ?_); (case side1 => repeat (first | (with_reducible first | exact HI417.out | apply IsS49.alloc | apply IsS49.drewN | apply IsS49.drew | apply IsS49.set_1 | refine IsS49.far ?_ NB417_414.out _) | exact HI417.out)); (case side2 => repeat (first | (with_reducible first | exact HB.out | apply below_alloc | apply pw_below_drewN | apply below_drew1 | refine below_set ?_ (IsS49.ge HI417.out) | refine below_set ?_ GE414.out) | exact HB.out)); rintro e w21 ⟨v422, rfl, ho0, hi, hb, hk⟩; refine ⟨_, rfl, ?_⟩; have n0_ := Aside0.mk (KeepBut.blk hk (g' := gb414) (o := .cells #[.int .i64 a1_0, .slice A1_1 l1_1.length c1_1] 27 (0, 0)) (by (with_reducible repeat (first | refine blk_drewN ?_ _ | refine blk_drew ?_ | refine blk_alloc ?_ _)); exact BK414.out) NB414_417.out (by simp)); have n1_ := Aside0.mk (Kd.R_lower ho0 (below_size (by repeat (first | (with_reducible first | exact HB.out | apply below_alloc | apply pw_below_drewN | apply below_drew1 | refine below_set ?_ (IsS49.ge HI417.out) | refine below_set ?_ GE414.out) | exact HB.out)))); have n2_ := Aside0.mk (hb); have n3_ := Aside0.mk (hi); clear BK414; clear HB; clear HI417; have BK414 := n0_; have HO423 := n1_; have HB := n2_; have HI417 := n3_; clear n0_ n1_ n2_ n3_; (try clear hb); (try clear hb2); (try clear hk); (try clear hi); (try clear ho0)) | ((with_reducible refine gate_dst (N := 13) rfl ?_); refine box_event ?hg (N := 13) ?hd (cs := #[.int .i64 0, .slice none 0 0]) (t := 27) ?hr ?_; (case hd => rfl); (case hg => rfl); (case hr => first | (go_simp; done) | (go_simp; rfl)); intro gb425 hg w22 hbox hb; have n0_ := Aside0.mk (Kd.R_below (by (with_reducible repeat (first | apply Kd.R_alloc | apply Kd.R_drewN | apply Kd.R_drew)); exact HO423.out) hb); have n1_ := Aside0.mk (blk_below (g := gb414) (o := .cells #[.int .i64 a1_0, .slice A1_1 l1_1.length c1_1] 27 (0, 0)) (by (with_reducible repeat (first | refine blk_drewN ?_ _ | refine blk_drew ?_ | refine blk_alloc ?_ _)); exact BK414.out) hb); have n2_ := Aside0.mk (IsS49.below (by repeat (first | (with_reducible first | exact HI417.out | apply IsS49.alloc | apply IsS49.drewN | apply IsS49.drew | apply IsS49.set_1 | refine IsS49.far ?_ NB417_414.out _) | exact HI417.out)) hb); have n3_ := Aside0.mk (below_step (by repeat (first | (with_reducible first | exact HB.out | apply below_alloc | apply pw_below_drewN | apply below_drew1 | refine below_set ?_ (IsS49.ge HI417.out) | refine below_set ?_ GE414.out) | exact HB.out)) hb); have n4_ := Aside0.mk (hbox); have n5_ := Aside0.mk ((by rw [hg]; exact (below_size (by repeat (first | (with_reducible first | exact HB.out | apply below_alloc | apply pw_below_drewN | apply below_drew1 | refine below_set ?_ (IsS49.ge HI417.out) | refine below_set ?_ GE414.out) | exact HB.out))) : w.heap.size ≤ gb425)); have n6_ := Aside0.mk ((by rw [hg]; exact (below_size (by repeat (first | (with_reducible first | exact HB.out | apply below_alloc | apply pw_below_drewN | apply below_drew1 | refine below_set ?_ (IsS49.ge HI417.out) | refine below_set ?_ GE414.out) | exact HB.out))) : w.heap.size ≤ gb425)); have n7_ := Aside0.mk ((by rw [hg]; exact Nat.ne_of_lt (blk_lt (g := gb414) (o := .cells #[.int .i64 a1_0, .slice A1_1 l1_1.length c1_1] 27 (0, 0)) (by (with_reducible repeat (first | refine blk_drewN ?_ _ | refine blk_drew ?_ | refine blk_alloc ?_ _)); exact BK414.out)) : gb414 ≠ gb425)); have n8_ := Aside0.mk ((by rw [hg]; exact Nat.ne_of_gt (blk_lt (g := gb414) (o := .cells #[.int .i64 a1_0, .slice A1_1 l1_1.length c1_1] 27 (0, 0)) (by (with_reducible repeat (first | refine blk_drewN ?_ _ | refine blk_drew ?_ | refine blk_alloc ?_ _)); exact BK414.out)) : gb425 ≠ gb414)); have n9_ := Aside0.mk ((by rw [hg]; exact Nat.ne_of_lt (IsS49.lt (show IsS49 w _ g417 t415 t424 from by repeat (first | (with_reducible first | exact HI417.out | apply IsS49.alloc | apply IsS49.drewN | apply IsS49.drew | apply IsS49.set_1 | refine IsS49.far ?_ NB417_414.out _) | exact HI417.out))) : g417 ≠ gb425)); have n10_ := Aside0.mk ((by rw [hg]; exact Nat.ne_of_gt (IsS49.lt (show IsS49 w _ g417 t415 t424 from by repeat (first | (with_reducible first | exact HI417.out | apply IsS49.alloc | apply IsS49.drewN | apply IsS49.drew | apply IsS49.set_1 | refine IsS49.far ?_ NB417_414.out _) | exact HI417.out))) : gb425 ≠ g417)); clear HO423; clear BK414; clear HI417; clear HB; have HO423 := n0_; have BK414 := n1_; have HI417 := n2_; have HB := n3_; have BK425 := n4_; have GW425 := n5_; have GE425 := n6_; have NB414_425 := n7_; have NB425_414 := n8_; have NB417_425 := n9_; have NB425_417 := n10_; clear n0_ n1_ n2_ n3_ n4_ n5_ n6_ n7_ n8_ n9_ n10_; clear hb hbox hg; have hnb23 := NB425_414.out; have hnc23 := NB414_425.out; have hnb24 := NB425_417.out; have hnc24 := NB417_425.out; have hcz25_0 : w22.cell? ⟨gb425, 0, none⟩ = some (.int .i64 0) := (blk_cell BK425.out 0).trans rfl; have hcz25_1 : w22.cell? ⟨gb425, 1, none⟩ = some (.slice none 0 0) := (blk_cell BK425.out 1).trans rfl; have hfz25_0 := blk_frozen BK425.out 0; have hfz25_1 := blk_frozen BK425.out 1; obtain ⟨Ao26, co26, eo26⟩ := Kd.R_slice HO423.out; subst eo26) | ((with_reducible refine gate_callee (f := 11) rfl ?_); refine goesL_ (some 25) rfl rfl Try.func11 (by kernel_rfl) rfl #[.pointer (some ⟨g417, 0, none⟩)] rfl (by (try simp only [List.map_toArray, List.map_cons, List.map_nil]); first | done | rfl | (simp only [List.length_drop, List.length_take]; rfl)) ?_; (with_reducible refine (payrollgen_Tape_Near.calls g417 t415 t424 t426 t427 w _ ?side1 ?side2 A11.out).mono ?_); (case side1 => repeat (first | (with_reducible first | exact HI417.out | apply IsS49.alloc | apply IsS49.drewN | apply IsS49.drew | apply IsS49.set_1 | refine IsS49.far ?_ NB417_414.out _ | refine IsS49.far ?_ NB417_425.out _) | exact HI417.out)); (case side2 => repeat (first | (with_reducible first | exact HB.out | apply below_alloc | apply pw_below_drewN | apply below_drew1 | refine below_set ?_ (IsS49.ge HI417.out) | refine below_set ?_ GE414.out | refine below_set ?_ GE425.out) | exact HB.out)); rintro e w27 ⟨rfl, hi, hb, hk⟩; refine ⟨_, rfl, ?_⟩; have n0_ := Aside0.mk (KeepBut.blk hk (g' := gb414) (o := .cells #[.int .i64 a1_0, .slice A1_1 l1_1.length c1_1] 27 (0, 0)) (by (with_reducible repeat (first | refine blk_drewN ?_ _ | refine blk_drew ?_ | refine blk_alloc ?_ _)); refine blk_far ?_ NB414_425.out _; (with_reducible repeat (first | refine blk_drewN ?_ _ | refine blk_drew ?_ | refine blk_alloc ?_ _)); refine blk_far ?_ NB414_425.out _; (with_reducible repeat (first | refine blk_drewN ?_ _ | refine blk_drew ?_ | refine blk_alloc ?_ _)); exact BK414.out) NB414_417.out (by simp)); have n1_ := Aside0.mk (Kd.R_mono (Kd.R_keep (IsS49.apart (show IsS49 w _ g417 t415 t424 from by repeat (first | (with_reducible first | exact HI417.out | apply IsS49.alloc | apply IsS49.drewN | apply IsS49.drew | apply IsS49.set_1 | refine IsS49.far ?_ NB417_414.out _ | refine IsS49.far ?_ NB417_425.out _) | exact HI417.out)) (by (with_reducible repeat (first | apply Kd.R_alloc | apply Kd.R_drewN | apply Kd.R_drew)); exact (Kd.R_mono (Kd.R_far (p := ⟨gb425, 1, none⟩) (Kd.R_far (p := ⟨gb425, 0, none⟩) (Kd.R_types HO423.out BK425.out (by decide)) (fun _ hk => hk.2) (.int .i64 t420)) (fun _ hk => hk.2) (.slice Ao26 t421.length co26)) (fun _ h_ => h_.1))) (by decide)) hk (fun _ h => h.2)) (fun _ h => h.1)); have n2_ := Aside0.mk (KeepBut.blk hk (g' := gb425) (o := .cells #[.int .i64 t420, .slice Ao26 t421.length co26] 27 (0, 0)) (by (with_reducible repeat (first | refine blk_drewN ?_ _ | refine blk_drew ?_ | refine blk_alloc ?_ _)); refine blk_put (cs := #[.int .i64 t420, .slice none 0 0]) ?_ 1 _ rfl; (with_reducible repeat (first | refine blk_drewN ?_ _ | refine blk_drew ?_ | refine blk_alloc ?_ _)); refine blk_put (cs := #[.int .i64 0, .slice none 0 0]) ?_ 0 _ rfl; (with_reducible repeat (first | refine blk_drewN ?_ _ | refine blk_drew ?_ | refine blk_alloc ?_ _)); exact BK425.out) NB425_417.out (by simp)); have n3_ := Aside0.mk (hb); have n4_ := Aside0.mk (hi); clear BK414; clear HO423; clear BK425; clear HB; clear HI417; have BK414 := n0_; have HO423 := n1_; have BK425 := n2_; have HB := n3_; have HI417 := n4_; clear n0_ n1_ n2_ n3_ n4_; (try clear hb); (try clear hb2); (try clear hk); (try clear hi)) | ((with_reducible refine gate_dst (N := 26) rfl ?_); refine Kd.R_lit (Kd.int .i64) _ 3 ?hg (N := 26) ?hd (xs := ([t426, 0, 120968639, 29453759, 29455200] : List Int)) (inner := [.int .i64 t426, .int .i64 0, .int .i64 120968639, .int .i64 29453759, .int .i64 29455200]) (ok := fun _ => True) (okp := fun _ => True) ?hr ?hp (fun _ hk => hk) trivial (Below.refl _ _) (Nat.le_refl _) (by simp) ?_; (case hd => rfl); (case hg => rfl); (case hr => first | (go_simp; done) | (go_simp; rfl)); (case hp => exact (Reps.one (show Kd.M (Kd.int .i64) _ _ _ t426 [.int .i64 t426] from rfl) (Reps.one (show Kd.M (Kd.int .i64) _ _ _ 0 [.int .i64 0] from rfl) (Reps.one (show Kd.M (Kd.int .i64) _ _ _ 120968639 [.int .i64 120968639] from rfl) (Reps.one (show Kd.M (Kd.int .i64) _ _ _ 29453759 [.int .i64 29453759] from rfl) (Reps.one (show Kd.M (Kd.int .i64) _ _ _ 29455200 [.int .i64 29455200] from rfl) (Reps.none _ _))))))); intro v429 w28 ho29 hb hg_ hnew_; clear hg_ hnew_; (first | rw [← Ny428.out] at ho29 | (simp only [Int.reduceToNat] at ho29; rw [← Ny428.out] at ho29)); have n0_ := Aside0.mk (Kd.R_below (by (with_reducible repeat (first | apply Kd.R_alloc | apply Kd.R_drewN | apply Kd.R_drew)); exact HO423.out) hb); have n1_ := Aside0.mk (Kd.R_lower ho29 (below_size (by repeat (first | (with_reducible first | exact HB.out | apply below_alloc | apply pw_below_drewN | apply below_drew1 | refine below_set ?_ (IsS49.ge HI417.out) | refine below_set ?_ GE414.out | refine below_set ?_ GE425.out) | exact HB.out)))); have n2_ := Aside0.mk (blk_below (g := gb414) (o := .cells #[.int .i64 a1_0, .slice A1_1 l1_1.length c1_1] 27 (0, 0)) (by (with_reducible repeat (first | refine blk_drewN ?_ _ | refine blk_drew ?_ | refine blk_alloc ?_ _)); exact BK414.out) hb); have n3_ := Aside0.mk (IsS49.below (by repeat (first | (with_reducible first | exact HI417.out | apply IsS49.alloc | apply IsS49.drewN | apply IsS49.drew | apply IsS49.set_1 | refine IsS49.far ?_ NB417_414.out _ | refine IsS49.far ?_ NB417_425.out _) | exact HI417.out)) hb); have n4_ := Aside0.mk (blk_below (g := gb425) (o := .cells #[.int .i64 t420, .slice Ao26 t421.length co26] 27 (0, 0)) (by (with_reducible repeat (first | refine blk_drewN ?_ _ | refine blk_drew ?_ | refine blk_alloc ?_ _)); exact BK425.out) hb); have n5_ := Aside0.mk (below_step (by repeat (first | (with_reducible first | exact HB.out | apply below_alloc | apply pw_below_drewN | apply below_drew1 | refine below_set ?_ (IsS49.ge HI417.out) | refine below_set ?_ GE414.out | refine below_set ?_ GE425.out) | exact HB.out)) hb); clear HO423; clear BK414; clear HI417; clear BK425; clear HB; have HO423 := n0_; have HO430 := n1_; have BK414 := n2_; have HI417 := n3_; have BK425 := n4_; have HB := n5_; clear n0_ n1_ n2_ n3_ n4_ n5_; clear hb ho29; obtain ⟨Ao30, co30, eo30⟩ := Kd.R_slice HO430.out; subst eo30) | ((with_reducible refine gate_callee (f := 18) rfl ?_); refine goesL_ (some 27) rfl rfl Try.func18 (by kernel_rfl) rfl #[.pointer (some ⟨g417, 0, none⟩), .slice Ao30 y428.length co30] rfl (by (try simp only [List.map_toArray, List.map_cons, List.map_nil]); first | done | rfl | (simp only [List.length_drop, List.length_take]; rfl)) ?_; (with_reducible refine (payrollgen_Tape_Pick.calls g417 t415 t427 _ _ y428 t431 t432 w _ ?side1 ?side2 ?side3 ?side4 ?side5 A12.out).mono ?_); (case side1 => repeat (first | (with_reducible first | exact HI417.out | apply IsS49.alloc | apply IsS49.drewN | apply IsS49.drew | apply IsS49.set_1 | refine IsS49.far ?_ NB417_414.out _ | refine IsS49.far ?_ NB417_425.out _) | exact HI417.out)); (case side2 => repeat (first | (with_reducible first | exact HB.out | apply below_alloc | apply pw_below_drewN | apply below_drew1 | refine below_set ?_ (IsS49.ge HI417.out) | refine below_set ?_ GE414.out | refine below_set ?_ GE425.out) | exact HB.out)); (case side3 => repeat (first | exact (Kd.R_reads' HO430.out).2.2 | (with_reducible refine Kd.C_alloc ?_ _) | (with_reducible refine Kd.C_drewN ?_ _) | (with_reducible refine Kd.C_drew ?_))); (case side4 => exact (Kd.R_reads' HO430.out).2.1); (case side5 => exact far_slice (IsS49.own_ne HI417.out HO430.out (by decide))); rintro e w31 ⟨rfl, hi, hb, hk⟩; refine ⟨_, rfl, ?_⟩; have n0_ := Aside0.mk (KeepBut.blk hk (g' := gb414) (o := .cells #[.int .i64 a1_0, .slice A1_1 l1_1.length c1_1] 27 (0, 0)) (by (with_reducible repeat (first | refine blk_drewN ?_ _ | refine blk_drew ?_ | refine blk_alloc ?_ _)); exact BK414.out) NB414_417.out (by simp)); have n1_ := Aside0.mk (Kd.R_mono (Kd.R_keep (IsS49.apart (show IsS49 w _ g417 t415 t427 from by repeat (first | (with_reducible first | exact HI417.out | apply IsS49.alloc | apply IsS49.drewN | apply IsS49.drew | apply IsS49.set_1 | refine IsS49.far ?_ NB417_414.out _ | refine IsS49.far ?_ NB417_425.out _) | exact HI417.out)) (by (with_reducible repeat (first | apply Kd.R_alloc | apply Kd.R_drewN | apply Kd.R_drew)); exact HO423.out) (by decide)) hk (fun _ h => h.2)) (fun _ h => h.1)); have n2_ := Aside0.mk (KeepBut.blk hk (g' := gb425) (o := .cells #[.int .i64 t420, .slice Ao26 t421.length co26] 27 (0, 0)) (by (with_reducible repeat (first | refine blk_drewN ?_ _ | refine blk_drew ?_ | refine blk_alloc ?_ _)); exact BK425.out) NB425_417.out (by simp)); have n3_ := Aside0.mk (Kd.R_mono (Kd.R_keep (IsS49.apart (show IsS49 w _ g417 t415 t427 from by repeat (first | (with_reducible first | exact HI417.out | apply IsS49.alloc | apply IsS49.drewN | apply IsS49.drew | apply IsS49.set_1 | refine IsS49.far ?_ NB417_414.out _ | refine IsS49.far ?_ NB417_425.out _) | exact HI417.out)) (by (with_reducible repeat (first | apply Kd.R_alloc | apply Kd.R_drewN | apply Kd.R_drew)); exact HO430.out) (by decide)) hk (fun _ h => h.2)) (fun _ h => h.1)); have n4_ := Aside0.mk (hb); have n5_ := Aside0.mk (hi); clear BK414; clear HO423; clear BK425; clear HO430; clear HB; clear HI417; have BK414 := n0_; have HO423 := n1_; have BK425 := n2_; have HO430 := n3_; have HB := n4_; have HI417 := n5_; clear n0_ n1_ n2_ n3_ n4_ n5_; (try clear hb); (try clear hb2); (try clear hk); (try clear hi)))
      have n0_ := Aside0.mk (Kd.R_drew HO423.out)
      have n1_ := Aside0.mk (Kd.R_drew HO430.out)
      have n2_ := Aside0.mk (blk_drew BK414.out)
      have n3_ := Aside0.mk (blk_drew BK425.out)
      have n4_ := Aside0.mk (IsS49.drew HI417.out)
      have n5_ := Aside0.mk (below_drew1 HB.out)
      clear HO423
      clear HO430
      clear BK414
      clear BK425
      clear HI417
      clear HB
      have HO423 := n0_
      have HO430 := n1_
      have BK414 := n2_
      have BK425 := n3_
      have HI417 := n4_
      have HB := n5_
      clear n0_ n1_ n2_ n3_ n4_ n5_
      refine start_ (n := 25) (S := fun w' => w'.cell? ⟨gb425, 0, none⟩ = some (.int .i64 t420) ∧ w'.cell? ⟨gb425, 1, none⟩ = some (.slice Ao26 t421.length co26)) (ds := []) #[false, false, false, false, false, false, false, false, false, false, false, false, false, false, false, false, false, false, false, false, false, false, false, false, false] (by kernel_rfl) rfl rfl ⟨(blk_cell BK425.out 0).trans rfl, (blk_cell BK425.out 1).trans rfl⟩ (fun hHeld => ?_); refine with_tabW payrolllaw4_ClockReads.tab7 payrolllaw4_ClockReads.bits7 (fun HT_ HW_ => ?_)
      generalize w31.drew = w32 at HO423 HO430 BK414 BK425 HI417 HB hHeld ⊢
      refine pure_ (i := 1) (N := some 29) (v := ?_) (a' := ?_) #[false, true, false, false, false, false, false, false, false, false, false, false, false, false, false, false, false, false, false, false, false, false, false, false, false] rfl rfl (any_of HT_.out (by kernel_rfl)) (fun _ _ _ h => h) (Or.inl ⟨by rfl, ?_⟩) ?_ ?_
      rotate_left
      ·
       intro w'
       go_simp
       with_reducible rfl
      rotate_left
      ·
       simp only [Act.put, List.setIfInBounds_toArray, List.set_cons_zero, List.set_cons_succ, i64_w, i32_w]
       rfl
      refine pure_ (i := 2) (N := some 30) (v := ?_) (a' := ?_) #[false, true, true, false, false, false, false, false, false, false, false, false, false, false, false, false, false, false, false, false, false, false, false, false, false] rfl rfl (any_of HT_.out (by kernel_rfl)) (fun _ _ _ h => h) (Or.inl ⟨by rfl, ?_⟩) ?_ ?_
      rotate_left
      ·
       intro w'
       go_simp
       with_reducible rfl
      rotate_left
      ·
       simp only [Act.put, List.setIfInBounds_toArray, List.set_cons_zero, List.set_cons_succ, i64_w, i32_w]
       rfl
      refine pure_ (i := 3) (N := some 31) (v := ?_) (a' := ?_) #[false, true, true, true, false, false, false, false, false, false, false, false, false, false, false, false, false, false, false, false, false, false, false, false, false] rfl rfl (any_of HT_.out (by kernel_rfl)) (fun _ _ _ h => h) (Or.inl ⟨by rfl, ?_⟩) ?_ ?_
      rotate_left
      ·
       intro w'
       go_simp
       with_reducible rfl
      rotate_left
      ·
       simp only [Act.put, List.setIfInBounds_toArray, List.set_cons_zero, List.set_cons_succ, i64_w, i32_w]
       rfl
      refine pure_ (i := 7) (N := some 35) (v := ?_) (a' := ?_) #[false, true, true, true, false, false, false, true, false, false, false, false, false, false, false, false, false, false, false, false, false, false, false, false, false] rfl rfl (any_of HT_.out (by kernel_rfl)) (fun _ _ _ h => h) (Or.inl ⟨by rfl, ?_⟩) ?_ ?_
      rotate_left
      ·
       intro w'
       go_simp
       with_reducible rfl
      rotate_left
      ·
       simp only [Act.put, List.setIfInBounds_toArray, List.set_cons_zero, List.set_cons_succ, i64_w, i32_w]
       rfl
      refine pure_ (i := 8) (N := some 36) (v := ?_) (a' := ?_) #[false, true, true, true, false, false, false, true, true, false, false, false, false, false, false, false, false, false, false, false, false, false, false, false, false] rfl rfl (any_of HT_.out (by kernel_rfl)) (fun _ _ _ h => h) (Or.inl ⟨by rfl, ?_⟩) ?_ ?_
      rotate_left
      ·
       intro w'
       go_simp
       with_reducible rfl
      rotate_left
      ·
       simp only [Act.put, List.setIfInBounds_toArray, List.set_cons_zero, List.set_cons_succ, i64_w, i32_w]
       rfl
      refine take_ (i := 0) (N := some 28) (v := ?_) (a' := ?_) #[true, true, true, true, false, false, false, true, true, false, false, false, false, false, false, false, false, false, false, false, false, false, false, false, false] rfl rfl (take_ofW HT_.out HW_.out (by kernel_rfl)) (fun _ _ _ h => h) (Or.inl ⟨by rfl, ?_⟩) hHeld ?_ ?_
      rotate_left
      ·
       rintro w' ⟨s0, s1⟩
       go_simp
       with_reducible rfl
      rotate_left
      ·
       simp only [Act.put, List.setIfInBounds_toArray, List.set_cons_zero, List.set_cons_succ, i64_w, i32_w]
       rfl
      refine one_ (i := 4) (N := some 32) #[true, true, true, true, true, false, false, true, true, false, false, false, false, false, false, false, false, false, false, false, false, false, false, false, false] rfl rfl (one_of HT_.out (by kernel_rfl)) (by decide) (fun K hK => ?_)
      refine goes_ Try.func15 (by kernel_rfl) rfl #[.pointer (some ⟨g417, 0, none⟩), .int .i64 2000] (by rfl) rfl rfl (by (try simp only [List.map_toArray, List.map_cons, List.map_nil]); first | done | rfl | (simp only [List.length_drop, List.length_take]; rfl)) ?_
      with_reducible refine (payrollgen_Tape_Next.calls g417 t415 t432 2000 t433 t434 w _ ?side1 ?side2 A13.out).mono ?_
      (case side1 => repeat (first | (with_reducible first | exact HI417.out | apply IsS49.alloc | apply IsS49.drewN | apply IsS49.drew | apply IsS49.set_1 | refine IsS49.far ?_ NB417_414.out _ | refine IsS49.far ?_ NB417_425.out _) | exact HI417.out))
      (case side2 => repeat (first | (with_reducible first | exact HB.out | apply below_alloc | apply pw_below_drewN | apply below_drew1 | refine below_set ?_ (IsS49.ge HI417.out) | refine below_set ?_ GE414.out | refine below_set ?_ GE425.out) | exact HB.out))
      rintro e w33 ⟨rfl, hi, hb, hk⟩
      refine ⟨_, rfl, ?_⟩
      have n0_ := Aside0.mk (KeepBut.blk hk (g' := gb414) (o := .cells #[.int .i64 a1_0, .slice A1_1 l1_1.length c1_1] 27 (0, 0)) (by (with_reducible repeat (first | refine blk_drewN ?_ _ | refine blk_drew ?_ | refine blk_alloc ?_ _)); exact BK414.out) NB414_417.out (by simp))
      have n1_ := Aside0.mk (Kd.R_mono (Kd.R_keep (IsS49.apart (show IsS49 w _ g417 t415 t432 from by repeat (first | (with_reducible first | exact HI417.out | apply IsS49.alloc | apply IsS49.drewN | apply IsS49.drew | apply IsS49.set_1 | refine IsS49.far ?_ NB417_414.out _ | refine IsS49.far ?_ NB417_425.out _) | exact HI417.out)) (by (with_reducible repeat (first | apply Kd.R_alloc | apply Kd.R_drewN | apply Kd.R_drew)); exact HO423.out) (by decide)) hk (fun _ h => h.2)) (fun _ h => h.1))
      have n2_ := Aside0.mk (KeepBut.blk hk (g' := gb425) (o := .cells #[.int .i64 t420, .slice Ao26 t421.length co26] 27 (0, 0)) (by (with_reducible repeat (first | refine blk_drewN ?_ _ | refine blk_drew ?_ | refine blk_alloc ?_ _)); exact BK425.out) NB425_417.out (by simp))
      have n3_ := Aside0.mk (Kd.R_mono (Kd.R_keep (IsS49.apart (show IsS49 w _ g417 t415 t432 from by repeat (first | (with_reducible first | exact HI417.out | apply IsS49.alloc | apply IsS49.drewN | apply IsS49.drew | apply IsS49.set_1 | refine IsS49.far ?_ NB417_414.out _ | refine IsS49.far ?_ NB417_425.out _) | exact HI417.out)) (by (with_reducible repeat (first | apply Kd.R_alloc | apply Kd.R_drewN | apply Kd.R_drew)); exact HO430.out) (by decide)) hk (fun _ h => h.2)) (fun _ h => h.1))
      have n4_ := Aside0.mk (hb)
      have n5_ := Aside0.mk (hi)
      clear BK414
      clear HO423
      clear BK425
      clear HO430
      clear HB
      clear HI417
      have BK414 := n0_
      have HO423 := n1_
      have BK425 := n2_
      have HO430 := n3_
      have HB := n4_
      have HI417 := n5_
      clear n0_ n1_ n2_ n3_ n4_ n5_
      (try clear hb)
      (try clear hb2)
      (try clear hk)
      (try clear hi)
      refine hK.out _ _ ⟨(blk_cell BK425.out 0).trans rfl, (blk_cell BK425.out 1).trans rfl⟩ (fun hHeld => ?_)
      clear hK K
      refine norm_ (a' := ?_) ?_ ?_
      rotate_left
      ·
       show Act.put _ (some 32) _ = _
       simp only [Act.put, List.setIfInBounds_toArray, List.set_cons_zero, List.set_cons_succ, i64_w, i32_w]
       rfl
      refine pure_ (i := 5) (N := some 33) (v := ?_) (a' := ?_) #[true, true, true, true, true, true, false, true, true, false, false, false, false, false, false, false, false, false, false, false, false, false, false, false, false] rfl rfl (any_of HT_.out (by kernel_rfl)) (fun _ _ _ h => h) (Or.inl ⟨by rfl, ?_⟩) ?_ ?_
      rotate_left
      ·
       intro w'
       go_simp
       with_reducible rfl
      rotate_left
      ·
       simp only [Act.put, List.setIfInBounds_toArray, List.set_cons_zero, List.set_cons_succ, i64_w, i32_w]
       rfl
      refine pure_ (i := 6) (N := some 34) (v := ?_) (a' := ?_) #[true, true, true, true, true, true, true, true, true, false, false, false, false, false, false, false, false, false, false, false, false, false, false, false, false] rfl rfl (any_of HT_.out (by kernel_rfl)) (fun _ _ _ h => h) (Or.inl ⟨by rfl, ?_⟩) ?_ ?_
      rotate_left
      ·
       intro w'
       go_simp
       with_reducible rfl
      rotate_left
      ·
       simp only [Act.put, List.setIfInBounds_toArray, List.set_cons_zero, List.set_cons_succ, i64_w, i32_w]
       rfl
      refine one_ (i := 9) (N := some 37) #[true, true, true, true, true, true, true, true, true, true, false, false, false, false, false, false, false, false, false, false, false, false, false, false, false] rfl rfl (one_of HT_.out (by kernel_rfl)) (by decide) (fun K hK => ?_)
      refine goes_ Try.func15 (by kernel_rfl) rfl #[.pointer (some ⟨g417, 0, none⟩), .int .i64 5] (by rfl) rfl rfl (by (try simp only [List.map_toArray, List.map_cons, List.map_nil]); first | done | rfl | (simp only [List.length_drop, List.length_take]; rfl)) ?_
      with_reducible refine (payrollgen_Tape_Next.calls g417 t415 t434 5 t435 t436 w _ ?side1 ?side2 A14.out).mono ?_
      (case side1 => repeat (first | (with_reducible first | exact HI417.out | apply IsS49.alloc | apply IsS49.drewN | apply IsS49.drew | apply IsS49.set_1 | refine IsS49.far ?_ NB417_414.out _ | refine IsS49.far ?_ NB417_425.out _) | exact HI417.out))
      (case side2 => repeat (first | (with_reducible first | exact HB.out | apply below_alloc | apply pw_below_drewN | apply below_drew1 | refine below_set ?_ (IsS49.ge HI417.out) | refine below_set ?_ GE414.out | refine below_set ?_ GE425.out) | exact HB.out))
      rintro e w34 ⟨rfl, hi, hb, hk⟩
      refine ⟨_, rfl, ?_⟩
      have n0_ := Aside0.mk (KeepBut.blk hk (g' := gb414) (o := .cells #[.int .i64 a1_0, .slice A1_1 l1_1.length c1_1] 27 (0, 0)) (by (with_reducible repeat (first | refine blk_drewN ?_ _ | refine blk_drew ?_ | refine blk_alloc ?_ _)); exact BK414.out) NB414_417.out (by simp))
      have n1_ := Aside0.mk (Kd.R_mono (Kd.R_keep (IsS49.apart (show IsS49 w _ g417 t415 t434 from by repeat (first | (with_reducible first | exact HI417.out | apply IsS49.alloc | apply IsS49.drewN | apply IsS49.drew | apply IsS49.set_1 | refine IsS49.far ?_ NB417_414.out _ | refine IsS49.far ?_ NB417_425.out _) | exact HI417.out)) (by (with_reducible repeat (first | apply Kd.R_alloc | apply Kd.R_drewN | apply Kd.R_drew)); exact HO423.out) (by decide)) hk (fun _ h => h.2)) (fun _ h => h.1))
      have n2_ := Aside0.mk (KeepBut.blk hk (g' := gb425) (o := .cells #[.int .i64 t420, .slice Ao26 t421.length co26] 27 (0, 0)) (by (with_reducible repeat (first | refine blk_drewN ?_ _ | refine blk_drew ?_ | refine blk_alloc ?_ _)); exact BK425.out) NB425_417.out (by simp))
      have n3_ := Aside0.mk (Kd.R_mono (Kd.R_keep (IsS49.apart (show IsS49 w _ g417 t415 t434 from by repeat (first | (with_reducible first | exact HI417.out | apply IsS49.alloc | apply IsS49.drewN | apply IsS49.drew | apply IsS49.set_1 | refine IsS49.far ?_ NB417_414.out _ | refine IsS49.far ?_ NB417_425.out _) | exact HI417.out)) (by (with_reducible repeat (first | apply Kd.R_alloc | apply Kd.R_drewN | apply Kd.R_drew)); exact HO430.out) (by decide)) hk (fun _ h => h.2)) (fun _ h => h.1))
      have n4_ := Aside0.mk (hb)
      have n5_ := Aside0.mk (hi)
      clear BK414
      clear HO423
      clear BK425
      clear HO430
      clear HB
      clear HI417
      have BK414 := n0_
      have HO423 := n1_
      have BK425 := n2_
      have HO430 := n3_
      have HB := n4_
      have HI417 := n5_
      clear n0_ n1_ n2_ n3_ n4_ n5_
      (try clear hb)
      (try clear hb2)
      (try clear hk)
      (try clear hi)
      refine hK.out _ _ ⟨(blk_cell BK425.out 0).trans rfl, (blk_cell BK425.out 1).trans rfl⟩ (fun hHeld => ?_)
      clear hK K
      refine norm_ (a' := ?_) ?_ ?_
      rotate_left
      ·
       show Act.put _ (some 37) _ = _
       simp only [Act.put, List.setIfInBounds_toArray, List.set_cons_zero, List.set_cons_succ, i64_w, i32_w]
       rfl
      refine pure_ (i := 10) (N := some 38) (v := ?_) (a' := ?_) #[true, true, true, true, true, true, true, true, true, true, true, false, false, false, false, false, false, false, false, false, false, false, false, false, false] rfl rfl (any_of HT_.out (by kernel_rfl)) (fun _ _ _ h => h) (Or.inl ⟨by rfl, ?_⟩) ?_ ?_
      rotate_left
      ·
       intro w'
       go_simp
       with_reducible rfl
      rotate_left
      ·
       simp only [Act.put, List.setIfInBounds_toArray, List.set_cons_zero, List.set_cons_succ, i64_w, i32_w]
       rfl
      refine pure_ (i := 11) (N := some 39) (v := ?_) (a' := ?_) #[true, true, true, true, true, true, true, true, true, true, true, true, false, false, false, false, false, false, false, false, false, false, false, false, false] rfl rfl (any_of HT_.out (by kernel_rfl)) (fun _ _ _ h => h) (Or.inl ⟨by rfl, ?_⟩) ?_ ?_
      rotate_left
      ·
       intro w'
       go_simp
       with_reducible rfl
      rotate_left
      ·
       simp only [Act.put, List.setIfInBounds_toArray, List.set_cons_zero, List.set_cons_succ, i64_w, i32_w]
       rfl
      refine one_ (i := 12) (N := some 40) #[true, true, true, true, true, true, true, true, true, true, true, true, true, false, false, false, false, false, false, false, false, false, false, false, false] rfl rfl (one_of HT_.out (by kernel_rfl)) (by decide) (fun K hK => ?_)
      refine Kd.R_lit_step (Kd.int .i64) _ 3 ?hg (N := 40) ?hd (xs := ([wrap64 ((wrap64 (20454 + t435)) - 1), 0, 84006, 84005, 1] : List Int)) (inner := [.int .i64 (wrap64 ((wrap64 (20454 + t435)) - 1)), .int .i64 0, .int .i64 84006, .int .i64 84005, .int .i64 1]) (ok := fun _ => True) (okp := fun _ => True) ?hr ?hp (fun _ hk => hk) trivial (Below.refl _ _) (Nat.le_refl _) (by simp) ?_; (case hd => rfl); (case hg => rfl); (case hr => first | (go_simp; done) | (go_simp; rfl)); (case hp => exact (Reps.one (show Kd.M (Kd.int .i64) _ _ _ (wrap64 ((wrap64 (20454 + t435)) - 1)) [.int .i64 (wrap64 ((wrap64 (20454 + t435)) - 1))] from rfl) (Reps.one (show Kd.M (Kd.int .i64) _ _ _ 0 [.int .i64 0] from rfl) (Reps.one (show Kd.M (Kd.int .i64) _ _ _ 84006 [.int .i64 84006] from rfl) (Reps.one (show Kd.M (Kd.int .i64) _ _ _ 84005 [.int .i64 84005] from rfl) (Reps.one (show Kd.M (Kd.int .i64) _ _ _ 1 [.int .i64 1] from rfl) (Reps.none _ _)))))))
      intro v438 w35 ho36 hb hg_ hnew_
      clear hg_ hnew_
      (first | rw [← Ny437.out] at ho36 | (simp only [Int.reduceToNat] at ho36; rw [← Ny437.out] at ho36))
      have n0_ := Aside0.mk (Kd.R_below (by (with_reducible repeat (first | apply Kd.R_alloc | apply Kd.R_drewN | apply Kd.R_drew)); exact HO423.out) hb)
      have n1_ := Aside0.mk (Kd.R_elder' (by (with_reducible repeat (first | apply Kd.R_alloc | apply Kd.R_drewN | apply Kd.R_drew)); exact HO430.out) (Kd.R_base ho36) hb)
      have n2_ := Aside0.mk (Kd.R_lower (Kd.R_new' ho36 (Kd.R_lt (by (with_reducible repeat (first | apply Kd.R_alloc | apply Kd.R_drewN | apply Kd.R_drew)); exact HO430.out))) (below_size (by repeat (first | (with_reducible first | exact HB.out | apply below_alloc | apply pw_below_drewN | apply below_drew1 | refine below_set ?_ (IsS49.ge HI417.out) | refine below_set ?_ GE414.out | refine below_set ?_ GE425.out) | exact HB.out))))
      have n3_ := Aside0.mk (blk_below (g := gb414) (o := .cells #[.int .i64 a1_0, .slice A1_1 l1_1.length c1_1] 27 (0, 0)) (by (with_reducible repeat (first | refine blk_drewN ?_ _ | refine blk_drew ?_ | refine blk_alloc ?_ _)); exact BK414.out) hb)
      have n4_ := Aside0.mk (IsS49.below (by repeat (first | (with_reducible first | exact HI417.out | apply IsS49.alloc | apply IsS49.drewN | apply IsS49.drew | apply IsS49.set_1 | refine IsS49.far ?_ NB417_414.out _ | refine IsS49.far ?_ NB417_425.out _) | exact HI417.out)) hb)
      have n5_ := Aside0.mk (blk_below (g := gb425) (o := .cells #[.int .i64 t420, .slice Ao26 t421.length co26] 27 (0, 0)) (by (with_reducible repeat (first | refine blk_drewN ?_ _ | refine blk_drew ?_ | refine blk_alloc ?_ _)); exact BK425.out) hb)
      have n6_ := Aside0.mk (below_step (by repeat (first | (with_reducible first | exact HB.out | apply below_alloc | apply pw_below_drewN | apply below_drew1 | refine below_set ?_ (IsS49.ge HI417.out) | refine below_set ?_ GE414.out | refine below_set ?_ GE425.out) | exact HB.out)) hb)
      clear HO423
      clear HO430
      clear BK414
      clear HI417
      clear BK425
      clear HB
      have HO423 := n0_
      have HO430 := n1_
      have HO439 := n2_
      have BK414 := n3_
      have HI417 := n4_
      have BK425 := n5_
      have HB := n6_
      clear n0_ n1_ n2_ n3_ n4_ n5_ n6_
      clear hb ho36
      obtain ⟨Ao37, co37, eo37⟩ := Kd.R_slice HO439.out
      (first | subst eo37 | (injection eo37 with f1_ f2_ f3_; have f4_ := f1_.symm; have f5_ := f3_.symm; clear f1_ f2_ f3_; subst f4_; subst f5_))
      refine hK.out _ _ ⟨(blk_cell BK425.out 0).trans rfl, (blk_cell BK425.out 1).trans rfl⟩ (fun hHeld => ?_)
      clear hK K
      refine norm_ (a' := ?_) ?_ ?_
      rotate_left
      ·
       show Act.put _ (some 40) _ = _
       simp only [Act.put, List.setIfInBounds_toArray, List.set_cons_zero, List.set_cons_succ, i64_w, i32_w]
       rfl
      refine one_ (i := 13) (N := some 41) #[true, true, true, true, true, true, true, true, true, true, true, true, true, true, false, false, false, false, false, false, false, false, false, false, false] rfl rfl (one_of HT_.out (by kernel_rfl)) (by decide) (fun K hK => ?_)
      refine goes_ Try.func18 (by kernel_rfl) rfl #[.pointer (some ⟨g417, 0, none⟩), .slice Ao37 y437.length co37] (by rfl) rfl rfl (by (try simp only [List.map_toArray, List.map_cons, List.map_nil]); first | done | rfl | (simp only [List.length_drop, List.length_take]; rfl)) ?_
      with_reducible refine (payrollgen_Tape_Pick.calls g417 t415 t436 _ _ y437 t440 t441 w _ ?side1 ?side2 ?side3 ?side4 ?side5 A15.out).mono ?_
      (case side1 => repeat (first | (with_reducible first | exact HI417.out | apply IsS49.alloc | apply IsS49.drewN | apply IsS49.drew | apply IsS49.set_1 | refine IsS49.far ?_ NB417_414.out _ | refine IsS49.far ?_ NB417_425.out _) | exact HI417.out))
      (case side2 => repeat (first | (with_reducible first | exact HB.out | apply below_alloc | apply pw_below_drewN | apply below_drew1 | refine below_set ?_ (IsS49.ge HI417.out) | refine below_set ?_ GE414.out | refine below_set ?_ GE425.out) | exact HB.out))
      (case side3 => repeat (first | exact (Kd.R_reads' HO439.out).2.2 | (with_reducible refine Kd.C_alloc ?_ _) | (with_reducible refine Kd.C_drewN ?_ _) | (with_reducible refine Kd.C_drew ?_)))
      (case side4 => exact (Kd.R_reads' HO439.out).2.1)
      (case side5 => exact far_slice (IsS49.own_ne HI417.out HO439.out (by decide)))
      rintro e w38 ⟨rfl, hi, hb, hk⟩
      refine ⟨_, rfl, ?_⟩
      have n0_ := Aside0.mk (KeepBut.blk hk (g' := gb414) (o := .cells #[.int .i64 a1_0, .slice A1_1 l1_1.length c1_1] 27 (0, 0)) (by (with_reducible repeat (first | refine blk_drewN ?_ _ | refine blk_drew ?_ | refine blk_alloc ?_ _)); exact BK414.out) NB414_417.out (by simp))
      have n1_ := Aside0.mk (Kd.R_mono (Kd.R_keep (IsS49.apart (show IsS49 w _ g417 t415 t436 from by repeat (first | (with_reducible first | exact HI417.out | apply IsS49.alloc | apply IsS49.drewN | apply IsS49.drew | apply IsS49.set_1 | refine IsS49.far ?_ NB417_414.out _ | refine IsS49.far ?_ NB417_425.out _) | exact HI417.out)) (by (with_reducible repeat (first | apply Kd.R_alloc | apply Kd.R_drewN | apply Kd.R_drew)); exact HO423.out) (by decide)) hk (fun _ h => h.2)) (fun _ h => h.1))
      have n2_ := Aside0.mk (KeepBut.blk hk (g' := gb425) (o := .cells #[.int .i64 t420, .slice Ao26 t421.length co26] 27 (0, 0)) (by (with_reducible repeat (first | refine blk_drewN ?_ _ | refine blk_drew ?_ | refine blk_alloc ?_ _)); exact BK425.out) NB425_417.out (by simp))
      have n3_ := Aside0.mk (Kd.R_mono (Kd.R_keep (IsS49.apart (show IsS49 w _ g417 t415 t436 from by repeat (first | (with_reducible first | exact HI417.out | apply IsS49.alloc | apply IsS49.drewN | apply IsS49.drew | apply IsS49.set_1 | refine IsS49.far ?_ NB417_414.out _ | refine IsS49.far ?_ NB417_425.out _) | exact HI417.out)) (by (with_reducible repeat (first | apply Kd.R_alloc | apply Kd.R_drewN | apply Kd.R_drew)); exact HO430.out) (by decide)) hk (fun _ h => h.2)) (fun _ h => h.1))
      have n4_ := Aside0.mk (Kd.R_mono (Kd.R_keep (IsS49.apart (show IsS49 w _ g417 t415 t436 from by repeat (first | (with_reducible first | exact HI417.out | apply IsS49.alloc | apply IsS49.drewN | apply IsS49.drew | apply IsS49.set_1 | refine IsS49.far ?_ NB417_414.out _ | refine IsS49.far ?_ NB417_425.out _) | exact HI417.out)) (by (with_reducible repeat (first | apply Kd.R_alloc | apply Kd.R_drewN | apply Kd.R_drew)); exact HO439.out) (by decide)) hk (fun _ h => h.2)) (fun _ h => h.1))
      have n5_ := Aside0.mk (hb)
      have n6_ := Aside0.mk (hi)
      clear BK414
      clear HO423
      clear BK425
      clear HO430
      clear HO439
      clear HB
      clear HI417
      have BK414 := n0_
      have HO423 := n1_
      have BK425 := n2_
      have HO430 := n3_
      have HO439 := n4_
      have HB := n5_
      have HI417 := n6_
      clear n0_ n1_ n2_ n3_ n4_ n5_ n6_
      (try clear hb)
      (try clear hb2)
      (try clear hk)
      (try clear hi)
      refine hK.out _ _ ⟨(blk_cell BK425.out 0).trans rfl, (blk_cell BK425.out 1).trans rfl⟩ (fun hHeld => ?_)
      clear hK K
      refine norm_ (a' := ?_) ?_ ?_
      rotate_left
      ·
       show Act.put _ (some 41) _ = _
       simp only [Act.put, List.setIfInBounds_toArray, List.set_cons_zero, List.set_cons_succ, i64_w, i32_w]
       rfl
      refine one_ (i := 14) (N := some 42) #[true, true, true, true, true, true, true, true, true, true, true, true, true, true, true, false, false, false, false, false, false, false, false, false, false] rfl rfl (one_of HT_.out (by kernel_rfl)) (by decide) (fun K hK => ?_)
      refine goes_ Try.func21 (by kernel_rfl) rfl #[.agg #[.int .i64 t420, .slice Ao26 t421.length co26], .int .i64 t431, .int .i64 (wrap64 ((wrap64 (t431 + t433)) - 1000)), .int .i64 t440] (by rfl) rfl rfl (by (try simp only [List.map_toArray, List.map_cons, List.map_nil]); first | done | rfl | (simp only [List.length_drop, List.length_take]; rfl)) ?_
      with_reducible refine (payrolllaw4_reads.calls k1 t420 _ _ t421 t431 (wrap64 ((wrap64 (t431 + t433)) - 1000)) t440 true _ ?side1 ?side2 A16.out).mono ?_
      (case side1 => repeat (first | exact (Kd.R_reads' HO423.out).2.2 | (with_reducible refine Kd.C_alloc ?_ _) | (with_reducible refine Kd.C_drewN ?_ _) | (with_reducible refine Kd.C_drew ?_)))
      (case side2 => exact (Kd.R_reads' HO423.out).2.1)
      rintro e w39 ⟨rfl, hb⟩
      refine ⟨_, rfl, ?_⟩
      have n0_ := Aside0.mk (Kd.R_below (by (with_reducible repeat (first | apply Kd.R_alloc | apply Kd.R_drewN | apply Kd.R_drew)); exact HO423.out) hb)
      have n1_ := Aside0.mk (Kd.R_below (by (with_reducible repeat (first | apply Kd.R_alloc | apply Kd.R_drewN | apply Kd.R_drew)); exact HO430.out) hb)
      have n2_ := Aside0.mk (Kd.R_below (by (with_reducible repeat (first | apply Kd.R_alloc | apply Kd.R_drewN | apply Kd.R_drew)); exact HO439.out) hb)
      have n3_ := Aside0.mk (blk_below (g := gb414) (o := .cells #[.int .i64 a1_0, .slice A1_1 l1_1.length c1_1] 27 (0, 0)) (by (with_reducible repeat (first | refine blk_drewN ?_ _ | refine blk_drew ?_ | refine blk_alloc ?_ _)); exact BK414.out) hb)
      have n4_ := Aside0.mk (IsS49.below (by repeat (first | (with_reducible first | exact HI417.out | apply IsS49.alloc | apply IsS49.drewN | apply IsS49.drew | apply IsS49.set_1 | refine IsS49.far ?_ NB417_414.out _ | refine IsS49.far ?_ NB417_425.out _) | exact HI417.out)) hb)
      have n5_ := Aside0.mk (blk_below (g := gb425) (o := .cells #[.int .i64 t420, .slice Ao26 t421.length co26] 27 (0, 0)) (by (with_reducible repeat (first | refine blk_drewN ?_ _ | refine blk_drew ?_ | refine blk_alloc ?_ _)); exact BK425.out) hb)
      have n6_ := Aside0.mk (below_step (by repeat (first | (with_reducible first | exact HB.out | apply below_alloc | apply pw_below_drewN | apply below_drew1 | refine below_set ?_ (IsS49.ge HI417.out) | refine below_set ?_ GE414.out | refine below_set ?_ GE425.out) | exact HB.out)) hb)
      clear HO423
      clear HO430
      clear HO439
      clear BK414
      clear HI417
      clear BK425
      clear HB
      have HO423 := n0_
      have HO430 := n1_
      have HO439 := n2_
      have BK414 := n3_
      have HI417 := n4_
      have BK425 := n5_
      have HB := n6_
      clear n0_ n1_ n2_ n3_ n4_ n5_ n6_
      (try clear hb)
      (try clear hb2)
      (try clear hk)
      (try clear hi)
      refine hK.out _ _ ⟨(blk_cell BK425.out 0).trans rfl, (blk_cell BK425.out 1).trans rfl⟩ (fun hHeld => ?_)
      clear hK K
      refine norm_ (a' := ?_) ?_ ?_
      rotate_left
      ·
       show Act.put _ (some 42) _ = _
       simp only [Act.put, List.setIfInBounds_toArray, List.set_cons_zero, List.set_cons_succ, i64_w, i32_w]
       rfl
      refine pure_ (i := 15) (N := some 43) (v := ?_) (a' := ?_) #[true, true, true, true, true, true, true, true, true, true, true, true, true, true, true, true, false, false, false, false, false, false, false, false, false] rfl rfl (any_of HT_.out (by kernel_rfl)) (fun _ _ _ h => h) (Or.inl ⟨by rfl, ?_⟩) ?_ ?_
      rotate_left
      ·
       intro w'
       go_simp
       with_reducible rfl
      rotate_left
      ·
       simp only [Act.put, List.setIfInBounds_toArray, List.set_cons_zero, List.set_cons_succ, i64_w, i32_w]
       rfl
      refine pure_ (i := 16) (N := some 44) (v := ?_) (a' := ?_) #[true, true, true, true, true, true, true, true, true, true, true, true, true, true, true, true, true, false, false, false, false, false, false, false, false] rfl rfl (any_of HT_.out (by kernel_rfl)) (fun _ _ _ h => h) (Or.inl ⟨by rfl, ?_⟩) ?_ ?_
      rotate_left
      ·
       intro w'
       go_simp
       with_reducible rfl
      rotate_left
      ·
       simp only [Act.put, List.setIfInBounds_toArray, List.set_cons_zero, List.set_cons_succ, i64_w, i32_w]
       rfl
      refine pure_ (i := 17) (N := some 45) (v := ?_) (a' := ?_) #[true, true, true, true, true, true, true, true, true, true, true, true, true, true, true, true, true, true, false, false, false, false, false, false, false] rfl rfl (any_of HT_.out (by kernel_rfl)) (fun _ _ _ h => h) (Or.inl ⟨by rfl, ?_⟩) ?_ ?_
      rotate_left
      ·
       intro w'
       go_simp
       with_reducible rfl
      rotate_left
      ·
       simp only [Act.put, List.setIfInBounds_toArray, List.set_cons_zero, List.set_cons_succ, i64_w, i32_w]
       rfl
      refine pure_ (i := 20) (N := some 48) (v := ?_) (a' := ?_) #[true, true, true, true, true, true, true, true, true, true, true, true, true, true, true, true, true, true, false, false, true, false, false, false, false] rfl rfl (any_of HT_.out (by kernel_rfl)) (fun _ _ _ h => h) (Or.inl ⟨by rfl, ?_⟩) ?_ ?_
      rotate_left
      ·
       intro w'
       go_simp
       with_reducible rfl
      rotate_left
      ·
       simp only [Act.put, List.setIfInBounds_toArray, List.set_cons_zero, List.set_cons_succ, i64_w, i32_w]
       rfl
      refine pure_ (i := 21) (N := some 49) (v := ?_) (a' := ?_) #[true, true, true, true, true, true, true, true, true, true, true, true, true, true, true, true, true, true, false, false, true, true, false, false, false] rfl rfl (any_of HT_.out (by kernel_rfl)) (fun _ _ _ h => h) (Or.inl ⟨by rfl, ?_⟩) ?_ ?_
      rotate_left
      ·
       intro w'
       go_simp
       with_reducible rfl
      rotate_left
      ·
       simp only [Act.put, List.setIfInBounds_toArray, List.set_cons_zero, List.set_cons_succ, i64_w, i32_w]
       rfl
      refine take_ (i := 18) (N := some 46) (v := ?_) (a' := ?_) #[true, true, true, true, true, true, true, true, true, true, true, true, true, true, true, true, true, true, true, false, true, true, false, false, false] rfl rfl (take_ofW HT_.out HW_.out (by kernel_rfl)) (fun _ _ _ h => h) (Or.inl ⟨by rfl, ?_⟩) hHeld ?_ ?_
      rotate_left
      ·
       rintro w' ⟨s0, s1⟩
       go_simp
       with_reducible rfl
      rotate_left
      ·
       simp only [Act.put, List.setIfInBounds_toArray, List.set_cons_zero, List.set_cons_succ, i64_w, i32_w]
       rfl
      refine one_ (i := 19) (N := some 47) #[true, true, true, true, true, true, true, true, true, true, true, true, true, true, true, true, true, true, true, true, true, true, false, false, false] rfl rfl (one_of HT_.out (by kernel_rfl)) (by decide) (fun K hK => ?_)
      refine goes_ Try.func22 (by kernel_rfl) rfl #[.pointer (some ⟨g417, 0, none⟩), .agg #[.int .i64 t420, .slice Ao26 t421.length co26]] (by rfl) rfl rfl (by (try simp only [List.map_toArray, List.map_cons, List.map_nil]); first | done | rfl | (simp only [List.length_drop, List.length_take]; rfl)) ?_
      with_reducible refine (payrollgen_Tape_SpoilZone.calls g417 t415 t441 t420 _ _ t421 t443 t444 t447 w _ ?side1 ?side2 ?side3 ?side4 A18.out).mono ?_
      (case side1 => repeat (first | (with_reducible first | exact HI417.out | apply IsS49.alloc | apply IsS49.drewN | apply IsS49.drew | apply IsS49.set_1 | refine IsS49.far ?_ NB417_414.out _ | refine IsS49.far ?_ NB417_425.out _) | exact HI417.out))
      (case side2 => repeat (first | (with_reducible first | exact HB.out | apply below_alloc | apply pw_below_drewN | apply below_drew1 | refine below_set ?_ (IsS49.ge HI417.out) | refine below_set ?_ GE414.out | refine below_set ?_ GE425.out) | exact HB.out))
      (case side3 => exact Kd.C_foot_own (IsS49.apart (show IsS49 w _ g417 t415 t441 from by repeat (first | (with_reducible first | exact HI417.out | apply IsS49.alloc | apply IsS49.drewN | apply IsS49.drew | apply IsS49.set_1 | refine IsS49.far ?_ NB417_414.out _ | refine IsS49.far ?_ NB417_425.out _) | exact HI417.out)) (by (with_reducible repeat (first | apply Kd.R_alloc | apply Kd.R_drewN | apply Kd.R_drew)); exact HO423.out) (by decide)) (fun _ h_ => h_.2))
      (case side4 => exact (Kd.R_reads' HO423.out).2.1)
      rintro e w40 ⟨v445, rfl, ho0, hi, hb, hk⟩
      refine ⟨_, rfl, ?_⟩
      have n0_ := Aside0.mk (KeepBut.blk hk (g' := gb414) (o := .cells #[.int .i64 a1_0, .slice A1_1 l1_1.length c1_1] 27 (0, 0)) (by (with_reducible repeat (first | refine blk_drewN ?_ _ | refine blk_drew ?_ | refine blk_alloc ?_ _)); exact BK414.out) NB414_417.out (by simp))
      have n1_ := Aside0.mk (Kd.R_mono (Kd.R_told (Kd.R_oldK (IsS49.apart (show IsS49 w _ g417 t415 t441 from by repeat (first | (with_reducible first | exact HI417.out | apply IsS49.alloc | apply IsS49.drewN | apply IsS49.drew | apply IsS49.set_1 | refine IsS49.far ?_ NB417_414.out _ | refine IsS49.far ?_ NB417_425.out _) | exact HI417.out)) (by (with_reducible repeat (first | apply Kd.R_alloc | apply Kd.R_drewN | apply Kd.R_drew)); exact HO423.out) (by decide)) hk) (Kd.R_base ho0)) (fun _ h_ => h_.1))
      have n2_ := Aside0.mk (KeepBut.blk hk (g' := gb425) (o := .cells #[.int .i64 t420, .slice Ao26 t421.length co26] 27 (0, 0)) (by (with_reducible repeat (first | refine blk_drewN ?_ _ | refine blk_drew ?_ | refine blk_alloc ?_ _)); exact BK425.out) NB425_417.out (by simp))
      have n3_ := Aside0.mk (Kd.R_mono (Kd.R_keep (IsS49.apart (show IsS49 w _ g417 t415 t441 from by repeat (first | (with_reducible first | exact HI417.out | apply IsS49.alloc | apply IsS49.drewN | apply IsS49.drew | apply IsS49.set_1 | refine IsS49.far ?_ NB417_414.out _ | refine IsS49.far ?_ NB417_425.out _) | exact HI417.out)) (by (with_reducible repeat (first | apply Kd.R_alloc | apply Kd.R_drewN | apply Kd.R_drew)); exact HO430.out) (by decide)) hk (fun _ h => h.2)) (fun _ h => h.1))
      have n4_ := Aside0.mk (Kd.R_mono (Kd.R_keep (IsS49.apart (show IsS49 w _ g417 t415 t441 from by repeat (first | (with_reducible first | exact HI417.out | apply IsS49.alloc | apply IsS49.drewN | apply IsS49.drew | apply IsS49.set_1 | refine IsS49.far ?_ NB417_414.out _ | refine IsS49.far ?_ NB417_425.out _) | exact HI417.out)) (by (with_reducible repeat (first | apply Kd.R_alloc | apply Kd.R_drewN | apply Kd.R_drew)); exact HO439.out) (by decide)) hk (fun _ h => h.2)) (fun _ h => h.1))
      have n5_ := Aside0.mk (Kd.R_lower (Kd.R_new' ho0 (Kd.R_lt (by (with_reducible repeat (first | apply Kd.R_alloc | apply Kd.R_drewN | apply Kd.R_drew)); exact HO423.out))) (below_size (by repeat (first | (with_reducible first | exact HB.out | apply below_alloc | apply pw_below_drewN | apply below_drew1 | refine below_set ?_ (IsS49.ge HI417.out) | refine below_set ?_ GE414.out | refine below_set ?_ GE425.out) | exact HB.out))))
      have n6_ := Aside0.mk (hb)
      have n7_ := Aside0.mk (hi)
      clear BK414
      clear HO423
      clear BK425
      clear HO430
      clear HO439
      clear HB
      clear HI417
      have BK414 := n0_
      have HO423 := n1_
      have BK425 := n2_
      have HO430 := n3_
      have HO439 := n4_
      have HO446 := n5_
      have HB := n6_
      have HI417 := n7_
      clear n0_ n1_ n2_ n3_ n4_ n5_ n6_ n7_
      (try clear hb)
      (try clear hb2)
      (try clear hk)
      (try clear hi)
      (try clear ho0)
      obtain ⟨Ao41, co41, eo41⟩ := Kd.R_slice HO446.out
      (first | subst eo41 | (injection eo41 with f1_ f2_ f3_; have f4_ := f1_.symm; have f5_ := f3_.symm; clear f1_ f2_ f3_; subst f4_; subst f5_))
      refine hK.out _ _ ⟨(blk_cell BK425.out 0).trans rfl, (blk_cell BK425.out 1).trans rfl⟩ (fun hHeld => ?_)
      clear hK K
      refine norm_ (a' := ?_) ?_ ?_
      rotate_left
      ·
       show Act.put _ (some 47) _ = _
       simp only [Act.put, List.setIfInBounds_toArray, List.set_cons_zero, List.set_cons_succ, i64_w, i32_w]
       rfl
      refine one_ (i := 22) (N := some 50) #[true, true, true, true, true, true, true, true, true, true, true, true, true, true, true, true, true, true, true, true, true, true, true, false, false] rfl rfl (one_of HT_.out (by kernel_rfl)) (by decide) (fun K hK => ?_)
      refine goes_ Try.func21 (by kernel_rfl) rfl #[.agg #[.int .i64 t443, .slice Ao41 t444.length co41], .int .i64 t431, .int .i64 t431, .int .i64 20454] (by rfl) rfl rfl (by (try simp only [List.map_toArray, List.map_cons, List.map_nil]); first | done | rfl | (simp only [List.length_drop, List.length_take]; rfl)) ?_
      with_reducible refine (payrolllaw4_reads.calls k1 t443 _ _ t444 t431 t431 20454 true _ ?side1 ?side2 A19.out).mono ?_
      (case side1 => repeat (first | exact (Kd.R_reads' HO446.out).2.2 | (with_reducible refine Kd.C_alloc ?_ _) | (with_reducible refine Kd.C_drewN ?_ _) | (with_reducible refine Kd.C_drew ?_)))
      (case side2 => exact (Kd.R_reads' HO446.out).2.1)
      rintro e w42 ⟨rfl, hb⟩
      refine ⟨_, rfl, ?_⟩
      have n0_ := Aside0.mk (Kd.R_below (by (with_reducible repeat (first | apply Kd.R_alloc | apply Kd.R_drewN | apply Kd.R_drew)); exact HO423.out) hb)
      have n1_ := Aside0.mk (Kd.R_below (by (with_reducible repeat (first | apply Kd.R_alloc | apply Kd.R_drewN | apply Kd.R_drew)); exact HO430.out) hb)
      have n2_ := Aside0.mk (Kd.R_below (by (with_reducible repeat (first | apply Kd.R_alloc | apply Kd.R_drewN | apply Kd.R_drew)); exact HO439.out) hb)
      have n3_ := Aside0.mk (Kd.R_below (by (with_reducible repeat (first | apply Kd.R_alloc | apply Kd.R_drewN | apply Kd.R_drew)); exact HO446.out) hb)
      have n4_ := Aside0.mk (blk_below (g := gb414) (o := .cells #[.int .i64 a1_0, .slice A1_1 l1_1.length c1_1] 27 (0, 0)) (by (with_reducible repeat (first | refine blk_drewN ?_ _ | refine blk_drew ?_ | refine blk_alloc ?_ _)); exact BK414.out) hb)
      have n5_ := Aside0.mk (IsS49.below (by repeat (first | (with_reducible first | exact HI417.out | apply IsS49.alloc | apply IsS49.drewN | apply IsS49.drew | apply IsS49.set_1 | refine IsS49.far ?_ NB417_414.out _ | refine IsS49.far ?_ NB417_425.out _) | exact HI417.out)) hb)
      have n6_ := Aside0.mk (blk_below (g := gb425) (o := .cells #[.int .i64 t420, .slice Ao26 t421.length co26] 27 (0, 0)) (by (with_reducible repeat (first | refine blk_drewN ?_ _ | refine blk_drew ?_ | refine blk_alloc ?_ _)); exact BK425.out) hb)
      have n7_ := Aside0.mk (below_step (by repeat (first | (with_reducible first | exact HB.out | apply below_alloc | apply pw_below_drewN | apply below_drew1 | refine below_set ?_ (IsS49.ge HI417.out) | refine below_set ?_ GE414.out | refine below_set ?_ GE425.out) | exact HB.out)) hb)
      clear HO423
      clear HO430
      clear HO439
      clear HO446
      clear BK414
      clear HI417
      clear BK425
      clear HB
      have HO423 := n0_
      have HO430 := n1_
      have HO439 := n2_
      have HO446 := n3_
      have BK414 := n4_
      have HI417 := n5_
      have BK425 := n6_
      have HB := n7_
      clear n0_ n1_ n2_ n3_ n4_ n5_ n6_ n7_
      (try clear hb)
      (try clear hb2)
      (try clear hk)
      (try clear hi)
      refine hK.out _ _ ⟨(blk_cell BK425.out 0).trans rfl, (blk_cell BK425.out 1).trans rfl⟩ (fun hHeld => ?_)
      clear hK K
      refine norm_ (a' := ?_) ?_ ?_
      rotate_left
      ·
       show Act.put _ (some 50) _ = _
       simp only [Act.put, List.setIfInBounds_toArray, List.set_cons_zero, List.set_cons_succ, i64_w, i32_w]
       rfl
      refine pure_ (i := 23) (N := some 51) (v := ?_) (a' := ?_) #[true, true, true, true, true, true, true, true, true, true, true, true, true, true, true, true, true, true, true, true, true, true, true, true, false] rfl rfl (any_of HT_.out (by kernel_rfl)) (fun _ _ _ h => h) (Or.inl ⟨by rfl, ?_⟩) ?_ ?_
      rotate_left
      ·
       intro w'
       go_simp
       with_reducible rfl
      rotate_left
      ·
       simp only [Act.put, List.setIfInBounds_toArray, List.set_cons_zero, List.set_cons_succ, i64_w, i32_w]
       rfl
      refine pure_ (i := 24) (N := some 52) (v := ?_) (a' := ?_) #[true, true, true, true, true, true, true, true, true, true, true, true, true, true, true, true, true, true, true, true, true, true, true, true, true] rfl rfl (any_of HT_.out (by kernel_rfl)) (fun _ _ _ h => h) (Or.inl ⟨by rfl, ?_⟩) ?_ ?_
      rotate_left
      ·
       intro w'
       go_simp
       with_reducible rfl
      rotate_left
      ·
       simp only [Act.put, List.setIfInBounds_toArray, List.set_cons_zero, List.set_cons_succ, i64_w, i32_w]
       rfl
      refine done_ (done_of HT_.out (by kernel_rfl)) ?_
      try go_wp2
      go_roundg k1
      case measure => have := HK1.out; omega
      case rel => exact ⟨(wrap64 (x12_1 + 1)), (t447), (by first | rfl | (simp; done) | (simp [*]; done)), H', ⟨by have := HK1.out; omega⟩, ⟨by (with_reducible repeat (first | refine blk_drewN ?_ _ | refine blk_drew ?_ | refine blk_alloc ?_ _)); exact BK414.out⟩, ⟨by repeat (first | (with_reducible first | exact HI417.out | apply IsS49.alloc | apply IsS49.drewN | apply IsS49.drew | apply IsS49.set_1 | refine IsS49.far ?_ NB417_414.out _ | refine IsS49.far ?_ NB417_425.out _) | exact HI417.out)⟩, ⟨by repeat (first | (with_reducible first | exact HB.out | apply below_alloc | apply pw_below_drewN | apply below_drew1 | refine below_set ?_ (IsS49.ge HI417.out) | refine below_set ?_ GE414.out | refine below_set ?_ GE425.out) | exact HB.out)⟩⟩
     ·
      replace c20 := Bool.eq_false_iff.mpr c20
      subst c20
      have H1 : (some false) = some r := by rw [if_neg (show ¬ (false = true) by decide)] at H; exact H
      clear H
      have H := H1
      clear H1
      obtain rfl := Option.some.inj H
      try go_wp2_with (first | ((with_reducible refine gate_callee (f := 10) rfl ?_); refine goesL_ (some 22) rfl rfl Try.func10 (by kernel_rfl) rfl #[.pointer (some ⟨g417, 0, none⟩)] rfl (by (try simp only [List.map_toArray, List.map_cons, List.map_nil]); first | done | rfl | (simp only [List.length_drop, List.length_take]; rfl)) ?_; (with_reducible refine (payrollgen_Tape_Zone.calls k1 g417 t415 x418001_1 t420 t421 t424 w _ ?side1 ?side2 A10.out).mono ?_); (case side1 => repeat (first | (with_reducible first | exact HI417.out | apply IsS49.alloc | apply IsS49.drewN | apply IsS49.drew | apply IsS49.set_1 | refine IsS49.far ?_ NB417_414.out _) | exact HI417.out)); (case side2 => repeat (first | (with_reducible first | exact HB.out | apply below_alloc | apply pw_below_drewN | apply below_drew1 | refine below_set ?_ (IsS49.ge HI417.out) | refine below_set ?_ GE414.out) | exact HB.out)); rintro e w43 ⟨v422, rfl, ho0, hi, hb, hk⟩; refine ⟨_, rfl, ?_⟩; have n0_ := Aside0.mk (KeepBut.blk hk (g' := gb414) (o := .cells #[.int .i64 a1_0, .slice A1_1 l1_1.length c1_1] 27 (0, 0)) (by (with_reducible repeat (first | refine blk_drewN ?_ _ | refine blk_drew ?_ | refine blk_alloc ?_ _)); exact BK414.out) NB414_417.out (by simp)); have n1_ := Aside0.mk (Kd.R_lower ho0 (below_size (by repeat (first | (with_reducible first | exact HB.out | apply below_alloc | apply pw_below_drewN | apply below_drew1 | refine below_set ?_ (IsS49.ge HI417.out) | refine below_set ?_ GE414.out) | exact HB.out)))); have n2_ := Aside0.mk (hb); have n3_ := Aside0.mk (hi); clear BK414; clear HB; clear HI417; have BK414 := n0_; have HO423 := n1_; have HB := n2_; have HI417 := n3_; clear n0_ n1_ n2_ n3_; (try clear hb); (try clear hb2); (try clear hk); (try clear hi); (try clear ho0)) | ((with_reducible refine gate_dst (N := 13) rfl ?_); refine box_event ?hg (N := 13) ?hd (cs := #[.int .i64 0, .slice none 0 0]) (t := 27) ?hr ?_; (case hd => rfl); (case hg => rfl); (case hr => first | (go_simp; done) | (go_simp; rfl)); intro gb425 hg w44 hbox hb; have n0_ := Aside0.mk (Kd.R_below (by (with_reducible repeat (first | apply Kd.R_alloc | apply Kd.R_drewN | apply Kd.R_drew)); exact HO423.out) hb); have n1_ := Aside0.mk (blk_below (g := gb414) (o := .cells #[.int .i64 a1_0, .slice A1_1 l1_1.length c1_1] 27 (0, 0)) (by (with_reducible repeat (first | refine blk_drewN ?_ _ | refine blk_drew ?_ | refine blk_alloc ?_ _)); exact BK414.out) hb); have n2_ := Aside0.mk (IsS49.below (by repeat (first | (with_reducible first | exact HI417.out | apply IsS49.alloc | apply IsS49.drewN | apply IsS49.drew | apply IsS49.set_1 | refine IsS49.far ?_ NB417_414.out _) | exact HI417.out)) hb); have n3_ := Aside0.mk (below_step (by repeat (first | (with_reducible first | exact HB.out | apply below_alloc | apply pw_below_drewN | apply below_drew1 | refine below_set ?_ (IsS49.ge HI417.out) | refine below_set ?_ GE414.out) | exact HB.out)) hb); have n4_ := Aside0.mk (hbox); have n5_ := Aside0.mk ((by rw [hg]; exact (below_size (by repeat (first | (with_reducible first | exact HB.out | apply below_alloc | apply pw_below_drewN | apply below_drew1 | refine below_set ?_ (IsS49.ge HI417.out) | refine below_set ?_ GE414.out) | exact HB.out))) : w.heap.size ≤ gb425)); have n6_ := Aside0.mk ((by rw [hg]; exact (below_size (by repeat (first | (with_reducible first | exact HB.out | apply below_alloc | apply pw_below_drewN | apply below_drew1 | refine below_set ?_ (IsS49.ge HI417.out) | refine below_set ?_ GE414.out) | exact HB.out))) : w.heap.size ≤ gb425)); have n7_ := Aside0.mk ((by rw [hg]; exact Nat.ne_of_lt (blk_lt (g := gb414) (o := .cells #[.int .i64 a1_0, .slice A1_1 l1_1.length c1_1] 27 (0, 0)) (by (with_reducible repeat (first | refine blk_drewN ?_ _ | refine blk_drew ?_ | refine blk_alloc ?_ _)); exact BK414.out)) : gb414 ≠ gb425)); have n8_ := Aside0.mk ((by rw [hg]; exact Nat.ne_of_gt (blk_lt (g := gb414) (o := .cells #[.int .i64 a1_0, .slice A1_1 l1_1.length c1_1] 27 (0, 0)) (by (with_reducible repeat (first | refine blk_drewN ?_ _ | refine blk_drew ?_ | refine blk_alloc ?_ _)); exact BK414.out)) : gb425 ≠ gb414)); have n9_ := Aside0.mk ((by rw [hg]; exact Nat.ne_of_lt (IsS49.lt (show IsS49 w _ g417 t415 t424 from by repeat (first | (with_reducible first | exact HI417.out | apply IsS49.alloc | apply IsS49.drewN | apply IsS49.drew | apply IsS49.set_1 | refine IsS49.far ?_ NB417_414.out _) | exact HI417.out))) : g417 ≠ gb425)); have n10_ := Aside0.mk ((by rw [hg]; exact Nat.ne_of_gt (IsS49.lt (show IsS49 w _ g417 t415 t424 from by repeat (first | (with_reducible first | exact HI417.out | apply IsS49.alloc | apply IsS49.drewN | apply IsS49.drew | apply IsS49.set_1 | refine IsS49.far ?_ NB417_414.out _) | exact HI417.out))) : gb425 ≠ g417)); clear HO423; clear BK414; clear HI417; clear HB; have HO423 := n0_; have BK414 := n1_; have HI417 := n2_; have HB := n3_; have BK425 := n4_; have GW425 := n5_; have GE425 := n6_; have NB414_425 := n7_; have NB425_414 := n8_; have NB417_425 := n9_; have NB425_417 := n10_; clear n0_ n1_ n2_ n3_ n4_ n5_ n6_ n7_ n8_ n9_ n10_; clear hb hbox hg; have hnb45 := NB425_414.out; have hnc45 := NB414_425.out; have hnb46 := NB425_417.out; have hnc46 := NB417_425.out; have hcz47_0 : w44.cell? ⟨gb425, 0, none⟩ = some (.int .i64 0) := (blk_cell BK425.out 0).trans rfl; have hcz47_1 : w44.cell? ⟨gb425, 1, none⟩ = some (.slice none 0 0) := (blk_cell BK425.out 1).trans rfl; have hfz47_0 := blk_frozen BK425.out 0; have hfz47_1 := blk_frozen BK425.out 1; obtain ⟨Ao48, co48, eo48⟩ := Kd.R_slice HO423.out; subst eo48) | ((with_reducible refine gate_callee (f := 11) rfl ?_); refine goesL_ (some 25) rfl rfl Try.func11 (by kernel_rfl) rfl #[.pointer (some ⟨g417, 0, none⟩)] rfl (by (try simp only [List.map_toArray, List.map_cons, List.map_nil]); first | done | rfl | (simp only [List.length_drop, List.length_take]; rfl)) ?_; (with_reducible refine (payrollgen_Tape_Near.calls g417 t415 t424 t426 t427 w _ ?side1 ?side2 A11.out).mono ?_); (case side1 => repeat (first | (with_reducible first | exact HI417.out | apply IsS49.alloc | apply IsS49.drewN | apply IsS49.drew | apply IsS49.set_1 | refine IsS49.far ?_ NB417_414.out _ | refine IsS49.far ?_ NB417_425.out _) | exact HI417.out)); (case side2 => repeat (first | (with_reducible first | exact HB.out | apply below_alloc | apply pw_below_drewN | apply below_drew1 | refine below_set ?_ (IsS49.ge HI417.out) | refine below_set ?_ GE414.out | refine below_set ?_ GE425.out) | exact HB.out)); rintro e w49 ⟨rfl, hi, hb, hk⟩; refine ⟨_, rfl, ?_⟩; have n0_ := Aside0.mk (KeepBut.blk hk (g' := gb414) (o := .cells #[.int .i64 a1_0, .slice A1_1 l1_1.length c1_1] 27 (0, 0)) (by (with_reducible repeat (first | refine blk_drewN ?_ _ | refine blk_drew ?_ | refine blk_alloc ?_ _)); refine blk_far ?_ NB414_425.out _; (with_reducible repeat (first | refine blk_drewN ?_ _ | refine blk_drew ?_ | refine blk_alloc ?_ _)); refine blk_far ?_ NB414_425.out _; (with_reducible repeat (first | refine blk_drewN ?_ _ | refine blk_drew ?_ | refine blk_alloc ?_ _)); exact BK414.out) NB414_417.out (by simp)); have n1_ := Aside0.mk (Kd.R_mono (Kd.R_keep (IsS49.apart (show IsS49 w _ g417 t415 t424 from by repeat (first | (with_reducible first | exact HI417.out | apply IsS49.alloc | apply IsS49.drewN | apply IsS49.drew | apply IsS49.set_1 | refine IsS49.far ?_ NB417_414.out _ | refine IsS49.far ?_ NB417_425.out _) | exact HI417.out)) (by (with_reducible repeat (first | apply Kd.R_alloc | apply Kd.R_drewN | apply Kd.R_drew)); exact (Kd.R_mono (Kd.R_far (p := ⟨gb425, 1, none⟩) (Kd.R_far (p := ⟨gb425, 0, none⟩) (Kd.R_types HO423.out BK425.out (by decide)) (fun _ hk => hk.2) (.int .i64 t420)) (fun _ hk => hk.2) (.slice Ao48 t421.length co48)) (fun _ h_ => h_.1))) (by decide)) hk (fun _ h => h.2)) (fun _ h => h.1)); have n2_ := Aside0.mk (KeepBut.blk hk (g' := gb425) (o := .cells #[.int .i64 t420, .slice Ao48 t421.length co48] 27 (0, 0)) (by (with_reducible repeat (first | refine blk_drewN ?_ _ | refine blk_drew ?_ | refine blk_alloc ?_ _)); refine blk_put (cs := #[.int .i64 t420, .slice none 0 0]) ?_ 1 _ rfl; (with_reducible repeat (first | refine blk_drewN ?_ _ | refine blk_drew ?_ | refine blk_alloc ?_ _)); refine blk_put (cs := #[.int .i64 0, .slice none 0 0]) ?_ 0 _ rfl; (with_reducible repeat (first | refine blk_drewN ?_ _ | refine blk_drew ?_ | refine blk_alloc ?_ _)); exact BK425.out) NB425_417.out (by simp)); have n3_ := Aside0.mk (hb); have n4_ := Aside0.mk (hi); clear BK414; clear HO423; clear BK425; clear HB; clear HI417; have BK414 := n0_; have HO423 := n1_; have BK425 := n2_; have HB := n3_; have HI417 := n4_; clear n0_ n1_ n2_ n3_ n4_; (try clear hb); (try clear hb2); (try clear hk); (try clear hi)) | ((with_reducible refine gate_dst (N := 26) rfl ?_); refine Kd.R_lit (Kd.int .i64) _ 3 ?hg (N := 26) ?hd (xs := ([t426, 0, 120968639, 29453759, 29455200] : List Int)) (inner := [.int .i64 t426, .int .i64 0, .int .i64 120968639, .int .i64 29453759, .int .i64 29455200]) (ok := fun _ => True) (okp := fun _ => True) ?hr ?hp (fun _ hk => hk) trivial (Below.refl _ _) (Nat.le_refl _) (by simp) ?_; (case hd => rfl); (case hg => rfl); (case hr => first | (go_simp; done) | (go_simp; rfl)); (case hp => exact (Reps.one (show Kd.M (Kd.int .i64) _ _ _ t426 [.int .i64 t426] from rfl) (Reps.one (show Kd.M (Kd.int .i64) _ _ _ 0 [.int .i64 0] from rfl) (Reps.one (show Kd.M (Kd.int .i64) _ _ _ 120968639 [.int .i64 120968639] from rfl) (Reps.one (show Kd.M (Kd.int .i64) _ _ _ 29453759 [.int .i64 29453759] from rfl) (Reps.one (show Kd.M (Kd.int .i64) _ _ _ 29455200 [.int .i64 29455200] from rfl) (Reps.none _ _))))))); intro v429 w50 ho51 hb hg_ hnew_; clear hg_ hnew_; (first | rw [← Ny428.out] at ho51 | (simp only [Int.reduceToNat] at ho51; rw [← Ny428.out] at ho51)); have n0_ := Aside0.mk (Kd.R_below (by (with_reducible repeat (first | apply Kd.R_alloc | apply Kd.R_drewN | apply Kd.R_drew)); exact HO423.out) hb); have n1_ := Aside0.mk (Kd.R_lower ho51 (below_size (by repeat (first | (with_reducible first | exact HB.out | apply below_alloc | apply pw_below_drewN | apply below_drew1 | refine below_set ?_ (IsS49.ge HI417.out) | refine below_set ?_ GE414.out | refine below_set ?_ GE425.out) | exact HB.out)))); have n2_ := Aside0.mk (blk_below (g := gb414) (o := .cells #[.int .i64 a1_0, .slice A1_1 l1_1.length c1_1] 27 (0, 0)) (by (with_reducible repeat (first | refine blk_drewN ?_ _ | refine blk_drew ?_ | refine blk_alloc ?_ _)); exact BK414.out) hb); have n3_ := Aside0.mk (IsS49.below (by repeat (first | (with_reducible first | exact HI417.out | apply IsS49.alloc | apply IsS49.drewN | apply IsS49.drew | apply IsS49.set_1 | refine IsS49.far ?_ NB417_414.out _ | refine IsS49.far ?_ NB417_425.out _) | exact HI417.out)) hb); have n4_ := Aside0.mk (blk_below (g := gb425) (o := .cells #[.int .i64 t420, .slice Ao48 t421.length co48] 27 (0, 0)) (by (with_reducible repeat (first | refine blk_drewN ?_ _ | refine blk_drew ?_ | refine blk_alloc ?_ _)); exact BK425.out) hb); have n5_ := Aside0.mk (below_step (by repeat (first | (with_reducible first | exact HB.out | apply below_alloc | apply pw_below_drewN | apply below_drew1 | refine below_set ?_ (IsS49.ge HI417.out) | refine below_set ?_ GE414.out | refine below_set ?_ GE425.out) | exact HB.out)) hb); clear HO423; clear BK414; clear HI417; clear BK425; clear HB; have HO423 := n0_; have HO430 := n1_; have BK414 := n2_; have HI417 := n3_; have BK425 := n4_; have HB := n5_; clear n0_ n1_ n2_ n3_ n4_ n5_; clear hb ho51; obtain ⟨Ao52, co52, eo52⟩ := Kd.R_slice HO430.out; subst eo52) | ((with_reducible refine gate_callee (f := 18) rfl ?_); refine goesL_ (some 27) rfl rfl Try.func18 (by kernel_rfl) rfl #[.pointer (some ⟨g417, 0, none⟩), .slice Ao52 y428.length co52] rfl (by (try simp only [List.map_toArray, List.map_cons, List.map_nil]); first | done | rfl | (simp only [List.length_drop, List.length_take]; rfl)) ?_; (with_reducible refine (payrollgen_Tape_Pick.calls g417 t415 t427 _ _ y428 t431 t432 w _ ?side1 ?side2 ?side3 ?side4 ?side5 A12.out).mono ?_); (case side1 => repeat (first | (with_reducible first | exact HI417.out | apply IsS49.alloc | apply IsS49.drewN | apply IsS49.drew | apply IsS49.set_1 | refine IsS49.far ?_ NB417_414.out _ | refine IsS49.far ?_ NB417_425.out _) | exact HI417.out)); (case side2 => repeat (first | (with_reducible first | exact HB.out | apply below_alloc | apply pw_below_drewN | apply below_drew1 | refine below_set ?_ (IsS49.ge HI417.out) | refine below_set ?_ GE414.out | refine below_set ?_ GE425.out) | exact HB.out)); (case side3 => repeat (first | exact (Kd.R_reads' HO430.out).2.2 | (with_reducible refine Kd.C_alloc ?_ _) | (with_reducible refine Kd.C_drewN ?_ _) | (with_reducible refine Kd.C_drew ?_))); (case side4 => exact (Kd.R_reads' HO430.out).2.1); (case side5 => exact far_slice (IsS49.own_ne HI417.out HO430.out (by decide))); rintro e w53 ⟨rfl, hi, hb, hk⟩; refine ⟨_, rfl, ?_⟩; have n0_ := Aside0.mk (KeepBut.blk hk (g' := gb414) (o := .cells #[.int .i64 a1_0, .slice A1_1 l1_1.length c1_1] 27 (0, 0)) (by (with_reducible repeat (first | refine blk_drewN ?_ _ | refine blk_drew ?_ | refine blk_alloc ?_ _)); exact BK414.out) NB414_417.out (by simp)); have n1_ := Aside0.mk (Kd.R_mono (Kd.R_keep (IsS49.apart (show IsS49 w _ g417 t415 t427 from by repeat (first | (with_reducible first | exact HI417.out | apply IsS49.alloc | apply IsS49.drewN | apply IsS49.drew | apply IsS49.set_1 | refine IsS49.far ?_ NB417_414.out _ | refine IsS49.far ?_ NB417_425.out _) | exact HI417.out)) (by (with_reducible repeat (first | apply Kd.R_alloc | apply Kd.R_drewN | apply Kd.R_drew)); exact HO423.out) (by decide)) hk (fun _ h => h.2)) (fun _ h => h.1)); have n2_ := Aside0.mk (KeepBut.blk hk (g' := gb425) (o := .cells #[.int .i64 t420, .slice Ao48 t421.length co48] 27 (0, 0)) (by (with_reducible repeat (first | refine blk_drewN ?_ _ | refine blk_drew ?_ | refine blk_alloc ?_ _)); exact BK425.out) NB425_417.out (by simp)); have n3_ := Aside0.mk (Kd.R_mono (Kd.R_keep (IsS49.apart (show IsS49 w _ g417 t415 t427 from by repeat (first | (with_reducible first | exact HI417.out | apply IsS49.alloc | apply IsS49.drewN | apply IsS49.drew | apply IsS49.set_1 | refine IsS49.far ?_ NB417_414.out _ | refine IsS49.far ?_ NB417_425.out _) | exact HI417.out)) (by (with_reducible repeat (first | apply Kd.R_alloc | apply Kd.R_drewN | apply Kd.R_drew)); exact HO430.out) (by decide)) hk (fun _ h => h.2)) (fun _ h => h.1)); have n4_ := Aside0.mk (hb); have n5_ := Aside0.mk (hi); clear BK414; clear HO423; clear BK425; clear HO430; clear HB; clear HI417; have BK414 := n0_; have HO423 := n1_; have BK425 := n2_; have HO430 := n3_; have HB := n4_; have HI417 := n5_; clear n0_ n1_ n2_ n3_ n4_ n5_; (try clear hb); (try clear hb2); (try clear hk); (try clear hi)))
      have n0_ := Aside0.mk (Kd.R_drew HO423.out)
      have n1_ := Aside0.mk (Kd.R_drew HO430.out)
      have n2_ := Aside0.mk (blk_drew BK414.out)
      have n3_ := Aside0.mk (blk_drew BK425.out)
      have n4_ := Aside0.mk (IsS49.drew HI417.out)
      have n5_ := Aside0.mk (below_drew1 HB.out)
      clear HO423
      clear HO430
      clear BK414
      clear BK425
      clear HI417
      clear HB
      have HO423 := n0_
      have HO430 := n1_
      have BK414 := n2_
      have BK425 := n3_
      have HI417 := n4_
      have HB := n5_
      clear n0_ n1_ n2_ n3_ n4_ n5_
      refine start_ (n := 25) (S := fun w' => w'.cell? ⟨gb425, 0, none⟩ = some (.int .i64 t420) ∧ w'.cell? ⟨gb425, 1, none⟩ = some (.slice Ao48 t421.length co48)) (ds := []) #[false, false, false, false, false, false, false, false, false, false, false, false, false, false, false, false, false, false, false, false, false, false, false, false, false] (by kernel_rfl) rfl rfl ⟨(blk_cell BK425.out 0).trans rfl, (blk_cell BK425.out 1).trans rfl⟩ (fun hHeld => ?_); refine with_tabW payrolllaw4_ClockReads.tab7 payrolllaw4_ClockReads.bits7 (fun HT_ HW_ => ?_)
      generalize w53.drew = w54 at HO423 HO430 BK414 BK425 HI417 HB hHeld ⊢
      refine pure_ (i := 1) (N := some 29) (v := ?_) (a' := ?_) #[false, true, false, false, false, false, false, false, false, false, false, false, false, false, false, false, false, false, false, false, false, false, false, false, false] rfl rfl (any_of HT_.out (by kernel_rfl)) (fun _ _ _ h => h) (Or.inl ⟨by rfl, ?_⟩) ?_ ?_
      rotate_left
      ·
       intro w'
       go_simp
       with_reducible rfl
      rotate_left
      ·
       simp only [Act.put, List.setIfInBounds_toArray, List.set_cons_zero, List.set_cons_succ, i64_w, i32_w]
       rfl
      refine pure_ (i := 2) (N := some 30) (v := ?_) (a' := ?_) #[false, true, true, false, false, false, false, false, false, false, false, false, false, false, false, false, false, false, false, false, false, false, false, false, false] rfl rfl (any_of HT_.out (by kernel_rfl)) (fun _ _ _ h => h) (Or.inl ⟨by rfl, ?_⟩) ?_ ?_
      rotate_left
      ·
       intro w'
       go_simp
       with_reducible rfl
      rotate_left
      ·
       simp only [Act.put, List.setIfInBounds_toArray, List.set_cons_zero, List.set_cons_succ, i64_w, i32_w]
       rfl
      refine pure_ (i := 3) (N := some 31) (v := ?_) (a' := ?_) #[false, true, true, true, false, false, false, false, false, false, false, false, false, false, false, false, false, false, false, false, false, false, false, false, false] rfl rfl (any_of HT_.out (by kernel_rfl)) (fun _ _ _ h => h) (Or.inl ⟨by rfl, ?_⟩) ?_ ?_
      rotate_left
      ·
       intro w'
       go_simp
       with_reducible rfl
      rotate_left
      ·
       simp only [Act.put, List.setIfInBounds_toArray, List.set_cons_zero, List.set_cons_succ, i64_w, i32_w]
       rfl
      refine pure_ (i := 7) (N := some 35) (v := ?_) (a' := ?_) #[false, true, true, true, false, false, false, true, false, false, false, false, false, false, false, false, false, false, false, false, false, false, false, false, false] rfl rfl (any_of HT_.out (by kernel_rfl)) (fun _ _ _ h => h) (Or.inl ⟨by rfl, ?_⟩) ?_ ?_
      rotate_left
      ·
       intro w'
       go_simp
       with_reducible rfl
      rotate_left
      ·
       simp only [Act.put, List.setIfInBounds_toArray, List.set_cons_zero, List.set_cons_succ, i64_w, i32_w]
       rfl
      refine pure_ (i := 8) (N := some 36) (v := ?_) (a' := ?_) #[false, true, true, true, false, false, false, true, true, false, false, false, false, false, false, false, false, false, false, false, false, false, false, false, false] rfl rfl (any_of HT_.out (by kernel_rfl)) (fun _ _ _ h => h) (Or.inl ⟨by rfl, ?_⟩) ?_ ?_
      rotate_left
      ·
       intro w'
       go_simp
       with_reducible rfl
      rotate_left
      ·
       simp only [Act.put, List.setIfInBounds_toArray, List.set_cons_zero, List.set_cons_succ, i64_w, i32_w]
       rfl
      refine take_ (i := 0) (N := some 28) (v := ?_) (a' := ?_) #[true, true, true, true, false, false, false, true, true, false, false, false, false, false, false, false, false, false, false, false, false, false, false, false, false] rfl rfl (take_ofW HT_.out HW_.out (by kernel_rfl)) (fun _ _ _ h => h) (Or.inl ⟨by rfl, ?_⟩) hHeld ?_ ?_
      rotate_left
      ·
       rintro w' ⟨s0, s1⟩
       go_simp
       with_reducible rfl
      rotate_left
      ·
       simp only [Act.put, List.setIfInBounds_toArray, List.set_cons_zero, List.set_cons_succ, i64_w, i32_w]
       rfl
      refine one_ (i := 4) (N := some 32) #[true, true, true, true, true, false, false, true, true, false, false, false, false, false, false, false, false, false, false, false, false, false, false, false, false] rfl rfl (one_of HT_.out (by kernel_rfl)) (by decide) (fun K hK => ?_)
      refine goes_ Try.func15 (by kernel_rfl) rfl #[.pointer (some ⟨g417, 0, none⟩), .int .i64 2000] (by rfl) rfl rfl (by (try simp only [List.map_toArray, List.map_cons, List.map_nil]); first | done | rfl | (simp only [List.length_drop, List.length_take]; rfl)) ?_
      with_reducible refine (payrollgen_Tape_Next.calls g417 t415 t432 2000 t433 t434 w _ ?side1 ?side2 A13.out).mono ?_
      (case side1 => repeat (first | (with_reducible first | exact HI417.out | apply IsS49.alloc | apply IsS49.drewN | apply IsS49.drew | apply IsS49.set_1 | refine IsS49.far ?_ NB417_414.out _ | refine IsS49.far ?_ NB417_425.out _) | exact HI417.out))
      (case side2 => repeat (first | (with_reducible first | exact HB.out | apply below_alloc | apply pw_below_drewN | apply below_drew1 | refine below_set ?_ (IsS49.ge HI417.out) | refine below_set ?_ GE414.out | refine below_set ?_ GE425.out) | exact HB.out))
      rintro e w55 ⟨rfl, hi, hb, hk⟩
      refine ⟨_, rfl, ?_⟩
      have n0_ := Aside0.mk (KeepBut.blk hk (g' := gb414) (o := .cells #[.int .i64 a1_0, .slice A1_1 l1_1.length c1_1] 27 (0, 0)) (by (with_reducible repeat (first | refine blk_drewN ?_ _ | refine blk_drew ?_ | refine blk_alloc ?_ _)); exact BK414.out) NB414_417.out (by simp))
      have n1_ := Aside0.mk (Kd.R_mono (Kd.R_keep (IsS49.apart (show IsS49 w _ g417 t415 t432 from by repeat (first | (with_reducible first | exact HI417.out | apply IsS49.alloc | apply IsS49.drewN | apply IsS49.drew | apply IsS49.set_1 | refine IsS49.far ?_ NB417_414.out _ | refine IsS49.far ?_ NB417_425.out _) | exact HI417.out)) (by (with_reducible repeat (first | apply Kd.R_alloc | apply Kd.R_drewN | apply Kd.R_drew)); exact HO423.out) (by decide)) hk (fun _ h => h.2)) (fun _ h => h.1))
      have n2_ := Aside0.mk (KeepBut.blk hk (g' := gb425) (o := .cells #[.int .i64 t420, .slice Ao48 t421.length co48] 27 (0, 0)) (by (with_reducible repeat (first | refine blk_drewN ?_ _ | refine blk_drew ?_ | refine blk_alloc ?_ _)); exact BK425.out) NB425_417.out (by simp))
      have n3_ := Aside0.mk (Kd.R_mono (Kd.R_keep (IsS49.apart (show IsS49 w _ g417 t415 t432 from by repeat (first | (with_reducible first | exact HI417.out | apply IsS49.alloc | apply IsS49.drewN | apply IsS49.drew | apply IsS49.set_1 | refine IsS49.far ?_ NB417_414.out _ | refine IsS49.far ?_ NB417_425.out _) | exact HI417.out)) (by (with_reducible repeat (first | apply Kd.R_alloc | apply Kd.R_drewN | apply Kd.R_drew)); exact HO430.out) (by decide)) hk (fun _ h => h.2)) (fun _ h => h.1))
      have n4_ := Aside0.mk (hb)
      have n5_ := Aside0.mk (hi)
      clear BK414
      clear HO423
      clear BK425
      clear HO430
      clear HB
      clear HI417
      have BK414 := n0_
      have HO423 := n1_
      have BK425 := n2_
      have HO430 := n3_
      have HB := n4_
      have HI417 := n5_
      clear n0_ n1_ n2_ n3_ n4_ n5_
      (try clear hb)
      (try clear hb2)
      (try clear hk)
      (try clear hi)
      refine hK.out _ _ ⟨(blk_cell BK425.out 0).trans rfl, (blk_cell BK425.out 1).trans rfl⟩ (fun hHeld => ?_)
      clear hK K
      refine norm_ (a' := ?_) ?_ ?_
      rotate_left
      ·
       show Act.put _ (some 32) _ = _
       simp only [Act.put, List.setIfInBounds_toArray, List.set_cons_zero, List.set_cons_succ, i64_w, i32_w]
       rfl
      refine pure_ (i := 5) (N := some 33) (v := ?_) (a' := ?_) #[true, true, true, true, true, true, false, true, true, false, false, false, false, false, false, false, false, false, false, false, false, false, false, false, false] rfl rfl (any_of HT_.out (by kernel_rfl)) (fun _ _ _ h => h) (Or.inl ⟨by rfl, ?_⟩) ?_ ?_
      rotate_left
      ·
       intro w'
       go_simp
       with_reducible rfl
      rotate_left
      ·
       simp only [Act.put, List.setIfInBounds_toArray, List.set_cons_zero, List.set_cons_succ, i64_w, i32_w]
       rfl
      refine pure_ (i := 6) (N := some 34) (v := ?_) (a' := ?_) #[true, true, true, true, true, true, true, true, true, false, false, false, false, false, false, false, false, false, false, false, false, false, false, false, false] rfl rfl (any_of HT_.out (by kernel_rfl)) (fun _ _ _ h => h) (Or.inl ⟨by rfl, ?_⟩) ?_ ?_
      rotate_left
      ·
       intro w'
       go_simp
       with_reducible rfl
      rotate_left
      ·
       simp only [Act.put, List.setIfInBounds_toArray, List.set_cons_zero, List.set_cons_succ, i64_w, i32_w]
       rfl
      refine one_ (i := 9) (N := some 37) #[true, true, true, true, true, true, true, true, true, true, false, false, false, false, false, false, false, false, false, false, false, false, false, false, false] rfl rfl (one_of HT_.out (by kernel_rfl)) (by decide) (fun K hK => ?_)
      refine goes_ Try.func15 (by kernel_rfl) rfl #[.pointer (some ⟨g417, 0, none⟩), .int .i64 5] (by rfl) rfl rfl (by (try simp only [List.map_toArray, List.map_cons, List.map_nil]); first | done | rfl | (simp only [List.length_drop, List.length_take]; rfl)) ?_
      with_reducible refine (payrollgen_Tape_Next.calls g417 t415 t434 5 t435 t436 w _ ?side1 ?side2 A14.out).mono ?_
      (case side1 => repeat (first | (with_reducible first | exact HI417.out | apply IsS49.alloc | apply IsS49.drewN | apply IsS49.drew | apply IsS49.set_1 | refine IsS49.far ?_ NB417_414.out _ | refine IsS49.far ?_ NB417_425.out _) | exact HI417.out))
      (case side2 => repeat (first | (with_reducible first | exact HB.out | apply below_alloc | apply pw_below_drewN | apply below_drew1 | refine below_set ?_ (IsS49.ge HI417.out) | refine below_set ?_ GE414.out | refine below_set ?_ GE425.out) | exact HB.out))
      rintro e w56 ⟨rfl, hi, hb, hk⟩
      refine ⟨_, rfl, ?_⟩
      have n0_ := Aside0.mk (KeepBut.blk hk (g' := gb414) (o := .cells #[.int .i64 a1_0, .slice A1_1 l1_1.length c1_1] 27 (0, 0)) (by (with_reducible repeat (first | refine blk_drewN ?_ _ | refine blk_drew ?_ | refine blk_alloc ?_ _)); exact BK414.out) NB414_417.out (by simp))
      have n1_ := Aside0.mk (Kd.R_mono (Kd.R_keep (IsS49.apart (show IsS49 w _ g417 t415 t434 from by repeat (first | (with_reducible first | exact HI417.out | apply IsS49.alloc | apply IsS49.drewN | apply IsS49.drew | apply IsS49.set_1 | refine IsS49.far ?_ NB417_414.out _ | refine IsS49.far ?_ NB417_425.out _) | exact HI417.out)) (by (with_reducible repeat (first | apply Kd.R_alloc | apply Kd.R_drewN | apply Kd.R_drew)); exact HO423.out) (by decide)) hk (fun _ h => h.2)) (fun _ h => h.1))
      have n2_ := Aside0.mk (KeepBut.blk hk (g' := gb425) (o := .cells #[.int .i64 t420, .slice Ao48 t421.length co48] 27 (0, 0)) (by (with_reducible repeat (first | refine blk_drewN ?_ _ | refine blk_drew ?_ | refine blk_alloc ?_ _)); exact BK425.out) NB425_417.out (by simp))
      have n3_ := Aside0.mk (Kd.R_mono (Kd.R_keep (IsS49.apart (show IsS49 w _ g417 t415 t434 from by repeat (first | (with_reducible first | exact HI417.out | apply IsS49.alloc | apply IsS49.drewN | apply IsS49.drew | apply IsS49.set_1 | refine IsS49.far ?_ NB417_414.out _ | refine IsS49.far ?_ NB417_425.out _) | exact HI417.out)) (by (with_reducible repeat (first | apply Kd.R_alloc | apply Kd.R_drewN | apply Kd.R_drew)); exact HO430.out) (by decide)) hk (fun _ h => h.2)) (fun _ h => h.1))
      have n4_ := Aside0.mk (hb)
      have n5_ := Aside0.mk (hi)
      clear BK414
      clear HO423
      clear BK425
      clear HO430
      clear HB
      clear HI417
      have BK414 := n0_
      have HO423 := n1_
      have BK425 := n2_
      have HO430 := n3_
      have HB := n4_
      have HI417 := n5_
      clear n0_ n1_ n2_ n3_ n4_ n5_
      (try clear hb)
      (try clear hb2)
      (try clear hk)
      (try clear hi)
      refine hK.out _ _ ⟨(blk_cell BK425.out 0).trans rfl, (blk_cell BK425.out 1).trans rfl⟩ (fun hHeld => ?_)
      clear hK K
      refine norm_ (a' := ?_) ?_ ?_
      rotate_left
      ·
       show Act.put _ (some 37) _ = _
       simp only [Act.put, List.setIfInBounds_toArray, List.set_cons_zero, List.set_cons_succ, i64_w, i32_w]
       rfl
      refine pure_ (i := 10) (N := some 38) (v := ?_) (a' := ?_) #[true, true, true, true, true, true, true, true, true, true, true, false, false, false, false, false, false, false, false, false, false, false, false, false, false] rfl rfl (any_of HT_.out (by kernel_rfl)) (fun _ _ _ h => h) (Or.inl ⟨by rfl, ?_⟩) ?_ ?_
      rotate_left
      ·
       intro w'
       go_simp
       with_reducible rfl
      rotate_left
      ·
       simp only [Act.put, List.setIfInBounds_toArray, List.set_cons_zero, List.set_cons_succ, i64_w, i32_w]
       rfl
      refine pure_ (i := 11) (N := some 39) (v := ?_) (a' := ?_) #[true, true, true, true, true, true, true, true, true, true, true, true, false, false, false, false, false, false, false, false, false, false, false, false, false] rfl rfl (any_of HT_.out (by kernel_rfl)) (fun _ _ _ h => h) (Or.inl ⟨by rfl, ?_⟩) ?_ ?_
      rotate_left
      ·
       intro w'
       go_simp
       with_reducible rfl
      rotate_left
      ·
       simp only [Act.put, List.setIfInBounds_toArray, List.set_cons_zero, List.set_cons_succ, i64_w, i32_w]
       rfl
      refine one_ (i := 12) (N := some 40) #[true, true, true, true, true, true, true, true, true, true, true, true, true, false, false, false, false, false, false, false, false, false, false, false, false] rfl rfl (one_of HT_.out (by kernel_rfl)) (by decide) (fun K hK => ?_)
      refine Kd.R_lit_step (Kd.int .i64) _ 3 ?hg (N := 40) ?hd (xs := ([wrap64 ((wrap64 (20454 + t435)) - 1), 0, 84006, 84005, 1] : List Int)) (inner := [.int .i64 (wrap64 ((wrap64 (20454 + t435)) - 1)), .int .i64 0, .int .i64 84006, .int .i64 84005, .int .i64 1]) (ok := fun _ => True) (okp := fun _ => True) ?hr ?hp (fun _ hk => hk) trivial (Below.refl _ _) (Nat.le_refl _) (by simp) ?_; (case hd => rfl); (case hg => rfl); (case hr => first | (go_simp; done) | (go_simp; rfl)); (case hp => exact (Reps.one (show Kd.M (Kd.int .i64) _ _ _ (wrap64 ((wrap64 (20454 + t435)) - 1)) [.int .i64 (wrap64 ((wrap64 (20454 + t435)) - 1))] from rfl) (Reps.one (show Kd.M (Kd.int .i64) _ _ _ 0 [.int .i64 0] from rfl) (Reps.one (show Kd.M (Kd.int .i64) _ _ _ 84006 [.int .i64 84006] from rfl) (Reps.one (show Kd.M (Kd.int .i64) _ _ _ 84005 [.int .i64 84005] from rfl) (Reps.one (show Kd.M (Kd.int .i64) _ _ _ 1 [.int .i64 1] from rfl) (Reps.none _ _)))))))
      intro v438 w57 ho58 hb hg_ hnew_
      clear hg_ hnew_
      (first | rw [← Ny437.out] at ho58 | (simp only [Int.reduceToNat] at ho58; rw [← Ny437.out] at ho58))
      have n0_ := Aside0.mk (Kd.R_below (by (with_reducible repeat (first | apply Kd.R_alloc | apply Kd.R_drewN | apply Kd.R_drew)); exact HO423.out) hb)
      have n1_ := Aside0.mk (Kd.R_elder' (by (with_reducible repeat (first | apply Kd.R_alloc | apply Kd.R_drewN | apply Kd.R_drew)); exact HO430.out) (Kd.R_base ho58) hb)
      have n2_ := Aside0.mk (Kd.R_lower (Kd.R_new' ho58 (Kd.R_lt (by (with_reducible repeat (first | apply Kd.R_alloc | apply Kd.R_drewN | apply Kd.R_drew)); exact HO430.out))) (below_size (by repeat (first | (with_reducible first | exact HB.out | apply below_alloc | apply pw_below_drewN | apply below_drew1 | refine below_set ?_ (IsS49.ge HI417.out) | refine below_set ?_ GE414.out | refine below_set ?_ GE425.out) | exact HB.out))))
      have n3_ := Aside0.mk (blk_below (g := gb414) (o := .cells #[.int .i64 a1_0, .slice A1_1 l1_1.length c1_1] 27 (0, 0)) (by (with_reducible repeat (first | refine blk_drewN ?_ _ | refine blk_drew ?_ | refine blk_alloc ?_ _)); exact BK414.out) hb)
      have n4_ := Aside0.mk (IsS49.below (by repeat (first | (with_reducible first | exact HI417.out | apply IsS49.alloc | apply IsS49.drewN | apply IsS49.drew | apply IsS49.set_1 | refine IsS49.far ?_ NB417_414.out _ | refine IsS49.far ?_ NB417_425.out _) | exact HI417.out)) hb)
      have n5_ := Aside0.mk (blk_below (g := gb425) (o := .cells #[.int .i64 t420, .slice Ao48 t421.length co48] 27 (0, 0)) (by (with_reducible repeat (first | refine blk_drewN ?_ _ | refine blk_drew ?_ | refine blk_alloc ?_ _)); exact BK425.out) hb)
      have n6_ := Aside0.mk (below_step (by repeat (first | (with_reducible first | exact HB.out | apply below_alloc | apply pw_below_drewN | apply below_drew1 | refine below_set ?_ (IsS49.ge HI417.out) | refine below_set ?_ GE414.out | refine below_set ?_ GE425.out) | exact HB.out)) hb)
      clear HO423
      clear HO430
      clear BK414
      clear HI417
      clear BK425
      clear HB
      have HO423 := n0_
      have HO430 := n1_
      have HO439 := n2_
      have BK414 := n3_
      have HI417 := n4_
      have BK425 := n5_
      have HB := n6_
      clear n0_ n1_ n2_ n3_ n4_ n5_ n6_
      clear hb ho58
      obtain ⟨Ao59, co59, eo59⟩ := Kd.R_slice HO439.out
      (first | subst eo59 | (injection eo59 with f1_ f2_ f3_; have f4_ := f1_.symm; have f5_ := f3_.symm; clear f1_ f2_ f3_; subst f4_; subst f5_))
      refine hK.out _ _ ⟨(blk_cell BK425.out 0).trans rfl, (blk_cell BK425.out 1).trans rfl⟩ (fun hHeld => ?_)
      clear hK K
      refine norm_ (a' := ?_) ?_ ?_
      rotate_left
      ·
       show Act.put _ (some 40) _ = _
       simp only [Act.put, List.setIfInBounds_toArray, List.set_cons_zero, List.set_cons_succ, i64_w, i32_w]
       rfl
      refine one_ (i := 13) (N := some 41) #[true, true, true, true, true, true, true, true, true, true, true, true, true, true, false, false, false, false, false, false, false, false, false, false, false] rfl rfl (one_of HT_.out (by kernel_rfl)) (by decide) (fun K hK => ?_)
      refine goes_ Try.func18 (by kernel_rfl) rfl #[.pointer (some ⟨g417, 0, none⟩), .slice Ao59 y437.length co59] (by rfl) rfl rfl (by (try simp only [List.map_toArray, List.map_cons, List.map_nil]); first | done | rfl | (simp only [List.length_drop, List.length_take]; rfl)) ?_
      with_reducible refine (payrollgen_Tape_Pick.calls g417 t415 t436 _ _ y437 t440 t441 w _ ?side1 ?side2 ?side3 ?side4 ?side5 A15.out).mono ?_
      (case side1 => repeat (first | (with_reducible first | exact HI417.out | apply IsS49.alloc | apply IsS49.drewN | apply IsS49.drew | apply IsS49.set_1 | refine IsS49.far ?_ NB417_414.out _ | refine IsS49.far ?_ NB417_425.out _) | exact HI417.out))
      (case side2 => repeat (first | (with_reducible first | exact HB.out | apply below_alloc | apply pw_below_drewN | apply below_drew1 | refine below_set ?_ (IsS49.ge HI417.out) | refine below_set ?_ GE414.out | refine below_set ?_ GE425.out) | exact HB.out))
      (case side3 => repeat (first | exact (Kd.R_reads' HO439.out).2.2 | (with_reducible refine Kd.C_alloc ?_ _) | (with_reducible refine Kd.C_drewN ?_ _) | (with_reducible refine Kd.C_drew ?_)))
      (case side4 => exact (Kd.R_reads' HO439.out).2.1)
      (case side5 => exact far_slice (IsS49.own_ne HI417.out HO439.out (by decide)))
      rintro e w60 ⟨rfl, hi, hb, hk⟩
      refine ⟨_, rfl, ?_⟩
      have n0_ := Aside0.mk (KeepBut.blk hk (g' := gb414) (o := .cells #[.int .i64 a1_0, .slice A1_1 l1_1.length c1_1] 27 (0, 0)) (by (with_reducible repeat (first | refine blk_drewN ?_ _ | refine blk_drew ?_ | refine blk_alloc ?_ _)); exact BK414.out) NB414_417.out (by simp))
      have n1_ := Aside0.mk (Kd.R_mono (Kd.R_keep (IsS49.apart (show IsS49 w _ g417 t415 t436 from by repeat (first | (with_reducible first | exact HI417.out | apply IsS49.alloc | apply IsS49.drewN | apply IsS49.drew | apply IsS49.set_1 | refine IsS49.far ?_ NB417_414.out _ | refine IsS49.far ?_ NB417_425.out _) | exact HI417.out)) (by (with_reducible repeat (first | apply Kd.R_alloc | apply Kd.R_drewN | apply Kd.R_drew)); exact HO423.out) (by decide)) hk (fun _ h => h.2)) (fun _ h => h.1))
      have n2_ := Aside0.mk (KeepBut.blk hk (g' := gb425) (o := .cells #[.int .i64 t420, .slice Ao48 t421.length co48] 27 (0, 0)) (by (with_reducible repeat (first | refine blk_drewN ?_ _ | refine blk_drew ?_ | refine blk_alloc ?_ _)); exact BK425.out) NB425_417.out (by simp))
      have n3_ := Aside0.mk (Kd.R_mono (Kd.R_keep (IsS49.apart (show IsS49 w _ g417 t415 t436 from by repeat (first | (with_reducible first | exact HI417.out | apply IsS49.alloc | apply IsS49.drewN | apply IsS49.drew | apply IsS49.set_1 | refine IsS49.far ?_ NB417_414.out _ | refine IsS49.far ?_ NB417_425.out _) | exact HI417.out)) (by (with_reducible repeat (first | apply Kd.R_alloc | apply Kd.R_drewN | apply Kd.R_drew)); exact HO430.out) (by decide)) hk (fun _ h => h.2)) (fun _ h => h.1))
      have n4_ := Aside0.mk (Kd.R_mono (Kd.R_keep (IsS49.apart (show IsS49 w _ g417 t415 t436 from by repeat (first | (with_reducible first | exact HI417.out | apply IsS49.alloc | apply IsS49.drewN | apply IsS49.drew | apply IsS49.set_1 | refine IsS49.far ?_ NB417_414.out _ | refine IsS49.far ?_ NB417_425.out _) | exact HI417.out)) (by (with_reducible repeat (first | apply Kd.R_alloc | apply Kd.R_drewN | apply Kd.R_drew)); exact HO439.out) (by decide)) hk (fun _ h => h.2)) (fun _ h => h.1))
      have n5_ := Aside0.mk (hb)
      have n6_ := Aside0.mk (hi)
      clear BK414
      clear HO423
      clear BK425
      clear HO430
      clear HO439
      clear HB
      clear HI417
      have BK414 := n0_
      have HO423 := n1_
      have BK425 := n2_
      have HO430 := n3_
      have HO439 := n4_
      have HB := n5_
      have HI417 := n6_
      clear n0_ n1_ n2_ n3_ n4_ n5_ n6_
      (try clear hb)
      (try clear hb2)
      (try clear hk)
      (try clear hi)
      refine hK.out _ _ ⟨(blk_cell BK425.out 0).trans rfl, (blk_cell BK425.out 1).trans rfl⟩ (fun hHeld => ?_)
      clear hK K
      refine norm_ (a' := ?_) ?_ ?_
      rotate_left
      ·
       show Act.put _ (some 41) _ = _
       simp only [Act.put, List.setIfInBounds_toArray, List.set_cons_zero, List.set_cons_succ, i64_w, i32_w]
       rfl
      refine one_ (i := 14) (N := some 42) #[true, true, true, true, true, true, true, true, true, true, true, true, true, true, true, false, false, false, false, false, false, false, false, false, false] rfl rfl (one_of HT_.out (by kernel_rfl)) (by decide) (fun K hK => ?_)
      refine goes_ Try.func21 (by kernel_rfl) rfl #[.agg #[.int .i64 t420, .slice Ao48 t421.length co48], .int .i64 t431, .int .i64 (wrap64 ((wrap64 (t431 + t433)) - 1000)), .int .i64 t440] (by rfl) rfl rfl (by (try simp only [List.map_toArray, List.map_cons, List.map_nil]); first | done | rfl | (simp only [List.length_drop, List.length_take]; rfl)) ?_
      with_reducible refine (payrolllaw4_reads.calls k1 t420 _ _ t421 t431 (wrap64 ((wrap64 (t431 + t433)) - 1000)) t440 true _ ?side1 ?side2 A16.out).mono ?_
      (case side1 => repeat (first | exact (Kd.R_reads' HO423.out).2.2 | (with_reducible refine Kd.C_alloc ?_ _) | (with_reducible refine Kd.C_drewN ?_ _) | (with_reducible refine Kd.C_drew ?_)))
      (case side2 => exact (Kd.R_reads' HO423.out).2.1)
      rintro e w61 ⟨rfl, hb⟩
      refine ⟨_, rfl, ?_⟩
      have n0_ := Aside0.mk (Kd.R_below (by (with_reducible repeat (first | apply Kd.R_alloc | apply Kd.R_drewN | apply Kd.R_drew)); exact HO423.out) hb)
      have n1_ := Aside0.mk (Kd.R_below (by (with_reducible repeat (first | apply Kd.R_alloc | apply Kd.R_drewN | apply Kd.R_drew)); exact HO430.out) hb)
      have n2_ := Aside0.mk (Kd.R_below (by (with_reducible repeat (first | apply Kd.R_alloc | apply Kd.R_drewN | apply Kd.R_drew)); exact HO439.out) hb)
      have n3_ := Aside0.mk (blk_below (g := gb414) (o := .cells #[.int .i64 a1_0, .slice A1_1 l1_1.length c1_1] 27 (0, 0)) (by (with_reducible repeat (first | refine blk_drewN ?_ _ | refine blk_drew ?_ | refine blk_alloc ?_ _)); exact BK414.out) hb)
      have n4_ := Aside0.mk (IsS49.below (by repeat (first | (with_reducible first | exact HI417.out | apply IsS49.alloc | apply IsS49.drewN | apply IsS49.drew | apply IsS49.set_1 | refine IsS49.far ?_ NB417_414.out _ | refine IsS49.far ?_ NB417_425.out _) | exact HI417.out)) hb)
      have n5_ := Aside0.mk (blk_below (g := gb425) (o := .cells #[.int .i64 t420, .slice Ao48 t421.length co48] 27 (0, 0)) (by (with_reducible repeat (first | refine blk_drewN ?_ _ | refine blk_drew ?_ | refine blk_alloc ?_ _)); exact BK425.out) hb)
      have n6_ := Aside0.mk (below_step (by repeat (first | (with_reducible first | exact HB.out | apply below_alloc | apply pw_below_drewN | apply below_drew1 | refine below_set ?_ (IsS49.ge HI417.out) | refine below_set ?_ GE414.out | refine below_set ?_ GE425.out) | exact HB.out)) hb)
      clear HO423
      clear HO430
      clear HO439
      clear BK414
      clear HI417
      clear BK425
      clear HB
      have HO423 := n0_
      have HO430 := n1_
      have HO439 := n2_
      have BK414 := n3_
      have HI417 := n4_
      have BK425 := n5_
      have HB := n6_
      clear n0_ n1_ n2_ n3_ n4_ n5_ n6_
      (try clear hb)
      (try clear hb2)
      (try clear hk)
      (try clear hi)
      refine hK.out _ _ ⟨(blk_cell BK425.out 0).trans rfl, (blk_cell BK425.out 1).trans rfl⟩ (fun hHeld => ?_)
      clear hK K
      refine norm_ (a' := ?_) ?_ ?_
      rotate_left
      ·
       show Act.put _ (some 42) _ = _
       simp only [Act.put, List.setIfInBounds_toArray, List.set_cons_zero, List.set_cons_succ, i64_w, i32_w]
       rfl
      refine pure_ (i := 15) (N := some 43) (v := ?_) (a' := ?_) #[true, true, true, true, true, true, true, true, true, true, true, true, true, true, true, true, false, false, false, false, false, false, false, false, false] rfl rfl (any_of HT_.out (by kernel_rfl)) (fun _ _ _ h => h) (Or.inl ⟨by rfl, ?_⟩) ?_ ?_
      rotate_left
      ·
       intro w'
       go_simp
       with_reducible rfl
      rotate_left
      ·
       simp only [Act.put, List.setIfInBounds_toArray, List.set_cons_zero, List.set_cons_succ, i64_w, i32_w]
       rfl
      refine pure_ (i := 16) (N := some 44) (v := ?_) (a' := ?_) #[true, true, true, true, true, true, true, true, true, true, true, true, true, true, true, true, true, false, false, false, false, false, false, false, false] rfl rfl (any_of HT_.out (by kernel_rfl)) (fun _ _ _ h => h) (Or.inl ⟨by rfl, ?_⟩) ?_ ?_
      rotate_left
      ·
       intro w'
       go_simp
       with_reducible rfl
      rotate_left
      ·
       simp only [Act.put, List.setIfInBounds_toArray, List.set_cons_zero, List.set_cons_succ, i64_w, i32_w]
       rfl
      refine pure_ (i := 17) (N := some 45) (v := ?_) (a' := ?_) #[true, true, true, true, true, true, true, true, true, true, true, true, true, true, true, true, true, true, false, false, false, false, false, false, false] rfl rfl (any_of HT_.out (by kernel_rfl)) (fun _ _ _ h => h) (Or.inl ⟨by rfl, ?_⟩) ?_ ?_
      rotate_left
      ·
       intro w'
       go_simp
       with_reducible rfl
      rotate_left
      ·
       simp only [Act.put, List.setIfInBounds_toArray, List.set_cons_zero, List.set_cons_succ, i64_w, i32_w]
       rfl
      refine pure_ (i := 20) (N := some 48) (v := ?_) (a' := ?_) #[true, true, true, true, true, true, true, true, true, true, true, true, true, true, true, true, true, true, false, false, true, false, false, false, false] rfl rfl (any_of HT_.out (by kernel_rfl)) (fun _ _ _ h => h) (Or.inl ⟨by rfl, ?_⟩) ?_ ?_
      rotate_left
      ·
       intro w'
       go_simp
       with_reducible rfl
      rotate_left
      ·
       simp only [Act.put, List.setIfInBounds_toArray, List.set_cons_zero, List.set_cons_succ, i64_w, i32_w]
       rfl
      refine pure_ (i := 21) (N := some 49) (v := ?_) (a' := ?_) #[true, true, true, true, true, true, true, true, true, true, true, true, true, true, true, true, true, true, false, false, true, true, false, false, false] rfl rfl (any_of HT_.out (by kernel_rfl)) (fun _ _ _ h => h) (Or.inl ⟨by rfl, ?_⟩) ?_ ?_
      rotate_left
      ·
       intro w'
       go_simp
       with_reducible rfl
      rotate_left
      ·
       simp only [Act.put, List.setIfInBounds_toArray, List.set_cons_zero, List.set_cons_succ, i64_w, i32_w]
       rfl
      refine take_ (i := 18) (N := some 46) (v := ?_) (a' := ?_) #[true, true, true, true, true, true, true, true, true, true, true, true, true, true, true, true, true, true, true, false, true, true, false, false, false] rfl rfl (take_ofW HT_.out HW_.out (by kernel_rfl)) (fun _ _ _ h => h) (Or.inl ⟨by rfl, ?_⟩) hHeld ?_ ?_
      rotate_left
      ·
       rintro w' ⟨s0, s1⟩
       go_simp
       with_reducible rfl
      rotate_left
      ·
       simp only [Act.put, List.setIfInBounds_toArray, List.set_cons_zero, List.set_cons_succ, i64_w, i32_w]
       rfl
      refine one_ (i := 19) (N := some 47) #[true, true, true, true, true, true, true, true, true, true, true, true, true, true, true, true, true, true, true, true, true, true, false, false, false] rfl rfl (one_of HT_.out (by kernel_rfl)) (by decide) (fun K hK => ?_)
      refine goes_ Try.func22 (by kernel_rfl) rfl #[.pointer (some ⟨g417, 0, none⟩), .agg #[.int .i64 t420, .slice Ao48 t421.length co48]] (by rfl) rfl rfl (by (try simp only [List.map_toArray, List.map_cons, List.map_nil]); first | done | rfl | (simp only [List.length_drop, List.length_take]; rfl)) ?_
      with_reducible refine (payrollgen_Tape_SpoilZone.calls g417 t415 t441 t420 _ _ t421 t443 t444 t447 w _ ?side1 ?side2 ?side3 ?side4 A18.out).mono ?_
      (case side1 => repeat (first | (with_reducible first | exact HI417.out | apply IsS49.alloc | apply IsS49.drewN | apply IsS49.drew | apply IsS49.set_1 | refine IsS49.far ?_ NB417_414.out _ | refine IsS49.far ?_ NB417_425.out _) | exact HI417.out))
      (case side2 => repeat (first | (with_reducible first | exact HB.out | apply below_alloc | apply pw_below_drewN | apply below_drew1 | refine below_set ?_ (IsS49.ge HI417.out) | refine below_set ?_ GE414.out | refine below_set ?_ GE425.out) | exact HB.out))
      (case side3 => exact Kd.C_foot_own (IsS49.apart (show IsS49 w _ g417 t415 t441 from by repeat (first | (with_reducible first | exact HI417.out | apply IsS49.alloc | apply IsS49.drewN | apply IsS49.drew | apply IsS49.set_1 | refine IsS49.far ?_ NB417_414.out _ | refine IsS49.far ?_ NB417_425.out _) | exact HI417.out)) (by (with_reducible repeat (first | apply Kd.R_alloc | apply Kd.R_drewN | apply Kd.R_drew)); exact HO423.out) (by decide)) (fun _ h_ => h_.2))
      (case side4 => exact (Kd.R_reads' HO423.out).2.1)
      rintro e w62 ⟨v445, rfl, ho0, hi, hb, hk⟩
      refine ⟨_, rfl, ?_⟩
      have n0_ := Aside0.mk (KeepBut.blk hk (g' := gb414) (o := .cells #[.int .i64 a1_0, .slice A1_1 l1_1.length c1_1] 27 (0, 0)) (by (with_reducible repeat (first | refine blk_drewN ?_ _ | refine blk_drew ?_ | refine blk_alloc ?_ _)); exact BK414.out) NB414_417.out (by simp))
      have n1_ := Aside0.mk (Kd.R_mono (Kd.R_told (Kd.R_oldK (IsS49.apart (show IsS49 w _ g417 t415 t441 from by repeat (first | (with_reducible first | exact HI417.out | apply IsS49.alloc | apply IsS49.drewN | apply IsS49.drew | apply IsS49.set_1 | refine IsS49.far ?_ NB417_414.out _ | refine IsS49.far ?_ NB417_425.out _) | exact HI417.out)) (by (with_reducible repeat (first | apply Kd.R_alloc | apply Kd.R_drewN | apply Kd.R_drew)); exact HO423.out) (by decide)) hk) (Kd.R_base ho0)) (fun _ h_ => h_.1))
      have n2_ := Aside0.mk (KeepBut.blk hk (g' := gb425) (o := .cells #[.int .i64 t420, .slice Ao48 t421.length co48] 27 (0, 0)) (by (with_reducible repeat (first | refine blk_drewN ?_ _ | refine blk_drew ?_ | refine blk_alloc ?_ _)); exact BK425.out) NB425_417.out (by simp))
      have n3_ := Aside0.mk (Kd.R_mono (Kd.R_keep (IsS49.apart (show IsS49 w _ g417 t415 t441 from by repeat (first | (with_reducible first | exact HI417.out | apply IsS49.alloc | apply IsS49.drewN | apply IsS49.drew | apply IsS49.set_1 | refine IsS49.far ?_ NB417_414.out _ | refine IsS49.far ?_ NB417_425.out _) | exact HI417.out)) (by (with_reducible repeat (first | apply Kd.R_alloc | apply Kd.R_drewN | apply Kd.R_drew)); exact HO430.out) (by decide)) hk (fun _ h => h.2)) (fun _ h => h.1))
      have n4_ := Aside0.mk (Kd.R_mono (Kd.R_keep (IsS49.apart (show IsS49 w _ g417 t415 t441 from by repeat (first | (with_reducible first | exact HI417.out | apply IsS49.alloc | apply IsS49.drewN | apply IsS49.drew | apply IsS49.set_1 | refine IsS49.far ?_ NB417_414.out _ | refine IsS49.far ?_ NB417_425.out _) | exact HI417.out)) (by (with_reducible repeat (first | apply Kd.R_alloc | apply Kd.R_drewN | apply Kd.R_drew)); exact HO439.out) (by decide)) hk (fun _ h => h.2)) (fun _ h => h.1))
      have n5_ := Aside0.mk (Kd.R_lower (Kd.R_new' ho0 (Kd.R_lt (by (with_reducible repeat (first | apply Kd.R_alloc | apply Kd.R_drewN | apply Kd.R_drew)); exact HO423.out))) (below_size (by repeat (first | (with_reducible first | exact HB.out | apply below_alloc | apply pw_below_drewN | apply below_drew1 | refine below_set ?_ (IsS49.ge HI417.out) | refine below_set ?_ GE414.out | refine below_set ?_ GE425.out) | exact HB.out))))
      have n6_ := Aside0.mk (hb)
      have n7_ := Aside0.mk (hi)
      clear BK414
      clear HO423
      clear BK425
      clear HO430
      clear HO439
      clear HB
      clear HI417
      have BK414 := n0_
      have HO423 := n1_
      have BK425 := n2_
      have HO430 := n3_
      have HO439 := n4_
      have HO446 := n5_
      have HB := n6_
      have HI417 := n7_
      clear n0_ n1_ n2_ n3_ n4_ n5_ n6_ n7_
      (try clear hb)
      (try clear hb2)
      (try clear hk)
      (try clear hi)
      (try clear ho0)
      obtain ⟨Ao63, co63, eo63⟩ := Kd.R_slice HO446.out
      (first | subst eo63 | (injection eo63 with f1_ f2_ f3_; have f4_ := f1_.symm; have f5_ := f3_.symm; clear f1_ f2_ f3_; subst f4_; subst f5_))
      refine hK.out _ _ ⟨(blk_cell BK425.out 0).trans rfl, (blk_cell BK425.out 1).trans rfl⟩ (fun hHeld => ?_)
      clear hK K
      refine norm_ (a' := ?_) ?_ ?_
      rotate_left
      ·
       show Act.put _ (some 47) _ = _
       simp only [Act.put, List.setIfInBounds_toArray, List.set_cons_zero, List.set_cons_succ, i64_w, i32_w]
       rfl
      refine one_ (i := 22) (N := some 50) #[true, true, true, true, true, true, true, true, true, true, true, true, true, true, true, true, true, true, true, true, true, true, true, false, false] rfl rfl (one_of HT_.out (by kernel_rfl)) (by decide) (fun K hK => ?_)
      refine goes_ Try.func21 (by kernel_rfl) rfl #[.agg #[.int .i64 t443, .slice Ao63 t444.length co63], .int .i64 t431, .int .i64 t431, .int .i64 20454] (by rfl) rfl rfl (by (try simp only [List.map_toArray, List.map_cons, List.map_nil]); first | done | rfl | (simp only [List.length_drop, List.length_take]; rfl)) ?_
      with_reducible refine (payrolllaw4_reads.calls k1 t443 _ _ t444 t431 t431 20454 false _ ?side1 ?side2 A19.out).mono ?_
      (case side1 => repeat (first | exact (Kd.R_reads' HO446.out).2.2 | (with_reducible refine Kd.C_alloc ?_ _) | (with_reducible refine Kd.C_drewN ?_ _) | (with_reducible refine Kd.C_drew ?_)))
      (case side2 => exact (Kd.R_reads' HO446.out).2.1)
      rintro e w64 ⟨rfl, hb⟩
      refine ⟨_, rfl, ?_⟩
      have n0_ := Aside0.mk (Kd.R_below (by (with_reducible repeat (first | apply Kd.R_alloc | apply Kd.R_drewN | apply Kd.R_drew)); exact HO423.out) hb)
      have n1_ := Aside0.mk (Kd.R_below (by (with_reducible repeat (first | apply Kd.R_alloc | apply Kd.R_drewN | apply Kd.R_drew)); exact HO430.out) hb)
      have n2_ := Aside0.mk (Kd.R_below (by (with_reducible repeat (first | apply Kd.R_alloc | apply Kd.R_drewN | apply Kd.R_drew)); exact HO439.out) hb)
      have n3_ := Aside0.mk (Kd.R_below (by (with_reducible repeat (first | apply Kd.R_alloc | apply Kd.R_drewN | apply Kd.R_drew)); exact HO446.out) hb)
      have n4_ := Aside0.mk (blk_below (g := gb414) (o := .cells #[.int .i64 a1_0, .slice A1_1 l1_1.length c1_1] 27 (0, 0)) (by (with_reducible repeat (first | refine blk_drewN ?_ _ | refine blk_drew ?_ | refine blk_alloc ?_ _)); exact BK414.out) hb)
      have n5_ := Aside0.mk (IsS49.below (by repeat (first | (with_reducible first | exact HI417.out | apply IsS49.alloc | apply IsS49.drewN | apply IsS49.drew | apply IsS49.set_1 | refine IsS49.far ?_ NB417_414.out _ | refine IsS49.far ?_ NB417_425.out _) | exact HI417.out)) hb)
      have n6_ := Aside0.mk (blk_below (g := gb425) (o := .cells #[.int .i64 t420, .slice Ao48 t421.length co48] 27 (0, 0)) (by (with_reducible repeat (first | refine blk_drewN ?_ _ | refine blk_drew ?_ | refine blk_alloc ?_ _)); exact BK425.out) hb)
      have n7_ := Aside0.mk (below_step (by repeat (first | (with_reducible first | exact HB.out | apply below_alloc | apply pw_below_drewN | apply below_drew1 | refine below_set ?_ (IsS49.ge HI417.out) | refine below_set ?_ GE414.out | refine below_set ?_ GE425.out) | exact HB.out)) hb)
      clear HO423
      clear HO430
      clear HO439
      clear HO446
      clear BK414
      clear HI417
      clear BK425
      clear HB
      have HO423 := n0_
      have HO430 := n1_
      have HO439 := n2_
      have HO446 := n3_
      have BK414 := n4_
      have HI417 := n5_
      have BK425 := n6_
      have HB := n7_
      clear n0_ n1_ n2_ n3_ n4_ n5_ n6_ n7_
      (try clear hb)
      (try clear hb2)
      (try clear hk)
      (try clear hi)
      refine hK.out _ _ ⟨(blk_cell BK425.out 0).trans rfl, (blk_cell BK425.out 1).trans rfl⟩ (fun hHeld => ?_)
      clear hK K
      refine norm_ (a' := ?_) ?_ ?_
      rotate_left
      ·
       show Act.put _ (some 50) _ = _
       simp only [Act.put, List.setIfInBounds_toArray, List.set_cons_zero, List.set_cons_succ, i64_w, i32_w]
       rfl
      refine pure_ (i := 23) (N := some 51) (v := ?_) (a' := ?_) #[true, true, true, true, true, true, true, true, true, true, true, true, true, true, true, true, true, true, true, true, true, true, true, true, false] rfl rfl (any_of HT_.out (by kernel_rfl)) (fun _ _ _ h => h) (Or.inl ⟨by rfl, ?_⟩) ?_ ?_
      rotate_left
      ·
       intro w'
       go_simp
       with_reducible rfl
      rotate_left
      ·
       simp only [Act.put, List.setIfInBounds_toArray, List.set_cons_zero, List.set_cons_succ, i64_w, i32_w]
       rfl
      refine pure_ (i := 24) (N := some 52) (v := ?_) (a' := ?_) #[true, true, true, true, true, true, true, true, true, true, true, true, true, true, true, true, true, true, true, true, true, true, true, true, true] rfl rfl (any_of HT_.out (by kernel_rfl)) (fun _ _ _ h => h) (Or.inl ⟨by rfl, ?_⟩) ?_ ?_
      rotate_left
      ·
       intro w'
       go_simp
       with_reducible rfl
      rotate_left
      ·
       simp only [Act.put, List.setIfInBounds_toArray, List.set_cons_zero, List.set_cons_succ, i64_w, i32_w]
       rfl
      refine done_ (done_of HT_.out (by kernel_rfl)) ?_
      try go_wp2
      go_ret
      exact ⟨by first | rfl | (simp [errW_none, errW_some] <;> rfl) | (simp [*, errW_none, errW_some] <;> rfl), by repeat (first | (with_reducible first | exact HB.out | apply below_alloc | apply pw_below_drewN | apply below_drew1 | refine below_set ?_ (IsS49.ge HI417.out) | refine below_set ?_ GE414.out | refine below_set ?_ GE425.out) | exact HB.out)⟩
    ·
     replace c17 := Bool.eq_false_iff.mpr c17
     subst c17
     have H1 : (some false) = some r := by rw [if_neg (show ¬ (false = true) by decide)] at H; exact H
     clear H
     have H := H1
     clear H1
     obtain rfl := Option.some.inj H
     try go_wp2_with (first | ((with_reducible refine gate_callee (f := 10) rfl ?_); refine goesL_ (some 22) rfl rfl Try.func10 (by kernel_rfl) rfl #[.pointer (some ⟨g417, 0, none⟩)] rfl (by (try simp only [List.map_toArray, List.map_cons, List.map_nil]); first | done | rfl | (simp only [List.length_drop, List.length_take]; rfl)) ?_; (with_reducible refine (payrollgen_Tape_Zone.calls k1 g417 t415 x418001_1 t420 t421 t424 w _ ?side1 ?side2 A10.out).mono ?_); (case side1 => repeat (first | (with_reducible first | exact HI417.out | apply IsS49.alloc | apply IsS49.drewN | apply IsS49.drew | apply IsS49.set_1 | refine IsS49.far ?_ NB417_414.out _) | exact HI417.out)); (case side2 => repeat (first | (with_reducible first | exact HB.out | apply below_alloc | apply pw_below_drewN | apply below_drew1 | refine below_set ?_ (IsS49.ge HI417.out) | refine below_set ?_ GE414.out) | exact HB.out)); rintro e w65 ⟨v422, rfl, ho0, hi, hb, hk⟩; refine ⟨_, rfl, ?_⟩; have n0_ := Aside0.mk (KeepBut.blk hk (g' := gb414) (o := .cells #[.int .i64 a1_0, .slice A1_1 l1_1.length c1_1] 27 (0, 0)) (by (with_reducible repeat (first | refine blk_drewN ?_ _ | refine blk_drew ?_ | refine blk_alloc ?_ _)); exact BK414.out) NB414_417.out (by simp)); have n1_ := Aside0.mk (Kd.R_lower ho0 (below_size (by repeat (first | (with_reducible first | exact HB.out | apply below_alloc | apply pw_below_drewN | apply below_drew1 | refine below_set ?_ (IsS49.ge HI417.out) | refine below_set ?_ GE414.out) | exact HB.out)))); have n2_ := Aside0.mk (hb); have n3_ := Aside0.mk (hi); clear BK414; clear HB; clear HI417; have BK414 := n0_; have HO423 := n1_; have HB := n2_; have HI417 := n3_; clear n0_ n1_ n2_ n3_; (try clear hb); (try clear hb2); (try clear hk); (try clear hi); (try clear ho0)) | ((with_reducible refine gate_dst (N := 13) rfl ?_); refine box_event ?hg (N := 13) ?hd (cs := #[.int .i64 0, .slice none 0 0]) (t := 27) ?hr ?_; (case hd => rfl); (case hg => rfl); (case hr => first | (go_simp; done) | (go_simp; rfl)); intro gb425 hg w66 hbox hb; have n0_ := Aside0.mk (Kd.R_below (by (with_reducible repeat (first | apply Kd.R_alloc | apply Kd.R_drewN | apply Kd.R_drew)); exact HO423.out) hb); have n1_ := Aside0.mk (blk_below (g := gb414) (o := .cells #[.int .i64 a1_0, .slice A1_1 l1_1.length c1_1] 27 (0, 0)) (by (with_reducible repeat (first | refine blk_drewN ?_ _ | refine blk_drew ?_ | refine blk_alloc ?_ _)); exact BK414.out) hb); have n2_ := Aside0.mk (IsS49.below (by repeat (first | (with_reducible first | exact HI417.out | apply IsS49.alloc | apply IsS49.drewN | apply IsS49.drew | apply IsS49.set_1 | refine IsS49.far ?_ NB417_414.out _) | exact HI417.out)) hb); have n3_ := Aside0.mk (below_step (by repeat (first | (with_reducible first | exact HB.out | apply below_alloc | apply pw_below_drewN | apply below_drew1 | refine below_set ?_ (IsS49.ge HI417.out) | refine below_set ?_ GE414.out) | exact HB.out)) hb); have n4_ := Aside0.mk (hbox); have n5_ := Aside0.mk ((by rw [hg]; exact (below_size (by repeat (first | (with_reducible first | exact HB.out | apply below_alloc | apply pw_below_drewN | apply below_drew1 | refine below_set ?_ (IsS49.ge HI417.out) | refine below_set ?_ GE414.out) | exact HB.out))) : w.heap.size ≤ gb425)); have n6_ := Aside0.mk ((by rw [hg]; exact (below_size (by repeat (first | (with_reducible first | exact HB.out | apply below_alloc | apply pw_below_drewN | apply below_drew1 | refine below_set ?_ (IsS49.ge HI417.out) | refine below_set ?_ GE414.out) | exact HB.out))) : w.heap.size ≤ gb425)); have n7_ := Aside0.mk ((by rw [hg]; exact Nat.ne_of_lt (blk_lt (g := gb414) (o := .cells #[.int .i64 a1_0, .slice A1_1 l1_1.length c1_1] 27 (0, 0)) (by (with_reducible repeat (first | refine blk_drewN ?_ _ | refine blk_drew ?_ | refine blk_alloc ?_ _)); exact BK414.out)) : gb414 ≠ gb425)); have n8_ := Aside0.mk ((by rw [hg]; exact Nat.ne_of_gt (blk_lt (g := gb414) (o := .cells #[.int .i64 a1_0, .slice A1_1 l1_1.length c1_1] 27 (0, 0)) (by (with_reducible repeat (first | refine blk_drewN ?_ _ | refine blk_drew ?_ | refine blk_alloc ?_ _)); exact BK414.out)) : gb425 ≠ gb414)); have n9_ := Aside0.mk ((by rw [hg]; exact Nat.ne_of_lt (IsS49.lt (show IsS49 w _ g417 t415 t424 from by repeat (first | (with_reducible first | exact HI417.out | apply IsS49.alloc | apply IsS49.drewN | apply IsS49.drew | apply IsS49.set_1 | refine IsS49.far ?_ NB417_414.out _) | exact HI417.out))) : g417 ≠ gb425)); have n10_ := Aside0.mk ((by rw [hg]; exact Nat.ne_of_gt (IsS49.lt (show IsS49 w _ g417 t415 t424 from by repeat (first | (with_reducible first | exact HI417.out | apply IsS49.alloc | apply IsS49.drewN | apply IsS49.drew | apply IsS49.set_1 | refine IsS49.far ?_ NB417_414.out _) | exact HI417.out))) : gb425 ≠ g417)); clear HO423; clear BK414; clear HI417; clear HB; have HO423 := n0_; have BK414 := n1_; have HI417 := n2_; have HB := n3_; have BK425 := n4_; have GW425 := n5_; have GE425 := n6_; have NB414_425 := n7_; have NB425_414 := n8_; have NB417_425 := n9_; have NB425_417 := n10_; clear n0_ n1_ n2_ n3_ n4_ n5_ n6_ n7_ n8_ n9_ n10_; clear hb hbox hg; have hnb67 := NB425_414.out; have hnc67 := NB414_425.out; have hnb68 := NB425_417.out; have hnc68 := NB417_425.out; have hcz69_0 : w66.cell? ⟨gb425, 0, none⟩ = some (.int .i64 0) := (blk_cell BK425.out 0).trans rfl; have hcz69_1 : w66.cell? ⟨gb425, 1, none⟩ = some (.slice none 0 0) := (blk_cell BK425.out 1).trans rfl; have hfz69_0 := blk_frozen BK425.out 0; have hfz69_1 := blk_frozen BK425.out 1; obtain ⟨Ao70, co70, eo70⟩ := Kd.R_slice HO423.out; subst eo70) | ((with_reducible refine gate_callee (f := 11) rfl ?_); refine goesL_ (some 25) rfl rfl Try.func11 (by kernel_rfl) rfl #[.pointer (some ⟨g417, 0, none⟩)] rfl (by (try simp only [List.map_toArray, List.map_cons, List.map_nil]); first | done | rfl | (simp only [List.length_drop, List.length_take]; rfl)) ?_; (with_reducible refine (payrollgen_Tape_Near.calls g417 t415 t424 t426 t427 w _ ?side1 ?side2 A11.out).mono ?_); (case side1 => repeat (first | (with_reducible first | exact HI417.out | apply IsS49.alloc | apply IsS49.drewN | apply IsS49.drew | apply IsS49.set_1 | refine IsS49.far ?_ NB417_414.out _ | refine IsS49.far ?_ NB417_425.out _) | exact HI417.out)); (case side2 => repeat (first | (with_reducible first | exact HB.out | apply below_alloc | apply pw_below_drewN | apply below_drew1 | refine below_set ?_ (IsS49.ge HI417.out) | refine below_set ?_ GE414.out | refine below_set ?_ GE425.out) | exact HB.out)); rintro e w71 ⟨rfl, hi, hb, hk⟩; refine ⟨_, rfl, ?_⟩; have n0_ := Aside0.mk (KeepBut.blk hk (g' := gb414) (o := .cells #[.int .i64 a1_0, .slice A1_1 l1_1.length c1_1] 27 (0, 0)) (by (with_reducible repeat (first | refine blk_drewN ?_ _ | refine blk_drew ?_ | refine blk_alloc ?_ _)); refine blk_far ?_ NB414_425.out _; (with_reducible repeat (first | refine blk_drewN ?_ _ | refine blk_drew ?_ | refine blk_alloc ?_ _)); refine blk_far ?_ NB414_425.out _; (with_reducible repeat (first | refine blk_drewN ?_ _ | refine blk_drew ?_ | refine blk_alloc ?_ _)); exact BK414.out) NB414_417.out (by simp)); have n1_ := Aside0.mk (Kd.R_mono (Kd.R_keep (IsS49.apart (show IsS49 w _ g417 t415 t424 from by repeat (first | (with_reducible first | exact HI417.out | apply IsS49.alloc | apply IsS49.drewN | apply IsS49.drew | apply IsS49.set_1 | refine IsS49.far ?_ NB417_414.out _ | refine IsS49.far ?_ NB417_425.out _) | exact HI417.out)) (by (with_reducible repeat (first | apply Kd.R_alloc | apply Kd.R_drewN | apply Kd.R_drew)); exact (Kd.R_mono (Kd.R_far (p := ⟨gb425, 1, none⟩) (Kd.R_far (p := ⟨gb425, 0, none⟩) (Kd.R_types HO423.out BK425.out (by decide)) (fun _ hk => hk.2) (.int .i64 t420)) (fun _ hk => hk.2) (.slice Ao70 t421.length co70)) (fun _ h_ => h_.1))) (by decide)) hk (fun _ h => h.2)) (fun _ h => h.1)); have n2_ := Aside0.mk (KeepBut.blk hk (g' := gb425) (o := .cells #[.int .i64 t420, .slice Ao70 t421.length co70] 27 (0, 0)) (by (with_reducible repeat (first | refine blk_drewN ?_ _ | refine blk_drew ?_ | refine blk_alloc ?_ _)); refine blk_put (cs := #[.int .i64 t420, .slice none 0 0]) ?_ 1 _ rfl; (with_reducible repeat (first | refine blk_drewN ?_ _ | refine blk_drew ?_ | refine blk_alloc ?_ _)); refine blk_put (cs := #[.int .i64 0, .slice none 0 0]) ?_ 0 _ rfl; (with_reducible repeat (first | refine blk_drewN ?_ _ | refine blk_drew ?_ | refine blk_alloc ?_ _)); exact BK425.out) NB425_417.out (by simp)); have n3_ := Aside0.mk (hb); have n4_ := Aside0.mk (hi); clear BK414; clear HO423; clear BK425; clear HB; clear HI417; have BK414 := n0_; have HO423 := n1_; have BK425 := n2_; have HB := n3_; have HI417 := n4_; clear n0_ n1_ n2_ n3_ n4_; (try clear hb); (try clear hb2); (try clear hk); (try clear hi)) | ((with_reducible refine gate_dst (N := 26) rfl ?_); refine Kd.R_lit (Kd.int .i64) _ 3 ?hg (N := 26) ?hd (xs := ([t426, 0, 120968639, 29453759, 29455200] : List Int)) (inner := [.int .i64 t426, .int .i64 0, .int .i64 120968639, .int .i64 29453759, .int .i64 29455200]) (ok := fun _ => True) (okp := fun _ => True) ?hr ?hp (fun _ hk => hk) trivial (Below.refl _ _) (Nat.le_refl _) (by simp) ?_; (case hd => rfl); (case hg => rfl); (case hr => first | (go_simp; done) | (go_simp; rfl)); (case hp => exact (Reps.one (show Kd.M (Kd.int .i64) _ _ _ t426 [.int .i64 t426] from rfl) (Reps.one (show Kd.M (Kd.int .i64) _ _ _ 0 [.int .i64 0] from rfl) (Reps.one (show Kd.M (Kd.int .i64) _ _ _ 120968639 [.int .i64 120968639] from rfl) (Reps.one (show Kd.M (Kd.int .i64) _ _ _ 29453759 [.int .i64 29453759] from rfl) (Reps.one (show Kd.M (Kd.int .i64) _ _ _ 29455200 [.int .i64 29455200] from rfl) (Reps.none _ _))))))); intro v429 w72 ho73 hb hg_ hnew_; clear hg_ hnew_; (first | rw [← Ny428.out] at ho73 | (simp only [Int.reduceToNat] at ho73; rw [← Ny428.out] at ho73)); have n0_ := Aside0.mk (Kd.R_below (by (with_reducible repeat (first | apply Kd.R_alloc | apply Kd.R_drewN | apply Kd.R_drew)); exact HO423.out) hb); have n1_ := Aside0.mk (Kd.R_lower ho73 (below_size (by repeat (first | (with_reducible first | exact HB.out | apply below_alloc | apply pw_below_drewN | apply below_drew1 | refine below_set ?_ (IsS49.ge HI417.out) | refine below_set ?_ GE414.out | refine below_set ?_ GE425.out) | exact HB.out)))); have n2_ := Aside0.mk (blk_below (g := gb414) (o := .cells #[.int .i64 a1_0, .slice A1_1 l1_1.length c1_1] 27 (0, 0)) (by (with_reducible repeat (first | refine blk_drewN ?_ _ | refine blk_drew ?_ | refine blk_alloc ?_ _)); exact BK414.out) hb); have n3_ := Aside0.mk (IsS49.below (by repeat (first | (with_reducible first | exact HI417.out | apply IsS49.alloc | apply IsS49.drewN | apply IsS49.drew | apply IsS49.set_1 | refine IsS49.far ?_ NB417_414.out _ | refine IsS49.far ?_ NB417_425.out _) | exact HI417.out)) hb); have n4_ := Aside0.mk (blk_below (g := gb425) (o := .cells #[.int .i64 t420, .slice Ao70 t421.length co70] 27 (0, 0)) (by (with_reducible repeat (first | refine blk_drewN ?_ _ | refine blk_drew ?_ | refine blk_alloc ?_ _)); exact BK425.out) hb); have n5_ := Aside0.mk (below_step (by repeat (first | (with_reducible first | exact HB.out | apply below_alloc | apply pw_below_drewN | apply below_drew1 | refine below_set ?_ (IsS49.ge HI417.out) | refine below_set ?_ GE414.out | refine below_set ?_ GE425.out) | exact HB.out)) hb); clear HO423; clear BK414; clear HI417; clear BK425; clear HB; have HO423 := n0_; have HO430 := n1_; have BK414 := n2_; have HI417 := n3_; have BK425 := n4_; have HB := n5_; clear n0_ n1_ n2_ n3_ n4_ n5_; clear hb ho73; obtain ⟨Ao74, co74, eo74⟩ := Kd.R_slice HO430.out; subst eo74) | ((with_reducible refine gate_callee (f := 18) rfl ?_); refine goesL_ (some 27) rfl rfl Try.func18 (by kernel_rfl) rfl #[.pointer (some ⟨g417, 0, none⟩), .slice Ao74 y428.length co74] rfl (by (try simp only [List.map_toArray, List.map_cons, List.map_nil]); first | done | rfl | (simp only [List.length_drop, List.length_take]; rfl)) ?_; (with_reducible refine (payrollgen_Tape_Pick.calls g417 t415 t427 _ _ y428 t431 t432 w _ ?side1 ?side2 ?side3 ?side4 ?side5 A12.out).mono ?_); (case side1 => repeat (first | (with_reducible first | exact HI417.out | apply IsS49.alloc | apply IsS49.drewN | apply IsS49.drew | apply IsS49.set_1 | refine IsS49.far ?_ NB417_414.out _ | refine IsS49.far ?_ NB417_425.out _) | exact HI417.out)); (case side2 => repeat (first | (with_reducible first | exact HB.out | apply below_alloc | apply pw_below_drewN | apply below_drew1 | refine below_set ?_ (IsS49.ge HI417.out) | refine below_set ?_ GE414.out | refine below_set ?_ GE425.out) | exact HB.out)); (case side3 => repeat (first | exact (Kd.R_reads' HO430.out).2.2 | (with_reducible refine Kd.C_alloc ?_ _) | (with_reducible refine Kd.C_drewN ?_ _) | (with_reducible refine Kd.C_drew ?_))); (case side4 => exact (Kd.R_reads' HO430.out).2.1); (case side5 => exact far_slice (IsS49.own_ne HI417.out HO430.out (by decide))); rintro e w75 ⟨rfl, hi, hb, hk⟩; refine ⟨_, rfl, ?_⟩; have n0_ := Aside0.mk (KeepBut.blk hk (g' := gb414) (o := .cells #[.int .i64 a1_0, .slice A1_1 l1_1.length c1_1] 27 (0, 0)) (by (with_reducible repeat (first | refine blk_drewN ?_ _ | refine blk_drew ?_ | refine blk_alloc ?_ _)); exact BK414.out) NB414_417.out (by simp)); have n1_ := Aside0.mk (Kd.R_mono (Kd.R_keep (IsS49.apart (show IsS49 w _ g417 t415 t427 from by repeat (first | (with_reducible first | exact HI417.out | apply IsS49.alloc | apply IsS49.drewN | apply IsS49.drew | apply IsS49.set_1 | refine IsS49.far ?_ NB417_414.out _ | refine IsS49.far ?_ NB417_425.out _) | exact HI417.out)) (by (with_reducible repeat (first | apply Kd.R_alloc | apply Kd.R_drewN | apply Kd.R_drew)); exact HO423.out) (by decide)) hk (fun _ h => h.2)) (fun _ h => h.1)); have n2_ := Aside0.mk (KeepBut.blk hk (g' := gb425) (o := .cells #[.int .i64 t420, .slice Ao70 t421.length co70] 27 (0, 0)) (by (with_reducible repeat (first | refine blk_drewN ?_ _ | refine blk_drew ?_ | refine blk_alloc ?_ _)); exact BK425.out) NB425_417.out (by simp)); have n3_ := Aside0.mk (Kd.R_mono (Kd.R_keep (IsS49.apart (show IsS49 w _ g417 t415 t427 from by repeat (first | (with_reducible first | exact HI417.out | apply IsS49.alloc | apply IsS49.drewN | apply IsS49.drew | apply IsS49.set_1 | refine IsS49.far ?_ NB417_414.out _ | refine IsS49.far ?_ NB417_425.out _) | exact HI417.out)) (by (with_reducible repeat (first | apply Kd.R_alloc | apply Kd.R_drewN | apply Kd.R_drew)); exact HO430.out) (by decide)) hk (fun _ h => h.2)) (fun _ h => h.1)); have n4_ := Aside0.mk (hb); have n5_ := Aside0.mk (hi); clear BK414; clear HO423; clear BK425; clear HO430; clear HB; clear HI417; have BK414 := n0_; have HO423 := n1_; have BK425 := n2_; have HO430 := n3_; have HB := n4_; have HI417 := n5_; clear n0_ n1_ n2_ n3_ n4_ n5_; (try clear hb); (try clear hb2); (try clear hk); (try clear hi)))
     have n0_ := Aside0.mk (Kd.R_drew HO423.out)
     have n1_ := Aside0.mk (Kd.R_drew HO430.out)
     have n2_ := Aside0.mk (blk_drew BK414.out)
     have n3_ := Aside0.mk (blk_drew BK425.out)
     have n4_ := Aside0.mk (IsS49.drew HI417.out)
     have n5_ := Aside0.mk (below_drew1 HB.out)
     clear HO423
     clear HO430
     clear BK414
     clear BK425
     clear HI417
     clear HB
     have HO423 := n0_
     have HO430 := n1_
     have BK414 := n2_
     have BK425 := n3_
     have HI417 := n4_
     have HB := n5_
     clear n0_ n1_ n2_ n3_ n4_ n5_
     refine start_ (n := 25) (S := fun w' => w'.cell? ⟨gb425, 0, none⟩ = some (.int .i64 t420) ∧ w'.cell? ⟨gb425, 1, none⟩ = some (.slice Ao70 t421.length co70)) (ds := []) #[false, false, false, false, false, false, false, false, false, false, false, false, false, false, false, false, false, false, false, false, false, false, false, false, false] (by kernel_rfl) rfl rfl ⟨(blk_cell BK425.out 0).trans rfl, (blk_cell BK425.out 1).trans rfl⟩ (fun hHeld => ?_); refine with_tabW payrolllaw4_ClockReads.tab7 payrolllaw4_ClockReads.bits7 (fun HT_ HW_ => ?_)
     generalize w75.drew = w76 at HO423 HO430 BK414 BK425 HI417 HB hHeld ⊢
     refine pure_ (i := 1) (N := some 29) (v := ?_) (a' := ?_) #[false, true, false, false, false, false, false, false, false, false, false, false, false, false, false, false, false, false, false, false, false, false, false, false, false] rfl rfl (any_of HT_.out (by kernel_rfl)) (fun _ _ _ h => h) (Or.inl ⟨by rfl, ?_⟩) ?_ ?_
     rotate_left
     ·
      intro w'
      go_simp
      with_reducible rfl
     rotate_left
     ·
      simp only [Act.put, List.setIfInBounds_toArray, List.set_cons_zero, List.set_cons_succ, i64_w, i32_w]
      rfl
     refine pure_ (i := 2) (N := some 30) (v := ?_) (a' := ?_) #[false, true, true, false, false, false, false, false, false, false, false, false, false, false, false, false, false, false, false, false, false, false, false, false, false] rfl rfl (any_of HT_.out (by kernel_rfl)) (fun _ _ _ h => h) (Or.inl ⟨by rfl, ?_⟩) ?_ ?_
     rotate_left
     ·
      intro w'
      go_simp
      with_reducible rfl
     rotate_left
     ·
      simp only [Act.put, List.setIfInBounds_toArray, List.set_cons_zero, List.set_cons_succ, i64_w, i32_w]
      rfl
     refine pure_ (i := 3) (N := some 31) (v := ?_) (a' := ?_) #[false, true, true, true, false, false, false, false, false, false, false, false, false, false, false, false, false, false, false, false, false, false, false, false, false] rfl rfl (any_of HT_.out (by kernel_rfl)) (fun _ _ _ h => h) (Or.inl ⟨by rfl, ?_⟩) ?_ ?_
     rotate_left
     ·
      intro w'
      go_simp
      with_reducible rfl
     rotate_left
     ·
      simp only [Act.put, List.setIfInBounds_toArray, List.set_cons_zero, List.set_cons_succ, i64_w, i32_w]
      rfl
     refine pure_ (i := 7) (N := some 35) (v := ?_) (a' := ?_) #[false, true, true, true, false, false, false, true, false, false, false, false, false, false, false, false, false, false, false, false, false, false, false, false, false] rfl rfl (any_of HT_.out (by kernel_rfl)) (fun _ _ _ h => h) (Or.inl ⟨by rfl, ?_⟩) ?_ ?_
     rotate_left
     ·
      intro w'
      go_simp
      with_reducible rfl
     rotate_left
     ·
      simp only [Act.put, List.setIfInBounds_toArray, List.set_cons_zero, List.set_cons_succ, i64_w, i32_w]
      rfl
     refine pure_ (i := 8) (N := some 36) (v := ?_) (a' := ?_) #[false, true, true, true, false, false, false, true, true, false, false, false, false, false, false, false, false, false, false, false, false, false, false, false, false] rfl rfl (any_of HT_.out (by kernel_rfl)) (fun _ _ _ h => h) (Or.inl ⟨by rfl, ?_⟩) ?_ ?_
     rotate_left
     ·
      intro w'
      go_simp
      with_reducible rfl
     rotate_left
     ·
      simp only [Act.put, List.setIfInBounds_toArray, List.set_cons_zero, List.set_cons_succ, i64_w, i32_w]
      rfl
     refine take_ (i := 0) (N := some 28) (v := ?_) (a' := ?_) #[true, true, true, true, false, false, false, true, true, false, false, false, false, false, false, false, false, false, false, false, false, false, false, false, false] rfl rfl (take_ofW HT_.out HW_.out (by kernel_rfl)) (fun _ _ _ h => h) (Or.inl ⟨by rfl, ?_⟩) hHeld ?_ ?_
     rotate_left
     ·
      rintro w' ⟨s0, s1⟩
      go_simp
      with_reducible rfl
     rotate_left
     ·
      simp only [Act.put, List.setIfInBounds_toArray, List.set_cons_zero, List.set_cons_succ, i64_w, i32_w]
      rfl
     refine one_ (i := 4) (N := some 32) #[true, true, true, true, true, false, false, true, true, false, false, false, false, false, false, false, false, false, false, false, false, false, false, false, false] rfl rfl (one_of HT_.out (by kernel_rfl)) (by decide) (fun K hK => ?_)
     refine goes_ Try.func15 (by kernel_rfl) rfl #[.pointer (some ⟨g417, 0, none⟩), .int .i64 2000] (by rfl) rfl rfl (by (try simp only [List.map_toArray, List.map_cons, List.map_nil]); first | done | rfl | (simp only [List.length_drop, List.length_take]; rfl)) ?_
     with_reducible refine (payrollgen_Tape_Next.calls g417 t415 t432 2000 t433 t434 w _ ?side1 ?side2 A13.out).mono ?_
     (case side1 => repeat (first | (with_reducible first | exact HI417.out | apply IsS49.alloc | apply IsS49.drewN | apply IsS49.drew | apply IsS49.set_1 | refine IsS49.far ?_ NB417_414.out _ | refine IsS49.far ?_ NB417_425.out _) | exact HI417.out))
     (case side2 => repeat (first | (with_reducible first | exact HB.out | apply below_alloc | apply pw_below_drewN | apply below_drew1 | refine below_set ?_ (IsS49.ge HI417.out) | refine below_set ?_ GE414.out | refine below_set ?_ GE425.out) | exact HB.out))
     rintro e w77 ⟨rfl, hi, hb, hk⟩
     refine ⟨_, rfl, ?_⟩
     have n0_ := Aside0.mk (KeepBut.blk hk (g' := gb414) (o := .cells #[.int .i64 a1_0, .slice A1_1 l1_1.length c1_1] 27 (0, 0)) (by (with_reducible repeat (first | refine blk_drewN ?_ _ | refine blk_drew ?_ | refine blk_alloc ?_ _)); exact BK414.out) NB414_417.out (by simp))
     have n1_ := Aside0.mk (Kd.R_mono (Kd.R_keep (IsS49.apart (show IsS49 w _ g417 t415 t432 from by repeat (first | (with_reducible first | exact HI417.out | apply IsS49.alloc | apply IsS49.drewN | apply IsS49.drew | apply IsS49.set_1 | refine IsS49.far ?_ NB417_414.out _ | refine IsS49.far ?_ NB417_425.out _) | exact HI417.out)) (by (with_reducible repeat (first | apply Kd.R_alloc | apply Kd.R_drewN | apply Kd.R_drew)); exact HO423.out) (by decide)) hk (fun _ h => h.2)) (fun _ h => h.1))
     have n2_ := Aside0.mk (KeepBut.blk hk (g' := gb425) (o := .cells #[.int .i64 t420, .slice Ao70 t421.length co70] 27 (0, 0)) (by (with_reducible repeat (first | refine blk_drewN ?_ _ | refine blk_drew ?_ | refine blk_alloc ?_ _)); exact BK425.out) NB425_417.out (by simp))
     have n3_ := Aside0.mk (Kd.R_mono (Kd.R_keep (IsS49.apart (show IsS49 w _ g417 t415 t432 from by repeat (first | (with_reducible first | exact HI417.out | apply IsS49.alloc | apply IsS49.drewN | apply IsS49.drew | apply IsS49.set_1 | refine IsS49.far ?_ NB417_414.out _ | refine IsS49.far ?_ NB417_425.out _) | exact HI417.out)) (by (with_reducible repeat (first | apply Kd.R_alloc | apply Kd.R_drewN | apply Kd.R_drew)); exact HO430.out) (by decide)) hk (fun _ h => h.2)) (fun _ h => h.1))
     have n4_ := Aside0.mk (hb)
     have n5_ := Aside0.mk (hi)
     clear BK414
     clear HO423
     clear BK425
     clear HO430
     clear HB
     clear HI417
     have BK414 := n0_
     have HO423 := n1_
     have BK425 := n2_
     have HO430 := n3_
     have HB := n4_
     have HI417 := n5_
     clear n0_ n1_ n2_ n3_ n4_ n5_
     (try clear hb)
     (try clear hb2)
     (try clear hk)
     (try clear hi)
     refine hK.out _ _ ⟨(blk_cell BK425.out 0).trans rfl, (blk_cell BK425.out 1).trans rfl⟩ (fun hHeld => ?_)
     clear hK K
     refine norm_ (a' := ?_) ?_ ?_
     rotate_left
     ·
      show Act.put _ (some 32) _ = _
      simp only [Act.put, List.setIfInBounds_toArray, List.set_cons_zero, List.set_cons_succ, i64_w, i32_w]
      rfl
     refine pure_ (i := 5) (N := some 33) (v := ?_) (a' := ?_) #[true, true, true, true, true, true, false, true, true, false, false, false, false, false, false, false, false, false, false, false, false, false, false, false, false] rfl rfl (any_of HT_.out (by kernel_rfl)) (fun _ _ _ h => h) (Or.inl ⟨by rfl, ?_⟩) ?_ ?_
     rotate_left
     ·
      intro w'
      go_simp
      with_reducible rfl
     rotate_left
     ·
      simp only [Act.put, List.setIfInBounds_toArray, List.set_cons_zero, List.set_cons_succ, i64_w, i32_w]
      rfl
     refine pure_ (i := 6) (N := some 34) (v := ?_) (a' := ?_) #[true, true, true, true, true, true, true, true, true, false, false, false, false, false, false, false, false, false, false, false, false, false, false, false, false] rfl rfl (any_of HT_.out (by kernel_rfl)) (fun _ _ _ h => h) (Or.inl ⟨by rfl, ?_⟩) ?_ ?_
     rotate_left
     ·
      intro w'
      go_simp
      with_reducible rfl
     rotate_left
     ·
      simp only [Act.put, List.setIfInBounds_toArray, List.set_cons_zero, List.set_cons_succ, i64_w, i32_w]
      rfl
     refine one_ (i := 9) (N := some 37) #[true, true, true, true, true, true, true, true, true, true, false, false, false, false, false, false, false, false, false, false, false, false, false, false, false] rfl rfl (one_of HT_.out (by kernel_rfl)) (by decide) (fun K hK => ?_)
     refine goes_ Try.func15 (by kernel_rfl) rfl #[.pointer (some ⟨g417, 0, none⟩), .int .i64 5] (by rfl) rfl rfl (by (try simp only [List.map_toArray, List.map_cons, List.map_nil]); first | done | rfl | (simp only [List.length_drop, List.length_take]; rfl)) ?_
     with_reducible refine (payrollgen_Tape_Next.calls g417 t415 t434 5 t435 t436 w _ ?side1 ?side2 A14.out).mono ?_
     (case side1 => repeat (first | (with_reducible first | exact HI417.out | apply IsS49.alloc | apply IsS49.drewN | apply IsS49.drew | apply IsS49.set_1 | refine IsS49.far ?_ NB417_414.out _ | refine IsS49.far ?_ NB417_425.out _) | exact HI417.out))
     (case side2 => repeat (first | (with_reducible first | exact HB.out | apply below_alloc | apply pw_below_drewN | apply below_drew1 | refine below_set ?_ (IsS49.ge HI417.out) | refine below_set ?_ GE414.out | refine below_set ?_ GE425.out) | exact HB.out))
     rintro e w78 ⟨rfl, hi, hb, hk⟩
     refine ⟨_, rfl, ?_⟩
     have n0_ := Aside0.mk (KeepBut.blk hk (g' := gb414) (o := .cells #[.int .i64 a1_0, .slice A1_1 l1_1.length c1_1] 27 (0, 0)) (by (with_reducible repeat (first | refine blk_drewN ?_ _ | refine blk_drew ?_ | refine blk_alloc ?_ _)); exact BK414.out) NB414_417.out (by simp))
     have n1_ := Aside0.mk (Kd.R_mono (Kd.R_keep (IsS49.apart (show IsS49 w _ g417 t415 t434 from by repeat (first | (with_reducible first | exact HI417.out | apply IsS49.alloc | apply IsS49.drewN | apply IsS49.drew | apply IsS49.set_1 | refine IsS49.far ?_ NB417_414.out _ | refine IsS49.far ?_ NB417_425.out _) | exact HI417.out)) (by (with_reducible repeat (first | apply Kd.R_alloc | apply Kd.R_drewN | apply Kd.R_drew)); exact HO423.out) (by decide)) hk (fun _ h => h.2)) (fun _ h => h.1))
     have n2_ := Aside0.mk (KeepBut.blk hk (g' := gb425) (o := .cells #[.int .i64 t420, .slice Ao70 t421.length co70] 27 (0, 0)) (by (with_reducible repeat (first | refine blk_drewN ?_ _ | refine blk_drew ?_ | refine blk_alloc ?_ _)); exact BK425.out) NB425_417.out (by simp))
     have n3_ := Aside0.mk (Kd.R_mono (Kd.R_keep (IsS49.apart (show IsS49 w _ g417 t415 t434 from by repeat (first | (with_reducible first | exact HI417.out | apply IsS49.alloc | apply IsS49.drewN | apply IsS49.drew | apply IsS49.set_1 | refine IsS49.far ?_ NB417_414.out _ | refine IsS49.far ?_ NB417_425.out _) | exact HI417.out)) (by (with_reducible repeat (first | apply Kd.R_alloc | apply Kd.R_drewN | apply Kd.R_drew)); exact HO430.out) (by decide)) hk (fun _ h => h.2)) (fun _ h => h.1))
     have n4_ := Aside0.mk (hb)
     have n5_ := Aside0.mk (hi)
     clear BK414
     clear HO423
     clear BK425
     clear HO430
     clear HB
     clear HI417
     have BK414 := n0_
     have HO423 := n1_
     have BK425 := n2_
     have HO430 := n3_
     have HB := n4_
     have HI417 := n5_
     clear n0_ n1_ n2_ n3_ n4_ n5_
     (try clear hb)
     (try clear hb2)
     (try clear hk)
     (try clear hi)
     refine hK.out _ _ ⟨(blk_cell BK425.out 0).trans rfl, (blk_cell BK425.out 1).trans rfl⟩ (fun hHeld => ?_)
     clear hK K
     refine norm_ (a' := ?_) ?_ ?_
     rotate_left
     ·
      show Act.put _ (some 37) _ = _
      simp only [Act.put, List.setIfInBounds_toArray, List.set_cons_zero, List.set_cons_succ, i64_w, i32_w]
      rfl
     refine pure_ (i := 10) (N := some 38) (v := ?_) (a' := ?_) #[true, true, true, true, true, true, true, true, true, true, true, false, false, false, false, false, false, false, false, false, false, false, false, false, false] rfl rfl (any_of HT_.out (by kernel_rfl)) (fun _ _ _ h => h) (Or.inl ⟨by rfl, ?_⟩) ?_ ?_
     rotate_left
     ·
      intro w'
      go_simp
      with_reducible rfl
     rotate_left
     ·
      simp only [Act.put, List.setIfInBounds_toArray, List.set_cons_zero, List.set_cons_succ, i64_w, i32_w]
      rfl
     refine pure_ (i := 11) (N := some 39) (v := ?_) (a' := ?_) #[true, true, true, true, true, true, true, true, true, true, true, true, false, false, false, false, false, false, false, false, false, false, false, false, false] rfl rfl (any_of HT_.out (by kernel_rfl)) (fun _ _ _ h => h) (Or.inl ⟨by rfl, ?_⟩) ?_ ?_
     rotate_left
     ·
      intro w'
      go_simp
      with_reducible rfl
     rotate_left
     ·
      simp only [Act.put, List.setIfInBounds_toArray, List.set_cons_zero, List.set_cons_succ, i64_w, i32_w]
      rfl
     refine one_ (i := 12) (N := some 40) #[true, true, true, true, true, true, true, true, true, true, true, true, true, false, false, false, false, false, false, false, false, false, false, false, false] rfl rfl (one_of HT_.out (by kernel_rfl)) (by decide) (fun K hK => ?_)
     refine Kd.R_lit_step (Kd.int .i64) _ 3 ?hg (N := 40) ?hd (xs := ([wrap64 ((wrap64 (20454 + t435)) - 1), 0, 84006, 84005, 1] : List Int)) (inner := [.int .i64 (wrap64 ((wrap64 (20454 + t435)) - 1)), .int .i64 0, .int .i64 84006, .int .i64 84005, .int .i64 1]) (ok := fun _ => True) (okp := fun _ => True) ?hr ?hp (fun _ hk => hk) trivial (Below.refl _ _) (Nat.le_refl _) (by simp) ?_; (case hd => rfl); (case hg => rfl); (case hr => first | (go_simp; done) | (go_simp; rfl)); (case hp => exact (Reps.one (show Kd.M (Kd.int .i64) _ _ _ (wrap64 ((wrap64 (20454 + t435)) - 1)) [.int .i64 (wrap64 ((wrap64 (20454 + t435)) - 1))] from rfl) (Reps.one (show Kd.M (Kd.int .i64) _ _ _ 0 [.int .i64 0] from rfl) (Reps.one (show Kd.M (Kd.int .i64) _ _ _ 84006 [.int .i64 84006] from rfl) (Reps.one (show Kd.M (Kd.int .i64) _ _ _ 84005 [.int .i64 84005] from rfl) (Reps.one (show Kd.M (Kd.int .i64) _ _ _ 1 [.int .i64 1] from rfl) (Reps.none _ _)))))))
     intro v438 w79 ho80 hb hg_ hnew_
     clear hg_ hnew_
     (first | rw [← Ny437.out] at ho80 | (simp only [Int.reduceToNat] at ho80; rw [← Ny437.out] at ho80))
     have n0_ := Aside0.mk (Kd.R_below (by (with_reducible repeat (first | apply Kd.R_alloc | apply Kd.R_drewN | apply Kd.R_drew)); exact HO423.out) hb)
     have n1_ := Aside0.mk (Kd.R_elder' (by (with_reducible repeat (first | apply Kd.R_alloc | apply Kd.R_drewN | apply Kd.R_drew)); exact HO430.out) (Kd.R_base ho80) hb)
     have n2_ := Aside0.mk (Kd.R_lower (Kd.R_new' ho80 (Kd.R_lt (by (with_reducible repeat (first | apply Kd.R_alloc | apply Kd.R_drewN | apply Kd.R_drew)); exact HO430.out))) (below_size (by repeat (first | (with_reducible first | exact HB.out | apply below_alloc | apply pw_below_drewN | apply below_drew1 | refine below_set ?_ (IsS49.ge HI417.out) | refine below_set ?_ GE414.out | refine below_set ?_ GE425.out) | exact HB.out))))
     have n3_ := Aside0.mk (blk_below (g := gb414) (o := .cells #[.int .i64 a1_0, .slice A1_1 l1_1.length c1_1] 27 (0, 0)) (by (with_reducible repeat (first | refine blk_drewN ?_ _ | refine blk_drew ?_ | refine blk_alloc ?_ _)); exact BK414.out) hb)
     have n4_ := Aside0.mk (IsS49.below (by repeat (first | (with_reducible first | exact HI417.out | apply IsS49.alloc | apply IsS49.drewN | apply IsS49.drew | apply IsS49.set_1 | refine IsS49.far ?_ NB417_414.out _ | refine IsS49.far ?_ NB417_425.out _) | exact HI417.out)) hb)
     have n5_ := Aside0.mk (blk_below (g := gb425) (o := .cells #[.int .i64 t420, .slice Ao70 t421.length co70] 27 (0, 0)) (by (with_reducible repeat (first | refine blk_drewN ?_ _ | refine blk_drew ?_ | refine blk_alloc ?_ _)); exact BK425.out) hb)
     have n6_ := Aside0.mk (below_step (by repeat (first | (with_reducible first | exact HB.out | apply below_alloc | apply pw_below_drewN | apply below_drew1 | refine below_set ?_ (IsS49.ge HI417.out) | refine below_set ?_ GE414.out | refine below_set ?_ GE425.out) | exact HB.out)) hb)
     clear HO423
     clear HO430
     clear BK414
     clear HI417
     clear BK425
     clear HB
     have HO423 := n0_
     have HO430 := n1_
     have HO439 := n2_
     have BK414 := n3_
     have HI417 := n4_
     have BK425 := n5_
     have HB := n6_
     clear n0_ n1_ n2_ n3_ n4_ n5_ n6_
     clear hb ho80
     obtain ⟨Ao81, co81, eo81⟩ := Kd.R_slice HO439.out
     (first | subst eo81 | (injection eo81 with f1_ f2_ f3_; have f4_ := f1_.symm; have f5_ := f3_.symm; clear f1_ f2_ f3_; subst f4_; subst f5_))
     refine hK.out _ _ ⟨(blk_cell BK425.out 0).trans rfl, (blk_cell BK425.out 1).trans rfl⟩ (fun hHeld => ?_)
     clear hK K
     refine norm_ (a' := ?_) ?_ ?_
     rotate_left
     ·
      show Act.put _ (some 40) _ = _
      simp only [Act.put, List.setIfInBounds_toArray, List.set_cons_zero, List.set_cons_succ, i64_w, i32_w]
      rfl
     refine one_ (i := 13) (N := some 41) #[true, true, true, true, true, true, true, true, true, true, true, true, true, true, false, false, false, false, false, false, false, false, false, false, false] rfl rfl (one_of HT_.out (by kernel_rfl)) (by decide) (fun K hK => ?_)
     refine goes_ Try.func18 (by kernel_rfl) rfl #[.pointer (some ⟨g417, 0, none⟩), .slice Ao81 y437.length co81] (by rfl) rfl rfl (by (try simp only [List.map_toArray, List.map_cons, List.map_nil]); first | done | rfl | (simp only [List.length_drop, List.length_take]; rfl)) ?_
     with_reducible refine (payrollgen_Tape_Pick.calls g417 t415 t436 _ _ y437 t440 t441 w _ ?side1 ?side2 ?side3 ?side4 ?side5 A15.out).mono ?_
     (case side1 => repeat (first | (with_reducible first | exact HI417.out | apply IsS49.alloc | apply IsS49.drewN | apply IsS49.drew | apply IsS49.set_1 | refine IsS49.far ?_ NB417_414.out _ | refine IsS49.far ?_ NB417_425.out _) | exact HI417.out))
     (case side2 => repeat (first | (with_reducible first | exact HB.out | apply below_alloc | apply pw_below_drewN | apply below_drew1 | refine below_set ?_ (IsS49.ge HI417.out) | refine below_set ?_ GE414.out | refine below_set ?_ GE425.out) | exact HB.out))
     (case side3 => repeat (first | exact (Kd.R_reads' HO439.out).2.2 | (with_reducible refine Kd.C_alloc ?_ _) | (with_reducible refine Kd.C_drewN ?_ _) | (with_reducible refine Kd.C_drew ?_)))
     (case side4 => exact (Kd.R_reads' HO439.out).2.1)
     (case side5 => exact far_slice (IsS49.own_ne HI417.out HO439.out (by decide)))
     rintro e w82 ⟨rfl, hi, hb, hk⟩
     refine ⟨_, rfl, ?_⟩
     have n0_ := Aside0.mk (KeepBut.blk hk (g' := gb414) (o := .cells #[.int .i64 a1_0, .slice A1_1 l1_1.length c1_1] 27 (0, 0)) (by (with_reducible repeat (first | refine blk_drewN ?_ _ | refine blk_drew ?_ | refine blk_alloc ?_ _)); exact BK414.out) NB414_417.out (by simp))
     have n1_ := Aside0.mk (Kd.R_mono (Kd.R_keep (IsS49.apart (show IsS49 w _ g417 t415 t436 from by repeat (first | (with_reducible first | exact HI417.out | apply IsS49.alloc | apply IsS49.drewN | apply IsS49.drew | apply IsS49.set_1 | refine IsS49.far ?_ NB417_414.out _ | refine IsS49.far ?_ NB417_425.out _) | exact HI417.out)) (by (with_reducible repeat (first | apply Kd.R_alloc | apply Kd.R_drewN | apply Kd.R_drew)); exact HO423.out) (by decide)) hk (fun _ h => h.2)) (fun _ h => h.1))
     have n2_ := Aside0.mk (KeepBut.blk hk (g' := gb425) (o := .cells #[.int .i64 t420, .slice Ao70 t421.length co70] 27 (0, 0)) (by (with_reducible repeat (first | refine blk_drewN ?_ _ | refine blk_drew ?_ | refine blk_alloc ?_ _)); exact BK425.out) NB425_417.out (by simp))
     have n3_ := Aside0.mk (Kd.R_mono (Kd.R_keep (IsS49.apart (show IsS49 w _ g417 t415 t436 from by repeat (first | (with_reducible first | exact HI417.out | apply IsS49.alloc | apply IsS49.drewN | apply IsS49.drew | apply IsS49.set_1 | refine IsS49.far ?_ NB417_414.out _ | refine IsS49.far ?_ NB417_425.out _) | exact HI417.out)) (by (with_reducible repeat (first | apply Kd.R_alloc | apply Kd.R_drewN | apply Kd.R_drew)); exact HO430.out) (by decide)) hk (fun _ h => h.2)) (fun _ h => h.1))
     have n4_ := Aside0.mk (Kd.R_mono (Kd.R_keep (IsS49.apart (show IsS49 w _ g417 t415 t436 from by repeat (first | (with_reducible first | exact HI417.out | apply IsS49.alloc | apply IsS49.drewN | apply IsS49.drew | apply IsS49.set_1 | refine IsS49.far ?_ NB417_414.out _ | refine IsS49.far ?_ NB417_425.out _) | exact HI417.out)) (by (with_reducible repeat (first | apply Kd.R_alloc | apply Kd.R_drewN | apply Kd.R_drew)); exact HO439.out) (by decide)) hk (fun _ h => h.2)) (fun _ h => h.1))
     have n5_ := Aside0.mk (hb)
     have n6_ := Aside0.mk (hi)
     clear BK414
     clear HO423
     clear BK425
     clear HO430
     clear HO439
     clear HB
     clear HI417
     have BK414 := n0_
     have HO423 := n1_
     have BK425 := n2_
     have HO430 := n3_
     have HO439 := n4_
     have HB := n5_
     have HI417 := n6_
     clear n0_ n1_ n2_ n3_ n4_ n5_ n6_
     (try clear hb)
     (try clear hb2)
     (try clear hk)
     (try clear hi)
     refine hK.out _ _ ⟨(blk_cell BK425.out 0).trans rfl, (blk_cell BK425.out 1).trans rfl⟩ (fun hHeld => ?_)
     clear hK K
     refine norm_ (a' := ?_) ?_ ?_
     rotate_left
     ·
      show Act.put _ (some 41) _ = _
      simp only [Act.put, List.setIfInBounds_toArray, List.set_cons_zero, List.set_cons_succ, i64_w, i32_w]
      rfl
     refine one_ (i := 14) (N := some 42) #[true, true, true, true, true, true, true, true, true, true, true, true, true, true, true, false, false, false, false, false, false, false, false, false, false] rfl rfl (one_of HT_.out (by kernel_rfl)) (by decide) (fun K hK => ?_)
     refine goes_ Try.func21 (by kernel_rfl) rfl #[.agg #[.int .i64 t420, .slice Ao70 t421.length co70], .int .i64 t431, .int .i64 (wrap64 ((wrap64 (t431 + t433)) - 1000)), .int .i64 t440] (by rfl) rfl rfl (by (try simp only [List.map_toArray, List.map_cons, List.map_nil]); first | done | rfl | (simp only [List.length_drop, List.length_take]; rfl)) ?_
     with_reducible refine (payrolllaw4_reads.calls k1 t420 _ _ t421 t431 (wrap64 ((wrap64 (t431 + t433)) - 1000)) t440 false _ ?side1 ?side2 A16.out).mono ?_
     (case side1 => repeat (first | exact (Kd.R_reads' HO423.out).2.2 | (with_reducible refine Kd.C_alloc ?_ _) | (with_reducible refine Kd.C_drewN ?_ _) | (with_reducible refine Kd.C_drew ?_)))
     (case side2 => exact (Kd.R_reads' HO423.out).2.1)
     rintro e w83 ⟨rfl, hb⟩
     refine ⟨_, rfl, ?_⟩
     have n0_ := Aside0.mk (Kd.R_below (by (with_reducible repeat (first | apply Kd.R_alloc | apply Kd.R_drewN | apply Kd.R_drew)); exact HO423.out) hb)
     have n1_ := Aside0.mk (Kd.R_below (by (with_reducible repeat (first | apply Kd.R_alloc | apply Kd.R_drewN | apply Kd.R_drew)); exact HO430.out) hb)
     have n2_ := Aside0.mk (Kd.R_below (by (with_reducible repeat (first | apply Kd.R_alloc | apply Kd.R_drewN | apply Kd.R_drew)); exact HO439.out) hb)
     have n3_ := Aside0.mk (blk_below (g := gb414) (o := .cells #[.int .i64 a1_0, .slice A1_1 l1_1.length c1_1] 27 (0, 0)) (by (with_reducible repeat (first | refine blk_drewN ?_ _ | refine blk_drew ?_ | refine blk_alloc ?_ _)); exact BK414.out) hb)
     have n4_ := Aside0.mk (IsS49.below (by repeat (first | (with_reducible first | exact HI417.out | apply IsS49.alloc | apply IsS49.drewN | apply IsS49.drew | apply IsS49.set_1 | refine IsS49.far ?_ NB417_414.out _ | refine IsS49.far ?_ NB417_425.out _) | exact HI417.out)) hb)
     have n5_ := Aside0.mk (blk_below (g := gb425) (o := .cells #[.int .i64 t420, .slice Ao70 t421.length co70] 27 (0, 0)) (by (with_reducible repeat (first | refine blk_drewN ?_ _ | refine blk_drew ?_ | refine blk_alloc ?_ _)); exact BK425.out) hb)
     have n6_ := Aside0.mk (below_step (by repeat (first | (with_reducible first | exact HB.out | apply below_alloc | apply pw_below_drewN | apply below_drew1 | refine below_set ?_ (IsS49.ge HI417.out) | refine below_set ?_ GE414.out | refine below_set ?_ GE425.out) | exact HB.out)) hb)
     clear HO423
     clear HO430
     clear HO439
     clear BK414
     clear HI417
     clear BK425
     clear HB
     have HO423 := n0_
     have HO430 := n1_
     have HO439 := n2_
     have BK414 := n3_
     have HI417 := n4_
     have BK425 := n5_
     have HB := n6_
     clear n0_ n1_ n2_ n3_ n4_ n5_ n6_
     (try clear hb)
     (try clear hb2)
     (try clear hk)
     (try clear hi)
     refine hK.out _ _ ⟨(blk_cell BK425.out 0).trans rfl, (blk_cell BK425.out 1).trans rfl⟩ (fun hHeld => ?_)
     clear hK K
     refine norm_ (a' := ?_) ?_ ?_
     rotate_left
     ·
      show Act.put _ (some 42) _ = _
      simp only [Act.put, List.setIfInBounds_toArray, List.set_cons_zero, List.set_cons_succ, i64_w, i32_w]
      rfl
     refine pure_ (i := 15) (N := some 43) (v := ?_) (a' := ?_) #[true, true, true, true, true, true, true, true, true, true, true, true, true, true, true, true, false, false, false, false, false, false, false, false, false] rfl rfl (any_of HT_.out (by kernel_rfl)) (fun _ _ _ h => h) (Or.inl ⟨by rfl, ?_⟩) ?_ ?_
     rotate_left
     ·
      intro w'
      go_simp
      with_reducible rfl
     rotate_left
     ·
      simp only [Act.put, List.setIfInBounds_toArray, List.set_cons_zero, List.set_cons_succ, i64_w, i32_w]
      rfl
     refine pure_ (i := 16) (N := some 44) (v := ?_) (a' := ?_) #[true, true, true, true, true, true, true, true, true, true, true, true, true, true, true, true, true, false, false, false, false, false, false, false, false] rfl rfl (any_of HT_.out (by kernel_rfl)) (fun _ _ _ h => h) (Or.inl ⟨by rfl, ?_⟩) ?_ ?_
     rotate_left
     ·
      intro w'
      go_simp
      with_reducible rfl
     rotate_left
     ·
      simp only [Act.put, List.setIfInBounds_toArray, List.set_cons_zero, List.set_cons_succ, i64_w, i32_w]
      rfl
     refine pure_ (i := 17) (N := some 45) (v := undef) (a' := ?_) #[true, true, true, true, true, true, true, true, true, true, true, true, true, true, true, true, true, true, false, false, false, false, false, false, false] rfl rfl (any_of HT_.out (by kernel_rfl)) (fun _ _ _ h => h) (Or.inr ⟨by rfl, rfl⟩) ?_ ?_
     rotate_left
     ·
      simp only [Act.put, List.setIfInBounds_toArray, List.set_cons_zero, List.set_cons_succ, i64_w, i32_w]
      rfl
     refine pure_ (i := 18) (N := some 46) (v := undef) (a' := ?_) #[true, true, true, true, true, true, true, true, true, true, true, true, true, true, true, true, true, true, true, false, false, false, false, false, false] rfl rfl (any_of HT_.out (by kernel_rfl)) (fun _ _ _ h => h) (Or.inr ⟨by rfl, rfl⟩) ?_ ?_
     rotate_left
     ·
      simp only [Act.put, List.setIfInBounds_toArray, List.set_cons_zero, List.set_cons_succ, i64_w, i32_w]
      rfl
     refine pure_ (i := 19) (N := some 47) (v := undef) (a' := ?_) #[true, true, true, true, true, true, true, true, true, true, true, true, true, true, true, true, true, true, true, true, false, false, false, false, false] rfl rfl (any_of HT_.out (by kernel_rfl)) (fun _ _ _ h => h) (Or.inr ⟨by rfl, rfl⟩) ?_ ?_
     rotate_left
     ·
      simp only [Act.put, List.setIfInBounds_toArray, List.set_cons_zero, List.set_cons_succ, i64_w, i32_w]
      rfl
     refine pure_ (i := 20) (N := some 48) (v := undef) (a' := ?_) #[true, true, true, true, true, true, true, true, true, true, true, true, true, true, true, true, true, true, true, true, true, false, false, false, false] rfl rfl (any_of HT_.out (by kernel_rfl)) (fun _ _ _ h => h) (Or.inr ⟨by rfl, rfl⟩) ?_ ?_
     rotate_left
     ·
      simp only [Act.put, List.setIfInBounds_toArray, List.set_cons_zero, List.set_cons_succ, i64_w, i32_w]
      rfl
     refine pure_ (i := 21) (N := some 49) (v := undef) (a' := ?_) #[true, true, true, true, true, true, true, true, true, true, true, true, true, true, true, true, true, true, true, true, true, true, false, false, false] rfl rfl (any_of HT_.out (by kernel_rfl)) (fun _ _ _ h => h) (Or.inr ⟨by rfl, rfl⟩) ?_ ?_
     rotate_left
     ·
      simp only [Act.put, List.setIfInBounds_toArray, List.set_cons_zero, List.set_cons_succ, i64_w, i32_w]
      rfl
     refine pure_ (i := 22) (N := some 50) (v := undef) (a' := ?_) #[true, true, true, true, true, true, true, true, true, true, true, true, true, true, true, true, true, true, true, true, true, true, true, false, false] rfl rfl (any_of HT_.out (by kernel_rfl)) (fun _ _ _ h => h) (Or.inr ⟨by rfl, rfl⟩) ?_ ?_
     rotate_left
     ·
      simp only [Act.put, List.setIfInBounds_toArray, List.set_cons_zero, List.set_cons_succ, i64_w, i32_w]
      rfl
     refine pure_ (i := 23) (N := some 51) (v := undef) (a' := ?_) #[true, true, true, true, true, true, true, true, true, true, true, true, true, true, true, true, true, true, true, true, true, true, true, true, false] rfl rfl (any_of HT_.out (by kernel_rfl)) (fun _ _ _ h => h) (Or.inr ⟨by rfl, rfl⟩) ?_ ?_
     rotate_left
     ·
      simp only [Act.put, List.setIfInBounds_toArray, List.set_cons_zero, List.set_cons_succ, i64_w, i32_w]
      rfl
     refine pure_ (i := 24) (N := some 52) (v := ?_) (a' := ?_) #[true, true, true, true, true, true, true, true, true, true, true, true, true, true, true, true, true, true, true, true, true, true, true, true, true] rfl rfl (any_of HT_.out (by kernel_rfl)) (fun _ _ _ h => h) (Or.inl ⟨by rfl, ?_⟩) ?_ ?_
     rotate_left
     ·
      intro w'
      go_simp
      with_reducible rfl
     rotate_left
     ·
      simp only [Act.put, List.setIfInBounds_toArray, List.set_cons_zero, List.set_cons_succ, i64_w, i32_w]
      rfl
     refine done_ (done_of HT_.out (by kernel_rfl)) ?_
     try go_wp2
     go_ret
     exact ⟨by first | rfl | (simp [errW_none, errW_some] <;> rfl) | (simp [*, errW_none, errW_some] <;> rfl), by repeat (first | (with_reducible first | exact HB.out | apply below_alloc | apply pw_below_drewN | apply below_drew1 | refine below_set ?_ (IsS49.ge HI417.out) | refine below_set ?_ GE414.out | refine below_set ?_ GE425.out) | exact HB.out)⟩
   ·
    rw [if_neg c9] at H
    have c9b0 : decide (x12_1 < 4) = false := decide_eq_false c9
    clear c9
    by_cases c84 : (l1_1.length : Int) > 70
    ·
     rw [if_pos c84] at H
     have c84b0 : decide (70 < (l1_1.length : Int)) = true := decide_eq_true c84
     have c84b1 : decide (70 < l1_1.length) = true := decide_eq_true (by omega)
     clear c84
     obtain rfl := Option.some.inj H
     have hnb85 := NB414_417.out
     have hnc85 := NB417_414.out
     have hcz86_0 : wr.cell? ⟨gb414, 0, none⟩ = some (.int .i64 a1_0) := (blk_cell BK414.out 0).trans rfl
     have hcz86_1 : wr.cell? ⟨gb414, 1, none⟩ = some (.slice A1_1 l1_1.length c1_1) := (blk_cell BK414.out 1).trans rfl
     have hfz86_0 := blk_frozen BK414.out 0
     have hfz86_1 := blk_frozen BK414.out 1
     go_wp2
     go_ret
     exact ⟨by first | rfl | (simp [errW_none, errW_some] <;> rfl) | (simp [*, errW_none, errW_some] <;> rfl), by repeat (first | (with_reducible first | exact HB.out | apply below_alloc | apply pw_below_drewN | apply below_drew1 | refine below_set ?_ (IsS49.ge HI417.out) | refine below_set ?_ GE414.out) | exact HB.out)⟩
    ·
     rw [if_neg c84] at H
     have c84b0 : decide (70 < (l1_1.length : Int)) = false := decide_eq_false c84
     have c84b1 : decide (70 < l1_1.length) = false := decide_eq_false (by omega)
     clear c84
     replace H := Option.bind_eq_some_iff.mp H
     obtain ⟨t418, A870, H⟩ := H
     replace H : (if t418 = true then ((payrolllaw4_sane.f k1).bind fun t419 => (some t419)) else (some false)) = some r := H
     have A87 := Aside0.mk A870
     clear A870
     by_cases c88 : t418 = true
     ·
      subst c88
      have H1 : ((payrolllaw4_sane.f k1).bind fun t419 => (some t419)) = some r := by rw [if_pos rfl] at H; exact H
      clear H
      have H := H1
      clear H1
      replace H := Option.bind_eq_some_iff.mp H
      obtain ⟨t419, A890, H⟩ := H
      replace H : (some t419) = some r := H
      have A89 := Aside0.mk A890
      clear A890
      obtain rfl := Option.some.inj H
      have hnb90 := NB414_417.out
      have hnc90 := NB417_414.out
      have hcz91_0 : wr.cell? ⟨gb414, 0, none⟩ = some (.int .i64 a1_0) := (blk_cell BK414.out 0).trans rfl
      have hcz91_1 : wr.cell? ⟨gb414, 1, none⟩ = some (.slice A1_1 l1_1.length c1_1) := (blk_cell BK414.out 1).trans rfl
      have hfz91_0 := blk_frozen BK414.out 0
      have hfz91_1 := blk_frozen BK414.out 1
      go_wp2_with (first | (go_at_call 21; (with_reducible refine (payrolllaw4_reads.calls k1 a1_0 _ _ l1_1 a2 a3 a4 true _ ?side1 ?side2 A87.out).mono ?_); (case side1 => repeat (first | exact (Kd.C_below HR1_1.out HB.out) | (with_reducible refine Kd.C_alloc ?_ _) | (with_reducible refine Kd.C_drewN ?_ _) | (with_reducible refine Kd.C_drew ?_))); (case side2 => exact HC1_1.out); rintro e w92 ⟨rfl, hb⟩; have n0_ := Aside0.mk (blk_below (g := gb414) (o := .cells #[.int .i64 a1_0, .slice A1_1 l1_1.length c1_1] 27 (0, 0)) (by (with_reducible repeat (first | refine blk_drewN ?_ _ | refine blk_drew ?_ | refine blk_alloc ?_ _)); exact BK414.out) hb); have n1_ := Aside0.mk (IsS49.below (by repeat (first | (with_reducible first | exact HI417.out | apply IsS49.alloc | apply IsS49.drewN | apply IsS49.drew | apply IsS49.set_1 | refine IsS49.far ?_ NB417_414.out _) | exact HI417.out)) hb); have n2_ := Aside0.mk (below_step (by repeat (first | (with_reducible first | exact HB.out | apply below_alloc | apply pw_below_drewN | apply below_drew1 | refine below_set ?_ (IsS49.ge HI417.out) | refine below_set ?_ GE414.out) | exact HB.out)) hb); clear BK414; clear HI417; clear HB; have BK414 := n0_; have HI417 := n1_; have HB := n2_; clear n0_ n1_ n2_; (try clear hb); (try clear hb2); (try clear hk); (try clear hi)) | (go_at_call 14; (with_reducible refine (payrolllaw4_sane.calls k1  t419 _ A89.out).mono ?_); rintro e w93 ⟨rfl, hb⟩; have n0_ := Aside0.mk (blk_below (g := gb414) (o := .cells #[.int .i64 a1_0, .slice A1_1 l1_1.length c1_1] 27 (0, 0)) (by (with_reducible repeat (first | refine blk_drewN ?_ _ | refine blk_drew ?_ | refine blk_alloc ?_ _)); exact BK414.out) hb); have n1_ := Aside0.mk (IsS49.below (by repeat (first | (with_reducible first | exact HI417.out | apply IsS49.alloc | apply IsS49.drewN | apply IsS49.drew | apply IsS49.set_1 | refine IsS49.far ?_ NB417_414.out _) | exact HI417.out)) hb); have n2_ := Aside0.mk (below_step (by repeat (first | (with_reducible first | exact HB.out | apply below_alloc | apply pw_below_drewN | apply below_drew1 | refine below_set ?_ (IsS49.ge HI417.out) | refine below_set ?_ GE414.out) | exact HB.out)) hb); clear BK414; clear HI417; clear HB; have BK414 := n0_; have HI417 := n1_; have HB := n2_; clear n0_ n1_ n2_; (try clear hb); (try clear hb2); (try clear hk); (try clear hi)))
      go_ret
      exact ⟨by first | rfl | (simp [errW_none, errW_some] <;> rfl) | (simp [*, errW_none, errW_some] <;> rfl), by repeat (first | (with_reducible first | exact HB.out | apply below_alloc | apply pw_below_drewN | apply below_drew1 | refine below_set ?_ (IsS49.ge HI417.out) | refine below_set ?_ GE414.out) | exact HB.out)⟩
     ·
      replace c88 := Bool.eq_false_iff.mpr c88
      subst c88
      have H1 : (some false) = some r := by rw [if_neg (show ¬ (false = true) by decide)] at H; exact H
      clear H
      have H := H1
      clear H1
      obtain rfl := Option.some.inj H
      have hnb94 := NB414_417.out
      have hnc94 := NB417_414.out
      have hcz95_0 : wr.cell? ⟨gb414, 0, none⟩ = some (.int .i64 a1_0) := (blk_cell BK414.out 0).trans rfl
      have hcz95_1 : wr.cell? ⟨gb414, 1, none⟩ = some (.slice A1_1 l1_1.length c1_1) := (blk_cell BK414.out 1).trans rfl
      have hfz95_0 := blk_frozen BK414.out 0
      have hfz95_1 := blk_frozen BK414.out 1
      go_wp2_with (first | (go_at_call 21; (with_reducible refine (payrolllaw4_reads.calls k1 a1_0 _ _ l1_1 a2 a3 a4 false _ ?side1 ?side2 A87.out).mono ?_); (case side1 => repeat (first | exact (Kd.C_below HR1_1.out HB.out) | (with_reducible refine Kd.C_alloc ?_ _) | (with_reducible refine Kd.C_drewN ?_ _) | (with_reducible refine Kd.C_drew ?_))); (case side2 => exact HC1_1.out); rintro e w96 ⟨rfl, hb⟩; have n0_ := Aside0.mk (blk_below (g := gb414) (o := .cells #[.int .i64 a1_0, .slice A1_1 l1_1.length c1_1] 27 (0, 0)) (by (with_reducible repeat (first | refine blk_drewN ?_ _ | refine blk_drew ?_ | refine blk_alloc ?_ _)); exact BK414.out) hb); have n1_ := Aside0.mk (IsS49.below (by repeat (first | (with_reducible first | exact HI417.out | apply IsS49.alloc | apply IsS49.drewN | apply IsS49.drew | apply IsS49.set_1 | refine IsS49.far ?_ NB417_414.out _) | exact HI417.out)) hb); have n2_ := Aside0.mk (below_step (by repeat (first | (with_reducible first | exact HB.out | apply below_alloc | apply pw_below_drewN | apply below_drew1 | refine below_set ?_ (IsS49.ge HI417.out) | refine below_set ?_ GE414.out) | exact HB.out)) hb); clear BK414; clear HI417; clear HB; have BK414 := n0_; have HI417 := n1_; have HB := n2_; clear n0_ n1_ n2_; (try clear hb); (try clear hb2); (try clear hk); (try clear hi)))
      go_ret
      exact ⟨by first | rfl | (simp [errW_none, errW_some] <;> rfl) | (simp [*, errW_none, errW_some] <;> rfl), by repeat (first | (with_reducible first | exact HB.out | apply below_alloc | apply pw_below_drewN | apply below_drew1 | refine below_set ?_ (IsS49.ge HI417.out) | refine below_set ?_ GE414.out) | exact HB.out)⟩

end Go.Proofs.Ytjfdhlagnimkmaa.P
