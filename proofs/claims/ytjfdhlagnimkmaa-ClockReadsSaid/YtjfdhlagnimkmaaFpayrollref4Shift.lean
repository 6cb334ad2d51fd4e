/- Proved here: that the Go function payrollref4_Shift computes the plain function of that name (the machine side of the laws, reworked from a print; no condition of its own). -/
import Derived.Test.YtjfdhlagnimkmaaProg
import Derived.Test.YtjfdhlagnimkmaaV1
import Derived.Test.YtjfdhlagnimkmaaFPRE0
import Derived.Test.YtjfdhlagnimkmaaFPRE1
namespace Go.Proofs.Ytjfdhlagnimkmaa.P
open Go.RowKit Go.Proofs.YtjfdhlagnimkmaaW.PrintWords Go.Proofs.YtjfdhlagnimkmaaW.PrintLast Go.Proofs.YtjfdhlagnimkmaaW.PrintMore
attribute [local go_sem] max2_int min2_int max_two min_two max_three min_three max_four min_four   -- for this text's walks alone
set_option linter.unusedVariables false
set_option linter.unusedSimpArgs false

def payrollref4_Shift.l0 : Nat → Int → Int → Int → List (S42) → Option (Int)
 | 0, _, _, _, _ => none
 | k + 1, x1, x5, x306000, x306001 => if x5 ≥ 0 then (if 0 ≤ x5 then (if x5 < (x306001.length : Int) then (if ((rd_T42 x306001 x5).f0) ≤ x1 then (some ((rd_T42 x306001 x5).f1)) else (payrollref4_Shift.l0 k x1 (wrap64 (x5 - 1)) x306000 x306001)) else (none)) else (none)) else (some x306000)
def payrollref4_Shift.f (k : Nat) (a0_0 : Int) (l0_1 : List (S42)) (a1 : Int) : Option (Int) := payrollref4_Shift.l0 k a1 (wrap64 ((l0_1.length : Int) - 1)) a0_0 l0_1
theorem payrollref4_Shift.mono_l : ∀ k, (∀ y0 y1 y2 y3, LeO (payrollref4_Shift.l0 k y0 y1 y2 y3) (payrollref4_Shift.l0 (k + 1) y0 y1 y2 y3))
 | 0 => fun _ _ _ _ r h => by simp [payrollref4_Shift.l0] at h
 | k + 1 => by
  have ih0 := payrollref4_Shift.mono_l k
  ·
   intro y0 y1 y2 y3
   unfold payrollref4_Shift.l0
   repeat' first
   | (with_reducible exact ih0 _ _ _ _)
   | (with_reducible exact LeO.refl _)
   | (with_reducible exact LeO.none _)
   | (with_reducible refine LeO.ite ?_ ?_)
   | (with_reducible refine LeO.bind ?_ (fun _ => ?_))
   | exact ih0 _ _ _ _
   | exact LeO.none _
   | refine LeO.ite ?_ ?_
   | refine LeO.bind ?_ (fun _ => ?_)
theorem payrollref4_Shift.mono : ∀ a0 a1 a2 k, LeO (payrollref4_Shift.f k a0 a1 a2) (payrollref4_Shift.f (k + 1) a0 a1 a2) := by
 intro a0 a1 a2 k
 have ih0 := payrollref4_Shift.mono_l k
 unfold payrollref4_Shift.f
 repeat' first
   | (with_reducible exact ih0 _ _ _ _)
   | (with_reducible exact LeO.refl _)
   | (with_reducible exact LeO.none _)
   | (with_reducible refine LeO.ite ?_ ?_)
   | (with_reducible refine LeO.bind ?_ (fun _ => ?_))
   | exact ih0 _ _ _ _
   | exact LeO.none _
   | refine LeO.ite ?_ ?_
   | refine LeO.bind ?_ (fun _ => ?_)
set_option maxHeartbeats 8000000 in
set_option maxRecDepth 100000 in
theorem payrollref4_Shift.calls (k : Nat) (a0_0 : Int) (A0_1 : Option Addr) (c0_1 : Nat) (l0_1 : List (S42)) (a1 : Int) (r : Int) (w : World) (hr0_1 : Kd.C k42 w A0_1 l0_1.length l0_1) (hc0_1 : l0_1.length ≤ c0_1) (h : payrollref4_Shift.f k a0_0 l0_1 a1 = some r) :
  Calls Try.prog 35 #[.agg #[.int .i64 a0_0, .slice A0_1 l0_1.length c0_1], .int .i64 a1] w fun e w' => e = .returned (.int .i64 r) ∧ Below w.heap.size w w' := by
 have hu27 := Try.underlying27
 have HR0_1 := Aside0.mk hr0_1
 have HC0_1 := Aside0.mk hc0_1
 clear hr0_1 hc0_1
 have HB := Aside0.mk (Below.refl w.heap.size w)
 have H : (payrollref4_Shift.l0 k a1 (wrap64 ((l0_1.length : Int) - 1)) a0_0 l0_1) = some r := h
 clear h
 have H' := Aside0.mk H
 clear H
 go_enter Try.func35, Try.ntmps35
 go_wp2_with (first | ((with_reducible refine gate_dst (N := 2) rfl ?_); refine box_event ?hg (N := 2) ?hd (cs := #[.int .i64 a0_0, .slice A0_1 l0_1.length c0_1]) (t := 27) ?hr ?_; (case hd => rfl); (case hg => rfl); (case hr => first | (go_simp; done) | (go_simp; rfl)); intro gb305 hg w3 hbox hb; have n0_ := Aside0.mk (below_step (by repeat (first | (with_reducible first | exact HB.out | apply below_alloc | apply pw_below_drewN | apply below_drew1) | exact HB.out)) hb); have n1_ := Aside0.mk (hbox); have n2_ := Aside0.mk ((by rw [hg]; exact (below_size (by repeat (first | (with_reducible first | exact HB.out | apply below_alloc | apply pw_below_drewN | apply below_drew1) | exact HB.out))) : w.heap.size ≤ gb305)); have n3_ := Aside0.mk ((by rw [hg]; exact (below_size (by repeat (first | (with_reducible first | exact HB.out | apply below_alloc | apply pw_below_drewN | apply below_drew1) | exact HB.out))) : w.heap.size ≤ gb305)); clear HB; have HB := n0_; have BK305 := n1_; have GW305 := n2_; have GE305 := n3_; clear n0_ n1_ n2_ n3_; clear hb hbox hg; have hcz4_0 : w3.cell? ⟨gb305, 0, none⟩ = some (.int .i64 a0_0) := (blk_cell BK305.out 0).trans rfl; have hcz4_1 : w3.cell? ⟨gb305, 1, none⟩ = some (.slice A0_1 l0_1.length c0_1) := (blk_cell BK305.out 1).trans rfl; have hfz4_0 := blk_frozen BK305.out 0; have hfz4_1 := blk_frozen BK305.out 1))
 go_loopg [5] k (fun kq v5 w' => ∃ (x5_1 : Int), v5 = .int .i64 x5_1 ∧ Aside0 (payrollref4_Shift.l0 kq a1 x5_1 a0_0 l0_1 = some r) ∧ Aside0 (kq ≤ k) ∧ Aside0 (w'.heap[gb305]? = some (.cells #[.int .i64 a0_0, (.slice A0_1 l0_1.length c0_1)] 27 (0, 0))) ∧ Aside0 (Below w.heap.size w w'))
 case atStart => exact ⟨(wrap64 ((l0_1.length : Int) - 1)), (by first | rfl | (simp; done) | (simp [*]; done)), H', ⟨Nat.le_refl _⟩, ⟨by (with_reducible repeat (first | refine blk_drewN ?_ _ | refine blk_drew ?_ | refine blk_alloc ?_ _)); exact BK305.out⟩, ⟨by repeat (first | (with_reducible first | exact HB.out | apply below_alloc | apply pw_below_drewN | apply below_drew1 | refine below_set ?_ GE305.out) | exact HB.out)⟩⟩
 case round =>
  clear H'
  try clear p2
  try clear c3
  try clear hcz4_0
  try clear hcz4_1
  try clear hfz4_0
  try clear hfz4_1
  obtain ⟨x5_1, rfl, HA, HK1, BK305, HB⟩ := hrel
  cases gk with
  | zero => exact absurd HA.out (by simp [payrollref4_Shift.l0])
  | succ k1 =>
   have H := HA.out
   clear HA
   simp only [payrollref4_Shift.l0] at H
   by_cases c5 : x5_1 ≥ 0
   ·
    rw [if_pos c5] at H
    have c5b0 : decide (0 ≤ x5_1) = true := decide_eq_true c5
    clear c5
    by_cases c6 : 0 ≤ x5_1
    ·
     rw [if_pos c6] at H
     have c6b0 : decide (0 ≤ x5_1) = true := decide_eq_true c6
     clear c6
     by_cases c7 : x5_1 < (l0_1.length : Int)
     ·
      rw [if_pos c7] at H
      have c7b0 : decide (x5_1 < (l0_1.length : Int)) = true := decide_eq_true c7
      clear c7
      by_cases c8 : ((rd_T42 l0_1 x5_1).f0) ≤ a1
      ·
       rw [if_pos c8] at H
       have c8b0 : decide (((rd_T42 l0_1 x5_1).f0) ≤ a1) = true := decide_eq_true c8
       clear c8
       obtain rfl := Option.some.inj H
       have hcz9_0 : wr.cell? ⟨gb305, 0, none⟩ = some (.int .i64 a0_0) := (blk_cell BK305.out 0).trans rfl
       have hcz9_1 : wr.cell? ⟨gb305, 1, none⟩ = some (.slice A0_1 l0_1.length c0_1) := (blk_cell BK305.out 1).trans rfl
       have hfz9_0 := blk_frozen BK305.out 0
       have hfz9_1 := blk_frozen BK305.out 1
       have p306 : 0 ≤ (x5_1 : Int) := of_decide_eq_true (by first | (with_reducible assumption) | assumption)
       have q306 : x5_1 < (l0_1.length : Int) := of_decide_eq_true (by first | (with_reducible assumption) | assumption)
       obtain ⟨ad306, e306, hx306_0, hx306_1⟩ := at_T42 HR0_1.out x5_1 p306 q306
       cases e306
       replace hx306_0 := (HB.out.cell (World.block_lt_of_cell? w _ hx306_0)).trans hx306_0
       replace hx306_1 := (HB.out.cell (World.block_lt_of_cell? w _ hx306_1)).trans hx306_1
       replace p306 := eq_true p306
       replace q306 := eq_true q306
       have p307 : 0 ≤ (x5_1 : Int) := of_decide_eq_true (by first | (with_reducible assumption) | assumption)
       have q307 : x5_1 < (l0_1.length : Int) := of_decide_eq_true (by first | (with_reducible assumption) | assumption)
       obtain ⟨ad307, e307, hx307_0, hx307_1⟩ := at_T42 HR0_1.out x5_1 p307 q307
       obtain rfl : ad306 = ad307 := (by injection e307)
       replace hx307_0 := (HB.out.cell (World.block_lt_of_cell? w _ hx307_0)).trans hx307_0
       replace hx307_1 := (HB.out.cell (World.block_lt_of_cell? w _ hx307_1)).trans hx307_1
       replace p307 := eq_true p307
       replace q307 := eq_true q307
       go_wp2
       go_ret
       exact ⟨by first | rfl | (simp [errW_none, errW_some] <;> rfl) | (simp [*, errW_none, errW_some] <;> rfl), by repeat (first | (with_reducible first | exact HB.out | apply below_alloc | apply pw_below_drewN | apply below_drew1 | refine below_set ?_ GE305.out) | exact HB.out)⟩
      ·
       rw [if_neg c8] at H
       have c8b0 : decide (((rd_T42 l0_1 x5_1).f0) ≤ a1) = false := decide_eq_false c8
       clear c8
       have H' := Aside0.mk H
       clear H
       have hcz10_0 : wr.cell? ⟨gb305, 0, none⟩ = some (.int .i64 a0_0) := (blk_cell BK305.out 0).trans rfl
       have hcz10_1 : wr.cell? ⟨gb305, 1, none⟩ = some (.slice A0_1 l0_1.length c0_1) := (blk_cell BK305.out 1).trans rfl
       have hfz10_0 := blk_frozen BK305.out 0
       have hfz10_1 := blk_frozen BK305.out 1
       have p306 : 0 ≤ (x5_1 : Int) := of_decide_eq_true (by first | (with_reducible assumption) | assumption)
       have q306 : x5_1 < (l0_1.length : Int) := of_decide_eq_true (by first | (with_reducible assumption) | assumption)
       obtain ⟨ad306, e306, hx306_0, hx306_1⟩ := at_T42 HR0_1.out x5_1 p306 q306
       cases e306
       replace hx306_0 := (HB.out.cell (World.block_lt_of_cell? w _ hx306_0)).trans hx306_0
       replace hx306_1 := (HB.out.cell (World.block_lt_of_cell? w _ hx306_1)).trans hx306_1
       replace p306 := eq_true p306
       replace q306 := eq_true q306
       go_wp2
       go_roundg k1
       case measure => have := HK1.out; omega
       case rel => exact ⟨(wrap64 (x5_1 - 1)), (by first | rfl | (simp; done) | (simp [*]; done)), H', ⟨by have := HK1.out; omega⟩, ⟨by (with_reducible repeat (first | refine blk_drewN ?_ _ | refine blk_drew ?_ | refine blk_alloc ?_ _)); exact BK305.out⟩, ⟨by repeat (first | (with_reducible first | exact HB.out | apply below_alloc | apply pw_below_drewN | apply below_drew1 | refine below_set ?_ GE305.out) | exact HB.out)⟩⟩
     ·
      rw [if_neg c7] at H
      exact absurd H (by simp)
    ·
     rw [if_neg c6] at H
     exact absurd H (by simp)
   ·
    rw [if_neg c5] at H
    have c5b0 : decide (0 ≤ x5_1) = false := decide_eq_false c5
    clear c5
    obtain rfl := Option.some.inj H
    have hcz11_0 : wr.cell? ⟨gb305, 0, none⟩ = some (.int .i64 a0_0) := (blk_cell BK305.out 0).trans rfl
    have hcz11_1 : wr.cell? ⟨gb305, 1, none⟩ = some (.slice A0_1 l0_1.length c0_1) := (blk_cell BK305.out 1).trans rfl
    have hfz11_0 := blk_frozen BK305.out 0
    have hfz11_1 := blk_frozen BK305.out 1
    go_wp2
    go_ret
    exact ⟨by first | rfl | (simp [errW_none, errW_some] <;> rfl) | (simp [*, errW_none, errW_some] <;> rfl), by repeat (first | (with_reducible first | exact HB.out | apply below_alloc | apply pw_below_drewN | apply below_drew1 | refine below_set ?_ GE305.out) | exact HB.out)⟩

end Go.Proofs.Ytjfdhlagnimkmaa.P
