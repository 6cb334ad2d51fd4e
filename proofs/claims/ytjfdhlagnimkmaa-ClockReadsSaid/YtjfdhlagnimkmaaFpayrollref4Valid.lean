/- Proved here: that the Go function payrollref4_Valid computes the plain function of that name (the machine side of the laws, reworked from a print; no condition of its own). -/
import Derived.Test.YtjfdhlagnimkmaaProg
import Derived.Test.YtjfdhlagnimkmaaV1
import Derived.Test.YtjfdhlagnimkmaaFPRE0
import Derived.Test.YtjfdhlagnimkmaaFPRE1
import Derived.Test.YtjfdhlagnimkmaaFpayrollref4IsInstant
import Derived.Test.YtjfdhlagnimkmaaFpayrollref4IsOffset
namespace Go.Proofs.Ytjfdhlagnimkmaa.P
open Go.RowKit Go.Proofs.YtjfdhlagnimkmaaW.PrintWords Go.Proofs.YtjfdhlagnimkmaaW.PrintLast Go.Proofs.YtjfdhlagnimkmaaW.PrintMore
attribute [local go_sem] max2_int min2_int max_two min_two max_three min_three max_four min_four   -- for this text's walks alone
set_option linter.unusedVariables false
set_option linter.unusedSimpArgs false

mutual
def payrollref4_Valid.l0 : Nat → Int → Int → List (S42) → Option (Int)
 | 0, _, _, _ => none
 | k + 1, x3, x299000, x299001 => if x3 < (x299001.length : Int) then (if 0 ≤ x3 then ((payrollref4_IsInstant.f ((rd_T42 x299001 x3).f0)).bind fun t302 => (if t302 = true then ((payrollref4_IsOffset.f ((rd_T42 x299001 x3).f1)).bind fun t303 => (payrollref4_Valid.j1 k x3 (!t303) x299000 x299001 ((rd_T42 x299001 x3).f0) ((rd_T42 x299001 x3).f1))) else (payrollref4_Valid.j1 k x3 true x299000 x299001 ((rd_T42 x299001 x3).f0) ((rd_T42 x299001 x3).f1)))) else (none)) else (some 0)
def payrollref4_Valid.j1 : Nat → Int → Bool → Int → List (S42) → Int → Int → Option (Int)
 | 0, _, _, _, _, _, _ => none
 | k + 1, x3, x34, x299000, x299001, x302000, x302001 => if x34 = true then (some 2) else (if x3 > 0 then (if 0 ≤ (wrap64 (x3 - 1)) then (if (wrap64 (x3 - 1)) < (x299001.length : Int) then (if x302000 ≤ ((rd_T42 x299001 (wrap64 (x3 - 1))).f0) then (some 1) else (payrollref4_Valid.l0 k (wrap64 (x3 + 1)) x299000 x299001)) else (none)) else (none)) else (payrollref4_Valid.l0 k (wrap64 (x3 + 1)) x299000 x299001))
end
def payrollref4_Valid.f (k : Nat) (a0_0 : Int) (l0_1 : List (S42)) : Option (Int) := if (l0_1.length : Int) > 64 then (some 3) else ((payrollref4_IsOffset.f a0_0).bind fun t299 => (if t299 = true then (payrollref4_Valid.l0 k 0 a0_0 l0_1) else (some 2)))
theorem payrollref4_Valid.mono_l : ∀ k, (∀ y0 y1 y2, LeO (payrollref4_Valid.l0 k y0 y1 y2) (payrollref4_Valid.l0 (k + 1) y0 y1 y2)) ∧ (∀ y0 y1 y2 y3 y4 y5, LeO (payrollref4_Valid.j1 k y0 y1 y2 y3 y4 y5) (payrollref4_Valid.j1 (k + 1) y0 y1 y2 y3 y4 y5))
 | 0 => ⟨fun _ _ _ r h => by simp [payrollref4_Valid.l0] at h, fun _ _ _ _ _ _ r h => by simp [payrollref4_Valid.j1] at h⟩
 | k + 1 => by
  obtain ⟨ih0, ih1⟩ := payrollref4_Valid.mono_l k
  refine ⟨?_, ?_⟩
  ·
   intro y0 y1 y2
   unfold payrollref4_Valid.l0
   repeat' first
   | (with_reducible exact ih0 _ _ _)
   | (with_reducible exact ih1 _ _ _ _ _ _)
   | (with_reducible exact LeO.refl _)
   | (with_reducible exact LeO.none _)
   | (with_reducible refine LeO.ite ?_ ?_)
   | (with_reducible refine LeO.bind ?_ (fun _ => ?_))
   | exact ih0 _ _ _
   | exact ih1 _ _ _ _ _ _
   | exact LeO.none _
   | refine LeO.ite ?_ ?_
   | refine LeO.bind ?_ (fun _ => ?_)
  ·
   intro y0 y1 y2 y3 y4 y5
   unfold payrollref4_Valid.j1
   repeat' first
   | (with_reducible exact ih0 _ _ _)
   | (with_reducible exact ih1 _ _ _ _ _ _)
   | (with_reducible exact LeO.refl _)
   | (with_reducible exact LeO.none _)
   | (with_reducible refine LeO.ite ?_ ?_)
   | (with_reducible refine LeO.bind ?_ (fun _ => ?_))
   | exact ih0 _ _ _
   | exact ih1 _ _ _ _ _ _
   | exact LeO.none _
   | refine LeO.ite ?_ ?_
   | refine LeO.bind ?_ (fun _ => ?_)
theorem payrollref4_Valid.mono : ∀ a0 a1 k, LeO (payrollref4_Valid.f k a0 a1) (payrollref4_Valid.f (k + 1) a0 a1) := by
 intro a0 a1 k
 obtain ⟨ih0, ih1⟩ := payrollref4_Valid.mono_l k
 unfold payrollref4_Valid.f
 repeat' first
   | (with_reducible exact ih0 _ _ _)
   | (with_reducible exact ih1 _ _ _ _ _ _)
   | (with_reducible exact LeO.refl _)
   | (with_reducible exact LeO.none _)
   | (with_reducible refine LeO.ite ?_ ?_)
   | (with_reducible refine LeO.bind ?_ (fun _ => ?_))
   | exact ih0 _ _ _
   | exact ih1 _ _ _ _ _ _
   | exact LeO.none _
   | refine LeO.ite ?_ ?_
   | refine LeO.bind ?_ (fun _ => ?_)
set_option maxHeartbeats 8000000 in
set_option maxRecDepth 100000 in
theorem payrollref4_Valid.calls (k : Nat) (a0_0 : Int) (A0_1 : Option Addr) (c0_1 : Nat) (l0_1 : List (S42)) (r : Int) (w : World) (hr0_1 : Kd.C k42 w A0_1 l0_1.length l0_1) (hc0_1 : l0_1.length ≤ c0_1) (h : payrollref4_Valid.f k a0_0 l0_1 = some r) :
  Calls Try.prog 29 #[.agg #[.int .i64 a0_0, .slice A0_1 l0_1.length c0_1]] w fun e w' => e = .returned (.int .i64 r) ∧ Below w.heap.size w w' := by
 have hu27 := Try.underlying27
 have hu42 := Try.underlying42
 have HR0_1 := Aside0.mk hr0_1
 have HC0_1 := Aside0.mk hc0_1
 clear hr0_1 hc0_1
 have HB := Aside0.mk (Below.refl w.heap.size w)
 have H : (if (l0_1.length : Int) > 64 then (some 3) else ((payrollref4_IsOffset.f a0_0).bind fun t299 => (if t299 = true then (payrollref4_Valid.l0 k 0 a0_0 l0_1) else (some 2)))) = some r := h
 clear h
 by_cases c2 : (l0_1.length : Int) > 64
 ·
  rw [if_pos c2] at H
  have c2b0 : decide (64 < (l0_1.length : Int)) = true := decide_eq_true c2
  have c2b1 : decide (64 < l0_1.length) = true := decide_eq_true (by omega)
  clear c2
  obtain rfl := Option.some.inj H
  go_enter Try.func29, Try.ntmps29
  go_wp2_with (first | ((with_reducible refine gate_dst (N := 1) rfl ?_); refine box_event ?hg (N := 1) ?hd (cs := #[.int .i64 a0_0, .slice A0_1 l0_1.length c0_1]) (t := 27) ?hr ?_; (case hd => rfl); (case hg => rfl); (case hr => first | (go_simp; done) | (go_simp; rfl)); intro gb298 hg w3 hbox hb; have n0_ := Aside0.mk (below_step (by repeat (first | (with_reducible first | exact HB.out | apply below_alloc | apply pw_below_drewN | apply below_drew1) | exact HB.out)) hb); have n1_ := Aside0.mk (hbox); have n2_ := Aside0.mk ((by rw [hg]; exact (below_size (by repeat (first | (with_reducible first | exact HB.out | apply below_alloc | apply pw_below_drewN | apply below_drew1) | exact HB.out))) : w.heap.size ≤ gb298)); have n3_ := Aside0.mk ((by rw [hg]; exact (below_size (by repeat (first | (with_reducible first | exact HB.out | apply below_alloc | apply pw_below_drewN | apply below_drew1) | exact HB.out))) : w.heap.size ≤ gb298)); clear HB; have HB := n0_; have BK298 := n1_; have GW298 := n2_; have GE298 := n3_; clear n0_ n1_ n2_ n3_; clear hb hbox hg; have hcz4_0 : w3.cell? ⟨gb298, 0, none⟩ = some (.int .i64 a0_0) := (blk_cell BK298.out 0).trans rfl; have hcz4_1 : w3.cell? ⟨gb298, 1, none⟩ = some (.slice A0_1 l0_1.length c0_1) := (blk_cell BK298.out 1).trans rfl; have hfz4_0 := blk_frozen BK298.out 0; have hfz4_1 := blk_frozen BK298.out 1))
  repeat (go_quiet (first | fail); try go_wp2_with (first | fail))
  go_ret
  exact ⟨by first | rfl | (simp [errW_none, errW_some] <;> rfl) | (simp [*, errW_none, errW_some] <;> rfl), by repeat (first | (with_reducible first | exact HB.out | apply below_alloc | apply pw_below_drewN | apply below_drew1 | refine below_set ?_ GE298.out) | exact HB.out)⟩
 ·
  rw [if_neg c2] at H
  have c2b0 : decide (64 < (l0_1.length : Int)) = false := decide_eq_false c2
  have c2b1 : decide (64 < l0_1.length) = false := decide_eq_false (by omega)
  clear c2
  replace H := Option.bind_eq_some_iff.mp H
  obtain ⟨t299, A50, H⟩ := H
  replace H : (if t299 = true then (payrollref4_Valid.l0 k 0 a0_0 l0_1) else (some 2)) = some r := H
  have A5 := Aside0.mk A50
  clear A50
  by_cases c6 : t299 = true
  ·
   subst c6
   have H1 : (payrollref4_Valid.l0 k 0 a0_0 l0_1) = some r := by rw [if_pos rfl] at H; exact H
   clear H
   have H := H1
   clear H1
   have H' := Aside0.mk H
   clear H
   go_enter Try.func29, Try.ntmps29
   go_wp2_with (first | ((with_reducible refine gate_dst (N := 1) rfl ?_); refine box_event ?hg (N := 1) ?hd (cs := #[.int .i64 a0_0, .slice A0_1 l0_1.length c0_1]) (t := 27) ?hr ?_; (case hd => rfl); (case hg => rfl); (case hr => first | (go_simp; done) | (go_simp; rfl)); intro gb298 hg w7 hbox hb; have n0_ := Aside0.mk (below_step (by repeat (first | (with_reducible first | exact HB.out | apply below_alloc | apply pw_below_drewN | apply below_drew1) | exact HB.out)) hb); have n1_ := Aside0.mk (hbox); have n2_ := Aside0.mk ((by rw [hg]; exact (below_size (by repeat (first | (with_reducible first | exact HB.out | apply below_alloc | apply pw_below_drewN | apply below_drew1) | exact HB.out))) : w.heap.size ≤ gb298)); have n3_ := Aside0.mk ((by rw [hg]; exact (below_size (by repeat (first | (with_reducible first | exact HB.out | apply below_alloc | apply pw_below_drewN | apply below_drew1) | exact HB.out))) : w.heap.size ≤ gb298)); clear HB; have HB := n0_; have BK298 := n1_; have GW298 := n2_; have GE298 := n3_; clear n0_ n1_ n2_ n3_; clear hb hbox hg; have hcz8_0 : w7.cell? ⟨gb298, 0, none⟩ = some (.int .i64 a0_0) := (blk_cell BK298.out 0).trans rfl; have hcz8_1 : w7.cell? ⟨gb298, 1, none⟩ = some (.slice A0_1 l0_1.length c0_1) := (blk_cell BK298.out 1).trans rfl; have hfz8_0 := blk_frozen BK298.out 0; have hfz8_1 := blk_frozen BK298.out 1) | (go_at_call 37; (with_reducible refine (payrollref4_IsOffset.calls a0_0 true _ A5.out).mono ?_); rintro e w' ⟨rfl, ⟨nd, rfl⟩⟩; (try first | exact ⟨rfl, _, World.drewN_drewN _ _ _⟩ | exact ⟨rfl, _, Eq.trans (World.drewN_drewN _ _ _) (congrArg (World.drewN _) (Nat.add_assoc _ _ _))⟩)))
   repeat (go_quiet (first | fail); try go_wp2_with (first | fail))
   go_loopg [3] k (fun kq v3 w' => ∃ (x3_1 : Int), v3 = .int .i64 x3_1 ∧ Aside0 (payrollref4_Valid.l0 kq x3_1 a0_0 l0_1 = some r) ∧ Aside0 (kq ≤ k) ∧ Aside0 (w'.heap[gb298]? = some (.cells #[.int .i64 a0_0, (.slice A0_1 l0_1.length c0_1)] 27 (0, 0))) ∧ Aside0 (Below w.heap.size w w'))
   case atStart => exact ⟨(0), (by first | rfl | (simp; done) | (simp [*]; done)), H', ⟨Nat.le_refl _⟩, ⟨by (with_reducible repeat (first | refine blk_drewN ?_ _ | refine blk_drew ?_ | refine blk_alloc ?_ _)); exact BK298.out⟩, ⟨by repeat (first | (with_reducible first | exact HB.out | apply below_alloc | apply pw_below_drewN | apply below_drew1 | refine below_set ?_ GE298.out) | exact HB.out)⟩⟩
   case round =>
    clear H'
    try clear c2
    try clear c2b0
    try clear c2b1
    try clear p2
    try clear c6
    try clear hcz4_0
    try clear hcz4_1
    try clear hcz8_0
    try clear hcz8_1
    try clear hfz4_0
    try clear hfz4_1
    try clear hfz8_0
    try clear hfz8_1
    obtain ⟨x3_1, rfl, HA, HK1, BK298, HB⟩ := hrel
    cases gk with
    | zero => exact absurd HA.out (by simp [payrollref4_Valid.l0])
    | succ k1 =>
     have H := HA.out
     clear HA
     simp only [payrollref4_Valid.l0] at H
     by_cases c9 : x3_1 < (l0_1.length : Int)
     ·
      rw [if_pos c9] at H
      have c9b0 : decide (x3_1 < (l0_1.length : Int)) = true := decide_eq_true c9
      clear c9
      by_cases c10 : 0 ≤ x3_1
      ·
       rw [if_pos c10] at H
       have c10b0 : decide (0 ≤ x3_1) = true := decide_eq_true c10
       clear c10
       have HC11 := Aside0.mk H
       clear H
       have hcz12_0 : wr.cell? ⟨gb298, 0, none⟩ = some (.int .i64 a0_0) := (blk_cell BK298.out 0).trans rfl
       have hcz12_1 : wr.cell? ⟨gb298, 1, none⟩ = some (.slice A0_1 l0_1.length c0_1) := (blk_cell BK298.out 1).trans rfl
       have hfz12_0 := blk_frozen BK298.out 0
       have hfz12_1 := blk_frozen BK298.out 1
       have p300 : 0 ≤ (x3_1 : Int) := of_decide_eq_true (by first | (with_reducible assumption) | assumption)
       have q300 : x3_1 < (l0_1.length : Int) := of_decide_eq_true (by first | (with_reducible assumption) | assumption)
       obtain ⟨ad300, e300, hx300_0, hx300_1⟩ := at_T42 HR0_1.out x3_1 p300 q300
       cases e300
       replace hx300_0 := (HB.out.cell (World.block_lt_of_cell? w _ hx300_0)).trans hx300_0
       replace hx300_1 := (HB.out.cell (World.block_lt_of_cell? w _ hx300_1)).trans hx300_1
       replace p300 := eq_true p300
       replace q300 := eq_true q300
       go_upto_region 9 with (first | ((with_reducible refine gate_dst (N := 4) rfl ?_); refine box_event ?hg (N := 4) ?hd (cs := #[.int .i64 0, .int .i64 0]) (t := 42) ?hr ?_; (case hd => rfl); (case hg => rfl); (case hr => first | (go_simp; done) | (go_simp; rfl)); intro gb301 hg w13 hbox hb; have n0_ := Aside0.mk (blk_below (g := gb298) (o := .cells #[.int .i64 a0_0, .slice (some ad300) l0_1.length c0_1] 27 (0, 0)) (by (with_reducible repeat (first | refine blk_drewN ?_ _ | refine blk_drew ?_ | refine blk_alloc ?_ _)); exact BK298.out) hb); have n1_ := Aside0.mk (below_step (by repeat (first | (with_reducible first | exact HB.out | apply below_alloc | apply pw_below_drewN | apply below_drew1 | refine below_set ?_ GE298.out) | exact HB.out)) hb); have n2_ := Aside0.mk (hbox); have n3_ := Aside0.mk ((by rw [hg]; exact (below_size (by repeat (first | (with_reducible first | exact HB.out | apply below_alloc | apply pw_below_drewN | apply below_drew1 | refine below_set ?_ GE298.out) | exact HB.out))) : w.heap.size ≤ gb301)); have n4_ := Aside0.mk ((by rw [hg]; exact (below_size (by repeat (first | (with_reducible first | exact HB.out | apply below_alloc | apply pw_below_drewN | apply below_drew1 | refine below_set ?_ GE298.out) | exact HB.out))) : w.heap.size ≤ gb301)); have n5_ := Aside0.mk ((by rw [hg]; exact Nat.ne_of_lt (blk_lt (g := gb298) (o := .cells #[.int .i64 a0_0, .slice (some ad300) l0_1.length c0_1] 27 (0, 0)) (by (with_reducible repeat (first | refine blk_drewN ?_ _ | refine blk_drew ?_ | refine blk_alloc ?_ _)); exact BK298.out)) : gb298 ≠ gb301)); have n6_ := Aside0.mk ((by rw [hg]; exact Nat.ne_of_gt (blk_lt (g := gb298) (o := .cells #[.int .i64 a0_0, .slice (some ad300) l0_1.length c0_1] 27 (0, 0)) (by (with_reducible repeat (first | refine blk_drewN ?_ _ | refine blk_drew ?_ | refine blk_alloc ?_ _)); exact BK298.out)) : gb301 ≠ gb298)); clear BK298; clear HB; have BK298 := n0_; have HB := n1_; have BK301 := n2_; have GW301 := n3_; have GE301 := n4_; have NB298_301 := n5_; have NB301_298 := n6_; clear n0_ n1_ n2_ n3_ n4_ n5_ n6_; clear hb hbox hg; have hnb14 := NB301_298.out; have hnc14 := NB298_301.out; have hcz15_0 : w13.cell? ⟨gb301, 0, none⟩ = some (.int .i64 0) := (blk_cell BK301.out 0).trans rfl; have hcz15_1 : w13.cell? ⟨gb301, 1, none⟩ = some (.int .i64 0) := (blk_cell BK301.out 1).trans rfl; have hfz15_0 := blk_frozen BK301.out 0; have hfz15_1 := blk_frozen BK301.out 1))
       repeat (go_quiet (first | fail); go_upto_region 9 with (first | fail))
       (try simp only [Act.put, List.setIfInBounds_toArray, List.set_cons_zero, List.set_cons_succ])
       go_cut [34] (fun v34 wc => ∃ (kq : Nat) (x34_10 : Bool), v34 = .bool x34_10 ∧ Aside0 (payrollref4_Valid.j1 kq x3_1 x34_10 a0_0 l0_1 ((rd_T42 l0_1 x3_1).f0) ((rd_T42 l0_1 x3_1).f1) = some r) ∧ Aside0 (kq ≤ k1) ∧ Aside0 (wc.heap[gb298]? = some (.cells #[.int .i64 a0_0, (.slice (some ad300) l0_1.length c0_1)] 27 (0, 0))) ∧ Aside0 (wc.heap[gb301]? = some (.cells #[.int .i64 ((rd_T42 l0_1 x3_1).f0), .int .i64 ((rd_T42 l0_1 x3_1).f1)] 42 (0, 0))) ∧ Aside0 (Below w.heap.size w wc))
       case first =>
        have H := HC11.out
        clear HC11
        replace H := Option.bind_eq_some_iff.mp H
        obtain ⟨t302, A160, H⟩ := H
        replace H : (if t302 = true then ((payrollref4_IsOffset.f ((rd_T42 l0_1 x3_1).f1)).bind fun t303 => (payrollref4_Valid.j1 k1 x3_1 (!t303) a0_0 l0_1 ((rd_T42 l0_1 x3_1).f0) ((rd_T42 l0_1 x3_1).f1))) else (payrollref4_Valid.j1 k1 x3_1 true a0_0 l0_1 ((rd_T42 l0_1 x3_1).f0) ((rd_T42 l0_1 x3_1).f1))) = some r := H
        have A16 := Aside0.mk A160
        clear A160
        by_cases c17 : t302 = true
        ·
         subst c17
         have H1 : ((payrollref4_IsOffset.f ((rd_T42 l0_1 x3_1).f1)).bind fun t303 => (payrollref4_Valid.j1 k1 x3_1 (!t303) a0_0 l0_1 ((rd_T42 l0_1 x3_1).f0) ((rd_T42 l0_1 x3_1).f1))) = some r := by rw [if_pos rfl] at H; exact H
         clear H
         have H := H1
         clear H1
         replace H := Option.bind_eq_some_iff.mp H
         obtain ⟨t303, A180, H⟩ := H
         replace H : (payrollref4_Valid.j1 k1 x3_1 (!t303) a0_0 l0_1 ((rd_T42 l0_1 x3_1).f0) ((rd_T42 l0_1 x3_1).f1)) = some r := H
         have A18 := Aside0.mk A180
         clear A180
         have H' := Aside0.mk H
         clear H
         have hnb19 := NB301_298.out
         have hnc19 := NB298_301.out
         have hcz20_0 : w13.cell? ⟨gb301, 0, none⟩ = some (.int .i64 0) := (blk_cell BK301.out 0).trans rfl
         have hcz20_1 : w13.cell? ⟨gb301, 1, none⟩ = some (.int .i64 0) := (blk_cell BK301.out 1).trans rfl
         have hfz20_0 := blk_frozen BK301.out 0
         have hfz20_1 := blk_frozen BK301.out 1
         go_wp2_with (first | (go_at_call 34; (with_reducible refine (payrollref4_IsInstant.calls ((rd_T42 l0_1 x3_1).f0) true _ A16.out).mono ?_); rintro e w' ⟨rfl, ⟨nd, rfl⟩⟩; (try first | exact ⟨rfl, _, World.drewN_drewN _ _ _⟩ | exact ⟨rfl, _, Eq.trans (World.drewN_drewN _ _ _) (congrArg (World.drewN _) (Nat.add_assoc _ _ _))⟩)) | (go_at_call 37; (with_reducible refine (payrollref4_IsOffset.calls ((rd_T42 l0_1 x3_1).f1) t303 _ A18.out).mono ?_); rintro e w' ⟨rfl, ⟨nd, rfl⟩⟩; (try first | exact ⟨rfl, _, World.drewN_drewN _ _ _⟩ | exact ⟨rfl, _, Eq.trans (World.drewN_drewN _ _ _) (congrArg (World.drewN _) (Nat.add_assoc _ _ _))⟩)))
         repeat (go_quiet (first | fail); try go_wp2_with (first | fail))
         go_meet
         case rel => exact ⟨_, (!t303), (by first | rfl | (simp; done) | (simp [*]; done)), H', ⟨by have := HK1.out; first | omega | exact Nat.le_refl _⟩, ⟨by (with_reducible repeat (first | refine blk_drewN ?_ _ | refine blk_drew ?_ | refine blk_alloc ?_ _)); refine blk_far ?_ NB298_301.out _; (with_reducible repeat (first | refine blk_drewN ?_ _ | refine blk_drew ?_ | refine blk_alloc ?_ _)); refine blk_far ?_ NB298_301.out _; (with_reducible repeat (first | refine blk_drewN ?_ _ | refine blk_drew ?_ | refine blk_alloc ?_ _)); exact BK298.out⟩, ⟨by (with_reducible repeat (first | refine blk_drewN ?_ _ | refine blk_drew ?_ | refine blk_alloc ?_ _)); refine blk_put (cs := #[.int .i64 ((rd_T42 l0_1 x3_1).f0), .int .i64 0]) ?_ 1 _ rfl; (with_reducible repeat (first | refine blk_drewN ?_ _ | refine blk_drew ?_ | refine blk_alloc ?_ _)); refine blk_put (cs := #[.int .i64 0, .int .i64 0]) ?_ 0 _ rfl; (with_reducible repeat (first | refine blk_drewN ?_ _ | refine blk_drew ?_ | refine blk_alloc ?_ _)); exact BK301.out⟩, ⟨by repeat (first | (with_reducible first | exact HB.out | apply below_alloc | apply pw_below_drewN | apply below_drew1 | refine below_set ?_ GE298.out | refine below_set ?_ GE301.out) | exact HB.out)⟩⟩
        ·
         replace c17 := Bool.eq_false_iff.mpr c17
         subst c17
         have H1 : (payrollref4_Valid.j1 k1 x3_1 true a0_0 l0_1 ((rd_T42 l0_1 x3_1).f0) ((rd_T42 l0_1 x3_1).f1)) = some r := by rw [if_neg (show ¬ (false = true) by decide)] at H; exact H
         clear H
         have H := H1
         clear H1
         have H' := Aside0.mk H
         clear H
         have hnb21 := NB301_298.out
         have hnc21 := NB298_301.out
         have hcz22_0 : w13.cell? ⟨gb301, 0, none⟩ = some (.int .i64 0) := (blk_cell BK301.out 0).trans rfl
         have hcz22_1 : w13.cell? ⟨gb301, 1, none⟩ = some (.int .i64 0) := (blk_cell BK301.out 1).trans rfl
         have hfz22_0 := blk_frozen BK301.out 0
         have hfz22_1 := blk_frozen BK301.out 1
         go_wp2_with (first | (go_at_call 34; (with_reducible refine (payrollref4_IsInstant.calls ((rd_T42 l0_1 x3_1).f0) false _ A16.out).mono ?_); rintro e w' ⟨rfl, ⟨nd, rfl⟩⟩; (try first | exact ⟨rfl, _, World.drewN_drewN _ _ _⟩ | exact ⟨rfl, _, Eq.trans (World.drewN_drewN _ _ _) (congrArg (World.drewN _) (Nat.add_assoc _ _ _))⟩)))
         repeat (go_quiet (first | fail); try go_wp2_with (first | fail))
         go_meet
         case rel => exact ⟨_, (true), (by first | rfl | (simp; done) | (simp [*]; done)), H', ⟨by have := HK1.out; first | omega | exact Nat.le_refl _⟩, ⟨by (with_reducible repeat (first | refine blk_drewN ?_ _ | refine blk_drew ?_ | refine blk_alloc ?_ _)); refine blk_far ?_ NB298_301.out _; (with_reducible repeat (first | refine blk_drewN ?_ _ | refine blk_drew ?_ | refine blk_alloc ?_ _)); refine blk_far ?_ NB298_301.out _; (with_reducible repeat (first | refine blk_drewN ?_ _ | refine blk_drew ?_ | refine blk_alloc ?_ _)); exact BK298.out⟩, ⟨by (with_reducible repeat (first | refine blk_drewN ?_ _ | refine blk_drew ?_ | refine blk_alloc ?_ _)); refine blk_put (cs := #[.int .i64 ((rd_T42 l0_1 x3_1).f0), .int .i64 0]) ?_ 1 _ rfl; (with_reducible repeat (first | refine blk_drewN ?_ _ | refine blk_drew ?_ | refine blk_alloc ?_ _)); refine blk_put (cs := #[.int .i64 0, .int .i64 0]) ?_ 0 _ rfl; (with_reducible repeat (first | refine blk_drewN ?_ _ | refine blk_drew ?_ | refine blk_alloc ?_ _)); exact BK301.out⟩, ⟨by repeat (first | (with_reducible first | exact HB.out | apply below_alloc | apply pw_below_drewN | apply below_drew1 | refine below_set ?_ GE298.out | refine below_set ?_ GE301.out) | exact HB.out)⟩⟩
       case rest =>
        clear HC11
        try clear c1
        try clear c2
        try clear c2b0
        try clear c2b1
        try clear p2
        try clear p3
        try clear q3
        try clear hx3
        try clear c6
        try clear c9
        try clear c9b0
        try clear c10
        try clear c10b0
        try clear c14
        try clear c17
        try clear c19
        try clear c21
        try clear hcz12_0
        try clear hcz12_1
        try clear hcz15_0
        try clear hcz15_1
        try clear hcz20_0
        try clear hcz20_1
        try clear hcz22_0
        try clear hcz22_1
        try clear hcz4_0
        try clear hcz4_1
        try clear hcz8_0
        try clear hcz8_1
        try clear hfz12_0
        try clear hfz12_1
        try clear hfz15_0
        try clear hfz15_1
        try clear hfz20_0
        try clear hfz20_1
        try clear hfz22_0
        try clear hfz22_1
        try clear hfz4_0
        try clear hfz4_1
        try clear hfz8_0
        try clear hfz8_1
        try clear hx300_0
        try clear hx300_1
        try clear p2
        try clear p300
        try clear q300
        obtain ⟨kq, x34_10, rfl, HA, HJ10, BK298, BK301, HB⟩ := hcut
        cases kq with
        | zero => exact absurd HA.out (by simp [payrollref4_Valid.j1])
        | succ kj10 =>
         have H := HA.out
         clear HA
         simp only [payrollref4_Valid.j1] at H
         by_cases c23 : x34_10 = true
         ·
          subst c23
          have H1 : (some 2) = some r := by rw [if_pos rfl] at H; exact H
          clear H
          have H := H1
          clear H1
          obtain rfl := Option.some.inj H
          go_wp2
          repeat (go_quiet (fail); try go_wp2)
          go_ret
          exact ⟨by first | rfl | (simp [errW_none, errW_some] <;> rfl) | (simp [*, errW_none, errW_some] <;> rfl), by repeat (first | (with_reducible first | exact HB.out | apply below_alloc | apply pw_below_drewN | apply below_drew1 | refine below_set ?_ GE298.out | refine below_set ?_ GE301.out) | exact HB.out)⟩
         ·
          replace c23 := Bool.eq_false_iff.mpr c23
          subst c23
          have H1 : (if x3_1 > 0 then (if 0 ≤ (wrap64 (x3_1 - 1)) then (if (wrap64 (x3_1 - 1)) < (l0_1.length : Int) then (if ((rd_T42 l0_1 x3_1).f0) ≤ ((rd_T42 l0_1 (wrap64 (x3_1 - 1))).f0) then (some 1) else (payrollref4_Valid.l0 kj10 (wrap64 (x3_1 + 1)) a0_0 l0_1)) else (none)) else (none)) else (payrollref4_Valid.l0 kj10 (wrap64 (x3_1 + 1)) a0_0 l0_1)) = some r := by rw [if_neg (show ¬ (false = true) by decide)] at H; exact H
          clear H
          have H := H1
          clear H1
          by_cases c24 : x3_1 > 0
          ·
           rw [if_pos c24] at H
           have c24b0 : decide (0 < x3_1) = true := decide_eq_true c24
           clear c24
           obtain ⟨ji25, hji25⟩ : ∃ j_ : Int, (wrap64 (x3_1 - 1)) = j_ := ⟨_, rfl⟩
           replace H : (if 0 ≤ (ji25) then (if (ji25) < (l0_1.length : Int) then (if ((rd_T42 l0_1 x3_1).f0) ≤ ((rd_T42 l0_1 (ji25)).f0) then (some 1) else (payrollref4_Valid.l0 kj10 (wrap64 (x3_1 + 1)) a0_0 l0_1)) else (none)) else (none)) = some r := by first | (rw [hji25] at H; exact H) | (simp only [hji25] at H ⊢; exact H)
           have hji25w : (IntKind.i64.wrap (x3_1 - 1)) = ji25 := (i64_w _).trans hji25
           by_cases c26 : 0 ≤ (ji25)
           ·
            rw [if_pos c26] at H
            have c26b0 : decide (0 ≤ (ji25)) = true := decide_eq_true c26
            clear c26
            by_cases c27 : (ji25) < (l0_1.length : Int)
            ·
             rw [if_pos c27] at H
             have c27b0 : decide ((ji25) < (l0_1.length : Int)) = true := decide_eq_true c27
             clear c27
             by_cases c28 : ((rd_T42 l0_1 x3_1).f0) ≤ ((rd_T42 l0_1 (ji25)).f0)
             ·
              rw [if_pos c28] at H
              have c28b0 : decide (((rd_T42 l0_1 x3_1).f0) ≤ ((rd_T42 l0_1 (ji25)).f0)) = true := decide_eq_true c28
              clear c28
              obtain rfl := Option.some.inj H
              have hnb29 := NB301_298.out
              have hnc29 := NB298_301.out
              have hcz30_0 : wc.cell? ⟨gb301, 0, none⟩ = some (.int .i64 ((rd_T42 l0_1 x3_1).f0)) := (blk_cell BK301.out 0).trans rfl
              have hcz30_1 : wc.cell? ⟨gb301, 1, none⟩ = some (.int .i64 ((rd_T42 l0_1 x3_1).f1)) := (blk_cell BK301.out 1).trans rfl
              have hfz30_0 := blk_frozen BK301.out 0
              have hfz30_1 := blk_frozen BK301.out 1
              have hcz31_0 : wc.cell? ⟨gb298, 0, none⟩ = some (.int .i64 a0_0) := (blk_cell BK298.out 0).trans rfl
              have hcz31_1 : wc.cell? ⟨gb298, 1, none⟩ = some (.slice (some ad300) l0_1.length c0_1) := (blk_cell BK298.out 1).trans rfl
              have hfz31_0 := blk_frozen BK298.out 0
              have hfz31_1 := blk_frozen BK298.out 1
              have p304 : 0 ≤ ((ji25) : Int) := of_decide_eq_true (by first | (with_reducible assumption) | assumption)
              have q304 : (ji25) < (l0_1.length : Int) := of_decide_eq_true (by first | (with_reducible assumption) | assumption)
              obtain ⟨ad304, e304, hx304_0, hx304_1⟩ := at_T42 HR0_1.out (ji25) p304 q304
              obtain rfl : ad300 = ad304 := (by injection e304)
              replace hx304_0 := (HB.out.cell (World.block_lt_of_cell? w _ hx304_0)).trans hx304_0
              replace hx304_1 := (HB.out.cell (World.block_lt_of_cell? w _ hx304_1)).trans hx304_1
              replace p304 := eq_true p304
              replace q304 := eq_true q304
              go_wp2
              repeat (go_quiet (fail); try go_wp2)
              go_ret
              exact ⟨by first | rfl | (simp [errW_none, errW_some] <;> rfl) | (simp only [← hji25]; first | rfl | (simp [errW_none, errW_some] <;> rfl)) | (simp [*, errW_none, errW_some] <;> rfl), by repeat (first | (with_reducible first | exact HB.out | apply below_alloc | apply pw_below_drewN | apply below_drew1 | refine below_set ?_ GE298.out | refine below_set ?_ GE301.out) | exact HB.out)⟩
             ·
              rw [if_neg c28] at H
              have c28b0 : decide (((rd_T42 l0_1 x3_1).f0) ≤ ((rd_T42 l0_1 (ji25)).f0)) = false := decide_eq_false c28
              clear c28
              have H' := Aside0.mk H
              clear H
              have hnb32 := NB301_298.out
              have hnc32 := NB298_301.out
              have hcz33_0 : wc.cell? ⟨gb301, 0, none⟩ = some (.int .i64 ((rd_T42 l0_1 x3_1).f0)) := (blk_cell BK301.out 0).trans rfl
              have hcz33_1 : wc.cell? ⟨gb301, 1, none⟩ = some (.int .i64 ((rd_T42 l0_1 x3_1).f1)) := (blk_cell BK301.out 1).trans rfl
              have hfz33_0 := blk_frozen BK301.out 0
              have hfz33_1 := blk_frozen BK301.out 1
              have hcz34_0 : wc.cell? ⟨gb298, 0, none⟩ = some (.int .i64 a0_0) := (blk_cell BK298.out 0).trans rfl
              have hcz34_1 : wc.cell? ⟨gb298, 1, none⟩ = some (.slice (some ad300) l0_1.length c0_1) := (blk_cell BK298.out 1).trans rfl
              have hfz34_0 := blk_frozen BK298.out 0
              have hfz34_1 := blk_frozen BK298.out 1
              have p304 : 0 ≤ ((ji25) : Int) := of_decide_eq_true (by first | (with_reducible assumption) | assumption)
              have q304 : (ji25) < (l0_1.length : Int) := of_decide_eq_true (by first | (with_reducible assumption) | assumption)
              obtain ⟨ad304, e304, hx304_0, hx304_1⟩ := at_T42 HR0_1.out (ji25) p304 q304
              obtain rfl : ad300 = ad304 := (by injection e304)
              replace hx304_0 := (HB.out.cell (World.block_lt_of_cell? w _ hx304_0)).trans hx304_0
              replace hx304_1 := (HB.out.cell (World.block_lt_of_cell? w _ hx304_1)).trans hx304_1
              replace p304 := eq_true p304
              replace q304 := eq_true q304
              go_wp2
              repeat (go_quiet (fail); try go_wp2)
              go_roundg kj10
              case measure => have := HK1.out; have := HJ10.out; omega
              case rel => exact ⟨(wrap64 (x3_1 + 1)), (by first | rfl | (simp; done) | (simp [*]; done)), H', ⟨by have := HK1.out; have := HJ10.out; omega⟩, ⟨by (with_reducible repeat (first | refine blk_drewN ?_ _ | refine blk_drew ?_ | refine blk_alloc ?_ _)); exact BK298.out⟩, ⟨by repeat (first | (with_reducible first | exact HB.out | apply below_alloc | apply pw_below_drewN | apply below_drew1 | refine below_set ?_ GE298.out | refine below_set ?_ GE301.out) | exact HB.out)⟩⟩
            ·
             rw [if_neg c27] at H
             exact absurd H (by simp)
           ·
            rw [if_neg c26] at H
            exact absurd H (by simp)
          ·
           rw [if_neg c24] at H
           have c24b0 : decide (0 < x3_1) = false := decide_eq_false c24
           clear c24
           have H' := Aside0.mk H
           clear H
           go_wp2
           repeat (go_quiet (fail); try go_wp2)
           go_roundg kj10
           case measure => have := HK1.out; have := HJ10.out; omega
           case rel => exact ⟨(wrap64 (x3_1 + 1)), (by first | rfl | (simp; done) | (simp [*]; done)), H', ⟨by have := HK1.out; have := HJ10.out; omega⟩, ⟨by (with_reducible repeat (first | refine blk_drewN ?_ _ | refine blk_drew ?_ | refine blk_alloc ?_ _)); exact BK298.out⟩, ⟨by repeat (first | (with_reducible first | exact HB.out | apply below_alloc | apply pw_below_drewN | apply below_drew1 | refine below_set ?_ GE298.out | refine below_set ?_ GE301.out) | exact HB.out)⟩⟩
      ·
       rw [if_neg c10] at H
       exact absurd H (by simp)
     ·
      rw [if_neg c9] at H
      have c9b0 : decide (x3_1 < (l0_1.length : Int)) = false := decide_eq_false c9
      clear c9
      obtain rfl := Option.some.inj H
      have hcz35_0 : wr.cell? ⟨gb298, 0, none⟩ = some (.int .i64 a0_0) := (blk_cell BK298.out 0).trans rfl
      have hcz35_1 : wr.cell? ⟨gb298, 1, none⟩ = some (.slice A0_1 l0_1.length c0_1) := (blk_cell BK298.out 1).trans rfl
      have hfz35_0 := blk_frozen BK298.out 0
      have hfz35_1 := blk_frozen BK298.out 1
      go_wp2
      repeat (go_quiet (fail); try go_wp2)
      go_ret
      exact ⟨by first | rfl | (simp [errW_none, errW_some] <;> rfl) | (simp [*, errW_none, errW_some] <;> rfl), by repeat (first | (with_reducible first | exact HB.out | apply below_alloc | apply pw_below_drewN | apply below_drew1 | refine below_set ?_ GE298.out) | exact HB.out)⟩
  ·
   replace c6 := Bool.eq_false_iff.mpr c6
   subst c6
   have H1 : (some 2) = some r := by rw [if_neg (show ¬ (false = true) by decide)] at H; exact H
   clear H
   have H := H1
   clear H1
   obtain rfl := Option.some.inj H
   go_enter Try.func29, Try.ntmps29
   go_wp2_with (first | ((with_reducible refine gate_dst (N := 1) rfl ?_); refine box_event ?hg (N := 1) ?hd (cs := #[.int .i64 a0_0, .slice A0_1 l0_1.length c0_1]) (t := 27) ?hr ?_; (case hd => rfl); (case hg => rfl); (case hr => first | (go_simp; done) | (go_simp; rfl)); intro gb298 hg w36 hbox hb; have n0_ := Aside0.mk (below_step (by repeat (first | (with_reducible first | exact HB.out | apply below_alloc | apply pw_below_drewN | apply below_drew1) | exact HB.out)) hb); have n1_ := Aside0.mk (hbox); have n2_ := Aside0.mk ((by rw [hg]; exact (below_size (by repeat (first | (with_reducible first | exact HB.out | apply below_alloc | apply pw_below_drewN | apply below_drew1) | exact HB.out))) : w.heap.size ≤ gb298)); have n3_ := Aside0.mk ((by rw [hg]; exact (below_size (by repeat (first | (with_reducible first | exact HB.out | apply below_alloc | apply pw_below_drewN | apply below_drew1) | exact HB.out))) : w.heap.size ≤ gb298)); clear HB; have HB := n0_; have BK298 := n1_; have GW298 := n2_; have GE298 := n3_; clear n0_ n1_ n2_ n3_; clear hb hbox hg; have hcz37_0 : w36.cell? ⟨gb298, 0, none⟩ = some (.int .i64 a0_0) := (blk_cell BK298.out 0).trans rfl; have hcz37_1 : w36.cell? ⟨gb298, 1, none⟩ = some (.slice A0_1 l0_1.length c0_1) := (blk_cell BK298.out 1).trans rfl; have hfz37_0 := blk_frozen BK298.out 0; have hfz37_1 := blk_frozen BK298.out 1) | (go_at_call 37; (with_reducible refine (payrollref4_IsOffset.calls a0_0 false _ A5.out).mono ?_); rintro e w' ⟨rfl, ⟨nd, rfl⟩⟩; (try first | exact ⟨rfl, _, World.drewN_drewN _ _ _⟩ | exact ⟨rfl, _, Eq.trans (World.drewN_drewN _ _ _) (congrArg (World.drewN _) (Nat.add_assoc _ _ _))⟩)))
   repeat (go_quiet (first | fail); try go_wp2_with (first | fail))
   go_ret
   exact ⟨by first | rfl | (simp [errW_none, errW_some] <;> rfl) | (simp [*, errW_none, errW_some] <;> rfl), by repeat (first | (with_reducible first | exact HB.out | apply below_alloc | apply pw_below_drewN | apply below_drew1 | refine below_set ?_ GE298.out) | exact HB.out)⟩

end Go.Proofs.Ytjfdhlagnimkmaa.P
