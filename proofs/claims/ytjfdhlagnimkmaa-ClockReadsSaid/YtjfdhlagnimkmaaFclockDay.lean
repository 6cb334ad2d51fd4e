/- Proved here: that the Go function clock_Day computes the plain function of that name (the machine side of the laws, reworked from a print; no condition of its own). -/
import Derived.Test.YtjfdhlagnimkmaaProg
import Derived.Test.YtjfdhlagnimkmaaV1
import Derived.Test.YtjfdhlagnimkmaaFPRE0
import Derived.Test.YtjfdhlagnimkmaaFPRE1
import Derived.Test.YtjfdhlagnimkmaaFPRE2
import Derived.Test.YtjfdhlagnimkmaaFclockchecked
import Derived.Test.YtjfdhlagnimkmaaFclockparts
namespace Go.Proofs.Ytjfdhlagnimkmaa.P
open Go.RowKit Go.Proofs.YtjfdhlagnimkmaaW.PrintWords Go.Proofs.YtjfdhlagnimkmaaW.PrintLast Go.Proofs.YtjfdhlagnimkmaaW.PrintMore
attribute [local go_sem] max2_int min2_int max_two min_two max_three min_three max_four min_four   -- for this text's walks alone
set_option linter.unusedVariables false
set_option linter.unusedSimpArgs false

def clock_Day.l0 : Nat → Int → Int → List (S53) → Int → Int → Option (Int × Int)
 | 0, _, _, _, _, _ => none
 | k + 1, x1, x7, x17, x18, x19 => if x19 < x18 then (if 0 ≤ x19 then (if x19 < (x17.length : Int) then (if ((rd_T53 x17 x19).f0) ≤ x1 then (clock_Day.l0 k x1 (mx x7 (wrap64 ((mn x1 (wrap64 (((rd_T53 x17 x19).f1) - 1))) + ((rd_T53 x17 x19).f2)))) x17 x18 (wrap64 (x19 + 1))) else (clock_Day.l0 k x1 x7 x17 x18 (wrap64 (x19 + 1)))) else (none)) else (none)) else (some (mn (wrap64 (Int.tdiv x7 1440)) 84005, 0))
def clock_Day.f (k : Nat) (a0_0 : Int) (l0_1 : List (S42)) (a1 : Int) : Option (Int × Int) := (clock_checked.f k a0_0 l0_1 a1).bind fun t292 => (if t292 = 0 then ((clock_parts.f k a0_0 l0_1).bind fun t293 => (clock_Day.l0 k a1 0 t293 (t293.length : Int) 0)) else (some (0, t292)))
theorem clock_Day.mono_l : ∀ k, (∀ y0 y1 y2 y3 y4, LeO (clock_Day.l0 k y0 y1 y2 y3 y4) (clock_Day.l0 (k + 1) y0 y1 y2 y3 y4))
 | 0 => fun _ _ _ _ _ r h => by simp [clock_Day.l0] at h
 | k + 1 => by
  have ih0 := clock_Day.mono_l k
  ·
   intro y0 y1 y2 y3 y4
   unfold clock_Day.l0
   repeat' first
   | (with_reducible exact ih0 _ _ _ _ _)
   | (with_reducible exact clock_checked.mono _ _ _ _)
   | (with_reducible exact clock_parts.mono _ _ _)
   | (with_reducible exact LeO.refl _)
   | (with_reducible exact LeO.none _)
   | (with_reducible refine LeO.ite ?_ ?_)
   | (with_reducible refine LeO.bind ?_ (fun _ => ?_))
   | exact ih0 _ _ _ _ _
   | exact clock_checked.mono _ _ _ _
   | exact clock_parts.mono _ _ _
   | exact LeO.none _
   | refine LeO.ite ?_ ?_
   | refine LeO.bind ?_ (fun _ => ?_)
theorem clock_Day.mono : ∀ a0 a1 a2 k, LeO (clock_Day.f k a0 a1 a2) (clock_Day.f (k + 1) a0 a1 a2) := by
 intro a0 a1 a2 k
 have ih0 := clock_Day.mono_l k
 unfold clock_Day.f
 repeat' first
   | (with_reducible exact ih0 _ _ _ _ _)
   | (with_reducible exact clock_checked.mono _ _ _ _)
   | (with_reducible exact clock_parts.mono _ _ _)
   | (with_reducible exact LeO.refl _)
   | (with_reducible exact LeO.none _)
   | (with_reducible refine LeO.ite ?_ ?_)
   | (with_reducible refine LeO.bind ?_ (fun _ => ?_))
   | exact ih0 _ _ _ _ _
   | exact clock_checked.mono _ _ _ _
   | exact clock_parts.mono _ _ _
   | exact LeO.none _
   | refine LeO.ite ?_ ?_
   | refine LeO.bind ?_ (fun _ => ?_)
set_option maxHeartbeats 8000000 in
set_option maxRecDepth 100000 in
theorem clock_Day.calls (k : Nat) (a0_0 : Int) (A0_1 : Option Addr) (c0_1 : Nat) (l0_1 : List (S42)) (a1 : Int) (r1 : Int) (r2 : Int) (w : World) (hr0_1 : Kd.C k42 w A0_1 l0_1.length l0_1) (hc0_1 : l0_1.length ≤ c0_1) (h : clock_Day.f k a0_0 l0_1 a1 = some (r1, r2)) :
  Calls Try.prog 23 #[.agg #[.int .i64 a0_0, .slice A0_1 l0_1.length c0_1], .int .i64 a1] w fun e w' => e = .returned (.tuple #[.int .i64 r1, .int .i64 r2]) ∧ Below w.heap.size w w' := by
 have hu27 := Try.underlying27
 have hu53 := Try.underlying53
 have HR0_1 := Aside0.mk hr0_1
 have HC0_1 := Aside0.mk hc0_1
 clear hr0_1 hc0_1
 have HB := Aside0.mk (Below.refl w.heap.size w)
 have H : ((clock_checked.f k a0_0 l0_1 a1).bind fun t292 => (if t292 = 0 then ((clock_parts.f k a0_0 l0_1).bind fun t293 => (clock_Day.l0 k a1 0 t293 (t293.length : Int) 0)) else (some (0, t292)))) = some (r1, r2) := h
 clear h
 replace H := Option.bind_eq_some_iff.mp H
 obtain ⟨t292, A30, H⟩ := H
 replace H : (if t292 = 0 then ((clock_parts.f k a0_0 l0_1).bind fun t293 => (clock_Day.l0 k a1 0 t293 (t293.length : Int) 0)) else (some (0, t292))) = some (r1, r2) := H
 have A3 := Aside0.mk A30
 clear A30
 by_cases c4 : t292 = 0
 ·
  rw [if_pos c4] at H
  have c4b0 : (t292 == 0) = true := beq_iff_eq.mpr c4
  have c4b1 : (t292 != 0) = false := bne_eq_false_iff_eq.mpr c4
  clear c4
  replace H := Option.bind_eq_some_iff.mp H
  obtain ⟨t293, A50, H⟩ := H
  replace H : (clock_Day.l0 k a1 0 t293 (t293.length : Int) 0) = some (r1, r2) := H
  have A5 := Aside0.mk A50
  clear A50
  have H' := Aside0.mk H
  clear H
  go_enter Try.func23, Try.ntmps23
  go_wp2_with (first | ((with_reducible refine gate_dst (N := 2) rfl ?_); refine box_event ?hg (N := 2) ?hd (cs := #[.int .i64 a0_0, .slice A0_1 l0_1.length c0_1]) (t := 27) ?hr ?_; (case hd => rfl); (case hg => rfl); (case hr => first | (go_simp; done) | (go_simp; rfl)); intro gb291 hg w6 hbox hb; have n0_ := Aside0.mk (below_step (by repeat (first | (with_reducible first | exact HB.out | apply below_alloc | apply pw_below_drewN | apply below_drew1) | exact HB.out)) hb); have n1_ := Aside0.mk (hbox); have n2_ := Aside0.mk ((by rw [hg]; exact (below_size (by repeat (first | (with_reducible first | exact HB.out | apply below_alloc | apply pw_below_drewN | apply below_drew1) | exact HB.out))) : w.heap.size ≤ gb291)); have n3_ := Aside0.mk ((by rw [hg]; exact (below_size (by repeat (first | (with_reducible first | exact HB.out | apply below_alloc | apply pw_below_drewN | apply below_drew1) | exact HB.out))) : w.heap.size ≤ gb291)); clear HB; have HB := n0_; have BK291 := n1_; have GW291 := n2_; have GE291 := n3_; clear n0_ n1_ n2_ n3_; clear hb hbox hg; have hcz7_0 : w6.cell? ⟨gb291, 0, none⟩ = some (.int .i64 a0_0) := (blk_cell BK291.out 0).trans rfl; have hcz7_1 : w6.cell? ⟨gb291, 1, none⟩ = some (.slice A0_1 l0_1.length c0_1) := (blk_cell BK291.out 1).trans rfl; have hfz7_0 := blk_frozen BK291.out 0; have hfz7_1 := blk_frozen BK291.out 1) | ((with_reducible refine gate_callee (f := 33) rfl ?_); refine goesL_ (some 12) rfl rfl Try.func33 (by kernel_rfl) rfl #[.agg #[.int .i64 a0_0, .slice A0_1 l0_1.length c0_1], .int .i64 a1] rfl (by (try simp only [List.map_toArray, List.map_cons, List.map_nil]); first | done | rfl | (simp only [List.length_drop, List.length_take]; rfl)) ?_; (with_reducible refine (clock_checked.calls k a0_0 _ _ l0_1 a1 t292 _ ?side1 ?side2 A3.out).mono ?_); (case side1 => repeat (first | exact (Kd.C_below HR0_1.out HB.out) | (with_reducible refine Kd.C_alloc ?_ _) | (with_reducible refine Kd.C_drewN ?_ _) | (with_reducible refine Kd.C_drew ?_))); (case side2 => exact HC0_1.out); rintro e w8 ⟨rfl, hb⟩; refine ⟨_, rfl, ?_⟩; have n0_ := Aside0.mk (blk_below (g := gb291) (o := .cells #[.int .i64 a0_0, .slice A0_1 l0_1.length c0_1] 27 (0, 0)) (by (with_reducible repeat (first | refine blk_drewN ?_ _ | refine blk_drew ?_ | refine blk_alloc ?_ _)); exact BK291.out) hb); have n1_ := Aside0.mk (below_step (by repeat (first | (with_reducible first | exact HB.out | apply below_alloc | apply pw_below_drewN | apply below_drew1 | refine below_set ?_ GE291.out) | exact HB.out)) hb); clear BK291; clear HB; have BK291 := n0_; have HB := n1_; clear n0_ n1_; (try clear hb); (try clear hb2); (try clear hk); (try clear hi); have hcz9_0 : w8.cell? ⟨gb291, 0, none⟩ = some (.int .i64 a0_0) := (blk_cell BK291.out 0).trans rfl; have hcz9_1 : w8.cell? ⟨gb291, 1, none⟩ = some (.slice A0_1 l0_1.length c0_1) := (blk_cell BK291.out 1).trans rfl; have hfz9_0 := blk_frozen BK291.out 0; have hfz9_1 := blk_frozen BK291.out 1) | ((with_reducible refine gate_callee (f := 25) rfl ?_); refine goesL_ (some 17) rfl rfl Try.func25 (by kernel_rfl) rfl #[.agg #[.int .i64 a0_0, .slice A0_1 l0_1.length c0_1]] rfl (by (try simp only [List.map_toArray, List.map_cons, List.map_nil]); first | done | rfl | (simp only [List.length_drop, List.length_take]; rfl)) ?_; (with_reducible refine (clock_parts.calls k a0_0 _ _ l0_1 t293 _ ?side1 ?side2 A5.out).mono ?_); (case side1 => repeat (first | exact (Kd.C_below HR0_1.out HB.out) | (with_reducible refine Kd.C_alloc ?_ _) | (with_reducible refine Kd.C_drewN ?_ _) | (with_reducible refine Kd.C_drew ?_))); (case side2 => exact HC0_1.out); rintro e w10 ⟨v294, rfl, ho0, hb⟩; refine ⟨_, rfl, ?_⟩; have n0_ := Aside0.mk (Kd.R_lower ho0 (below_size (by repeat (first | (with_reducible first | exact HB.out | apply below_alloc | apply pw_below_drewN | apply below_drew1 | refine below_set ?_ GE291.out) | exact HB.out)))); have n1_ := Aside0.mk (blk_below (g := gb291) (o := .cells #[.int .i64 a0_0, .slice A0_1 l0_1.length c0_1] 27 (0, 0)) (by (with_reducible repeat (first | refine blk_drewN ?_ _ | refine blk_drew ?_ | refine blk_alloc ?_ _)); exact BK291.out) hb); have n2_ := Aside0.mk (below_step (by repeat (first | (with_reducible first | exact HB.out | apply below_alloc | apply pw_below_drewN | apply below_drew1 | refine below_set ?_ GE291.out) | exact HB.out)) hb); clear BK291; clear HB; have HO295 := n0_; have BK291 := n1_; have HB := n2_; clear n0_ n1_ n2_; (try clear hb); (try clear hb2); (try clear hk); (try clear hi); (try clear ho0); obtain ⟨Ao11, co11, eo11⟩ := Kd.R_slice HO295.out; subst eo11))
  go_loopg [7, 19] k (fun kq v7 v19 w' => ∃ (x7_1 : Int) (x19_1 : Int), v7 = .int .i64 x7_1 ∧ v19 = .int .i64 x19_1 ∧ Aside0 (clock_Day.l0 kq a1 x7_1 t293 (t293.length : Int) x19_1 = some (r1, r2)) ∧ Aside0 (kq ≤ k) ∧ Aside0 (Kd.R k53 53 w' w.heap.size (fun _ => True) (.slice Ao11 t293.length co11) t293) ∧ Aside0 (w'.heap[gb291]? = some (.cells #[.int .i64 a0_0, (.slice A0_1 l0_1.length c0_1)] 27 (0, 0))) ∧ Aside0 (Below w.heap.size w w'))
  case atStart => exact ⟨(0), (0), (by first | rfl | (simp; done) | (simp [*]; done)), (by first | rfl | (simp; done) | (simp [*]; done)), H', ⟨Nat.le_refl _⟩, ⟨by (with_reducible repeat (first | apply Kd.R_alloc | apply Kd.R_drewN | apply Kd.R_drew)); exact HO295.out⟩, ⟨by (with_reducible repeat (first | refine blk_drewN ?_ _ | refine blk_drew ?_ | refine blk_alloc ?_ _)); exact BK291.out⟩, ⟨by repeat (first | (with_reducible first | exact HB.out | apply below_alloc | apply pw_below_drewN | apply below_drew1 | refine below_set ?_ GE291.out) | exact HB.out)⟩⟩
  case round =>
   clear H'
   try clear c2
   try clear p2
   try clear c3
   try clear c4
   try clear c4b0
   try clear c4b1
   try clear hcz7_0
   try clear hcz7_1
   try clear hcz9_0
   try clear hcz9_1
   try clear hfz7_0
   try clear hfz7_1
   try clear hfz9_0
   try clear hfz9_1
   obtain ⟨x7_1, x19_1, rfl, rfl, HA, HK1, HO_17, BK291, HB⟩ := hrel
   cases gk with
   | zero => exact absurd HA.out (by simp [clock_Day.l0])
   | succ k1 =>
    have H := HA.out
    clear HA
    simp only [clock_Day.l0] at H
    by_cases c12 : x19_1 < (t293.length : Int)
    ·
     rw [if_pos c12] at H
     have c12b0 : decide (x19_1 < (t293.length : Int)) = true := decide_eq_true c12
     clear c12
     by_cases c13 : 0 ≤ x19_1
     ·
      rw [if_pos c13] at H
      have c13b0 : decide (0 ≤ x19_1) = true := decide_eq_true c13
      clear c13
      by_cases c14 : x19_1 < (t293.length : Int)
      ·
       rw [if_pos c14] at H
       have c14b0 : decide (x19_1 < (t293.length : Int)) = true := decide_eq_true c14
       clear c14
       by_cases c15 : ((rd_T53 t293 x19_1).f0) ≤ a1
       ·
        rw [if_pos c15] at H
        have c15b0 : decide (((rd_T53 t293 x19_1).f0) ≤ a1) = true := decide_eq_true c15
        clear c15
        obtain ⟨ji16, hji16⟩ : ∃ j_ : Int, (mn a1 (wrap64 (((rd_T53 t293 x19_1).f1) - 1))) = j_ := ⟨_, rfl⟩
        replace H : (clock_Day.l0 k1 a1 (mx x7_1 (wrap64 ((ji16) + ((rd_T53 t293 x19_1).f2)))) t293 (t293.length : Int) (wrap64 (x19_1 + 1))) = some (r1, r2) := by first | (rw [hji16] at H; exact H) | (simp only [hji16] at H ⊢; exact H)
        have hji16_ : (if (wrap64 (((rd_T53 t293 x19_1).f1) - 1)) < a1 then (wrap64 (((rd_T53 t293 x19_1).f1) - 1)) else a1) = ji16 := hji16
        obtain ⟨ji17, hji17⟩ : ∃ j_ : Int, (mx x7_1 (wrap64 ((ji16) + ((rd_T53 t293 x19_1).f2)))) = j_ := ⟨_, rfl⟩
        replace H : (clock_Day.l0 k1 a1 ji17 t293 (t293.length : Int) (wrap64 (x19_1 + 1))) = some (r1, r2) := by first | (rw [hji17] at H; exact H) | (simp only [hji17] at H ⊢; exact H)
        have hji17_ : (if x7_1 < (wrap64 ((ji16) + ((rd_T53 t293 x19_1).f2))) then (wrap64 ((ji16) + ((rd_T53 t293 x19_1).f2))) else x7_1) = ji17 := hji17
        have H' := Aside0.mk H
        clear H
        have p296 : 0 ≤ (x19_1 : Int) := of_decide_eq_true (by first | (with_reducible assumption) | assumption)
        have q296 : x19_1 < (t293.length : Int) := of_decide_eq_true (by first | (with_reducible assumption) | assumption)
        obtain ⟨ad296, e296, hx296_0, hx296_1, hx296_2⟩ := at_T53 (Kd.R_reads' HO_17.out).2.2 x19_1 p296 q296
        cases e296
        replace p296 := eq_true p296
        replace q296 := eq_true q296
        go_wp2_with (first | ((with_reducible refine gate_dst (N := 9) rfl ?_); refine box_event ?hg (N := 9) ?hd (cs := #[.int .i64 0, .int .i64 0, .int .i64 0]) (t := 53) ?hr ?_; (case hd => rfl); (case hg => rfl); (case hr => first | (go_simp; done) | (go_simp; rfl)); intro gb297 hg w18 hbox hb; have n0_ := Aside0.mk (Kd.R_below (Kd.R_elderB (by (with_reducible repeat (first | apply Kd.R_alloc | apply Kd.R_drewN | apply Kd.R_drew)); exact HO_17.out) gb297 (Nat.le_of_eq hg.symm)) hb); have n1_ := Aside0.mk (blk_below (g := gb291) (o := .cells #[.int .i64 a0_0, .slice A0_1 l0_1.length c0_1] 27 (0, 0)) (by (with_reducible repeat (first | refine blk_drewN ?_ _ | refine blk_drew ?_ | refine blk_alloc ?_ _)); exact BK291.out) hb); have n2_ := Aside0.mk (below_step (by repeat (first | (with_reducible first | exact HB.out | apply below_alloc | apply pw_below_drewN | apply below_drew1 | refine below_set ?_ GE291.out) | exact HB.out)) hb); have n3_ := Aside0.mk (hbox); have n4_ := Aside0.mk ((by rw [hg]; exact (below_size (by repeat (first | (with_reducible first | exact HB.out | apply below_alloc | apply pw_below_drewN | apply below_drew1 | refine below_set ?_ GE291.out) | exact HB.out))) : w.heap.size ≤ gb297)); have n5_ := Aside0.mk ((by rw [hg]; exact (below_size (by repeat (first | (with_reducible first | exact HB.out | apply below_alloc | apply pw_below_drewN | apply below_drew1 | refine below_set ?_ GE291.out) | exact HB.out))) : w.heap.size ≤ gb297)); have n6_ := Aside0.mk ((by rw [hg]; exact Nat.ne_of_lt (blk_lt (g := gb291) (o := .cells #[.int .i64 a0_0, .slice A0_1 l0_1.length c0_1] 27 (0, 0)) (by (with_reducible repeat (first | refine blk_drewN ?_ _ | refine blk_drew ?_ | refine blk_alloc ?_ _)); exact BK291.out)) : gb291 ≠ gb297)); have n7_ := Aside0.mk ((by rw [hg]; exact Nat.ne_of_gt (blk_lt (g := gb291) (o := .cells #[.int .i64 a0_0, .slice A0_1 l0_1.length c0_1] 27 (0, 0)) (by (with_reducible repeat (first | refine blk_drewN ?_ _ | refine blk_drew ?_ | refine blk_alloc ?_ _)); exact BK291.out)) : gb297 ≠ gb291)); clear HO_17; clear BK291; clear HB; have HO_17 := n0_; have BK291 := n1_; have HB := n2_; have BK297 := n3_; have GW297 := n4_; have GE297 := n5_; have NB291_297 := n6_; have NB297_291 := n7_; clear n0_ n1_ n2_ n3_ n4_ n5_ n6_ n7_; clear hb hbox hg; have hnb19 := NB297_291.out; have hnc19 := NB291_297.out; have hcz20_0 : w18.cell? ⟨gb297, 0, none⟩ = some (.int .i64 0) := (blk_cell BK297.out 0).trans rfl; have hcz20_1 : w18.cell? ⟨gb297, 1, none⟩ = some (.int .i64 0) := (blk_cell BK297.out 1).trans rfl; have hcz20_2 : w18.cell? ⟨gb297, 2, none⟩ = some (.int .i64 0) := (blk_cell BK297.out 2).trans rfl; have hfz20_0 := blk_frozen BK297.out 0; have hfz20_1 := blk_frozen BK297.out 1; have hfz20_2 := blk_frozen BK297.out 2))
        go_roundg k1
        case measure => have := HK1.out; omega
        case rel => exact ⟨(ji17), (wrap64 (x19_1 + 1)), (by first | rfl | (simp; done) | (simp only [← hji17] <;> (first | rfl | simp)) | (simp [*]; done)), (by first | rfl | (simp; done) | (simp [*]; done)), H', ⟨by have := HK1.out; omega⟩, ⟨by (with_reducible repeat (first | apply Kd.R_alloc | apply Kd.R_drewN | apply Kd.R_drew)); exact Kd.R_mono (Kd.R_far (p := ⟨gb297, 2, none⟩) (Kd.R_far (p := ⟨gb297, 1, none⟩) (Kd.R_far (p := ⟨gb297, 0, none⟩) (Kd.R_mono HO_17.out (fun k_ hk => (⟨hk, hk.2⟩ : _ ∧ k_ ≠ gb297))) (fun _ hk => hk.2) (.int .i64 ((rd_T53 t293 x19_1).f0))) (fun _ hk => hk.2) (.int .i64 ((rd_T53 t293 x19_1).f1))) (fun _ hk => hk.2) (.int .i64 ((rd_T53 t293 x19_1).f2))) (fun _ hk => trivial)⟩, ⟨by (with_reducible repeat (first | refine blk_drewN ?_ _ | refine blk_drew ?_ | refine blk_alloc ?_ _)); refine blk_far ?_ NB291_297.out _; (with_reducible repeat (first | refine blk_drewN ?_ _ | refine blk_drew ?_ | refine blk_alloc ?_ _)); refine blk_far ?_ NB291_297.out _; (with_reducible repeat (first | refine blk_drewN ?_ _ | refine blk_drew ?_ | refine blk_alloc ?_ _)); refine blk_far ?_ NB291_297.out _; (with_reducible repeat (first | refine blk_drewN ?_ _ | refine blk_drew ?_ | refine blk_alloc ?_ _)); exact BK291.out⟩, ⟨by repeat (first | (with_reducible first | exact HB.out | apply below_alloc | apply pw_below_drewN | apply below_drew1 | refine below_set ?_ GE291.out | refine below_set ?_ GE297.out) | exact HB.out)⟩⟩
       ·
        rw [if_neg c15] at H
        have c15b0 : decide (((rd_T53 t293 x19_1).f0) ≤ a1) = false := decide_eq_false c15
        clear c15
        have H' := Aside0.mk H
        clear H
        have p296 : 0 ≤ (x19_1 : Int) := of_decide_eq_true (by first | (with_reducible assumption) | assumption)
        have q296 : x19_1 < (t293.length : Int) := of_decide_eq_true (by first | (with_reducible assumption) | assumption)
        obtain ⟨ad296, e296, hx296_0, hx296_1, hx296_2⟩ := at_T53 (Kd.R_reads' HO_17.out).2.2 x19_1 p296 q296
        cases e296
        replace p296 := eq_true p296
        replace q296 := eq_true q296
        go_wp2_with (first | ((with_reducible refine gate_dst (N := 9) rfl ?_); refine box_event ?hg (N := 9) ?hd (cs := #[.int .i64 0, .int .i64 0, .int .i64 0]) (t := 53) ?hr ?_; (case hd => rfl); (case hg => rfl); (case hr => first | (go_simp; done) | (go_simp; rfl)); intro gb297 hg w21 hbox hb; have n0_ := Aside0.mk (Kd.R_below (Kd.R_elderB (by (with_reducible repeat (first | apply Kd.R_alloc | apply Kd.R_drewN | apply Kd.R_drew)); exact HO_17.out) gb297 (Nat.le_of_eq hg.symm)) hb); have n1_ := Aside0.mk (blk_below (g := gb291) (o := .cells #[.int .i64 a0_0, .slice A0_1 l0_1.length c0_1] 27 (0, 0)) (by (with_reducible repeat (first | refine blk_drewN ?_ _ | refine blk_drew ?_ | refine blk_alloc ?_ _)); exact BK291.out) hb); have n2_ := Aside0.mk (below_step (by repeat (first | (with_reducible first | exact HB.out | apply below_alloc | apply pw_below_drewN | apply below_drew1 | refine below_set ?_ GE291.out) | exact HB.out)) hb); have n3_ := Aside0.mk (hbox); have n4_ := Aside0.mk ((by rw [hg]; exact (below_size (by repeat (first | (with_reducible first | exact HB.out | apply below_alloc | apply pw_below_drewN | apply below_drew1 | refine below_set ?_ GE291.out) | exact HB.out))) : w.heap.size ≤ gb297)); have n5_ := Aside0.mk ((by rw [hg]; exact (below_size (by repeat (first | (with_reducible first | exact HB.out | apply below_alloc | apply pw_below_drewN | apply below_drew1 | refine below_set ?_ GE291.out) | exact HB.out))) : w.heap.size ≤ gb297)); have n6_ := Aside0.mk ((by rw [hg]; exact Nat.ne_of_lt (blk_lt (g := gb291) (o := .cells #[.int .i64 a0_0, .slice A0_1 l0_1.length c0_1] 27 (0, 0)) (by (with_reducible repeat (first | refine blk_drewN ?_ _ | refine blk_drew ?_ | refine blk_alloc ?_ _)); exact BK291.out)) : gb291 ≠ gb297)); have n7_ := Aside0.mk ((by rw [hg]; exact Nat.ne_of_gt (blk_lt (g := gb291) (o := .cells #[.int .i64 a0_0, .slice A0_1 l0_1.length c0_1] 27 (0, 0)) (by (with_reducible repeat (first | refine blk_drewN ?_ _ | refine blk_drew ?_ | refine blk_alloc ?_ _)); exact BK291.out)) : gb297 ≠ gb291)); clear HO_17; clear BK291; clear HB; have HO_17 := n0_; have BK291 := n1_; have HB := n2_; have BK297 := n3_; have GW297 := n4_; have GE297 := n5_; have NB291_297 := n6_; have NB297_291 := n7_; clear n0_ n1_ n2_ n3_ n4_ n5_ n6_ n7_; clear hb hbox hg; have hnb22 := NB297_291.out; have hnc22 := NB291_297.out; have hcz23_0 : w21.cell? ⟨gb297, 0, none⟩ = some (.int .i64 0) := (blk_cell BK297.out 0).trans rfl; have hcz23_1 : w21.cell? ⟨gb297, 1, none⟩ = some (.int .i64 0) := (blk_cell BK297.out 1).trans rfl; have hcz23_2 : w21.cell? ⟨gb297, 2, none⟩ = some (.int .i64 0) := (blk_cell BK297.out 2).trans rfl; have hfz23_0 := blk_frozen BK297.out 0; have hfz23_1 := blk_frozen BK297.out 1; have hfz23_2 := blk_frozen BK297.out 2))
        go_roundg k1
        case measure => have := HK1.out; omega
        case rel => exact ⟨(x7_1), (wrap64 (x19_1 + 1)), (by first | rfl | (simp; done) | (simp [*]; done)), (by first | rfl | (simp; done) | (simp [*]; done)), H', ⟨by have := HK1.out; omega⟩, ⟨by (with_reducible repeat (first | apply Kd.R_alloc | apply Kd.R_drewN | apply Kd.R_drew)); exact Kd.R_mono (Kd.R_far (p := ⟨gb297, 2, none⟩) (Kd.R_far (p := ⟨gb297, 1, none⟩) (Kd.R_far (p := ⟨gb297, 0, none⟩) (Kd.R_mono HO_17.out (fun k_ hk => (⟨hk, hk.2⟩ : _ ∧ k_ ≠ gb297))) (fun _ hk => hk.2) (.int .i64 ((rd_T53 t293 x19_1).f0))) (fun _ hk => hk.2) (.int .i64 ((rd_T53 t293 x19_1).f1))) (fun _ hk => hk.2) (.int .i64 ((rd_T53 t293 x19_1).f2))) (fun _ hk => trivial)⟩, ⟨by (with_reducible repeat (first | refine blk_drewN ?_ _ | refine blk_drew ?_ | refine blk_alloc ?_ _)); refine blk_far ?_ NB291_297.out _; (with_reducible repeat (first | refine blk_drewN ?_ _ | refine blk_drew ?_ | refine blk_alloc ?_ _)); refine blk_far ?_ NB291_297.out _; (with_reducible repeat (first | refine blk_drewN ?_ _ | refine blk_drew ?_ | refine blk_alloc ?_ _)); refine blk_far ?_ NB291_297.out _; (with_reducible repeat (first | refine blk_drewN ?_ _ | refine blk_drew ?_ | refine blk_alloc ?_ _)); exact BK291.out⟩, ⟨by repeat (first | (with_reducible first | exact HB.out | apply below_alloc | apply pw_below_drewN | apply below_drew1 | refine below_set ?_ GE291.out | refine below_set ?_ GE297.out) | exact HB.out)⟩⟩
      ·
       rw [if_neg c14] at H
       exact absurd H (by simp)
     ·
      rw [if_neg c13] at H
      exact absurd H (by simp)
    ·
     rw [if_neg c12] at H
     have c12b0 : decide (x19_1 < (t293.length : Int)) = false := decide_eq_false c12
     clear c12
     obtain ⟨ji24, hji24⟩ : ∃ j_ : Int, (mn (wrap64 (Int.tdiv x7_1 1440)) 84005) = j_ := ⟨_, rfl⟩
     replace H : (some (ji24, 0)) = some (r1, r2) := by first | (rw [hji24] at H; exact H) | (simp only [hji24] at H ⊢; exact H)
     have hji24_ : (if 84005 < (wrap64 (Int.tdiv x7_1 1440)) then 84005 else (wrap64 (Int.tdiv x7_1 1440))) = ji24 := hji24
     simp only [Option.some.injEq, Prod.mk.injEq] at H
     obtain ⟨rfl, rfl⟩ := H
     go_wp2
     go_ret2
     exact ⟨by first | rfl | (simp [errW_none, errW_some] <;> rfl) | (simp only [← hji24]; first | rfl | (simp [errW_none, errW_some] <;> rfl)) | (simp [*, errW_none, errW_some] <;> rfl), by repeat (first | (with_reducible first | exact HB.out | apply below_alloc | apply pw_below_drewN | apply below_drew1 | refine below_set ?_ GE291.out) | exact HB.out)⟩
 ·
  rw [if_neg c4] at H
  have c4b0 : (t292 == 0) = false := beq_eq_false_iff_ne.mpr c4
  have c4b1 : (t292 != 0) = true := bne_iff_ne.mpr c4
  simp only [Option.some.injEq, Prod.mk.injEq] at H
  obtain ⟨rfl, rfl⟩ := H
  go_enter Try.func23, Try.ntmps23
  go_wp2_with (first | ((with_reducible refine gate_dst (N := 2) rfl ?_); refine box_event ?hg (N := 2) ?hd (cs := #[.int .i64 a0_0, .slice A0_1 l0_1.length c0_1]) (t := 27) ?hr ?_; (case hd => rfl); (case hg => rfl); (case hr => first | (go_simp; done) | (go_simp; rfl)); intro gb291 hg w25 hbox hb; have n0_ := Aside0.mk (below_step (by repeat (first | (with_reducible first | exact HB.out | apply below_alloc | apply pw_below_drewN | apply below_drew1) | exact HB.out)) hb); have n1_ := Aside0.mk (hbox); have n2_ := Aside0.mk ((by rw [hg]; exact (below_size (by repeat (first | (with_reducible first | exact HB.out | apply below_alloc | apply pw_below_drewN | apply below_drew1) | exact HB.out))) : w.heap.size ≤ gb291)); have n3_ := Aside0.mk ((by rw [hg]; exact (below_size (by repeat (first | (with_reducible first | exact HB.out | apply below_alloc | apply pw_below_drewN | apply below_drew1) | exact HB.out))) : w.heap.size ≤ gb291)); clear HB; have HB := n0_; have BK291 := n1_; have GW291 := n2_; have GE291 := n3_; clear n0_ n1_ n2_ n3_; clear hb hbox hg; have hcz26_0 : w25.cell? ⟨gb291, 0, none⟩ = some (.int .i64 a0_0) := (blk_cell BK291.out 0).trans rfl; have hcz26_1 : w25.cell? ⟨gb291, 1, none⟩ = some (.slice A0_1 l0_1.length c0_1) := (blk_cell BK291.out 1).trans rfl; have hfz26_0 := blk_frozen BK291.out 0; have hfz26_1 := blk_frozen BK291.out 1) | ((with_reducible refine gate_callee (f := 33) rfl ?_); refine goesL_ (some 12) rfl rfl Try.func33 (by kernel_rfl) rfl #[.agg #[.int .i64 a0_0, .slice A0_1 l0_1.length c0_1], .int .i64 a1] rfl (by (try simp only [List.map_toArray, List.map_cons, List.map_nil]); first | done | rfl | (simp only [List.length_drop, List.length_take]; rfl)) ?_; (with_reducible refine (clock_checked.calls k a0_0 _ _ l0_1 a1 t292 _ ?side1 ?side2 A3.out).mono ?_); (case side1 => repeat (first | exact (Kd.C_below HR0_1.out HB.out) | (with_reducible refine Kd.C_alloc ?_ _) | (with_reducible refine Kd.C_drewN ?_ _) | (with_reducible refine Kd.C_drew ?_))); (case side2 => exact HC0_1.out); rintro e w27 ⟨rfl, hb⟩; refine ⟨_, rfl, ?_⟩; have n0_ := Aside0.mk (blk_below (g := gb291) (o := .cells #[.int .i64 a0_0, .slice A0_1 l0_1.length c0_1] 27 (0, 0)) (by (with_reducible repeat (first | refine blk_drewN ?_ _ | refine blk_drew ?_ | refine blk_alloc ?_ _)); exact BK291.out) hb); have n1_ := Aside0.mk (below_step (by repeat (first | (with_reducible first | exact HB.out | apply below_alloc | apply pw_below_drewN | apply below_drew1 | refine below_set ?_ GE291.out) | exact HB.out)) hb); clear BK291; clear HB; have BK291 := n0_; have HB := n1_; clear n0_ n1_; (try clear hb); (try clear hb2); (try clear hk); (try clear hi)))
  go_ret2
  exact ⟨by first | rfl | (simp [errW_none, errW_some] <;> rfl) | (simp [*, errW_none, errW_some] <;> rfl), by repeat (first | (with_reducible first | exact HB.out | apply below_alloc | apply pw_below_drewN | apply below_drew1 | refine below_set ?_ GE291.out) | exact HB.out)⟩

end Go.Proofs.Ytjfdhlagnimkmaa.P
