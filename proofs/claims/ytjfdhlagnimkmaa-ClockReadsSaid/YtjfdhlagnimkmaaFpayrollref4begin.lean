/- Proved here: that the Go function payrollref4_begin computes the plain function of that name (the machine side of the laws, reworked from a print; no condition of its own). -/
import Derived.Test.YtjfdhlagnimkmaaProg
import Derived.Test.YtjfdhlagnimkmaaV1
import Derived.Test.YtjfdhlagnimkmaaFPRE0
import Derived.Test.YtjfdhlagnimkmaaFPRE1
import Derived.Test.YtjfdhlagnimkmaaFpayrollref4first
namespace Go.Proofs.Ytjfdhlagnimkmaa.P
open Go.RowKit Go.Proofs.YtjfdhlagnimkmaaW.PrintWords Go.Proofs.YtjfdhlagnimkmaaW.PrintLast Go.Proofs.YtjfdhlagnimkmaaW.PrintMore
attribute [local go_sem] max2_int min2_int max_two min_two max_three min_three max_four min_four   -- for this text's walks alone
set_option linter.unusedVariables false
set_option linter.unusedSimpArgs false

def payrollref4_begin.f (k : Nat) (a0_0 : Int) (l0_1 : List (S42)) (a1 : Int) : Option (Int) := if a1 = 0 then (some 0) else (if a1 = 84006 then (some 120968640) else ((payrollref4_first.f k a0_0 l0_1 (wrap64 (a1 * 1440))).bind fun t336 => (some t336)))
theorem payrollref4_begin.mono : ∀ a0 a1 a2 k, LeO (payrollref4_begin.f k a0 a1 a2) (payrollref4_begin.f (k + 1) a0 a1 a2) := by
 intro a0 a1 a2 k
 unfold payrollref4_begin.f
 repeat' first
   | (with_reducible exact payrollref4_first.mono _ _ _ _)
   | (with_reducible exact LeO.refl _)
   | (with_reducible exact LeO.none _)
   | (with_reducible refine LeO.ite ?_ ?_)
   | (with_reducible refine LeO.bind ?_ (fun _ => ?_))
   | exact payrollref4_first.mono _ _ _ _
   | exact LeO.none _
   | refine LeO.ite ?_ ?_
   | refine LeO.bind ?_ (fun _ => ?_)
set_option maxHeartbeats 8000000 in
set_option maxRecDepth 100000 in
theorem payrollref4_begin.calls (k : Nat) (a0_0 : Int) (A0_1 : Option Addr) (c0_1 : Nat) (l0_1 : List (S42)) (a1 : Int) (r : Int) (w : World) (hr0_1 : Kd.C k42 w A0_1 l0_1.length l0_1) (hc0_1 : l0_1.length ≤ c0_1) (h : payrollref4_begin.f k a0_0 l0_1 a1 = some r) :
  Calls Try.prog 39 #[.agg #[.int .i64 a0_0, .slice A0_1 l0_1.length c0_1], .int .i64 a1] w fun e w' => e = .returned (.int .i64 r) ∧ Below w.heap.size w w' := by
 have hu27 := Try.underlying27
 have HR0_1 := Aside0.mk hr0_1
 have HC0_1 := Aside0.mk hc0_1
 clear hr0_1 hc0_1
 have HB := Aside0.mk (Below.refl w.heap.size w)
 have H : (if a1 = 0 then (some 0) else (if a1 = 84006 then (some 120968640) else ((payrollref4_first.f k a0_0 l0_1 (wrap64 (a1 * 1440))).bind fun t336 => (some t336)))) = some r := h
 clear h
 by_cases c3 : a1 = 0
 ·
  rw [if_pos c3] at H
  have c3b0 : (a1 == 0) = true := beq_iff_eq.mpr c3
  have c3b1 : (a1 != 0) = false := bne_eq_false_iff_eq.mpr c3
  clear c3
  obtain rfl := Option.some.inj H
  go_enter Try.func39, Try.ntmps39
  go_wp2_with (first | ((with_reducible refine gate_dst (N := 2) rfl ?_); refine box_event ?hg (N := 2) ?hd (cs := #[.int .i64 a0_0, .slice A0_1 l0_1.length c0_1]) (t := 27) ?hr ?_; (case hd => rfl); (case hg => rfl); (case hr => first | (go_simp; done) | (go_simp; rfl)); intro gb335 hg w4 hbox hb; have n0_ := Aside0.mk (below_step (by repeat (first | (with_reducible first | exact HB.out | apply below_alloc | apply pw_below_drewN | apply below_drew1) | exact HB.out)) hb); have n1_ := Aside0.mk (hbox); have n2_ := Aside0.mk ((by rw [hg]; exact (below_size (by repeat (first | (with_reducible first | exact HB.out | apply below_alloc | apply pw_below_drewN | apply below_drew1) | exact HB.out))) : w.heap.size ≤ gb335)); have n3_ := Aside0.mk ((by rw [hg]; exact (below_size (by repeat (first | (with_reducible first | exact HB.out | apply below_alloc | apply pw_below_drewN | apply below_drew1) | exact HB.out))) : w.heap.size ≤ gb335)); clear HB; have HB := n0_; have BK335 := n1_; have GW335 := n2_; have GE335 := n3_; clear n0_ n1_ n2_ n3_; clear hb hbox hg))
  go_ret
  exact ⟨by first | rfl | (simp [errW_none, errW_some] <;> rfl) | (simp [*, errW_none, errW_some] <;> rfl), by repeat (first | (with_reducible first | exact HB.out | apply below_alloc | apply pw_below_drewN | apply below_drew1 | refine below_set ?_ GE335.out) | exact HB.out)⟩
 ·
  rw [if_neg c3] at H
  have c3b0 : (a1 == 0) = false := beq_eq_false_iff_ne.mpr c3
  have c3b1 : (a1 != 0) = true := bne_iff_ne.mpr c3
  by_cases c5 : a1 = 84006
  ·
   rw [if_pos c5] at H
   have c5b0 : (a1 == 84006) = true := beq_iff_eq.mpr c5
   have c5b1 : (a1 != 84006) = false := bne_eq_false_iff_eq.mpr c5
   clear c5
   obtain rfl := Option.some.inj H
   go_enter Try.func39, Try.ntmps39
   go_wp2_with (first | ((with_reducible refine gate_dst (N := 2) rfl ?_); refine box_event ?hg (N := 2) ?hd (cs := #[.int .i64 a0_0, .slice A0_1 l0_1.length c0_1]) (t := 27) ?hr ?_; (case hd => rfl); (case hg => rfl); (case hr => first | (go_simp; done) | (go_simp; rfl)); intro gb335 hg w6 hbox hb; have n0_ := Aside0.mk (below_step (by repeat (first | (with_reducible first | exact HB.out | apply below_alloc | apply pw_below_drewN | apply below_drew1) | exact HB.out)) hb); have n1_ := Aside0.mk (hbox); have n2_ := Aside0.mk ((by rw [hg]; exact (below_size (by repeat (first | (with_reducible first | exact HB.out | apply below_alloc | apply pw_below_drewN | apply below_drew1) | exact HB.out))) : w.heap.size ≤ gb335)); have n3_ := Aside0.mk ((by rw [hg]; exact (below_size (by repeat (first | (with_reducible first | exact HB.out | apply below_alloc | apply pw_below_drewN | apply below_drew1) | exact HB.out))) : w.heap.size ≤ gb335)); clear HB; have HB := n0_; have BK335 := n1_; have GW335 := n2_; have GE335 := n3_; clear n0_ n1_ n2_ n3_; clear hb hbox hg))
   go_ret
   exact ⟨by first | rfl | (simp [errW_none, errW_some] <;> rfl) | (simp [*, errW_none, errW_some] <;> rfl), by repeat (first | (with_reducible first | exact HB.out | apply below_alloc | apply pw_below_drewN | apply below_drew1 | refine below_set ?_ GE335.out) | exact HB.out)⟩
  ·
   rw [if_neg c5] at H
   have c5b0 : (a1 == 84006) = false := beq_eq_false_iff_ne.mpr c5
   have c5b1 : (a1 != 84006) = true := bne_iff_ne.mpr c5
   replace H := Option.bind_eq_some_iff.mp H
   obtain ⟨t336, A70, H⟩ := H
   replace H : (some t336) = some r := H
   have A7 := Aside0.mk A70
   clear A70
   obtain rfl := Option.some.inj H
   go_enter Try.func39, Try.ntmps39
   go_wp2_with (first | ((with_reducible refine gate_dst (N := 2) rfl ?_); refine box_event ?hg (N := 2) ?hd (cs := #[.int .i64 a0_0, .slice A0_1 l0_1.length c0_1]) (t := 27) ?hr ?_; (case hd => rfl); (case hg => rfl); (case hr => first | (go_simp; done) | (go_simp; rfl)); intro gb335 hg w8 hbox hb; have n0_ := Aside0.mk (below_step (by repeat (first | (with_reducible first | exact HB.out | apply below_alloc | apply pw_below_drewN | apply below_drew1) | exact HB.out)) hb); have n1_ := Aside0.mk (hbox); have n2_ := Aside0.mk ((by rw [hg]; exact (below_size (by repeat (first | (with_reducible first | exact HB.out | apply below_alloc | apply pw_below_drewN | apply below_drew1) | exact HB.out))) : w.heap.size ≤ gb335)); have n3_ := Aside0.mk ((by rw [hg]; exact (below_size (by repeat (first | (with_reducible first | exact HB.out | apply below_alloc | apply pw_below_drewN | apply below_drew1) | exact HB.out))) : w.heap.size ≤ gb335)); clear HB; have HB := n0_; have BK335 := n1_; have GW335 := n2_; have GE335 := n3_; clear n0_ n1_ n2_ n3_; clear hb hbox hg; have hcz9_0 : w8.cell? ⟨gb335, 0, none⟩ = some (.int .i64 a0_0) := (blk_cell BK335.out 0).trans rfl; have hcz9_1 : w8.cell? ⟨gb335, 1, none⟩ = some (.slice A0_1 l0_1.length c0_1) := (blk_cell BK335.out 1).trans rfl; have hfz9_0 := blk_frozen BK335.out 0; have hfz9_1 := blk_frozen BK335.out 1) | ((with_reducible refine gate_callee (f := 38) rfl ?_); refine goesL_ (some 13) rfl rfl Try.func38 (by kernel_rfl) rfl #[.agg #[.int .i64 a0_0, .slice A0_1 l0_1.length c0_1], .int .i64 (wrap64 (a1 * 1440))] rfl (by (try simp only [List.map_toArray, List.map_cons, List.map_nil]); first | done | rfl | (simp only [List.length_drop, List.length_take]; rfl)) ?_; (with_reducible refine (payrollref4_first.calls k a0_0 _ _ l0_1 (wrap64 (a1 * 1440)) t336 _ ?side1 ?side2 A7.out).mono ?_); (case side1 => repeat (first | exact (Kd.C_below HR0_1.out HB.out) | (with_reducible refine Kd.C_alloc ?_ _) | (with_reducible refine Kd.C_drewN ?_ _) | (with_reducible refine Kd.C_drew ?_))); (case side2 => exact HC0_1.out); rintro e w10 ⟨rfl, hb⟩; refine ⟨_, rfl, ?_⟩; have n0_ := Aside0.mk (blk_below (g := gb335) (o := .cells #[.int .i64 a0_0, .slice A0_1 l0_1.length c0_1] 27 (0, 0)) (by (with_reducible repeat (first | refine blk_drewN ?_ _ | refine blk_drew ?_ | refine blk_alloc ?_ _)); exact BK335.out) hb); have n1_ := Aside0.mk (below_step (by repeat (first | (with_reducible first | exact HB.out | apply below_alloc | apply pw_below_drewN | apply below_drew1 | refine below_set ?_ GE335.out) | exact HB.out)) hb); clear BK335; clear HB; have BK335 := n0_; have HB := n1_; clear n0_ n1_; (try clear hb); (try clear hb2); (try clear hk); (try clear hi)))
   go_ret
   exact ⟨by first | rfl | (simp [errW_none, errW_some] <;> rfl) | (simp [*, errW_none, errW_some] <;> rfl), by repeat (first | (with_reducible first | exact HB.out | apply below_alloc | apply pw_below_drewN | apply below_drew1 | refine below_set ?_ GE335.out) | exact HB.out)⟩

end Go.Proofs.Ytjfdhlagnimkmaa.P
