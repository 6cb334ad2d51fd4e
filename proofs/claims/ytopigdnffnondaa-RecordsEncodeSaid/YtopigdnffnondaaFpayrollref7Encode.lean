/- Proved here: that the Go function payrollref7_Encode computes the plain function of that name (the machine side of the laws, reworked from a print; no condition of its own). -/
import Derived.Test.YtopigdnffnondaaProg
import Derived.Test.YtopigdnffnondaaV1
import Derived.Test.YtopigdnffnondaaFPRE0
import Derived.Test.YtopigdnffnondaaFpayrollref7Valid
import Derived.Test.YtopigdnffnondaaFpayrollref7frame
namespace Go.Proofs.Ytopigdnffnondaa.P
open Go.RowKit Go.Proofs.YtopigdnffnondaaW.PrintWords Go.Proofs.YtopigdnffnondaaW.PrintLast Go.Proofs.YtopigdnffnondaaW.PrintMore
attribute [local go_sem] max2_int min2_int max_two min_two max_three min_three max_four min_four   -- for this text's walks alone
set_option linter.unusedVariables false
set_option linter.unusedSimpArgs false

def payrollref7_Encode.f (k : Nat) (a0_0 : Int) (a0_1 : Int) (a0_2 : Int) (a0_3 : Int) (a0_4 : Int) (a0_5 : Int) (a0_6 : Int) : Option (List Int × Int) := (payrollref7_Valid.f k a0_0 a0_1 a0_2 a0_3 a0_4 a0_5 a0_6).bind fun t241 => (if t241 = true then ((payrollref7_frame.f k a0_0 a0_1 a0_2 a0_3 a0_4 a0_5 a0_6).bind fun t242 => (some (t242, 0))) else (some (([] : List Int), 1)))
theorem payrollref7_Encode.mono : ∀ a0 a1 a2 a3 a4 a5 a6 k, LeO (payrollref7_Encode.f k a0 a1 a2 a3 a4 a5 a6) (payrollref7_Encode.f (k + 1) a0 a1 a2 a3 a4 a5 a6) := by
 intro a0 a1 a2 a3 a4 a5 a6 k
 unfold payrollref7_Encode.f
 repeat' first
   | (with_reducible exact payrollref7_Valid.mono _ _ _ _ _ _ _ _)
   | (with_reducible exact payrollref7_frame.mono _ _ _ _ _ _ _ _)
   | (with_reducible exact LeO.refl _)
   | (with_reducible exact LeO.none _)
   | (with_reducible refine LeO.ite ?_ ?_)
   | (with_reducible refine LeO.bind ?_ (fun _ => ?_))
   | exact payrollref7_Valid.mono _ _ _ _ _ _ _ _
   | exact payrollref7_frame.mono _ _ _ _ _ _ _ _
   | exact LeO.none _
   | refine LeO.ite ?_ ?_
   | refine LeO.bind ?_ (fun _ => ?_)
set_option maxHeartbeats 8000000 in
set_option maxRecDepth 100000 in
theorem payrollref7_Encode.calls (k : Nat) (a0_0 : Int) (a0_1 : Int) (a0_2 : Int) (a0_3 : Int) (a0_4 : Int) (a0_5 : Int) (a0_6 : Int) (r1 : List Int) (r2 : Int) (w : World) (h : payrollref7_Encode.f k a0_0 a0_1 a0_2 a0_3 a0_4 a0_5 a0_6 = some (r1, r2)) :
  Calls Try.prog 13 #[.agg #[.int .i64 a0_0, .int .i64 a0_1, .int .i64 a0_2, .int .i64 a0_3, .int .i64 a0_4, .int .i64 a0_5, .int .i64 a0_6]] w fun e w' => ∃ v0_ : Value, e = .returned (.tuple #[v0_, .int .i64 r2]) ∧ Kd.R (Kd.int .u8) 5 w' w.heap.size (fun _ => True) v0_ r1 ∧ Below w.heap.size w w' := by
 have hu26 := Try.underlying26
 have HB := Aside0.mk (Below.refl w.heap.size w)
 have H : ((payrollref7_Valid.f k a0_0 a0_1 a0_2 a0_3 a0_4 a0_5 a0_6).bind fun t241 => (if t241 = true then ((payrollref7_frame.f k a0_0 a0_1 a0_2 a0_3 a0_4 a0_5 a0_6).bind fun t242 => (some (t242, 0))) else (some (([] : List Int), 1)))) = some (r1, r2) := h
 clear h
 replace H := Option.bind_eq_some_iff.mp H
 obtain ⟨t241, A20, H⟩ := H
 replace H : (if t241 = true then ((payrollref7_frame.f k a0_0 a0_1 a0_2 a0_3 a0_4 a0_5 a0_6).bind fun t242 => (some (t242, 0))) else (some (([] : List Int), 1))) = some (r1, r2) := H
 have A2 := Aside0.mk A20
 clear A20
 by_cases c3 : t241 = true
 ·
  subst c3
  have H1 : ((payrollref7_frame.f k a0_0 a0_1 a0_2 a0_3 a0_4 a0_5 a0_6).bind fun t242 => (some (t242, 0))) = some (r1, r2) := by rw [if_pos rfl] at H; exact H
  clear H
  have H := H1
  clear H1
  replace H := Option.bind_eq_some_iff.mp H
  obtain ⟨t242, A40, H⟩ := H
  replace H : (some (t242, 0)) = some (r1, r2) := H
  have A4 := Aside0.mk A40
  clear A40
  simp only [Option.some.injEq, Prod.mk.injEq] at H
  obtain ⟨rfl, rfl⟩ := H
  go_enter Try.func13, Try.ntmps13
  go_wp2_with (first | ((with_reducible refine gate_dst (N := 1) rfl ?_); refine box_event ?hg (N := 1) ?hd (cs := #[.int .i64 a0_0, .int .i64 a0_1, .int .i64 a0_2, .int .i64 a0_3, .int .i64 a0_4, .int .i64 a0_5, .int .i64 a0_6]) (t := 26) ?hr ?_; (case hd => rfl); (case hg => rfl); (case hr => first | (go_simp; done) | (go_simp; rfl)); intro gb240 hg w5 hbox hb; have n0_ := Aside0.mk (below_step (by repeat (first | (with_reducible first | exact HB.out | apply below_alloc | apply pw_below_drewN | apply below_drew1) | exact HB.out)) hb); have n1_ := Aside0.mk (hbox); have n2_ := Aside0.mk ((by rw [hg]; exact (below_size (by repeat (first | (with_reducible first | exact HB.out | apply below_alloc | apply pw_below_drewN | apply below_drew1) | exact HB.out))) : w.heap.size ≤ gb240)); have n3_ := Aside0.mk ((by rw [hg]; exact (below_size (by repeat (first | (with_reducible first | exact HB.out | apply below_alloc | apply pw_below_drewN | apply below_drew1) | exact HB.out))) : w.heap.size ≤ gb240)); clear HB; have HB := n0_; have BK240 := n1_; have GW240 := n2_; have GE240 := n3_; clear n0_ n1_ n2_ n3_; clear hb hbox hg; have hcz6_0 : w5.cell? ⟨gb240, 0, none⟩ = some (.int .i64 a0_0) := (blk_cell BK240.out 0).trans rfl; have hcz6_1 : w5.cell? ⟨gb240, 1, none⟩ = some (.int .i64 a0_1) := (blk_cell BK240.out 1).trans rfl; have hcz6_2 : w5.cell? ⟨gb240, 2, none⟩ = some (.int .i64 a0_2) := (blk_cell BK240.out 2).trans rfl; have hcz6_3 : w5.cell? ⟨gb240, 3, none⟩ = some (.int .i64 a0_3) := (blk_cell BK240.out 3).trans rfl; have hcz6_4 : w5.cell? ⟨gb240, 4, none⟩ = some (.int .i64 a0_4) := (blk_cell BK240.out 4).trans rfl; have hcz6_5 : w5.cell? ⟨gb240, 5, none⟩ = some (.int .i64 a0_5) := (blk_cell BK240.out 5).trans rfl; have hcz6_6 : w5.cell? ⟨gb240, 6, none⟩ = some (.int .i64 a0_6) := (blk_cell BK240.out 6).trans rfl; have hfz6_0 := blk_frozen BK240.out 0; have hfz6_1 := blk_frozen BK240.out 1; have hfz6_2 := blk_frozen BK240.out 2; have hfz6_3 := blk_frozen BK240.out 3; have hfz6_4 := blk_frozen BK240.out 4; have hfz6_5 := blk_frozen BK240.out 5; have hfz6_6 := blk_frozen BK240.out 6) | ((with_reducible refine gate_callee (f := 15) rfl ?_); refine goesL_ (some 5) rfl rfl Try.func15 (by kernel_rfl) rfl #[.agg #[.int .i64 a0_0, .int .i64 a0_1, .int .i64 a0_2, .int .i64 a0_3, .int .i64 a0_4, .int .i64 a0_5, .int .i64 a0_6]] rfl (by (try simp only [List.map_toArray, List.map_cons, List.map_nil]); first | done | rfl | (simp only [List.length_drop, List.length_take]; rfl)) ?_; (with_reducible refine (payrollref7_Valid.calls k a0_0 a0_1 a0_2 a0_3 a0_4 a0_5 a0_6 true _ A2.out).mono ?_); rintro e w7 ⟨rfl, hb⟩; refine ⟨_, rfl, ?_⟩; have n0_ := Aside0.mk (blk_below (g := gb240) (o := .cells #[.int .i64 a0_0, .int .i64 a0_1, .int .i64 a0_2, .int .i64 a0_3, .int .i64 a0_4, .int .i64 a0_5, .int .i64 a0_6] 26 (0, 0)) (by (with_reducible repeat (first | refine blk_drewN ?_ _ | refine blk_drew ?_ | refine blk_alloc ?_ _)); exact BK240.out) hb); have n1_ := Aside0.mk (below_step (by repeat (first | (with_reducible first | exact HB.out | apply below_alloc | apply pw_below_drewN | apply below_drew1 | refine below_set ?_ GE240.out) | exact HB.out)) hb); clear BK240; clear HB; have BK240 := n0_; have HB := n1_; clear n0_ n1_; (try clear hb); (try clear hb2); (try clear hk); (try clear hi); have hcz8_0 : w7.cell? ⟨gb240, 0, none⟩ = some (.int .i64 a0_0) := (blk_cell BK240.out 0).trans rfl; have hcz8_1 : w7.cell? ⟨gb240, 1, none⟩ = some (.int .i64 a0_1) := (blk_cell BK240.out 1).trans rfl; have hcz8_2 : w7.cell? ⟨gb240, 2, none⟩ = some (.int .i64 a0_2) := (blk_cell BK240.out 2).trans rfl; have hcz8_3 : w7.cell? ⟨gb240, 3, none⟩ = some (.int .i64 a0_3) := (blk_cell BK240.out 3).trans rfl; have hcz8_4 : w7.cell? ⟨gb240, 4, none⟩ = some (.int .i64 a0_4) := (blk_cell BK240.out 4).trans rfl; have hcz8_5 : w7.cell? ⟨gb240, 5, none⟩ = some (.int .i64 a0_5) := (blk_cell BK240.out 5).trans rfl; have hcz8_6 : w7.cell? ⟨gb240, 6, none⟩ = some (.int .i64 a0_6) := (blk_cell BK240.out 6).trans rfl; have hfz8_0 := blk_frozen BK240.out 0; have hfz8_1 := blk_frozen BK240.out 1; have hfz8_2 := blk_frozen BK240.out 2; have hfz8_3 := blk_frozen BK240.out 3; have hfz8_4 := blk_frozen BK240.out 4; have hfz8_5 := blk_frozen BK240.out 5; have hfz8_6 := blk_frozen BK240.out 6) | ((with_reducible refine gate_callee (f := 31) rfl ?_); refine goesL_ (some 8) rfl rfl Try.func31 (by kernel_rfl) rfl #[.agg #[.int .i64 a0_0, .int .i64 a0_1, .int .i64 a0_2, .int .i64 a0_3, .int .i64 a0_4, .int .i64 a0_5, .int .i64 a0_6]] rfl (by (try simp only [List.map_toArray, List.map_cons, List.map_nil]); first | done | rfl | (simp only [List.length_drop, List.length_take]; rfl)) ?_; (with_reducible refine (payrollref7_frame.calls k a0_0 a0_1 a0_2 a0_3 a0_4 a0_5 a0_6 t242 _ A4.out).mono ?_); rintro e w9 ⟨v243, rfl, ho0, hb⟩; refine ⟨_, rfl, ?_⟩; have n0_ := Aside0.mk (Kd.R_lower ho0 (below_size (by repeat (first | (with_reducible first | exact HB.out | apply below_alloc | apply pw_below_drewN | apply below_drew1 | refine below_set ?_ GE240.out) | exact HB.out)))); have n1_ := Aside0.mk (blk_below (g := gb240) (o := .cells #[.int .i64 a0_0, .int .i64 a0_1, .int .i64 a0_2, .int .i64 a0_3, .int .i64 a0_4, .int .i64 a0_5, .int .i64 a0_6] 26 (0, 0)) (by (with_reducible repeat (first | refine blk_drewN ?_ _ | refine blk_drew ?_ | refine blk_alloc ?_ _)); exact BK240.out) hb); have n2_ := Aside0.mk (below_step (by repeat (first | (with_reducible first | exact HB.out | apply below_alloc | apply pw_below_drewN | apply below_drew1 | refine below_set ?_ GE240.out) | exact HB.out)) hb); clear BK240; clear HB; have HO244 := n0_; have BK240 := n1_; have HB := n2_; clear n0_ n1_ n2_; (try clear hb); (try clear hb2); (try clear hk); (try clear hi); (try clear ho0)))
  go_ret2
  exact ⟨_, by first | rfl | (simp [errW_none, errW_some] <;> rfl) | (simp [*, errW_none, errW_some] <;> rfl), by (with_reducible repeat (first | apply Kd.R_alloc | apply Kd.R_drewN | apply Kd.R_drew)); exact HO244.out, by repeat (first | (with_reducible first | exact HB.out | apply below_alloc | apply pw_below_drewN | apply below_drew1 | refine below_set ?_ GE240.out) | exact HB.out)⟩
 ·
  replace c3 := Bool.eq_false_iff.mpr c3
  subst c3
  have H1 : (some (([] : List Int), 1)) = some (r1, r2) := by rw [if_neg (show ¬ (false = true) by decide)] at H; exact H
  clear H
  have H := H1
  clear H1
  simp only [Option.some.injEq, Prod.mk.injEq] at H
  obtain ⟨rfl, rfl⟩ := H
  go_enter Try.func13, Try.ntmps13
  go_wp2_with (first | ((with_reducible refine gate_dst (N := 1) rfl ?_); refine box_event ?hg (N := 1) ?hd (cs := #[.int .i64 a0_0, .int .i64 a0_1, .int .i64 a0_2, .int .i64 a0_3, .int .i64 a0_4, .int .i64 a0_5, .int .i64 a0_6]) (t := 26) ?hr ?_; (case hd => rfl); (case hg => rfl); (case hr => first | (go_simp; done) | (go_simp; rfl)); intro gb240 hg w10 hbox hb; have n0_ := Aside0.mk (below_step (by repeat (first | (with_reducible first | exact HB.out | apply below_alloc | apply pw_below_drewN | apply below_drew1) | exact HB.out)) hb); have n1_ := Aside0.mk (hbox); have n2_ := Aside0.mk ((by rw [hg]; exact (below_size (by repeat (first | (with_reducible first | exact HB.out | apply below_alloc | apply pw_below_drewN | apply below_drew1) | exact HB.out))) : w.heap.size ≤ gb240)); have n3_ := Aside0.mk ((by rw [hg]; exact (below_size (by repeat (first | (with_reducible first | exact HB.out | apply below_alloc | apply pw_below_drewN | apply below_drew1) | exact HB.out))) : w.heap.size ≤ gb240)); clear HB; have HB := n0_; have BK240 := n1_; have GW240 := n2_; have GE240 := n3_; clear n0_ n1_ n2_ n3_; clear hb hbox hg; have hcz11_0 : w10.cell? ⟨gb240, 0, none⟩ = some (.int .i64 a0_0) := (blk_cell BK240.out 0).trans rfl; have hcz11_1 : w10.cell? ⟨gb240, 1, none⟩ = some (.int .i64 a0_1) := (blk_cell BK240.out 1).trans rfl; have hcz11_2 : w10.cell? ⟨gb240, 2, none⟩ = some (.int .i64 a0_2) := (blk_cell BK240.out 2).trans rfl; have hcz11_3 : w10.cell? ⟨gb240, 3, none⟩ = some (.int .i64 a0_3) := (blk_cell BK240.out 3).trans rfl; have hcz11_4 : w10.cell? ⟨gb240, 4, none⟩ = some (.int .i64 a0_4) := (blk_cell BK240.out 4).trans rfl; have hcz11_5 : w10.cell? ⟨gb240, 5, none⟩ = some (.int .i64 a0_5) := (blk_cell BK240.out 5).trans rfl; have hcz11_6 : w10.cell? ⟨gb240, 6, none⟩ = some (.int .i64 a0_6) := (blk_cell BK240.out 6).trans rfl; have hfz11_0 := blk_frozen BK240.out 0; have hfz11_1 := blk_frozen BK240.out 1; have hfz11_2 := blk_frozen BK240.out 2; have hfz11_3 := blk_frozen BK240.out 3; have hfz11_4 := blk_frozen BK240.out 4; have hfz11_5 := blk_frozen BK240.out 5; have hfz11_6 := blk_frozen BK240.out 6) | ((with_reducible refine gate_callee (f := 15) rfl ?_); refine goesL_ (some 5) rfl rfl Try.func15 (by kernel_rfl) rfl #[.agg #[.int .i64 a0_0, .int .i64 a0_1, .int .i64 a0_2, .int .i64 a0_3, .int .i64 a0_4, .int .i64 a0_5, .int .i64 a0_6]] rfl (by (try simp only [List.map_toArray, List.map_cons, List.map_nil]); first | done | rfl | (simp only [List.length_drop, List.length_take]; rfl)) ?_; (with_reducible refine (payrollref7_Valid.calls k a0_0 a0_1 a0_2 a0_3 a0_4 a0_5 a0_6 false _ A2.out).mono ?_); rintro e w12 ⟨rfl, hb⟩; refine ⟨_, rfl, ?_⟩; have n0_ := Aside0.mk (blk_below (g := gb240) (o := .cells #[.int .i64 a0_0, .int .i64 a0_1, .int .i64 a0_2, .int .i64 a0_3, .int .i64 a0_4, .int .i64 a0_5, .int .i64 a0_6] 26 (0, 0)) (by (with_reducible repeat (first | refine blk_drewN ?_ _ | refine blk_drew ?_ | refine blk_alloc ?_ _)); exact BK240.out) hb); have n1_ := Aside0.mk (below_step (by repeat (first | (with_reducible first | exact HB.out | apply below_alloc | apply pw_below_drewN | apply below_drew1 | refine below_set ?_ GE240.out) | exact HB.out)) hb); clear BK240; clear HB; have BK240 := n0_; have HB := n1_; clear n0_ n1_; (try clear hb); (try clear hb2); (try clear hk); (try clear hi)))
  go_ret2
  exact ⟨_, by first | rfl | (simp [errW_none, errW_some] <;> rfl) | (simp [*, errW_none, errW_some] <;> rfl), by first | exact Kd.R_nil _ _ _ _ _ | exact Kd.N_nil _ _ _ _ _ | exact Kd.V_nil _ _ _ _ _ | exact Kd.Q_nil _ _ _ _ _ | exact Kd.S_nil _ _ _ _ _, by repeat (first | (with_reducible first | exact HB.out | apply below_alloc | apply pw_below_drewN | apply below_drew1 | refine below_set ?_ GE240.out) | exact HB.out)⟩

end Go.Proofs.Ytopigdnffnondaa.P
