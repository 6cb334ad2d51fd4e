/- Proved here: that the Go function payrollref7_Valid computes the plain function of that name (the machine side of the laws, reworked from a print; no condition of its own). -/
import Derived.Test.YtopigdnffnondaaProg
import Derived.Test.YtopigdnffnondaaV1
import Derived.Test.YtopigdnffnondaaFPRE0
import Derived.Test.YtopigdnffnondaaFPRE4
import Derived.Test.YtopigdnffnondaaFpayrollref7key
namespace Go.Proofs.Ytopigdnffnondaa.P
open Go.RowKit Go.Proofs.YtopigdnffnondaaW.PrintWords Go.Proofs.YtopigdnffnondaaW.PrintLast Go.Proofs.YtopigdnffnondaaW.PrintMore
attribute [local go_sem] max2_int min2_int max_two min_two max_three min_three max_four min_four   -- for this text's walks alone
set_option linter.unusedVariables false
set_option linter.unusedSimpArgs false

attribute [local go_sem high] eqA24
def payrollref7_Valid.j0 : Nat → Bool → Int → Int → Int → Int → Int → Int → Int → Option (Bool)
 | 0, _, _, _, _, _, _, _, _ => none
 | k + 1, x36, x207000, x207001, x207002, x207003, x207004, x207005, x207006 => if x36 = true then (some false) else (if x207004 = 5 then ((payrollref7_key.f x207005 x207006).bind fun t208 => (some t208)) else (if x207004 = 6 then ((payrollref7_key.f x207005 x207006).bind fun t209 => (some t209)) else (some (x207005 == 0 && (x207006 == 0)))))
def payrollref7_Valid.f (k : Nat) (a0_0 : Int) (a0_1 : Int) (a0_2 : Int) (a0_3 : Int) (a0_4 : Int) (a0_5 : Int) (a0_6 : Int) : Option (Bool) := (payrollref7_key.f a0_0 a0_1).bind fun t207 => (if t207 = true then (if a0_2 < 1 then (payrollref7_Valid.j0 k true a0_0 a0_1 a0_2 a0_3 a0_4 a0_5 a0_6) else (if a0_2 > 2147483647 then (payrollref7_Valid.j0 k true a0_0 a0_1 a0_2 a0_3 a0_4 a0_5 a0_6) else (if a0_3 < 0 then (payrollref7_Valid.j0 k true a0_0 a0_1 a0_2 a0_3 a0_4 a0_5 a0_6) else (if a0_3 > 120968639 then (payrollref7_Valid.j0 k true a0_0 a0_1 a0_2 a0_3 a0_4 a0_5 a0_6) else (if a0_4 < 1 then (payrollref7_Valid.j0 k true a0_0 a0_1 a0_2 a0_3 a0_4 a0_5 a0_6) else (payrollref7_Valid.j0 k (decide (a0_4 > 6)) a0_0 a0_1 a0_2 a0_3 a0_4 a0_5 a0_6)))))) else (payrollref7_Valid.j0 k true a0_0 a0_1 a0_2 a0_3 a0_4 a0_5 a0_6))
theorem payrollref7_Valid.mono_l : ∀ k, (∀ y0 y1 y2 y3 y4 y5 y6 y7, LeO (payrollref7_Valid.j0 k y0 y1 y2 y3 y4 y5 y6 y7) (payrollref7_Valid.j0 (k + 1) y0 y1 y2 y3 y4 y5 y6 y7))
 | 0 => fun _ _ _ _ _ _ _ _ r h => by simp [payrollref7_Valid.j0] at h
 | k + 1 => by
  have ih0 := payrollref7_Valid.mono_l k
  ·
   intro y0 y1 y2 y3 y4 y5 y6 y7
   unfold payrollref7_Valid.j0
   repeat' first
   | (with_reducible exact ih0 _ _ _ _ _ _ _ _)
   | (with_reducible exact LeO.refl _)
   | (with_reducible exact LeO.none _)
   | (with_reducible refine LeO.ite ?_ ?_)
   | (with_reducible refine LeO.bind ?_ (fun _ => ?_))
   | exact ih0 _ _ _ _ _ _ _ _
   | exact LeO.none _
   | refine LeO.ite ?_ ?_
   | refine LeO.bind ?_ (fun _ => ?_)
theorem payrollref7_Valid.mono : ∀ a0 a1 a2 a3 a4 a5 a6 k, LeO (payrollref7_Valid.f k a0 a1 a2 a3 a4 a5 a6) (payrollref7_Valid.f (k + 1) a0 a1 a2 a3 a4 a5 a6) := by
 intro a0 a1 a2 a3 a4 a5 a6 k
 have ih0 := payrollref7_Valid.mono_l k
 unfold payrollref7_Valid.f
 repeat' first
   | (with_reducible exact ih0 _ _ _ _ _ _ _ _)
   | (with_reducible exact LeO.refl _)
   | (with_reducible exact LeO.none _)
   | (with_reducible refine LeO.ite ?_ ?_)
   | (with_reducible refine LeO.bind ?_ (fun _ => ?_))
   | exact ih0 _ _ _ _ _ _ _ _
   | exact LeO.none _
   | refine LeO.ite ?_ ?_
   | refine LeO.bind ?_ (fun _ => ?_)
set_option maxHeartbeats 8000000 in
set_option maxRecDepth 100000 in
theorem payrollref7_Valid.calls (k : Nat) (a0_0 : Int) (a0_1 : Int) (a0_2 : Int) (a0_3 : Int) (a0_4 : Int) (a0_5 : Int) (a0_6 : Int) (r : Bool) (w : World) (h : payrollref7_Valid.f k a0_0 a0_1 a0_2 a0_3 a0_4 a0_5 a0_6 = some r) :
  Calls Try.prog 15 #[.agg #[.int .i64 a0_0, .int .i64 a0_1, .int .i64 a0_2, .int .i64 a0_3, .int .i64 a0_4, .int .i64 a0_5, .int .i64 a0_6]] w fun e w' => e = .returned (.bool r) ∧ Below w.heap.size w w' := by
 have hu26 := Try.underlying26
 have hu24 := Try.underlying24
 have HB := Aside0.mk (Below.refl w.heap.size w)
 have H : ((payrollref7_key.f a0_0 a0_1).bind fun t207 => (if t207 = true then (if a0_2 < 1 then (payrollref7_Valid.j0 k true a0_0 a0_1 a0_2 a0_3 a0_4 a0_5 a0_6) else (if a0_2 > 2147483647 then (payrollref7_Valid.j0 k true a0_0 a0_1 a0_2 a0_3 a0_4 a0_5 a0_6) else (if a0_3 < 0 then (payrollref7_Valid.j0 k true a0_0 a0_1 a0_2 a0_3 a0_4 a0_5 a0_6) else (if a0_3 > 120968639 then (payrollref7_Valid.j0 k true a0_0 a0_1 a0_2 a0_3 a0_4 a0_5 a0_6) else (if a0_4 < 1 then (payrollref7_Valid.j0 k true a0_0 a0_1 a0_2 a0_3 a0_4 a0_5 a0_6) else (payrollref7_Valid.j0 k (decide (a0_4 > 6)) a0_0 a0_1 a0_2 a0_3 a0_4 a0_5 a0_6)))))) else (payrollref7_Valid.j0 k true a0_0 a0_1 a0_2 a0_3 a0_4 a0_5 a0_6))) = some r := h
 clear h
 have HC2 := Aside0.mk H
 clear H
 go_enter Try.func15, Try.ntmps15
 go_upto_region 1 with (first | ((with_reducible refine gate_dst (N := 1) rfl ?_); refine box_event ?hg (N := 1) ?hd (cs := #[.int .i64 a0_0, .int .i64 a0_1, .int .i64 a0_2, .int .i64 a0_3, .int .i64 a0_4, .int .i64 a0_5, .int .i64 a0_6]) (t := 26) ?hr ?_; (case hd => rfl); (case hg => rfl); (case hr => first | (go_simp; done) | (go_simp; rfl)); intro gb206 hg w3 hbox hb; have n0_ := Aside0.mk (below_step (by repeat (first | (with_reducible first | exact HB.out | apply below_alloc | apply pw_below_drewN | apply below_drew1) | exact HB.out)) hb); have n1_ := Aside0.mk (hbox); have n2_ := Aside0.mk ((by rw [hg]; exact (below_size (by repeat (first | (with_reducible first | exact HB.out | apply below_alloc | apply pw_below_drewN | apply below_drew1) | exact HB.out))) : w.heap.size ≤ gb206)); have n3_ := Aside0.mk ((by rw [hg]; exact (below_size (by repeat (first | (with_reducible first | exact HB.out | apply below_alloc | apply pw_below_drewN | apply below_drew1) | exact HB.out))) : w.heap.size ≤ gb206)); clear HB; have HB := n0_; have BK206 := n1_; have GW206 := n2_; have GE206 := n3_; clear n0_ n1_ n2_ n3_; clear hb hbox hg))
 (try simp only [Act.put, List.setIfInBounds_toArray, List.set_cons_zero, List.set_cons_succ])
 go_cut [36] (fun v36 wc => ∃ (kq : Nat) (x36_1 : Bool), v36 = .bool x36_1 ∧ Aside0 (payrollref7_Valid.j0 kq x36_1 a0_0 a0_1 a0_2 a0_3 a0_4 a0_5 a0_6 = some r) ∧ Aside0 (kq ≤ k) ∧ Aside0 (wc.heap[gb206]? = some (.cells #[.int .i64 a0_0, .int .i64 a0_1, .int .i64 a0_2, .int .i64 a0_3, .int .i64 a0_4, .int .i64 a0_5, .int .i64 a0_6] 26 (0, 0))) ∧ Aside0 (Below w.heap.size w wc))
 case first =>
  have H := HC2.out
  clear HC2
  replace H := Option.bind_eq_some_iff.mp H
  obtain ⟨t207, A40, H⟩ := H
  replace H : (if t207 = true then (if a0_2 < 1 then (payrollref7_Valid.j0 k true a0_0 a0_1 a0_2 a0_3 a0_4 a0_5 a0_6) else (if a0_2 > 2147483647 then (payrollref7_Valid.j0 k true a0_0 a0_1 a0_2 a0_3 a0_4 a0_5 a0_6) else (if a0_3 < 0 then (payrollref7_Valid.j0 k true a0_0 a0_1 a0_2 a0_3 a0_4 a0_5 a0_6) else (if a0_3 > 120968639 then (payrollref7_Valid.j0 k true a0_0 a0_1 a0_2 a0_3 a0_4 a0_5 a0_6) else (if a0_4 < 1 then (payrollref7_Valid.j0 k true a0_0 a0_1 a0_2 a0_3 a0_4 a0_5 a0_6) else (payrollref7_Valid.j0 k (decide (a0_4 > 6)) a0_0 a0_1 a0_2 a0_3 a0_4 a0_5 a0_6)))))) else (payrollref7_Valid.j0 k true a0_0 a0_1 a0_2 a0_3 a0_4 a0_5 a0_6)) = some r := H
  have A4 := Aside0.mk A40
  clear A40
  by_cases c5 : t207 = true
  ·
   subst c5
   have H1 : (if a0_2 < 1 then (payrollref7_Valid.j0 k true a0_0 a0_1 a0_2 a0_3 a0_4 a0_5 a0_6) else (if a0_2 > 2147483647 then (payrollref7_Valid.j0 k true a0_0 a0_1 a0_2 a0_3 a0_4 a0_5 a0_6) else (if a0_3 < 0 then (payrollref7_Valid.j0 k true a0_0 a0_1 a0_2 a0_3 a0_4 a0_5 a0_6) else (if a0_3 > 120968639 then (payrollref7_Valid.j0 k true a0_0 a0_1 a0_2 a0_3 a0_4 a0_5 a0_6) else (if a0_4 < 1 then (payrollref7_Valid.j0 k true a0_0 a0_1 a0_2 a0_3 a0_4 a0_5 a0_6) else (payrollref7_Valid.j0 k (decide (a0_4 > 6)) a0_0 a0_1 a0_2 a0_3 a0_4 a0_5 a0_6)))))) = some r := by rw [if_pos rfl] at H; exact H
   clear H
   have H := H1
   clear H1
   by_cases c6 : a0_2 < 1
   ·
    rw [if_pos c6] at H
    have c6b0 : decide (a0_2 < 1) = true := decide_eq_true c6
    clear c6
    (first | rw [c6b0] | (simp only [i64_w, i32_w]; rw [c6b0]) | skip)
    have H' := Aside0.mk H
    clear H
    have hcz7_0 : w3.cell? ⟨gb206, 0, none⟩ = some (.int .i64 a0_0) := (blk_cell BK206.out 0).trans rfl
    have hcz7_1 : w3.cell? ⟨gb206, 1, none⟩ = some (.int .i64 a0_1) := (blk_cell BK206.out 1).trans rfl
    have hcz7_2 : w3.cell? ⟨gb206, 2, none⟩ = some (.int .i64 a0_2) := (blk_cell BK206.out 2).trans rfl
    have hcz7_3 : w3.cell? ⟨gb206, 3, none⟩ = some (.int .i64 a0_3) := (blk_cell BK206.out 3).trans rfl
    have hcz7_4 : w3.cell? ⟨gb206, 4, none⟩ = some (.int .i64 a0_4) := (blk_cell BK206.out 4).trans rfl
    have hcz7_5 : w3.cell? ⟨gb206, 5, none⟩ = some (.int .i64 a0_5) := (blk_cell BK206.out 5).trans rfl
    have hcz7_6 : w3.cell? ⟨gb206, 6, none⟩ = some (.int .i64 a0_6) := (blk_cell BK206.out 6).trans rfl
    have hfz7_0 := blk_frozen BK206.out 0
    have hfz7_1 := blk_frozen BK206.out 1
    have hfz7_2 := blk_frozen BK206.out 2
    have hfz7_3 := blk_frozen BK206.out 3
    have hfz7_4 := blk_frozen BK206.out 4
    have hfz7_5 := blk_frozen BK206.out 5
    have hfz7_6 := blk_frozen BK206.out 6
    go_wp2_with (first | ((with_reducible refine gate_callee (f := 33) rfl ?_); refine goesL_ (some 5) rfl rfl Try.func33 (by kernel_rfl) rfl #[.agg #[.int .i64 a0_0, .int .i64 a0_1]] rfl (by (try simp only [List.map_toArray, List.map_cons, List.map_nil]); first | done | rfl | (simp only [List.length_drop, List.length_take]; rfl)) ?_; (with_reducible refine (payrollref7_key.calls a0_0 a0_1 true _ A4.out).mono ?_); rintro e w8 ⟨rfl, hb⟩; refine ⟨_, rfl, ?_⟩; have n0_ := Aside0.mk (blk_below (g := gb206) (o := .cells #[.int .i64 a0_0, .int .i64 a0_1, .int .i64 a0_2, .int .i64 a0_3, .int .i64 a0_4, .int .i64 a0_5, .int .i64 a0_6] 26 (0, 0)) (by (with_reducible repeat (first | refine blk_drewN ?_ _ | refine blk_drew ?_ | refine blk_alloc ?_ _)); exact BK206.out) hb); have n1_ := Aside0.mk (below_step (by repeat (first | (with_reducible first | exact HB.out | apply below_alloc | apply pw_below_drewN | apply below_drew1 | refine below_set ?_ GE206.out) | exact HB.out)) hb); clear BK206; clear HB; have BK206 := n0_; have HB := n1_; clear n0_ n1_; (try clear hb); (try clear hb2); (try clear hk); (try clear hi); have hcz9_0 : w8.cell? ⟨gb206, 0, none⟩ = some (.int .i64 a0_0) := (blk_cell BK206.out 0).trans rfl; have hcz9_1 : w8.cell? ⟨gb206, 1, none⟩ = some (.int .i64 a0_1) := (blk_cell BK206.out 1).trans rfl; have hcz9_2 : w8.cell? ⟨gb206, 2, none⟩ = some (.int .i64 a0_2) := (blk_cell BK206.out 2).trans rfl; have hcz9_3 : w8.cell? ⟨gb206, 3, none⟩ = some (.int .i64 a0_3) := (blk_cell BK206.out 3).trans rfl; have hcz9_4 : w8.cell? ⟨gb206, 4, none⟩ = some (.int .i64 a0_4) := (blk_cell BK206.out 4).trans rfl; have hcz9_5 : w8.cell? ⟨gb206, 5, none⟩ = some (.int .i64 a0_5) := (blk_cell BK206.out 5).trans rfl; have hcz9_6 : w8.cell? ⟨gb206, 6, none⟩ = some (.int .i64 a0_6) := (blk_cell BK206.out 6).trans rfl; have hfz9_0 := blk_frozen BK206.out 0; have hfz9_1 := blk_frozen BK206.out 1; have hfz9_2 := blk_frozen BK206.out 2; have hfz9_3 := blk_frozen BK206.out 3; have hfz9_4 := blk_frozen BK206.out 4; have hfz9_5 := blk_frozen BK206.out 5; have hfz9_6 := blk_frozen BK206.out 6))
    go_meet
    case rel => exact ⟨_, (true), (by first | rfl | (simp; done) | (simp [*]; done)), H', ⟨by first | omega | exact Nat.le_refl _⟩, ⟨by (with_reducible repeat (first | refine blk_drewN ?_ _ | refine blk_drew ?_ | refine blk_alloc ?_ _)); exact BK206.out⟩, ⟨by repeat (first | (with_reducible first | exact HB.out | apply below_alloc | apply pw_below_drewN | apply below_drew1 | refine below_set ?_ GE206.out) | exact HB.out)⟩⟩
   ·
    rw [if_neg c6] at H
    have c6b0 : decide (a0_2 < 1) = false := decide_eq_false c6
    clear c6
    (first | rw [c6b0] | (simp only [i64_w, i32_w]; rw [c6b0]) | skip)
    by_cases c10 : a0_2 > 2147483647
    ·
     rw [if_pos c10] at H
     have c10b0 : decide (2147483647 < a0_2) = true := decide_eq_true c10
     clear c10
     have H' := Aside0.mk H
     clear H
     have hcz11_0 : w3.cell? ⟨gb206, 0, none⟩ = some (.int .i64 a0_0) := (blk_cell BK206.out 0).trans rfl
     have hcz11_1 : w3.cell? ⟨gb206, 1, none⟩ = some (.int .i64 a0_1) := (blk_cell BK206.out 1).trans rfl
     have hcz11_2 : w3.cell? ⟨gb206, 2, none⟩ = some (.int .i64 a0_2) := (blk_cell BK206.out 2).trans rfl
     have hcz11_3 : w3.cell? ⟨gb206, 3, none⟩ = some (.int .i64 a0_3) := (blk_cell BK206.out 3).trans rfl
     have hcz11_4 : w3.cell? ⟨gb206, 4, none⟩ = some (.int .i64 a0_4) := (blk_cell BK206.out 4).trans rfl
     have hcz11_5 : w3.cell? ⟨gb206, 5, none⟩ = some (.int .i64 a0_5) := (blk_cell BK206.out 5).trans rfl
     have hcz11_6 : w3.cell? ⟨gb206, 6, none⟩ = some (.int .i64 a0_6) := (blk_cell BK206.out 6).trans rfl
     have hfz11_0 := blk_frozen BK206.out 0
     have hfz11_1 := blk_frozen BK206.out 1
     have hfz11_2 := blk_frozen BK206.out 2
     have hfz11_3 := blk_frozen BK206.out 3
     have hfz11_4 := blk_frozen BK206.out 4
     have hfz11_5 := blk_frozen BK206.out 5
     have hfz11_6 := blk_frozen BK206.out 6
     go_wp2_with (first | ((with_reducible refine gate_callee (f := 33) rfl ?_); refine goesL_ (some 5) rfl rfl Try.func33 (by kernel_rfl) rfl #[.agg #[.int .i64 a0_0, .int .i64 a0_1]] rfl (by (try simp only [List.map_toArray, List.map_cons, List.map_nil]); first | done | rfl | (simp only [List.length_drop, List.length_take]; rfl)) ?_; (with_reducible refine (payrollref7_key.calls a0_0 a0_1 true _ A4.out).mono ?_); rintro e w12 ⟨rfl, hb⟩; refine ⟨_, rfl, ?_⟩; have n0_ := Aside0.mk (blk_below (g := gb206) (o := .cells #[.int .i64 a0_0, .int .i64 a0_1, .int .i64 a0_2, .int .i64 a0_3, .int .i64 a0_4, .int .i64 a0_5, .int .i64 a0_6] 26 (0, 0)) (by (with_reducible repeat (first | refine blk_drewN ?_ _ | refine blk_drew ?_ | refine blk_alloc ?_ _)); exact BK206.out) hb); have n1_ := Aside0.mk (below_step (by repeat (first | (with_reducible first | exact HB.out | apply below_alloc | apply pw_below_drewN | apply below_drew1 | refine below_set ?_ GE206.out) | exact HB.out)) hb); clear BK206; clear HB; have BK206 := n0_; have HB := n1_; clear n0_ n1_; (try clear hb); (try clear hb2); (try clear hk); (try clear hi); have hcz13_0 : w12.cell? ⟨gb206, 0, none⟩ = some (.int .i64 a0_0) := (blk_cell BK206.out 0).trans rfl; have hcz13_1 : w12.cell? ⟨gb206, 1, none⟩ = some (.int .i64 a0_1) := (blk_cell BK206.out 1).trans rfl; have hcz13_2 : w12.cell? ⟨gb206, 2, none⟩ = some (.int .i64 a0_2) := (blk_cell BK206.out 2).trans rfl; have hcz13_3 : w12.cell? ⟨gb206, 3, none⟩ = some (.int .i64 a0_3) := (blk_cell BK206.out 3).trans rfl; have hcz13_4 : w12.cell? ⟨gb206, 4, none⟩ = some (.int .i64 a0_4) := (blk_cell BK206.out 4).trans rfl; have hcz13_5 : w12.cell? ⟨gb206, 5, none⟩ = some (.int .i64 a0_5) := (blk_cell BK206.out 5).trans rfl; have hcz13_6 : w12.cell? ⟨gb206, 6, none⟩ = some (.int .i64 a0_6) := (blk_cell BK206.out 6).trans rfl; have hfz13_0 := blk_frozen BK206.out 0; have hfz13_1 := blk_frozen BK206.out 1; have hfz13_2 := blk_frozen BK206.out 2; have hfz13_3 := blk_frozen BK206.out 3; have hfz13_4 := blk_frozen BK206.out 4; have hfz13_5 := blk_frozen BK206.out 5; have hfz13_6 := blk_frozen BK206.out 6))
     go_meet
     case rel => exact ⟨_, (true), (by first | rfl | (simp; done) | (simp [*]; done)), H', ⟨by first | omega | exact Nat.le_refl _⟩, ⟨by (with_reducible repeat (first | refine blk_drewN ?_ _ | refine blk_drew ?_ | refine blk_alloc ?_ _)); exact BK206.out⟩, ⟨by repeat (first | (with_reducible first | exact HB.out | apply below_alloc | apply pw_below_drewN | apply below_drew1 | refine below_set ?_ GE206.out) | exact HB.out)⟩⟩
    ·
     rw [if_neg c10] at H
     have c10b0 : decide (2147483647 < a0_2) = false := decide_eq_false c10
     clear c10
     by_cases c14 : a0_3 < 0
     ·
      rw [if_pos c14] at H
      have c14b0 : decide (a0_3 < 0) = true := decide_eq_true c14
      clear c14
      have H' := Aside0.mk H
      clear H
      have hcz15_0 : w3.cell? ⟨gb206, 0, none⟩ = some (.int .i64 a0_0) := (blk_cell BK206.out 0).trans rfl
      have hcz15_1 : w3.cell? ⟨gb206, 1, none⟩ = some (.int .i64 a0_1) := (blk_cell BK206.out 1).trans rfl
      have hcz15_2 : w3.cell? ⟨gb206, 2, none⟩ = some (.int .i64 a0_2) := (blk_cell BK206.out 2).trans rfl
      have hcz15_3 : w3.cell? ⟨gb206, 3, none⟩ = some (.int .i64 a0_3) := (blk_cell BK206.out 3).trans rfl
      have hcz15_4 : w3.cell? ⟨gb206, 4, none⟩ = some (.int .i64 a0_4) := (blk_cell BK206.out 4).trans rfl
      have hcz15_5 : w3.cell? ⟨gb206, 5, none⟩ = some (.int .i64 a0_5) := (blk_cell BK206.out 5).trans rfl
      have hcz15_6 : w3.cell? ⟨gb206, 6, none⟩ = some (.int .i64 a0_6) := (blk_cell BK206.out 6).trans rfl
      have hfz15_0 := blk_frozen BK206.out 0
      have hfz15_1 := blk_frozen BK206.out 1
      have hfz15_2 := blk_frozen BK206.out 2
      have hfz15_3 := blk_frozen BK206.out 3
      have hfz15_4 := blk_frozen BK206.out 4
      have hfz15_5 := blk_frozen BK206.out 5
      have hfz15_6 := blk_frozen BK206.out 6
      go_wp2_with (first | ((with_reducible refine gate_callee (f := 33) rfl ?_); refine goesL_ (some 5) rfl rfl Try.func33 (by kernel_rfl) rfl #[.agg #[.int .i64 a0_0, .int .i64 a0_1]] rfl (by (try simp only [List.map_toArray, List.map_cons, List.map_nil]); first | done | rfl | (simp only [List.length_drop, List.length_take]; rfl)) ?_; (with_reducible refine (payrollref7_key.calls a0_0 a0_1 true _ A4.out).mono ?_); rintro e w16 ⟨rfl, hb⟩; refine ⟨_, rfl, ?_⟩; have n0_ := Aside0.mk (blk_below (g := gb206) (o := .cells #[.int .i64 a0_0, .int .i64 a0_1, .int .i64 a0_2, .int .i64 a0_3, .int .i64 a0_4, .int .i64 a0_5, .int .i64 a0_6] 26 (0, 0)) (by (with_reducible repeat (first | refine blk_drewN ?_ _ | refine blk_drew ?_ | refine blk_alloc ?_ _)); exact BK206.out) hb); have n1_ := Aside0.mk (below_step (by repeat (first | (with_reducible first | exact HB.out | apply below_alloc | apply pw_below_drewN | apply below_drew1 | refine below_set ?_ GE206.out) | exact HB.out)) hb); clear BK206; clear HB; have BK206 := n0_; have HB := n1_; clear n0_ n1_; (try clear hb); (try clear hb2); (try clear hk); (try clear hi); have hcz17_0 : w16.cell? ⟨gb206, 0, none⟩ = some (.int .i64 a0_0) := (blk_cell BK206.out 0).trans rfl; have hcz17_1 : w16.cell? ⟨gb206, 1, none⟩ = some (.int .i64 a0_1) := (blk_cell BK206.out 1).trans rfl; have hcz17_2 : w16.cell? ⟨gb206, 2, none⟩ = some (.int .i64 a0_2) := (blk_cell BK206.out 2).trans rfl; have hcz17_3 : w16.cell? ⟨gb206, 3, none⟩ = some (.int .i64 a0_3) := (blk_cell BK206.out 3).trans rfl; have hcz17_4 : w16.cell? ⟨gb206, 4, none⟩ = some (.int .i64 a0_4) := (blk_cell BK206.out 4).trans rfl; have hcz17_5 : w16.cell? ⟨gb206, 5, none⟩ = some (.int .i64 a0_5) := (blk_cell BK206.out 5).trans rfl; have hcz17_6 : w16.cell? ⟨gb206, 6, none⟩ = some (.int .i64 a0_6) := (blk_cell BK206.out 6).trans rfl; have hfz17_0 := blk_frozen BK206.out 0; have hfz17_1 := blk_frozen BK206.out 1; have hfz17_2 := blk_frozen BK206.out 2; have hfz17_3 := blk_frozen BK206.out 3; have hfz17_4 := blk_frozen BK206.out 4; have hfz17_5 := blk_frozen BK206.out 5; have hfz17_6 := blk_frozen BK206.out 6))
      go_meet
      case rel => exact ⟨_, (true), (by first | rfl | (simp; done) | (simp [*]; done)), H', ⟨by first | omega | exact Nat.le_refl _⟩, ⟨by (with_reducible repeat (first | refine blk_drewN ?_ _ | refine blk_drew ?_ | refine blk_alloc ?_ _)); exact BK206.out⟩, ⟨by repeat (first | (with_reducible first | exact HB.out | apply below_alloc | apply pw_below_drewN | apply below_drew1 | refine below_set ?_ GE206.out) | exact HB.out)⟩⟩
     ·
      rw [if_neg c14] at H
      have c14b0 : decide (a0_3 < 0) = false := decide_eq_false c14
      clear c14
      by_cases c18 : a0_3 > 120968639
      ·
       rw [if_pos c18] at H
       have c18b0 : decide (120968639 < a0_3) = true := decide_eq_true c18
       clear c18
       have H' := Aside0.mk H
       clear H
       have hcz19_0 : w3.cell? ⟨gb206, 0, none⟩ = some (.int .i64 a0_0) := (blk_cell BK206.out 0).trans rfl
       have hcz19_1 : w3.cell? ⟨gb206, 1, none⟩ = some (.int .i64 a0_1) := (blk_cell BK206.out 1).trans rfl
       have hcz19_2 : w3.cell? ⟨gb206, 2, none⟩ = some (.int .i64 a0_2) := (blk_cell BK206.out 2).trans rfl
       have hcz19_3 : w3.cell? ⟨gb206, 3, none⟩ = some (.int .i64 a0_3) := (blk_cell BK206.out 3).trans rfl
       have hcz19_4 : w3.cell? ⟨gb206, 4, none⟩ = some (.int .i64 a0_4) := (blk_cell BK206.out 4).trans rfl
       have hcz19_5 : w3.cell? ⟨gb206, 5, none⟩ = some (.int .i64 a0_5) := (blk_cell BK206.out 5).trans rfl
       have hcz19_6 : w3.cell? ⟨gb206, 6, none⟩ = some (.int .i64 a0_6) := (blk_cell BK206.out 6).trans rfl
       have hfz19_0 := blk_frozen BK206.out 0
       have hfz19_1 := blk_frozen BK206.out 1
       have hfz19_2 := blk_frozen BK206.out 2
       have hfz19_3 := blk_frozen BK206.out 3
       have hfz19_4 := blk_frozen BK206.out 4
       have hfz19_5 := blk_frozen BK206.out 5
       have hfz19_6 := blk_frozen BK206.out 6
       go_wp2_with (first | ((with_reducible refine gate_callee (f := 33) rfl ?_); refine goesL_ (some 5) rfl rfl Try.func33 (by kernel_rfl) rfl #[.agg #[.int .i64 a0_0, .int .i64 a0_1]] rfl (by (try simp only [List.map_toArray, List.map_cons, List.map_nil]); first | done | rfl | (simp only [List.length_drop, List.length_take]; rfl)) ?_; (with_reducible refine (payrollref7_key.calls a0_0 a0_1 true _ A4.out).mono ?_); rintro e w20 ⟨rfl, hb⟩; refine ⟨_, rfl, ?_⟩; have n0_ := Aside0.mk (blk_below (g := gb206) (o := .cells #[.int .i64 a0_0, .int .i64 a0_1, .int .i64 a0_2, .int .i64 a0_3, .int .i64 a0_4, .int .i64 a0_5, .int .i64 a0_6] 26 (0, 0)) (by (with_reducible repeat (first | refine blk_drewN ?_ _ | refine blk_drew ?_ | refine blk_alloc ?_ _)); exact BK206.out) hb); have n1_ := Aside0.mk (below_step (by repeat (first | (with_reducible first | exact HB.out | apply below_alloc | apply pw_below_drewN | apply below_drew1 | refine below_set ?_ GE206.out) | exact HB.out)) hb); clear BK206; clear HB; have BK206 := n0_; have HB := n1_; clear n0_ n1_; (try clear hb); (try clear hb2); (try clear hk); (try clear hi); have hcz21_0 : w20.cell? ⟨gb206, 0, none⟩ = some (.int .i64 a0_0) := (blk_cell BK206.out 0).trans rfl; have hcz21_1 : w20.cell? ⟨gb206, 1, none⟩ = some (.int .i64 a0_1) := (blk_cell BK206.out 1).trans rfl; have hcz21_2 : w20.cell? ⟨gb206, 2, none⟩ = some (.int .i64 a0_2) := (blk_cell BK206.out 2).trans rfl; have hcz21_3 : w20.cell? ⟨gb206, 3, none⟩ = some (.int .i64 a0_3) := (blk_cell BK206.out 3).trans rfl; have hcz21_4 : w20.cell? ⟨gb206, 4, none⟩ = some (.int .i64 a0_4) := (blk_cell BK206.out 4).trans rfl; have hcz21_5 : w20.cell? ⟨gb206, 5, none⟩ = some (.int .i64 a0_5) := (blk_cell BK206.out 5).trans rfl; have hcz21_6 : w20.cell? ⟨gb206, 6, none⟩ = some (.int .i64 a0_6) := (blk_cell BK206.out 6).trans rfl; have hfz21_0 := blk_frozen BK206.out 0; have hfz21_1 := blk_frozen BK206.out 1; have hfz21_2 := blk_frozen BK206.out 2; have hfz21_3 := blk_frozen BK206.out 3; have hfz21_4 := blk_frozen BK206.out 4; have hfz21_5 := blk_frozen BK206.out 5; have hfz21_6 := blk_frozen BK206.out 6))
       go_meet
       case rel => exact ⟨_, (true), (by first | rfl | (simp; done) | (simp [*]; done)), H', ⟨by first | omega | exact Nat.le_refl _⟩, ⟨by (with_reducible repeat (first | refine blk_drewN ?_ _ | refine blk_drew ?_ | refine blk_alloc ?_ _)); exact BK206.out⟩, ⟨by repeat (first | (with_reducible first | exact HB.out | apply below_alloc | apply pw_below_drewN | apply below_drew1 | refine below_set ?_ GE206.out) | exact HB.out)⟩⟩
      ·
       rw [if_neg c18] at H
       have c18b0 : decide (120968639 < a0_3) = false := decide_eq_false c18
       clear c18
       by_cases c22 : a0_4 < 1
       ·
        rw [if_pos c22] at H
        have c22b0 : decide (a0_4 < 1) = true := decide_eq_true c22
        clear c22
        have H' := Aside0.mk H
        clear H
        have hcz23_0 : w3.cell? ⟨gb206, 0, none⟩ = some (.int .i64 a0_0) := (blk_cell BK206.out 0).trans rfl
        have hcz23_1 : w3.cell? ⟨gb206, 1, none⟩ = some (.int .i64 a0_1) := (blk_cell BK206.out 1).trans rfl
        have hcz23_2 : w3.cell? ⟨gb206, 2, none⟩ = some (.int .i64 a0_2) := (blk_cell BK206.out 2).trans rfl
        have hcz23_3 : w3.cell? ⟨gb206, 3, none⟩ = some (.int .i64 a0_3) := (blk_cell BK206.out 3).trans rfl
        have hcz23_4 : w3.cell? ⟨gb206, 4, none⟩ = some (.int .i64 a0_4) := (blk_cell BK206.out 4).trans rfl
        have hcz23_5 : w3.cell? ⟨gb206, 5, none⟩ = some (.int .i64 a0_5) := (blk_cell BK206.out 5).trans rfl
        have hcz23_6 : w3.cell? ⟨gb206, 6, none⟩ = some (.int .i64 a0_6) := (blk_cell BK206.out 6).trans rfl
        have hfz23_0 := blk_frozen BK206.out 0
        have hfz23_1 := blk_frozen BK206.out 1
        have hfz23_2 := blk_frozen BK206.out 2
        have hfz23_3 := blk_frozen BK206.out 3
        have hfz23_4 := blk_frozen BK206.out 4
        have hfz23_5 := blk_frozen BK206.out 5
        have hfz23_6 := blk_frozen BK206.out 6
        go_wp2_with (first | ((with_reducible refine gate_callee (f := 33) rfl ?_); refine goesL_ (some 5) rfl rfl Try.func33 (by kernel_rfl) rfl #[.agg #[.int .i64 a0_0, .int .i64 a0_1]] rfl (by (try simp only [List.map_toArray, List.map_cons, List.map_nil]); first | done | rfl | (simp only [List.length_drop, List.length_take]; rfl)) ?_; (with_reducible refine (payrollref7_key.calls a0_0 a0_1 true _ A4.out).mono ?_); rintro e w24 ⟨rfl, hb⟩; refine ⟨_, rfl, ?_⟩; have n0_ := Aside0.mk (blk_below (g := gb206) (o := .cells #[.int .i64 a0_0, .int .i64 a0_1, .int .i64 a0_2, .int .i64 a0_3, .int .i64 a0_4, .int .i64 a0_5, .int .i64 a0_6] 26 (0, 0)) (by (with_reducible repeat (first | refine blk_drewN ?_ _ | refine blk_drew ?_ | refine blk_alloc ?_ _)); exact BK206.out) hb); have n1_ := Aside0.mk (below_step (by repeat (first | (with_reducible first | exact HB.out | apply below_alloc | apply pw_below_drewN | apply below_drew1 | refine below_set ?_ GE206.out) | exact HB.out)) hb); clear BK206; clear HB; have BK206 := n0_; have HB := n1_; clear n0_ n1_; (try clear hb); (try clear hb2); (try clear hk); (try clear hi); have hcz25_0 : w24.cell? ⟨gb206, 0, none⟩ = some (.int .i64 a0_0) := (blk_cell BK206.out 0).trans rfl; have hcz25_1 : w24.cell? ⟨gb206, 1, none⟩ = some (.int .i64 a0_1) := (blk_cell BK206.out 1).trans rfl; have hcz25_2 : w24.cell? ⟨gb206, 2, none⟩ = some (.int .i64 a0_2) := (blk_cell BK206.out 2).trans rfl; have hcz25_3 : w24.cell? ⟨gb206, 3, none⟩ = some (.int .i64 a0_3) := (blk_cell BK206.out 3).trans rfl; have hcz25_4 : w24.cell? ⟨gb206, 4, none⟩ = some (.int .i64 a0_4) := (blk_cell BK206.out 4).trans rfl; have hcz25_5 : w24.cell? ⟨gb206, 5, none⟩ = some (.int .i64 a0_5) := (blk_cell BK206.out 5).trans rfl; have hcz25_6 : w24.cell? ⟨gb206, 6, none⟩ = some (.int .i64 a0_6) := (blk_cell BK206.out 6).trans rfl; have hfz25_0 := blk_frozen BK206.out 0; have hfz25_1 := blk_frozen BK206.out 1; have hfz25_2 := blk_frozen BK206.out 2; have hfz25_3 := blk_frozen BK206.out 3; have hfz25_4 := blk_frozen BK206.out 4; have hfz25_5 := blk_frozen BK206.out 5; have hfz25_6 := blk_frozen BK206.out 6))
        go_meet
        case rel => exact ⟨_, (true), (by first | rfl | (simp; done) | (simp [*]; done)), H', ⟨by first | omega | exact Nat.le_refl _⟩, ⟨by (with_reducible repeat (first | refine blk_drewN ?_ _ | refine blk_drew ?_ | refine blk_alloc ?_ _)); exact BK206.out⟩, ⟨by repeat (first | (with_reducible first | exact HB.out | apply below_alloc | apply pw_below_drewN | apply below_drew1 | refine below_set ?_ GE206.out) | exact HB.out)⟩⟩
       ·
        rw [if_neg c22] at H
        have c22b0 : decide (a0_4 < 1) = false := decide_eq_false c22
        clear c22
        have H' := Aside0.mk H
        clear H
        have hcz26_0 : w3.cell? ⟨gb206, 0, none⟩ = some (.int .i64 a0_0) := (blk_cell BK206.out 0).trans rfl
        have hcz26_1 : w3.cell? ⟨gb206, 1, none⟩ = some (.int .i64 a0_1) := (blk_cell BK206.out 1).trans rfl
        have hcz26_2 : w3.cell? ⟨gb206, 2, none⟩ = some (.int .i64 a0_2) := (blk_cell BK206.out 2).trans rfl
        have hcz26_3 : w3.cell? ⟨gb206, 3, none⟩ = some (.int .i64 a0_3) := (blk_cell BK206.out 3).trans rfl
        have hcz26_4 : w3.cell? ⟨gb206, 4, none⟩ = some (.int .i64 a0_4) := (blk_cell BK206.out 4).trans rfl
        have hcz26_5 : w3.cell? ⟨gb206, 5, none⟩ = some (.int .i64 a0_5) := (blk_cell BK206.out 5).trans rfl
        have hcz26_6 : w3.cell? ⟨gb206, 6, none⟩ = some (.int .i64 a0_6) := (blk_cell BK206.out 6).trans rfl
        have hfz26_0 := blk_frozen BK206.out 0
        have hfz26_1 := blk_frozen BK206.out 1
        have hfz26_2 := blk_frozen BK206.out 2
        have hfz26_3 := blk_frozen BK206.out 3
        have hfz26_4 := blk_frozen BK206.out 4
        have hfz26_5 := blk_frozen BK206.out 5
        have hfz26_6 := blk_frozen BK206.out 6
        go_wp2_with (first | ((with_reducible refine gate_callee (f := 33) rfl ?_); refine goesL_ (some 5) rfl rfl Try.func33 (by kernel_rfl) rfl #[.agg #[.int .i64 a0_0, .int .i64 a0_1]] rfl (by (try simp only [List.map_toArray, List.map_cons, List.map_nil]); first | done | rfl | (simp only [List.length_drop, List.length_take]; rfl)) ?_; (with_reducible refine (payrollref7_key.calls a0_0 a0_1 true _ A4.out).mono ?_); rintro e w27 ⟨rfl, hb⟩; refine ⟨_, rfl, ?_⟩; have n0_ := Aside0.mk (blk_below (g := gb206) (o := .cells #[.int .i64 a0_0, .int .i64 a0_1, .int .i64 a0_2, .int .i64 a0_3, .int .i64 a0_4, .int .i64 a0_5, .int .i64 a0_6] 26 (0, 0)) (by (with_reducible repeat (first | refine blk_drewN ?_ _ | refine blk_drew ?_ | refine blk_alloc ?_ _)); exact BK206.out) hb); have n1_ := Aside0.mk (below_step (by repeat (first | (with_reducible first | exact HB.out | apply below_alloc | apply pw_below_drewN | apply below_drew1 | refine below_set ?_ GE206.out) | exact HB.out)) hb); clear BK206; clear HB; have BK206 := n0_; have HB := n1_; clear n0_ n1_; (try clear hb); (try clear hb2); (try clear hk); (try clear hi); have hcz28_0 : w27.cell? ⟨gb206, 0, none⟩ = some (.int .i64 a0_0) := (blk_cell BK206.out 0).trans rfl; have hcz28_1 : w27.cell? ⟨gb206, 1, none⟩ = some (.int .i64 a0_1) := (blk_cell BK206.out 1).trans rfl; have hcz28_2 : w27.cell? ⟨gb206, 2, none⟩ = some (.int .i64 a0_2) := (blk_cell BK206.out 2).trans rfl; have hcz28_3 : w27.cell? ⟨gb206, 3, none⟩ = some (.int .i64 a0_3) := (blk_cell BK206.out 3).trans rfl; have hcz28_4 : w27.cell? ⟨gb206, 4, none⟩ = some (.int .i64 a0_4) := (blk_cell BK206.out 4).trans rfl; have hcz28_5 : w27.cell? ⟨gb206, 5, none⟩ = some (.int .i64 a0_5) := (blk_cell BK206.out 5).trans rfl; have hcz28_6 : w27.cell? ⟨gb206, 6, none⟩ = some (.int .i64 a0_6) := (blk_cell BK206.out 6).trans rfl; have hfz28_0 := blk_frozen BK206.out 0; have hfz28_1 := blk_frozen BK206.out 1; have hfz28_2 := blk_frozen BK206.out 2; have hfz28_3 := blk_frozen BK206.out 3; have hfz28_4 := blk_frozen BK206.out 4; have hfz28_5 := blk_frozen BK206.out 5; have hfz28_6 := blk_frozen BK206.out 6))
        go_meet
        case rel => exact ⟨_, (decide (a0_4 > 6)), (by first | rfl | (simp; done) | (simp [*]; done)), H', ⟨by first | omega | exact Nat.le_refl _⟩, ⟨by (with_reducible repeat (first | refine blk_drewN ?_ _ | refine blk_drew ?_ | refine blk_alloc ?_ _)); exact BK206.out⟩, ⟨by repeat (first | (with_reducible first | exact HB.out | apply below_alloc | apply pw_below_drewN | apply below_drew1 | refine below_set ?_ GE206.out) | exact HB.out)⟩⟩
  ·
   replace c5 := Bool.eq_false_iff.mpr c5
   subst c5
   have H1 : (payrollref7_Valid.j0 k true a0_0 a0_1 a0_2 a0_3 a0_4 a0_5 a0_6) = some r := by rw [if_neg (show ¬ (false = true) by decide)] at H; exact H
   clear H
   have H := H1
   clear H1
   have H' := Aside0.mk H
   clear H
   have hcz29_0 : w3.cell? ⟨gb206, 0, none⟩ = some (.int .i64 a0_0) := (blk_cell BK206.out 0).trans rfl
   have hcz29_1 : w3.cell? ⟨gb206, 1, none⟩ = some (.int .i64 a0_1) := (blk_cell BK206.out 1).trans rfl
   have hcz29_2 : w3.cell? ⟨gb206, 2, none⟩ = some (.int .i64 a0_2) := (blk_cell BK206.out 2).trans rfl
   have hcz29_3 : w3.cell? ⟨gb206, 3, none⟩ = some (.int .i64 a0_3) := (blk_cell BK206.out 3).trans rfl
   have hcz29_4 : w3.cell? ⟨gb206, 4, none⟩ = some (.int .i64 a0_4) := (blk_cell BK206.out 4).trans rfl
   have hcz29_5 : w3.cell? ⟨gb206, 5, none⟩ = some (.int .i64 a0_5) := (blk_cell BK206.out 5).trans rfl
   have hcz29_6 : w3.cell? ⟨gb206, 6, none⟩ = some (.int .i64 a0_6) := (blk_cell BK206.out 6).trans rfl
   have hfz29_0 := blk_frozen BK206.out 0
   have hfz29_1 := blk_frozen BK206.out 1
   have hfz29_2 := blk_frozen BK206.out 2
   have hfz29_3 := blk_frozen BK206.out 3
   have hfz29_4 := blk_frozen BK206.out 4
   have hfz29_5 := blk_frozen BK206.out 5
   have hfz29_6 := blk_frozen BK206.out 6
   go_wp2_with (first | ((with_reducible refine gate_callee (f := 33) rfl ?_); refine goesL_ (some 5) rfl rfl Try.func33 (by kernel_rfl) rfl #[.agg #[.int .i64 a0_0, .int .i64 a0_1]] rfl (by (try simp only [List.map_toArray, List.map_cons, List.map_nil]); first | done | rfl | (simp only [List.length_drop, List.length_take]; rfl)) ?_; (with_reducible refine (payrollref7_key.calls a0_0 a0_1 false _ A4.out).mono ?_); rintro e w30 ⟨rfl, hb⟩; refine ⟨_, rfl, ?_⟩; have n0_ := Aside0.mk (blk_below (g := gb206) (o := .cells #[.int .i64 a0_0, .int .i64 a0_1, .int .i64 a0_2, .int .i64 a0_3, .int .i64 a0_4, .int .i64 a0_5, .int .i64 a0_6] 26 (0, 0)) (by (with_reducible repeat (first | refine blk_drewN ?_ _ | refine blk_drew ?_ | refine blk_alloc ?_ _)); exact BK206.out) hb); have n1_ := Aside0.mk (below_step (by repeat (first | (with_reducible first | exact HB.out | apply below_alloc | apply pw_below_drewN | apply below_drew1 | refine below_set ?_ GE206.out) | exact HB.out)) hb); clear BK206; clear HB; have BK206 := n0_; have HB := n1_; clear n0_ n1_; (try clear hb); (try clear hb2); (try clear hk); (try clear hi)))
   go_meet
   case rel => exact ⟨_, (true), (by first | rfl | (simp; done) | (simp [*]; done)), H', ⟨by first | omega | exact Nat.le_refl _⟩, ⟨by (with_reducible repeat (first | refine blk_drewN ?_ _ | refine blk_drew ?_ | refine blk_alloc ?_ _)); exact BK206.out⟩, ⟨by repeat (first | (with_reducible first | exact HB.out | apply below_alloc | apply pw_below_drewN | apply below_drew1 | refine below_set ?_ GE206.out) | exact HB.out)⟩⟩
 case rest =>
  clear HC2
  try clear c1
  try clear c2
  try clear p2
  try clear c3
  try clear c5
  try clear c6
  try clear c6b0
  try clear c10
  try clear c10b0
  try clear c14
  try clear c14b0
  try clear c15
  try clear c18
  try clear c18b0
  try clear c22
  try clear c22b0
  try clear hcz11_0
  try clear hcz11_1
  try clear hcz11_2
  try clear hcz11_3
  try clear hcz11_4
  try clear hcz11_5
  try clear hcz11_6
  try clear hcz13_0
  try clear hcz13_1
  try clear hcz13_2
  try clear hcz13_3
  try clear hcz13_4
  try clear hcz13_5
  try clear hcz13_6
  try clear hcz15_0
  try clear hcz15_1
  try clear hcz15_2
  try clear hcz15_3
  try clear hcz15_4
  try clear hcz15_5
  try clear hcz15_6
  try clear hcz17_0
  try clear hcz17_1
  try clear hcz17_2
  try clear hcz17_3
  try clear hcz17_4
  try clear hcz17_5
  try clear hcz17_6
  try clear hcz19_0
  try clear hcz19_1
  try clear hcz19_2
  try clear hcz19_3
  try clear hcz19_4
  try clear hcz19_5
  try clear hcz19_6
  try clear hcz21_0
  try clear hcz21_1
  try clear hcz21_2
  try clear hcz21_3
  try clear hcz21_4
  try clear hcz21_5
  try clear hcz21_6
  try clear hcz23_0
  try clear hcz23_1
  try clear hcz23_2
  try clear hcz23_3
  try clear hcz23_4
  try clear hcz23_5
  try clear hcz23_6
  try clear hcz25_0
  try clear hcz25_1
  try clear hcz25_2
  try clear hcz25_3
  try clear hcz25_4
  try clear hcz25_5
  try clear hcz25_6
  try clear hcz26_0
  try clear hcz26_1
  try clear hcz26_2
  try clear hcz26_3
  try clear hcz26_4
  try clear hcz26_5
  try clear hcz26_6
  try clear hcz28_0
  try clear hcz28_1
  try clear hcz28_2
  try clear hcz28_3
  try clear hcz28_4
  try clear hcz28_5
  try clear hcz28_6
  try clear hcz29_0
  try clear hcz29_1
  try clear hcz29_2
  try clear hcz29_3
  try clear hcz29_4
  try clear hcz29_5
  try clear hcz29_6
  try clear hcz7_0
  try clear hcz7_1
  try clear hcz7_2
  try clear hcz7_3
  try clear hcz7_4
  try clear hcz7_5
  try clear hcz7_6
  try clear hcz9_0
  try clear hcz9_1
  try clear hcz9_2
  try clear hcz9_3
  try clear hcz9_4
  try clear hcz9_5
  try clear hcz9_6
  try clear hfz11_0
  try clear hfz11_1
  try clear hfz11_2
  try clear hfz11_3
  try clear hfz11_4
  try clear hfz11_5
  try clear hfz11_6
  try clear hfz13_0
  try clear hfz13_1
  try clear hfz13_2
  try clear hfz13_3
  try clear hfz13_4
  try clear hfz13_5
  try clear hfz13_6
  try clear hfz15_0
  try clear hfz15_1
  try clear hfz15_2
  try clear hfz15_3
  try clear hfz15_4
  try clear hfz15_5
  try clear hfz15_6
  try clear hfz17_0
  try clear hfz17_1
  try clear hfz17_2
  try clear hfz17_3
  try clear hfz17_4
  try clear hfz17_5
  try clear hfz17_6
  try clear hfz19_0
  try clear hfz19_1
  try clear hfz19_2
  try clear hfz19_3
  try clear hfz19_4
  try clear hfz19_5
  try clear hfz19_6
  try clear hfz21_0
  try clear hfz21_1
  try clear hfz21_2
  try clear hfz21_3
  try clear hfz21_4
  try clear hfz21_5
  try clear hfz21_6
  try clear hfz23_0
  try clear hfz23_1
  try clear hfz23_2
  try clear hfz23_3
  try clear hfz23_4
  try clear hfz23_5
  try clear hfz23_6
  try clear hfz25_0
  try clear hfz25_1
  try clear hfz25_2
  try clear hfz25_3
  try clear hfz25_4
  try clear hfz25_5
  try clear hfz25_6
  try clear hfz26_0
  try clear hfz26_1
  try clear hfz26_2
  try clear hfz26_3
  try clear hfz26_4
  try clear hfz26_5
  try clear hfz26_6
  try clear hfz28_0
  try clear hfz28_1
  try clear hfz28_2
  try clear hfz28_3
  try clear hfz28_4
  try clear hfz28_5
  try clear hfz28_6
  try clear hfz29_0
  try clear hfz29_1
  try clear hfz29_2
  try clear hfz29_3
  try clear hfz29_4
  try clear hfz29_5
  try clear hfz29_6
  try clear hfz7_0
  try clear hfz7_1
  try clear hfz7_2
  try clear hfz7_3
  try clear hfz7_4
  try clear hfz7_5
  try clear hfz7_6
  try clear hfz9_0
  try clear hfz9_1
  try clear hfz9_2
  try clear hfz9_3
  try clear hfz9_4
  try clear hfz9_5
  try clear hfz9_6
  obtain ⟨kq, x36_1, rfl, HA, HJ1, BK206, HB⟩ := hcut
  cases kq with
  | zero => exact absurd HA.out (by simp [payrollref7_Valid.j0])
  | succ kj1 =>
   have H := HA.out
   clear HA
   simp only [payrollref7_Valid.j0] at H
   by_cases c31 : x36_1 = true
   ·
    subst c31
    have H1 : (some false) = some r := by rw [if_pos rfl] at H; exact H
    clear H
    have H := H1
    clear H1
    obtain rfl := Option.some.inj H
    go_wp2
    go_ret
    exact ⟨by first | rfl | (simp [errW_none, errW_some] <;> rfl) | (simp [*, errW_none, errW_some] <;> rfl), by repeat (first | (with_reducible first | exact HB.out | apply below_alloc | apply pw_below_drewN | apply below_drew1 | refine below_set ?_ GE206.out) | exact HB.out)⟩
   ·
    replace c31 := Bool.eq_false_iff.mpr c31
    subst c31
    have H1 : (if a0_4 = 5 then ((payrollref7_key.f a0_5 a0_6).bind fun t208 => (some t208)) else (if a0_4 = 6 then ((payrollref7_key.f a0_5 a0_6).bind fun t209 => (some t209)) else (some (a0_5 == 0 && (a0_6 == 0))))) = some r := by rw [if_neg (show ¬ (false = true) by decide)] at H; exact H
    clear H
    have H := H1
    clear H1
    by_cases c32 : a0_4 = 5
    ·
     rw [if_pos c32] at H
     have c32b0 : (a0_4 == 5) = true := beq_iff_eq.mpr c32
     have c32b1 : (a0_4 != 5) = false := bne_eq_false_iff_eq.mpr c32
     clear c32
     replace H := Option.bind_eq_some_iff.mp H
     obtain ⟨t208, A330, H⟩ := H
     replace H : (some t208) = some r := H
     have A33 := Aside0.mk A330
     clear A330
     obtain rfl := Option.some.inj H
     have hcz34_0 : wc.cell? ⟨gb206, 0, none⟩ = some (.int .i64 a0_0) := (blk_cell BK206.out 0).trans rfl
     have hcz34_1 : wc.cell? ⟨gb206, 1, none⟩ = some (.int .i64 a0_1) := (blk_cell BK206.out 1).trans rfl
     have hcz34_2 : wc.cell? ⟨gb206, 2, none⟩ = some (.int .i64 a0_2) := (blk_cell BK206.out 2).trans rfl
     have hcz34_3 : wc.cell? ⟨gb206, 3, none⟩ = some (.int .i64 a0_3) := (blk_cell BK206.out 3).trans rfl
     have hcz34_4 : wc.cell? ⟨gb206, 4, none⟩ = some (.int .i64 a0_4) := (blk_cell BK206.out 4).trans rfl
     have hcz34_5 : wc.cell? ⟨gb206, 5, none⟩ = some (.int .i64 a0_5) := (blk_cell BK206.out 5).trans rfl
     have hcz34_6 : wc.cell? ⟨gb206, 6, none⟩ = some (.int .i64 a0_6) := (blk_cell BK206.out 6).trans rfl
     have hfz34_0 := blk_frozen BK206.out 0
     have hfz34_1 := blk_frozen BK206.out 1
     have hfz34_2 := blk_frozen BK206.out 2
     have hfz34_3 := blk_frozen BK206.out 3
     have hfz34_4 := blk_frozen BK206.out 4
     have hfz34_5 := blk_frozen BK206.out 5
     have hfz34_6 := blk_frozen BK206.out 6
     go_wp2_with (first | ((with_reducible refine gate_callee (f := 33) rfl ?_); refine goesL_ (some 47) rfl rfl Try.func33 (by kernel_rfl) rfl #[.agg #[.int .i64 a0_5, .int .i64 a0_6]] rfl (by (try simp only [List.map_toArray, List.map_cons, List.map_nil]); first | done | rfl | (simp only [List.length_drop, List.length_take]; rfl)) ?_; (with_reducible refine (payrollref7_key.calls a0_5 a0_6 t208 _ A33.out).mono ?_); rintro e w35 ⟨rfl, hb⟩; refine ⟨_, rfl, ?_⟩; have n0_ := Aside0.mk (blk_below (g := gb206) (o := .cells #[.int .i64 a0_0, .int .i64 a0_1, .int .i64 a0_2, .int .i64 a0_3, .int .i64 a0_4, .int .i64 a0_5, .int .i64 a0_6] 26 (0, 0)) (by (with_reducible repeat (first | refine blk_drewN ?_ _ | refine blk_drew ?_ | refine blk_alloc ?_ _)); exact BK206.out) hb); have n1_ := Aside0.mk (below_step (by repeat (first | (with_reducible first | exact HB.out | apply below_alloc | apply pw_below_drewN | apply below_drew1 | refine below_set ?_ GE206.out) | exact HB.out)) hb); clear BK206; clear HB; have BK206 := n0_; have HB := n1_; clear n0_ n1_; (try clear hb); (try clear hb2); (try clear hk); (try clear hi)))
     go_ret
     exact ⟨by first | rfl | (simp [errW_none, errW_some] <;> rfl) | (simp [*, errW_none, errW_some] <;> rfl), by repeat (first | (with_reducible first | exact HB.out | apply below_alloc | apply pw_below_drewN | apply below_drew1 | refine below_set ?_ GE206.out) | exact HB.out)⟩
    ·
     rw [if_neg c32] at H
     have c32b0 : (a0_4 == 5) = false := beq_eq_false_iff_ne.mpr c32
     have c32b1 : (a0_4 != 5) = true := bne_iff_ne.mpr c32
     by_cases c36 : a0_4 = 6
     ·
      rw [if_pos c36] at H
      have c36b0 : (a0_4 == 6) = true := beq_iff_eq.mpr c36
      have c36b1 : (a0_4 != 6) = false := bne_eq_false_iff_eq.mpr c36
      clear c36
      replace H := Option.bind_eq_some_iff.mp H
      obtain ⟨t209, A370, H⟩ := H
      replace H : (some t209) = some r := H
      have A37 := Aside0.mk A370
      clear A370
      obtain rfl := Option.some.inj H
      have hcz38_0 : wc.cell? ⟨gb206, 0, none⟩ = some (.int .i64 a0_0) := (blk_cell BK206.out 0).trans rfl
      have hcz38_1 : wc.cell? ⟨gb206, 1, none⟩ = some (.int .i64 a0_1) := (blk_cell BK206.out 1).trans rfl
      have hcz38_2 : wc.cell? ⟨gb206, 2, none⟩ = some (.int .i64 a0_2) := (blk_cell BK206.out 2).trans rfl
      have hcz38_3 : wc.cell? ⟨gb206, 3, none⟩ = some (.int .i64 a0_3) := (blk_cell BK206.out 3).trans rfl
      have hcz38_4 : wc.cell? ⟨gb206, 4, none⟩ = some (.int .i64 a0_4) := (blk_cell BK206.out 4).trans rfl
      have hcz38_5 : wc.cell? ⟨gb206, 5, none⟩ = some (.int .i64 a0_5) := (blk_cell BK206.out 5).trans rfl
      have hcz38_6 : wc.cell? ⟨gb206, 6, none⟩ = some (.int .i64 a0_6) := (blk_cell BK206.out 6).trans rfl
      have hfz38_0 := blk_frozen BK206.out 0
      have hfz38_1 := blk_frozen BK206.out 1
      have hfz38_2 := blk_frozen BK206.out 2
      have hfz38_3 := blk_frozen BK206.out 3
      have hfz38_4 := blk_frozen BK206.out 4
      have hfz38_5 := blk_frozen BK206.out 5
      have hfz38_6 := blk_frozen BK206.out 6
      go_wp2_with (first | ((with_reducible refine gate_callee (f := 33) rfl ?_); refine goesL_ (some 47) rfl rfl Try.func33 (by kernel_rfl) rfl #[.agg #[.int .i64 a0_5, .int .i64 a0_6]] rfl (by (try simp only [List.map_toArray, List.map_cons, List.map_nil]); first | done | rfl | (simp only [List.length_drop, List.length_take]; rfl)) ?_; (with_reducible refine (payrollref7_key.calls a0_5 a0_6 t209 _ A37.out).mono ?_); rintro e w39 ⟨rfl, hb⟩; refine ⟨_, rfl, ?_⟩; have n0_ := Aside0.mk (blk_below (g := gb206) (o := .cells #[.int .i64 a0_0, .int .i64 a0_1, .int .i64 a0_2, .int .i64 a0_3, .int .i64 a0_4, .int .i64 a0_5, .int .i64 a0_6] 26 (0, 0)) (by (with_reducible repeat (first | refine blk_drewN ?_ _ | refine blk_drew ?_ | refine blk_alloc ?_ _)); exact BK206.out) hb); have n1_ := Aside0.mk (below_step (by repeat (first | (with_reducible first | exact HB.out | apply below_alloc | apply pw_below_drewN | apply below_drew1 | refine below_set ?_ GE206.out) | exact HB.out)) hb); clear BK206; clear HB; have BK206 := n0_; have HB := n1_; clear n0_ n1_; (try clear hb); (try clear hb2); (try clear hk); (try clear hi)))
      go_ret
      exact ⟨by first | rfl | (simp [errW_none, errW_some] <;> rfl) | (simp [*, errW_none, errW_some] <;> rfl), by repeat (first | (with_reducible first | exact HB.out | apply below_alloc | apply pw_below_drewN | apply below_drew1 | refine below_set ?_ GE206.out) | exact HB.out)⟩
     ·
      rw [if_neg c36] at H
      have c36b0 : (a0_4 == 6) = false := beq_eq_false_iff_ne.mpr c36
      have c36b1 : (a0_4 != 6) = true := bne_iff_ne.mpr c36
      obtain rfl := Option.some.inj H
      have hcz40_0 : wc.cell? ⟨gb206, 0, none⟩ = some (.int .i64 a0_0) := (blk_cell BK206.out 0).trans rfl
      have hcz40_1 : wc.cell? ⟨gb206, 1, none⟩ = some (.int .i64 a0_1) := (blk_cell BK206.out 1).trans rfl
      have hcz40_2 : wc.cell? ⟨gb206, 2, none⟩ = some (.int .i64 a0_2) := (blk_cell BK206.out 2).trans rfl
      have hcz40_3 : wc.cell? ⟨gb206, 3, none⟩ = some (.int .i64 a0_3) := (blk_cell BK206.out 3).trans rfl
      have hcz40_4 : wc.cell? ⟨gb206, 4, none⟩ = some (.int .i64 a0_4) := (blk_cell BK206.out 4).trans rfl
      have hcz40_5 : wc.cell? ⟨gb206, 5, none⟩ = some (.int .i64 a0_5) := (blk_cell BK206.out 5).trans rfl
      have hcz40_6 : wc.cell? ⟨gb206, 6, none⟩ = some (.int .i64 a0_6) := (blk_cell BK206.out 6).trans rfl
      have hfz40_0 := blk_frozen BK206.out 0
      have hfz40_1 := blk_frozen BK206.out 1
      have hfz40_2 := blk_frozen BK206.out 2
      have hfz40_3 := blk_frozen BK206.out 3
      have hfz40_4 := blk_frozen BK206.out 4
      have hfz40_5 := blk_frozen BK206.out 5
      have hfz40_6 := blk_frozen BK206.out 6
      go_wp2
      go_ret
      exact ⟨by first | rfl | (simp [errW_none, errW_some] <;> rfl) | (simp [*, errW_none, errW_some] <;> rfl), by repeat (first | (with_reducible first | exact HB.out | apply below_alloc | apply pw_below_drewN | apply below_drew1 | refine below_set ?_ GE206.out) | exact HB.out)⟩

end Go.Proofs.Ytopigdnffnondaa.P
