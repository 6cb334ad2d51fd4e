/- Proved here: that the Go function payrollref30_Formula computes the plain function of that name (the machine side of the laws, reworked from a print; no condition of its own). -/
import Derived.Test.YtbacfajhgmnjpaaProg
import Derived.Test.YtbacfajhgmnjpaaV1
import Derived.Test.YtbacfajhgmnjpaaV2
import Derived.Test.YtbacfajhgmnjpaaFPRE
import Derived.Test.YtbacfajhgmnjpaaFref
import Derived.Test.YtbacfajhgmnjpaaFpayrollref30Valid
namespace Go.Proofs.Ytbacfajhgmnjpaa.P
open Go.RowKit Go.Proofs.YtbacfajhgmnjpaaW.PrintWords Go.Proofs.YtbacfajhgmnjpaaW.PrintLast Go.Proofs.YtbacfajhgmnjpaaW.PrintMore
attribute [local go_sem] max2_int min2_int max_two min_two max_three min_three max_four min_four   -- for this text's walks alone
set_option linter.unusedVariables false
set_option linter.unusedSimpArgs false

def payrollref30_Formula.f (k : Nat) (a0_0 : Int) (l0_1 : List (S58)) (a0_2 : Int) (a0_3 : Int) (a0_4 : Int) (a0_5 : Int) (l0_6 : List (S80)) (a1 : Int) (a2 : Int) : Option (Int × Int) := (payrollref30_Valid.f k a0_0 l0_1 a0_2 a0_3 a0_4 a0_5 l0_6).bind fun t437 => (if t437 = true then ((payrollref30_in.f a1 1000000000).bind fun t438 => (if t438 = true then (if a2 < 1 then (some (0, 2)) else (if a2 > 53 then (some (0, 2)) else ((payrollref30_tax.f k a0_0 l0_1 a0_2 a0_3 a0_4 a0_5 l0_6 l0_1 a0_2 a0_3 (wrap64 (a1 * a2))).bind fun t439 => (if a2 = 0 then (none) else (some (wrap64 (Int.tdiv t439 a2), 0)))))) else (some (0, 2)))) else (some (0, 1)))
set_option maxHeartbeats 8000000 in
set_option maxRecDepth 100000 in
theorem payrollref30_Formula.calls (k : Nat) (a0_0 : Int) (A0_1 : Option Addr) (c0_1 : Nat) (l0_1 : List (S58)) (a0_2 : Int) (a0_3 : Int) (a0_4 : Int) (a0_5 : Int) (A0_6 : Option Addr) (c0_6 : Nat) (l0_6 : List (S80)) (a1 : Int) (a2 : Int) (r1 : Int) (r2 : Int) (w : World) (hr0_1 : Kd.C k58 w A0_1 l0_1.length l0_1) (hc0_1 : l0_1.length ≤ c0_1) (hr0_6 : Kd.C k80 w A0_6 l0_6.length l0_6) (hc0_6 : l0_6.length ≤ c0_6) (h : payrollref30_Formula.f k a0_0 l0_1 a0_2 a0_3 a0_4 a0_5 l0_6 a1 a2 = some (r1, r2)) :
  Calls Try.prog 25 #[.agg #[.int .i64 a0_0, .slice A0_1 l0_1.length c0_1, .int .i64 a0_2, .int .i64 a0_3, .int .i64 a0_4, .int .i64 a0_5, .slice A0_6 l0_6.length c0_6], .int .i64 a1, .int .i64 a2] w fun e w' => e = .returned (.tuple #[.int .i64 r1, .int .i64 r2]) ∧ Below w.heap.size w w' := by
 have hu33 := Try.underlying33
 have HR0_1 := Aside0.mk hr0_1
 have HC0_1 := Aside0.mk hc0_1
 clear hr0_1 hc0_1
 have HR0_6 := Aside0.mk hr0_6
 have HC0_6 := Aside0.mk hc0_6
 clear hr0_6 hc0_6
 have HB := Aside0.mk (Below.refl w.heap.size w)
 have H : ((payrollref30_Valid.f k a0_0 l0_1 a0_2 a0_3 a0_4 a0_5 l0_6).bind fun t437 => (if t437 = true then ((payrollref30_in.f a1 1000000000).bind fun t438 => (if t438 = true then (if a2 < 1 then (some (0, 2)) else (if a2 > 53 then (some (0, 2)) else ((payrollref30_tax.f k a0_0 l0_1 a0_2 a0_3 a0_4 a0_5 l0_6 l0_1 a0_2 a0_3 (wrap64 (a1 * a2))).bind fun t439 => (if a2 = 0 then (none) else (some (wrap64 (Int.tdiv t439 a2), 0)))))) else (some (0, 2)))) else (some (0, 1)))) = some (r1, r2) := h
 clear h
 replace H := Option.bind_eq_some_iff.mp H
 obtain ⟨t437, A40, H⟩ := H
 try dsimp only at H
 have A4 := Aside0.mk A40
 clear A40
 by_cases c5 : t437 = true
 ·
  subst c5
  rw [if_pos rfl] at H
  replace H := Option.bind_eq_some_iff.mp H
  obtain ⟨t438, A60, H⟩ := H
  try dsimp only at H
  have A6 := Aside0.mk A60
  clear A60
  by_cases c7 : t438 = true
  ·
   subst c7
   rw [if_pos rfl] at H
   by_cases c8 : a2 < 1
   ·
    rw [if_pos c8] at H
    have c8b0 : decide (a2 < 1) = true := decide_eq_true c8
    clear c8
    simp only [Option.some.injEq, Prod.mk.injEq] at H
    obtain ⟨rfl, rfl⟩ := H
    exact q43
   ·
    rw [if_neg c8] at H
    have c8b0 : decide (a2 < 1) = false := decide_eq_false c8
    clear c8
    by_cases c12 : a2 > 53
    ·
     rw [if_pos c12] at H
     have c12b0 : decide (53 < a2) = true := decide_eq_true c12
     clear c12
     simp only [Option.some.injEq, Prod.mk.injEq] at H
     obtain ⟨rfl, rfl⟩ := H
     exact q43
    ·
     rw [if_neg c12] at H
     have c12b0 : decide (53 < a2) = false := decide_eq_false c12
     clear c12
     replace H := Option.bind_eq_some_iff.mp H
     obtain ⟨t439, A160, H⟩ := H
     try dsimp only at H
     have A16 := Aside0.mk A160
     clear A160
     by_cases c17 : a2 = 0
     ·
      rw [if_pos c17] at H
      exact absurd H (by simp)
     ·
      rw [if_neg c17] at H
      have c17b0 : (a2 == 0) = false := beq_eq_false_iff_ne.mpr c17
      have c17b1 : (a2 != 0) = true := bne_iff_ne.mpr c17
      simp only [Option.some.injEq, Prod.mk.injEq] at H
      obtain ⟨rfl, rfl⟩ := H
      exact (by go_enter Try.func25, Try.ntmps25; go_wp2_with (first | ((with_reducible refine gate_dst (N := 3) rfl ?_); refine box_event ?hg (N := 3) ?hd (cs := #[.int .i64 a0_0, .slice A0_1 l0_1.length c0_1, .int .i64 a0_2, .int .i64 a0_3, .int .i64 a0_4, .int .i64 a0_5, .slice A0_6 l0_6.length c0_6]) (t := 33) ?hr ?_; (case hd => rfl); (case hg => rfl); (case hr => first | (go_simp; done) | (go_simp; rfl)); intro gb436 hg w_1 hbox hb; have n0_ := Aside0.mk (below_step q0 hb); have n1_ := Aside0.mk (hbox); have n2_ := Aside0.mk ((by rw [hg]; exact (below_size q0) : w.heap.size ≤ gb436)); have n3_ := Aside0.mk ((by rw [hg]; exact (below_size q0) : w.heap.size ≤ gb436)); clear HB; have HB := n0_; have BK436 := n1_; have GW436 := n2_; have GE436 := n3_; clear n0_ n1_ n2_ n3_; clear hb hbox hg; obtain ⟨hcz_1, hcz_2, hcz_3, hcz_4, hcz_5, hcz_6, hcz_7, hfz_1, hfz_2, hfz_3, hfz_4, hfz_5, hfz_6, hfz_7⟩ := blk7 BK436.out) | ((with_reducible refine gate_callee (f := 46) rfl ?_); refine goesL_ (some 9) rfl rfl Try.func46 (by kernel_rfl) rfl #[.agg #[.int .i64 a0_0, .slice A0_1 l0_1.length c0_1, .int .i64 a0_2, .int .i64 a0_3, .int .i64 a0_4, .int .i64 a0_5, .slice A0_6 l0_6.length c0_6]] rfl q1 ?_; (with_reducible refine (payrollref30_Valid.calls k a0_0 _ _ l0_1 a0_2 a0_3 a0_4 a0_5 _ _ l0_6 true _ ?side1 ?side2 ?side3 ?side4 A4.out).mono ?_); (case side1 => exact q12); (case side2 => exact HC0_1.out); (case side3 => exact q25); (case side4 => exact HC0_6.out); rintro e w_2 ⟨rfl, hb⟩; refine ⟨_, rfl, ?_⟩; have n0_ := Aside0.mk (blk_below (g := gb436) (o := .cells #[.int .i64 a0_0, .slice A0_1 l0_1.length c0_1, .int .i64 a0_2, .int .i64 a0_3, .int .i64 a0_4, .int .i64 a0_5, .slice A0_6 l0_6.length c0_6] 33 (0, 0)) q147 hb); have n1_ := Aside0.mk (below_step q71 hb); clear BK436; clear HB; have BK436 := n0_; have HB := n1_; clear n0_ n1_; (try clear hb); (try clear hb2); (try clear hk); (try clear hi)) | ((with_reducible refine gate_callee (f := 47) rfl ?_); refine goesL_ (some 12) rfl rfl Try.func47 (by kernel_rfl) rfl #[.int .i64 a1, .int .i64 1000000000] rfl q1 ?_; (with_reducible refine (payrollref30_in.calls a1 1000000000 true _ A6.out).mono ?_); rintro e w' ⟨rfl, ⟨nd, rfl⟩⟩; refine ⟨_, rfl, ?_⟩; obtain ⟨hcz_8, hcz_9, hcz_10, hcz_11, hcz_12, hcz_13, hcz_14, hfz_8, hfz_9, hfz_10, hfz_11, hfz_12, hfz_13, hfz_14⟩ := blk7 BK436.out) | ((with_reducible refine gate_callee (f := 51) rfl ?_); refine goesL_ (some 32) rfl rfl Try.func51 (by kernel_rfl) rfl #[.agg #[.int .i64 a0_0, .slice A0_1 l0_1.length c0_1, .int .i64 a0_2, .int .i64 a0_3, .int .i64 a0_4, .int .i64 a0_5, .slice A0_6 l0_6.length c0_6], .slice A0_1 l0_1.length c0_1, .int .i64 a0_2, .int .i64 a0_3, .int .i64 (wrap64 (a1 * a2))] rfl q1 ?_; (with_reducible refine (payrollref30_tax.calls k a0_0 _ _ l0_1 a0_2 a0_3 a0_4 a0_5 _ _ l0_6 _ _ l0_1 a0_2 a0_3 (wrap64 (a1 * a2)) t439 _ ?side1 ?side2 ?side3 ?side4 ?side5 ?side6 A16.out).mono ?_); (case side1 => exact (by repeat (first | exact (Kd.C_below HR0_1.out q71) | (with_reducible refine Kd.C_alloc ?_ _) | (with_reducible refine Kd.C_drewN ?_ _) | (with_reducible refine Kd.C_drew ?_)))); (case side2 => exact HC0_1.out); (case side3 => exact (by repeat (first | exact (Kd.C_below HR0_6.out q71) | (with_reducible refine Kd.C_alloc ?_ _) | (with_reducible refine Kd.C_drewN ?_ _) | (with_reducible refine Kd.C_drew ?_)))); (case side4 => exact HC0_6.out); (case side5 => exact (by repeat (first | exact (Kd.C_below HR0_1.out q71) | (with_reducible refine Kd.C_alloc ?_ _) | (with_reducible refine Kd.C_drewN ?_ _) | (with_reducible refine Kd.C_drew ?_)))); (case side6 => exact HC0_1.out); rintro e w_3 ⟨rfl, hb⟩; refine ⟨_, rfl, ?_⟩; have n0_ := Aside0.mk (blk_below (g := gb436) (o := .cells #[.int .i64 a0_0, .slice A0_1 l0_1.length c0_1, .int .i64 a0_2, .int .i64 a0_3, .int .i64 a0_4, .int .i64 a0_5, .slice A0_6 l0_6.length c0_6] 33 (0, 0)) q147 hb); have n1_ := Aside0.mk (below_step q71 hb); clear BK436; clear HB; have BK436 := n0_; have HB := n1_; clear n0_ n1_; (try clear hb); (try clear hb2); (try clear hk); (try clear hi))); go_ret2; exact ⟨by first | rfl | (simp [errW_none, errW_some] <;> rfl) | (simp [*, errW_none, errW_some] <;> rfl), q71⟩)
  ·
   replace c7 := Bool.eq_false_iff.mpr c7
   subst c7
   rw [if_neg (show ¬ (false = true) by decide)] at H
   simp only [Option.some.injEq, Prod.mk.injEq] at H
   obtain ⟨rfl, rfl⟩ := H
   exact (by go_enter Try.func25, Try.ntmps25; go_wp2_with (first | ((with_reducible refine gate_dst (N := 3) rfl ?_); refine box_event ?hg (N := 3) ?hd (cs := #[.int .i64 a0_0, .slice A0_1 l0_1.length c0_1, .int .i64 a0_2, .int .i64 a0_3, .int .i64 a0_4, .int .i64 a0_5, .slice A0_6 l0_6.length c0_6]) (t := 33) ?hr ?_; (case hd => rfl); (case hg => rfl); (case hr => first | (go_simp; done) | (go_simp; rfl)); intro gb436 hg w_1 hbox hb; have n0_ := Aside0.mk (below_step q0 hb); have n1_ := Aside0.mk (hbox); have n2_ := Aside0.mk ((by rw [hg]; exact (below_size q0) : w.heap.size ≤ gb436)); have n3_ := Aside0.mk ((by rw [hg]; exact (below_size q0) : w.heap.size ≤ gb436)); clear HB; have HB := n0_; have BK436 := n1_; have GW436 := n2_; have GE436 := n3_; clear n0_ n1_ n2_ n3_; clear hb hbox hg; obtain ⟨hcz_1, hcz_2, hcz_3, hcz_4, hcz_5, hcz_6, hcz_7, hfz_1, hfz_2, hfz_3, hfz_4, hfz_5, hfz_6, hfz_7⟩ := blk7 BK436.out) | ((with_reducible refine gate_callee (f := 46) rfl ?_); refine goesL_ (some 9) rfl rfl Try.func46 (by kernel_rfl) rfl #[.agg #[.int .i64 a0_0, .slice A0_1 l0_1.length c0_1, .int .i64 a0_2, .int .i64 a0_3, .int .i64 a0_4, .int .i64 a0_5, .slice A0_6 l0_6.length c0_6]] rfl q1 ?_; (with_reducible refine (payrollref30_Valid.calls k a0_0 _ _ l0_1 a0_2 a0_3 a0_4 a0_5 _ _ l0_6 true _ ?side1 ?side2 ?side3 ?side4 A4.out).mono ?_); (case side1 => exact q12); (case side2 => exact HC0_1.out); (case side3 => exact q25); (case side4 => exact HC0_6.out); rintro e w_2 ⟨rfl, hb⟩; refine ⟨_, rfl, ?_⟩; have n0_ := Aside0.mk (blk_below (g := gb436) (o := .cells #[.int .i64 a0_0, .slice A0_1 l0_1.length c0_1, .int .i64 a0_2, .int .i64 a0_3, .int .i64 a0_4, .int .i64 a0_5, .slice A0_6 l0_6.length c0_6] 33 (0, 0)) q147 hb); have n1_ := Aside0.mk (below_step q71 hb); clear BK436; clear HB; have BK436 := n0_; have HB := n1_; clear n0_ n1_; (try clear hb); (try clear hb2); (try clear hk); (try clear hi)) | ((with_reducible refine gate_callee (f := 47) rfl ?_); refine goesL_ (some 12) rfl rfl Try.func47 (by kernel_rfl) rfl #[.int .i64 a1, .int .i64 1000000000] rfl q1 ?_; (with_reducible refine (payrollref30_in.calls a1 1000000000 false _ A6.out).mono ?_); rintro e w' ⟨rfl, ⟨nd, rfl⟩⟩; refine ⟨_, rfl, ?_⟩)); go_ret2; exact ⟨by first | rfl | (simp [errW_none, errW_some] <;> rfl) | (simp [*, errW_none, errW_some] <;> rfl), q71⟩)
 ·
  replace c5 := Bool.eq_false_iff.mpr c5
  subst c5
  rw [if_neg (show ¬ (false = true) by decide)] at H
  simp only [Option.some.injEq, Prod.mk.injEq] at H
  obtain ⟨rfl, rfl⟩ := H
  exact (by go_enter Try.func25, Try.ntmps25; go_wp2_with (first | ((with_reducible refine gate_dst (N := 3) rfl ?_); refine box_event ?hg (N := 3) ?hd (cs := #[.int .i64 a0_0, .slice A0_1 l0_1.length c0_1, .int .i64 a0_2, .int .i64 a0_3, .int .i64 a0_4, .int .i64 a0_5, .slice A0_6 l0_6.length c0_6]) (t := 33) ?hr ?_; (case hd => rfl); (case hg => rfl); (case hr => first | (go_simp; done) | (go_simp; rfl)); intro gb436 hg w_1 hbox hb; have n0_ := Aside0.mk (below_step q0 hb); have n1_ := Aside0.mk (hbox); have n2_ := Aside0.mk ((by rw [hg]; exact (below_size q0) : w.heap.size ≤ gb436)); have n3_ := Aside0.mk ((by rw [hg]; exact (below_size q0) : w.heap.size ≤ gb436)); clear HB; have HB := n0_; have BK436 := n1_; have GW436 := n2_; have GE436 := n3_; clear n0_ n1_ n2_ n3_; clear hb hbox hg; obtain ⟨hcz_1, hcz_2, hcz_3, hcz_4, hcz_5, hcz_6, hcz_7, hfz_1, hfz_2, hfz_3, hfz_4, hfz_5, hfz_6, hfz_7⟩ := blk7 BK436.out) | ((with_reducible refine gate_callee (f := 46) rfl ?_); refine goesL_ (some 9) rfl rfl Try.func46 (by kernel_rfl) rfl #[.agg #[.int .i64 a0_0, .slice A0_1 l0_1.length c0_1, .int .i64 a0_2, .int .i64 a0_3, .int .i64 a0_4, .int .i64 a0_5, .slice A0_6 l0_6.length c0_6]] rfl q1 ?_; (with_reducible refine (payrollref30_Valid.calls k a0_0 _ _ l0_1 a0_2 a0_3 a0_4 a0_5 _ _ l0_6 false _ ?side1 ?side2 ?side3 ?side4 A4.out).mono ?_); (case side1 => exact q12); (case side2 => exact HC0_1.out); (case side3 => exact q25); (case side4 => exact HC0_6.out); rintro e w_2 ⟨rfl, hb⟩; refine ⟨_, rfl, ?_⟩; have n0_ := Aside0.mk (blk_below (g := gb436) (o := .cells #[.int .i64 a0_0, .slice A0_1 l0_1.length c0_1, .int .i64 a0_2, .int .i64 a0_3, .int .i64 a0_4, .int .i64 a0_5, .slice A0_6 l0_6.length c0_6] 33 (0, 0)) q147 hb); have n1_ := Aside0.mk (below_step q71 hb); clear BK436; clear HB; have BK436 := n0_; have HB := n1_; clear n0_ n1_; (try clear hb); (try clear hb2); (try clear hk); (try clear hi))); go_ret2; exact ⟨by first | rfl | (simp [errW_none, errW_some] <;> rfl) | (simp [*, errW_none, errW_some] <;> rfl), q71⟩)

end Go.Proofs.Ytbacfajhgmnjpaa.P
