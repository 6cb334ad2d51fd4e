/- Proved here: that the Go function payrolllaw30_awake computes the plain function of that name (the machine side of the laws, reworked from a print; no condition of its own). -/
import Derived.Test.YtbacfajhgmnjpaaProg
import Derived.Test.YtbacfajhgmnjpaaV1
import Derived.Test.YtbacfajhgmnjpaaV2
import Derived.Test.YtbacfajhgmnjpaaFPRE
import Derived.Test.YtbacfajhgmnjpaaFwithholdingFormula
import Derived.Test.YtbacfajhgmnjpaaFwithholdingYear
import Derived.Test.YtbacfajhgmnjpaaFpayrolllaw30plain
namespace Go.Proofs.Ytbacfajhgmnjpaa.P
open Go.RowKit Go.Proofs.YtbacfajhgmnjpaaW.PrintWords Go.Proofs.YtbacfajhgmnjpaaW.PrintLast Go.Proofs.YtbacfajhgmnjpaaW.PrintMore
attribute [local go_sem] max2_int min2_int max_two min_two max_three min_three max_four min_four   -- for this text's walks alone
set_option linter.unusedVariables false
set_option linter.unusedSimpArgs false

def payrolllaw30_awake.f (k : Nat)  : Option (Bool) := (payrolllaw30_plain.f 2).bind fun bt197 => ((withholding_Formula.f k bt197.1 bt197.2.1 bt197.2.2.1 bt197.2.2.2.1 bt197.2.2.2.2.1 bt197.2.2.2.2.2.1 bt197.2.2.2.2.2.2 600 12).bind fun bt208 => ((payrolllaw30_plain.f 3).bind fun bt210 => ((withholding_Year.f k bt210.1 bt210.2.1 bt210.2.2.1 bt210.2.2.2.1 bt210.2.2.2.2.1 bt210.2.2.2.2.2.1 bt210.2.2.2.2.2.2 12 (([600, 0, 600] : List Int))).bind fun bt224 => (if bt208.2 = 0 then (if bt208.1 = 100 then (if bt224.2 = 0 then (if (bt224.1.length : Int) = 3 then (if 0 < (bt224.1.length : Int) then (if (rd bt224.1 0) = 100 then (if 1 < (bt224.1.length : Int) then (if (rd bt224.1 1) = (-20) then (if 2 < (bt224.1.length : Int) then (some ((rd bt224.1 2) == 100)) else (none)) else (some false)) else (none)) else (some false)) else (none)) else (some false)) else (some false)) else (some false)) else (some false)))))
theorem payrolllaw30_awake.mono : ∀ k, LeO (payrolllaw30_awake.f k ) (payrolllaw30_awake.f (k + 1) ) := by
 intro  k
 unfold payrolllaw30_awake.f
 repeat' first
   | (with_reducible exact withholding_Formula.mono _ _ _ _ _ _ _ _ _ _)
   | (with_reducible exact withholding_Year.mono _ _ _ _ _ _ _ _ _ _)
   | (with_reducible exact LeO.refl _)
   | (with_reducible exact LeO.none _)
   | (with_reducible refine LeO.ite ?_ ?_)
   | (with_reducible refine LeO.bind ?_ (fun _ => ?_))
   | exact withholding_Formula.mono _ _ _ _ _ _ _ _ _ _
   | exact withholding_Year.mono _ _ _ _ _ _ _ _ _ _
   | exact LeO.none _
   | refine LeO.ite ?_ ?_
   | refine LeO.bind ?_ (fun _ => ?_)
set_option maxHeartbeats 8000000 in
set_option maxRecDepth 100000 in
theorem payrolllaw30_awake.calls (k : Nat)  (r : Bool) (w : World) (h : payrolllaw30_awake.f k  = some r) (hT : r = true := by first | rfl | exact HT.out) :
  Calls Try.prog 12 #[] w fun e w' => e = .returned (.bool r) ∧ Below w.heap.size w w' := by
 have HT := Aside0.mk hT
 clear hT
 have HB := Aside0.mk (Below.refl w.heap.size w)
 have H : ((payrolllaw30_plain.f 2).bind fun bt197 => ((withholding_Formula.f k bt197.1 bt197.2.1 bt197.2.2.1 bt197.2.2.2.1 bt197.2.2.2.2.1 bt197.2.2.2.2.2.1 bt197.2.2.2.2.2.2 600 12).bind fun bt208 => ((payrolllaw30_plain.f 3).bind fun bt210 => ((withholding_Year.f k bt210.1 bt210.2.1 bt210.2.2.1 bt210.2.2.2.1 bt210.2.2.2.2.1 bt210.2.2.2.2.2.1 bt210.2.2.2.2.2.2 12 (([600, 0, 600] : List Int))).bind fun bt224 => (if bt208.2 = 0 then (if bt208.1 = 100 then (if bt224.2 = 0 then (if (bt224.1.length : Int) = 3 then (if 0 < (bt224.1.length : Int) then (if (rd bt224.1 0) = 100 then (if 1 < (bt224.1.length : Int) then (if (rd bt224.1 1) = (-20) then (if 2 < (bt224.1.length : Int) then (some ((rd bt224.1 2) == 100)) else (none)) else (some false)) else (none)) else (some false)) else (none)) else (some false)) else (some false)) else (some false)) else (some false)))))) = some r := h
 clear h
 replace H := Option.bind_eq_some_iff.mp H
 obtain ⟨⟨t197, t198, t201, t202, t203, t204, t205⟩, A10, H⟩ := H
 try dsimp only at H
 have A1 := Aside0.mk A10
 clear A10
 replace H := Option.bind_eq_some_iff.mp H
 obtain ⟨⟨t208, t209⟩, A20, H⟩ := H
 try dsimp only at H
 have A2 := Aside0.mk A20
 clear A20
 replace H := Option.bind_eq_some_iff.mp H
 obtain ⟨⟨t210, t211, t214, t215, t216, t217, t218⟩, A30, H⟩ := H
 try dsimp only at H
 have A3 := Aside0.mk A30
 clear A30
 obtain ⟨y221, hy221⟩ : ∃ y_ : List Int, y_ = (([600, 0, 600] : List Int)) := ⟨_, rfl⟩
 replace H : ((withholding_Year.f k t210 t211 t214 t215 t216 t217 t218 12 y221).bind fun bt224 => (if t209 = 0 then (if t208 = 100 then (if bt224.2 = 0 then (if (bt224.1.length : Int) = 3 then (if 0 < (bt224.1.length : Int) then (if (rd bt224.1 0) = 100 then (if 1 < (bt224.1.length : Int) then (if (rd bt224.1 1) = (-20) then (if 2 < (bt224.1.length : Int) then (some ((rd bt224.1 2) == 100)) else (none)) else (some false)) else (none)) else (some false)) else (none)) else (some false)) else (some false)) else (some false)) else (some false))) = some r := by first | (rw [hy221]; with_reducible exact H) | (have H2_ := (Option.bind_some _ _).symm.trans H; rw [hy221]; with_reducible exact H2_) | (have H2_ := (Option.bind_some _ _).symm.trans H; with_reducible exact H2_) | with_reducible exact H | (rw [hy221]; exact H) | exact H
 have Ny221 := Aside0.mk hy221
 clear hy221
 replace H := Option.bind_eq_some_iff.mp H
 obtain ⟨⟨t224, t227⟩, A40, H⟩ := H
 try dsimp only at H
 have A4 := Aside0.mk A40
 clear A40
 by_cases c5 : t209 = 0
 ·
  rw [if_pos c5] at H
  have c5b0 : (t209 == 0) = true := beq_iff_eq.mpr c5
  have c5b1 : (t209 != 0) = false := bne_eq_false_iff_eq.mpr c5
  clear c5
  by_cases c6 : t208 = 100
  ·
   rw [if_pos c6] at H
   have c6b0 : (t208 == 100) = true := beq_iff_eq.mpr c6
   have c6b1 : (t208 != 100) = false := bne_eq_false_iff_eq.mpr c6
   clear c6
   by_cases c7 : t227 = 0
   ·
    rw [if_pos c7] at H
    have c7b0 : (t227 == 0) = true := beq_iff_eq.mpr c7
    have c7b1 : (t227 != 0) = false := bne_eq_false_iff_eq.mpr c7
    clear c7
    by_cases c8 : (t224.length : Int) = 3
    ·
     rw [if_pos c8] at H
     have c8b0 : ((t224.length : Int) == 3) = true := beq_iff_eq.mpr c8
     have c8b1 : ((t224.length : Int) != 3) = false := bne_eq_false_iff_eq.mpr c8
     clear c8
     by_cases c9 : 0 < (t224.length : Int)
     ·
      rw [if_pos c9] at H
      have c9b0 : decide (0 < (t224.length : Int)) = true := decide_eq_true c9
      have c9b1 : decide (0 < t224.length) = true := decide_eq_true (by omega)
      clear c9
      by_cases c10 : (rd t224 0) = 100
      ·
       rw [if_pos c10] at H
       have c10b0 : ((rd t224 0) == 100) = true := beq_iff_eq.mpr c10
       have c10b1 : ((rd t224 0) != 100) = false := bne_eq_false_iff_eq.mpr c10
       clear c10
       by_cases c11 : 1 < (t224.length : Int)
       ·
        rw [if_pos c11] at H
        have c11b0 : decide (1 < (t224.length : Int)) = true := decide_eq_true c11
        have c11b1 : decide (1 < t224.length) = true := decide_eq_true (by omega)
        clear c11
        by_cases c12 : (rd t224 1) = (-20)
        ·
         rw [if_pos c12] at H
         have c12b0 : ((rd t224 1) == (-20)) = true := beq_iff_eq.mpr c12
         have c12b1 : ((rd t224 1) != (-20)) = false := bne_eq_false_iff_eq.mpr c12
         clear c12
         by_cases c13 : 2 < (t224.length : Int)
         ·
          rw [if_pos c13] at H
          have c13b0 : decide (2 < (t224.length : Int)) = true := decide_eq_true c13
          have c13b1 : decide (2 < t224.length) = true := decide_eq_true (by omega)
          clear c13
          obtain rfl := Option.some.inj H
          exact (by go_enter Try.func12, Try.ntmps12; go_wp2_with (first | ((with_reducible refine gate_callee (f := 35) rfl ?_); refine goesL_ (some 6) rfl rfl Try.func35 (by kernel_rfl) rfl #[.int .i64 2] rfl q1 ?_; (with_reducible refine (payrolllaw30_plain.calls 2 t197 t198 t201 t202 t203 t204 t205 _ A1.out).mono ?_); rintro e w_1 ⟨v199, v206, rfl, ho_1, ho_2, hb⟩; refine ⟨_, rfl, ?_⟩; have n0_ := Aside0.mk (Kd.R_lower ho_1 (below_size q0)); have n1_ := Aside0.mk (Kd.R_lower ho_2 (below_size q0)); have n2_ := Aside0.mk (below_step q0 hb); clear HB; have HO_1 := n0_; have HO_2 := n1_; have HB := n2_; clear n0_ n1_ n2_; (try clear hb); (try clear hb2); (try clear hk); (try clear hi); (try clear ho_1); (try clear ho_2); obtain ⟨Ao_1, co_1, eo_1⟩ := Kd.R_slice HO_1.out; subst eo_1; obtain ⟨Ao_2, co_2, eo_2⟩ := Kd.R_slice HO_2.out; subst eo_2) | ((with_reducible refine gate_callee (f := 24) rfl ?_); refine goesL_ (some 7) rfl rfl Try.func24 (by kernel_rfl) rfl #[.agg #[.int .i64 t197, .slice Ao_1 t198.length co_1, .int .i64 t201, .int .i64 t202, .int .i64 t203, .int .i64 t204, .slice Ao_2 t205.length co_2], .int .i64 600, .int .i64 12] rfl q1 ?_; (with_reducible refine (withholding_Formula.calls k t197 _ _ t198 t201 t202 t203 t204 _ _ t205 600 12 t208 t209 _ ?side1 ?side2 ?side3 ?side4 A2.out).mono ?_); (case side1 => exact q30); (case side2 => exact (Kd.R_reads' HO_1.out).2.1); (case side3 => exact q31); (case side4 => exact (Kd.R_reads' HO_2.out).2.1); rintro e w_2 ⟨rfl, hb⟩; refine ⟨_, rfl, ?_⟩; have n0_ := Aside0.mk (Kd.R_below q20 hb); have n1_ := Aside0.mk (Kd.R_below q21 hb); have n2_ := Aside0.mk (below_step q0 hb); clear HO_1; clear HO_2; clear HB; have HO_1 := n0_; have HO_2 := n1_; have HB := n2_; clear n0_ n1_ n2_; (try clear hb); (try clear hb2); (try clear hk); (try clear hi)) | ((with_reducible refine gate_callee (f := 35) rfl ?_); refine goesL_ (some 11) rfl rfl Try.func35 (by kernel_rfl) rfl #[.int .i64 3] rfl q1 ?_; (with_reducible refine (payrolllaw30_plain.calls 3 t210 t211 t214 t215 t216 t217 t218 _ A3.out).mono ?_); rintro e w_3 ⟨v212, v219, rfl, ho_1, ho_2, hb⟩; refine ⟨_, rfl, ?_⟩; have n0_ := Aside0.mk (Kd.R_elder' q20 (Kd.R_base ho_1) hb); have n1_ := Aside0.mk (Kd.R_elder' q21 (Kd.R_base ho_2) hb); have n2_ := Aside0.mk (Kd.R_lower (Kd.R_new' ho_1 (Kd.R_lt q20)) (below_size q0)); have n3_ := Aside0.mk (Kd.R_lower (Kd.R_new' ho_2 (Kd.R_lt q21)) (below_size q0)); have n4_ := Aside0.mk (below_step q0 hb); clear HO_1; clear HO_2; clear HB; have HO_1 := n0_; have HO_2 := n1_; have HO_3 := n2_; have HO_4 := n3_; have HB := n4_; clear n0_ n1_ n2_ n3_ n4_; (try clear hb); (try clear hb2); (try clear hk); (try clear hi); (try clear ho_1); (try clear ho_2)) | ((with_reducible refine gate_dst (N := 12) rfl ?_); (try (refine gate_guard (by rfl) ?_; dsimp only)); refine Kd.R_lit (Kd.int .i64) _ 3 ?hg (N := 12) ?hd (xs := ([600, 0, 600] : List Int)) (inner := [.int .i64 600, .int .i64 0, .int .i64 600]) (ok := fun _ => True) (okp := fun _ => True) ?hr ?hp (fun _ hk => hk) trivial (Below.refl _ _) (Nat.le_refl _) (by simp) ?_; (case hd => rfl); (case hg => rfl); (case hr => first | (go_simp; done) | (go_simp; rfl)); (case hp => exact (Reps.one (show Kd.M (Kd.int .i64) _ _ _ 600 [.int .i64 600] from rfl) (Reps.one (show Kd.M (Kd.int .i64) _ _ _ 0 [.int .i64 0] from rfl) (Reps.one (show Kd.M (Kd.int .i64) _ _ _ 600 [.int .i64 600] from rfl) (Reps.none _ _))))); intro v222 w_4 ho_3 hb hg_ hnew_; clear hg_ hnew_; (first | rw [← Ny221.out] at ho_3 | (simp only [Int.reduceToNat] at ho_3; rw [← Ny221.out] at ho_3)); have n0_ := Aside0.mk (Kd.R_below q20 hb); have n1_ := Aside0.mk (Kd.R_below q21 hb); have n2_ := Aside0.mk (Kd.R_below q15 hb); have n3_ := Aside0.mk (Kd.R_below q38 hb); have n4_ := Aside0.mk (Kd.R_lower ho_3 (below_size q0)); have n5_ := Aside0.mk (below_step q0 hb); clear HO_1; clear HO_2; clear HO_3; clear HO_4; clear HB; have HO_1 := n0_; have HO_2 := n1_; have HO_3 := n2_; have HO_4 := n3_; have HO_5 := n4_; have HB := n5_; clear n0_ n1_ n2_ n3_ n4_ n5_; clear hb ho_3; obtain ⟨Ao_3, co_3, eo_3⟩ := Kd.R_slice HO_3.out; subst eo_3; obtain ⟨Ao_4, co_4, eo_4⟩ := Kd.R_slice HO_4.out; subst eo_4; obtain ⟨Ao_5, co_5, eo_5⟩ := Kd.R_slice HO_5.out; subst eo_5) | ((with_reducible refine gate_callee (f := 31) rfl ?_); refine goesL_ (some 13) rfl rfl Try.func31 (by kernel_rfl) rfl #[.agg #[.int .i64 t210, .slice Ao_3 t211.length co_3, .int .i64 t214, .int .i64 t215, .int .i64 t216, .int .i64 t217, .slice Ao_4 t218.length co_4], .int .i64 12, .slice Ao_5 y221.length co_5] rfl q1 ?_; (with_reducible refine (withholding_Year.calls k t210 _ _ t211 t214 t215 t216 t217 _ _ t218 12 _ _ y221 t224 t227 _ ?side1 ?side2 ?side3 ?side4 ?side5 ?side6 A4.out).mono ?_); (case side1 => exact q69); (case side2 => exact (Kd.R_reads' HO_3.out).2.1); (case side3 => exact q112); (case side4 => exact (Kd.R_reads' HO_4.out).2.1); (case side5 => exact q144); (case side6 => exact (Kd.R_reads' HO_5.out).2.1); rintro e w_5 ⟨v225, rfl, ho_1, hb⟩; refine ⟨_, rfl, ?_⟩; have n0_ := Aside0.mk (Kd.R_below q20 hb); have n1_ := Aside0.mk (Kd.R_below q21 hb); have n2_ := Aside0.mk (Kd.R_below q15 hb); have n3_ := Aside0.mk (Kd.R_below q38 hb); have n4_ := Aside0.mk (Kd.R_elder' q17 (Kd.R_base ho_1) hb); have n5_ := Aside0.mk (Kd.R_lower (Kd.R_new' ho_1 (Kd.R_lt q17)) (below_size q0)); have n6_ := Aside0.mk (below_step q0 hb); clear HO_1; clear HO_2; clear HO_3; clear HO_4; clear HO_5; clear HB; have HO_1 := n0_; have HO_2 := n1_; have HO_3 := n2_; have HO_4 := n3_; have HO_5 := n4_; have HO_6 := n5_; have HB := n6_; clear n0_ n1_ n2_ n3_ n4_ n5_ n6_; (try clear hb); (try clear hb2); (try clear hk); (try clear hi); (try clear ho_1); obtain ⟨Ao_6, co_6, eo_6⟩ := Kd.R_slice HO_6.out; subst eo_6; have p228 : 0 ≤ (0 : Int) := (by omega); have q228 : 0 < (t224.length : Int) := of_decide_eq_true q6; obtain ⟨ad_1, e_1, hx228_0⟩ := Kd.at_int (Kd.R_reads' HO_6.out).2.2 0 p228 q228; cases e_1; have qi228 : (0 < t224.length) = True := eq_true (by omega); (try rw [show ((0 : Int)).toNat = 0 from rfl] at hx228_0); (try rw [Addr.add_zero'] at hx228_0); replace p228 := eq_true p228; replace q228 := eq_true q228; have p229 : 0 ≤ (1 : Int) := (by omega); have q229 : 1 < (t224.length : Int) := of_decide_eq_true q6; obtain ⟨ad_2, e_2, hx229_0⟩ := Kd.at_int (Kd.R_reads' HO_6.out).2.2 1 p229 q229; obtain rfl : ad_1 = ad_2 := (by injection e_2); (try simp only [show (1 : Int).toNat = 1 from rfl, Nat.reduceMul, Nat.reduceEqDiff, Go.Addr.add, ↓reduceIte] at hx229_0); have qi229 : (1 < t224.length) = True := eq_true (by omega); (try rw [show ((1 : Int)).toNat = 1 from rfl] at hx229_0); replace p229 := eq_true p229; replace q229 := eq_true q229; have p230 : 0 ≤ (2 : Int) := (by omega); have q230 : 2 < (t224.length : Int) := of_decide_eq_true q6; obtain ⟨ad_3, e_3, hx230_0⟩ := Kd.at_int (Kd.R_reads' HO_6.out).2.2 2 p230 q230; obtain rfl : ad_1 = ad_3 := (by injection e_3); (try simp only [show (2 : Int).toNat = 2 from rfl, Nat.reduceMul, Nat.reduceEqDiff, Go.Addr.add, ↓reduceIte] at hx230_0); have qi230 : (2 < t224.length) = True := eq_true (by omega); (try rw [show ((2 : Int)).toNat = 2 from rfl] at hx230_0); replace p230 := eq_true p230; replace q230 := eq_true q230)); go_ret; exact ⟨by first | rfl | (simp [errW_none, errW_some] <;> rfl) | (simp [*, errW_none, errW_some] <;> rfl), q0⟩)
         ·
          rw [if_neg c13] at H
          exact absurd H (by simp)
        ·
         rw [if_neg c12] at H
         have c12b0 : ((rd t224 1) == (-20)) = false := beq_eq_false_iff_ne.mpr c12
         have c12b1 : ((rd t224 1) != (-20)) = true := bne_iff_ne.mpr c12
         exact absurd (Option.some.inj H) (by rw [HT.out]; decide)
       ·
        rw [if_neg c11] at H
        exact absurd H (by simp)
      ·
       rw [if_neg c10] at H
       have c10b0 : ((rd t224 0) == 100) = false := beq_eq_false_iff_ne.mpr c10
       have c10b1 : ((rd t224 0) != 100) = true := bne_iff_ne.mpr c10
       exact absurd (Option.some.inj H) (by rw [HT.out]; decide)
     ·
      rw [if_neg c9] at H
      exact absurd H (by simp)
    ·
     rw [if_neg c8] at H
     have c8b0 : ((t224.length : Int) == 3) = false := beq_eq_false_iff_ne.mpr c8
     have c8b1 : ((t224.length : Int) != 3) = true := bne_iff_ne.mpr c8
     exact absurd (Option.some.inj H) (by rw [HT.out]; decide)
   ·
    rw [if_neg c7] at H
    have c7b0 : (t227 == 0) = false := beq_eq_false_iff_ne.mpr c7
    have c7b1 : (t227 != 0) = true := bne_iff_ne.mpr c7
    exact absurd (Option.some.inj H) (by rw [HT.out]; decide)
  ·
   rw [if_neg c6] at H
   have c6b0 : (t208 == 100) = false := beq_eq_false_iff_ne.mpr c6
   have c6b1 : (t208 != 100) = true := bne_iff_ne.mpr c6
   exact absurd (Option.some.inj H) (by rw [HT.out]; decide)
 ·
  rw [if_neg c5] at H
  have c5b0 : (t209 == 0) = false := beq_eq_false_iff_ne.mpr c5
  have c5b1 : (t209 != 0) = true := bne_iff_ne.mpr c5
  exact absurd (Option.some.inj H) (by rw [HT.out]; decide)

end Go.Proofs.Ytbacfajhgmnjpaa.P
