/- Proved here: that the Go function payrolllaw30_WithholdingGrows computes the plain function of that name (the machine side of the laws, reworked from a print; no condition of its own). -/
import Derived.Test.YtbacfajhgmnjpaaProg
import Derived.Test.YtbacfajhgmnjpaaV1
import Derived.Test.YtbacfajhgmnjpaaV2
import Derived.Test.YtbacfajhgmnjpaaFPRE
import Derived.Test.YtbacfajhgmnjpaaFwithholdingAnnual
import Derived.Test.YtbacfajhgmnjpaaFwithholdingFormula
import Derived.Test.YtbacfajhgmnjpaaFwithholdingDue
import Derived.Test.YtbacfajhgmnjpaaFpayrolllaw30awake
import Derived.Test.YtbacfajhgmnjpaaFpaygen
import Derived.Test.YtbacfajhgmnjpaaFpaygenDeckTariff0
namespace Go.Proofs.Ytbacfajhgmnjpaa.P
open Go.RowKit Go.Proofs.YtbacfajhgmnjpaaW.PrintWords Go.Proofs.YtbacfajhgmnjpaaW.PrintLast Go.Proofs.YtbacfajhgmnjpaaW.PrintMore
attribute [local go_sem] max2_int min2_int max_two min_two max_three min_three max_four min_four   -- for this text's walks alone
set_option linter.unusedVariables false
set_option linter.unusedSimpArgs false

def payrolllaw30_WithholdingGrows.f (k : Nat) (l0 : List Int) (a1 : Int) : Option (Bool) := (paygen_New.f l0).bind fun bt775 => ((paygen_Deck_Tariff.f k bt775.1 bt775.2 0).bind fun bt778 => ((paygen_Deck_Small.f bt775.1 bt778.2.2.2.2.2.2.2).bind fun bt791 => ((paygen_Mod.f a1 1000000).bind fun t793 => ((paygen_Deck_Pick.f bt775.1 bt791.2 (([12, 4] : List Int))).bind fun bt797 => ((paygen_Deck_Next.f bt775.1 bt797.2 bt797.1).bind fun bt799 => ((withholding_Annual.f k bt778.1 bt778.2.1 bt778.2.2.1 bt778.2.2.2.1 bt778.2.2.2.2.1 bt778.2.2.2.2.2.1 bt778.2.2.2.2.2.2.1 (wrap64 (10 * bt791.1))).bind fun bt801 => ((withholding_Annual.f k bt778.1 bt778.2.1 bt778.2.2.1 bt778.2.2.2.1 bt778.2.2.2.2.1 bt778.2.2.2.2.2.1 bt778.2.2.2.2.2.2.1 (wrap64 ((wrap64 (10 * bt791.1)) + t793))).bind fun bt803 => ((withholding_Formula.f k bt778.1 bt778.2.1 bt778.2.2.1 bt778.2.2.2.1 bt778.2.2.2.2.1 bt778.2.2.2.2.2.1 bt778.2.2.2.2.2.2.1 (wrap64 (10 * bt791.1)) bt797.1).bind fun bt805 => ((withholding_Formula.f k bt778.1 bt778.2.1 bt778.2.2.1 bt778.2.2.2.1 bt778.2.2.2.2.1 bt778.2.2.2.2.2.1 bt778.2.2.2.2.2.2.1 (wrap64 ((wrap64 (10 * bt791.1)) + t793)) bt797.1).bind fun bt807 => ((withholding_Due.f k bt778.1 bt778.2.1 bt778.2.2.1 bt778.2.2.2.1 bt778.2.2.2.2.1 bt778.2.2.2.2.2.1 bt778.2.2.2.2.2.2.1 bt797.1 (wrap64 (1 + bt799.1)) (wrap64 (10 * bt791.1))).bind fun bt809 => ((withholding_Due.f k bt778.1 bt778.2.1 bt778.2.2.1 bt778.2.2.2.1 bt778.2.2.2.2.1 bt778.2.2.2.2.2.1 bt778.2.2.2.2.2.2.1 bt797.1 (wrap64 (1 + bt799.1)) (wrap64 ((wrap64 (10 * bt791.1)) + t793))).bind fun bt811 => (if bt801.2 = 0 then (if bt803.2 = 0 then (if bt805.2 = 0 then (if bt807.2 = 0 then (if bt809.2 = 0 then (if bt811.2 = 0 then (if bt801.1 ≤ bt803.1 then (if bt805.1 ≤ bt807.1 then (if bt809.1 ≤ bt811.1 then (if bt801.1 ≥ 0 then (if bt805.1 ≥ 0 then (if bt809.1 ≥ 0 then ((payrolllaw30_awake.f k).bind fun t813 => (some t813)) else (some false)) else (some false)) else (some false)) else (some false)) else (some false)) else (some false)) else (some false)) else (some false)) else (some false)) else (some false)) else (some false)) else (some false)))))))))))))
theorem payrolllaw30_WithholdingGrows.mono : ∀ a0 a1 k, LeO (payrolllaw30_WithholdingGrows.f k a0 a1) (payrolllaw30_WithholdingGrows.f (k + 1) a0 a1) := by
 intro a0 a1 k
 unfold payrolllaw30_WithholdingGrows.f
 repeat' first
   | (with_reducible exact paygen_Deck_Tariff.mono _ _ _ _)
   | (with_reducible exact payrolllaw30_awake.mono _)
   | (with_reducible exact withholding_Annual.mono _ _ _ _ _ _ _ _ _)
   | (with_reducible exact withholding_Due.mono _ _ _ _ _ _ _ _ _ _ _)
   | (with_reducible exact withholding_Formula.mono _ _ _ _ _ _ _ _ _ _)
   | (with_reducible exact LeO.refl _)
   | (with_reducible exact LeO.none _)
   | (with_reducible refine LeO.ite ?_ ?_)
   | (with_reducible refine LeO.bind ?_ (fun _ => ?_))
   | exact paygen_Deck_Tariff.mono _ _ _ _
   | exact payrolllaw30_awake.mono _
   | exact withholding_Annual.mono _ _ _ _ _ _ _ _ _
   | exact withholding_Due.mono _ _ _ _ _ _ _ _ _ _ _
   | exact withholding_Formula.mono _ _ _ _ _ _ _ _ _ _
   | exact LeO.none _
   | refine LeO.ite ?_ ?_
   | refine LeO.bind ?_ (fun _ => ?_)
set_option maxHeartbeats 8000000 in
set_option maxRecDepth 100000 in
theorem payrolllaw30_WithholdingGrows.calls (k : Nat) (A0 : Option Addr) (c0 : Nat) (l0 : List Int) (a1 : Int) (r : Bool) (w : World) (hr0 : Kd.C (Kd.int .i64) w A0 l0.length l0) (hc0 : l0.length ≤ c0) (h : payrolllaw30_WithholdingGrows.f k l0 a1 = some r) (hT : r = true) :
  Calls Try.prog 9 #[.slice A0 l0.length c0, .int .i64 a1] w fun e w' => e = .returned (.bool r) ∧ Below w.heap.size w w' := by
 have HT := Aside0.mk hT
 clear hT
 have hu33 := Try.underlying33
 have HR0 := Aside0.mk hr0
 have HC0 := Aside0.mk hc0
 clear hr0 hc0
 have HB := Aside0.mk (Below.refl w.heap.size w)
 have H : ((paygen_New.f l0).bind fun bt775 => ((paygen_Deck_Tariff.f k bt775.1 bt775.2 0).bind fun bt778 => ((paygen_Deck_Small.f bt775.1 bt778.2.2.2.2.2.2.2).bind fun bt791 => ((paygen_Mod.f a1 1000000).bind fun t793 => ((paygen_Deck_Pick.f bt775.1 bt791.2 (([12, 4] : List Int))).bind fun bt797 => ((paygen_Deck_Next.f bt775.1 bt797.2 bt797.1).bind fun bt799 => ((withholding_Annual.f k bt778.1 bt778.2.1 bt778.2.2.1 bt778.2.2.2.1 bt778.2.2.2.2.1 bt778.2.2.2.2.2.1 bt778.2.2.2.2.2.2.1 (wrap64 (10 * bt791.1))).bind fun bt801 => ((withholding_Annual.f k bt778.1 bt778.2.1 bt778.2.2.1 bt778.2.2.2.1 bt778.2.2.2.2.1 bt778.2.2.2.2.2.1 bt778.2.2.2.2.2.2.1 (wrap64 ((wrap64 (10 * bt791.1)) + t793))).bind fun bt803 => ((withholding_Formula.f k bt778.1 bt778.2.1 bt778.2.2.1 bt778.2.2.2.1 bt778.2.2.2.2.1 bt778.2.2.2.2.2.1 bt778.2.2.2.2.2.2.1 (wrap64 (10 * bt791.1)) bt797.1).bind fun bt805 => ((withholding_Formula.f k bt778.1 bt778.2.1 bt778.2.2.1 bt778.2.2.2.1 bt778.2.2.2.2.1 bt778.2.2.2.2.2.1 bt778.2.2.2.2.2.2.1 (wrap64 ((wrap64 (10 * bt791.1)) + t793)) bt797.1).bind fun bt807 => ((withholding_Due.f k bt778.1 bt778.2.1 bt778.2.2.1 bt778.2.2.2.1 bt778.2.2.2.2.1 bt778.2.2.2.2.2.1 bt778.2.2.2.2.2.2.1 bt797.1 (wrap64 (1 + bt799.1)) (wrap64 (10 * bt791.1))).bind fun bt809 => ((withholding_Due.f k bt778.1 bt778.2.1 bt778.2.2.1 bt778.2.2.2.1 bt778.2.2.2.2.1 bt778.2.2.2.2.2.1 bt778.2.2.2.2.2.2.1 bt797.1 (wrap64 (1 + bt799.1)) (wrap64 ((wrap64 (10 * bt791.1)) + t793))).bind fun bt811 => (if bt801.2 = 0 then (if bt803.2 = 0 then (if bt805.2 = 0 then (if bt807.2 = 0 then (if bt809.2 = 0 then (if bt811.2 = 0 then (if bt801.1 ≤ bt803.1 then (if bt805.1 ≤ bt807.1 then (if bt809.1 ≤ bt811.1 then (if bt801.1 ≥ 0 then (if bt805.1 ≥ 0 then (if bt809.1 ≥ 0 then ((payrolllaw30_awake.f k).bind fun t813 => (some t813)) else (some false)) else (some false)) else (some false)) else (some false)) else (some false)) else (some false)) else (some false)) else (some false)) else (some false)) else (some false)) else (some false)) else (some false)))))))))))))) = some r := h
 clear h
 replace H := Option.bind_eq_some_iff.mp H
 obtain ⟨⟨t775, t776⟩, A30, H⟩ := H
 try dsimp only at H
 have A3 := Aside0.mk A30
 clear A30
 replace H := Option.bind_eq_some_iff.mp H
 obtain ⟨⟨t778, t779, t782, t783, t784, t785, t786, t789⟩, A40, H⟩ := H
 try dsimp only at H
 have A4 := Aside0.mk A40
 clear A40
 replace H := Option.bind_eq_some_iff.mp H
 obtain ⟨⟨t791, t792⟩, A50, H⟩ := H
 try dsimp only at H
 have A5 := Aside0.mk A50
 clear A50
 replace H := Option.bind_eq_some_iff.mp H
 obtain ⟨t793, A60, H⟩ := H
 try dsimp only at H
 have A6 := Aside0.mk A60
 clear A60
 obtain ⟨y794, hy794⟩ : ∃ y_ : List Int, y_ = (([12, 4] : List Int)) := ⟨_, rfl⟩
 replace H : ((paygen_Deck_Pick.f t775 t792 y794).bind fun bt797 => ((paygen_Deck_Next.f t775 bt797.2 bt797.1).bind fun bt799 => ((withholding_Annual.f k t778 t779 t782 t783 t784 t785 t786 (wrap64 (10 * t791))).bind fun bt801 => ((withholding_Annual.f k t778 t779 t782 t783 t784 t785 t786 (wrap64 ((wrap64 (10 * t791)) + t793))).bind fun bt803 => ((withholding_Formula.f k t778 t779 t782 t783 t784 t785 t786 (wrap64 (10 * t791)) bt797.1).bind fun bt805 => ((withholding_Formula.f k t778 t779 t782 t783 t784 t785 t786 (wrap64 ((wrap64 (10 * t791)) + t793)) bt797.1).bind fun bt807 => ((withholding_Due.f k t778 t779 t782 t783 t784 t785 t786 bt797.1 (wrap64 (1 + bt799.1)) (wrap64 (10 * t791))).bind fun bt809 => ((withholding_Due.f k t778 t779 t782 t783 t784 t785 t786 bt797.1 (wrap64 (1 + bt799.1)) (wrap64 ((wrap64 (10 * t791)) + t793))).bind fun bt811 => (if bt801.2 = 0 then (if bt803.2 = 0 then (if bt805.2 = 0 then (if bt807.2 = 0 then (if bt809.2 = 0 then (if bt811.2 = 0 then (if bt801.1 ≤ bt803.1 then (if bt805.1 ≤ bt807.1 then (if bt809.1 ≤ bt811.1 then (if bt801.1 ≥ 0 then (if bt805.1 ≥ 0 then (if bt809.1 ≥ 0 then ((payrolllaw30_awake.f k).bind fun t813 => (some t813)) else (some false)) else (some false)) else (some false)) else (some false)) else (some false)) else (some false)) else (some false)) else (some false)) else (some false)) else (some false)) else (some false)) else (some false)))))))))) = some r := by first | (rw [hy794]; with_reducible exact H) | (have H2_ := (Option.bind_some _ _).symm.trans H; rw [hy794]; with_reducible exact H2_) | (have H2_ := (Option.bind_some _ _).symm.trans H; with_reducible exact H2_) | with_reducible exact H | (rw [hy794]; exact H) | exact H
 have Ny794 := Aside0.mk hy794
 clear hy794
 replace H := Option.bind_eq_some_iff.mp H
 obtain ⟨⟨t797, t798⟩, A70, H⟩ := H
 try dsimp only at H
 have A7 := Aside0.mk A70
 clear A70
 replace H := Option.bind_eq_some_iff.mp H
 obtain ⟨⟨t799, t800⟩, A80, H⟩ := H
 try dsimp only at H
 have A8 := Aside0.mk A80
 clear A80
 replace H := Option.bind_eq_some_iff.mp H
 obtain ⟨⟨t801, t802⟩, A90, H⟩ := H
 try dsimp only at H
 have A9 := Aside0.mk A90
 clear A90
 replace H := Option.bind_eq_some_iff.mp H
 obtain ⟨⟨t803, t804⟩, A100, H⟩ := H
 try dsimp only at H
 have A10 := Aside0.mk A100
 clear A100
 replace H := Option.bind_eq_some_iff.mp H
 obtain ⟨⟨t805, t806⟩, A110, H⟩ := H
 try dsimp only at H
 have A11 := Aside0.mk A110
 clear A110
 replace H := Option.bind_eq_some_iff.mp H
 obtain ⟨⟨t807, t808⟩, A120, H⟩ := H
 try dsimp only at H
 have A12 := Aside0.mk A120
 clear A120
 replace H := Option.bind_eq_some_iff.mp H
 obtain ⟨⟨t809, t810⟩, A130, H⟩ := H
 try dsimp only at H
 have A13 := Aside0.mk A130
 clear A130
 replace H := Option.bind_eq_some_iff.mp H
 obtain ⟨⟨t811, t812⟩, A140, H⟩ := H
 try dsimp only at H
 have A14 := Aside0.mk A140
 clear A140
 by_cases c15 : t802 = 0
 ·
  rw [if_pos c15] at H
  have c15b0 : (t802 == 0) = true := beq_iff_eq.mpr c15
  have c15b1 : (t802 != 0) = false := bne_eq_false_iff_eq.mpr c15
  clear c15
  by_cases c16 : t804 = 0
  ·
   rw [if_pos c16] at H
   have c16b0 : (t804 == 0) = true := beq_iff_eq.mpr c16
   have c16b1 : (t804 != 0) = false := bne_eq_false_iff_eq.mpr c16
   clear c16
   by_cases c17 : t806 = 0
   ·
    rw [if_pos c17] at H
    have c17b0 : (t806 == 0) = true := beq_iff_eq.mpr c17
    have c17b1 : (t806 != 0) = false := bne_eq_false_iff_eq.mpr c17
    clear c17
    by_cases c18 : t808 = 0
    ·
     rw [if_pos c18] at H
     have c18b0 : (t808 == 0) = true := beq_iff_eq.mpr c18
     have c18b1 : (t808 != 0) = false := bne_eq_false_iff_eq.mpr c18
     clear c18
     by_cases c19 : t810 = 0
     ·
      rw [if_pos c19] at H
      have c19b0 : (t810 == 0) = true := beq_iff_eq.mpr c19
      have c19b1 : (t810 != 0) = false := bne_eq_false_iff_eq.mpr c19
      clear c19
      by_cases c20 : t812 = 0
      ·
       rw [if_pos c20] at H
       have c20b0 : (t812 == 0) = true := beq_iff_eq.mpr c20
       have c20b1 : (t812 != 0) = false := bne_eq_false_iff_eq.mpr c20
       clear c20
       by_cases c21 : t801 ≤ t803
       ·
        rw [if_pos c21] at H
        have c21b0 : decide (t801 ≤ t803) = true := decide_eq_true c21
        clear c21
        by_cases c22 : t805 ≤ t807
        ·
         rw [if_pos c22] at H
         have c22b0 : decide (t805 ≤ t807) = true := decide_eq_true c22
         clear c22
         by_cases c23 : t809 ≤ t811
         ·
          rw [if_pos c23] at H
          have c23b0 : decide (t809 ≤ t811) = true := decide_eq_true c23
          clear c23
          by_cases c24 : t801 ≥ 0
          ·
           rw [if_pos c24] at H
           have c24b0 : decide (0 ≤ t801) = true := decide_eq_true c24
           clear c24
           by_cases c25 : t805 ≥ 0
           ·
            rw [if_pos c25] at H
            have c25b0 : decide (0 ≤ t805) = true := decide_eq_true c25
            clear c25
            by_cases c26 : t809 ≥ 0
            ·
             rw [if_pos c26] at H
             have c26b0 : decide (0 ≤ t809) = true := decide_eq_true c26
             clear c26
             replace H := Option.bind_eq_some_iff.mp H
             obtain ⟨t813, A270, H⟩ := H
             replace H : (some t813) = some r := H
             have A27 := Aside0.mk A270
             clear A270
             obtain rfl := Option.some.inj H
             go_enter Try.func9, Try.ntmps9
             go_wp2_with (first | ((with_reducible refine gate_callee (f := 13) rfl ?_); refine goesL_ (some 24) rfl rfl Try.func13 (by kernel_rfl) rfl #[.slice A0 l0.length c0] rfl q0 ?_; (with_reducible refine (paygen_New.calls _ _ l0 t775 t776 w _ ?side1 ?side2 ?side3 A3.out).mono ?_); (case side1 => exact q1); (case side2 => exact HR0.out); (case side3 => exact HC0.out); rintro e w28 ⟨g777, rfl, hi, hb, hb2⟩; refine ⟨_, rfl, ?_⟩; have n0_ := Aside0.mk (hb); have n1_ := Aside0.mk (hi); clear HB; have HB := n0_; have HI777 := n1_; clear n0_ n1_; (try clear hb); (try clear hb2); (try clear hk); (try clear hi)) | ((with_reducible refine gate_callee (f := 14) rfl ?_); refine goesL_ (some 26) rfl rfl Try.func14 (by kernel_rfl) rfl #[.pointer (some ⟨g777, 0, none⟩), .int .i64 0] rfl q0 ?_; (with_reducible refine (paygen_Deck_Tariff.calls k g777 t775 t776 0 t778 t779 t782 t783 t784 t785 t786 t789 w _ ?side1 ?side2 A4.out).mono ?_); (case side1 => exact (by repeat (first | (with_reducible first | exact HI777.out | apply IsS63.alloc | apply IsS63.drewN | apply IsS63.drew | apply IsS63.set_1) | exact HI777.out))); (case side2 => exact q100); rintro e w29 ⟨v780, v787, rfl, ho0, ho1, hi, hb, hk⟩; refine ⟨_, rfl, ?_⟩; have n0_ := Aside0.mk (Kd.R_lower ho0 (below_size q100)); have n1_ := Aside0.mk (Kd.R_lower ho1 (below_size q100)); have n2_ := Aside0.mk (hb); have n3_ := Aside0.mk (hi); clear HB; clear HI777; have HO781 := n0_; have HO788 := n1_; have HB := n2_; have HI777 := n3_; clear n0_ n1_ n2_ n3_; (try clear hb); (try clear hb2); (try clear hk); (try clear hi); (try clear ho0); (try clear ho1)) | ((with_reducible refine gate_dst (N := 6) rfl ?_); refine box_event ?hg (N := 6) ?hd (cs := #[.int .i64 0, .slice none 0 0, .int .i64 0, .int .i64 0, .int .i64 0, .int .i64 0, .slice none 0 0]) (t := 33) ?hr ?_; (case hd => rfl); (case hg => rfl); (case hr => first | (go_simp; done) | (go_simp; rfl)); intro gb790 hg w30 hbox hb; have n0_ := Aside0.mk (Kd.R_below q85 hb); have n1_ := Aside0.mk (Kd.R_below q86 hb); have n2_ := Aside0.mk (IsS63.below (by repeat (first | (with_reducible first | exact HI777.out | apply IsS63.alloc | apply IsS63.drewN | apply IsS63.drew | apply IsS63.set_1) | exact HI777.out)) hb); have n3_ := Aside0.mk (below_step q100 hb); have n4_ := Aside0.mk (hbox); have n5_ := Aside0.mk ((by rw [hg]; exact (below_size q100) : w.heap.size ≤ gb790)); have n6_ := Aside0.mk ((by rw [hg]; exact (below_size q100) : w.heap.size ≤ gb790)); have n7_ := Aside0.mk ((by rw [hg]; exact Nat.ne_of_lt (IsS63.lt (show IsS63 w _ g777 t775 t789 from by repeat (first | (with_reducible first | exact HI777.out | apply IsS63.alloc | apply IsS63.drewN | apply IsS63.drew | apply IsS63.set_1) | exact HI777.out))) : g777 ≠ gb790)); have n8_ := Aside0.mk ((by rw [hg]; exact Nat.ne_of_gt (IsS63.lt (show IsS63 w _ g777 t775 t789 from by repeat (first | (with_reducible first | exact HI777.out | apply IsS63.alloc | apply IsS63.drewN | apply IsS63.drew | apply IsS63.set_1) | exact HI777.out))) : gb790 ≠ g777)); clear HO781; clear HO788; clear HI777; clear HB; have HO781 := n0_; have HO788 := n1_; have HI777 := n2_; have HB := n3_; have BK790 := n4_; have GW790 := n5_; have GE790 := n6_; have NB777_790 := n7_; have NB790_777 := n8_; clear n0_ n1_ n2_ n3_ n4_ n5_ n6_ n7_ n8_; clear hb hbox hg; have hnb31 := NB790_777.out; have hnc31 := NB777_790.out; have hcz32_0 : w30.cell? ⟨gb790, 0, none⟩ = some (.int .i64 0) := (blk_cell BK790.out 0).trans rfl; have hcz32_1 : w30.cell? ⟨gb790, 1, none⟩ = some (.slice none 0 0) := (blk_cell BK790.out 1).trans rfl; have hcz32_2 : w30.cell? ⟨gb790, 2, none⟩ = some (.int .i64 0) := (blk_cell BK790.out 2).trans rfl; have hcz32_3 : w30.cell? ⟨gb790, 3, none⟩ = some (.int .i64 0) := (blk_cell BK790.out 3).trans rfl; have hcz32_4 : w30.cell? ⟨gb790, 4, none⟩ = some (.int .i64 0) := (blk_cell BK790.out 4).trans rfl; have hcz32_5 : w30.cell? ⟨gb790, 5, none⟩ = some (.int .i64 0) := (blk_cell BK790.out 5).trans rfl; have hcz32_6 : w30.cell? ⟨gb790, 6, none⟩ = some (.slice none 0 0) := (blk_cell BK790.out 6).trans rfl; have hfz32_0 := blk_frozen BK790.out 0; have hfz32_1 := blk_frozen BK790.out 1; have hfz32_2 := blk_frozen BK790.out 2; have hfz32_3 := blk_frozen BK790.out 3; have hfz32_4 := blk_frozen BK790.out 4; have hfz32_5 := blk_frozen BK790.out 5; have hfz32_6 := blk_frozen BK790.out 6; obtain ⟨Ao33, co33, eo33⟩ := Kd.R_slice HO781.out; subst eo33; obtain ⟨Ao34, co34, eo34⟩ := Kd.R_slice HO788.out; subst eo34) | ((with_reducible refine gate_callee (f := 18) rfl ?_); refine goesL_ (some 28) rfl rfl Try.func18 (by kernel_rfl) rfl #[.pointer (some ⟨g777, 0, none⟩)] rfl q0 ?_; (with_reducible refine (paygen_Deck_Small.calls g777 t775 t789 t791 t792 w _ ?side1 ?side2 A5.out).mono ?_); (case side1 => exact q53); (case side2 => exact q50); rintro e w35 ⟨rfl, hi, hb, hk⟩; refine ⟨_, rfl, ?_⟩; have n0_ := Aside0.mk (Kd.R_mono (Kd.R_keep (IsS63.apart (show IsS63 w _ g777 t775 t789 from by repeat (first | (with_reducible first | exact HI777.out | apply IsS63.alloc | apply IsS63.drewN | apply IsS63.drew | apply IsS63.set_1 | refine IsS63.far ?_ NB777_790.out _) | exact HI777.out)) (by (with_reducible repeat (first | apply Kd.R_alloc | apply Kd.R_drewN | apply Kd.R_drew)); exact (Kd.R_mono (Kd.R_far (p := ⟨gb790, 6, none⟩) (Kd.R_far (p := ⟨gb790, 5, none⟩) (Kd.R_far (p := ⟨gb790, 4, none⟩) (Kd.R_far (p := ⟨gb790, 3, none⟩) (Kd.R_far (p := ⟨gb790, 2, none⟩) (Kd.R_far (p := ⟨gb790, 1, none⟩) (Kd.R_far (p := ⟨gb790, 0, none⟩) (Kd.R_types HO781.out BK790.out (by decide)) (fun _ hk => hk.2) (.int .i64 t778)) (fun _ hk => hk.2) (.slice Ao33 t779.length co33)) (fun _ hk => hk.2) (.int .i64 t782)) (fun _ hk => hk.2) (.int .i64 t783)) (fun _ hk => hk.2) (.int .i64 t784)) (fun _ hk => hk.2) (.int .i64 t785)) (fun _ hk => hk.2) (.slice Ao34 t786.length co34)) (fun _ h_ => h_.1))) (by decide)) hk (fun _ h => h.2)) (fun _ h => h.1)); have n1_ := Aside0.mk (Kd.R_mono (Kd.R_keep (IsS63.apart (show IsS63 w _ g777 t775 t789 from by repeat (first | (with_reducible first | exact HI777.out | apply IsS63.alloc | apply IsS63.drewN | apply IsS63.drew | apply IsS63.set_1 | refine IsS63.far ?_ NB777_790.out _) | exact HI777.out)) (by (with_reducible repeat (first | apply Kd.R_alloc | apply Kd.R_drewN | apply Kd.R_drew)); exact (Kd.R_mono (Kd.R_far (p := ⟨gb790, 6, none⟩) (Kd.R_far (p := ⟨gb790, 5, none⟩) (Kd.R_far (p := ⟨gb790, 4, none⟩) (Kd.R_far (p := ⟨gb790, 3, none⟩) (Kd.R_far (p := ⟨gb790, 2, none⟩) (Kd.R_far (p := ⟨gb790, 1, none⟩) (Kd.R_far (p := ⟨gb790, 0, none⟩) (Kd.R_types HO788.out BK790.out (by decide)) (fun _ hk => hk.2) (.int .i64 t778)) (fun _ hk => hk.2) (.slice Ao33 t779.length co33)) (fun _ hk => hk.2) (.int .i64 t782)) (fun _ hk => hk.2) (.int .i64 t783)) (fun _ hk => hk.2) (.int .i64 t784)) (fun _ hk => hk.2) (.int .i64 t785)) (fun _ hk => hk.2) (.slice Ao34 t786.length co34)) (fun _ h_ => h_.1))) (by decide)) hk (fun _ h => h.2)) (fun _ h => h.1)); have n2_ := Aside0.mk (KeepBut.blk hk (g' := gb790) (o := .cells #[.int .i64 t778, .slice Ao33 t779.length co33, .int .i64 t782, .int .i64 t783, .int .i64 t784, .int .i64 t785, .slice Ao34 t786.length co34] 33 (0, 0)) (by (with_reducible repeat (first | refine blk_drewN ?_ _ | refine blk_drew ?_ | refine blk_alloc ?_ _)); refine blk_put (cs := #[.int .i64 t778, .slice Ao33 t779.length co33, .int .i64 t782, .int .i64 t783, .int .i64 t784, .int .i64 t785, .slice none 0 0]) ?_ 6 _ rfl; (with_reducible repeat (first | refine blk_drewN ?_ _ | refine blk_drew ?_ | refine blk_alloc ?_ _)); refine blk_put (cs := #[.int .i64 t778, .slice Ao33 t779.length co33, .int .i64 t782, .int .i64 t783, .int .i64 t784, .int .i64 0, .slice none 0 0]) ?_ 5 _ rfl; (with_reducible repeat (first | refine blk_drewN ?_ _ | refine blk_drew ?_ | refine blk_alloc ?_ _)); refine blk_put (cs := #[.int .i64 t778, .slice Ao33 t779.length co33, .int .i64 t782, .int .i64 t783, .int .i64 0, .int .i64 0, .slice none 0 0]) ?_ 4 _ rfl; (with_reducible repeat (first | refine blk_drewN ?_ _ | refine blk_drew ?_ | refine blk_alloc ?_ _)); refine blk_put (cs := #[.int .i64 t778, .slice Ao33 t779.length co33, .int .i64 t782, .int .i64 0, .int .i64 0, .int .i64 0, .slice none 0 0]) ?_ 3 _ rfl; (with_reducible repeat (first | refine blk_drewN ?_ _ | refine blk_drew ?_ | refine blk_alloc ?_ _)); refine blk_put (cs := #[.int .i64 t778, .slice Ao33 t779.length co33, .int .i64 0, .int .i64 0, .int .i64 0, .int .i64 0, .slice none 0 0]) ?_ 2 _ rfl; (with_reducible repeat (first | refine blk_drewN ?_ _ | refine blk_drew ?_ | refine blk_alloc ?_ _)); refine blk_put (cs := #[.int .i64 t778, .slice none 0 0, .int .i64 0, .int .i64 0, .int .i64 0, .int .i64 0, .slice none 0 0]) ?_ 1 _ rfl; (with_reducible repeat (first | refine blk_drewN ?_ _ | refine blk_drew ?_ | refine blk_alloc ?_ _)); refine blk_put (cs := #[.int .i64 0, .slice none 0 0, .int .i64 0, .int .i64 0, .int .i64 0, .int .i64 0, .slice none 0 0]) ?_ 0 _ rfl; (with_reducible repeat (first | refine blk_drewN ?_ _ | refine blk_drew ?_ | refine blk_alloc ?_ _)); exact BK790.out) NB790_777.out (by simp)); have n3_ := Aside0.mk (hb); have n4_ := Aside0.mk (hi); clear HO781; clear HO788; clear BK790; clear HB; clear HI777; have HO781 := n0_; have HO788 := n1_; have BK790 := n2_; have HB := n3_; have HI777 := n4_; clear n0_ n1_ n2_ n3_ n4_; (try clear hb); (try clear hb2); (try clear hk); (try clear hi)) | ((with_reducible refine gate_callee (f := 34) rfl ?_); refine goesL_ (some 32) rfl rfl Try.func34 (by kernel_rfl) rfl #[.int .i64 a1, .int .i64 1000000] rfl q0 ?_; (with_reducible refine (paygen_Mod.calls a1 1000000 t793 _ A6.out).mono ?_); rintro e w' ⟨rfl, ⟨nd, rfl⟩⟩; refine ⟨_, rfl, ?_⟩) | ((with_reducible refine gate_dst (N := 35) rfl ?_); refine Kd.R_lit (Kd.int .i64) _ 3 ?hg (N := 35) ?hd (xs := ([12, 4] : List Int)) (inner := [.int .i64 12, .int .i64 4]) (ok := fun _ => True) (okp := fun _ => True) ?hr ?hp (fun _ hk => hk) trivial (Below.refl _ _) (Nat.le_refl _) (by simp) ?_; (case hd => rfl); (case hg => rfl); (case hr => first | (go_simp; done) | (go_simp; rfl)); (case hp => exact (Reps.one (show Kd.M (Kd.int .i64) _ _ _ 12 [.int .i64 12] from rfl) (Reps.one (show Kd.M (Kd.int .i64) _ _ _ 4 [.int .i64 4] from rfl) (Reps.none _ _)))); intro v795 w36 ho37 hb hg_ hnew_; clear hg_ hnew_; (first | rw [← Ny794.out] at ho37 | (simp only [Int.reduceToNat] at ho37; rw [← Ny794.out] at ho37)); have n0_ := Aside0.mk (Kd.R_below q85 hb); have n1_ := Aside0.mk (Kd.R_below q86 hb); have n2_ := Aside0.mk (Kd.R_lower ho37 (below_size q50)); have n3_ := Aside0.mk (IsS63.below q53 hb); have n4_ := Aside0.mk (blk_below (g := gb790) (o := .cells #[.int .i64 t778, .slice Ao33 t779.length co33, .int .i64 t782, .int .i64 t783, .int .i64 t784, .int .i64 t785, .slice Ao34 t786.length co34] 33 (0, 0)) q82 hb); have n5_ := Aside0.mk (below_step q50 hb); clear HO781; clear HO788; clear HI777; clear BK790; clear HB; have HO781 := n0_; have HO788 := n1_; have HO796 := n2_; have HI777 := n3_; have BK790 := n4_; have HB := n5_; clear n0_ n1_ n2_ n3_ n4_ n5_; clear hb ho37; obtain ⟨Ao38, co38, eo38⟩ := Kd.R_slice HO796.out; subst eo38) | ((with_reducible refine gate_callee (f := 15) rfl ?_); refine goesL_ (some 36) rfl rfl Try.func15 (by kernel_rfl) rfl #[.pointer (some ⟨g777, 0, none⟩), .slice Ao38 y794.length co38] rfl q0 ?_; (with_reducible refine (paygen_Deck_Pick.calls g777 t775 t792 _ _ y794 t797 t798 w _ ?side1 ?side2 ?side3 ?side4 ?side5 A7.out).mono ?_); (case side1 => exact q53); (case side2 => exact q50); (case side3 => exact (by repeat (first | exact (Kd.R_reads' HO796.out).2.2 | (with_reducible refine Kd.C_alloc ?_ _) | (with_reducible refine Kd.C_drewN ?_ _) | (with_reducible refine Kd.C_drew ?_)))); (case side4 => exact (Kd.R_reads' HO796.out).2.1); (case side5 => exact far_slice (IsS63.own_ne HI777.out HO796.out (by decide))); rintro e w39 ⟨rfl, hi, hb, hk⟩; refine ⟨_, rfl, ?_⟩; have n0_ := Aside0.mk (Kd.R_mono (Kd.R_keep (IsS63.apart (show IsS63 w _ g777 t775 t792 from by repeat (first | (with_reducible first | exact HI777.out | apply IsS63.alloc | apply IsS63.drewN | apply IsS63.drew | apply IsS63.set_1 | refine IsS63.far ?_ NB777_790.out _) | exact HI777.out)) q85 (by decide)) hk (fun _ h => h.2)) (fun _ h => h.1)); have n1_ := Aside0.mk (Kd.R_mono (Kd.R_keep (IsS63.apart (show IsS63 w _ g777 t775 t792 from by repeat (first | (with_reducible first | exact HI777.out | apply IsS63.alloc | apply IsS63.drewN | apply IsS63.drew | apply IsS63.set_1 | refine IsS63.far ?_ NB777_790.out _) | exact HI777.out)) q86 (by decide)) hk (fun _ h => h.2)) (fun _ h => h.1)); have n2_ := Aside0.mk (KeepBut.blk hk (g' := gb790) (o := .cells #[.int .i64 t778, .slice Ao33 t779.length co33, .int .i64 t782, .int .i64 t783, .int .i64 t784, .int .i64 t785, .slice Ao34 t786.length co34] 33 (0, 0)) q82 NB790_777.out (by simp)); have n3_ := Aside0.mk (Kd.R_mono (Kd.R_keep (IsS63.apart (show IsS63 w _ g777 t775 t792 from by repeat (first | (with_reducible first | exact HI777.out | apply IsS63.alloc | apply IsS63.drewN | apply IsS63.drew | apply IsS63.set_1 | refine IsS63.far ?_ NB777_790.out _) | exact HI777.out)) q110 (by decide)) hk (fun _ h => h.2)) (fun _ h => h.1)); have n4_ := Aside0.mk (hb); have n5_ := Aside0.mk (hi); clear HO781; clear HO788; clear BK790; clear HO796; clear HB; clear HI777; have HO781 := n0_; have HO788 := n1_; have BK790 := n2_; have HO796 := n3_; have HB := n4_; have HI777 := n5_; clear n0_ n1_ n2_ n3_ n4_ n5_; (try clear hb); (try clear hb2); (try clear hk); (try clear hi)) | ((with_reducible refine gate_callee (f := 17) rfl ?_); refine goesL_ (some 39) rfl rfl Try.func17 (by kernel_rfl) rfl #[.pointer (some ⟨g777, 0, none⟩), .int .i64 t797] rfl q0 ?_; (with_reducible refine (paygen_Deck_Next.calls g777 t775 t798 t797 t799 t800 w _ ?side1 ?side2 A8.out).mono ?_); (case side1 => exact q53); (case side2 => exact q50); rintro e w40 ⟨rfl, hi, hb, hk⟩; refine ⟨_, rfl, ?_⟩; have n0_ := Aside0.mk (Kd.R_mono (Kd.R_keep (IsS63.apart (show IsS63 w _ g777 t775 t798 from by repeat (first | (with_reducible first | exact HI777.out | apply IsS63.alloc | apply IsS63.drewN | apply IsS63.drew | apply IsS63.set_1 | refine IsS63.far ?_ NB777_790.out _) | exact HI777.out)) q85 (by decide)) hk (fun _ h => h.2)) (fun _ h => h.1)); have n1_ := Aside0.mk (Kd.R_mono (Kd.R_keep (IsS63.apart (show IsS63 w _ g777 t775 t798 from by repeat (first | (with_reducible first | exact HI777.out | apply IsS63.alloc | apply IsS63.drewN | apply IsS63.drew | apply IsS63.set_1 | refine IsS63.far ?_ NB777_790.out _) | exact HI777.out)) q86 (by decide)) hk (fun _ h => h.2)) (fun _ h => h.1)); have n2_ := Aside0.mk (KeepBut.blk hk (g' := gb790) (o := .cells #[.int .i64 t778, .slice Ao33 t779.length co33, .int .i64 t782, .int .i64 t783, .int .i64 t784, .int .i64 t785, .slice Ao34 t786.length co34] 33 (0, 0)) q82 NB790_777.out (by simp)); have n3_ := Aside0.mk (Kd.R_mono (Kd.R_keep (IsS63.apart (show IsS63 w _ g777 t775 t798 from by repeat (first | (with_reducible first | exact HI777.out | apply IsS63.alloc | apply IsS63.drewN | apply IsS63.drew | apply IsS63.set_1 | refine IsS63.far ?_ NB777_790.out _) | exact HI777.out)) q110 (by decide)) hk (fun _ h => h.2)) (fun _ h => h.1)); have n4_ := Aside0.mk (hb); have n5_ := Aside0.mk (hi); clear HO781; clear HO788; clear BK790; clear HO796; clear HB; clear HI777; have HO781 := n0_; have HO788 := n1_; have BK790 := n2_; have HO796 := n3_; have HB := n4_; have HI777 := n5_; clear n0_ n1_ n2_ n3_ n4_ n5_; (try clear hb); (try clear hb2); (try clear hk); (try clear hi); have hcz41_0 : w40.cell? ⟨gb790, 0, none⟩ = some (.int .i64 t778) := (blk_cell BK790.out 0).trans rfl; have hcz41_1 : w40.cell? ⟨gb790, 1, none⟩ = some (.slice Ao33 t779.length co33) := (blk_cell BK790.out 1).trans rfl; have hcz41_2 : w40.cell? ⟨gb790, 2, none⟩ = some (.int .i64 t782) := (blk_cell BK790.out 2).trans rfl; have hcz41_3 : w40.cell? ⟨gb790, 3, none⟩ = some (.int .i64 t783) := (blk_cell BK790.out 3).trans rfl; have hcz41_4 : w40.cell? ⟨gb790, 4, none⟩ = some (.int .i64 t784) := (blk_cell BK790.out 4).trans rfl; have hcz41_5 : w40.cell? ⟨gb790, 5, none⟩ = some (.int .i64 t785) := (blk_cell BK790.out 5).trans rfl; have hcz41_6 : w40.cell? ⟨gb790, 6, none⟩ = some (.slice Ao34 t786.length co34) := (blk_cell BK790.out 6).trans rfl; have hfz41_0 := blk_frozen BK790.out 0; have hfz41_1 := blk_frozen BK790.out 1; have hfz41_2 := blk_frozen BK790.out 2; have hfz41_3 := blk_frozen BK790.out 3; have hfz41_4 := blk_frozen BK790.out 4; have hfz41_5 := blk_frozen BK790.out 5; have hfz41_6 := blk_frozen BK790.out 6) | ((with_reducible refine gate_callee (f := 22) rfl ?_); refine goesL_ (some 44) rfl rfl Try.func22 (by kernel_rfl) rfl #[.agg #[.int .i64 t778, .slice Ao33 t779.length co33, .int .i64 t782, .int .i64 t783, .int .i64 t784, .int .i64 t785, .slice Ao34 t786.length co34], .int .i64 (wrap64 (10 * t791))] rfl q0 ?_; (with_reducible refine (withholding_Annual.calls k t778 _ _ t779 t782 t783 t784 t785 _ _ t786 (wrap64 (10 * t791)) t801 t802 _ ?side1 ?side2 ?side3 ?side4 A9.out).mono ?_); (case side1 => exact q106); (case side2 => exact (Kd.R_reads' HO781.out).2.1); (case side3 => exact q107); (case side4 => exact (Kd.R_reads' HO788.out).2.1); rintro e w42 ⟨rfl, hb⟩; refine ⟨_, rfl, ?_⟩; have n0_ := Aside0.mk (Kd.R_below q85 hb); have n1_ := Aside0.mk (Kd.R_below q86 hb); have n2_ := Aside0.mk (Kd.R_below q110 hb); have n3_ := Aside0.mk (IsS63.below q53 hb); have n4_ := Aside0.mk (blk_below (g := gb790) (o := .cells #[.int .i64 t778, .slice Ao33 t779.length co33, .int .i64 t782, .int .i64 t783, .int .i64 t784, .int .i64 t785, .slice Ao34 t786.length co34] 33 (0, 0)) q82 hb); have n5_ := Aside0.mk (below_step q50 hb); clear HO781; clear HO788; clear HO796; clear HI777; clear BK790; clear HB; have HO781 := n0_; have HO788 := n1_; have HO796 := n2_; have HI777 := n3_; have BK790 := n4_; have HB := n5_; clear n0_ n1_ n2_ n3_ n4_ n5_; (try clear hb); (try clear hb2); (try clear hk); (try clear hi); have hcz43_0 : w42.cell? ⟨gb790, 0, none⟩ = some (.int .i64 t778) := (blk_cell BK790.out 0).trans rfl; have hcz43_1 : w42.cell? ⟨gb790, 1, none⟩ = some (.slice Ao33 t779.length co33) := (blk_cell BK790.out 1).trans rfl; have hcz43_2 : w42.cell? ⟨gb790, 2, none⟩ = some (.int .i64 t782) := (blk_cell BK790.out 2).trans rfl; have hcz43_3 : w42.cell? ⟨gb790, 3, none⟩ = some (.int .i64 t783) := (blk_cell BK790.out 3).trans rfl; have hcz43_4 : w42.cell? ⟨gb790, 4, none⟩ = some (.int .i64 t784) := (blk_cell BK790.out 4).trans rfl; have hcz43_5 : w42.cell? ⟨gb790, 5, none⟩ = some (.int .i64 t785) := (blk_cell BK790.out 5).trans rfl; have hcz43_6 : w42.cell? ⟨gb790, 6, none⟩ = some (.slice Ao34 t786.length co34) := (blk_cell BK790.out 6).trans rfl; have hfz43_0 := blk_frozen BK790.out 0; have hfz43_1 := blk_frozen BK790.out 1; have hfz43_2 := blk_frozen BK790.out 2; have hfz43_3 := blk_frozen BK790.out 3; have hfz43_4 := blk_frozen BK790.out 4; have hfz43_5 := blk_frozen BK790.out 5; have hfz43_6 := blk_frozen BK790.out 6) | ((with_reducible refine gate_callee (f := 22) rfl ?_); refine goesL_ (some 50) rfl rfl Try.func22 (by kernel_rfl) rfl #[.agg #[.int .i64 t778, .slice Ao33 t779.length co33, .int .i64 t782, .int .i64 t783, .int .i64 t784, .int .i64 t785, .slice Ao34 t786.length co34], .int .i64 (wrap64 ((wrap64 (10 * t791)) + t793))] rfl q0 ?_; (with_reducible refine (withholding_Annual.calls k t778 _ _ t779 t782 t783 t784 t785 _ _ t786 (wrap64 ((wrap64 (10 * t791)) + t793)) t803 t804 _ ?side1 ?side2 ?side3 ?side4 A10.out).mono ?_); (case side1 => exact q106); (case side2 => exact (Kd.R_reads' HO781.out).2.1); (case side3 => exact q107); (case side4 => exact (Kd.R_reads' HO788.out).2.1); rintro e w44 ⟨rfl, hb⟩; refine ⟨_, rfl, ?_⟩; have n0_ := Aside0.mk (Kd.R_below q85 hb); have n1_ := Aside0.mk (Kd.R_below q86 hb); have n2_ := Aside0.mk (Kd.R_below q110 hb); have n3_ := Aside0.mk (IsS63.below q53 hb); have n4_ := Aside0.mk (blk_below (g := gb790) (o := .cells #[.int .i64 t778, .slice Ao33 t779.length co33, .int .i64 t782, .int .i64 t783, .int .i64 t784, .int .i64 t785, .slice Ao34 t786.length co34] 33 (0, 0)) q82 hb); have n5_ := Aside0.mk (below_step q50 hb); clear HO781; clear HO788; clear HO796; clear HI777; clear BK790; clear HB; have HO781 := n0_; have HO788 := n1_; have HO796 := n2_; have HI777 := n3_; have BK790 := n4_; have HB := n5_; clear n0_ n1_ n2_ n3_ n4_ n5_; (try clear hb); (try clear hb2); (try clear hk); (try clear hi); have hcz45_0 : w44.cell? ⟨gb790, 0, none⟩ = some (.int .i64 t778) := (blk_cell BK790.out 0).trans rfl; have hcz45_1 : w44.cell? ⟨gb790, 1, none⟩ = some (.slice Ao33 t779.length co33) := (blk_cell BK790.out 1).trans rfl; have hcz45_2 : w44.cell? ⟨gb790, 2, none⟩ = some (.int .i64 t782) := (blk_cell BK790.out 2).trans rfl; have hcz45_3 : w44.cell? ⟨gb790, 3, none⟩ = some (.int .i64 t783) := (blk_cell BK790.out 3).trans rfl; have hcz45_4 : w44.cell? ⟨gb790, 4, none⟩ = some (.int .i64 t784) := (blk_cell BK790.out 4).trans rfl; have hcz45_5 : w44.cell? ⟨gb790, 5, none⟩ = some (.int .i64 t785) := (blk_cell BK790.out 5).trans rfl; have hcz45_6 : w44.cell? ⟨gb790, 6, none⟩ = some (.slice Ao34 t786.length co34) := (blk_cell BK790.out 6).trans rfl; have hfz45_0 := blk_frozen BK790.out 0; have hfz45_1 := blk_frozen BK790.out 1; have hfz45_2 := blk_frozen BK790.out 2; have hfz45_3 := blk_frozen BK790.out 3; have hfz45_4 := blk_frozen BK790.out 4; have hfz45_5 := blk_frozen BK790.out 5; have hfz45_6 := blk_frozen BK790.out 6) | ((with_reducible refine gate_callee (f := 24) rfl ?_); refine goesL_ (some 57) rfl rfl Try.func24 (by kernel_rfl) rfl #[.agg #[.int .i64 t778, .slice Ao33 t779.length co33, .int .i64 t782, .int .i64 t783, .int .i64 t784, .int .i64 t785, .slice Ao34 t786.length co34], .int .i64 (wrap64 (10 * t791)), .int .i64 t797] rfl q0 ?_; (with_reducible refine (withholding_Formula.calls k t778 _ _ t779 t782 t783 t784 t785 _ _ t786 (wrap64 (10 * t791)) t797 t805 t806 _ ?side1 ?side2 ?side3 ?side4 A11.out).mono ?_); (case side1 => exact q106); (case side2 => exact (Kd.R_reads' HO781.out).2.1); (case side3 => exact q107); (case side4 => exact (Kd.R_reads' HO788.out).2.1); rintro e w46 ⟨rfl, hb⟩; refine ⟨_, rfl, ?_⟩; have n0_ := Aside0.mk (Kd.R_below q85 hb); have n1_ := Aside0.mk (Kd.R_below q86 hb); have n2_ := Aside0.mk (Kd.R_below q110 hb); have n3_ := Aside0.mk (IsS63.below q53 hb); have n4_ := Aside0.mk (blk_below (g := gb790) (o := .cells #[.int .i64 t778, .slice Ao33 t779.length co33, .int .i64 t782, .int .i64 t783, .int .i64 t784, .int .i64 t785, .slice Ao34 t786.length co34] 33 (0, 0)) q82 hb); have n5_ := Aside0.mk (below_step q50 hb); clear HO781; clear HO788; clear HO796; clear HI777; clear BK790; clear HB; have HO781 := n0_; have HO788 := n1_; have HO796 := n2_; have HI777 := n3_; have BK790 := n4_; have HB := n5_; clear n0_ n1_ n2_ n3_ n4_ n5_; (try clear hb); (try clear hb2); (try clear hk); (try clear hi); have hcz47_0 : w46.cell? ⟨gb790, 0, none⟩ = some (.int .i64 t778) := (blk_cell BK790.out 0).trans rfl; have hcz47_1 : w46.cell? ⟨gb790, 1, none⟩ = some (.slice Ao33 t779.length co33) := (blk_cell BK790.out 1).trans rfl; have hcz47_2 : w46.cell? ⟨gb790, 2, none⟩ = some (.int .i64 t782) := (blk_cell BK790.out 2).trans rfl; have hcz47_3 : w46.cell? ⟨gb790, 3, none⟩ = some (.int .i64 t783) := (blk_cell BK790.out 3).trans rfl; have hcz47_4 : w46.cell? ⟨gb790, 4, none⟩ = some (.int .i64 t784) := (blk_cell BK790.out 4).trans rfl; have hcz47_5 : w46.cell? ⟨gb790, 5, none⟩ = some (.int .i64 t785) := (blk_cell BK790.out 5).trans rfl; have hcz47_6 : w46.cell? ⟨gb790, 6, none⟩ = some (.slice Ao34 t786.length co34) := (blk_cell BK790.out 6).trans rfl; have hfz47_0 := blk_frozen BK790.out 0; have hfz47_1 := blk_frozen BK790.out 1; have hfz47_2 := blk_frozen BK790.out 2; have hfz47_3 := blk_frozen BK790.out 3; have hfz47_4 := blk_frozen BK790.out 4; have hfz47_5 := blk_frozen BK790.out 5; have hfz47_6 := blk_frozen BK790.out 6) | ((with_reducible refine gate_callee (f := 24) rfl ?_); refine goesL_ (some 64) rfl rfl Try.func24 (by kernel_rfl) rfl #[.agg #[.int .i64 t778, .slice Ao33 t779.length co33, .int .i64 t782, .int .i64 t783, .int .i64 t784, .int .i64 t785, .slice Ao34 t786.length co34], .int .i64 (wrap64 ((wrap64 (10 * t791)) + t793)), .int .i64 t797] rfl q0 ?_; (with_reducible refine (withholding_Formula.calls k t778 _ _ t779 t782 t783 t784 t785 _ _ t786 (wrap64 ((wrap64 (10 * t791)) + t793)) t797 t807 t808 _ ?side1 ?side2 ?side3 ?side4 A12.out).mono ?_); (case side1 => exact q106); (case side2 => exact (Kd.R_reads' HO781.out).2.1); (case side3 => exact q107); (case side4 => exact (Kd.R_reads' HO788.out).2.1); rintro e w48 ⟨rfl, hb⟩; refine ⟨_, rfl, ?_⟩; have n0_ := Aside0.mk (Kd.R_below q85 hb); have n1_ := Aside0.mk (Kd.R_below q86 hb); have n2_ := Aside0.mk (Kd.R_below q110 hb); have n3_ := Aside0.mk (IsS63.below q53 hb); have n4_ := Aside0.mk (blk_below (g := gb790) (o := .cells #[.int .i64 t778, .slice Ao33 t779.length co33, .int .i64 t782, .int .i64 t783, .int .i64 t784, .int .i64 t785, .slice Ao34 t786.length co34] 33 (0, 0)) q82 hb); have n5_ := Aside0.mk (below_step q50 hb); clear HO781; clear HO788; clear HO796; clear HI777; clear BK790; clear HB; have HO781 := n0_; have HO788 := n1_; have HO796 := n2_; have HI777 := n3_; have BK790 := n4_; have HB := n5_; clear n0_ n1_ n2_ n3_ n4_ n5_; (try clear hb); (try clear hb2); (try clear hk); (try clear hi); have hcz49_0 : w48.cell? ⟨gb790, 0, none⟩ = some (.int .i64 t778) := (blk_cell BK790.out 0).trans rfl; have hcz49_1 : w48.cell? ⟨gb790, 1, none⟩ = some (.slice Ao33 t779.length co33) := (blk_cell BK790.out 1).trans rfl; have hcz49_2 : w48.cell? ⟨gb790, 2, none⟩ = some (.int .i64 t782) := (blk_cell BK790.out 2).trans rfl; have hcz49_3 : w48.cell? ⟨gb790, 3, none⟩ = some (.int .i64 t783) := (blk_cell BK790.out 3).trans rfl; have hcz49_4 : w48.cell? ⟨gb790, 4, none⟩ = some (.int .i64 t784) := (blk_cell BK790.out 4).trans rfl; have hcz49_5 : w48.cell? ⟨gb790, 5, none⟩ = some (.int .i64 t785) := (blk_cell BK790.out 5).trans rfl; have hcz49_6 : w48.cell? ⟨gb790, 6, none⟩ = some (.slice Ao34 t786.length co34) := (blk_cell BK790.out 6).trans rfl; have hfz49_0 := blk_frozen BK790.out 0; have hfz49_1 := blk_frozen BK790.out 1; have hfz49_2 := blk_frozen BK790.out 2; have hfz49_3 := blk_frozen BK790.out 3; have hfz49_4 := blk_frozen BK790.out 4; have hfz49_5 := blk_frozen BK790.out 5; have hfz49_6 := blk_frozen BK790.out 6) | ((with_reducible refine gate_callee (f := 26) rfl ?_); refine goesL_ (some 72) rfl rfl Try.func26 (by kernel_rfl) rfl #[.agg #[.int .i64 t778, .slice Ao33 t779.length co33, .int .i64 t782, .int .i64 t783, .int .i64 t784, .int .i64 t785, .slice Ao34 t786.length co34], .int .i64 t797, .int .i64 (wrap64 (1 + t799)), .int .i64 (wrap64 (10 * t791))] rfl q0 ?_; (with_reducible refine (withholding_Due.calls k t778 _ _ t779 t782 t783 t784 t785 _ _ t786 t797 (wrap64 (1 + t799)) (wrap64 (10 * t791)) t809 t810 _ ?side1 ?side2 ?side3 ?side4 A13.out).mono ?_); (case side1 => exact q106); (case side2 => exact (Kd.R_reads' HO781.out).2.1); (case side3 => exact q107); (case side4 => exact (Kd.R_reads' HO788.out).2.1); rintro e w50 ⟨rfl, hb⟩; refine ⟨_, rfl, ?_⟩; have n0_ := Aside0.mk (Kd.R_below q85 hb); have n1_ := Aside0.mk (Kd.R_below q86 hb); have n2_ := Aside0.mk (Kd.R_below q110 hb); have n3_ := Aside0.mk (IsS63.below q53 hb); have n4_ := Aside0.mk (blk_below (g := gb790) (o := .cells #[.int .i64 t778, .slice Ao33 t779.length co33, .int .i64 t782, .int .i64 t783, .int .i64 t784, .int .i64 t785, .slice Ao34 t786.length co34] 33 (0, 0)) q82 hb); have n5_ := Aside0.mk (below_step q50 hb); clear HO781; clear HO788; clear HO796; clear HI777; clear BK790; clear HB; have HO781 := n0_; have HO788 := n1_; have HO796 := n2_; have HI777 := n3_; have BK790 := n4_; have HB := n5_; clear n0_ n1_ n2_ n3_ n4_ n5_; (try clear hb); (try clear hb2); (try clear hk); (try clear hi); have hcz51_0 : w50.cell? ⟨gb790, 0, none⟩ = some (.int .i64 t778) := (blk_cell BK790.out 0).trans rfl; have hcz51_1 : w50.cell? ⟨gb790, 1, none⟩ = some (.slice Ao33 t779.length co33) := (blk_cell BK790.out 1).trans rfl; have hcz51_2 : w50.cell? ⟨gb790, 2, none⟩ = some (.int .i64 t782) := (blk_cell BK790.out 2).trans rfl; have hcz51_3 : w50.cell? ⟨gb790, 3, none⟩ = some (.int .i64 t783) := (blk_cell BK790.out 3).trans rfl; have hcz51_4 : w50.cell? ⟨gb790, 4, none⟩ = some (.int .i64 t784) := (blk_cell BK790.out 4).trans rfl; have hcz51_5 : w50.cell? ⟨gb790, 5, none⟩ = some (.int .i64 t785) := (blk_cell BK790.out 5).trans rfl; have hcz51_6 : w50.cell? ⟨gb790, 6, none⟩ = some (.slice Ao34 t786.length co34) := (blk_cell BK790.out 6).trans rfl; have hfz51_0 := blk_frozen BK790.out 0; have hfz51_1 := blk_frozen BK790.out 1; have hfz51_2 := blk_frozen BK790.out 2; have hfz51_3 := blk_frozen BK790.out 3; have hfz51_4 := blk_frozen BK790.out 4; have hfz51_5 := blk_frozen BK790.out 5; have hfz51_6 := blk_frozen BK790.out 6) | ((with_reducible refine gate_callee (f := 26) rfl ?_); refine goesL_ (some 80) rfl rfl Try.func26 (by kernel_rfl) rfl #[.agg #[.int .i64 t778, .slice Ao33 t779.length co33, .int .i64 t782, .int .i64 t783, .int .i64 t784, .int .i64 t785, .slice Ao34 t786.length co34], .int .i64 t797, .int .i64 (wrap64 (1 + t799)), .int .i64 (wrap64 ((wrap64 (10 * t791)) + t793))] rfl q0 ?_; (with_reducible refine (withholding_Due.calls k t778 _ _ t779 t782 t783 t784 t785 _ _ t786 t797 (wrap64 (1 + t799)) (wrap64 ((wrap64 (10 * t791)) + t793)) t811 t812 _ ?side1 ?side2 ?side3 ?side4 A14.out).mono ?_); (case side1 => exact q106); (case side2 => exact (Kd.R_reads' HO781.out).2.1); (case side3 => exact q107); (case side4 => exact (Kd.R_reads' HO788.out).2.1); rintro e w52 ⟨rfl, hb⟩; refine ⟨_, rfl, ?_⟩; have n0_ := Aside0.mk (Kd.R_below q85 hb); have n1_ := Aside0.mk (Kd.R_below q86 hb); have n2_ := Aside0.mk (Kd.R_below q110 hb); have n3_ := Aside0.mk (IsS63.below q53 hb); have n4_ := Aside0.mk (blk_below (g := gb790) (o := .cells #[.int .i64 t778, .slice Ao33 t779.length co33, .int .i64 t782, .int .i64 t783, .int .i64 t784, .int .i64 t785, .slice Ao34 t786.length co34] 33 (0, 0)) q82 hb); have n5_ := Aside0.mk (below_step q50 hb); clear HO781; clear HO788; clear HO796; clear HI777; clear BK790; clear HB; have HO781 := n0_; have HO788 := n1_; have HO796 := n2_; have HI777 := n3_; have BK790 := n4_; have HB := n5_; clear n0_ n1_ n2_ n3_ n4_ n5_; (try clear hb); (try clear hb2); (try clear hk); (try clear hi)) | (go_at_call 12; (with_reducible refine (payrolllaw30_awake.calls k  t813 _ A27.out).mono ?_); rintro e w53 ⟨rfl, hb⟩; have n0_ := Aside0.mk (Kd.R_below q85 hb); have n1_ := Aside0.mk (Kd.R_below q86 hb); have n2_ := Aside0.mk (Kd.R_below q110 hb); have n3_ := Aside0.mk (IsS63.below q53 hb); have n4_ := Aside0.mk (blk_below (g := gb790) (o := .cells #[.int .i64 t778, .slice Ao33 t779.length co33, .int .i64 t782, .int .i64 t783, .int .i64 t784, .int .i64 t785, .slice Ao34 t786.length co34] 33 (0, 0)) q82 hb); have n5_ := Aside0.mk (below_step q50 hb); clear HO781; clear HO788; clear HO796; clear HI777; clear BK790; clear HB; have HO781 := n0_; have HO788 := n1_; have HO796 := n2_; have HI777 := n3_; have BK790 := n4_; have HB := n5_; clear n0_ n1_ n2_ n3_ n4_ n5_; (try clear hb); (try clear hb2); (try clear hk); (try clear hi)))
             go_ret
             exact ⟨by first | rfl | (simp [errW_none, errW_some] <;> rfl) | (simp [*, errW_none, errW_some] <;> rfl), by repeat (first | (with_reducible first | exact HB.out | apply below_alloc | apply pw_below_drewN | apply below_drew1 | refine below_set ?_ (IsS63.ge HI777.out) | refine below_set ?_ GE790.out) | exact HB.out)⟩
            ·
             rw [if_neg c26] at H
             have c26b0 : decide (0 ≤ t809) = false := decide_eq_false c26
             clear c26
             exact absurd (Option.some.inj H) (by rw [HT.out]; decide)
           ·
            rw [if_neg c25] at H
            have c25b0 : decide (0 ≤ t805) = false := decide_eq_false c25
            clear c25
            exact absurd (Option.some.inj H) (by rw [HT.out]; decide)
          ·
           rw [if_neg c24] at H
           have c24b0 : decide (0 ≤ t801) = false := decide_eq_false c24
           clear c24
           exact absurd (Option.some.inj H) (by rw [HT.out]; decide)
         ·
          rw [if_neg c23] at H
          have c23b0 : decide (t809 ≤ t811) = false := decide_eq_false c23
          clear c23
          exact absurd (Option.some.inj H) (by rw [HT.out]; decide)
        ·
         rw [if_neg c22] at H
         have c22b0 : decide (t805 ≤ t807) = false := decide_eq_false c22
         clear c22
         exact absurd (Option.some.inj H) (by rw [HT.out]; decide)
       ·
        rw [if_neg c21] at H
        have c21b0 : decide (t801 ≤ t803) = false := decide_eq_false c21
        clear c21
        exact absurd (Option.some.inj H) (by rw [HT.out]; decide)
      ·
       rw [if_neg c20] at H
       have c20b0 : (t812 == 0) = false := beq_eq_false_iff_ne.mpr c20
       have c20b1 : (t812 != 0) = true := bne_iff_ne.mpr c20
       exact absurd (Option.some.inj H) (by rw [HT.out]; decide)
     ·
      rw [if_neg c19] at H
      have c19b0 : (t810 == 0) = false := beq_eq_false_iff_ne.mpr c19
      have c19b1 : (t810 != 0) = true := bne_iff_ne.mpr c19
      exact absurd (Option.some.inj H) (by rw [HT.out]; decide)
    ·
     rw [if_neg c18] at H
     have c18b0 : (t808 == 0) = false := beq_eq_false_iff_ne.mpr c18
     have c18b1 : (t808 != 0) = true := bne_iff_ne.mpr c18
     exact absurd (Option.some.inj H) (by rw [HT.out]; decide)
   ·
    rw [if_neg c17] at H
    have c17b0 : (t806 == 0) = false := beq_eq_false_iff_ne.mpr c17
    have c17b1 : (t806 != 0) = true := bne_iff_ne.mpr c17
    exact absurd (Option.some.inj H) (by rw [HT.out]; decide)
  ·
   rw [if_neg c16] at H
   have c16b0 : (t804 == 0) = false := beq_eq_false_iff_ne.mpr c16
   have c16b1 : (t804 != 0) = true := bne_iff_ne.mpr c16
   exact absurd (Option.some.inj H) (by rw [HT.out]; decide)
 ·
  rw [if_neg c15] at H
  have c15b0 : (t802 == 0) = false := beq_eq_false_iff_ne.mpr c15
  have c15b1 : (t802 != 0) = true := bne_iff_ne.mpr c15
  exact absurd (Option.some.inj H) (by rw [HT.out]; decide)

/-- THE ONE PURE STATEMENT of payrolllaw30_WithholdingGrows: yours. -/
def payrolllaw30_WithholdingGrows.Pure : Prop := ∀ (l0 : List Int) (a1 : Int), l0.length ≤ maxLen → l0.length * 8 ≤ 140737488351232 → (∀ x ∈ l0, (Lit.int .i64 x).wf = true) → (Lit.int .i64 a1).wf = true → ∃ k, payrolllaw30_WithholdingGrows.f k l0 a1 = some true
theorem payrolllaw30_WithholdingGrows.walk (P : payrolllaw30_WithholdingGrows.Pure) (a0 : Option Addr) (len0 cap0 : Nat) (z0 : List Int) (a1 : Int) (w : World) (w0 : (a0 = none ∧ len0 = 0 ∧ cap0 = 0 ∧ z0 = []) ∨ ∃ x, a0 = some x ∧ len0 ≤ cap0 ∧ cap0 ≤ maxLen ∧ z0.length = cap0 ∧ (∀ i, i < z0.length → w.cell? (x.add i) = some (.int .i64 (z0.getD i 0))) ∧ ∀ n ∈ z0, (Lit.int .i64 n).wf = true) (y0 : len0 * 8 ≤ 140737488351232) (w1 : (Lit.int .i64 a1).wf = true) :
  Calls Try.prog 9 #[.slice a0 len0 cap0, .int .i64 a1] w fun e w' => e = .returned (.bool true) ∧ Below w.heap.size w w' := by
 obtain ⟨l0, rfl, hr0, hm0, hw0, hc0⟩ := ReadsInt.ofRowC w0
 obtain ⟨k, h⟩ := P l0 a1 hm0 y0 hw0 w1
 refine (payrolllaw30_WithholdingGrows.calls k _ _ l0 a1 true w (Kd.C_of_reads (d := (0 : Int)) (h1 := fun _ => rfl) hr0) hc0 h rfl).mono ?_
 rintro e w' ⟨rfl, hd⟩
 exact ⟨rfl, hd⟩

end Go.Proofs.Ytbacfajhgmnjpaa.P
