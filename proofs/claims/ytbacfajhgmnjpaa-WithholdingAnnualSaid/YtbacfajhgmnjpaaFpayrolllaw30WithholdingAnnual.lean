/- Proved here: that the Go function payrolllaw30_WithholdingAnnual computes the plain function of that name (the machine side of the laws, reworked from a print; no condition of its own). -/
import Derived.Test.YtbacfajhgmnjpaaProg
import Derived.Test.YtbacfajhgmnjpaaV1
import Derived.Test.YtbacfajhgmnjpaaV2
import Derived.Test.YtbacfajhgmnjpaaV3
import Derived.Test.YtbacfajhgmnjpaaFPRE
import Derived.Test.YtbacfajhgmnjpaaFwithholdingAnnual
import Derived.Test.YtbacfajhgmnjpaaFwithholdingFormula
import Derived.Test.YtbacfajhgmnjpaaFpayrolllaw30awake
import Derived.Test.YtbacfajhgmnjpaaFpaygen
import Derived.Test.YtbacfajhgmnjpaaFpaygenDeckTariff0
import Derived.Test.YtbacfajhgmnjpaaFpayrollref30Formula
import Derived.Test.YtbacfajhgmnjpaaFpaygenDeckAmount
import Derived.Test.YtbacfajhgmnjpaaFpayrollref30Annual
namespace Go.Proofs.Ytbacfajhgmnjpaa.P
open Go.RowKit Go.Proofs.YtbacfajhgmnjpaaW.PrintWords Go.Proofs.YtbacfajhgmnjpaaW.PrintLast Go.Proofs.YtbacfajhgmnjpaaW.PrintMore
attribute [local go_sem] max2_int min2_int max_two min_two max_three min_three max_four min_four   -- for this text's walks alone
set_option linter.unusedVariables false
set_option linter.unusedSimpArgs false

def payrolllaw30_WithholdingAnnual.l0 : Nat → List Int → List Int → Int → Int → List (S58) → Int → Int → Int → Int → List (S80) → Option (Bool)
 | 0, _, _, _, _, _, _, _, _, _, _ => none
 | k + 1, x9, x10, x11, x550000, x550001, x550002, x550003, x550004, x550005, x550006 => if x11 < 3 then (if 0 ≤ x11 then (if x11 < (x9.length : Int) then ((withholding_Annual.f k x550000 x550001 x550002 x550003 x550004 x550005 x550006 (rd x9 x11)).bind fun bt572 => ((payrollref30_Annual.f k x550000 x550001 x550002 x550003 x550004 x550005 x550006 (rd x9 x11)).bind fun bt575 => (if x11 < (x10.length : Int) then ((withholding_Formula.f k x550000 x550001 x550002 x550003 x550004 x550005 x550006 (rd x9 x11) (rd x10 x11)).bind fun bt579 => ((payrollref30_Formula.f k x550000 x550001 x550002 x550003 x550004 x550005 x550006 (rd x9 x11) (rd x10 x11)).bind fun bt583 => (if bt572.1 = bt575.1 then (if bt572.2 = bt575.2 then (if bt579.1 = bt583.1 then (if bt579.2 = bt583.2 then (payrolllaw30_WithholdingAnnual.l0 k x9 x10 (wrap64 (x11 + 1)) x550000 x550001 x550002 x550003 x550004 x550005 x550006) else (some false)) else (some false)) else (some false)) else (some false)))) else (none)))) else (none)) else (none)) else ((payrolllaw30_awake.f k).bind fun t570 => (some t570))
def payrolllaw30_WithholdingAnnual.f (k : Nat) (l0 : List Int) (a1 : Int) (a2 : Int) : Option (Bool) := (paygen_New.f l0).bind fun bt534 => ((paygen_Deck_Tariff.f k bt534.1 bt534.2 0).bind fun bt537 => ((paygen_Deck_Small.f bt534.1 bt537.2.2.2.2.2.2.2).bind fun bt550 => ((paygen_Deck_Amount.f bt534.1 bt550.2).bind fun bt552 => ((paygen_Deck_Pick.f bt534.1 bt552.2 (([12, 1, 53] : List Int))).bind fun bt560 => ((paygen_Deck_Pick.f bt534.1 bt560.2 (([12, 4, 54, 0] : List Int))).bind fun bt565 => (payrolllaw30_WithholdingAnnual.l0 k (([wrap64 (10 * bt550.1), bt552.1, a1] : List Int)) (([bt560.1, bt565.1, a2] : List Int)) 0 bt537.1 bt537.2.1 bt537.2.2.1 bt537.2.2.2.1 bt537.2.2.2.2.1 bt537.2.2.2.2.2.1 bt537.2.2.2.2.2.2.1))))))
def payrolllaw30_WithholdingAnnual.T7 : Bool × List (List Nat × List Nat) := (true, [([], []), ([], []), ([], []), ([1, 2], [1, 2]), ([3], [3]), ([0, 4], [0, 4]), ([5], [5]), ([6], [6]), ([6], [6]), ([7, 5, 0, 1, 2, 3, 4, 5, 6, 7], [7]), ([8, 9, 0, 1, 2, 3, 4, 5, 6, 7, 8, 9], [8])])
def payrolllaw30_WithholdingAnnual.B7 : List Nat := [0, 0, 0, 6, 14, 31, 63, 127, 127, 255, 1023]
theorem payrolllaw30_WithholdingAnnual.tab7 : rtab .any (opsOf Try.f4 7) = payrolllaw30_WithholdingAnnual.T7 := by kernel_rfl
theorem payrolllaw30_WithholdingAnnual.bits7 : waitsOk payrolllaw30_WithholdingAnnual.T7.2 payrolllaw30_WithholdingAnnual.B7 = true := by kernel_rfl
def payrolllaw30_WithholdingAnnual.T8 : Bool × List (List Nat × List Nat) := (true, [([], []), ([], []), ([], []), ([1, 2], [1, 2]), ([3], [3]), ([0, 4], [0, 4]), ([5], [5]), ([6], [6]), ([6], [6]), ([7, 5, 0, 1, 2, 3, 4, 5, 6, 7], [7]), ([8, 9, 0, 1, 2, 3, 4, 5, 6, 7, 8, 9], [8])])
def payrolllaw30_WithholdingAnnual.B8 : List Nat := [0, 0, 0, 6, 14, 31, 63, 127, 127, 255, 1023]
theorem payrolllaw30_WithholdingAnnual.tab8 : rtab .any (opsOf Try.f4 8) = payrolllaw30_WithholdingAnnual.T8 := by kernel_rfl
theorem payrolllaw30_WithholdingAnnual.bits8 : waitsOk payrolllaw30_WithholdingAnnual.T8.2 payrolllaw30_WithholdingAnnual.B8 = true := by kernel_rfl
def payrolllaw30_WithholdingAnnual.T9 : Bool × List (List Nat × List Nat) := (true, [([], []), ([], []), ([], []), ([1, 2], [1, 2]), ([3], [3]), ([], []), ([], []), ([5, 6], [5, 6]), ([7], [7]), ([0, 4, 8], [0, 4, 8]), ([9], [9]), ([10], [10]), ([10], [10]), ([11, 9, 0, 1, 2, 3, 4, 5, 6, 7, 8, 9, 10, 11], [11]), ([12, 13, 0, 1, 2, 3, 4, 5, 6, 7, 8, 9, 10, 11, 12, 13], [12])])
def payrolllaw30_WithholdingAnnual.B9 : List Nat := [0, 0, 0, 6, 14, 0, 0, 96, 224, 511, 1023, 2047, 2047, 4095, 16383]
theorem payrolllaw30_WithholdingAnnual.tab9 : rtab .any (opsOf Try.f4 9) = payrolllaw30_WithholdingAnnual.T9 := by kernel_rfl
theorem payrolllaw30_WithholdingAnnual.bits9 : waitsOk payrolllaw30_WithholdingAnnual.T9.2 payrolllaw30_WithholdingAnnual.B9 = true := by kernel_rfl
def payrolllaw30_WithholdingAnnual.T10 : Bool × List (List Nat × List Nat) := (true, [([], []), ([], []), ([], []), ([1, 2], [1, 2]), ([3], [3]), ([], []), ([], []), ([5, 6], [5, 6]), ([7], [7]), ([0, 4, 8], [0, 4, 8]), ([9], [9]), ([10], [10]), ([10], [10]), ([11, 9, 0, 1, 2, 3, 4, 5, 6, 7, 8, 9, 10, 11], [11]), ([12, 13, 0, 1, 2, 3, 4, 5, 6, 7, 8, 9, 10, 11, 12, 13], [12])])
def payrolllaw30_WithholdingAnnual.B10 : List Nat := [0, 0, 0, 6, 14, 0, 0, 96, 224, 511, 1023, 2047, 2047, 4095, 16383]
theorem payrolllaw30_WithholdingAnnual.tab10 : rtab .any (opsOf Try.f4 10) = payrolllaw30_WithholdingAnnual.T10 := by kernel_rfl
theorem payrolllaw30_WithholdingAnnual.bits10 : waitsOk payrolllaw30_WithholdingAnnual.T10.2 payrolllaw30_WithholdingAnnual.B10 = true := by kernel_rfl
set_option maxHeartbeats 8000000 in
set_option maxRecDepth 100000 in
theorem payrolllaw30_WithholdingAnnual.calls (k : Nat) (A0 : Option Addr) (c0 : Nat) (l0 : List Int) (a1 : Int) (a2 : Int) (r : Bool) (w : World) (hr0 : Kd.C (Kd.int .i64) w A0 l0.length l0) (hc0 : l0.length ≤ c0) (h : payrolllaw30_WithholdingAnnual.f k l0 a1 a2 = some r) (hT : r = true) :
  Calls Try.prog 4 #[.slice A0 l0.length c0, .int .i64 a1, .int .i64 a2] w fun e w' => e = .returned (.bool r) ∧ Below w.heap.size w w' := by
 have HT := Aside0.mk hT
 clear hT
 have hu33 := Try.underlying33
 have HR0 := Aside0.mk hr0
 have HC0 := Aside0.mk hc0
 clear hr0 hc0
 have HB := Aside0.mk (Below.refl w.heap.size w)
 have H : ((paygen_New.f l0).bind fun bt534 => ((paygen_Deck_Tariff.f k bt534.1 bt534.2 0).bind fun bt537 => ((paygen_Deck_Small.f bt534.1 bt537.2.2.2.2.2.2.2).bind fun bt550 => ((paygen_Deck_Amount.f bt534.1 bt550.2).bind fun bt552 => ((paygen_Deck_Pick.f bt534.1 bt552.2 (([12, 1, 53] : List Int))).bind fun bt560 => ((paygen_Deck_Pick.f bt534.1 bt560.2 (([12, 4, 54, 0] : List Int))).bind fun bt565 => (payrolllaw30_WithholdingAnnual.l0 k (([wrap64 (10 * bt550.1), bt552.1, a1] : List Int)) (([bt560.1, bt565.1, a2] : List Int)) 0 bt537.1 bt537.2.1 bt537.2.2.1 bt537.2.2.2.1 bt537.2.2.2.2.1 bt537.2.2.2.2.2.1 bt537.2.2.2.2.2.2.1))))))) = some r := h
 clear h
 replace H := Option.bind_eq_some_iff.mp H
 obtain ⟨⟨t534, t535⟩, A40, H⟩ := H
 try dsimp only at H
 have A4 := Aside0.mk A40
 clear A40
 replace H := Option.bind_eq_some_iff.mp H
 obtain ⟨⟨t537, t538, t541, t542, t543, t544, t545, t548⟩, A50, H⟩ := H
 try dsimp only at H
 have A5 := Aside0.mk A50
 clear A50
 replace H := Option.bind_eq_some_iff.mp H
 obtain ⟨⟨t550, t551⟩, A60, H⟩ := H
 try dsimp only at H
 have A6 := Aside0.mk A60
 clear A60
 replace H := Option.bind_eq_some_iff.mp H
 obtain ⟨⟨t552, t553⟩, A70, H⟩ := H
 try dsimp only at H
 have A7 := Aside0.mk A70
 clear A70
 obtain ⟨y554, hy554⟩ : ∃ y_ : List Int, y_ = (([wrap64 (10 * t550), t552, a1] : List Int)) := ⟨_, rfl⟩
 replace H : ((paygen_Deck_Pick.f t534 t553 (([12, 1, 53] : List Int))).bind fun bt560 => ((paygen_Deck_Pick.f t534 bt560.2 (([12, 4, 54, 0] : List Int))).bind fun bt565 => (payrolllaw30_WithholdingAnnual.l0 k y554 (([bt560.1, bt565.1, a2] : List Int)) 0 t537 t538 t541 t542 t543 t544 t545))) = some r := by first | (rw [hy554]; with_reducible exact H) | (have H2_ := (Option.bind_some _ _).symm.trans H; rw [hy554]; with_reducible exact H2_) | (have H2_ := (Option.bind_some _ _).symm.trans H; with_reducible exact H2_) | with_reducible exact H | (rw [hy554]; exact H) | exact H
 have Ny554 := Aside0.mk hy554
 clear hy554
 obtain ⟨y557, hy557⟩ : ∃ y_ : List Int, y_ = (([12, 1, 53] : List Int)) := ⟨_, rfl⟩
 replace H : ((paygen_Deck_Pick.f t534 t553 y557).bind fun bt560 => ((paygen_Deck_Pick.f t534 bt560.2 (([12, 4, 54, 0] : List Int))).bind fun bt565 => (payrolllaw30_WithholdingAnnual.l0 k y554 (([bt560.1, bt565.1, a2] : List Int)) 0 t537 t538 t541 t542 t543 t544 t545))) = some r := by first | (rw [hy557]; with_reducible exact H) | (have H2_ := (Option.bind_some _ _).symm.trans H; rw [hy557]; with_reducible exact H2_) | (have H2_ := (Option.bind_some _ _).symm.trans H; with_reducible exact H2_) | with_reducible exact H | (rw [hy557]; exact H) | exact H
 have Ny557 := Aside0.mk hy557
 clear hy557
 replace H := Option.bind_eq_some_iff.mp H
 obtain ⟨⟨t560, t561⟩, A80, H⟩ := H
 try dsimp only at H
 have A8 := Aside0.mk A80
 clear A80
 obtain ⟨y562, hy562⟩ : ∃ y_ : List Int, y_ = (([12, 4, 54, 0] : List Int)) := ⟨_, rfl⟩
 replace H : ((paygen_Deck_Pick.f t534 t561 y562).bind fun bt565 => (payrolllaw30_WithholdingAnnual.l0 k y554 (([t560, bt565.1, a2] : List Int)) 0 t537 t538 t541 t542 t543 t544 t545)) = some r := by first | (rw [hy562]; with_reducible exact H) | (have H2_ := (Option.bind_some _ _).symm.trans H; rw [hy562]; with_reducible exact H2_) | (have H2_ := (Option.bind_some _ _).symm.trans H; with_reducible exact H2_) | with_reducible exact H | (rw [hy562]; exact H) | exact H
 have Ny562 := Aside0.mk hy562
 clear hy562
 replace H := Option.bind_eq_some_iff.mp H
 obtain ⟨⟨t565, t566⟩, A90, H⟩ := H
 try dsimp only at H
 have A9 := Aside0.mk A90
 clear A90
 obtain ⟨y567, hy567⟩ : ∃ y_ : List Int, y_ = (([t560, t565, a2] : List Int)) := ⟨_, rfl⟩
 replace H : (payrolllaw30_WithholdingAnnual.l0 k y554 y567 0 t537 t538 t541 t542 t543 t544 t545) = some r := by first | (rw [hy567]; with_reducible exact H) | (have H2_ := (Option.bind_some _ _).symm.trans H; rw [hy567]; with_reducible exact H2_) | (have H2_ := (Option.bind_some _ _).symm.trans H; with_reducible exact H2_) | with_reducible exact H | (rw [hy567]; exact H) | exact H
 have Ny567 := Aside0.mk hy567
 clear hy567
 have H' := Aside0.mk H
 clear H
 go_enter Try.func4, Try.ntmps4
 go_wp2_with (first | ((with_reducible refine gate_callee (f := 13) rfl ?_); refine goesL_ (some 21) rfl rfl Try.func13 (by kernel_rfl) rfl #[.slice A0 l0.length c0] rfl q1 ?_; (with_reducible refine (paygen_New.calls _ _ l0 t534 t535 w _ ?side1 ?side2 ?side3 A4.out).mono ?_); (case side1 => exact q0); (case side2 => exact HR0.out); (case side3 => exact HC0.out); rintro e w10 ⟨g536, rfl, hi, hb, hb2⟩; refine ⟨_, rfl, ?_⟩; have n0_ := Aside0.mk (hb); have n1_ := Aside0.mk (hi); clear HB; have HB := n0_; have HI536 := n1_; clear n0_ n1_; (try clear hb); (try clear hb2); (try clear hk); (try clear hi)) | ((with_reducible refine gate_callee (f := 14) rfl ?_); refine goesL_ (some 23) rfl rfl Try.func14 (by kernel_rfl) rfl #[.pointer (some ⟨g536, 0, none⟩), .int .i64 0] rfl q1 ?_; (with_reducible refine (paygen_Deck_Tariff.calls k g536 t534 t535 0 t537 t538 t541 t542 t543 t544 t545 t548 w _ ?side1 ?side2 A5.out).mono ?_); (case side1 => exact (by repeat (first | (with_reducible first | exact HI536.out | apply IsS63.alloc | apply IsS63.drewN | apply IsS63.drew | apply IsS63.set_1) | exact HI536.out))); (case side2 => exact q122); rintro e w11 ⟨v539, v546, rfl, ho0, ho1, hi, hb, hk⟩; refine ⟨_, rfl, ?_⟩; have n0_ := Aside0.mk (Kd.R_lower ho0 (below_size q122)); have n1_ := Aside0.mk (Kd.R_lower ho1 (below_size q122)); have n2_ := Aside0.mk (hb); have n3_ := Aside0.mk (hi); clear HB; clear HI536; have HO540 := n0_; have HO547 := n1_; have HB := n2_; have HI536 := n3_; clear n0_ n1_ n2_ n3_; (try clear hb); (try clear hb2); (try clear hk); (try clear hi); (try clear ho0); (try clear ho1)) | ((with_reducible refine gate_dst (N := 8) rfl ?_); refine box_event ?hg (N := 8) ?hd (cs := #[.int .i64 0, .slice none 0 0, .int .i64 0, .int .i64 0, .int .i64 0, .int .i64 0, .slice none 0 0]) (t := 33) ?hr ?_; (case hd => rfl); (case hg => rfl); (case hr => first | (go_simp; done) | (go_simp; rfl)); intro gb549 hg w12 hbox hb; have n0_ := Aside0.mk (Kd.R_below q127 hb); have n1_ := Aside0.mk (Kd.R_below q128 hb); have n2_ := Aside0.mk (IsS63.below (by repeat (first | (with_reducible first | exact HI536.out | apply IsS63.alloc | apply IsS63.drewN | apply IsS63.drew | apply IsS63.set_1) | exact HI536.out)) hb); have n3_ := Aside0.mk (below_step q122 hb); have n4_ := Aside0.mk (hbox); have n5_ := Aside0.mk ((by rw [hg]; exact (below_size q122) : w.heap.size ≤ gb549)); have n6_ := Aside0.mk ((by rw [hg]; exact (below_size q122) : w.heap.size ≤ gb549)); have n7_ := Aside0.mk ((by rw [hg]; exact Nat.ne_of_lt (IsS63.lt (show IsS63 w _ g536 t534 t548 from (by repeat (first | (with_reducible first | exact HI536.out | apply IsS63.alloc | apply IsS63.drewN | apply IsS63.drew | apply IsS63.set_1) | exact HI536.out)))) : g536 ≠ gb549)); have n8_ := Aside0.mk ((by rw [hg]; exact Nat.ne_of_gt (IsS63.lt (show IsS63 w _ g536 t534 t548 from (by repeat (first | (with_reducible first | exact HI536.out | apply IsS63.alloc | apply IsS63.drewN | apply IsS63.drew | apply IsS63.set_1) | exact HI536.out)))) : gb549 ≠ g536)); clear HO540; clear HO547; clear HI536; clear HB; have HO540 := n0_; have HO547 := n1_; have HI536 := n2_; have HB := n3_; have BK549 := n4_; have GW549 := n5_; have GE549 := n6_; have NB536_549 := n7_; have NB549_536 := n8_; clear n0_ n1_ n2_ n3_ n4_ n5_ n6_ n7_ n8_; clear hb hbox hg; have hnb13 := NB549_536.out; have hnc13 := NB536_549.out; have hcz14_0 : w12.cell? ⟨gb549, 0, none⟩ = some (.int .i64 0) := (blk_cell BK549.out 0).trans rfl; have hcz14_1 : w12.cell? ⟨gb549, 1, none⟩ = some (.slice none 0 0) := (blk_cell BK549.out 1).trans rfl; have hcz14_2 : w12.cell? ⟨gb549, 2, none⟩ = some (.int .i64 0) := (blk_cell BK549.out 2).trans rfl; have hcz14_3 : w12.cell? ⟨gb549, 3, none⟩ = some (.int .i64 0) := (blk_cell BK549.out 3).trans rfl; have hcz14_4 : w12.cell? ⟨gb549, 4, none⟩ = some (.int .i64 0) := (blk_cell BK549.out 4).trans rfl; have hcz14_5 : w12.cell? ⟨gb549, 5, none⟩ = some (.int .i64 0) := (blk_cell BK549.out 5).trans rfl; have hcz14_6 : w12.cell? ⟨gb549, 6, none⟩ = some (.slice none 0 0) := (blk_cell BK549.out 6).trans rfl; have hfz14_0 := blk_frozen BK549.out 0; have hfz14_1 := blk_frozen BK549.out 1; have hfz14_2 := blk_frozen BK549.out 2; have hfz14_3 := blk_frozen BK549.out 3; have hfz14_4 := blk_frozen BK549.out 4; have hfz14_5 := blk_frozen BK549.out 5; have hfz14_6 := blk_frozen BK549.out 6; obtain ⟨Ao15, co15, eo15⟩ := Kd.R_slice HO540.out; subst eo15; obtain ⟨Ao16, co16, eo16⟩ := Kd.R_slice HO547.out; subst eo16) | ((with_reducible refine gate_callee (f := 18) rfl ?_); refine goesL_ (some 25) rfl rfl Try.func18 (by kernel_rfl) rfl #[.pointer (some ⟨g536, 0, none⟩)] rfl q1 ?_; (with_reducible refine (paygen_Deck_Small.calls g536 t534 t548 t550 t551 w _ ?side1 ?side2 A6.out).mono ?_); (case side1 => exact q40); (case side2 => exact q55); rintro e w17 ⟨rfl, hi, hb, hk⟩; refine ⟨_, rfl, ?_⟩; have n0_ := Aside0.mk (Kd.R_mono (Kd.R_keep (IsS63.apart (show IsS63 w _ g536 t534 t548 from q40) (by (with_reducible repeat (first | apply Kd.R_alloc | apply Kd.R_drewN | apply Kd.R_drew)); exact (Kd.R_mono (Kd.R_far (p := ⟨gb549, 6, none⟩) (Kd.R_far (p := ⟨gb549, 5, none⟩) (Kd.R_far (p := ⟨gb549, 4, none⟩) (Kd.R_far (p := ⟨gb549, 3, none⟩) (Kd.R_far (p := ⟨gb549, 2, none⟩) (Kd.R_far (p := ⟨gb549, 1, none⟩) (Kd.R_far (p := ⟨gb549, 0, none⟩) (Kd.R_types HO540.out BK549.out (by decide)) (fun _ hk => hk.2) (.int .i64 t537)) (fun _ hk => hk.2) (.slice Ao15 t538.length co15)) (fun _ hk => hk.2) (.int .i64 t541)) (fun _ hk => hk.2) (.int .i64 t542)) (fun _ hk => hk.2) (.int .i64 t543)) (fun _ hk => hk.2) (.int .i64 t544)) (fun _ hk => hk.2) (.slice Ao16 t545.length co16)) (fun _ h_ => h_.1))) (by decide)) hk (fun _ h => h.2)) (fun _ h => h.1)); have n1_ := Aside0.mk (Kd.R_mono (Kd.R_keep (IsS63.apart (show IsS63 w _ g536 t534 t548 from q40) (by (with_reducible repeat (first | apply Kd.R_alloc | apply Kd.R_drewN | apply Kd.R_drew)); exact (Kd.R_mono (Kd.R_far (p := ⟨gb549, 6, none⟩) (Kd.R_far (p := ⟨gb549, 5, none⟩) (Kd.R_far (p := ⟨gb549, 4, none⟩) (Kd.R_far (p := ⟨gb549, 3, none⟩) (Kd.R_far (p := ⟨gb549, 2, none⟩) (Kd.R_far (p := ⟨gb549, 1, none⟩) (Kd.R_far (p := ⟨gb549, 0, none⟩) (Kd.R_types HO547.out BK549.out (by decide)) (fun _ hk => hk.2) (.int .i64 t537)) (fun _ hk => hk.2) (.slice Ao15 t538.length co15)) (fun _ hk => hk.2) (.int .i64 t541)) (fun _ hk => hk.2) (.int .i64 t542)) (fun _ hk => hk.2) (.int .i64 t543)) (fun _ hk => hk.2) (.int .i64 t544)) (fun _ hk => hk.2) (.slice Ao16 t545.length co16)) (fun _ h_ => h_.1))) (by decide)) hk (fun _ h => h.2)) (fun _ h => h.1)); have n2_ := Aside0.mk (KeepBut.blk hk (g' := gb549) (o := .cells #[.int .i64 t537, .slice Ao15 t538.length co15, .int .i64 t541, .int .i64 t542, .int .i64 t543, .int .i64 t544, .slice Ao16 t545.length co16] 33 (0, 0)) (by (with_reducible repeat (first | refine blk_drewN ?_ _ | refine blk_drew ?_ | refine blk_alloc ?_ _)); refine blk_put (cs := #[.int .i64 t537, .slice Ao15 t538.length co15, .int .i64 t541, .int .i64 t542, .int .i64 t543, .int .i64 t544, .slice none 0 0]) ?_ 6 _ rfl; (with_reducible repeat (first | refine blk_drewN ?_ _ | refine blk_drew ?_ | refine blk_alloc ?_ _)); refine blk_put (cs := #[.int .i64 t537, .slice Ao15 t538.length co15, .int .i64 t541, .int .i64 t542, .int .i64 t543, .int .i64 0, .slice none 0 0]) ?_ 5 _ rfl; (with_reducible repeat (first | refine blk_drewN ?_ _ | refine blk_drew ?_ | refine blk_alloc ?_ _)); refine blk_put (cs := #[.int .i64 t537, .slice Ao15 t538.length co15, .int .i64 t541, .int .i64 t542, .int .i64 0, .int .i64 0, .slice none 0 0]) ?_ 4 _ rfl; (with_reducible repeat (first | refine blk_drewN ?_ _ | refine blk_drew ?_ | refine blk_alloc ?_ _)); refine blk_put (cs := #[.int .i64 t537, .slice Ao15 t538.length co15, .int .i64 t541, .int .i64 0, .int .i64 0, .int .i64 0, .slice none 0 0]) ?_ 3 _ rfl; (with_reducible repeat (first | refine blk_drewN ?_ _ | refine blk_drew ?_ | refine blk_alloc ?_ _)); refine blk_put (cs := #[.int .i64 t537, .slice Ao15 t538.length co15, .int .i64 0, .int .i64 0, .int .i64 0, .int .i64 0, .slice none 0 0]) ?_ 2 _ rfl; (with_reducible repeat (first | refine blk_drewN ?_ _ | refine blk_drew ?_ | refine blk_alloc ?_ _)); refine blk_put (cs := #[.int .i64 t537, .slice none 0 0, .int .i64 0, .int .i64 0, .int .i64 0, .int .i64 0, .slice none 0 0]) ?_ 1 _ rfl; (with_reducible repeat (first | refine blk_drewN ?_ _ | refine blk_drew ?_ | refine blk_alloc ?_ _)); refine blk_put (cs := #[.int .i64 0, .slice none 0 0, .int .i64 0, .int .i64 0, .int .i64 0, .int .i64 0, .slice none 0 0]) ?_ 0 _ rfl; (with_reducible repeat (first | refine blk_drewN ?_ _ | refine blk_drew ?_ | refine blk_alloc ?_ _)); exact BK549.out) NB549_536.out (by simp)); have n3_ := Aside0.mk (hb); have n4_ := Aside0.mk (hi); clear HO540; clear HO547; clear BK549; clear HB; clear HI536; have HO540 := n0_; have HO547 := n1_; have BK549 := n2_; have HB := n3_; have HI536 := n4_; clear n0_ n1_ n2_ n3_ n4_; (try clear hb); (try clear hb2); (try clear hk); (try clear hi)) | ((with_reducible refine gate_callee (f := 21) rfl ?_); refine goesL_ (some 28) rfl rfl Try.func21 (by kernel_rfl) rfl #[.pointer (some ⟨g536, 0, none⟩)] rfl q1 ?_; (with_reducible refine (paygen_Deck_Amount.calls g536 t534 t551 t552 t553 w _ ?side1 ?side2 A7.out).mono ?_); (case side1 => exact q40); (case side2 => exact q55); rintro e w18 ⟨rfl, hi, hb, hk⟩; refine ⟨_, rfl, ?_⟩; have n0_ := Aside0.mk (Kd.R_mono (Kd.R_keep (IsS63.apart (show IsS63 w _ g536 t534 t551 from q40) q127 (by decide)) hk (fun _ h => h.2)) (fun _ h => h.1)); have n1_ := Aside0.mk (Kd.R_mono (Kd.R_keep (IsS63.apart (show IsS63 w _ g536 t534 t551 from q40) q128 (by decide)) hk (fun _ h => h.2)) (fun _ h => h.1)); have n2_ := Aside0.mk (KeepBut.blk hk (g' := gb549) (o := .cells #[.int .i64 t537, .slice Ao15 t538.length co15, .int .i64 t541, .int .i64 t542, .int .i64 t543, .int .i64 t544, .slice Ao16 t545.length co16] 33 (0, 0)) q82 NB549_536.out (by simp)); have n3_ := Aside0.mk (hb); have n4_ := Aside0.mk (hi); clear HO540; clear HO547; clear BK549; clear HB; clear HI536; have HO540 := n0_; have HO547 := n1_; have BK549 := n2_; have HB := n3_; have HI536 := n4_; clear n0_ n1_ n2_ n3_ n4_; (try clear hb); (try clear hb2); (try clear hk); (try clear hi)) | ((with_reducible refine gate_dst (N := 30) rfl ?_); refine Kd.R_lit (Kd.int .i64) _ 3 ?hg (N := 30) ?hd (xs := ([wrap64 (10 * t550), t552, a1] : List Int)) (inner := [.int .i64 (wrap64 (10 * t550)), .int .i64 t552, .int .i64 a1]) (ok := fun _ => True) (okp := fun _ => True) ?hr ?hp (fun _ hk => hk) trivial (Below.refl _ _) (Nat.le_refl _) (by simp) ?_; (case hd => rfl); (case hg => rfl); (case hr => first | (go_simp; done) | (go_simp; rfl)); (case hp => exact (Reps.one (show Kd.M (Kd.int .i64) _ _ _ (wrap64 (10 * t550)) [.int .i64 (wrap64 (10 * t550))] from rfl) (Reps.one (show Kd.M (Kd.int .i64) _ _ _ t552 [.int .i64 t552] from rfl) (Reps.one (show Kd.M (Kd.int .i64) _ _ _ a1 [.int .i64 a1] from rfl) (Reps.none _ _))))); intro v555 w19 ho20 hb hg_ hnew_; clear hg_ hnew_; (first | rw [← Ny554.out] at ho20 | (simp only [Int.reduceToNat] at ho20; rw [← Ny554.out] at ho20)); have n0_ := Aside0.mk (Kd.R_below q127 hb); have n1_ := Aside0.mk (Kd.R_below q128 hb); have n2_ := Aside0.mk (Kd.R_lower ho20 (below_size q55)); have n3_ := Aside0.mk (IsS63.below q40 hb); have n4_ := Aside0.mk (blk_below (g := gb549) (o := .cells #[.int .i64 t537, .slice Ao15 t538.length co15, .int .i64 t541, .int .i64 t542, .int .i64 t543, .int .i64 t544, .slice Ao16 t545.length co16] 33 (0, 0)) q82 hb); have n5_ := Aside0.mk (below_step q55 hb); clear HO540; clear HO547; clear HI536; clear BK549; clear HB; have HO540 := n0_; have HO547 := n1_; have HO556 := n2_; have HI536 := n3_; have BK549 := n4_; have HB := n5_; clear n0_ n1_ n2_ n3_ n4_ n5_; clear hb ho20) | ((with_reducible refine gate_dst (N := 32) rfl ?_); refine Kd.R_lit (Kd.int .i64) _ 3 ?hg (N := 32) ?hd (xs := ([12, 1, 53] : List Int)) (inner := [.int .i64 12, .int .i64 1, .int .i64 53]) (ok := fun _ => True) (okp := fun _ => True) ?hr ?hp (fun _ hk => hk) trivial (Below.refl _ _) (Nat.le_refl _) (by simp) ?_; (case hd => rfl); (case hg => rfl); (case hr => first | (go_simp; done) | (go_simp; rfl)); (case hp => exact (Reps.one (show Kd.M (Kd.int .i64) _ _ _ 12 [.int .i64 12] from rfl) (Reps.one (show Kd.M (Kd.int .i64) _ _ _ 1 [.int .i64 1] from rfl) (Reps.one (show Kd.M (Kd.int .i64) _ _ _ 53 [.int .i64 53] from rfl) (Reps.none _ _))))); intro v558 w21 ho22 hb hg_ hnew_; clear hg_ hnew_; (first | rw [← Ny557.out] at ho22 | (simp only [Int.reduceToNat] at ho22; rw [← Ny557.out] at ho22)); have n0_ := Aside0.mk (Kd.R_below q127 hb); have n1_ := Aside0.mk (Kd.R_below q128 hb); have n2_ := Aside0.mk (Kd.R_elder' q133 (Kd.R_base ho22) hb); have n3_ := Aside0.mk (Kd.R_lower (Kd.R_new' ho22 (Kd.R_lt q133)) (below_size q55)); have n4_ := Aside0.mk (IsS63.below q40 hb); have n5_ := Aside0.mk (blk_below (g := gb549) (o := .cells #[.int .i64 t537, .slice Ao15 t538.length co15, .int .i64 t541, .int .i64 t542, .int .i64 t543, .int .i64 t544, .slice Ao16 t545.length co16] 33 (0, 0)) q82 hb); have n6_ := Aside0.mk (below_step q55 hb); clear HO540; clear HO547; clear HO556; clear HI536; clear BK549; clear HB; have HO540 := n0_; have HO547 := n1_; have HO556 := n2_; have HO559 := n3_; have HI536 := n4_; have BK549 := n5_; have HB := n6_; clear n0_ n1_ n2_ n3_ n4_ n5_ n6_; clear hb ho22; obtain ⟨Ao23, co23, eo23⟩ := Kd.R_slice HO559.out; subst eo23) | ((with_reducible refine gate_callee (f := 15) rfl ?_); refine goesL_ (some 33) rfl rfl Try.func15 (by kernel_rfl) rfl #[.pointer (some ⟨g536, 0, none⟩), .slice Ao23 y557.length co23] rfl q1 ?_; (with_reducible refine (paygen_Deck_Pick.calls g536 t534 t553 _ _ y557 t560 t561 w _ ?side1 ?side2 ?side3 ?side4 ?side5 A8.out).mono ?_); (case side1 => exact q40); (case side2 => exact q55); (case side3 => exact (by repeat (first | exact (Kd.R_reads' HO559.out).2.2 | (with_reducible refine Kd.C_alloc ?_ _) | (with_reducible refine Kd.C_drewN ?_ _) | (with_reducible refine Kd.C_drew ?_)))); (case side4 => exact (Kd.R_reads' HO559.out).2.1); (case side5 => exact far_slice (IsS63.own_ne HI536.out HO559.out (by decide))); rintro e w24 ⟨rfl, hi, hb, hk⟩; refine ⟨_, rfl, ?_⟩; have n0_ := Aside0.mk (Kd.R_mono (Kd.R_keep (IsS63.apart (show IsS63 w _ g536 t534 t553 from q40) q127 (by decide)) hk (fun _ h => h.2)) (fun _ h => h.1)); have n1_ := Aside0.mk (Kd.R_mono (Kd.R_keep (IsS63.apart (show IsS63 w _ g536 t534 t553 from q40) q128 (by decide)) hk (fun _ h => h.2)) (fun _ h => h.1)); have n2_ := Aside0.mk (KeepBut.blk hk (g' := gb549) (o := .cells #[.int .i64 t537, .slice Ao15 t538.length co15, .int .i64 t541, .int .i64 t542, .int .i64 t543, .int .i64 t544, .slice Ao16 t545.length co16] 33 (0, 0)) q82 NB549_536.out (by simp)); have n3_ := Aside0.mk (Kd.R_mono (Kd.R_keep (IsS63.apart (show IsS63 w _ g536 t534 t553 from q40) q133 (by decide)) hk (fun _ h => h.2)) (fun _ h => h.1)); have n4_ := Aside0.mk (Kd.R_mono (Kd.R_keep (IsS63.apart (show IsS63 w _ g536 t534 t553 from q40) q140 (by decide)) hk (fun _ h => h.2)) (fun _ h => h.1)); have n5_ := Aside0.mk (hb); have n6_ := Aside0.mk (hi); clear HO540; clear HO547; clear BK549; clear HO556; clear HO559; clear HB; clear HI536; have HO540 := n0_; have HO547 := n1_; have BK549 := n2_; have HO556 := n3_; have HO559 := n4_; have HB := n5_; have HI536 := n6_; clear n0_ n1_ n2_ n3_ n4_ n5_ n6_; (try clear hb); (try clear hb2); (try clear hk); (try clear hi)) | ((with_reducible refine gate_dst (N := 35) rfl ?_); refine Kd.R_lit (Kd.int .i64) _ 3 ?hg (N := 35) ?hd (xs := ([12, 4, 54, 0] : List Int)) (inner := [.int .i64 12, .int .i64 4, .int .i64 54, .int .i64 0]) (ok := fun _ => True) (okp := fun _ => True) ?hr ?hp (fun _ hk => hk) trivial (Below.refl _ _) (Nat.le_refl _) (by simp) ?_; (case hd => rfl); (case hg => rfl); (case hr => first | (go_simp; done) | (go_simp; rfl)); (case hp => exact (Reps.one (show Kd.M (Kd.int .i64) _ _ _ 12 [.int .i64 12] from rfl) (Reps.one (show Kd.M (Kd.int .i64) _ _ _ 4 [.int .i64 4] from rfl) (Reps.one (show Kd.M (Kd.int .i64) _ _ _ 54 [.int .i64 54] from rfl) (Reps.one (show Kd.M (Kd.int .i64) _ _ _ 0 [.int .i64 0] from rfl) (Reps.none _ _)))))); intro v563 w25 ho26 hb hg_ hnew_; clear hg_ hnew_; (first | rw [← Ny562.out] at ho26 | (simp only [Int.reduceToNat] at ho26; rw [← Ny562.out] at ho26)); have n0_ := Aside0.mk (Kd.R_below q127 hb); have n1_ := Aside0.mk (Kd.R_below q128 hb); have n2_ := Aside0.mk (Kd.R_elder' q133 (Kd.R_base ho26) hb); have n3_ := Aside0.mk (Kd.R_elder' q140 (Kd.R_base ho26) hb); have n4_ := Aside0.mk (Kd.R_lower (Kd.R_new' (Kd.R_new' ho26 (Kd.R_lt q133)) (Kd.R_lt q140)) (below_size q55)); have n5_ := Aside0.mk (IsS63.below q40 hb); have n6_ := Aside0.mk (blk_below (g := gb549) (o := .cells #[.int .i64 t537, .slice Ao15 t538.length co15, .int .i64 t541, .int .i64 t542, .int .i64 t543, .int .i64 t544, .slice Ao16 t545.length co16] 33 (0, 0)) q82 hb); have n7_ := Aside0.mk (below_step q55 hb); clear HO540; clear HO547; clear HO556; clear HO559; clear HI536; clear BK549; clear HB; have HO540 := n0_; have HO547 := n1_; have HO556 := n2_; have HO559 := n3_; have HO564 := n4_; have HI536 := n5_; have BK549 := n6_; have HB := n7_; clear n0_ n1_ n2_ n3_ n4_ n5_ n6_ n7_; clear hb ho26; obtain ⟨Ao27, co27, eo27⟩ := Kd.R_slice HO564.out; subst eo27) | ((with_reducible refine gate_callee (f := 15) rfl ?_); refine goesL_ (some 36) rfl rfl Try.func15 (by kernel_rfl) rfl #[.pointer (some ⟨g536, 0, none⟩), .slice Ao27 y562.length co27] rfl q1 ?_; (with_reducible refine (paygen_Deck_Pick.calls g536 t534 t561 _ _ y562 t565 t566 w _ ?side1 ?side2 ?side3 ?side4 ?side5 A9.out).mono ?_); (case side1 => exact q40); (case side2 => exact q55); (case side3 => exact (by repeat (first | exact (Kd.R_reads' HO564.out).2.2 | (with_reducible refine Kd.C_alloc ?_ _) | (with_reducible refine Kd.C_drewN ?_ _) | (with_reducible refine Kd.C_drew ?_)))); (case side4 => exact (Kd.R_reads' HO564.out).2.1); (case side5 => exact far_slice (IsS63.own_ne HI536.out HO564.out (by decide))); rintro e w28 ⟨rfl, hi, hb, hk⟩; refine ⟨_, rfl, ?_⟩; have n0_ := Aside0.mk (Kd.R_mono (Kd.R_keep (IsS63.apart (show IsS63 w _ g536 t534 t561 from q40) q127 (by decide)) hk (fun _ h => h.2)) (fun _ h => h.1)); have n1_ := Aside0.mk (Kd.R_mono (Kd.R_keep (IsS63.apart (show IsS63 w _ g536 t534 t561 from q40) q128 (by decide)) hk (fun _ h => h.2)) (fun _ h => h.1)); have n2_ := Aside0.mk (KeepBut.blk hk (g' := gb549) (o := .cells #[.int .i64 t537, .slice Ao15 t538.length co15, .int .i64 t541, .int .i64 t542, .int .i64 t543, .int .i64 t544, .slice Ao16 t545.length co16] 33 (0, 0)) q82 NB549_536.out (by simp)); have n3_ := Aside0.mk (Kd.R_mono (Kd.R_keep (IsS63.apart (show IsS63 w _ g536 t534 t561 from q40) q133 (by decide)) hk (fun _ h => h.2)) (fun _ h => h.1)); have n4_ := Aside0.mk (Kd.R_mono (Kd.R_keep (IsS63.apart (show IsS63 w _ g536 t534 t561 from q40) q140 (by decide)) hk (fun _ h => h.2)) (fun _ h => h.1)); have n5_ := Aside0.mk (Kd.R_mono (Kd.R_keep (IsS63.apart (show IsS63 w _ g536 t534 t561 from q40) (by (with_reducible repeat (first | apply Kd.R_alloc | apply Kd.R_drewN | apply Kd.R_drew)); exact HO564.out) (by decide)) hk (fun _ h => h.2)) (fun _ h => h.1)); have n6_ := Aside0.mk (hb); have n7_ := Aside0.mk (hi); clear HO540; clear HO547; clear BK549; clear HO556; clear HO559; clear HO564; clear HB; clear HI536; have HO540 := n0_; have HO547 := n1_; have BK549 := n2_; have HO556 := n3_; have HO559 := n4_; have HO564 := n5_; have HB := n6_; have HI536 := n7_; clear n0_ n1_ n2_ n3_ n4_ n5_ n6_ n7_; (try clear hb); (try clear hb2); (try clear hk); (try clear hi)) | ((with_reducible refine gate_dst (N := 38) rfl ?_); refine Kd.R_lit (Kd.int .i64) _ 3 ?hg (N := 38) ?hd (xs := ([t560, t565, a2] : List Int)) (inner := [.int .i64 t560, .int .i64 t565, .int .i64 a2]) (ok := fun _ => True) (okp := fun _ => True) ?hr ?hp (fun _ hk => hk) trivial (Below.refl _ _) (Nat.le_refl _) (by simp) ?_; (case hd => rfl); (case hg => rfl); (case hr => first | (go_simp; done) | (go_simp; rfl)); (case hp => exact (Reps.one (show Kd.M (Kd.int .i64) _ _ _ t560 [.int .i64 t560] from rfl) (Reps.one (show Kd.M (Kd.int .i64) _ _ _ t565 [.int .i64 t565] from rfl) (Reps.one (show Kd.M (Kd.int .i64) _ _ _ a2 [.int .i64 a2] from rfl) (Reps.none _ _))))); intro v568 w29 ho30 hb hg_ hnew_; clear hg_ hnew_; (first | rw [← Ny567.out] at ho30 | (simp only [Int.reduceToNat] at ho30; rw [← Ny567.out] at ho30)); have n0_ := Aside0.mk (Kd.R_below q127 hb); have n1_ := Aside0.mk (Kd.R_below q128 hb); have n2_ := Aside0.mk (Kd.R_elder' q133 (Kd.R_base ho30) hb); have n3_ := Aside0.mk (Kd.R_elder' q140 (Kd.R_base ho30) hb); have n4_ := Aside0.mk (Kd.R_elder' (by (with_reducible repeat (first | apply Kd.R_alloc | apply Kd.R_drewN | apply Kd.R_drew)); exact HO564.out) (Kd.R_base ho30) hb); have n5_ := Aside0.mk (Kd.R_lower (Kd.R_new' (Kd.R_new' (Kd.R_new' ho30 (Kd.R_lt q133)) (Kd.R_lt q140)) (Kd.R_lt (by (with_reducible repeat (first | apply Kd.R_alloc | apply Kd.R_drewN | apply Kd.R_drew)); exact HO564.out))) (below_size q55)); have n6_ := Aside0.mk (IsS63.below q40 hb); have n7_ := Aside0.mk (blk_below (g := gb549) (o := .cells #[.int .i64 t537, .slice Ao15 t538.length co15, .int .i64 t541, .int .i64 t542, .int .i64 t543, .int .i64 t544, .slice Ao16 t545.length co16] 33 (0, 0)) q82 hb); have n8_ := Aside0.mk (below_step q55 hb); clear HO540; clear HO547; clear HO556; clear HO559; clear HO564; clear HI536; clear BK549; clear HB; have HO540 := n0_; have HO547 := n1_; have HO556 := n2_; have HO559 := n3_; have HO564 := n4_; have HO569 := n5_; have HI536 := n6_; have BK549 := n7_; have HB := n8_; clear n0_ n1_ n2_ n3_ n4_ n5_ n6_ n7_ n8_; clear hb ho30))
 go_loopg [11] k (fun kq v11 w' => ∃ (x11_1 : Int), v11 = .int .i64 x11_1 ∧ Aside0 (payrolllaw30_WithholdingAnnual.l0 kq y554 y567 x11_1 t537 t538 t541 t542 t543 t544 t545 = some r) ∧ Aside0 (kq ≤ k) ∧ Aside0 (Kd.R (Kd.int .i64) 3 w' w.heap.size (fun k_ => some k_ ≠ (v568 : Value).ownBlock) v555 y554) ∧ Aside0 (Kd.R (Kd.int .i64) 3 w' w.heap.size (fun k_ => some k_ ≠ (v555 : Value).ownBlock) v568 y567) ∧ Aside0 (Kd.R k58 58 w' w.heap.size (fun _ => True) (.slice Ao15 t538.length co15) t538) ∧ Aside0 (Kd.R k80 80 w' w.heap.size (fun _ => True) (.slice Ao16 t545.length co16) t545) ∧ Aside0 (w'.heap[gb549]? = some (.cells #[.int .i64 t537, (.slice Ao15 t538.length co15), .int .i64 t541, .int .i64 t542, .int .i64 t543, .int .i64 t544, (.slice Ao16 t545.length co16)] 33 (0, 0))) ∧ Aside0 (Below w.heap.size w w'))
 case atStart => exact ⟨(0), q26, H', ⟨Nat.le_refl _⟩, ⟨by (with_reducible repeat (first | apply Kd.R_alloc | apply Kd.R_drewN | apply Kd.R_drew)); exact Kd.R_mono HO556.out (fun _ hk => hk.2)⟩, ⟨by (with_reducible repeat (first | apply Kd.R_alloc | apply Kd.R_drewN | apply Kd.R_drew)); exact Kd.R_mono HO569.out (fun _ hk => hk.1.1.2)⟩, ⟨q127⟩, ⟨q128⟩, ⟨q82⟩, ⟨q55⟩⟩
 case round =>
  clear H'
  try clear c1
  try clear c2
  try clear p2
  try clear c4
  try clear p6
  try clear c13
  try clear c14
  try clear c15
  try clear c18
  try clear c21
  try clear hcz14_0
  try clear hcz14_1
  try clear hcz14_2
  try clear hcz14_3
  try clear hcz14_4
  try clear hcz14_5
  try clear hcz14_6
  try clear hfz14_0
  try clear hfz14_1
  try clear hfz14_2
  try clear hfz14_3
  try clear hfz14_4
  try clear hfz14_5
  try clear hfz14_6
  obtain ⟨x11_1, rfl, HA, HK1, HO_9, HO_10, HO_550001, HO_550006, BK549, HB⟩ := hrel
  cases gk with
  | zero => exact absurd HA.out (by simp [payrolllaw30_WithholdingAnnual.l0])
  | succ k1 =>
   have H := HA.out
   clear HA
   simp only [payrolllaw30_WithholdingAnnual.l0] at H
   by_cases c31 : x11_1 < 3
   rotate_left
   ·
    rw [if_neg c31] at H
    have c31b0 : decide (x11_1 < 3) = false := decide_eq_false c31
    clear c31
    replace H := Option.bind_eq_some_iff.mp H
    obtain ⟨t570, A930, H⟩ := H
    replace H : (some t570) = some r := H
    have A93 := Aside0.mk A930
    clear A930
    obtain rfl := Option.some.inj H
    exact (by go_wp2_with (first | ((with_reducible refine gate_callee (f := 12) rfl ?_); refine goesL_ (some 105) rfl rfl Try.func12 (by kernel_rfl) rfl #[] rfl q1 ?_; (with_reducible refine (payrolllaw30_awake.calls k1  t570 _ A93.out).mono ?_); rintro e w_1 ⟨rfl, hb⟩; refine ⟨_, rfl, ?_⟩; have n0_ := Aside0.mk (Kd.R_below q60 hb); have n1_ := Aside0.mk (Kd.R_below q116 hb); have n2_ := Aside0.mk (Kd.R_below q136 hb); have n3_ := Aside0.mk (Kd.R_below q137 hb); have n4_ := Aside0.mk (blk_below (g := gb549) (o := .cells #[.int .i64 t537, .slice Ao15 t538.length co15, .int .i64 t541, .int .i64 t542, .int .i64 t543, .int .i64 t544, .slice Ao16 t545.length co16] 33 (0, 0)) q82 hb); have n5_ := Aside0.mk (below_step q114 hb); clear HO_9; clear HO_10; clear HO_550001; clear HO_550006; clear BK549; clear HB; have HO_9 := n0_; have HO_10 := n1_; have HO_550001 := n2_; have HO_550006 := n3_; have BK549 := n4_; have HB := n5_; clear n0_ n1_ n2_ n3_ n4_ n5_; (try clear hb); (try clear hb2); (try clear hk); (try clear hi))); go_ret; exact ⟨by first | rfl | (simp [errW_none, errW_some] <;> rfl) | (simp [*, errW_none, errW_some] <;> rfl), q114⟩)
   rw [if_pos c31] at H
   have c31b0 : decide (x11_1 < 3) = true := decide_eq_true c31
   clear c31
   by_cases c32 : 0 ≤ x11_1
   rotate_left
   ·
    rw [if_neg c32] at H
    exact absurd H (by simp)
   rw [if_pos c32] at H
   have c32b0 : decide (0 ≤ x11_1) = true := decide_eq_true c32
   clear c32
   by_cases c33 : x11_1 < (y554.length : Int)
   rotate_left
   ·
    rw [if_neg c33] at H
    exact absurd H (by simp)
   rw [if_pos c33] at H
   have c33b0 : decide (x11_1 < (y554.length : Int)) = true := decide_eq_true c33
   clear c33
   replace H := Option.bind_eq_some_iff.mp H
   obtain ⟨⟨t572, t573⟩, A340, H⟩ := H
   try dsimp only at H
   have A34 := Aside0.mk A340
   clear A340
   replace H := Option.bind_eq_some_iff.mp H
   obtain ⟨⟨t575, t576⟩, A350, H⟩ := H
   try dsimp only at H
   have A35 := Aside0.mk A350
   clear A350
   by_cases c36 : x11_1 < (y567.length : Int)
   rotate_left
   ·
    rw [if_neg c36] at H
    exact absurd H (by simp)
   rw [if_pos c36] at H
   have c36b0 : decide (x11_1 < (y567.length : Int)) = true := decide_eq_true c36
   clear c36
   replace H := Option.bind_eq_some_iff.mp H
   obtain ⟨⟨t579, t580⟩, A370, H⟩ := H
   try dsimp only at H
   have A37 := Aside0.mk A370
   clear A370
   replace H := Option.bind_eq_some_iff.mp H
   obtain ⟨⟨t583, t584⟩, A380, H⟩ := H
   try dsimp only at H
   have A38 := Aside0.mk A380
   clear A380
   by_cases c39 : t572 = t575
   rotate_left
   ·
    rw [if_neg c39] at H
    have c39b0 : (t572 == t575) = false := beq_eq_false_iff_ne.mpr c39
    have c39b1 : (t572 != t575) = true := bne_iff_ne.mpr c39
    exact absurd (Option.some.inj H) (by rw [HT.out]; decide)
   rw [if_pos c39] at H
   have c39b0 : (t572 == t575) = true := beq_iff_eq.mpr c39
   have c39b1 : (t572 != t575) = false := bne_eq_false_iff_eq.mpr c39
   clear c39
   by_cases c40 : t573 = t576
   rotate_left
   ·
    rw [if_neg c40] at H
    have c40b0 : (t573 == t576) = false := beq_eq_false_iff_ne.mpr c40
    have c40b1 : (t573 != t576) = true := bne_iff_ne.mpr c40
    exact absurd (Option.some.inj H) (by rw [HT.out]; decide)
   rw [if_pos c40] at H
   have c40b0 : (t573 == t576) = true := beq_iff_eq.mpr c40
   have c40b1 : (t573 != t576) = false := bne_eq_false_iff_eq.mpr c40
   clear c40
   by_cases c41 : t579 = t583
   rotate_left
   ·
    rw [if_neg c41] at H
    have c41b0 : (t579 == t583) = false := beq_eq_false_iff_ne.mpr c41
    have c41b1 : (t579 != t583) = true := bne_iff_ne.mpr c41
    exact absurd (Option.some.inj H) (by rw [HT.out]; decide)
   rw [if_pos c41] at H
   have c41b0 : (t579 == t583) = true := beq_iff_eq.mpr c41
   have c41b1 : (t579 != t583) = false := bne_eq_false_iff_eq.mpr c41
   clear c41
   by_cases c42 : t580 = t584
   rotate_left
   ·
    rw [if_neg c42] at H
    have c42b0 : (t580 == t584) = false := beq_eq_false_iff_ne.mpr c42
    have c42b1 : (t580 != t584) = true := bne_iff_ne.mpr c42
    exact absurd (Option.some.inj H) (by rw [HT.out]; decide)
   rw [if_pos c42] at H
   have c42b0 : (t580 == t584) = true := beq_iff_eq.mpr c42
   have c42b1 : (t580 != t584) = false := bne_eq_false_iff_eq.mpr c42
   clear c42
   have H' := Aside0.mk H
   clear H
   try go_wp2
   have n0_ := Aside0.mk (Kd.R_drew HO_9.out)
   have n1_ := Aside0.mk (Kd.R_drew HO_10.out)
   have n2_ := Aside0.mk (Kd.R_drew HO_550001.out)
   have n3_ := Aside0.mk (Kd.R_drew HO_550006.out)
   have n4_ := Aside0.mk (blk_drew BK549.out)
   have n5_ := Aside0.mk (below_drew1 HB.out)
   clear HO_9
   clear HO_10
   clear HO_550001
   clear HO_550006
   clear BK549
   clear HB
   have HO_9 := n0_
   have HO_10 := n1_
   have HO_550001 := n2_
   have HO_550006 := n3_
   have BK549 := n4_
   have HB := n5_
   clear n0_ n1_ n2_ n3_ n4_ n5_
   obtain ⟨Ao44, co44, eo44⟩ := Kd.R_slice HO_9.out
   (first | subst eo44 | (injection eo44 with f1_ f2_ f3_; have f4_ := f1_.symm; have f5_ := f3_.symm; clear f1_ f2_ f3_; subst f4_; subst f5_))
   have p571 : 0 ≤ (x11_1 : Int) := of_decide_eq_true q6
   have q571 : x11_1 < (y554.length : Int) := of_decide_eq_true q6
   obtain ⟨ad571, e571, hx571_0⟩ := Kd.at_int (Kd.R_reads' HO_9.out).2.2 x11_1 p571 q571
   cases e571
   replace p571 := eq_true p571
   replace q571 := eq_true q571
   refine start_ (n := 11) (S := fun w' => w'.cell? ⟨gb549, 0, none⟩ = some (.int .i64 t537) ∧ w'.cell? ⟨gb549, 1, none⟩ = some (.slice Ao15 t538.length co15) ∧ w'.cell? ⟨gb549, 2, none⟩ = some (.int .i64 t541) ∧ w'.cell? ⟨gb549, 3, none⟩ = some (.int .i64 t542) ∧ w'.cell? ⟨gb549, 4, none⟩ = some (.int .i64 t543) ∧ w'.cell? ⟨gb549, 5, none⟩ = some (.int .i64 t544) ∧ w'.cell? ⟨gb549, 6, none⟩ = some (.slice Ao16 t545.length co16) ∧ w'.cell? (ad571.add (x11_1).toNat) = some (.int .i64 (rd y554 x11_1))) (ds := []) #[N_,N_,N_,N_,N_,N_,N_,N_,N_,N_,N_] (by kernel_rfl) rfl rfl ⟨(blk_cell BK549.out 0).trans rfl, (blk_cell BK549.out 1).trans rfl, (blk_cell BK549.out 2).trans rfl, (blk_cell BK549.out 3).trans rfl, (blk_cell BK549.out 4).trans rfl, (blk_cell BK549.out 5).trans rfl, (blk_cell BK549.out 6).trans rfl, hx571_0⟩ (fun hHeld => ?_); refine with_tabW payrolllaw30_WithholdingAnnual.tab7 payrolllaw30_WithholdingAnnual.bits7 (fun HT_ HW_ => ?_)
   generalize wr.drew = w43 at HO_9 HO_10 HO_550001 HO_550006 BK549 HB hx571_0 hHeld ⊢
   refine pv_ (i := 1) (N := some 45) #[N_,Y_,N_,N_,N_,N_,N_,N_,N_,N_,N_] (h := ?_)
   refine pv_ (i := 2) (N := some 46) #[N_,Y_,Y_,N_,N_,N_,N_,N_,N_,N_,N_] (h := ?_)
   refine pv_ (i := 3) (N := some 47) #[N_,Y_,Y_,Y_,N_,N_,N_,N_,N_,N_,N_] (h := ?_)
   refine take_ (i := 0) (N := some 44) (v := ?_) (a' := ?_) #[Y_,Y_,Y_,Y_,N_,N_,N_,N_,N_,N_,N_] rfl rfl (take_ofW HT_.out HW_.out (by kernel_rfl)) (fun _ _ _ h => h) (Or.inl ⟨by rfl, ?_⟩) hHeld ?_ ?_
   rotate_left
   ·
    rintro w' ⟨s0, s1, s2, s3, s4, s5, s6, s7⟩
    go_simp
    with_reducible rfl
   rotate_left
   ·
    simp only [Act.put, List.setIfInBounds_toArray, List.set_cons_zero, List.set_cons_succ, i64_w, i32_w]
    rfl
   refine take_ (i := 4) (N := some 48) (v := ?_) (a' := ?_) #[Y_,Y_,Y_,Y_,Y_,N_,N_,N_,N_,N_,N_] rfl rfl (take_ofW HT_.out HW_.out (by kernel_rfl)) (fun _ _ _ h => h) (Or.inl ⟨by rfl, ?_⟩) hHeld ?_ ?_
   rotate_left
   ·
    rintro w' ⟨s0, s1, s2, s3, s4, s5, s6, s7⟩
    go_simp
    with_reducible rfl
   rotate_left
   ·
    simp only [Act.put, List.setIfInBounds_toArray, List.set_cons_zero, List.set_cons_succ, i64_w, i32_w]
    rfl
   refine one_ (i := 5) (N := some 49) #[Y_,Y_,Y_,Y_,Y_,Y_,N_,N_,N_,N_,N_] rfl rfl (one_of HT_.out (by kernel_rfl)) (by decide) (fun K hK => ?_)
   refine goes_ Try.func22 (by kernel_rfl) rfl #[.agg #[.int .i64 t537, .slice Ao15 t538.length co15, .int .i64 t541, .int .i64 t542, .int .i64 t543, .int .i64 t544, .slice Ao16 t545.length co16], .int .i64 (rd y554 x11_1)] (by rfl) rfl rfl q1 ?_
   with_reducible refine (withholding_Annual.calls k1 t537 _ _ t538 t541 t542 t543 t544 _ _ t545 (rd y554 x11_1) t572 t573 _ ?side1 ?side2 ?side3 ?side4 A34.out).mono ?_
   (case side1 => exact q138)
   (case side2 => exact (Kd.R_reads' HO_550001.out).2.1)
   (case side3 => exact q139)
   (case side4 => exact (Kd.R_reads' HO_550006.out).2.1)
   rintro e w45 ⟨rfl, hb⟩
   have HS7_ := (hb.cell (World.block_lt_of_cell? _ _ (hHeld.2.2.2.2.2.2.2))).trans (hHeld.2.2.2.2.2.2.2)
   refine ⟨_, rfl, ?_⟩
   have n0_ := Aside0.mk (Kd.R_below q60 hb)
   have n1_ := Aside0.mk (Kd.R_below q116 hb)
   have n2_ := Aside0.mk (Kd.R_below q136 hb)
   have n3_ := Aside0.mk (Kd.R_below q137 hb)
   have n4_ := Aside0.mk (blk_below (g := gb549) (o := .cells #[.int .i64 t537, .slice Ao15 t538.length co15, .int .i64 t541, .int .i64 t542, .int .i64 t543, .int .i64 t544, .slice Ao16 t545.length co16] 33 (0, 0)) q82 hb)
   have n5_ := Aside0.mk (below_step q114 hb)
   clear HO_9
   clear HO_10
   clear HO_550001
   clear HO_550006
   clear BK549
   clear HB
   have HO_9 := n0_
   have HO_10 := n1_
   have HO_550001 := n2_
   have HO_550006 := n3_
   have BK549 := n4_
   have HB := n5_
   clear n0_ n1_ n2_ n3_ n4_ n5_
   (try clear hb)
   (try clear hb2)
   (try clear hk)
   (try clear hi)
   refine hK.out _ _ ⟨(blk_cell BK549.out 0).trans rfl, (blk_cell BK549.out 1).trans rfl, (blk_cell BK549.out 2).trans rfl, (blk_cell BK549.out 3).trans rfl, (blk_cell BK549.out 4).trans rfl, (blk_cell BK549.out 5).trans rfl, (blk_cell BK549.out 6).trans rfl, HS7_⟩ (fun hHeld => ?_)
   clear hK K
   refine norm_ (a' := ?_) ?_ ?_
   rotate_left
   ·
    show Act.put _ (some 49) _ = _
    simp only [Act.put, List.setIfInBounds_toArray, List.set_cons_zero, List.set_cons_succ, i64_w, i32_w]
    rfl
   refine pv_ (i := 6) (N := some 43) #[Y_,Y_,Y_,Y_,Y_,Y_,Y_,N_,N_,N_,N_] (h := ?_)
   refine pv_ (i := 7) (N := some 50) #[Y_,Y_,Y_,Y_,Y_,Y_,Y_,Y_,N_,N_,N_] (h := ?_)
   refine pv_ (i := 8) (N := some 51) #[Y_,Y_,Y_,Y_,Y_,Y_,Y_,Y_,Y_,N_,N_] (h := ?_)
   refine pv_ (i := 9) (N := some 12) #[Y_,Y_,Y_,Y_,Y_,Y_,Y_,Y_,Y_,Y_,N_] (h := ?_)
   refine pv_ (i := 10) (N := some 13) #[Y_,Y_,Y_,Y_,Y_,Y_,Y_,Y_,Y_,Y_,Y_] (h := ?_)
   refine done_ (done_of HT_.out (by kernel_rfl)) ?_
   try go_wp2
   have n0_ := Aside0.mk (Kd.R_drew HO_9.out)
   have n1_ := Aside0.mk (Kd.R_drew HO_10.out)
   have n2_ := Aside0.mk (Kd.R_drew HO_550001.out)
   have n3_ := Aside0.mk (Kd.R_drew HO_550006.out)
   have n4_ := Aside0.mk (blk_drew BK549.out)
   have n5_ := Aside0.mk (below_drew1 HB.out)
   clear HO_9
   clear HO_10
   clear HO_550001
   clear HO_550006
   clear BK549
   clear HB
   have HO_9 := n0_
   have HO_10 := n1_
   have HO_550001 := n2_
   have HO_550006 := n3_
   have BK549 := n4_
   have HB := n5_
   clear n0_ n1_ n2_ n3_ n4_ n5_
   have p574 : 0 ≤ (x11_1 : Int) := of_decide_eq_true q6
   have q574 : x11_1 < (y554.length : Int) := of_decide_eq_true q6
   obtain ⟨ad574, e574, hx574_0⟩ := Kd.at_int (Kd.R_reads' HO_9.out).2.2 x11_1 p574 q574
   obtain rfl : ad571 = ad574 := (by injection e574)
   replace p574 := eq_true p574
   replace q574 := eq_true q574
   refine start_ (n := 11) (S := fun w' => w'.cell? ⟨gb549, 0, none⟩ = some (.int .i64 t537) ∧ w'.cell? ⟨gb549, 1, none⟩ = some (.slice Ao15 t538.length co15) ∧ w'.cell? ⟨gb549, 2, none⟩ = some (.int .i64 t541) ∧ w'.cell? ⟨gb549, 3, none⟩ = some (.int .i64 t542) ∧ w'.cell? ⟨gb549, 4, none⟩ = some (.int .i64 t543) ∧ w'.cell? ⟨gb549, 5, none⟩ = some (.int .i64 t544) ∧ w'.cell? ⟨gb549, 6, none⟩ = some (.slice Ao16 t545.length co16) ∧ w'.cell? (ad571.add (x11_1).toNat) = some (.int .i64 (rd y554 x11_1))) (ds := []) #[N_,N_,N_,N_,N_,N_,N_,N_,N_,N_,N_] (by kernel_rfl) rfl rfl ⟨(blk_cell BK549.out 0).trans rfl, (blk_cell BK549.out 1).trans rfl, (blk_cell BK549.out 2).trans rfl, (blk_cell BK549.out 3).trans rfl, (blk_cell BK549.out 4).trans rfl, (blk_cell BK549.out 5).trans rfl, (blk_cell BK549.out 6).trans rfl, hx574_0⟩ (fun hHeld => ?_); refine with_tabW payrolllaw30_WithholdingAnnual.tab8 payrolllaw30_WithholdingAnnual.bits8 (fun HT_ HW_ => ?_)
   generalize w45.drew = w46 at HO_9 HO_10 HO_550001 HO_550006 BK549 HB hx574_0 hHeld ⊢
   refine pv_ (i := 1) (N := some 54) #[N_,Y_,N_,N_,N_,N_,N_,N_,N_,N_,N_] (h := ?_)
   refine pv_ (i := 2) (N := some 55) #[N_,Y_,Y_,N_,N_,N_,N_,N_,N_,N_,N_] (h := ?_)
   refine pv_ (i := 3) (N := some 56) #[N_,Y_,Y_,Y_,N_,N_,N_,N_,N_,N_,N_] (h := ?_)
   refine take_ (i := 0) (N := some 53) (v := ?_) (a' := ?_) #[Y_,Y_,Y_,Y_,N_,N_,N_,N_,N_,N_,N_] rfl rfl (take_ofW HT_.out HW_.out (by kernel_rfl)) (fun _ _ _ h => h) (Or.inl ⟨by rfl, ?_⟩) hHeld ?_ ?_
   rotate_left
   ·
    rintro w' ⟨s0, s1, s2, s3, s4, s5, s6, s7⟩
    go_simp
    with_reducible rfl
   rotate_left
   ·
    simp only [Act.put, List.setIfInBounds_toArray, List.set_cons_zero, List.set_cons_succ, i64_w, i32_w]
    rfl
   refine take_ (i := 4) (N := some 57) (v := ?_) (a' := ?_) #[Y_,Y_,Y_,Y_,Y_,N_,N_,N_,N_,N_,N_] rfl rfl (take_ofW HT_.out HW_.out (by kernel_rfl)) (fun _ _ _ h => h) (Or.inl ⟨by rfl, ?_⟩) hHeld ?_ ?_
   rotate_left
   ·
    rintro w' ⟨s0, s1, s2, s3, s4, s5, s6, s7⟩
    go_simp
    with_reducible rfl
   rotate_left
   ·
    simp only [Act.put, List.setIfInBounds_toArray, List.set_cons_zero, List.set_cons_succ, i64_w, i32_w]
    rfl
   refine one_ (i := 5) (N := some 58) #[Y_,Y_,Y_,Y_,Y_,Y_,N_,N_,N_,N_,N_] rfl rfl (one_of HT_.out (by kernel_rfl)) (by decide) (fun K hK => ?_)
   refine goes_ Try.func23 (by kernel_rfl) rfl #[.agg #[.int .i64 t537, .slice Ao15 t538.length co15, .int .i64 t541, .int .i64 t542, .int .i64 t543, .int .i64 t544, .slice Ao16 t545.length co16], .int .i64 (rd y554 x11_1)] (by rfl) rfl rfl q1 ?_
   with_reducible refine (payrollref30_Annual.calls k1 t537 _ _ t538 t541 t542 t543 t544 _ _ t545 (rd y554 x11_1) t575 t576 _ ?side1 ?side2 ?side3 ?side4 A35.out).mono ?_
   (case side1 => exact q138)
   (case side2 => exact (Kd.R_reads' HO_550001.out).2.1)
   (case side3 => exact q139)
   (case side4 => exact (Kd.R_reads' HO_550006.out).2.1)
   rintro e w47 ⟨rfl, hb⟩
   have HS7_ := (hb.cell (World.block_lt_of_cell? _ _ (hHeld.2.2.2.2.2.2.2))).trans (hHeld.2.2.2.2.2.2.2)
   refine ⟨_, rfl, ?_⟩
   have n0_ := Aside0.mk (Kd.R_below q60 hb)
   have n1_ := Aside0.mk (Kd.R_below q116 hb)
   have n2_ := Aside0.mk (Kd.R_below q136 hb)
   have n3_ := Aside0.mk (Kd.R_below q137 hb)
   have n4_ := Aside0.mk (blk_below (g := gb549) (o := .cells #[.int .i64 t537, .slice Ao15 t538.length co15, .int .i64 t541, .int .i64 t542, .int .i64 t543, .int .i64 t544, .slice Ao16 t545.length co16] 33 (0, 0)) q82 hb)
   have n5_ := Aside0.mk (below_step q114 hb)
   clear HO_9
   clear HO_10
   clear HO_550001
   clear HO_550006
   clear BK549
   clear HB
   have HO_9 := n0_
   have HO_10 := n1_
   have HO_550001 := n2_
   have HO_550006 := n3_
   have BK549 := n4_
   have HB := n5_
   clear n0_ n1_ n2_ n3_ n4_ n5_
   (try clear hb)
   (try clear hb2)
   (try clear hk)
   (try clear hi)
   refine hK.out _ _ ⟨(blk_cell BK549.out 0).trans rfl, (blk_cell BK549.out 1).trans rfl, (blk_cell BK549.out 2).trans rfl, (blk_cell BK549.out 3).trans rfl, (blk_cell BK549.out 4).trans rfl, (blk_cell BK549.out 5).trans rfl, (blk_cell BK549.out 6).trans rfl, HS7_⟩ (fun hHeld => ?_)
   clear hK K
   refine norm_ (a' := ?_) ?_ ?_
   rotate_left
   ·
    show Act.put _ (some 58) _ = _
    simp only [Act.put, List.setIfInBounds_toArray, List.set_cons_zero, List.set_cons_succ, i64_w, i32_w]
    rfl
   refine pv_ (i := 6) (N := some 52) #[Y_,Y_,Y_,Y_,Y_,Y_,Y_,N_,N_,N_,N_] (h := ?_)
   refine pv_ (i := 7) (N := some 59) #[Y_,Y_,Y_,Y_,Y_,Y_,Y_,Y_,N_,N_,N_] (h := ?_)
   refine pv_ (i := 8) (N := some 60) #[Y_,Y_,Y_,Y_,Y_,Y_,Y_,Y_,Y_,N_,N_] (h := ?_)
   refine pv_ (i := 9) (N := some 14) #[Y_,Y_,Y_,Y_,Y_,Y_,Y_,Y_,Y_,Y_,N_] (h := ?_)
   refine pv_ (i := 10) (N := some 15) #[Y_,Y_,Y_,Y_,Y_,Y_,Y_,Y_,Y_,Y_,Y_] (h := ?_)
   refine done_ (done_of HT_.out (by kernel_rfl)) ?_
   try go_wp2
   have n0_ := Aside0.mk (Kd.R_drew HO_9.out)
   have n1_ := Aside0.mk (Kd.R_drew HO_10.out)
   have n2_ := Aside0.mk (Kd.R_drew HO_550001.out)
   have n3_ := Aside0.mk (Kd.R_drew HO_550006.out)
   have n4_ := Aside0.mk (blk_drew BK549.out)
   have n5_ := Aside0.mk (below_drew1 HB.out)
   clear HO_9
   clear HO_10
   clear HO_550001
   clear HO_550006
   clear BK549
   clear HB
   have HO_9 := n0_
   have HO_10 := n1_
   have HO_550001 := n2_
   have HO_550006 := n3_
   have BK549 := n4_
   have HB := n5_
   clear n0_ n1_ n2_ n3_ n4_ n5_
   have p577 : 0 ≤ (x11_1 : Int) := of_decide_eq_true q6
   have q577 : x11_1 < (y554.length : Int) := of_decide_eq_true q6
   obtain ⟨ad577, e577, hx577_0⟩ := Kd.at_int (Kd.R_reads' HO_9.out).2.2 x11_1 p577 q577
   obtain rfl : ad571 = ad577 := (by injection e577)
   replace p577 := eq_true p577
   replace q577 := eq_true q577
   obtain ⟨Ao49, co49, eo49⟩ := Kd.R_slice HO_10.out
   (first | subst eo49 | (injection eo49 with f1_ f2_ f3_; have f4_ := f1_.symm; have f5_ := f3_.symm; clear f1_ f2_ f3_; subst f4_; subst f5_))
   have p578 : 0 ≤ (x11_1 : Int) := of_decide_eq_true q6
   have q578 : x11_1 < (y567.length : Int) := of_decide_eq_true q6
   obtain ⟨ad578, e578, hx578_0⟩ := Kd.at_int (Kd.R_reads' HO_10.out).2.2 x11_1 p578 q578
   cases e578
   replace p578 := eq_true p578
   replace q578 := eq_true q578
   refine start_ (n := 15) (S := fun w' => w'.cell? ⟨gb549, 0, none⟩ = some (.int .i64 t537) ∧ w'.cell? ⟨gb549, 1, none⟩ = some (.slice Ao15 t538.length co15) ∧ w'.cell? ⟨gb549, 2, none⟩ = some (.int .i64 t541) ∧ w'.cell? ⟨gb549, 3, none⟩ = some (.int .i64 t542) ∧ w'.cell? ⟨gb549, 4, none⟩ = some (.int .i64 t543) ∧ w'.cell? ⟨gb549, 5, none⟩ = some (.int .i64 t544) ∧ w'.cell? ⟨gb549, 6, none⟩ = some (.slice Ao16 t545.length co16) ∧ w'.cell? (ad571.add (x11_1).toNat) = some (.int .i64 (rd y554 x11_1)) ∧ w'.cell? (ad578.add (x11_1).toNat) = some (.int .i64 (rd y567 x11_1))) (ds := []) #[N_,N_,N_,N_,N_,N_,N_,N_,N_,N_,N_,N_,N_,N_,N_] (by kernel_rfl) rfl rfl ⟨(blk_cell BK549.out 0).trans rfl, (blk_cell BK549.out 1).trans rfl, (blk_cell BK549.out 2).trans rfl, (blk_cell BK549.out 3).trans rfl, (blk_cell BK549.out 4).trans rfl, (blk_cell BK549.out 5).trans rfl, (blk_cell BK549.out 6).trans rfl, hx577_0, hx578_0⟩ (fun hHeld => ?_); refine with_tabW payrolllaw30_WithholdingAnnual.tab9 payrolllaw30_WithholdingAnnual.bits9 (fun HT_ HW_ => ?_)
   generalize w47.drew = w48 at HO_9 HO_10 HO_550001 HO_550006 BK549 HB hx577_0 hx578_0 hHeld ⊢
   refine pv_ (i := 1) (N := some 63) #[N_,Y_,N_,N_,N_,N_,N_,N_,N_,N_,N_,N_,N_,N_,N_] (h := ?_)
   refine pv_ (i := 2) (N := some 64) #[N_,Y_,Y_,N_,N_,N_,N_,N_,N_,N_,N_,N_,N_,N_,N_] (h := ?_)
   refine pv_ (i := 3) (N := some 65) #[N_,Y_,Y_,Y_,N_,N_,N_,N_,N_,N_,N_,N_,N_,N_,N_] (h := ?_)
   refine pv_ (i := 5) (N := some 67) #[N_,Y_,Y_,Y_,N_,Y_,N_,N_,N_,N_,N_,N_,N_,N_,N_] (h := ?_)
   refine pv_ (i := 6) (N := some 68) #[N_,Y_,Y_,Y_,N_,Y_,Y_,N_,N_,N_,N_,N_,N_,N_,N_] (h := ?_)
   refine pv_ (i := 7) (N := some 69) #[N_,Y_,Y_,Y_,N_,Y_,Y_,Y_,N_,N_,N_,N_,N_,N_,N_] (h := ?_)
   refine take_ (i := 0) (N := some 62) (v := ?_) (a' := ?_) #[Y_,Y_,Y_,Y_,N_,Y_,Y_,Y_,N_,N_,N_,N_,N_,N_,N_] rfl rfl (take_ofW HT_.out HW_.out (by kernel_rfl)) (fun _ _ _ h => h) (Or.inl ⟨by rfl, ?_⟩) hHeld ?_ ?_
   rotate_left
   ·
    rintro w' ⟨s0, s1, s2, s3, s4, s5, s6, s7, s8⟩
    go_simp
    with_reducible rfl
   rotate_left
   ·
    simp only [Act.put, List.setIfInBounds_toArray, List.set_cons_zero, List.set_cons_succ, i64_w, i32_w]
    rfl
   refine take_ (i := 4) (N := some 66) (v := ?_) (a' := ?_) #[Y_,Y_,Y_,Y_,Y_,Y_,Y_,Y_,N_,N_,N_,N_,N_,N_,N_] rfl rfl (take_ofW HT_.out HW_.out (by kernel_rfl)) (fun _ _ _ h => h) (Or.inl ⟨by rfl, ?_⟩) hHeld ?_ ?_
   rotate_left
   ·
    rintro w' ⟨s0, s1, s2, s3, s4, s5, s6, s7, s8⟩
    go_simp
    with_reducible rfl
   rotate_left
   ·
    simp only [Act.put, List.setIfInBounds_toArray, List.set_cons_zero, List.set_cons_succ, i64_w, i32_w]
    rfl
   refine take_ (i := 8) (N := some 70) (v := ?_) (a' := ?_) #[Y_,Y_,Y_,Y_,Y_,Y_,Y_,Y_,Y_,N_,N_,N_,N_,N_,N_] rfl rfl (take_ofW HT_.out HW_.out (by kernel_rfl)) (fun _ _ _ h => h) (Or.inl ⟨by rfl, ?_⟩) hHeld ?_ ?_
   rotate_left
   ·
    rintro w' ⟨s0, s1, s2, s3, s4, s5, s6, s7, s8⟩
    go_simp
    with_reducible rfl
   rotate_left
   ·
    simp only [Act.put, List.setIfInBounds_toArray, List.set_cons_zero, List.set_cons_succ, i64_w, i32_w]
    rfl
   refine one_ (i := 9) (N := some 71) #[Y_,Y_,Y_,Y_,Y_,Y_,Y_,Y_,Y_,Y_,N_,N_,N_,N_,N_] rfl rfl (one_of HT_.out (by kernel_rfl)) (by decide) (fun K hK => ?_)
   refine goes_ Try.func24 (by kernel_rfl) rfl #[.agg #[.int .i64 t537, .slice Ao15 t538.length co15, .int .i64 t541, .int .i64 t542, .int .i64 t543, .int .i64 t544, .slice Ao16 t545.length co16], .int .i64 (rd y554 x11_1), .int .i64 (rd y567 x11_1)] (by rfl) rfl rfl q1 ?_
   with_reducible refine (withholding_Formula.calls k1 t537 _ _ t538 t541 t542 t543 t544 _ _ t545 (rd y554 x11_1) (rd y567 x11_1) t579 t580 _ ?side1 ?side2 ?side3 ?side4 A37.out).mono ?_
   (case side1 => exact q138)
   (case side2 => exact (Kd.R_reads' HO_550001.out).2.1)
   (case side3 => exact q139)
   (case side4 => exact (Kd.R_reads' HO_550006.out).2.1)
   rintro e w50 ⟨rfl, hb⟩
   have HS7_ := (hb.cell (World.block_lt_of_cell? _ _ (hHeld.2.2.2.2.2.2.2.1))).trans (hHeld.2.2.2.2.2.2.2.1)
   have HS8_ := (hb.cell (World.block_lt_of_cell? _ _ (hHeld.2.2.2.2.2.2.2.2))).trans (hHeld.2.2.2.2.2.2.2.2)
   refine ⟨_, rfl, ?_⟩
   have n0_ := Aside0.mk (Kd.R_below q60 hb)
   have n1_ := Aside0.mk (Kd.R_below q116 hb)
   have n2_ := Aside0.mk (Kd.R_below q136 hb)
   have n3_ := Aside0.mk (Kd.R_below q137 hb)
   have n4_ := Aside0.mk (blk_below (g := gb549) (o := .cells #[.int .i64 t537, .slice Ao15 t538.length co15, .int .i64 t541, .int .i64 t542, .int .i64 t543, .int .i64 t544, .slice Ao16 t545.length co16] 33 (0, 0)) q82 hb)
   have n5_ := Aside0.mk (below_step q114 hb)
   clear HO_9
   clear HO_10
   clear HO_550001
   clear HO_550006
   clear BK549
   clear HB
   have HO_9 := n0_
   have HO_10 := n1_
   have HO_550001 := n2_
   have HO_550006 := n3_
   have BK549 := n4_
   have HB := n5_
   clear n0_ n1_ n2_ n3_ n4_ n5_
   (try clear hb)
   (try clear hb2)
   (try clear hk)
   (try clear hi)
   refine hK.out _ _ ⟨(blk_cell BK549.out 0).trans rfl, (blk_cell BK549.out 1).trans rfl, (blk_cell BK549.out 2).trans rfl, (blk_cell BK549.out 3).trans rfl, (blk_cell BK549.out 4).trans rfl, (blk_cell BK549.out 5).trans rfl, (blk_cell BK549.out 6).trans rfl, HS7_, HS8_⟩ (fun hHeld => ?_)
   clear hK K
   refine norm_ (a' := ?_) ?_ ?_
   rotate_left
   ·
    show Act.put _ (some 71) _ = _
    simp only [Act.put, List.setIfInBounds_toArray, List.set_cons_zero, List.set_cons_succ, i64_w, i32_w]
    rfl
   refine pv_ (i := 10) (N := some 61) #[Y_,Y_,Y_,Y_,Y_,Y_,Y_,Y_,Y_,Y_,Y_,N_,N_,N_,N_] (h := ?_)
   refine pv_ (i := 11) (N := some 72) #[Y_,Y_,Y_,Y_,Y_,Y_,Y_,Y_,Y_,Y_,Y_,Y_,N_,N_,N_] (h := ?_)
   refine pv_ (i := 12) (N := some 73) #[Y_,Y_,Y_,Y_,Y_,Y_,Y_,Y_,Y_,Y_,Y_,Y_,Y_,N_,N_] (h := ?_)
   refine pv_ (i := 13) (N := some 16) #[Y_,Y_,Y_,Y_,Y_,Y_,Y_,Y_,Y_,Y_,Y_,Y_,Y_,Y_,N_] (h := ?_)
   refine pv_ (i := 14) (N := some 17) #[Y_,Y_,Y_,Y_,Y_,Y_,Y_,Y_,Y_,Y_,Y_,Y_,Y_,Y_,Y_] (h := ?_)
   refine done_ (done_of HT_.out (by kernel_rfl)) ?_
   try go_wp2
   have n0_ := Aside0.mk (Kd.R_drew HO_9.out)
   have n1_ := Aside0.mk (Kd.R_drew HO_10.out)
   have n2_ := Aside0.mk (Kd.R_drew HO_550001.out)
   have n3_ := Aside0.mk (Kd.R_drew HO_550006.out)
   have n4_ := Aside0.mk (blk_drew BK549.out)
   have n5_ := Aside0.mk (below_drew1 HB.out)
   clear HO_9
   clear HO_10
   clear HO_550001
   clear HO_550006
   clear BK549
   clear HB
   have HO_9 := n0_
   have HO_10 := n1_
   have HO_550001 := n2_
   have HO_550006 := n3_
   have BK549 := n4_
   have HB := n5_
   clear n0_ n1_ n2_ n3_ n4_ n5_
   have p581 : 0 ≤ (x11_1 : Int) := of_decide_eq_true q6
   have q581 : x11_1 < (y554.length : Int) := of_decide_eq_true q6
   obtain ⟨ad581, e581, hx581_0⟩ := Kd.at_int (Kd.R_reads' HO_9.out).2.2 x11_1 p581 q581
   obtain rfl : ad571 = ad581 := (by injection e581)
   replace p581 := eq_true p581
   replace q581 := eq_true q581
   have p582 : 0 ≤ (x11_1 : Int) := of_decide_eq_true q6
   have q582 : x11_1 < (y567.length : Int) := of_decide_eq_true q6
   obtain ⟨ad582, e582, hx582_0⟩ := Kd.at_int (Kd.R_reads' HO_10.out).2.2 x11_1 p582 q582
   obtain rfl : ad578 = ad582 := (by injection e582)
   replace p582 := eq_true p582
   replace q582 := eq_true q582
   refine start_ (n := 15) (S := fun w' => w'.cell? ⟨gb549, 0, none⟩ = some (.int .i64 t537) ∧ w'.cell? ⟨gb549, 1, none⟩ = some (.slice Ao15 t538.length co15) ∧ w'.cell? ⟨gb549, 2, none⟩ = some (.int .i64 t541) ∧ w'.cell? ⟨gb549, 3, none⟩ = some (.int .i64 t542) ∧ w'.cell? ⟨gb549, 4, none⟩ = some (.int .i64 t543) ∧ w'.cell? ⟨gb549, 5, none⟩ = some (.int .i64 t544) ∧ w'.cell? ⟨gb549, 6, none⟩ = some (.slice Ao16 t545.length co16) ∧ w'.cell? (ad571.add (x11_1).toNat) = some (.int .i64 (rd y554 x11_1)) ∧ w'.cell? (ad578.add (x11_1).toNat) = some (.int .i64 (rd y567 x11_1))) (ds := []) #[N_,N_,N_,N_,N_,N_,N_,N_,N_,N_,N_,N_,N_,N_,N_] (by kernel_rfl) rfl rfl ⟨(blk_cell BK549.out 0).trans rfl, (blk_cell BK549.out 1).trans rfl, (blk_cell BK549.out 2).trans rfl, (blk_cell BK549.out 3).trans rfl, (blk_cell BK549.out 4).trans rfl, (blk_cell BK549.out 5).trans rfl, (blk_cell BK549.out 6).trans rfl, hx581_0, hx582_0⟩ (fun hHeld => ?_); refine with_tabW payrolllaw30_WithholdingAnnual.tab10 payrolllaw30_WithholdingAnnual.bits10 (fun HT_ HW_ => ?_)
   generalize w50.drew = w51 at HO_9 HO_10 HO_550001 HO_550006 BK549 HB hx581_0 hx582_0 hHeld ⊢
   refine pv_ (i := 1) (N := some 76) #[N_,Y_,N_,N_,N_,N_,N_,N_,N_,N_,N_,N_,N_,N_,N_] (h := ?_)
   refine pv_ (i := 2) (N := some 77) #[N_,Y_,Y_,N_,N_,N_,N_,N_,N_,N_,N_,N_,N_,N_,N_] (h := ?_)
   refine pv_ (i := 3) (N := some 78) #[N_,Y_,Y_,Y_,N_,N_,N_,N_,N_,N_,N_,N_,N_,N_,N_] (h := ?_)
   refine pv_ (i := 5) (N := some 80) #[N_,Y_,Y_,Y_,N_,Y_,N_,N_,N_,N_,N_,N_,N_,N_,N_] (h := ?_)
   refine pv_ (i := 6) (N := some 81) #[N_,Y_,Y_,Y_,N_,Y_,Y_,N_,N_,N_,N_,N_,N_,N_,N_] (h := ?_)
   refine pv_ (i := 7) (N := some 82) #[N_,Y_,Y_,Y_,N_,Y_,Y_,Y_,N_,N_,N_,N_,N_,N_,N_] (h := ?_)
   refine take_ (i := 0) (N := some 75) (v := ?_) (a' := ?_) #[Y_,Y_,Y_,Y_,N_,Y_,Y_,Y_,N_,N_,N_,N_,N_,N_,N_] rfl rfl (take_ofW HT_.out HW_.out (by kernel_rfl)) (fun _ _ _ h => h) (Or.inl ⟨by rfl, ?_⟩) hHeld ?_ ?_
   rotate_left
   ·
    rintro w' ⟨s0, s1, s2, s3, s4, s5, s6, s7, s8⟩
    go_simp
    with_reducible rfl
   rotate_left
   ·
    simp only [Act.put, List.setIfInBounds_toArray, List.set_cons_zero, List.set_cons_succ, i64_w, i32_w]
    rfl
   refine take_ (i := 4) (N := some 79) (v := ?_) (a' := ?_) #[Y_,Y_,Y_,Y_,Y_,Y_,Y_,Y_,N_,N_,N_,N_,N_,N_,N_] rfl rfl (take_ofW HT_.out HW_.out (by kernel_rfl)) (fun _ _ _ h => h) (Or.inl ⟨by rfl, ?_⟩) hHeld ?_ ?_
   rotate_left
   ·
    rintro w' ⟨s0, s1, s2, s3, s4, s5, s6, s7, s8⟩
    go_simp
    with_reducible rfl
   rotate_left
   ·
    simp only [Act.put, List.setIfInBounds_toArray, List.set_cons_zero, List.set_cons_succ, i64_w, i32_w]
    rfl
   refine take_ (i := 8) (N := some 83) (v := ?_) (a' := ?_) #[Y_,Y_,Y_,Y_,Y_,Y_,Y_,Y_,Y_,N_,N_,N_,N_,N_,N_] rfl rfl (take_ofW HT_.out HW_.out (by kernel_rfl)) (fun _ _ _ h => h) (Or.inl ⟨by rfl, ?_⟩) hHeld ?_ ?_
   rotate_left
   ·
    rintro w' ⟨s0, s1, s2, s3, s4, s5, s6, s7, s8⟩
    go_simp
    with_reducible rfl
   rotate_left
   ·
    simp only [Act.put, List.setIfInBounds_toArray, List.set_cons_zero, List.set_cons_succ, i64_w, i32_w]
    rfl
   refine one_ (i := 9) (N := some 84) #[Y_,Y_,Y_,Y_,Y_,Y_,Y_,Y_,Y_,Y_,N_,N_,N_,N_,N_] rfl rfl (one_of HT_.out (by kernel_rfl)) (by decide) (fun K hK => ?_)
   refine goes_ Try.func25 (by kernel_rfl) rfl #[.agg #[.int .i64 t537, .slice Ao15 t538.length co15, .int .i64 t541, .int .i64 t542, .int .i64 t543, .int .i64 t544, .slice Ao16 t545.length co16], .int .i64 (rd y554 x11_1), .int .i64 (rd y567 x11_1)] (by rfl) rfl rfl q1 ?_
   with_reducible refine (payrollref30_Formula.calls k1 t537 _ _ t538 t541 t542 t543 t544 _ _ t545 (rd y554 x11_1) (rd y567 x11_1) t583 t584 _ ?side1 ?side2 ?side3 ?side4 A38.out).mono ?_
   (case side1 => exact q138)
   (case side2 => exact (Kd.R_reads' HO_550001.out).2.1)
   (case side3 => exact q139)
   (case side4 => exact (Kd.R_reads' HO_550006.out).2.1)
   rintro e w52 ⟨rfl, hb⟩
   have HS7_ := (hb.cell (World.block_lt_of_cell? _ _ (hHeld.2.2.2.2.2.2.2.1))).trans (hHeld.2.2.2.2.2.2.2.1)
   have HS8_ := (hb.cell (World.block_lt_of_cell? _ _ (hHeld.2.2.2.2.2.2.2.2))).trans (hHeld.2.2.2.2.2.2.2.2)
   refine ⟨_, rfl, ?_⟩
   have n0_ := Aside0.mk (Kd.R_below q60 hb)
   have n1_ := Aside0.mk (Kd.R_below q116 hb)
   have n2_ := Aside0.mk (Kd.R_below q136 hb)
   have n3_ := Aside0.mk (Kd.R_below q137 hb)
   have n4_ := Aside0.mk (blk_below (g := gb549) (o := .cells #[.int .i64 t537, .slice Ao15 t538.length co15, .int .i64 t541, .int .i64 t542, .int .i64 t543, .int .i64 t544, .slice Ao16 t545.length co16] 33 (0, 0)) q82 hb)
   have n5_ := Aside0.mk (below_step q114 hb)
   clear HO_9
   clear HO_10
   clear HO_550001
   clear HO_550006
   clear BK549
   clear HB
   have HO_9 := n0_
   have HO_10 := n1_
   have HO_550001 := n2_
   have HO_550006 := n3_
   have BK549 := n4_
   have HB := n5_
   clear n0_ n1_ n2_ n3_ n4_ n5_
   (try clear hb)
   (try clear hb2)
   (try clear hk)
   (try clear hi)
   refine hK.out _ _ ⟨(blk_cell BK549.out 0).trans rfl, (blk_cell BK549.out 1).trans rfl, (blk_cell BK549.out 2).trans rfl, (blk_cell BK549.out 3).trans rfl, (blk_cell BK549.out 4).trans rfl, (blk_cell BK549.out 5).trans rfl, (blk_cell BK549.out 6).trans rfl, HS7_, HS8_⟩ (fun hHeld => ?_)
   clear hK K
   refine norm_ (a' := ?_) ?_ ?_
   rotate_left
   ·
    show Act.put _ (some 84) _ = _
    simp only [Act.put, List.setIfInBounds_toArray, List.set_cons_zero, List.set_cons_succ, i64_w, i32_w]
    rfl
   refine pv_ (i := 10) (N := some 74) #[Y_,Y_,Y_,Y_,Y_,Y_,Y_,Y_,Y_,Y_,Y_,N_,N_,N_,N_] (h := ?_)
   refine pv_ (i := 11) (N := some 85) #[Y_,Y_,Y_,Y_,Y_,Y_,Y_,Y_,Y_,Y_,Y_,Y_,N_,N_,N_] (h := ?_)
   refine pv_ (i := 12) (N := some 86) #[Y_,Y_,Y_,Y_,Y_,Y_,Y_,Y_,Y_,Y_,Y_,Y_,Y_,N_,N_] (h := ?_)
   refine pv_ (i := 13) (N := some 18) #[Y_,Y_,Y_,Y_,Y_,Y_,Y_,Y_,Y_,Y_,Y_,Y_,Y_,Y_,N_] (h := ?_)
   refine pv_ (i := 14) (N := some 19) #[Y_,Y_,Y_,Y_,Y_,Y_,Y_,Y_,Y_,Y_,Y_,Y_,Y_,Y_,Y_] (h := ?_)
   refine done_ (done_of HT_.out (by kernel_rfl)) ?_
   try go_wp2
   go_roundg k1
   case measure => have := HK1.out; omega
   case rel => exact ⟨(wrap64 (x11_1 + 1)), q26, H', ⟨by have := HK1.out; omega⟩, ⟨q60⟩, ⟨q116⟩, ⟨q136⟩, ⟨q137⟩, ⟨q82⟩, ⟨q114⟩⟩

/-- THE ONE PURE STATEMENT of payrolllaw30_WithholdingAnnual: yours. -/
def payrolllaw30_WithholdingAnnual.Pure : Prop := ∀ (l0 : List Int) (a1 : Int) (a2 : Int), l0.length ≤ maxLen → l0.length * 8 ≤ 140737488351232 → (∀ x ∈ l0, (Lit.int .i64 x).wf = true) → (Lit.int .i64 a1).wf = true → (Lit.int .i64 a2).wf = true → ∃ k, payrolllaw30_WithholdingAnnual.f k l0 a1 a2 = some true
theorem payrolllaw30_WithholdingAnnual.walk (P : payrolllaw30_WithholdingAnnual.Pure) (a0 : Option Addr) (len0 cap0 : Nat) (z0 : List Int) (a1 : Int) (a2 : Int) (w : World) (w0 : (a0 = none ∧ len0 = 0 ∧ cap0 = 0 ∧ z0 = []) ∨ ∃ x, a0 = some x ∧ len0 ≤ cap0 ∧ cap0 ≤ maxLen ∧ z0.length = cap0 ∧ (∀ i, i < z0.length → w.cell? (x.add i) = some (.int .i64 (z0.getD i 0))) ∧ ∀ n ∈ z0, (Lit.int .i64 n).wf = true) (y0 : len0 * 8 ≤ 140737488351232) (w1 : (Lit.int .i64 a1).wf = true) (w2 : (Lit.int .i64 a2).wf = true) :
  Calls Try.prog 4 #[.slice a0 len0 cap0, .int .i64 a1, .int .i64 a2] w fun e w' => e = .returned (.bool true) ∧ Below w.heap.size w w' := by
 obtain ⟨l0, rfl, hr0, hm0, hw0, hc0⟩ := ReadsInt.ofRowC w0
 obtain ⟨k, h⟩ := P l0 a1 a2 hm0 y0 hw0 w1 w2
 refine (payrolllaw30_WithholdingAnnual.calls k _ _ l0 a1 a2 true w (Kd.C_of_reads (d := (0 : Int)) (h1 := fun _ => rfl) hr0) hc0 h rfl).mono ?_
 rintro e w' ⟨rfl, hd⟩
 exact ⟨rfl, hd⟩

end Go.Proofs.Ytbacfajhgmnjpaa.P
