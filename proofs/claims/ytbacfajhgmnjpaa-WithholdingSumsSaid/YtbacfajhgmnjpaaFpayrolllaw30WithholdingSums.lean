/- Proved here: that the Go function payrolllaw30_WithholdingSums computes the plain function of that name (the machine side of the laws, reworked from a print; no condition of its own). -/
import Derived.Test.YtbacfajhgmnjpaaProg
import Derived.Test.YtbacfajhgmnjpaaV1
import Derived.Test.YtbacfajhgmnjpaaV2
import Derived.Test.YtbacfajhgmnjpaaV3
import Derived.Test.YtbacfajhgmnjpaaFPRE
import Derived.Test.YtbacfajhgmnjpaaFwithholdingAnnual
import Derived.Test.YtbacfajhgmnjpaaFwithholdingYear
import Derived.Test.YtbacfajhgmnjpaaFpayrolllaw30awake
import Derived.Test.YtbacfajhgmnjpaaFpaygen
import Derived.Test.YtbacfajhgmnjpaaFpaygenDeckTariff3
import Derived.Test.YtbacfajhgmnjpaaFpaygenDeckBases
namespace Go.Proofs.Ytbacfajhgmnjpaa.P
open Go.RowKit Go.Proofs.YtbacfajhgmnjpaaW.PrintWords Go.Proofs.YtbacfajhgmnjpaaW.PrintLast Go.Proofs.YtbacfajhgmnjpaaW.PrintMore
attribute [local go_sem] max2_int min2_int max_two min_two max_three min_three max_four min_four   -- for this text's walks alone
set_option linter.unusedVariables false
set_option linter.unusedSimpArgs false

mutual
def payrolllaw30_WithholdingSums.j0 : Nat → Int → List Int → List Int → List Int → Bool → Int → List (S58) → Int → Int → Int → Int → List (S80) → Option (Bool)
 | 0, _, _, _, _, _, _, _, _, _, _, _, _ => none
 | k + 1, x7, x8, x11, x13, x74, x698000, x698001, x698002, x698003, x698004, x698005, x698006 => if x74 = true then (some false) else (payrolllaw30_WithholdingSums.l0 k x7 x8 x11 x13 0 0 0 0 x698000 x698001 x698002 x698003 x698004 x698005 x698006)
def payrolllaw30_WithholdingSums.l0 : Nat → Int → List Int → List Int → List Int → Int → Int → Int → Int → Int → List (S58) → Int → Int → Int → Int → List (S80) → Option (Bool)
 | 0, _, _, _, _, _, _, _, _, _, _, _, _, _, _, _ => none
 | k + 1, x7, x8, x11, x13, x15, x16, x17, x18, x698000, x698001, x698002, x698003, x698004, x698005, x698006 => if x18 < x7 then (if 0 ≤ x18 then (if x18 < (x8.length : Int) then (if x18 < (x11.length : Int) then (if x18 < (x13.length : Int) then (payrolllaw30_WithholdingSums.l0 k x7 x8 x11 x13 (wrap64 (x15 + (rd x8 x18))) (wrap64 (x16 + (rd x11 x18))) (wrap64 (x17 + (rd x13 x18))) (wrap64 (x18 + 1)) x698000 x698001 x698002 x698003 x698004 x698005 x698006) else (none)) else (none)) else (none)) else (none)) else ((withholding_Annual.f k x698000 x698001 x698002 x698003 x698004 x698005 x698006 x15).bind fun bt736 => (if bt736.2 = 0 then (if x16 = bt736.1 then (if x17 = bt736.1 then ((payrolllaw30_awake.f k).bind fun t738 => (some t738)) else (some false)) else (some false)) else (some false)))
end
def payrolllaw30_WithholdingSums.f (k : Nat) (l0 : List Int) (a1 : Int) : Option (Bool) := (paygen_New.f l0).bind fun bt682 => ((paygen_Deck_Tariff.f k bt682.1 bt682.2 3).bind fun bt685 => ((paygen_Deck_Pick.f bt682.1 bt685.2.2.2.2.2.2.2 (([12, 4, 1, 7] : List Int))).bind fun bt701 => ((paygen_Deck_Bases.f k bt682.1 bt701.2 bt701.1).bind fun bt703 => ((paygen_Mod.f a1 bt701.1).bind fun t707 => ((some (([] : List Int) : List Int)).bind fun y708 => (if 0 ≤ t707 then (if t707 ≤ (bt703.1.length : Int) then ((some (bt703.1.drop (t707 : Int).toNat : List Int)).bind fun y711 => (if y708.length + y711.length < 17592186044416 then ((some (y708 ++ y711 : List Int)).bind fun y715 => ((some (bt703.1.take (t707 : Int).toNat : List Int)).bind fun y718 => (if y715.length + y718.length < 17592186044416 then ((withholding_Year.f k bt685.1 bt685.2.1 bt685.2.2.1 bt685.2.2.2.1 bt685.2.2.2.2.1 bt685.2.2.2.2.2.1 bt685.2.2.2.2.2.2.1 bt701.1 bt703.1).bind fun bt725 => ((withholding_Year.f k bt685.1 bt685.2.1 bt685.2.2.1 bt685.2.2.2.1 bt685.2.2.2.2.1 bt685.2.2.2.2.2.1 bt685.2.2.2.2.2.2.1 bt701.1 (y715 ++ y718)).bind fun bt729 => (if bt725.2 = 0 then (if bt729.2 = 0 then (if (bt725.1.length : Int) = bt701.1 then (payrolllaw30_WithholdingSums.j0 k bt701.1 bt703.1 bt725.1 bt729.1 ((bt729.1.length : Int) != bt701.1) bt685.1 bt685.2.1 bt685.2.2.1 bt685.2.2.2.1 bt685.2.2.2.2.1 bt685.2.2.2.2.2.1 bt685.2.2.2.2.2.2.1) else (payrolllaw30_WithholdingSums.j0 k bt701.1 bt703.1 bt725.1 bt729.1 true bt685.1 bt685.2.1 bt685.2.2.1 bt685.2.2.2.1 bt685.2.2.2.2.1 bt685.2.2.2.2.2.1 bt685.2.2.2.2.2.2.1)) else (payrolllaw30_WithholdingSums.j0 k bt701.1 bt703.1 bt725.1 bt729.1 true bt685.1 bt685.2.1 bt685.2.2.1 bt685.2.2.2.1 bt685.2.2.2.2.1 bt685.2.2.2.2.2.1 bt685.2.2.2.2.2.2.1)) else (payrolllaw30_WithholdingSums.j0 k bt701.1 bt703.1 bt725.1 bt729.1 true bt685.1 bt685.2.1 bt685.2.2.1 bt685.2.2.2.1 bt685.2.2.2.2.1 bt685.2.2.2.2.2.1 bt685.2.2.2.2.2.2.1)))) else (none)))) else (none))) else (none)) else (none)))))))
def payrolllaw30_WithholdingSums.T6 : Bool × List (List Nat × List Nat) := (true, [([], []), ([], []), ([], []), ([1, 2], [1, 2]), ([0, 3], [0, 3]), ([], []), ([], []), ([5, 6], [5, 6]), ([4, 7, 4], [4, 7]), ([8, 8, 0, 1, 2, 3, 4, 5, 6, 7, 8], [8])])
def payrolllaw30_WithholdingSums.B6 : List Nat := [0, 0, 0, 6, 15, 0, 0, 96, 255, 511]
theorem payrolllaw30_WithholdingSums.tab6 : rtab .any (opsOf Try.f7 6) = payrolllaw30_WithholdingSums.T6 := by kernel_rfl
theorem payrolllaw30_WithholdingSums.bits6 : waitsOk payrolllaw30_WithholdingSums.T6.2 payrolllaw30_WithholdingSums.B6 = true := by kernel_rfl
def payrolllaw30_WithholdingSums.T15 : Bool × List (List Nat × List Nat) := (true, [([], []), ([], []), ([], []), ([1, 2], [1, 2]), ([3], [3]), ([0, 4], [0, 4]), ([], []), ([], []), ([], []), ([7, 8], [7, 8]), ([9], [9]), ([6, 10], [6, 10]), ([], []), ([], []), ([], []), ([13, 14], [13, 14]), ([15], [15]), ([12, 16], [12, 16]), ([5, 0, 1, 2, 3, 4, 5], [0, 5]), ([11, 18, 0, 1, 2, 3, 4, 5, 6, 7, 8, 9, 10, 11, 18], [6, 11]), ([17, 19, 0, 1, 2, 3, 4, 5, 6, 7, 8, 9, 10, 11, 12, 13, 14, 15, 16, 17, 18, 19], [12, 17])])
def payrolllaw30_WithholdingSums.B15 : List Nat := [0, 0, 0, 6, 14, 31, 0, 0, 0, 384, 896, 1984, 0, 0, 0, 24576, 57344, 126976, 63, 266239, 1048575]
theorem payrolllaw30_WithholdingSums.tab15 : rtab .any (opsOf Try.f7 15) = payrolllaw30_WithholdingSums.T15 := by kernel_rfl
theorem payrolllaw30_WithholdingSums.bits15 : waitsOk payrolllaw30_WithholdingSums.T15.2 payrolllaw30_WithholdingSums.B15 = true := by kernel_rfl
set_option maxHeartbeats 8000000 in
set_option maxRecDepth 100000 in
theorem payrolllaw30_WithholdingSums.calls (k : Nat) (A0 : Option Addr) (c0 : Nat) (l0 : List Int) (a1 : Int) (r : Bool) (w : World) (hr0 : Kd.C (Kd.int .i64) w A0 l0.length l0) (hc0 : l0.length ≤ c0) (h : payrolllaw30_WithholdingSums.f k l0 a1 = some r) (hT : r = true) :
  Calls Try.prog 7 #[.slice A0 l0.length c0, .int .i64 a1] w fun e w' => e = .returned (.bool r) ∧ Below w.heap.size w w' := by
 have HT := Aside0.mk hT
 clear hT
 have hu33 := Try.underlying33
 have HR0 := Aside0.mk hr0
 have HC0 := Aside0.mk hc0
 clear hr0 hc0
 have HB := Aside0.mk (Below.refl w.heap.size w)
 have H : ((paygen_New.f l0).bind fun bt682 => ((paygen_Deck_Tariff.f k bt682.1 bt682.2 3).bind fun bt685 => ((paygen_Deck_Pick.f bt682.1 bt685.2.2.2.2.2.2.2 (([12, 4, 1, 7] : List Int))).bind fun bt701 => ((paygen_Deck_Bases.f k bt682.1 bt701.2 bt701.1).bind fun bt703 => ((paygen_Mod.f a1 bt701.1).bind fun t707 => ((some (([] : List Int) : List Int)).bind fun y708 => (if 0 ≤ t707 then (if t707 ≤ (bt703.1.length : Int) then ((some (bt703.1.drop (t707 : Int).toNat : List Int)).bind fun y711 => (if y708.length + y711.length < 17592186044416 then ((some (y708 ++ y711 : List Int)).bind fun y715 => ((some (bt703.1.take (t707 : Int).toNat : List Int)).bind fun y718 => (if y715.length + y718.length < 17592186044416 then ((withholding_Year.f k bt685.1 bt685.2.1 bt685.2.2.1 bt685.2.2.2.1 bt685.2.2.2.2.1 bt685.2.2.2.2.2.1 bt685.2.2.2.2.2.2.1 bt701.1 bt703.1).bind fun bt725 => ((withholding_Year.f k bt685.1 bt685.2.1 bt685.2.2.1 bt685.2.2.2.1 bt685.2.2.2.2.1 bt685.2.2.2.2.2.1 bt685.2.2.2.2.2.2.1 bt701.1 (y715 ++ y718)).bind fun bt729 => (if bt725.2 = 0 then (if bt729.2 = 0 then (if (bt725.1.length : Int) = bt701.1 then (payrolllaw30_WithholdingSums.j0 k bt701.1 bt703.1 bt725.1 bt729.1 ((bt729.1.length : Int) != bt701.1) bt685.1 bt685.2.1 bt685.2.2.1 bt685.2.2.2.1 bt685.2.2.2.2.1 bt685.2.2.2.2.2.1 bt685.2.2.2.2.2.2.1) else (payrolllaw30_WithholdingSums.j0 k bt701.1 bt703.1 bt725.1 bt729.1 true bt685.1 bt685.2.1 bt685.2.2.1 bt685.2.2.2.1 bt685.2.2.2.2.1 bt685.2.2.2.2.2.1 bt685.2.2.2.2.2.2.1)) else (payrolllaw30_WithholdingSums.j0 k bt701.1 bt703.1 bt725.1 bt729.1 true bt685.1 bt685.2.1 bt685.2.2.1 bt685.2.2.2.1 bt685.2.2.2.2.1 bt685.2.2.2.2.2.1 bt685.2.2.2.2.2.2.1)) else (payrolllaw30_WithholdingSums.j0 k bt701.1 bt703.1 bt725.1 bt729.1 true bt685.1 bt685.2.1 bt685.2.2.1 bt685.2.2.2.1 bt685.2.2.2.2.1 bt685.2.2.2.2.2.1 bt685.2.2.2.2.2.2.1)))) else (none)))) else (none))) else (none)) else (none)))))))) = some r := h
 clear h
 replace H := Option.bind_eq_some_iff.mp H
 obtain ⟨⟨t682, t683⟩, A30, H⟩ := H
 try dsimp only at H
 have A3 := Aside0.mk A30
 clear A30
 replace H := Option.bind_eq_some_iff.mp H
 obtain ⟨⟨t685, t686, t689, t690, t691, t692, t693, t696⟩, A40, H⟩ := H
 try dsimp only at H
 have A4 := Aside0.mk A40
 clear A40
 obtain ⟨y698, hy698⟩ : ∃ y_ : List Int, y_ = (([12, 4, 1, 7] : List Int)) := ⟨_, rfl⟩
 replace H : ((paygen_Deck_Pick.f t682 t696 y698).bind fun bt701 => ((paygen_Deck_Bases.f k t682 bt701.2 bt701.1).bind fun bt703 => ((paygen_Mod.f a1 bt701.1).bind fun t707 => ((some (([] : List Int) : List Int)).bind fun y708 => (if 0 ≤ t707 then (if t707 ≤ (bt703.1.length : Int) then ((some (bt703.1.drop (t707 : Int).toNat : List Int)).bind fun y711 => (if y708.length + y711.length < 17592186044416 then ((some (y708 ++ y711 : List Int)).bind fun y715 => ((some (bt703.1.take (t707 : Int).toNat : List Int)).bind fun y718 => (if y715.length + y718.length < 17592186044416 then ((withholding_Year.f k t685 t686 t689 t690 t691 t692 t693 bt701.1 bt703.1).bind fun bt725 => ((withholding_Year.f k t685 t686 t689 t690 t691 t692 t693 bt701.1 (y715 ++ y718)).bind fun bt729 => (if bt725.2 = 0 then (if bt729.2 = 0 then (if (bt725.1.length : Int) = bt701.1 then (payrolllaw30_WithholdingSums.j0 k bt701.1 bt703.1 bt725.1 bt729.1 ((bt729.1.length : Int) != bt701.1) t685 t686 t689 t690 t691 t692 t693) else (payrolllaw30_WithholdingSums.j0 k bt701.1 bt703.1 bt725.1 bt729.1 true t685 t686 t689 t690 t691 t692 t693)) else (payrolllaw30_WithholdingSums.j0 k bt701.1 bt703.1 bt725.1 bt729.1 true t685 t686 t689 t690 t691 t692 t693)) else (payrolllaw30_WithholdingSums.j0 k bt701.1 bt703.1 bt725.1 bt729.1 true t685 t686 t689 t690 t691 t692 t693)))) else (none)))) else (none))) else (none)) else (none)))))) = some r := by first | (rw [hy698]; with_reducible exact H) | (have H2_ := (Option.bind_some _ _).symm.trans H; rw [hy698]; with_reducible exact H2_) | (have H2_ := (Option.bind_some _ _).symm.trans H; with_reducible exact H2_) | with_reducible exact H | (rw [hy698]; exact H) | exact H
 have Ny698 := Aside0.mk hy698
 clear hy698
 replace H := Option.bind_eq_some_iff.mp H
 obtain ⟨⟨t701, t702⟩, A50, H⟩ := H
 try dsimp only at H
 have A5 := Aside0.mk A50
 clear A50
 replace H := Option.bind_eq_some_iff.mp H
 obtain ⟨⟨t703, t706⟩, A60, H⟩ := H
 try dsimp only at H
 have A6 := Aside0.mk A60
 clear A60
 replace H := Option.bind_eq_some_iff.mp H
 obtain ⟨t707, A70, H⟩ := H
 try dsimp only at H
 have A7 := Aside0.mk A70
 clear A70
 obtain ⟨y708, hy708⟩ : ∃ y_ : List Int, y_ = (([] : List Int)) := ⟨_, rfl⟩
 replace H : (if 0 ≤ t707 then (if t707 ≤ (t703.length : Int) then ((some (t703.drop (t707 : Int).toNat : List Int)).bind fun y711 => (if y708.length + y711.length < 17592186044416 then ((some (y708 ++ y711 : List Int)).bind fun y715 => ((some (t703.take (t707 : Int).toNat : List Int)).bind fun y718 => (if y715.length + y718.length < 17592186044416 then ((withholding_Year.f k t685 t686 t689 t690 t691 t692 t693 t701 t703).bind fun bt725 => ((withholding_Year.f k t685 t686 t689 t690 t691 t692 t693 t701 (y715 ++ y718)).bind fun bt729 => (if bt725.2 = 0 then (if bt729.2 = 0 then (if (bt725.1.length : Int) = t701 then (payrolllaw30_WithholdingSums.j0 k t701 t703 bt725.1 bt729.1 ((bt729.1.length : Int) != t701) t685 t686 t689 t690 t691 t692 t693) else (payrolllaw30_WithholdingSums.j0 k t701 t703 bt725.1 bt729.1 true t685 t686 t689 t690 t691 t692 t693)) else (payrolllaw30_WithholdingSums.j0 k t701 t703 bt725.1 bt729.1 true t685 t686 t689 t690 t691 t692 t693)) else (payrolllaw30_WithholdingSums.j0 k t701 t703 bt725.1 bt729.1 true t685 t686 t689 t690 t691 t692 t693)))) else (none)))) else (none))) else (none)) else (none)) = some r := by first | (rw [hy708]; with_reducible exact H) | (have H2_ := (Option.bind_some _ _).symm.trans H; rw [hy708]; with_reducible exact H2_) | (have H2_ := (Option.bind_some _ _).symm.trans H; with_reducible exact H2_) | with_reducible exact H | (rw [hy708]; exact H) | exact H
 have Ny708 := Aside0.mk hy708
 clear hy708
 by_cases c8 : 0 ≤ t707
 rotate_left
 ·
  rw [if_neg c8] at H
  exact absurd H (by simp)
 rw [if_pos c8] at H
 have c8b0 := eq_true c8
 have c8b1 : decide (0 ≤ t707) = true := decide_eq_true c8
 clear c8
 by_cases c9 : t707 ≤ (t703.length : Int)
 rotate_left
 ·
  rw [if_neg c9] at H
  exact absurd H (by simp)
 rw [if_pos c9] at H
 have c9b0 := eq_true c9
 have c9b1 : decide (t707 ≤ (t703.length : Int)) = true := decide_eq_true c9
 clear c9
 obtain ⟨y711, hy711⟩ : ∃ y_ : List Int, y_ = (t703.drop (t707 : Int).toNat) := ⟨_, rfl⟩
 replace H : (if y708.length + y711.length < 17592186044416 then ((some (y708 ++ y711 : List Int)).bind fun y715 => ((some (t703.take (t707 : Int).toNat : List Int)).bind fun y718 => (if y715.length + y718.length < 17592186044416 then ((withholding_Year.f k t685 t686 t689 t690 t691 t692 t693 t701 t703).bind fun bt725 => ((withholding_Year.f k t685 t686 t689 t690 t691 t692 t693 t701 (y715 ++ y718)).bind fun bt729 => (if bt725.2 = 0 then (if bt729.2 = 0 then (if (bt725.1.length : Int) = t701 then (payrolllaw30_WithholdingSums.j0 k t701 t703 bt725.1 bt729.1 ((bt729.1.length : Int) != t701) t685 t686 t689 t690 t691 t692 t693) else (payrolllaw30_WithholdingSums.j0 k t701 t703 bt725.1 bt729.1 true t685 t686 t689 t690 t691 t692 t693)) else (payrolllaw30_WithholdingSums.j0 k t701 t703 bt725.1 bt729.1 true t685 t686 t689 t690 t691 t692 t693)) else (payrolllaw30_WithholdingSums.j0 k t701 t703 bt725.1 bt729.1 true t685 t686 t689 t690 t691 t692 t693)))) else (none)))) else (none)) = some r := by first | (rw [hy711]; with_reducible exact H) | (have H2_ := (Option.bind_some _ _).symm.trans H; rw [hy711]; with_reducible exact H2_) | (have H2_ := (Option.bind_some _ _).symm.trans H; with_reducible exact H2_) | with_reducible exact H | (rw [hy711]; exact H) | exact H
 have Ny711 := Aside0.mk hy711
 clear hy711
 by_cases c10 : y708.length + y711.length < 17592186044416
 rotate_left
 ·
  rw [if_neg c10] at H
  exact absurd H (by simp)
 rw [if_pos c10] at H
 have LMc10 := Aside0.mk c10
 clear c10
 obtain ⟨y715, hy715⟩ : ∃ y_ : List Int, y_ = (y708 ++ y711) := ⟨_, rfl⟩
 replace H : ((some (t703.take (t707 : Int).toNat : List Int)).bind fun y718 => (if y715.length + y718.length < 17592186044416 then ((withholding_Year.f k t685 t686 t689 t690 t691 t692 t693 t701 t703).bind fun bt725 => ((withholding_Year.f k t685 t686 t689 t690 t691 t692 t693 t701 (y715 ++ y718)).bind fun bt729 => (if bt725.2 = 0 then (if bt729.2 = 0 then (if (bt725.1.length : Int) = t701 then (payrolllaw30_WithholdingSums.j0 k t701 t703 bt725.1 bt729.1 ((bt729.1.length : Int) != t701) t685 t686 t689 t690 t691 t692 t693) else (payrolllaw30_WithholdingSums.j0 k t701 t703 bt725.1 bt729.1 true t685 t686 t689 t690 t691 t692 t693)) else (payrolllaw30_WithholdingSums.j0 k t701 t703 bt725.1 bt729.1 true t685 t686 t689 t690 t691 t692 t693)) else (payrolllaw30_WithholdingSums.j0 k t701 t703 bt725.1 bt729.1 true t685 t686 t689 t690 t691 t692 t693)))) else (none))) = some r := by first | (rw [hy715]; with_reducible exact H) | (have H2_ := (Option.bind_some _ _).symm.trans H; rw [hy715]; with_reducible exact H2_) | (have H2_ := (Option.bind_some _ _).symm.trans H; with_reducible exact H2_) | with_reducible exact H | (rw [hy715]; exact H) | exact H
 have Ny715 := Aside0.mk hy715
 clear hy715
 have c11b0 := eq_true (of_decide_eq_true q6 : 0 ≤ t707)
 have c12b0 := eq_true (of_decide_eq_true q6 : t707 ≤ (t703.length : Int))
 obtain ⟨y718, hy718⟩ : ∃ y_ : List Int, y_ = (t703.take (t707 : Int).toNat) := ⟨_, rfl⟩
 replace H : (if y715.length + y718.length < 17592186044416 then ((withholding_Year.f k t685 t686 t689 t690 t691 t692 t693 t701 t703).bind fun bt725 => ((withholding_Year.f k t685 t686 t689 t690 t691 t692 t693 t701 (y715 ++ y718)).bind fun bt729 => (if bt725.2 = 0 then (if bt729.2 = 0 then (if (bt725.1.length : Int) = t701 then (payrolllaw30_WithholdingSums.j0 k t701 t703 bt725.1 bt729.1 ((bt729.1.length : Int) != t701) t685 t686 t689 t690 t691 t692 t693) else (payrolllaw30_WithholdingSums.j0 k t701 t703 bt725.1 bt729.1 true t685 t686 t689 t690 t691 t692 t693)) else (payrolllaw30_WithholdingSums.j0 k t701 t703 bt725.1 bt729.1 true t685 t686 t689 t690 t691 t692 t693)) else (payrolllaw30_WithholdingSums.j0 k t701 t703 bt725.1 bt729.1 true t685 t686 t689 t690 t691 t692 t693)))) else (none)) = some r := by first | (rw [hy718]; with_reducible exact H) | (have H2_ := (Option.bind_some _ _).symm.trans H; rw [hy718]; with_reducible exact H2_) | (have H2_ := (Option.bind_some _ _).symm.trans H; with_reducible exact H2_) | with_reducible exact H | (rw [hy718]; exact H) | exact H
 have Ny718 := Aside0.mk hy718
 clear hy718
 by_cases c13 : y715.length + y718.length < 17592186044416
 rotate_left
 ·
  rw [if_neg c13] at H
  exact absurd H (by simp)
 rw [if_pos c13] at H
 have LMc13 := Aside0.mk c13
 clear c13
 obtain ⟨y722, hy722⟩ : ∃ y_ : List Int, y_ = (y715 ++ y718) := ⟨_, rfl⟩
 replace H : ((withholding_Year.f k t685 t686 t689 t690 t691 t692 t693 t701 t703).bind fun bt725 => ((withholding_Year.f k t685 t686 t689 t690 t691 t692 t693 t701 y722).bind fun bt729 => (if bt725.2 = 0 then (if bt729.2 = 0 then (if (bt725.1.length : Int) = t701 then (payrolllaw30_WithholdingSums.j0 k t701 t703 bt725.1 bt729.1 ((bt729.1.length : Int) != t701) t685 t686 t689 t690 t691 t692 t693) else (payrolllaw30_WithholdingSums.j0 k t701 t703 bt725.1 bt729.1 true t685 t686 t689 t690 t691 t692 t693)) else (payrolllaw30_WithholdingSums.j0 k t701 t703 bt725.1 bt729.1 true t685 t686 t689 t690 t691 t692 t693)) else (payrolllaw30_WithholdingSums.j0 k t701 t703 bt725.1 bt729.1 true t685 t686 t689 t690 t691 t692 t693)))) = some r := by first | (rw [hy722]; with_reducible exact H) | (have H2_ := (Option.bind_some _ _).symm.trans H; rw [hy722]; with_reducible exact H2_) | (have H2_ := (Option.bind_some _ _).symm.trans H; with_reducible exact H2_) | with_reducible exact H | (rw [hy722]; exact H) | exact H
 have Ny722 := Aside0.mk hy722
 clear hy722
 replace H := Option.bind_eq_some_iff.mp H
 obtain ⟨⟨t725, t728⟩, A140, H⟩ := H
 try dsimp only at H
 have A14 := Aside0.mk A140
 clear A140
 replace H := Option.bind_eq_some_iff.mp H
 obtain ⟨⟨t729, t732⟩, A150, H⟩ := H
 try dsimp only at H
 have A15 := Aside0.mk A150
 clear A150
 have HC16 := Aside0.mk H
 clear H
 go_enter Try.func7, Try.ntmps7
 try go_wp2_with (first | ((with_reducible refine gate_callee (f := 13) rfl ?_); refine goesL_ (some 22) rfl rfl Try.func13 (by kernel_rfl) rfl #[.slice A0 l0.length c0] rfl q1 ?_; (with_reducible refine (paygen_New.calls _ _ l0 t682 t683 w _ ?side1 ?side2 ?side3 A3.out).mono ?_); (case side1 => exact q0); (case side2 => exact HR0.out); (case side3 => exact HC0.out); rintro e w17 ⟨g684, rfl, hi, hb, hb2⟩; refine ⟨_, rfl, ?_⟩; have n0_ := Aside0.mk (hb); have n1_ := Aside0.mk (hi); clear HB; have HB := n0_; have HI684 := n1_; clear n0_ n1_; (try clear hb); (try clear hb2); (try clear hk); (try clear hi)) | ((with_reducible refine gate_callee (f := 14) rfl ?_); refine goesL_ (some 24) rfl rfl Try.func14 (by kernel_rfl) rfl #[.pointer (some ⟨g684, 0, none⟩), .int .i64 3] rfl q1 ?_; (with_reducible refine (paygen_Deck_Tariff.calls k g684 t682 t683 3 t685 t686 t689 t690 t691 t692 t693 t696 w _ ?side1 ?side2 A4.out).mono ?_); (case side1 => exact (by repeat (first | (with_reducible first | exact HI684.out | apply IsS63.alloc | apply IsS63.drewN | apply IsS63.drew | apply IsS63.set_1) | exact HI684.out))); (case side2 => exact q126); rintro e w18 ⟨v687, v694, rfl, ho0, ho1, hi, hb, hk⟩; refine ⟨_, rfl, ?_⟩; have n0_ := Aside0.mk (Kd.R_lower ho0 (below_size q126)); have n1_ := Aside0.mk (Kd.R_lower ho1 (below_size q126)); have n2_ := Aside0.mk (hb); have n3_ := Aside0.mk (hi); clear HB; clear HI684; have HO688 := n0_; have HO695 := n1_; have HB := n2_; have HI684 := n3_; clear n0_ n1_ n2_ n3_; (try clear hb); (try clear hb2); (try clear hk); (try clear hi); (try clear ho0); (try clear ho1)) | ((with_reducible refine gate_dst (N := 6) rfl ?_); (try (refine gate_guard (by rfl) ?_; dsimp only)); refine box_event ?hg (N := 6) ?hd (cs := #[.int .i64 0, .slice none 0 0, .int .i64 0, .int .i64 0, .int .i64 0, .int .i64 0, .slice none 0 0]) (t := 33) ?hr ?_; (case hd => rfl); (case hg => rfl); (case hr => first | (go_simp; done) | (go_simp; rfl)); intro gb697 hg w19 hbox hb; have n0_ := Aside0.mk (Kd.R_below q96 hb); have n1_ := Aside0.mk (Kd.R_below q97 hb); have n2_ := Aside0.mk (IsS63.below (by repeat (first | (with_reducible first | exact HI684.out | apply IsS63.alloc | apply IsS63.drewN | apply IsS63.drew | apply IsS63.set_1) | exact HI684.out)) hb); have n3_ := Aside0.mk (below_step q126 hb); have n4_ := Aside0.mk (hbox); have n5_ := Aside0.mk ((by rw [hg]; exact (below_size q126) : w.heap.size ≤ gb697)); have n6_ := Aside0.mk ((by rw [hg]; exact (below_size q126) : w.heap.size ≤ gb697)); have n7_ := Aside0.mk ((by rw [hg]; exact Nat.ne_of_lt (IsS63.lt (show IsS63 w _ g684 t682 t696 from (by repeat (first | (with_reducible first | exact HI684.out | apply IsS63.alloc | apply IsS63.drewN | apply IsS63.drew | apply IsS63.set_1) | exact HI684.out)))) : g684 ≠ gb697)); have n8_ := Aside0.mk ((by rw [hg]; exact Nat.ne_of_gt (IsS63.lt (show IsS63 w _ g684 t682 t696 from (by repeat (first | (with_reducible first | exact HI684.out | apply IsS63.alloc | apply IsS63.drewN | apply IsS63.drew | apply IsS63.set_1) | exact HI684.out)))) : gb697 ≠ g684)); clear HO688; clear HO695; clear HI684; clear HB; have HO688 := n0_; have HO695 := n1_; have HI684 := n2_; have HB := n3_; have BK697 := n4_; have GW697 := n5_; have GE697 := n6_; have NB684_697 := n7_; have NB697_684 := n8_; clear n0_ n1_ n2_ n3_ n4_ n5_ n6_ n7_ n8_; clear hb hbox hg; have hnb20 := NB697_684.out; have hnc20 := NB684_697.out; have hcz21_0 : w19.cell? ⟨gb697, 0, none⟩ = some (.int .i64 0) := (blk_cell BK697.out 0).trans rfl; have hcz21_1 : w19.cell? ⟨gb697, 1, none⟩ = some (.slice none 0 0) := (blk_cell BK697.out 1).trans rfl; have hcz21_2 : w19.cell? ⟨gb697, 2, none⟩ = some (.int .i64 0) := (blk_cell BK697.out 2).trans rfl; have hcz21_3 : w19.cell? ⟨gb697, 3, none⟩ = some (.int .i64 0) := (blk_cell BK697.out 3).trans rfl; have hcz21_4 : w19.cell? ⟨gb697, 4, none⟩ = some (.int .i64 0) := (blk_cell BK697.out 4).trans rfl; have hcz21_5 : w19.cell? ⟨gb697, 5, none⟩ = some (.int .i64 0) := (blk_cell BK697.out 5).trans rfl; have hcz21_6 : w19.cell? ⟨gb697, 6, none⟩ = some (.slice none 0 0) := (blk_cell BK697.out 6).trans rfl; have hfz21_0 := blk_frozen BK697.out 0; have hfz21_1 := blk_frozen BK697.out 1; have hfz21_2 := blk_frozen BK697.out 2; have hfz21_3 := blk_frozen BK697.out 3; have hfz21_4 := blk_frozen BK697.out 4; have hfz21_5 := blk_frozen BK697.out 5; have hfz21_6 := blk_frozen BK697.out 6; obtain ⟨Ao22, co22, eo22⟩ := Kd.R_slice HO688.out; subst eo22; obtain ⟨Ao23, co23, eo23⟩ := Kd.R_slice HO695.out; subst eo23) | ((with_reducible refine gate_dst (N := 26) rfl ?_); (try (refine gate_guard (by rfl) ?_; dsimp only)); refine Kd.R_lit (Kd.int .i64) _ 3 ?hg (N := 26) ?hd (xs := ([12, 4, 1, 7] : List Int)) (inner := [.int .i64 12, .int .i64 4, .int .i64 1, .int .i64 7]) (ok := fun _ => True) (okp := fun _ => True) ?hr ?hp (fun _ hk => hk) trivial (Below.refl _ _) (Nat.le_refl _) (by simp) ?_; (case hd => rfl); (case hg => rfl); (case hr => first | (go_simp; done) | (go_simp; rfl)); (case hp => exact (Reps.one (show Kd.M (Kd.int .i64) _ _ _ 12 [.int .i64 12] from rfl) (Reps.one (show Kd.M (Kd.int .i64) _ _ _ 4 [.int .i64 4] from rfl) (Reps.one (show Kd.M (Kd.int .i64) _ _ _ 1 [.int .i64 1] from rfl) (Reps.one (show Kd.M (Kd.int .i64) _ _ _ 7 [.int .i64 7] from rfl) (Reps.none _ _)))))); intro v699 w24 ho25 hb hg_ hnew_; clear hg_ hnew_; (first | rw [← Ny698.out] at ho25 | (simp only [Int.reduceToNat] at ho25; rw [← Ny698.out] at ho25)); have n0_ := Aside0.mk (Kd.R_below (by (with_reducible repeat (first | apply Kd.R_alloc | apply Kd.R_drewN | apply Kd.R_drew)); exact (Kd.R_mono (Kd.R_far (p := ⟨gb697, 6, none⟩) (Kd.R_far (p := ⟨gb697, 5, none⟩) (Kd.R_far (p := ⟨gb697, 4, none⟩) (Kd.R_far (p := ⟨gb697, 3, none⟩) (Kd.R_far (p := ⟨gb697, 2, none⟩) (Kd.R_far (p := ⟨gb697, 1, none⟩) (Kd.R_far (p := ⟨gb697, 0, none⟩) (Kd.R_types HO688.out BK697.out (by decide)) (fun _ hk => hk.2) (.int .i64 t685)) (fun _ hk => hk.2) (.slice Ao22 t686.length co22)) (fun _ hk => hk.2) (.int .i64 t689)) (fun _ hk => hk.2) (.int .i64 t690)) (fun _ hk => hk.2) (.int .i64 t691)) (fun _ hk => hk.2) (.int .i64 t692)) (fun _ hk => hk.2) (.slice Ao23 t693.length co23)) (fun _ h_ => h_.1))) hb); have n1_ := Aside0.mk (Kd.R_below (by (with_reducible repeat (first | apply Kd.R_alloc | apply Kd.R_drewN | apply Kd.R_drew)); exact (Kd.R_mono (Kd.R_far (p := ⟨gb697, 6, none⟩) (Kd.R_far (p := ⟨gb697, 5, none⟩) (Kd.R_far (p := ⟨gb697, 4, none⟩) (Kd.R_far (p := ⟨gb697, 3, none⟩) (Kd.R_far (p := ⟨gb697, 2, none⟩) (Kd.R_far (p := ⟨gb697, 1, none⟩) (Kd.R_far (p := ⟨gb697, 0, none⟩) (Kd.R_types HO695.out BK697.out (by decide)) (fun _ hk => hk.2) (.int .i64 t685)) (fun _ hk => hk.2) (.slice Ao22 t686.length co22)) (fun _ hk => hk.2) (.int .i64 t689)) (fun _ hk => hk.2) (.int .i64 t690)) (fun _ hk => hk.2) (.int .i64 t691)) (fun _ hk => hk.2) (.int .i64 t692)) (fun _ hk => hk.2) (.slice Ao23 t693.length co23)) (fun _ h_ => h_.1))) hb); have n2_ := Aside0.mk (Kd.R_lower ho25 (below_size q39)); have n3_ := Aside0.mk (IsS63.below (show IsS63 w (((((((w19.setCell ⟨gb697, 0, none⟩ (.int .i64 t685)).setCell ⟨gb697, 1, none⟩ (.slice Ao22 t686.length co22)).setCell ⟨gb697, 2, none⟩ (.int .i64 t689)).setCell ⟨gb697, 3, none⟩ (.int .i64 t690)).setCell ⟨gb697, 4, none⟩ (.int .i64 t691)).setCell ⟨gb697, 5, none⟩ (.int .i64 t692)).setCell ⟨gb697, 6, none⟩ (.slice Ao23 t693.length co23)) g684 t682 t696 from q52) hb); have n4_ := Aside0.mk (blk_below (g := gb697) (o := .cells #[.int .i64 t685, .slice Ao22 t686.length co22, .int .i64 t689, .int .i64 t690, .int .i64 t691, .int .i64 t692, .slice Ao23 t693.length co23] 33 (0, 0)) (by (with_reducible repeat (first | refine blk_drewN ?_ _ | refine blk_drew ?_ | refine blk_alloc ?_ _)); refine blk_put (cs := #[.int .i64 t685, .slice Ao22 t686.length co22, .int .i64 t689, .int .i64 t690, .int .i64 t691, .int .i64 t692, .slice none 0 0]) ?_ 6 _ rfl; (with_reducible repeat (first | refine blk_drewN ?_ _ | refine blk_drew ?_ | refine blk_alloc ?_ _)); refine blk_put (cs := #[.int .i64 t685, .slice Ao22 t686.length co22, .int .i64 t689, .int .i64 t690, .int .i64 t691, .int .i64 0, .slice none 0 0]) ?_ 5 _ rfl; (with_reducible repeat (first | refine blk_drewN ?_ _ | refine blk_drew ?_ | refine blk_alloc ?_ _)); refine blk_put (cs := #[.int .i64 t685, .slice Ao22 t686.length co22, .int .i64 t689, .int .i64 t690, .int .i64 0, .int .i64 0, .slice none 0 0]) ?_ 4 _ rfl; (with_reducible repeat (first | refine blk_drewN ?_ _ | refine blk_drew ?_ | refine blk_alloc ?_ _)); refine blk_put (cs := #[.int .i64 t685, .slice Ao22 t686.length co22, .int .i64 t689, .int .i64 0, .int .i64 0, .int .i64 0, .slice none 0 0]) ?_ 3 _ rfl; (with_reducible repeat (first | refine blk_drewN ?_ _ | refine blk_drew ?_ | refine blk_alloc ?_ _)); refine blk_put (cs := #[.int .i64 t685, .slice Ao22 t686.length co22, .int .i64 0, .int .i64 0, .int .i64 0, .int .i64 0, .slice none 0 0]) ?_ 2 _ rfl; (with_reducible repeat (first | refine blk_drewN ?_ _ | refine blk_drew ?_ | refine blk_alloc ?_ _)); refine blk_put (cs := #[.int .i64 t685, .slice none 0 0, .int .i64 0, .int .i64 0, .int .i64 0, .int .i64 0, .slice none 0 0]) ?_ 1 _ rfl; (with_reducible repeat (first | refine blk_drewN ?_ _ | refine blk_drew ?_ | refine blk_alloc ?_ _)); refine blk_put (cs := #[.int .i64 0, .slice none 0 0, .int .i64 0, .int .i64 0, .int .i64 0, .int .i64 0, .slice none 0 0]) ?_ 0 _ rfl; (with_reducible repeat (first | refine blk_drewN ?_ _ | refine blk_drew ?_ | refine blk_alloc ?_ _)); exact BK697.out) hb); have n5_ := Aside0.mk (below_step q39 hb); clear HO688; clear HO695; clear HI684; clear BK697; clear HB; have HO688 := n0_; have HO695 := n1_; have HO700 := n2_; have HI684 := n3_; have BK697 := n4_; have HB := n5_; clear n0_ n1_ n2_ n3_ n4_ n5_; clear hb ho25; obtain ⟨Ao26, co26, eo26⟩ := Kd.R_slice HO700.out; subst eo26) | ((with_reducible refine gate_callee (f := 15) rfl ?_); refine goesL_ (some 27) rfl rfl Try.func15 (by kernel_rfl) rfl #[.pointer (some ⟨g684, 0, none⟩), .slice Ao26 y698.length co26] rfl q1 ?_; (with_reducible refine (paygen_Deck_Pick.calls g684 t682 t696 _ _ y698 t701 t702 w _ ?side1 ?side2 ?side3 ?side4 ?side5 A5.out).mono ?_); (case side1 => exact q52); (case side2 => exact q39); (case side3 => exact (by repeat (first | exact (Kd.R_reads' HO700.out).2.2 | (with_reducible refine Kd.C_alloc ?_ _) | (with_reducible refine Kd.C_drewN ?_ _) | (with_reducible refine Kd.C_drew ?_)))); (case side4 => exact (Kd.R_reads' HO700.out).2.1); (case side5 => exact far_slice (IsS63.own_ne HI684.out HO700.out (by decide))); rintro e w27 ⟨rfl, hi, hb, hk⟩; refine ⟨_, rfl, ?_⟩; have n0_ := Aside0.mk (Kd.R_mono (Kd.R_keep (IsS63.apart (show IsS63 w _ g684 t682 t696 from q52) q96 (by decide)) hk (fun _ h => h.2)) (fun _ h => h.1)); have n1_ := Aside0.mk (Kd.R_mono (Kd.R_keep (IsS63.apart (show IsS63 w _ g684 t682 t696 from q52) q97 (by decide)) hk (fun _ h => h.2)) (fun _ h => h.1)); have n2_ := Aside0.mk (KeepBut.blk hk (g' := gb697) (o := .cells #[.int .i64 t685, .slice Ao22 t686.length co22, .int .i64 t689, .int .i64 t690, .int .i64 t691, .int .i64 t692, .slice Ao23 t693.length co23] 33 (0, 0)) q73 NB697_684.out (by simp)); have n3_ := Aside0.mk (Kd.R_mono (Kd.R_keep (IsS63.apart (show IsS63 w _ g684 t682 t696 from q52) q102 (by decide)) hk (fun _ h => h.2)) (fun _ h => h.1)); have n4_ := Aside0.mk (hb); have n5_ := Aside0.mk (hi); clear HO688; clear HO695; clear BK697; clear HO700; clear HB; clear HI684; have HO688 := n0_; have HO695 := n1_; have BK697 := n2_; have HO700 := n3_; have HB := n4_; have HI684 := n5_; clear n0_ n1_ n2_ n3_ n4_ n5_; (try clear hb); (try clear hb2); (try clear hk); (try clear hi)) | ((with_reducible refine gate_callee (f := 30) rfl ?_); refine goesL_ (some 30) rfl rfl Try.func30 (by kernel_rfl) rfl #[.pointer (some ⟨g684, 0, none⟩), .int .i64 t701] rfl q1 ?_; (with_reducible refine (paygen_Deck_Bases.calls k g684 t682 t702 t701 t703 t706 w _ ?side1 ?side2 A6.out).mono ?_); (case side1 => exact q52); (case side2 => exact q39); rintro e w28 ⟨v704, rfl, ho0, hi, hb, hk⟩; refine ⟨_, rfl, ?_⟩; have n0_ := Aside0.mk (Kd.R_mono (Kd.R_keep (IsS63.apart (show IsS63 w _ g684 t682 t702 from q52) q96 (by decide)) hk (fun _ h => h.2)) (fun _ h => h.1)); have n1_ := Aside0.mk (Kd.R_mono (Kd.R_keep (IsS63.apart (show IsS63 w _ g684 t682 t702 from q52) q97 (by decide)) hk (fun _ h => h.2)) (fun _ h => h.1)); have n2_ := Aside0.mk (KeepBut.blk hk (g' := gb697) (o := .cells #[.int .i64 t685, .slice Ao22 t686.length co22, .int .i64 t689, .int .i64 t690, .int .i64 t691, .int .i64 t692, .slice Ao23 t693.length co23] 33 (0, 0)) q73 NB697_684.out (by simp)); have n3_ := Aside0.mk (Kd.R_mono (Kd.R_told (Kd.R_oldK (IsS63.apart (show IsS63 w _ g684 t682 t702 from q52) q102 (by decide)) hk) (Kd.R_base ho0)) (fun _ h_ => h_.1)); have n4_ := Aside0.mk (Kd.R_lower (Kd.R_new' ho0 (Kd.R_lt q102)) (below_size q39)); have n5_ := Aside0.mk (hb); have n6_ := Aside0.mk (hi); clear HO688; clear HO695; clear BK697; clear HO700; clear HB; clear HI684; have HO688 := n0_; have HO695 := n1_; have BK697 := n2_; have HO700 := n3_; have HO705 := n4_; have HB := n5_; have HI684 := n6_; clear n0_ n1_ n2_ n3_ n4_ n5_ n6_; (try clear hb); (try clear hb2); (try clear hk); (try clear hi); (try clear ho0)) | ((with_reducible refine gate_callee (f := 34) rfl ?_); refine goesL_ (some 33) rfl rfl Try.func34 (by kernel_rfl) rfl #[.int .i64 a1, .int .i64 t701] rfl q1 ?_; (with_reducible refine (paygen_Mod.calls a1 t701 t707 _ A7.out).mono ?_); rintro e w' ⟨rfl, ⟨nd, rfl⟩⟩; refine ⟨_, rfl, ?_⟩))
 (try (rw [drewN_self w28]; generalize hq_ : World.drewN w28 _ = w28; have n0_ : Aside0 (Kd.R k58 58 w28 w.heap.size (fun _ => True) (.slice Ao22 t686.length co22) t686) := ⟨by rw [← hq_]; exact q96⟩; have n1_ : Aside0 (Kd.R k80 80 w28 w.heap.size (fun _ => True) (.slice Ao23 t693.length co23) t693) := ⟨by rw [← hq_]; exact q97⟩; have n2_ : Aside0 (Kd.R (Kd.int .i64) 3 w28 w.heap.size (fun k_ => some k_ ≠ (v704 : Value).ownBlock) (.slice Ao26 y698.length co26) y698) := ⟨by rw [← hq_]; exact (by (with_reducible repeat (first | apply Kd.R_alloc | apply Kd.R_drewN | apply Kd.R_drew)); exact Kd.R_mono HO700.out (fun _ hk => hk.2))⟩; have n3_ : Aside0 (Kd.R (Kd.int .i64) 3 w28 w.heap.size (fun k_ => some k_ ≠ (.slice Ao26 y698.length co26 : Value).ownBlock) v704 t703) := ⟨by rw [← hq_]; exact (by (with_reducible repeat (first | apply Kd.R_alloc | apply Kd.R_drewN | apply Kd.R_drew)); exact Kd.R_mono HO705.out (fun _ hk => hk.2))⟩; have n4_ : Aside0 (w28.heap[gb697]? = some (.cells #[.int .i64 t685, .slice Ao22 t686.length co22, .int .i64 t689, .int .i64 t690, .int .i64 t691, .int .i64 t692, .slice Ao23 t693.length co23] 33 (0, 0))) := ⟨by rw [← hq_]; exact q73⟩; have n5_ : Aside0 (IsS63 w w28 g684 t682 t706) := ⟨by rw [← hq_]; exact q52⟩; have n6_ : Aside0 (Below w.heap.size w w28) := ⟨by rw [← hq_]; exact q39⟩; clear HO688 HO695 HO700 HO705 BK697 HI684 HB hq_; have HO688 := n0_; have HO695 := n1_; have HO700 := n2_; have HO705 := n3_; have BK697 := n4_; have HI684 := n5_; have HB := n6_; clear n0_ n1_ n2_ n3_ n4_ n5_ n6_))
 have n0_ := Aside0.mk (Kd.R_drew HO688.out)
 have n1_ := Aside0.mk (Kd.R_drew HO695.out)
 have n2_ := Aside0.mk (Kd.R_drew HO700.out)
 have n3_ := Aside0.mk (Kd.R_drew HO705.out)
 have n4_ := Aside0.mk (blk_drew BK697.out)
 have n5_ := Aside0.mk (IsS63.drew HI684.out)
 have n6_ := Aside0.mk (below_drew1 HB.out)
 clear HO688
 clear HO695
 clear HO700
 clear HO705
 clear BK697
 clear HI684
 clear HB
 have HO688 := n0_
 have HO695 := n1_
 have HO700 := n2_
 have HO705 := n3_
 have BK697 := n4_
 have HI684 := n5_
 have HB := n6_
 clear n0_ n1_ n2_ n3_ n4_ n5_ n6_
 obtain ⟨Ao31, co31, eo31⟩ := Kd.R_slice HO705.out
 (first | subst eo31 | (injection eo31 with f1_ f2_ f3_; have f4_ := f1_.symm; have f5_ := f3_.symm; clear f1_ f2_ f3_; subst f4_; subst f5_))
 have q30 : (t707 : Int) ≤ ((t703.length : Int) : Int) := of_decide_eq_true q6
 obtain ⟨i030, hi030, _, hsz30, _⟩ := info_parts info3
 have hroom30 : t703.length ≤ co31 := (Kd.R_reads' HO705.out).2.1
 have hC30 : Kd.C (Kd.int .i64) _ Ao31 t703.length t703 := (Kd.R_reads' HO705.out).2.2
 have q030 : (0 : Int) ≤ (t707 : Int) := of_decide_eq_true q6
 have hcut30 := cut_from (P := Try.prog) 22 3 .i64 Try.underlying22 hi030 1 hsz30 Ao31 t703.length co31 t707 q030 q30
 have hr30 := Kd.C_drop (m := (t707 : Int).toNat) (c := co31) hC30 (by omega) hroom30
 obtain ⟨A30, hA30⟩ : ∃ A1, A1 = (if co31 = (t707 : Int).toNat then Ao31 else (Ao31 : Option Addr).map (·.add ((t707 : Int).toNat * 1))) := ⟨_, rfl⟩
 obtain ⟨c30, hc30⟩ : ∃ c1, c1 = co31 - (t707 : Int).toNat := ⟨_, rfl⟩
 have hy30 : y711.length = t703.length - (t707 : Int).toNat := (by rw [Ny711.out, List.length_drop] <;> omega)
 rw [show (t703).drop (t707 : Int).toNat = y711 from Ny711.out.symm] at hr30
 replace hr30 : Kd.C (Kd.int .i64) _ A30 y711.length y711 := (by rw [hA30]; exact hr30)
 rw [← hy30, ← hA30, ← hc30] at hcut30
 have HR714 := Aside0.mk hr30
 have HC714 := Aside0.mk (show y711.length ≤ c30 from by rw [hy30, hc30]; exact Nat.sub_le_sub_right hroom30 _)
 clear hr30 hC30 hroom30 hi030 hsz30 hc30
 have KY30 := Aside0.mk hy30
 have KA30 := Aside0.mk hA30
 clear hy30 hA30
 have KL30 := Aside0.mk (show (t707 : Int).toNat ≤ t703.length from by omega)
 replace q30 := eq_true q30
 have q32 : (t707 : Int) ≤ ((t703.length : Int) : Int) := of_decide_eq_true q6
 obtain ⟨i032, hi032, _, hsz32, _⟩ := info_parts info3
 have hroom32 : t703.length ≤ co31 := (Kd.R_reads' HO705.out).2.1
 have hC32 : Kd.C (Kd.int .i64) _ Ao31 t703.length t703 := (Kd.R_reads' HO705.out).2.2
 have hcut32 := cut_to (P := Try.prog) 22 3 .i64 Try.underlying22 hi032 Ao31 t703.length co31 t707 (of_decide_eq_true q6) q32 hroom32
 have hr32 := Kd.C_take (m := (t707 : Int).toNat) hC32 (by omega)
 have hy32 : y718.length = (t707 : Int).toNat := (by rw [Ny718.out, List.length_take]; omega)
 rw [← Ny718.out] at hr32
 rw [← hy32] at hcut32
 have HR721 := Aside0.mk hr32
 have HC721 := Aside0.mk (show y718.length ≤ co31 from by omega)
 clear hr32 hC32 hroom32 hi032 hsz32
 have KY32 := Aside0.mk hy32
 clear hy32
 have KL32 := Aside0.mk (show (t707 : Int).toNat ≤ t703.length from by omega)
 replace q32 := eq_true q32
 refine start_ (n := 10) (S := fun w' => True) (ds := []) #[false, false, false, false, false, false, false, false, false, false] (by kernel_rfl) rfl rfl trivial (fun hHeld => ?_); refine with_tabW payrolllaw30_WithholdingSums.tab6 payrolllaw30_WithholdingSums.bits6 (fun HT_ HW_ => ?_)
 generalize w28.drew = w29 at HO688 HO695 HO700 HO705 BK697 HI684 HB HR714 HR721 hHeld ⊢
 refine pv_ (i := 1) (N := some 35) #[false, true, false, false, false, false, false, false, false, false] (h := ?_)
 refine pv_ (i := 2) (N := some 36) #[false, true, true, false, false, false, false, false, false, false] (h := ?_)
 refine pv_ (i := 3) (N := some 37) #[false, true, true, true, false, false, false, false, false, false] (h := ?_)
 refine pv_ (i := 5) (N := some 39) #[false, true, true, true, false, true, false, false, false, false] (h := ?_)
 refine pv_ (i := 6) (N := some 40) #[false, true, true, true, false, true, true, false, false, false] (h := ?_)
 refine pv_ (i := 7) (N := some 41) #[false, true, true, true, false, true, true, true, false, false] (h := ?_)
 refine one_ (i := 0) (N := some 34) #[true, true, true, true, false, true, true, true, false, false] rfl rfl (one_of HT_.out (by kernel_rfl)) (by decide) (fun K hK => ?_)
 refine Kd.R_lit_step (Kd.int .i64) _ 3 ?hg (N := 34) ?hd (xs := ([] : List Int)) (inner := []) (ok := fun _ => True) (okp := fun _ => True) ?hr ?hp (fun _ hk => hk) trivial (Below.refl _ _) (Nat.le_refl _) (by simp) ?_; (case hd => rfl); (case hg => rfl); (case hr => first | (go_simp; done) | (go_simp; rfl)); (case hp => exact (Reps.none _ _))
 intro v709 w33 ho34 hb hg_ hnew_
 clear hg_ hnew_
 (first | rw [← Ny708.out] at ho34 | (simp only [Int.reduceToNat] at ho34; rw [← Ny708.out] at ho34))
 have n0_ := Aside0.mk (Kd.R_below q96 hb)
 have n1_ := Aside0.mk (Kd.R_below q97 hb)
 have n2_ := Aside0.mk (Kd.R_elder' q102 (Kd.R_base ho34) hb)
 have n3_ := Aside0.mk (Kd.R_elder' q103 (Kd.R_base ho34) hb)
 have n4_ := Aside0.mk (Kd.R_lower (Kd.R_new' (Kd.R_new' ho34 (Kd.R_lt q102)) (Kd.R_lt q103)) (below_size q39))
 have n5_ := Aside0.mk (IsS63.below q52 hb)
 have n6_ := Aside0.mk (blk_below (g := gb697) (o := .cells #[.int .i64 t685, .slice Ao22 t686.length co22, .int .i64 t689, .int .i64 t690, .int .i64 t691, .int .i64 t692, .slice Ao23 t693.length co23] 33 (0, 0)) q73 hb)
 have n7_ := Aside0.mk (Kd.C_below q64 hb)
 have n8_ := Aside0.mk (Kd.C_below q65 hb)
 have n9_ := Aside0.mk (below_step q39 hb)
 clear HO688
 clear HO695
 clear HO700
 clear HO705
 clear HI684
 clear BK697
 clear HR714
 clear HR721
 clear HB
 have HO688 := n0_
 have HO695 := n1_
 have HO700 := n2_
 have HO705 := n3_
 have HO710 := n4_
 have HI684 := n5_
 have BK697 := n6_
 have HR714 := n7_
 have HR721 := n8_
 have HB := n9_
 clear n0_ n1_ n2_ n3_ n4_ n5_ n6_ n7_ n8_ n9_
 clear hb ho34
 refine hK.out _ _ trivial (fun hHeld => ?_)
 clear hK K
 refine norm_ (a' := ?_) ?_ ?_
 rotate_left
 ·
  show Act.put _ (some 34) _ = _
  simp only [Act.put, List.setIfInBounds_toArray, List.set_cons_zero, List.set_cons_succ, i64_w, i32_w]
  rfl
 refine one_ (i := 4) (N := some 38) #[true, true, true, true, true, true, true, true, false, false] rfl rfl (one_of HT_.out (by kernel_rfl)) (by decide) (fun K hK => ?_)
 refine Kd.R_append_rows_step (Kd.int .i64) (w0 := w) w.heap.size (by rfl) (.tmp 34) (.tmp 37) 22 3 (.int .i64 0) 8 rfl Try.underlying22 info3 rfl (by decide) (by omega) v709 y708 y711 _ _ _ (fun k_ => some k_ ≠ (.slice Ao26 y698.length co26 : Value).ownBlock ∧ some k_ ≠ (.slice Ao31 t703.length co31 : Value).ownBlock) (fun _ => False) rfl rfl ?aO ?aR (fun _ _ h => h) (fun _ h => h.elim) ?aF ?aB ?aS ?aL ?_
 (case aR => repeat (first | exact q64 | (with_reducible refine Kd.C_alloc ?_ _) | (with_reducible refine Kd.C_drewN ?_ _) | (with_reducible refine Kd.C_drew ?_)))
 (case aB => exact q39)
 (case aF => exact (fun k_ hk => ⟨Kd.fresh' (Kd.R_lt q102) k_ hk, Kd.fresh' (Kd.R_lt q103) k_ hk⟩))
 (case aO => exact (by (with_reducible repeat (first | apply Kd.R_alloc | apply Kd.R_drewN | apply Kd.R_drew)); exact Kd.R_mono HO710.out (fun _ hk => by first | exact ⟨hk.1.2, hk.2⟩ | exact hk | exact ⟨hk.1, hk.2⟩ | exact hk.1 | exact hk.2 | exact trivial)))
 (case aS => exact (below_size q39))
 (case aL => have := LMc10.out; omega)
 intro v716 w35 ho hb hg hat
 rw [← Ny715.out] at ho
 have n0_ := Aside0.mk (IsS63.grown q52 hg (IsS63.own_ne HI684.out HO710.out (by decide)))
 have n1_ := Aside0.mk (Kd.R_over' q96 (Kd.R_typed (by (with_reducible repeat (first | apply Kd.R_alloc | apply Kd.R_drewN | apply Kd.R_drew)); exact HO710.out)) (by decide) hg)
 have n2_ := Aside0.mk (Kd.R_over' q97 (Kd.R_typed (by (with_reducible repeat (first | apply Kd.R_alloc | apply Kd.R_drewN | apply Kd.R_drew)); exact HO710.out)) (by decide) hg)
 have n3_ := Aside0.mk (blk_grown (g := gb697) (o := .cells #[.int .i64 t685, .slice Ao22 t686.length co22, .int .i64 t689, .int .i64 t690, .int .i64 t691, .int .i64 t692, .slice Ao23 t693.length co23] 33 (0, 0)) q73 hg (Kd.R_ne HO710.out BK697.out (by decide)))
 have n4_ := Aside0.mk (Kd.R_after (ok := (fun k_ => some k_ ≠ (.slice Ao31 t703.length co31 : Value).ownBlock)) (by (with_reducible repeat (first | apply Kd.R_alloc | apply Kd.R_drewN | apply Kd.R_drew)); exact Kd.R_mono HO700.out (fun _ hk => by first | exact ⟨hk.1.2, hk.2⟩ | exact hk | exact ⟨hk.1, hk.2⟩ | exact hk.1 | exact hk.2 | exact trivial)) hg hat)
 have n5_ := Aside0.mk (Kd.R_after (ok := (fun k_ => some k_ ≠ (.slice Ao26 y698.length co26 : Value).ownBlock)) (by (with_reducible repeat (first | apply Kd.R_alloc | apply Kd.R_drewN | apply Kd.R_drew)); exact Kd.R_mono HO705.out (fun _ hk => by first | exact ⟨hk.1.2, hk.2⟩ | exact hk | exact ⟨hk.1, hk.2⟩ | exact hk.1 | exact hk.2 | exact trivial)) hg hat)
 have n6_ := Aside0.mk (hb)
 have n7_ := Aside0.mk ((show Kd.C (Kd.int .i64) w35 A30 y711.length y711 from by rw [Ny711.out, KA30.out]; exact Kd.C_drop (m := (t707 : Int).toNat) (c := co31) ((Kd.R_reads' (Kd.R_after (ok := (fun k_ => some k_ ≠ (.slice Ao26 y698.length co26 : Value).ownBlock)) (by (with_reducible repeat (first | apply Kd.R_alloc | apply Kd.R_drewN | apply Kd.R_drew)); exact Kd.R_mono HO705.out (fun _ hk => by first | exact ⟨hk.1.2, hk.2⟩ | exact hk | exact ⟨hk.1, hk.2⟩ | exact hk.1 | exact hk.2 | exact trivial)) hg hat)).2.2) KL30.out ((Kd.R_reads' (Kd.R_after (ok := (fun k_ => some k_ ≠ (.slice Ao26 y698.length co26 : Value).ownBlock)) (by (with_reducible repeat (first | apply Kd.R_alloc | apply Kd.R_drewN | apply Kd.R_drew)); exact Kd.R_mono HO705.out (fun _ hk => by first | exact ⟨hk.1.2, hk.2⟩ | exact hk | exact ⟨hk.1, hk.2⟩ | exact hk.1 | exact hk.2 | exact trivial)) hg hat)).2.1)))
 have n8_ := Aside0.mk ((show Kd.C (Kd.int .i64) w35 Ao31 y718.length y718 from by rw [Ny718.out]; exact Kd.C_take (m := (t707 : Int).toNat) ((Kd.R_reads' (Kd.R_after (ok := (fun k_ => some k_ ≠ (.slice Ao26 y698.length co26 : Value).ownBlock)) (by (with_reducible repeat (first | apply Kd.R_alloc | apply Kd.R_drewN | apply Kd.R_drew)); exact Kd.R_mono HO705.out (fun _ hk => by first | exact ⟨hk.1.2, hk.2⟩ | exact hk | exact ⟨hk.1, hk.2⟩ | exact hk.1 | exact hk.2 | exact trivial)) hg hat)).2.2) KL32.out))
 have n9_ := Aside0.mk (ho)
 clear HI684
 clear HO688
 clear HO695
 clear BK697
 clear HO700
 clear HO705
 clear HB
 clear HR714
 clear HR721
 clear HO710
 have HI684 := n0_
 have HO688 := n1_
 have HO695 := n2_
 have BK697 := n3_
 have HO700 := n4_
 have HO705 := n5_
 have HB := n6_
 have HR714 := n7_
 have HR721 := n8_
 have HO717 := n9_
 clear n0_ n1_ n2_ n3_ n4_ n5_ n6_ n7_ n8_ n9_
 clear ho hb hg hat
 refine hK.out _ _ trivial (fun hHeld => ?_)
 clear hK K
 refine norm_ (a' := ?_) ?_ ?_
 rotate_left
 ·
  show Act.put _ (some 38) _ = _
  simp only [Act.put, List.setIfInBounds_toArray, List.set_cons_zero, List.set_cons_succ, i64_w, i32_w]
  rfl
 refine one_ (i := 8) (N := some 42) #[true, true, true, true, true, true, true, true, true, false] rfl rfl (one_of HT_.out (by kernel_rfl)) (by decide) (fun K hK => ?_)
 refine Kd.R_append_rows_step (Kd.int .i64) (w0 := w) w.heap.size (by rfl) (.tmp 38) (.tmp 41) 22 3 (.int .i64 0) 8 rfl Try.underlying22 info3 rfl (by decide) (by omega) v716 y715 y718 _ _ _ (fun k_ => some k_ ≠ (.slice Ao26 y698.length co26 : Value).ownBlock ∧ some k_ ≠ (.slice Ao31 t703.length co31 : Value).ownBlock) (fun _ => False) rfl rfl ?aO ?aR (fun _ _ h => h) (fun _ h => h.elim) ?aF ?aB ?aS ?aL ?_
 (case aR => repeat (first | exact q65 | (with_reducible refine Kd.C_alloc ?_ _) | (with_reducible refine Kd.C_drewN ?_ _) | (with_reducible refine Kd.C_drew ?_)))
 (case aB => exact q39)
 (case aF => exact (fun k_ hk => ⟨Kd.fresh' (Kd.R_lt q102) k_ hk, Kd.fresh' (Kd.R_lt q103) k_ hk⟩))
 (case aO => exact (by (with_reducible repeat (first | apply Kd.R_alloc | apply Kd.R_drewN | apply Kd.R_drew)); exact HO717.out))
 (case aS => exact (below_size q39))
 (case aL => have := LMc13.out; omega)
 intro v723 w36 ho hb hg hat
 rw [← Ny722.out] at ho
 have n0_ := Aside0.mk (IsS63.grown q52 hg (IsS63.own_ne HI684.out HO717.out (by decide)))
 have n1_ := Aside0.mk (Kd.R_over' q96 (Kd.R_typed (by (with_reducible repeat (first | apply Kd.R_alloc | apply Kd.R_drewN | apply Kd.R_drew)); exact HO717.out)) (by decide) hg)
 have n2_ := Aside0.mk (Kd.R_over' q97 (Kd.R_typed (by (with_reducible repeat (first | apply Kd.R_alloc | apply Kd.R_drewN | apply Kd.R_drew)); exact HO717.out)) (by decide) hg)
 have n3_ := Aside0.mk (blk_grown (g := gb697) (o := .cells #[.int .i64 t685, .slice Ao22 t686.length co22, .int .i64 t689, .int .i64 t690, .int .i64 t691, .int .i64 t692, .slice Ao23 t693.length co23] 33 (0, 0)) q73 hg (Kd.R_ne HO717.out BK697.out (by decide)))
 have n4_ := Aside0.mk (Kd.R_after (ok := (fun k_ => some k_ ≠ (.slice Ao31 t703.length co31 : Value).ownBlock)) q102 hg hat)
 have n5_ := Aside0.mk (Kd.R_after (ok := (fun k_ => some k_ ≠ (.slice Ao26 y698.length co26 : Value).ownBlock)) q103 hg hat)
 have n6_ := Aside0.mk (hb)
 have n7_ := Aside0.mk ((show Kd.C (Kd.int .i64) w36 A30 y711.length y711 from by rw [Ny711.out, KA30.out]; exact Kd.C_drop (m := (t707 : Int).toNat) (c := co31) ((Kd.R_reads' (Kd.R_after (ok := (fun k_ => some k_ ≠ (.slice Ao26 y698.length co26 : Value).ownBlock)) q103 hg hat)).2.2) KL30.out ((Kd.R_reads' (Kd.R_after (ok := (fun k_ => some k_ ≠ (.slice Ao26 y698.length co26 : Value).ownBlock)) q103 hg hat)).2.1)))
 have n8_ := Aside0.mk ((show Kd.C (Kd.int .i64) w36 Ao31 y718.length y718 from by rw [Ny718.out]; exact Kd.C_take (m := (t707 : Int).toNat) ((Kd.R_reads' (Kd.R_after (ok := (fun k_ => some k_ ≠ (.slice Ao26 y698.length co26 : Value).ownBlock)) q103 hg hat)).2.2) KL32.out))
 have n9_ := Aside0.mk (ho)
 clear HI684
 clear HO688
 clear HO695
 clear BK697
 clear HO700
 clear HO705
 clear HB
 clear HR714
 clear HR721
 clear HO717
 have HI684 := n0_
 have HO688 := n1_
 have HO695 := n2_
 have BK697 := n3_
 have HO700 := n4_
 have HO705 := n5_
 have HB := n6_
 have HR714 := n7_
 have HR721 := n8_
 have HO724 := n9_
 clear n0_ n1_ n2_ n3_ n4_ n5_ n6_ n7_ n8_ n9_
 clear ho hb hg hat
 refine hK.out _ _ trivial (fun hHeld => ?_)
 clear hK K
 refine norm_ (a' := ?_) ?_ ?_
 rotate_left
 ·
  show Act.put _ (some 42) _ = _
  simp only [Act.put, List.setIfInBounds_toArray, List.set_cons_zero, List.set_cons_succ, i64_w, i32_w]
  rfl
 refine pv_ (i := 9) (N := some 10) #[true, true, true, true, true, true, true, true, true, true] (h := ?_)
 refine done_ (done_of HT_.out (by kernel_rfl)) ?_
 have hcz37_0 : w36.cell? ⟨gb697, 0, none⟩ = some (.int .i64 t685) := (blk_cell BK697.out 0).trans rfl
 have hcz37_1 : w36.cell? ⟨gb697, 1, none⟩ = some (.slice Ao22 t686.length co22) := (blk_cell BK697.out 1).trans rfl
 have hcz37_2 : w36.cell? ⟨gb697, 2, none⟩ = some (.int .i64 t689) := (blk_cell BK697.out 2).trans rfl
 have hcz37_3 : w36.cell? ⟨gb697, 3, none⟩ = some (.int .i64 t690) := (blk_cell BK697.out 3).trans rfl
 have hcz37_4 : w36.cell? ⟨gb697, 4, none⟩ = some (.int .i64 t691) := (blk_cell BK697.out 4).trans rfl
 have hcz37_5 : w36.cell? ⟨gb697, 5, none⟩ = some (.int .i64 t692) := (blk_cell BK697.out 5).trans rfl
 have hcz37_6 : w36.cell? ⟨gb697, 6, none⟩ = some (.slice Ao23 t693.length co23) := (blk_cell BK697.out 6).trans rfl
 have hfz37_0 := blk_frozen BK697.out 0
 have hfz37_1 := blk_frozen BK697.out 1
 have hfz37_2 := blk_frozen BK697.out 2
 have hfz37_3 := blk_frozen BK697.out 3
 have hfz37_4 := blk_frozen BK697.out 4
 have hfz37_5 := blk_frozen BK697.out 5
 have hfz37_6 := blk_frozen BK697.out 6
 go_upto_region 9 with (first | ((with_reducible refine gate_callee (f := 31) rfl ?_); refine goesL_ (some 47) rfl rfl Try.func31 (by kernel_rfl) rfl #[.agg #[.int .i64 t685, .slice Ao22 t686.length co22, .int .i64 t689, .int .i64 t690, .int .i64 t691, .int .i64 t692, .slice Ao23 t693.length co23], .int .i64 t701, .slice Ao31 t703.length co31] rfl q1 ?_; (with_reducible refine (withholding_Year.calls k t685 _ _ t686 t689 t690 t691 t692 _ _ t693 t701 _ _ t703 t725 t728 _ ?side1 ?side2 ?side3 ?side4 ?side5 ?side6 A14.out).mono ?_); (case side1 => exact (by repeat (first | exact (Kd.R_reads' HO688.out).2.2 | (with_reducible refine Kd.C_alloc ?_ _) | (with_reducible refine Kd.C_drewN ?_ _) | (with_reducible refine Kd.C_drew ?_)))); (case side2 => exact (Kd.R_reads' HO688.out).2.1); (case side3 => exact (by repeat (first | exact (Kd.R_reads' HO695.out).2.2 | (with_reducible refine Kd.C_alloc ?_ _) | (with_reducible refine Kd.C_drewN ?_ _) | (with_reducible refine Kd.C_drew ?_)))); (case side4 => exact (Kd.R_reads' HO695.out).2.1); (case side5 => exact (by repeat (first | exact (Kd.R_reads' HO705.out).2.2 | (with_reducible refine Kd.C_alloc ?_ _) | (with_reducible refine Kd.C_drewN ?_ _) | (with_reducible refine Kd.C_drew ?_)))); (case side6 => exact (Kd.R_reads' HO705.out).2.1); rintro e w38 ⟨v726, rfl, ho0, hb⟩; refine ⟨_, rfl, ?_⟩; have n0_ := Aside0.mk (Kd.R_below q96 hb); have n1_ := Aside0.mk (Kd.R_below q97 hb); have n2_ := Aside0.mk (Kd.R_elder' q102 (Kd.R_base ho0) hb); have n3_ := Aside0.mk (Kd.R_elder' q103 (Kd.R_base ho0) hb); have n4_ := Aside0.mk (Kd.R_elder' (by (with_reducible repeat (first | apply Kd.R_alloc | apply Kd.R_drewN | apply Kd.R_drew)); exact HO724.out) (Kd.R_base ho0) hb); have n5_ := Aside0.mk (Kd.R_lower (Kd.R_new' (Kd.R_new' (Kd.R_new' ho0 (Kd.R_lt q102)) (Kd.R_lt q103)) (Kd.R_lt (by (with_reducible repeat (first | apply Kd.R_alloc | apply Kd.R_drewN | apply Kd.R_drew)); exact HO724.out))) (below_size q39)); have n6_ := Aside0.mk (IsS63.below q52 hb); have n7_ := Aside0.mk (blk_below (g := gb697) (o := .cells #[.int .i64 t685, .slice Ao22 t686.length co22, .int .i64 t689, .int .i64 t690, .int .i64 t691, .int .i64 t692, .slice Ao23 t693.length co23] 33 (0, 0)) q73 hb); have n8_ := Aside0.mk (Kd.C_below q64 hb); have n9_ := Aside0.mk (Kd.C_below q65 hb); have n10_ := Aside0.mk (below_step q39 hb); clear HO688; clear HO695; clear HO700; clear HO705; clear HO724; clear HI684; clear BK697; clear HR714; clear HR721; clear HB; have HO688 := n0_; have HO695 := n1_; have HO700 := n2_; have HO705 := n3_; have HO724 := n4_; have HO727 := n5_; have HI684 := n6_; have BK697 := n7_; have HR714 := n8_; have HR721 := n9_; have HB := n10_; clear n0_ n1_ n2_ n3_ n4_ n5_ n6_ n7_ n8_ n9_ n10_; (try clear hb); (try clear hb2); (try clear hk); (try clear hi); (try clear ho0); have hcz39_0 : w38.cell? ⟨gb697, 0, none⟩ = some (.int .i64 t685) := (blk_cell BK697.out 0).trans rfl; have hcz39_1 : w38.cell? ⟨gb697, 1, none⟩ = some (.slice Ao22 t686.length co22) := (blk_cell BK697.out 1).trans rfl; have hcz39_2 : w38.cell? ⟨gb697, 2, none⟩ = some (.int .i64 t689) := (blk_cell BK697.out 2).trans rfl; have hcz39_3 : w38.cell? ⟨gb697, 3, none⟩ = some (.int .i64 t690) := (blk_cell BK697.out 3).trans rfl; have hcz39_4 : w38.cell? ⟨gb697, 4, none⟩ = some (.int .i64 t691) := (blk_cell BK697.out 4).trans rfl; have hcz39_5 : w38.cell? ⟨gb697, 5, none⟩ = some (.int .i64 t692) := (blk_cell BK697.out 5).trans rfl; have hcz39_6 : w38.cell? ⟨gb697, 6, none⟩ = some (.slice Ao23 t693.length co23) := (blk_cell BK697.out 6).trans rfl; have hfz39_0 := blk_frozen BK697.out 0; have hfz39_1 := blk_frozen BK697.out 1; have hfz39_2 := blk_frozen BK697.out 2; have hfz39_3 := blk_frozen BK697.out 3; have hfz39_4 := blk_frozen BK697.out 4; have hfz39_5 := blk_frozen BK697.out 5; have hfz39_6 := blk_frozen BK697.out 6; obtain ⟨Ao40, co40, eo40⟩ := Kd.R_slice HO724.out; subst eo40) | ((with_reducible refine gate_callee (f := 31) rfl ?_); refine goesL_ (some 54) rfl rfl Try.func31 (by kernel_rfl) rfl #[.agg #[.int .i64 t685, .slice Ao22 t686.length co22, .int .i64 t689, .int .i64 t690, .int .i64 t691, .int .i64 t692, .slice Ao23 t693.length co23], .int .i64 t701, .slice Ao40 y722.length co40] rfl q1 ?_; (with_reducible refine (withholding_Year.calls k t685 _ _ t686 t689 t690 t691 t692 _ _ t693 t701 _ _ y722 t729 t732 _ ?side1 ?side2 ?side3 ?side4 ?side5 ?side6 A15.out).mono ?_); (case side1 => exact (by repeat (first | exact (Kd.R_reads' HO688.out).2.2 | (with_reducible refine Kd.C_alloc ?_ _) | (with_reducible refine Kd.C_drewN ?_ _) | (with_reducible refine Kd.C_drew ?_)))); (case side2 => exact (Kd.R_reads' HO688.out).2.1); (case side3 => exact (by repeat (first | exact (Kd.R_reads' HO695.out).2.2 | (with_reducible refine Kd.C_alloc ?_ _) | (with_reducible refine Kd.C_drewN ?_ _) | (with_reducible refine Kd.C_drew ?_)))); (case side4 => exact (Kd.R_reads' HO695.out).2.1); (case side5 => exact (by repeat (first | exact (Kd.R_reads' HO724.out).2.2 | (with_reducible refine Kd.C_alloc ?_ _) | (with_reducible refine Kd.C_drewN ?_ _) | (with_reducible refine Kd.C_drew ?_)))); (case side6 => exact (Kd.R_reads' HO724.out).2.1); rintro e w41 ⟨v730, rfl, ho0, hb⟩; refine ⟨_, rfl, ?_⟩; have n0_ := Aside0.mk (Kd.R_below q96 hb); have n1_ := Aside0.mk (Kd.R_below q97 hb); have n2_ := Aside0.mk (Kd.R_elder' q102 (Kd.R_base ho0) hb); have n3_ := Aside0.mk (Kd.R_elder' q103 (Kd.R_base ho0) hb); have n4_ := Aside0.mk (Kd.R_elder' (by (with_reducible repeat (first | apply Kd.R_alloc | apply Kd.R_drewN | apply Kd.R_drew)); exact HO724.out) (Kd.R_base ho0) hb); have n5_ := Aside0.mk (Kd.R_elder' (by (with_reducible repeat (first | apply Kd.R_alloc | apply Kd.R_drewN | apply Kd.R_drew)); exact HO727.out) (Kd.R_base ho0) hb); have n6_ := Aside0.mk (Kd.R_lower (Kd.R_new' (Kd.R_new' (Kd.R_new' (Kd.R_new' ho0 (Kd.R_lt q102)) (Kd.R_lt q103)) (Kd.R_lt (by (with_reducible repeat (first | apply Kd.R_alloc | apply Kd.R_drewN | apply Kd.R_drew)); exact HO724.out))) (Kd.R_lt (by (with_reducible repeat (first | apply Kd.R_alloc | apply Kd.R_drewN | apply Kd.R_drew)); exact HO727.out))) (below_size q39)); have n7_ := Aside0.mk (IsS63.below q52 hb); have n8_ := Aside0.mk (blk_below (g := gb697) (o := .cells #[.int .i64 t685, .slice Ao22 t686.length co22, .int .i64 t689, .int .i64 t690, .int .i64 t691, .int .i64 t692, .slice Ao23 t693.length co23] 33 (0, 0)) q73 hb); have n9_ := Aside0.mk (Kd.C_below q64 hb); have n10_ := Aside0.mk (Kd.C_below q65 hb); have n11_ := Aside0.mk (below_step q39 hb); clear HO688; clear HO695; clear HO700; clear HO705; clear HO724; clear HO727; clear HI684; clear BK697; clear HR714; clear HR721; clear HB; have HO688 := n0_; have HO695 := n1_; have HO700 := n2_; have HO705 := n3_; have HO724 := n4_; have HO727 := n5_; have HO731 := n6_; have HI684 := n7_; have BK697 := n8_; have HR714 := n9_; have HR721 := n10_; have HB := n11_; clear n0_ n1_ n2_ n3_ n4_ n5_ n6_ n7_ n8_ n9_ n10_ n11_; (try clear hb); (try clear hb2); (try clear hk); (try clear hi); (try clear ho0)))
 (try simp only [Act.put, List.setIfInBounds_toArray, List.set_cons_zero, List.set_cons_succ])
 go_cut [74] (fun v74 wc => ∃ (kq : Nat) (x74_15 : Bool), v74 = .bool x74_15 ∧ Aside0 (payrolllaw30_WithholdingSums.j0 kq t701 t703 t725 t729 x74_15 t685 t686 t689 t690 t691 t692 t693 = some r) ∧ Aside0 (kq ≤ k) ∧ Aside0 (Kd.R (Kd.int .i64) 3 wc w.heap.size (fun k_ => some k_ ≠ (v726 : Value).ownBlock ∧ some k_ ≠ (v730 : Value).ownBlock) (.slice Ao31 t703.length co31) t703) ∧ Aside0 (Kd.R (Kd.int .i64) 3 wc w.heap.size (fun k_ => some k_ ≠ ((.slice Ao31 t703.length co31) : Value).ownBlock ∧ some k_ ≠ (v730 : Value).ownBlock) v726 t725) ∧ Aside0 (Kd.R (Kd.int .i64) 3 wc w.heap.size (fun k_ => some k_ ≠ ((.slice Ao31 t703.length co31) : Value).ownBlock ∧ some k_ ≠ (v726 : Value).ownBlock) v730 t729) ∧ Aside0 (Kd.R k58 58 wc w.heap.size (fun _ => True) (.slice Ao22 t686.length co22) t686) ∧ Aside0 (Kd.R k80 80 wc w.heap.size (fun _ => True) (.slice Ao23 t693.length co23) t693) ∧ Aside0 (wc.heap[gb697]? = some (.cells #[.int .i64 t685, (.slice Ao22 t686.length co22), .int .i64 t689, .int .i64 t690, .int .i64 t691, .int .i64 t692, (.slice Ao23 t693.length co23)] 33 (0, 0))) ∧ Aside0 (Kd.C (Kd.int .i64) wc A30 y711.length y711) ∧ Aside0 (Kd.C (Kd.int .i64) wc Ao31 y718.length y718) ∧ Aside0 (Below w.heap.size w wc))
 case first =>
  have H := HC16.out
  clear HC16
  by_cases c42 : t728 = 0
  rotate_left
  ·
   rw [if_neg c42] at H
   have c42b0 : (t728 == 0) = false := beq_eq_false_iff_ne.mpr c42
   have c42b1 : (t728 != 0) = true := bne_iff_ne.mpr c42
   (first | rw [c42b0] | (simp only [i64_w, i32_w]; rw [c42b0]) | skip)
   have H' := Aside0.mk H
   clear H
   go_wp2
   go_meet
   case rel => exact ⟨_, (true), q26, H', ⟨by first | omega | exact Nat.le_refl _⟩, ⟨by (with_reducible repeat (first | apply Kd.R_alloc | apply Kd.R_drewN | apply Kd.R_drew)); exact Kd.R_mono HO705.out (fun _ hk => by first | exact ⟨hk.1.2, hk.2⟩ | exact hk | exact ⟨hk.1, hk.2⟩ | exact hk.1 | exact hk.2 | exact trivial)⟩, ⟨by (with_reducible repeat (first | apply Kd.R_alloc | apply Kd.R_drewN | apply Kd.R_drew)); exact Kd.R_mono HO727.out (fun _ hk => ⟨hk.1.1.2, hk.2⟩)⟩, ⟨by (with_reducible repeat (first | apply Kd.R_alloc | apply Kd.R_drewN | apply Kd.R_drew)); exact Kd.R_mono HO731.out (fun _ hk => ⟨hk.1.1.2, hk.2⟩)⟩, ⟨q96⟩, ⟨q97⟩, ⟨q73⟩, ⟨q64⟩, ⟨q65⟩, ⟨q39⟩⟩
  rw [if_pos c42] at H
  have c42b0 : (t728 == 0) = true := beq_iff_eq.mpr c42
  have c42b1 : (t728 != 0) = false := bne_eq_false_iff_eq.mpr c42
  clear c42
  (first | rw [c42b0] | (simp only [i64_w, i32_w]; rw [c42b0]) | skip)
  by_cases c43 : t732 = 0
  rotate_left
  ·
   rw [if_neg c43] at H
   have c43b0 : (t732 == 0) = false := beq_eq_false_iff_ne.mpr c43
   have c43b1 : (t732 != 0) = true := bne_iff_ne.mpr c43
   have H' := Aside0.mk H
   clear H
   go_wp2
   go_meet
   case rel => exact ⟨_, (true), q26, H', ⟨by first | omega | exact Nat.le_refl _⟩, ⟨by (with_reducible repeat (first | apply Kd.R_alloc | apply Kd.R_drewN | apply Kd.R_drew)); exact Kd.R_mono HO705.out (fun _ hk => by first | exact ⟨hk.1.2, hk.2⟩ | exact hk | exact ⟨hk.1, hk.2⟩ | exact hk.1 | exact hk.2 | exact trivial)⟩, ⟨by (with_reducible repeat (first | apply Kd.R_alloc | apply Kd.R_drewN | apply Kd.R_drew)); exact Kd.R_mono HO727.out (fun _ hk => ⟨hk.1.1.2, hk.2⟩)⟩, ⟨by (with_reducible repeat (first | apply Kd.R_alloc | apply Kd.R_drewN | apply Kd.R_drew)); exact Kd.R_mono HO731.out (fun _ hk => ⟨hk.1.1.2, hk.2⟩)⟩, ⟨q96⟩, ⟨q97⟩, ⟨q73⟩, ⟨q64⟩, ⟨q65⟩, ⟨q39⟩⟩
  rw [if_pos c43] at H
  have c43b0 : (t732 == 0) = true := beq_iff_eq.mpr c43
  have c43b1 : (t732 != 0) = false := bne_eq_false_iff_eq.mpr c43
  clear c43
  by_cases c44 : (t725.length : Int) = t701
  rotate_left
  ·
   rw [if_neg c44] at H
   have c44b0 : ((t725.length : Int) == t701) = false := beq_eq_false_iff_ne.mpr c44
   have c44b1 : ((t725.length : Int) != t701) = true := bne_iff_ne.mpr c44
   have H' := Aside0.mk H
   clear H
   obtain ⟨Ao47, co47, eo47⟩ := Kd.R_slice HO727.out
   subst eo47
   go_wp2
   go_meet
   case rel => exact ⟨_, (true), q26, H', ⟨by first | omega | exact Nat.le_refl _⟩, ⟨by (with_reducible repeat (first | apply Kd.R_alloc | apply Kd.R_drewN | apply Kd.R_drew)); exact Kd.R_mono HO705.out (fun _ hk => by first | exact ⟨hk.1.2, hk.2⟩ | exact hk | exact ⟨hk.1, hk.2⟩ | exact hk.1 | exact hk.2 | exact trivial)⟩, ⟨by (with_reducible repeat (first | apply Kd.R_alloc | apply Kd.R_drewN | apply Kd.R_drew)); exact Kd.R_mono HO727.out (fun _ hk => ⟨hk.1.1.2, hk.2⟩)⟩, ⟨by (with_reducible repeat (first | apply Kd.R_alloc | apply Kd.R_drewN | apply Kd.R_drew)); exact Kd.R_mono HO731.out (fun _ hk => ⟨hk.1.1.2, hk.2⟩)⟩, ⟨q96⟩, ⟨q97⟩, ⟨q73⟩, ⟨q64⟩, ⟨q65⟩, ⟨q39⟩⟩
  rw [if_pos c44] at H
  have c44b0 : ((t725.length : Int) == t701) = true := beq_iff_eq.mpr c44
  have c44b1 : ((t725.length : Int) != t701) = false := bne_eq_false_iff_eq.mpr c44
  clear c44
  have H' := Aside0.mk H
  clear H
  obtain ⟨Ao45, co45, eo45⟩ := Kd.R_slice HO727.out
  subst eo45
  obtain ⟨Ao46, co46, eo46⟩ := Kd.R_slice HO731.out
  subst eo46
  go_wp2
  go_meet
  case rel => exact ⟨_, (((t729.length : Int) != t701)), q26, H', ⟨by first | omega | exact Nat.le_refl _⟩, ⟨by (with_reducible repeat (first | apply Kd.R_alloc | apply Kd.R_drewN | apply Kd.R_drew)); exact Kd.R_mono HO705.out (fun _ hk => by first | exact ⟨hk.1.2, hk.2⟩ | exact hk | exact ⟨hk.1, hk.2⟩ | exact hk.1 | exact hk.2 | exact trivial)⟩, ⟨by (with_reducible repeat (first | apply Kd.R_alloc | apply Kd.R_drewN | apply Kd.R_drew)); exact Kd.R_mono HO727.out (fun _ hk => ⟨hk.1.1.2, hk.2⟩)⟩, ⟨by (with_reducible repeat (first | apply Kd.R_alloc | apply Kd.R_drewN | apply Kd.R_drew)); exact Kd.R_mono HO731.out (fun _ hk => ⟨hk.1.1.2, hk.2⟩)⟩, ⟨q96⟩, ⟨q97⟩, ⟨q73⟩, ⟨q64⟩, ⟨q65⟩, ⟨q39⟩⟩
 case rest =>
  clear HC16
  try clear c1
  try clear c2
  try clear p2
  try clear c3
  try clear q3
  try clear c4
  try clear c7
  try clear c8
  try clear c8b0
  try clear c8b1
  try clear c9
  try clear c9b0
  try clear c9b1
  try clear c10
  try clear c11
  try clear c11b0
  try clear c12
  try clear c12b0
  try clear c13
  try clear c14
  try clear c15
  try clear c20
  try clear c30
  try clear q30
  try clear c31
  try clear q32
  try clear c34
  try clear c42
  try clear c42b0
  try clear c42b1
  try clear c43
  try clear c43b0
  try clear c43b1
  try clear c44
  try clear c44b0
  try clear c44b1
  try clear hcz21_0
  try clear hcz21_1
  try clear hcz21_2
  try clear hcz21_3
  try clear hcz21_4
  try clear hcz21_5
  try clear hcz21_6
  try clear hcz37_0
  try clear hcz37_1
  try clear hcz37_2
  try clear hcz37_3
  try clear hcz37_4
  try clear hcz37_5
  try clear hcz37_6
  try clear hcz39_0
  try clear hcz39_1
  try clear hcz39_2
  try clear hcz39_3
  try clear hcz39_4
  try clear hcz39_5
  try clear hcz39_6
  try clear hfz21_0
  try clear hfz21_1
  try clear hfz21_2
  try clear hfz21_3
  try clear hfz21_4
  try clear hfz21_5
  try clear hfz21_6
  try clear hfz37_0
  try clear hfz37_1
  try clear hfz37_2
  try clear hfz37_3
  try clear hfz37_4
  try clear hfz37_5
  try clear hfz37_6
  try clear hfz39_0
  try clear hfz39_1
  try clear hfz39_2
  try clear hfz39_3
  try clear hfz39_4
  try clear hfz39_5
  try clear hfz39_6
  try clear q030
  try clear q30
  try clear q32
  obtain ⟨kq, x74_15, rfl, HA, HJ15, HO_8, HO_11, HO_13, HO_698001, HO_698006, BK697, HR714, HR721, HB⟩ := hcut
  cases kq with
  | zero => exact absurd HA.out (by simp [payrolllaw30_WithholdingSums.j0])
  | succ kj15 =>
   have H := HA.out
   clear HA
   simp only [payrolllaw30_WithholdingSums.j0] at H
   by_cases c48 : x74_15 = true
   ·
    subst c48
    have H1 : (some false) = some r := by rw [if_pos rfl] at H; exact H
    clear H
    have H := H1
    clear H1
    obtain rfl := Option.some.inj H
    go_wp2
    go_ret
    exact ⟨by first | rfl | (simp [errW_none, errW_some] <;> rfl) | (simp [*, errW_none, errW_some] <;> rfl), q130⟩
   replace c48 := Bool.eq_false_iff.mpr c48
   subst c48
   have H1 : (payrolllaw30_WithholdingSums.l0 kj15 t701 t703 t725 t729 0 0 0 0 t685 t686 t689 t690 t691 t692 t693) = some r := by rw [if_neg (show ¬ (false = true) by decide)] at H; exact H
   clear H
   have H := H1
   clear H1
   have H' := Aside0.mk H
   clear H
   go_wp2
   go_loopg [15, 16, 17, 18] kj15 (fun kq v15 v16 v17 v18 w' => ∃ (x15_2 : Int) (x16_2 : Int) (x17_2 : Int) (x18_2 : Int), v15 = .int .i64 x15_2 ∧ v16 = .int .i64 x16_2 ∧ v17 = .int .i64 x17_2 ∧ v18 = .int .i64 x18_2 ∧ Aside0 (payrolllaw30_WithholdingSums.l0 kq t701 t703 t725 t729 x15_2 x16_2 x17_2 x18_2 t685 t686 t689 t690 t691 t692 t693 = some r) ∧ Aside0 (kq ≤ kj15) ∧ Aside0 (Kd.R (Kd.int .i64) 3 w' w.heap.size (fun k_ => some k_ ≠ (v726 : Value).ownBlock ∧ some k_ ≠ (v730 : Value).ownBlock) (.slice Ao31 t703.length co31) t703) ∧ Aside0 (Kd.R (Kd.int .i64) 3 w' w.heap.size (fun k_ => some k_ ≠ ((.slice Ao31 t703.length co31) : Value).ownBlock ∧ some k_ ≠ (v730 : Value).ownBlock) v726 t725) ∧ Aside0 (Kd.R (Kd.int .i64) 3 w' w.heap.size (fun k_ => some k_ ≠ ((.slice Ao31 t703.length co31) : Value).ownBlock ∧ some k_ ≠ (v726 : Value).ownBlock) v730 t729) ∧ Aside0 (Kd.R k58 58 w' w.heap.size (fun _ => True) (.slice Ao22 t686.length co22) t686) ∧ Aside0 (Kd.R k80 80 w' w.heap.size (fun _ => True) (.slice Ao23 t693.length co23) t693) ∧ Aside0 (w'.heap[gb697]? = some (.cells #[.int .i64 t685, (.slice Ao22 t686.length co22), .int .i64 t689, .int .i64 t690, .int .i64 t691, .int .i64 t692, (.slice Ao23 t693.length co23)] 33 (0, 0))) ∧ Aside0 (Kd.C (Kd.int .i64) w' A30 y711.length y711) ∧ Aside0 (Kd.C (Kd.int .i64) w' Ao31 y718.length y718) ∧ Aside0 (Below w.heap.size w w'))
   case atStart => exact ⟨(0), (0), (0), (0), q26, q26, q26, q26, H', ⟨Nat.le_refl _⟩, ⟨q94⟩, ⟨q129⟩, ⟨(by (with_reducible repeat (first | apply Kd.R_alloc | apply Kd.R_drewN | apply Kd.R_drew)); exact HO_13.out)⟩, ⟨(by (with_reducible repeat (first | apply Kd.R_alloc | apply Kd.R_drewN | apply Kd.R_drew)); exact HO_698001.out)⟩, ⟨(by (with_reducible repeat (first | apply Kd.R_alloc | apply Kd.R_drewN | apply Kd.R_drew)); exact HO_698006.out)⟩, ⟨q73⟩, ⟨q64⟩, ⟨q65⟩, ⟨q130⟩⟩
   case round =>
    clear H'
    try clear c1
    try clear c2
    try clear p2
    try clear c3
    try clear q3
    try clear c4
    try clear c7
    try clear c8
    try clear c8b0
    try clear c8b1
    try clear c9
    try clear c9b0
    try clear c9b1
    try clear c10
    try clear c11
    try clear c11b0
    try clear c12
    try clear c12b0
    try clear c13
    try clear c14
    try clear c15
    try clear c20
    try clear c30
    try clear q30
    try clear c31
    try clear q32
    try clear c34
    try clear c42
    try clear c42b0
    try clear c42b1
    try clear c43
    try clear c43b0
    try clear c43b1
    try clear c44
    try clear c44b0
    try clear c44b1
    try clear c48
    try clear hcz21_0
    try clear hcz21_1
    try clear hcz21_2
    try clear hcz21_3
    try clear hcz21_4
    try clear hcz21_5
    try clear hcz21_6
    try clear hcz37_0
    try clear hcz37_1
    try clear hcz37_2
    try clear hcz37_3
    try clear hcz37_4
    try clear hcz37_5
    try clear hcz37_6
    try clear hcz39_0
    try clear hcz39_1
    try clear hcz39_2
    try clear hcz39_3
    try clear hcz39_4
    try clear hcz39_5
    try clear hcz39_6
    try clear hfz21_0
    try clear hfz21_1
    try clear hfz21_2
    try clear hfz21_3
    try clear hfz21_4
    try clear hfz21_5
    try clear hfz21_6
    try clear hfz37_0
    try clear hfz37_1
    try clear hfz37_2
    try clear hfz37_3
    try clear hfz37_4
    try clear hfz37_5
    try clear hfz37_6
    try clear hfz39_0
    try clear hfz39_1
    try clear hfz39_2
    try clear hfz39_3
    try clear hfz39_4
    try clear hfz39_5
    try clear hfz39_6
    try clear p2
    try clear q030
    try clear q3
    try clear q30
    try clear q32
    obtain ⟨x15_2, x16_2, x17_2, x18_2, rfl, rfl, rfl, rfl, HA, HK2, HO_8, HO_11, HO_13, HO_698001, HO_698006, BK697, HR714, HR721, HB⟩ := hrel
    cases gk with
    | zero => exact absurd HA.out (by simp [payrolllaw30_WithholdingSums.l0])
    | succ k2 =>
     have H := HA.out
     clear HA
     simp only [payrolllaw30_WithholdingSums.l0] at H
     by_cases c49 : x18_2 < t701
     rotate_left
     ·
      rw [if_neg c49] at H
      have c49b0 : decide (x18_2 < t701) = false := decide_eq_false c49
      clear c49
      replace H := Option.bind_eq_some_iff.mp H
      obtain ⟨⟨t736, t737⟩, A570, H⟩ := H
      try dsimp only at H
      have A57 := Aside0.mk A570
      clear A570
      by_cases c58 : t737 = 0
      rotate_left
      ·
       rw [if_neg c58] at H
       have c58b0 : (t737 == 0) = false := beq_eq_false_iff_ne.mpr c58
       have c58b1 : (t737 != 0) = true := bne_iff_ne.mpr c58
       exact absurd (Option.some.inj H) (by rw [HT.out]; decide)
      rw [if_pos c58] at H
      have c58b0 : (t737 == 0) = true := beq_iff_eq.mpr c58
      have c58b1 : (t737 != 0) = false := bne_eq_false_iff_eq.mpr c58
      clear c58
      by_cases c59 : x16_2 = t736
      rotate_left
      ·
       rw [if_neg c59] at H
       have c59b0 : (x16_2 == t736) = false := beq_eq_false_iff_ne.mpr c59
       have c59b1 : (x16_2 != t736) = true := bne_iff_ne.mpr c59
       exact absurd (Option.some.inj H) (by rw [HT.out]; decide)
      rw [if_pos c59] at H
      have c59b0 : (x16_2 == t736) = true := beq_iff_eq.mpr c59
      have c59b1 : (x16_2 != t736) = false := bne_eq_false_iff_eq.mpr c59
      clear c59
      by_cases c60 : x17_2 = t736
      rotate_left
      ·
       rw [if_neg c60] at H
       have c60b0 : (x17_2 == t736) = false := beq_eq_false_iff_ne.mpr c60
       have c60b1 : (x17_2 != t736) = true := bne_iff_ne.mpr c60
       exact absurd (Option.some.inj H) (by rw [HT.out]; decide)
      rw [if_pos c60] at H
      have c60b0 : (x17_2 == t736) = true := beq_iff_eq.mpr c60
      have c60b1 : (x17_2 != t736) = false := bne_eq_false_iff_eq.mpr c60
      clear c60
      replace H := Option.bind_eq_some_iff.mp H
      obtain ⟨t738, A610, H⟩ := H
      replace H : (some t738) = some r := H
      have A61 := Aside0.mk A610
      clear A610
      obtain rfl := Option.some.inj H
      have hcz62_0 : wr.cell? ⟨gb697, 0, none⟩ = some (.int .i64 t685) := (blk_cell BK697.out 0).trans rfl
      have hcz62_1 : wr.cell? ⟨gb697, 1, none⟩ = some (.slice Ao22 t686.length co22) := (blk_cell BK697.out 1).trans rfl
      have hcz62_2 : wr.cell? ⟨gb697, 2, none⟩ = some (.int .i64 t689) := (blk_cell BK697.out 2).trans rfl
      have hcz62_3 : wr.cell? ⟨gb697, 3, none⟩ = some (.int .i64 t690) := (blk_cell BK697.out 3).trans rfl
      have hcz62_4 : wr.cell? ⟨gb697, 4, none⟩ = some (.int .i64 t691) := (blk_cell BK697.out 4).trans rfl
      have hcz62_5 : wr.cell? ⟨gb697, 5, none⟩ = some (.int .i64 t692) := (blk_cell BK697.out 5).trans rfl
      have hcz62_6 : wr.cell? ⟨gb697, 6, none⟩ = some (.slice Ao23 t693.length co23) := (blk_cell BK697.out 6).trans rfl
      have hfz62_0 := blk_frozen BK697.out 0
      have hfz62_1 := blk_frozen BK697.out 1
      have hfz62_2 := blk_frozen BK697.out 2
      have hfz62_3 := blk_frozen BK697.out 3
      have hfz62_4 := blk_frozen BK697.out 4
      have hfz62_5 := blk_frozen BK697.out 5
      have hfz62_6 := blk_frozen BK697.out 6
      exact (by go_wp2_with (first | ((with_reducible refine gate_callee (f := 22) rfl ?_); refine goesL_ (some 101) rfl rfl Try.func22 (by kernel_rfl) rfl #[.agg #[.int .i64 t685, .slice Ao22 t686.length co22, .int .i64 t689, .int .i64 t690, .int .i64 t691, .int .i64 t692, .slice Ao23 t693.length co23], .int .i64 x15_2] rfl q1 ?_; (with_reducible refine (withholding_Annual.calls k2 t685 _ _ t686 t689 t690 t691 t692 _ _ t693 x15_2 t736 t737 _ ?side1 ?side2 ?side3 ?side4 A57.out).mono ?_); (case side1 => exact (by repeat (first | exact (Kd.R_reads' HO_698001.out).2.2 | (with_reducible refine Kd.C_alloc ?_ _) | (with_reducible refine Kd.C_drewN ?_ _) | (with_reducible refine Kd.C_drew ?_)))); (case side2 => exact (Kd.R_reads' HO_698001.out).2.1); (case side3 => exact (by repeat (first | exact (Kd.R_reads' HO_698006.out).2.2 | (with_reducible refine Kd.C_alloc ?_ _) | (with_reducible refine Kd.C_drewN ?_ _) | (with_reducible refine Kd.C_drew ?_)))); (case side4 => exact (Kd.R_reads' HO_698006.out).2.1); rintro e w_1 ⟨rfl, hb⟩; refine ⟨_, rfl, ?_⟩; have n0_ := Aside0.mk (Kd.R_below q94 hb); have n1_ := Aside0.mk (Kd.R_below q129 hb); have n2_ := Aside0.mk (Kd.R_below (by (with_reducible repeat (first | apply Kd.R_alloc | apply Kd.R_drewN | apply Kd.R_drew)); exact HO_13.out) hb); have n3_ := Aside0.mk (Kd.R_below (by (with_reducible repeat (first | apply Kd.R_alloc | apply Kd.R_drewN | apply Kd.R_drew)); exact HO_698001.out) hb); have n4_ := Aside0.mk (Kd.R_below (by (with_reducible repeat (first | apply Kd.R_alloc | apply Kd.R_drewN | apply Kd.R_drew)); exact HO_698006.out) hb); have n5_ := Aside0.mk (blk_below (g := gb697) (o := .cells #[.int .i64 t685, .slice Ao22 t686.length co22, .int .i64 t689, .int .i64 t690, .int .i64 t691, .int .i64 t692, .slice Ao23 t693.length co23] 33 (0, 0)) q73 hb); have n6_ := Aside0.mk (Kd.C_below q64 hb); have n7_ := Aside0.mk (Kd.C_below q65 hb); have n8_ := Aside0.mk (below_step q130 hb); clear HO_8; clear HO_11; clear HO_13; clear HO_698001; clear HO_698006; clear BK697; clear HR714; clear HR721; clear HB; have HO_8 := n0_; have HO_11 := n1_; have HO_13 := n2_; have HO_698001 := n3_; have HO_698006 := n4_; have BK697 := n5_; have HR714 := n6_; have HR721 := n7_; have HB := n8_; clear n0_ n1_ n2_ n3_ n4_ n5_ n6_ n7_ n8_; (try clear hb); (try clear hb2); (try clear hk); (try clear hi)) | (go_at_call 12; (with_reducible refine (payrolllaw30_awake.calls k2  t738 _ A61.out).mono ?_); rintro e w_2 ⟨rfl, hb⟩; have n0_ := Aside0.mk (Kd.R_below q94 hb); have n1_ := Aside0.mk (Kd.R_below q129 hb); have n2_ := Aside0.mk (Kd.R_below (by (with_reducible repeat (first | apply Kd.R_alloc | apply Kd.R_drewN | apply Kd.R_drew)); exact HO_13.out) hb); have n3_ := Aside0.mk (Kd.R_below (by (with_reducible repeat (first | apply Kd.R_alloc | apply Kd.R_drewN | apply Kd.R_drew)); exact HO_698001.out) hb); have n4_ := Aside0.mk (Kd.R_below (by (with_reducible repeat (first | apply Kd.R_alloc | apply Kd.R_drewN | apply Kd.R_drew)); exact HO_698006.out) hb); have n5_ := Aside0.mk (blk_below (g := gb697) (o := .cells #[.int .i64 t685, .slice Ao22 t686.length co22, .int .i64 t689, .int .i64 t690, .int .i64 t691, .int .i64 t692, .slice Ao23 t693.length co23] 33 (0, 0)) q73 hb); have n6_ := Aside0.mk (Kd.C_below q64 hb); have n7_ := Aside0.mk (Kd.C_below q65 hb); have n8_ := Aside0.mk (below_step q130 hb); clear HO_8; clear HO_11; clear HO_13; clear HO_698001; clear HO_698006; clear BK697; clear HR714; clear HR721; clear HB; have HO_8 := n0_; have HO_11 := n1_; have HO_13 := n2_; have HO_698001 := n3_; have HO_698006 := n4_; have BK697 := n5_; have HR714 := n6_; have HR721 := n7_; have HB := n8_; clear n0_ n1_ n2_ n3_ n4_ n5_ n6_ n7_ n8_; (try clear hb); (try clear hb2); (try clear hk); (try clear hi))); go_ret; exact ⟨by first | rfl | (simp [errW_none, errW_some] <;> rfl) | (simp [*, errW_none, errW_some] <;> rfl), q130⟩)
     rw [if_pos c49] at H
     have c49b0 : decide (x18_2 < t701) = true := decide_eq_true c49
     clear c49
     by_cases c50 : 0 ≤ x18_2
     rotate_left
     ·
      rw [if_neg c50] at H
      exact absurd H (by simp)
     rw [if_pos c50] at H
     have c50b0 : decide (0 ≤ x18_2) = true := decide_eq_true c50
     clear c50
     by_cases c51 : x18_2 < (t703.length : Int)
     rotate_left
     ·
      rw [if_neg c51] at H
      exact absurd H (by simp)
     rw [if_pos c51] at H
     have c51b0 : decide (x18_2 < (t703.length : Int)) = true := decide_eq_true c51
     clear c51
     by_cases c52 : x18_2 < (t725.length : Int)
     rotate_left
     ·
      rw [if_neg c52] at H
      exact absurd H (by simp)
     rw [if_pos c52] at H
     have c52b0 : decide (x18_2 < (t725.length : Int)) = true := decide_eq_true c52
     clear c52
     by_cases c53 : x18_2 < (t729.length : Int)
     rotate_left
     ·
      rw [if_neg c53] at H
      exact absurd H (by simp)
     rw [if_pos c53] at H
     have c53b0 : decide (x18_2 < (t729.length : Int)) = true := decide_eq_true c53
     clear c53
     have H' := Aside0.mk H
     clear H
     try go_wp2
     have n0_ := Aside0.mk (Kd.R_drew HO_8.out)
     have n1_ := Aside0.mk (Kd.R_drew HO_11.out)
     have n2_ := Aside0.mk (Kd.R_drew HO_13.out)
     have n3_ := Aside0.mk (Kd.R_drew HO_698001.out)
     have n4_ := Aside0.mk (Kd.R_drew HO_698006.out)
     have n5_ := Aside0.mk (blk_drew BK697.out)
     have n6_ := Aside0.mk (Kd.C_drew HR714.out)
     have n7_ := Aside0.mk (Kd.C_drew HR721.out)
     have n8_ := Aside0.mk (below_drew1 HB.out)
     clear HO_8
     clear HO_11
     clear HO_13
     clear HO_698001
     clear HO_698006
     clear BK697
     clear HR714
     clear HR721
     clear HB
     have HO_8 := n0_
     have HO_11 := n1_
     have HO_13 := n2_
     have HO_698001 := n3_
     have HO_698006 := n4_
     have BK697 := n5_
     have HR714 := n6_
     have HR721 := n7_
     have HB := n8_
     clear n0_ n1_ n2_ n3_ n4_ n5_ n6_ n7_ n8_
     have p733 : 0 ≤ (x18_2 : Int) := of_decide_eq_true q6
     have q733 : x18_2 < (t703.length : Int) := of_decide_eq_true q6
     obtain ⟨ad733, e733, hx733_0⟩ := Kd.at_int (Kd.R_reads' HO_8.out).2.2 x18_2 p733 q733
     cases e733
     replace p733 := eq_true p733
     replace q733 := eq_true q733
     obtain ⟨Ao55, co55, eo55⟩ := Kd.R_slice HO_11.out
     (first | subst eo55 | (injection eo55 with f1_ f2_ f3_; have f4_ := f1_.symm; have f5_ := f3_.symm; clear f1_ f2_ f3_; subst f4_; subst f5_))
     have p734 : 0 ≤ (x18_2 : Int) := of_decide_eq_true q6
     have q734 : x18_2 < (t725.length : Int) := of_decide_eq_true q6
     obtain ⟨ad734, e734, hx734_0⟩ := Kd.at_int (Kd.R_reads' HO_11.out).2.2 x18_2 p734 q734
     cases e734
     replace p734 := eq_true p734
     replace q734 := eq_true q734
     obtain ⟨Ao56, co56, eo56⟩ := Kd.R_slice HO_13.out
     (first | subst eo56 | (injection eo56 with f1_ f2_ f3_; have f4_ := f1_.symm; have f5_ := f3_.symm; clear f1_ f2_ f3_; subst f4_; subst f5_))
     have p735 : 0 ≤ (x18_2 : Int) := of_decide_eq_true q6
     have q735 : x18_2 < (t729.length : Int) := of_decide_eq_true q6
     obtain ⟨ad735, e735, hx735_0⟩ := Kd.at_int (Kd.R_reads' HO_13.out).2.2 x18_2 p735 q735
     cases e735
     replace p735 := eq_true p735
     replace q735 := eq_true q735
     refine start_ (n := 21) (S := fun w' => w'.cell? (ad733.add (x18_2).toNat) = some (.int .i64 (rd t703 x18_2)) ∧ w'.cell? (ad734.add (x18_2).toNat) = some (.int .i64 (rd t725 x18_2)) ∧ w'.cell? (ad735.add (x18_2).toNat) = some (.int .i64 (rd t729 x18_2))) (ds := []) #[false, false, false, false, false, false, false, false, false, false, false, false, false, false, false, false, false, false, false, false, false] (by kernel_rfl) rfl rfl ⟨hx733_0, hx734_0, hx735_0⟩ (fun hHeld => ?_); refine with_tabW payrolllaw30_WithholdingSums.tab15 payrolllaw30_WithholdingSums.bits15 (fun HT_ HW_ => ?_)
     generalize wr.drew = w54 at HO_8 HO_11 HO_13 HO_698001 HO_698006 BK697 HR714 HR721 HB hx733_0 hx734_0 hx735_0 hHeld ⊢
     refine pv_ (i := 0) (N := some 80) #[true, false, false, false, false, false, false, false, false, false, false, false, false, false, false, false, false, false, false, false, false] (h := ?_)
     refine pv_ (i := 1) (N := some 81) #[true, true, false, false, false, false, false, false, false, false, false, false, false, false, false, false, false, false, false, false, false] (h := ?_)
     refine pv_ (i := 2) (N := some 82) #[true, true, true, false, false, false, false, false, false, false, false, false, false, false, false, false, false, false, false, false, false] (h := ?_)
     refine pv_ (i := 3) (N := some 83) #[true, true, true, true, false, false, false, false, false, false, false, false, false, false, false, false, false, false, false, false, false] (h := ?_)
     refine pv_ (i := 6) (N := some 86) #[true, true, true, true, false, false, true, false, false, false, false, false, false, false, false, false, false, false, false, false, false] (h := ?_)
     refine pv_ (i := 7) (N := some 87) #[true, true, true, true, false, false, true, true, false, false, false, false, false, false, false, false, false, false, false, false, false] (h := ?_)
     refine pv_ (i := 8) (N := some 88) #[true, true, true, true, false, false, true, true, true, false, false, false, false, false, false, false, false, false, false, false, false] (h := ?_)
     refine pv_ (i := 9) (N := some 89) #[true, true, true, true, false, false, true, true, true, true, false, false, false, false, false, false, false, false, false, false, false] (h := ?_)
     refine pv_ (i := 12) (N := some 92) #[true, true, true, true, false, false, true, true, true, true, false, false, true, false, false, false, false, false, false, false, false] (h := ?_)
     refine pv_ (i := 13) (N := some 93) #[true, true, true, true, false, false, true, true, true, true, false, false, true, true, false, false, false, false, false, false, false] (h := ?_)
     refine pv_ (i := 14) (N := some 94) #[true, true, true, true, false, false, true, true, true, true, false, false, true, true, true, false, false, false, false, false, false] (h := ?_)
     refine pv_ (i := 15) (N := some 95) #[true, true, true, true, false, false, true, true, true, true, false, false, true, true, true, true, false, false, false, false, false] (h := ?_)
     refine take_ (i := 4) (N := some 84) (v := ?_) (a' := ?_) #[true, true, true, true, true, false, true, true, true, true, false, false, true, true, true, true, false, false, false, false, false] rfl rfl (take_ofW HT_.out HW_.out (by kernel_rfl)) (fun _ _ _ h => h) (Or.inl ⟨by rfl, ?_⟩) hHeld ?_ ?_
     rotate_left
     ·
      rintro w' ⟨s0, s1, s2⟩
      go_simp
      with_reducible rfl
     rotate_left
     ·
      simp only [Act.put, List.setIfInBounds_toArray, List.set_cons_zero, List.set_cons_succ, i64_w, i32_w]
      rfl
     refine pv_ (i := 5) (N := some 85) #[true, true, true, true, true, true, true, true, true, true, false, false, true, true, true, true, false, false, false, false, false] (h := ?_)
     refine pv_ (i := 18) (N := some 15) #[true, true, true, true, true, true, true, true, true, true, false, false, true, true, true, true, false, false, true, false, false] (h := ?_)
     refine take_ (i := 10) (N := some 90) (v := ?_) (a' := ?_) #[true, true, true, true, true, true, true, true, true, true, true, false, true, true, true, true, false, false, true, false, false] rfl rfl (take_ofW HT_.out HW_.out (by kernel_rfl)) (fun _ _ _ h => h) (Or.inl ⟨by rfl, ?_⟩) hHeld ?_ ?_
     rotate_left
     ·
      rintro w' ⟨s0, s1, s2⟩
      go_simp
      with_reducible rfl
     rotate_left
     ·
      simp only [Act.put, List.setIfInBounds_toArray, List.set_cons_zero, List.set_cons_succ, i64_w, i32_w]
      rfl
     refine pv_ (i := 11) (N := some 91) #[true, true, true, true, true, true, true, true, true, true, true, true, true, true, true, true, false, false, true, false, false] (h := ?_)
     refine pv_ (i := 19) (N := some 16) #[true, true, true, true, true, true, true, true, true, true, true, true, true, true, true, true, false, false, true, true, false] (h := ?_)
     refine take_ (i := 16) (N := some 96) (v := ?_) (a' := ?_) #[true, true, true, true, true, true, true, true, true, true, true, true, true, true, true, true, true, false, true, true, false] rfl rfl (take_ofW HT_.out HW_.out (by kernel_rfl)) (fun _ _ _ h => h) (Or.inl ⟨by rfl, ?_⟩) hHeld ?_ ?_
     rotate_left
     ·
      rintro w' ⟨s0, s1, s2⟩
      go_simp
      with_reducible rfl
     rotate_left
     ·
      simp only [Act.put, List.setIfInBounds_toArray, List.set_cons_zero, List.set_cons_succ, i64_w, i32_w]
      rfl
     refine pv_ (i := 17) (N := some 97) #[true, true, true, true, true, true, true, true, true, true, true, true, true, true, true, true, true, true, true, true, false] (h := ?_)
     refine pv_ (i := 20) (N := some 17) #[true, true, true, true, true, true, true, true, true, true, true, true, true, true, true, true, true, true, true, true, true] (h := ?_)
     refine done_ (done_of HT_.out (by kernel_rfl)) ?_
     try go_wp2
     go_roundg k2
     case measure => have := HJ15.out; have := HK2.out; omega
     case rel => exact ⟨(wrap64 (x15_2 + (rd t703 x18_2))), (wrap64 (x16_2 + (rd t725 x18_2))), (wrap64 (x17_2 + (rd t729 x18_2))), (wrap64 (x18_2 + 1)), q26, q26, q26, q26, H', ⟨by have := HJ15.out; have := HK2.out; omega⟩, ⟨q94⟩, ⟨q129⟩, ⟨(by (with_reducible repeat (first | apply Kd.R_alloc | apply Kd.R_drewN | apply Kd.R_drew)); exact HO_13.out)⟩, ⟨(by (with_reducible repeat (first | apply Kd.R_alloc | apply Kd.R_drewN | apply Kd.R_drew)); exact HO_698001.out)⟩, ⟨(by (with_reducible repeat (first | apply Kd.R_alloc | apply Kd.R_drewN | apply Kd.R_drew)); exact HO_698006.out)⟩, ⟨q73⟩, ⟨q64⟩, ⟨q65⟩, ⟨q130⟩⟩

/-- THE ONE PURE STATEMENT of payrolllaw30_WithholdingSums: yours. -/
def payrolllaw30_WithholdingSums.Pure : Prop := ∀ (l0 : List Int) (a1 : Int), l0.length ≤ maxLen → l0.length * 8 ≤ 140737488351232 → (∀ x ∈ l0, (Lit.int .i64 x).wf = true) → (Lit.int .i64 a1).wf = true → ∃ k, payrolllaw30_WithholdingSums.f k l0 a1 = some true
theorem payrolllaw30_WithholdingSums.walk (P : payrolllaw30_WithholdingSums.Pure) (a0 : Option Addr) (len0 cap0 : Nat) (z0 : List Int) (a1 : Int) (w : World) (w0 : (a0 = none ∧ len0 = 0 ∧ cap0 = 0 ∧ z0 = []) ∨ ∃ x, a0 = some x ∧ len0 ≤ cap0 ∧ cap0 ≤ maxLen ∧ z0.length = cap0 ∧ (∀ i, i < z0.length → w.cell? (x.add i) = some (.int .i64 (z0.getD i 0))) ∧ ∀ n ∈ z0, (Lit.int .i64 n).wf = true) (y0 : len0 * 8 ≤ 140737488351232) (w1 : (Lit.int .i64 a1).wf = true) :
  Calls Try.prog 7 #[.slice a0 len0 cap0, .int .i64 a1] w fun e w' => e = .returned (.bool true) ∧ Below w.heap.size w w' := by
 obtain ⟨l0, rfl, hr0, hm0, hw0, hc0⟩ := ReadsInt.ofRowC w0
 obtain ⟨k, h⟩ := P l0 a1 hm0 y0 hw0 w1
 refine (payrolllaw30_WithholdingSums.calls k _ _ l0 a1 true w (Kd.C_of_reads (d := (0 : Int)) (h1 := fun _ => rfl) hr0) hc0 h rfl).mono ?_
 rintro e w' ⟨rfl, hd⟩
 exact ⟨rfl, hd⟩

end Go.Proofs.Ytbacfajhgmnjpaa.P
