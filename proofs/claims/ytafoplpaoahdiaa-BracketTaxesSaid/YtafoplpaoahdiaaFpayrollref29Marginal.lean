/- Proved here: that the Go function payrollref29_Marginal computes the plain function of that name (the machine side of the laws, reworked from a print; no condition of its own). -/
import Derived.Test.YtafoplpaoahdiaaProg
import Derived.Test.YtafoplpaoahdiaaV1
import Derived.Test.YtafoplpaoahdiaaFPRE1
import Derived.Test.YtafoplpaoahdiaaFpayrollref29check
namespace Go.Proofs.Ytafoplpaoahdiaa.P
open Go.RowKit Go.Proofs.YtafoplpaoahdiaaW.PrintWords Go.Proofs.YtafoplpaoahdiaaW.PrintLast Go.Proofs.YtafoplpaoahdiaaW.PrintMore
attribute [local go_sem] max2_int min2_int max_two min_two max_three min_three max_four min_four   -- for this text's walks alone
set_option linter.unusedVariables false
set_option linter.unusedSimpArgs false

def payrollref29_Marginal.l0 : Nat → List (S30) → Int → Int → Int → Option (Int × Int)
 | 0, _, _, _, _ => none
 | k + 1, x0, x1, x7, x8 => if x8 < (x0.length : Int) then (if 0 ≤ x8 then (if ((rd_T30 x0 x8).f0) ≤ x1 then (payrollref29_Marginal.l0 k x0 x1 ((rd_T30 x0 x8).f1) (wrap64 (x8 + 1))) else (payrollref29_Marginal.l0 k x0 x1 x7 (wrap64 (x8 + 1)))) else (none)) else (some (x7, 0))
def payrollref29_Marginal.f (k : Nat) (l0 : List (S30)) (a1 : Int) : Option (Int × Int) := (payrollref29_check.f k l0 a1).bind fun t483 => (if t483 = 0 then (payrollref29_Marginal.l0 k l0 a1 0 0) else (some (0, t483)))
theorem payrollref29_Marginal.mono_l : ∀ k, (∀ y0 y1 y2 y3, LeO (payrollref29_Marginal.l0 k y0 y1 y2 y3) (payrollref29_Marginal.l0 (k + 1) y0 y1 y2 y3))
 | 0 => fun _ _ _ _ r h => by simp [payrollref29_Marginal.l0] at h
 | k + 1 => by
  have ih0 := payrollref29_Marginal.mono_l k
  ·
   intro y0 y1 y2 y3
   unfold payrollref29_Marginal.l0
   repeat' first
   | (with_reducible exact ih0 _ _ _ _)
   | (with_reducible exact payrollref29_check.mono _ _ _)
   | (with_reducible exact LeO.refl _)
   | (with_reducible exact LeO.none _)
   | (with_reducible refine LeO.ite ?_ ?_)
   | (with_reducible refine LeO.bind ?_ (fun _ => ?_))
   | exact ih0 _ _ _ _
   | exact payrollref29_check.mono _ _ _
   | exact LeO.none _
   | refine LeO.ite ?_ ?_
   | refine LeO.bind ?_ (fun _ => ?_)
theorem payrollref29_Marginal.mono : ∀ a0 a1 k, LeO (payrollref29_Marginal.f k a0 a1) (payrollref29_Marginal.f (k + 1) a0 a1) := by
 intro a0 a1 k
 have ih0 := payrollref29_Marginal.mono_l k
 unfold payrollref29_Marginal.f
 repeat' first
   | (with_reducible exact ih0 _ _ _ _)
   | (with_reducible exact payrollref29_check.mono _ _ _)
   | (with_reducible exact LeO.refl _)
   | (with_reducible exact LeO.none _)
   | (with_reducible refine LeO.ite ?_ ?_)
   | (with_reducible refine LeO.bind ?_ (fun _ => ?_))
   | exact ih0 _ _ _ _
   | exact payrollref29_check.mono _ _ _
   | exact LeO.none _
   | refine LeO.ite ?_ ?_
   | refine LeO.bind ?_ (fun _ => ?_)
set_option maxHeartbeats 8000000 in
set_option maxRecDepth 100000 in
theorem payrollref29_Marginal.calls (k : Nat) (A0 : Option Addr) (c0 : Nat) (l0 : List (S30)) (a1 : Int) (r1 : Int) (r2 : Int) (w : World) (hr0 : Kd.C k30 w A0 l0.length l0) (hc0 : l0.length ≤ c0) (h : payrollref29_Marginal.f k l0 a1 = some (r1, r2)) :
  Calls Try.prog 35 #[.slice A0 l0.length c0, .int .i64 a1] w fun e w' => e = .returned (.tuple #[.int .i64 r1, .int .i64 r2]) ∧ Drawn0 w w' := by
 have HR0 := Aside0.mk hr0
 have HC0 := Aside0.mk hc0
 clear hr0 hc0
 have H : ((payrollref29_check.f k l0 a1).bind fun t483 => (if t483 = 0 then (payrollref29_Marginal.l0 k l0 a1 0 0) else (some (0, t483)))) = some (r1, r2) := h
 clear h
 replace H := Option.bind_eq_some_iff.mp H
 obtain ⟨t483, A30, H⟩ := H
 replace H : (if t483 = 0 then (payrollref29_Marginal.l0 k l0 a1 0 0) else (some (0, t483))) = some (r1, r2) := H
 have A3 := Aside0.mk A30
 clear A30
 by_cases c4 : t483 = 0
 ·
  rw [if_pos c4] at H
  have c4b0 : (t483 == 0) = true := beq_iff_eq.mpr c4
  have c4b1 : (t483 != 0) = false := bne_eq_false_iff_eq.mpr c4
  clear c4
  have H' := Aside0.mk H
  clear H
  go_enter Try.func35, Try.ntmps35
  go_wp2_with (first | ((with_reducible refine gate_callee (f := 41) rfl ?_); refine goesL_ (some 11) rfl rfl Try.func41 (by kernel_rfl) rfl #[.slice A0 l0.length c0, .int .i64 a1] rfl (by (try simp only [List.map_toArray, List.map_cons, List.map_nil]); first | done | rfl | (simp only [List.length_drop, List.length_take]; rfl)) ?_; (with_reducible refine (payrollref29_check.calls k _ _ l0 a1 t483 _ ?side1 ?side2 A3.out).mono ?_); (case side1 => repeat (first | exact HR0.out | (with_reducible refine Kd.C_alloc ?_ _) | (with_reducible refine Kd.C_drewN ?_ _) | (with_reducible refine Kd.C_drew ?_))); (case side2 => exact HC0.out); rintro e w' ⟨rfl, ⟨nd, rfl⟩⟩; refine ⟨_, rfl, ?_⟩))
  go_loopg [7, 8] k (fun kq v7 v8 w' => ∃ (x7_1 : Int) (x8_1 : Int), v7 = .int .i64 x7_1 ∧ v8 = .int .i64 x8_1 ∧ Aside0 (payrollref29_Marginal.l0 kq l0 a1 x7_1 x8_1 = some (r1, r2)) ∧ Aside0 (kq ≤ k) ∧ Drawn0 w w')
  case atStart => exact ⟨(0), (0), (by first | rfl | (simp; done) | (simp [*]; done)), (by first | rfl | (simp; done) | (simp [*]; done)), H', ⟨Nat.le_refl _⟩, by repeat (first | exact Drawn0.refl _ | apply Drawn0.step)⟩
  case round =>
   clear H'
   try clear p2
   try clear c3
   try clear c4
   try clear c4b0
   try clear c4b1
   obtain ⟨x7_1, x8_1, rfl, rfl, HA, HK1, ⟨m1, rfl⟩⟩ := hrel
   cases gk with
   | zero => exact absurd HA.out (by simp [payrollref29_Marginal.l0])
   | succ k1 =>
    have H := HA.out
    clear HA
    simp only [payrollref29_Marginal.l0] at H
    by_cases c5 : x8_1 < (l0.length : Int)
    ·
     rw [if_pos c5] at H
     have c5b0 : decide (x8_1 < (l0.length : Int)) = true := decide_eq_true c5
     clear c5
     by_cases c6 : 0 ≤ x8_1
     ·
      rw [if_pos c6] at H
      have c6b0 : decide (0 ≤ x8_1) = true := decide_eq_true c6
      clear c6
      by_cases c7 : ((rd_T30 l0 x8_1).f0) ≤ a1
      ·
       rw [if_pos c7] at H
       have c7b0 : decide (((rd_T30 l0 x8_1).f0) ≤ a1) = true := decide_eq_true c7
       clear c7
       have H' := Aside0.mk H
       clear H
       have p484 : 0 ≤ (x8_1 : Int) := of_decide_eq_true (by first | (with_reducible assumption) | assumption)
       have q484 : x8_1 < (l0.length : Int) := of_decide_eq_true (by first | (with_reducible assumption) | assumption)
       obtain ⟨ad484, e484, hx484_0, hx484_1⟩ := at_T30 HR0.out x8_1 p484 q484
       cases e484
       replace p484 := eq_true p484
       replace q484 := eq_true q484
       have p485 : 0 ≤ (x8_1 : Int) := of_decide_eq_true (by first | (with_reducible assumption) | assumption)
       have q485 : x8_1 < (l0.length : Int) := of_decide_eq_true (by first | (with_reducible assumption) | assumption)
       obtain ⟨ad485, e485, hx485_0, hx485_1⟩ := at_T30 HR0.out x8_1 p485 q485
       obtain rfl : ad484 = ad485 := (by injection e485)
       replace p485 := eq_true p485
       replace q485 := eq_true q485
       go_wp2
       go_roundg k1
       case measure => have := HK1.out; omega
       case rel => exact ⟨((rd_T30 l0 x8_1).f1), (wrap64 (x8_1 + 1)), (by first | rfl | (simp; done) | (simp [*]; done)), (by first | rfl | (simp; done) | (simp [*]; done)), H', ⟨by have := HK1.out; omega⟩, by repeat (first | exact Drawn0.refl _ | apply Drawn0.step)⟩
      ·
       rw [if_neg c7] at H
       have c7b0 : decide (((rd_T30 l0 x8_1).f0) ≤ a1) = false := decide_eq_false c7
       clear c7
       have H' := Aside0.mk H
       clear H
       have p484 : 0 ≤ (x8_1 : Int) := of_decide_eq_true (by first | (with_reducible assumption) | assumption)
       have q484 : x8_1 < (l0.length : Int) := of_decide_eq_true (by first | (with_reducible assumption) | assumption)
       obtain ⟨ad484, e484, hx484_0, hx484_1⟩ := at_T30 HR0.out x8_1 p484 q484
       cases e484
       replace p484 := eq_true p484
       replace q484 := eq_true q484
       go_wp2
       go_roundg k1
       case measure => have := HK1.out; omega
       case rel => exact ⟨(x7_1), (wrap64 (x8_1 + 1)), (by first | rfl | (simp; done) | (simp [*]; done)), (by first | rfl | (simp; done) | (simp [*]; done)), H', ⟨by have := HK1.out; omega⟩, by repeat (first | exact Drawn0.refl _ | apply Drawn0.step)⟩
     ·
      rw [if_neg c6] at H
      exact absurd H (by simp)
    ·
     rw [if_neg c5] at H
     have c5b0 : decide (x8_1 < (l0.length : Int)) = false := decide_eq_false c5
     clear c5
     simp only [Option.some.injEq, Prod.mk.injEq] at H
     obtain ⟨rfl, rfl⟩ := H
     go_wp2
     go_ret2
     exact ⟨by first | rfl | (simp; done) | (simp [*]; done), by repeat (first | exact Drawn0.refl _ | apply Drawn0.step)⟩
 ·
  rw [if_neg c4] at H
  have c4b0 : (t483 == 0) = false := beq_eq_false_iff_ne.mpr c4
  have c4b1 : (t483 != 0) = true := bne_iff_ne.mpr c4
  simp only [Option.some.injEq, Prod.mk.injEq] at H
  obtain ⟨rfl, rfl⟩ := H
  go_enter Try.func35, Try.ntmps35
  go_wp2_with (first | ((with_reducible refine gate_callee (f := 41) rfl ?_); refine goesL_ (some 11) rfl rfl Try.func41 (by kernel_rfl) rfl #[.slice A0 l0.length c0, .int .i64 a1] rfl (by (try simp only [List.map_toArray, List.map_cons, List.map_nil]); first | done | rfl | (simp only [List.length_drop, List.length_take]; rfl)) ?_; (with_reducible refine (payrollref29_check.calls k _ _ l0 a1 t483 _ ?side1 ?side2 A3.out).mono ?_); (case side1 => repeat (first | exact HR0.out | (with_reducible refine Kd.C_alloc ?_ _) | (with_reducible refine Kd.C_drewN ?_ _) | (with_reducible refine Kd.C_drew ?_))); (case side2 => exact HC0.out); rintro e w' ⟨rfl, ⟨nd, rfl⟩⟩; refine ⟨_, rfl, ?_⟩))
  go_ret2
  exact ⟨by first | rfl | (simp; done) | (simp [*]; done), by repeat (first | exact Drawn0.refl _ | apply Drawn0.step)⟩

end Go.Proofs.Ytafoplpaoahdiaa.P
