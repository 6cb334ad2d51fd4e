/- Proved here: that the Go function payrolllaw7_same computes the plain function of that name (the machine side of the laws, reworked from a print; no condition of its own). -/
import Derived.Test.YtopigdnffnondaaProg
import Derived.Test.YtopigdnffnondaaV1
import Derived.Test.YtopigdnffnondaaFPRE1
import Derived.Test.YtopigdnffnondaaFPRE3
import Derived.Test.YtopigdnffnondaaFPRE5
import Derived.Test.YtopigdnffnondaaFPRE6
namespace Go.Proofs.Ytopigdnffnondaa.P
open Go.RowKit Go.Proofs.YtopigdnffnondaaW.PrintWords Go.Proofs.YtopigdnffnondaaW.PrintLast Go.Proofs.YtopigdnffnondaaW.PrintMore
attribute [local go_sem] max2_int min2_int max_two min_two max_three min_three max_four min_four   -- for this text's walks alone
set_option linter.unusedVariables false
set_option linter.unusedSimpArgs false

attribute [local go_sem high] eqA26 eqA55
mutual
def payrolllaw7_same.j0 : Nat → List (S26) → List (S55) → List (S26) → List (S55) → Bool → Option (Bool)
 | 0, _, _, _, _, _ => none
 | k + 1, x0, x1, x2, x3, x22 => if x22 = true then (some false) else (payrolllaw7_same.l0 k x0 x1 x2 x3 0)
def payrolllaw7_same.l0 : Nat → List (S26) → List (S55) → List (S26) → List (S55) → Int → Option (Bool)
 | 0, _, _, _, _, _ => none
 | k + 1, x0, x1, x2, x3, x9 => if x9 < (x0.length : Int) then (if 0 ≤ x9 then (if x9 < (x2.length : Int) then (if ((!(((rd_T26 x0 x9).f0.f0) == ((rd_T26 x2 x9).f0.f0)) || (!(((rd_T26 x0 x9).f0.f1) == ((rd_T26 x2 x9).f0.f1)))) || (!(((rd_T26 x0 x9).f1) == ((rd_T26 x2 x9).f1)) || (!(((rd_T26 x0 x9).f2) == ((rd_T26 x2 x9).f2)) || (!(((rd_T26 x0 x9).f3) == ((rd_T26 x2 x9).f3)) || ((!(((rd_T26 x0 x9).f4.f0) == ((rd_T26 x2 x9).f4.f0)) || (!(((rd_T26 x0 x9).f4.f1) == ((rd_T26 x2 x9).f4.f1))))))))) = true then (some false) else (payrolllaw7_same.l0 k x0 x1 x2 x3 (wrap64 (x9 + 1)))) else (none)) else (none)) else (payrolllaw7_same.l1 k x1 x3 0)
def payrolllaw7_same.l1 : Nat → List (S55) → List (S55) → Int → Option (Bool)
 | 0, _, _, _ => none
 | k + 1, x1, x3, x10 => if x10 < (x1.length : Int) then (if 0 ≤ x10 then (if x10 < (x3.length : Int) then (if (!(((rd_T55 x1 x10).f0) == ((rd_T55 x3 x10).f0)) || (!(((rd_T55 x1 x10).f1) == ((rd_T55 x3 x10).f1)))) = true then (some false) else (payrolllaw7_same.l1 k x1 x3 (wrap64 (x10 + 1)))) else (none)) else (none)) else (some true)
end
def payrolllaw7_same.f (k : Nat) (l0 : List (S26)) (l1 : List (S55)) (l2 : List (S26)) (l3 : List (S55)) : Option (Bool) := if (l0.length : Int) = (l2.length : Int) then (payrolllaw7_same.j0 k l0 l1 l2 l3 ((l1.length : Int) != (l3.length : Int))) else (payrolllaw7_same.j0 k l0 l1 l2 l3 true)
theorem payrolllaw7_same.mono_l : ∀ k, (∀ y0 y1 y2 y3 y4, LeO (payrolllaw7_same.j0 k y0 y1 y2 y3 y4) (payrolllaw7_same.j0 (k + 1) y0 y1 y2 y3 y4)) ∧ (∀ y0 y1 y2 y3 y4, LeO (payrolllaw7_same.l0 k y0 y1 y2 y3 y4) (payrolllaw7_same.l0 (k + 1) y0 y1 y2 y3 y4)) ∧ (∀ y0 y1 y2, LeO (payrolllaw7_same.l1 k y0 y1 y2) (payrolllaw7_same.l1 (k + 1) y0 y1 y2))
 | 0 => ⟨fun _ _ _ _ _ r h => by simp [payrolllaw7_same.j0] at h, fun _ _ _ _ _ r h => by simp [payrolllaw7_same.l0] at h, fun _ _ _ r h => by simp [payrolllaw7_same.l1] at h⟩
 | k + 1 => by
  obtain ⟨ih0, ih1, ih2⟩ := payrolllaw7_same.mono_l k
  refine ⟨?_, ?_, ?_⟩
  ·
   intro y0 y1 y2 y3 y4
   unfold payrolllaw7_same.j0
   repeat' first
   | (with_reducible exact ih0 _ _ _ _ _)
   | (with_reducible exact ih1 _ _ _ _ _)
   | (with_reducible exact ih2 _ _ _)
   | (with_reducible exact LeO.refl _)
   | (with_reducible exact LeO.none _)
   | (with_reducible refine LeO.ite ?_ ?_)
   | (with_reducible refine LeO.bind ?_ (fun _ => ?_))
   | exact ih0 _ _ _ _ _
   | exact ih1 _ _ _ _ _
   | exact ih2 _ _ _
   | exact LeO.none _
   | refine LeO.ite ?_ ?_
   | refine LeO.bind ?_ (fun _ => ?_)
  ·
   intro y0 y1 y2 y3 y4
   unfold payrolllaw7_same.l0
   repeat' first
   | (with_reducible exact ih0 _ _ _ _ _)
   | (with_reducible exact ih1 _ _ _ _ _)
   | (with_reducible exact ih2 _ _ _)
   | (with_reducible exact LeO.refl _)
   | (with_reducible exact LeO.none _)
   | (with_reducible refine LeO.ite ?_ ?_)
   | (with_reducible refine LeO.bind ?_ (fun _ => ?_))
   | exact ih0 _ _ _ _ _
   | exact ih1 _ _ _ _ _
   | exact ih2 _ _ _
   | exact LeO.none _
   | refine LeO.ite ?_ ?_
   | refine LeO.bind ?_ (fun _ => ?_)
  ·
   intro y0 y1 y2
   unfold payrolllaw7_same.l1
   repeat' first
   | (with_reducible exact ih0 _ _ _ _ _)
   | (with_reducible exact ih1 _ _ _ _ _)
   | (with_reducible exact ih2 _ _ _)
   | (with_reducible exact LeO.refl _)
   | (with_reducible exact LeO.none _)
   | (with_reducible refine LeO.ite ?_ ?_)
   | (with_reducible refine LeO.bind ?_ (fun _ => ?_))
   | exact ih0 _ _ _ _ _
   | exact ih1 _ _ _ _ _
   | exact ih2 _ _ _
   | exact LeO.none _
   | refine LeO.ite ?_ ?_
   | refine LeO.bind ?_ (fun _ => ?_)
theorem payrolllaw7_same.mono : ∀ a0 a1 a2 a3 k, LeO (payrolllaw7_same.f k a0 a1 a2 a3) (payrolllaw7_same.f (k + 1) a0 a1 a2 a3) := by
 intro a0 a1 a2 a3 k
 obtain ⟨ih0, ih1, ih2⟩ := payrolllaw7_same.mono_l k
 unfold payrolllaw7_same.f
 repeat' first
   | (with_reducible exact ih0 _ _ _ _ _)
   | (with_reducible exact ih1 _ _ _ _ _)
   | (with_reducible exact ih2 _ _ _)
   | (with_reducible exact LeO.refl _)
   | (with_reducible exact LeO.none _)
   | (with_reducible refine LeO.ite ?_ ?_)
   | (with_reducible refine LeO.bind ?_ (fun _ => ?_))
   | exact ih0 _ _ _ _ _
   | exact ih1 _ _ _ _ _
   | exact ih2 _ _ _
   | exact LeO.none _
   | refine LeO.ite ?_ ?_
   | refine LeO.bind ?_ (fun _ => ?_)
set_option maxHeartbeats 8000000 in
set_option maxRecDepth 100000 in
theorem payrolllaw7_same.calls (k : Nat) (A0 : Option Addr) (c0 : Nat) (l0 : List (S26)) (A1 : Option Addr) (c1 : Nat) (l1 : List (S55)) (A2 : Option Addr) (c2 : Nat) (l2 : List (S26)) (A3 : Option Addr) (c3 : Nat) (l3 : List (S55)) (r : Bool) (w : World) (hr0 : Kd.C k26 w A0 l0.length l0) (hc0 : l0.length ≤ c0) (hr1 : Kd.C k55 w A1 l1.length l1) (hc1 : l1.length ≤ c1) (hr2 : Kd.C k26 w A2 l2.length l2) (hc2 : l2.length ≤ c2) (hr3 : Kd.C k55 w A3 l3.length l3) (hc3 : l3.length ≤ c3) (h : payrolllaw7_same.f k l0 l1 l2 l3 = some r) :
  Calls Try.prog 25 #[.slice A0 l0.length c0, .slice A1 l1.length c1, .slice A2 l2.length c2, .slice A3 l3.length c3] w fun e w' => e = .returned (.bool r) ∧ Drawn0 w w' := by
 have hu26 := Try.underlying26
 have hu55 := Try.underlying55
 have HR0 := Aside0.mk hr0
 have HC0 := Aside0.mk hc0
 clear hr0 hc0
 have HR1 := Aside0.mk hr1
 have HC1 := Aside0.mk hc1
 clear hr1 hc1
 have HR2 := Aside0.mk hr2
 have HC2 := Aside0.mk hc2
 clear hr2 hc2
 have HR3 := Aside0.mk hr3
 have HC3 := Aside0.mk hc3
 clear hr3 hc3
 have H : (if (l0.length : Int) = (l2.length : Int) then (payrolllaw7_same.j0 k l0 l1 l2 l3 ((l1.length : Int) != (l3.length : Int))) else (payrolllaw7_same.j0 k l0 l1 l2 l3 true)) = some r := h
 clear h
 have HC5 := Aside0.mk H
 clear H
 go_enter Try.func25, Try.ntmps25
 go_upto_region 1 with (fail)
 repeat (go_quiet (fail); go_upto_region 1 with (fail))
 go_cut [22] (fun v22 wc => ∃ (kq : Nat) (x22_4 : Bool), v22 = .bool x22_4 ∧ Aside0 (payrolllaw7_same.j0 kq l0 l1 l2 l3 x22_4 = some r) ∧ Aside0 (kq ≤ k) ∧ Drawn0 w wc)
 case first =>
  have H := HC5.out
  clear HC5
  by_cases c6 : (l0.length : Int) = (l2.length : Int)
  ·
   rw [if_pos c6] at H
   have c6b0 : ((l0.length : Int) == (l2.length : Int)) = true := beq_iff_eq.mpr c6
   have c6b1 : ((l0.length : Int) != (l2.length : Int)) = false := bne_eq_false_iff_eq.mpr c6
   have c6b2 : (l0.length == l2.length) = true := by first | simpa using c6 | (simp at c6 ⊢; omega)
   clear c6
   (first | rw [c6b0] | (simp only [i64_w, i32_w]; rw [c6b0]) | skip)
   have H' := Aside0.mk H
   clear H
   go_wp2
   repeat (go_quiet (fail); try go_wp2)
   go_meet
   case rel => exact ⟨_, (((l1.length : Int) != (l3.length : Int))), (by first | rfl | (simp; done) | (simp [*]; done)), H', ⟨by first | omega | exact Nat.le_refl _⟩, by repeat (first | exact Drawn0.refl _ | apply Drawn0.step)⟩
  ·
   rw [if_neg c6] at H
   have c6b0 : ((l0.length : Int) == (l2.length : Int)) = false := beq_eq_false_iff_ne.mpr c6
   have c6b1 : ((l0.length : Int) != (l2.length : Int)) = true := bne_iff_ne.mpr c6
   have c6b2 : (l0.length == l2.length) = false := by first | simpa using c6 | (simp at c6 ⊢; omega)
   (first | rw [c6b0] | (simp only [i64_w, i32_w]; rw [c6b0]) | skip)
   have H' := Aside0.mk H
   clear H
   go_wp2
   repeat (go_quiet (fail); try go_wp2)
   go_meet
   case rel => exact ⟨_, (true), (by first | rfl | (simp; done) | (simp [*]; done)), H', ⟨by first | omega | exact Nat.le_refl _⟩, by repeat (first | exact Drawn0.refl _ | apply Drawn0.step)⟩
 case rest =>
  clear HC5
  try clear c1
  try clear c2
  try clear p2
  try clear c3
  try clear c6
  try clear c6b0
  try clear c6b1
  try clear c6b2
  obtain ⟨kq, x22_4, rfl, HA, HJ4, ⟨mc4, rfl⟩⟩ := hcut
  cases kq with
  | zero => exact absurd HA.out (by simp [payrolllaw7_same.j0])
  | succ kj4 =>
   have H := HA.out
   clear HA
   simp only [payrolllaw7_same.j0] at H
   by_cases c7 : x22_4 = true
   ·
    subst c7
    have H1 : (some false) = some r := by rw [if_pos rfl] at H; exact H
    clear H
    have H := H1
    clear H1
    obtain rfl := Option.some.inj H
    go_wp2
    repeat (go_quiet (fail); try go_wp2)
    go_ret
    exact ⟨by first | rfl | (simp; done) | (simp [*]; done), by repeat (first | exact Drawn0.refl _ | apply Drawn0.step)⟩
   ·
    replace c7 := Bool.eq_false_iff.mpr c7
    subst c7
    have H1 : (payrolllaw7_same.l0 kj4 l0 l1 l2 l3 0) = some r := by rw [if_neg (show ¬ (false = true) by decide)] at H; exact H
    clear H
    have H := H1
    clear H1
    have H' := Aside0.mk H
    clear H
    go_wp2
    repeat (go_quiet (fail); try go_wp2)
    go_loopg [9] kj4 (fun kq v9 w' => ∃ (x9_2 : Int), v9 = .int .i64 x9_2 ∧ Aside0 (payrolllaw7_same.l0 kq l0 l1 l2 l3 x9_2 = some r) ∧ Aside0 (kq ≤ kj4) ∧ Drawn0 w w')
    case atStart => exact ⟨(0), (by first | rfl | (simp; done) | (simp [*]; done)), H', ⟨Nat.le_refl _⟩, by repeat (first | exact Drawn0.refl _ | apply Drawn0.step)⟩
    case round =>
     clear H'
     try clear c1
     try clear c2
     try clear p2
     try clear c3
     try clear c4
     try clear c6
     try clear c6b0
     try clear c6b1
     try clear c6b2
     try clear c7
     try clear p2
     obtain ⟨x9_2, rfl, HA, HK2, ⟨m2, rfl⟩⟩ := hrel
     cases gk with
     | zero => exact absurd HA.out (by simp [payrolllaw7_same.l0])
     | succ k2 =>
      have H := HA.out
      clear HA
      simp only [payrolllaw7_same.l0] at H
      by_cases c8 : x9_2 < (l0.length : Int)
      ·
       rw [if_pos c8] at H
       have c8b0 : decide (x9_2 < (l0.length : Int)) = true := decide_eq_true c8
       clear c8
       by_cases c9 : 0 ≤ x9_2
       ·
        rw [if_pos c9] at H
        have c9b0 : decide (0 ≤ x9_2) = true := decide_eq_true c9
        clear c9
        by_cases c10 : x9_2 < (l2.length : Int)
        ·
         rw [if_pos c10] at H
         have c10b0 : decide (x9_2 < (l2.length : Int)) = true := decide_eq_true c10
         clear c10
         by_cases c11 : ((!(((rd_T26 l0 x9_2).f0.f0) == ((rd_T26 l2 x9_2).f0.f0)) || (!(((rd_T26 l0 x9_2).f0.f1) == ((rd_T26 l2 x9_2).f0.f1)))) || (!(((rd_T26 l0 x9_2).f1) == ((rd_T26 l2 x9_2).f1)) || (!(((rd_T26 l0 x9_2).f2) == ((rd_T26 l2 x9_2).f2)) || (!(((rd_T26 l0 x9_2).f3) == ((rd_T26 l2 x9_2).f3)) || ((!(((rd_T26 l0 x9_2).f4.f0) == ((rd_T26 l2 x9_2).f4.f0)) || (!(((rd_T26 l0 x9_2).f4.f1) == ((rd_T26 l2 x9_2).f4.f1))))))))) = true
         ·
          rw [if_pos c11] at H
          have c11b0 : ((!(((rd_T26 l0 x9_2).f0.f0) == ((rd_T26 l2 x9_2).f0.f0)) || (!(((rd_T26 l0 x9_2).f0.f1) == ((rd_T26 l2 x9_2).f0.f1)))) || (!(((rd_T26 l0 x9_2).f1) == ((rd_T26 l2 x9_2).f1)) || (!(((rd_T26 l0 x9_2).f2) == ((rd_T26 l2 x9_2).f2)) || (!(((rd_T26 l0 x9_2).f3) == ((rd_T26 l2 x9_2).f3)) || ((!(((rd_T26 l0 x9_2).f4.f0) == ((rd_T26 l2 x9_2).f4.f0)) || (!(((rd_T26 l0 x9_2).f4.f1) == ((rd_T26 l2 x9_2).f4.f1))))))))) = true := c11
          clear c11
          obtain rfl := Option.some.inj H
          have p367 : 0 ≤ (x9_2 : Int) := of_decide_eq_true (by first | (with_reducible assumption) | assumption)
          have q367 : x9_2 < (l0.length : Int) := of_decide_eq_true (by first | (with_reducible assumption) | assumption)
          obtain ⟨ad367, e367, hx367_0, hx367_1, hx367_2, hx367_3, hx367_4, hx367_5, hx367_6⟩ := at_T26 HR0.out x9_2 p367 q367
          cases e367
          replace p367 := eq_true p367
          replace q367 := eq_true q367
          have p368 : 0 ≤ (x9_2 : Int) := of_decide_eq_true (by first | (with_reducible assumption) | assumption)
          have q368 : x9_2 < (l2.length : Int) := of_decide_eq_true (by first | (with_reducible assumption) | assumption)
          obtain ⟨ad368, e368, hx368_0, hx368_1, hx368_2, hx368_3, hx368_4, hx368_5, hx368_6⟩ := at_T26 HR2.out x9_2 p368 q368
          cases e368
          replace p368 := eq_true p368
          replace q368 := eq_true q368
          go_wp2
          repeat (go_quiet (fail); try go_wp2)
          go_ret
          exact ⟨by first | rfl | (simp; done) | (simp [*]; done), by repeat (first | exact Drawn0.refl _ | apply Drawn0.step)⟩
         ·
          rw [if_neg c11] at H
          have c11b0 : ((!(((rd_T26 l0 x9_2).f0.f0) == ((rd_T26 l2 x9_2).f0.f0)) || (!(((rd_T26 l0 x9_2).f0.f1) == ((rd_T26 l2 x9_2).f0.f1)))) || (!(((rd_T26 l0 x9_2).f1) == ((rd_T26 l2 x9_2).f1)) || (!(((rd_T26 l0 x9_2).f2) == ((rd_T26 l2 x9_2).f2)) || (!(((rd_T26 l0 x9_2).f3) == ((rd_T26 l2 x9_2).f3)) || ((!(((rd_T26 l0 x9_2).f4.f0) == ((rd_T26 l2 x9_2).f4.f0)) || (!(((rd_T26 l0 x9_2).f4.f1) == ((rd_T26 l2 x9_2).f4.f1))))))))) = false := by simpa using c11
          clear c11
          have H' := Aside0.mk H
          clear H
          have p367 : 0 ≤ (x9_2 : Int) := of_decide_eq_true (by first | (with_reducible assumption) | assumption)
          have q367 : x9_2 < (l0.length : Int) := of_decide_eq_true (by first | (with_reducible assumption) | assumption)
          obtain ⟨ad367, e367, hx367_0, hx367_1, hx367_2, hx367_3, hx367_4, hx367_5, hx367_6⟩ := at_T26 HR0.out x9_2 p367 q367
          cases e367
          replace p367 := eq_true p367
          replace q367 := eq_true q367
          have p368 : 0 ≤ (x9_2 : Int) := of_decide_eq_true (by first | (with_reducible assumption) | assumption)
          have q368 : x9_2 < (l2.length : Int) := of_decide_eq_true (by first | (with_reducible assumption) | assumption)
          obtain ⟨ad368, e368, hx368_0, hx368_1, hx368_2, hx368_3, hx368_4, hx368_5, hx368_6⟩ := at_T26 HR2.out x9_2 p368 q368
          cases e368
          replace p368 := eq_true p368
          replace q368 := eq_true q368
          go_wp2
          repeat (go_quiet (fail); try go_wp2)
          go_roundg k2
          case measure => have := HJ4.out; have := HK2.out; omega
          case rel => exact ⟨(wrap64 (x9_2 + 1)), (by first | rfl | (simp; done) | (simp [*]; done)), H', ⟨by have := HJ4.out; have := HK2.out; omega⟩, by repeat (first | exact Drawn0.refl _ | apply Drawn0.step)⟩
        ·
         rw [if_neg c10] at H
         exact absurd H (by simp)
       ·
        rw [if_neg c9] at H
        exact absurd H (by simp)
      ·
       rw [if_neg c8] at H
       have c8b0 : decide (x9_2 < (l0.length : Int)) = false := decide_eq_false c8
       clear c8
       have H' := Aside0.mk H
       clear H
       go_wp2
       repeat (go_quiet (fail); try go_wp2)
       go_loopg [10] k2 (fun kq v10 w' => ∃ (x10_3 : Int), v10 = .int .i64 x10_3 ∧ Aside0 (payrolllaw7_same.l1 kq l1 l3 x10_3 = some r) ∧ Aside0 (kq ≤ k2) ∧ Drawn0 w w')
       case atStart => exact ⟨(0), (by first | rfl | (simp; done) | (simp [*]; done)), H', ⟨Nat.le_refl _⟩, by repeat (first | exact Drawn0.refl _ | apply Drawn0.step)⟩
       case round =>
        clear H'
        try clear c1
        try clear c2
        try clear p2
        try clear c3
        try clear p3
        try clear q3
        try clear hx3
        try clear c4
        try clear c6
        try clear c6b0
        try clear c6b1
        try clear c6b2
        try clear p6
        try clear c7
        try clear c8
        try clear c8b0
        try clear c9
        try clear c9b0
        try clear c10
        try clear c10b0
        try clear c11
        try clear c11b0
        try clear hx367_0
        try clear hx367_1
        try clear hx367_2
        try clear hx367_3
        try clear hx367_4
        try clear hx367_5
        try clear hx367_6
        try clear hx368_0
        try clear hx368_1
        try clear hx368_2
        try clear hx368_3
        try clear hx368_4
        try clear hx368_5
        try clear hx368_6
        try clear p2
        try clear p367
        try clear p368
        try clear q367
        try clear q368
        obtain ⟨x10_3, rfl, HA, HK3, ⟨m3, rfl⟩⟩ := hrel
        cases gk with
        | zero => exact absurd HA.out (by simp [payrolllaw7_same.l1])
        | succ k3 =>
         have H := HA.out
         clear HA
         simp only [payrolllaw7_same.l1] at H
         by_cases c12 : x10_3 < (l1.length : Int)
         ·
          rw [if_pos c12] at H
          have c12b0 : decide (x10_3 < (l1.length : Int)) = true := decide_eq_true c12
          clear c12
          by_cases c13 : 0 ≤ x10_3
          ·
           rw [if_pos c13] at H
           have c13b0 : decide (0 ≤ x10_3) = true := decide_eq_true c13
           clear c13
           by_cases c14 : x10_3 < (l3.length : Int)
           ·
            rw [if_pos c14] at H
            have c14b0 : decide (x10_3 < (l3.length : Int)) = true := decide_eq_true c14
            clear c14
            by_cases c15 : (!(((rd_T55 l1 x10_3).f0) == ((rd_T55 l3 x10_3).f0)) || (!(((rd_T55 l1 x10_3).f1) == ((rd_T55 l3 x10_3).f1)))) = true
            ·
             rw [if_pos c15] at H
             have c15b0 : (!(((rd_T55 l1 x10_3).f0) == ((rd_T55 l3 x10_3).f0)) || (!(((rd_T55 l1 x10_3).f1) == ((rd_T55 l3 x10_3).f1)))) = true := c15
             clear c15
             obtain rfl := Option.some.inj H
             have p369 : 0 ≤ (x10_3 : Int) := of_decide_eq_true (by first | (with_reducible assumption) | assumption)
             have q369 : x10_3 < (l1.length : Int) := of_decide_eq_true (by first | (with_reducible assumption) | assumption)
             obtain ⟨ad369, e369, hx369_0, hx369_1⟩ := at_T55 HR1.out x10_3 p369 q369
             cases e369
             replace p369 := eq_true p369
             replace q369 := eq_true q369
             have p370 : 0 ≤ (x10_3 : Int) := of_decide_eq_true (by first | (with_reducible assumption) | assumption)
             have q370 : x10_3 < (l3.length : Int) := of_decide_eq_true (by first | (with_reducible assumption) | assumption)
             obtain ⟨ad370, e370, hx370_0, hx370_1⟩ := at_T55 HR3.out x10_3 p370 q370
             cases e370
             replace p370 := eq_true p370
             replace q370 := eq_true q370
             go_wp2
             repeat (go_quiet (fail); try go_wp2)
             go_ret
             exact ⟨by first | rfl | (simp; done) | (simp [*]; done), by repeat (first | exact Drawn0.refl _ | apply Drawn0.step)⟩
            ·
             rw [if_neg c15] at H
             have c15b0 : (!(((rd_T55 l1 x10_3).f0) == ((rd_T55 l3 x10_3).f0)) || (!(((rd_T55 l1 x10_3).f1) == ((rd_T55 l3 x10_3).f1)))) = false := by simpa using c15
             clear c15
             have H' := Aside0.mk H
             clear H
             have p369 : 0 ≤ (x10_3 : Int) := of_decide_eq_true (by first | (with_reducible assumption) | assumption)
             have q369 : x10_3 < (l1.length : Int) := of_decide_eq_true (by first | (with_reducible assumption) | assumption)
             obtain ⟨ad369, e369, hx369_0, hx369_1⟩ := at_T55 HR1.out x10_3 p369 q369
             cases e369
             replace p369 := eq_true p369
             replace q369 := eq_true q369
             have p370 : 0 ≤ (x10_3 : Int) := of_decide_eq_true (by first | (with_reducible assumption) | assumption)
             have q370 : x10_3 < (l3.length : Int) := of_decide_eq_true (by first | (with_reducible assumption) | assumption)
             obtain ⟨ad370, e370, hx370_0, hx370_1⟩ := at_T55 HR3.out x10_3 p370 q370
             cases e370
             replace p370 := eq_true p370
             replace q370 := eq_true q370
             go_wp2
             repeat (go_quiet (fail); try go_wp2)
             go_roundg k3
             case measure => have := HJ4.out; have := HK2.out; have := HK3.out; omega
             case rel => exact ⟨(wrap64 (x10_3 + 1)), (by first | rfl | (simp; done) | (simp [*]; done)), H', ⟨by have := HJ4.out; have := HK2.out; have := HK3.out; omega⟩, by repeat (first | exact Drawn0.refl _ | apply Drawn0.step)⟩
           ·
            rw [if_neg c14] at H
            exact absurd H (by simp)
          ·
           rw [if_neg c13] at H
           exact absurd H (by simp)
         ·
          rw [if_neg c12] at H
          have c12b0 : decide (x10_3 < (l1.length : Int)) = false := decide_eq_false c12
          clear c12
          obtain rfl := Option.some.inj H
          go_wp2
          repeat (go_quiet (fail); try go_wp2)
          go_ret
          exact ⟨by first | rfl | (simp; done) | (simp [*]; done), by repeat (first | exact Drawn0.refl _ | apply Drawn0.step)⟩

end Go.Proofs.Ytopigdnffnondaa.P
