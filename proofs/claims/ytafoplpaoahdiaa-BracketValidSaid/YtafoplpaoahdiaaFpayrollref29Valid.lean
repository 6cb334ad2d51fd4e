/- Proved here: that the Go function payrollref29_Valid computes the plain function of that name (the machine side of the laws, reworked from a print; no condition of its own). -/
import Derived.Test.YtafoplpaoahdiaaProg
import Derived.Test.YtafoplpaoahdiaaV1
import Derived.Test.YtafoplpaoahdiaaFPRE1
namespace Go.Proofs.Ytafoplpaoahdiaa.P
open Go.RowKit Go.Proofs.YtafoplpaoahdiaaW.PrintWords Go.Proofs.YtafoplpaoahdiaaW.PrintLast Go.Proofs.YtafoplpaoahdiaaW.PrintMore
attribute [local go_sem] max2_int min2_int max_two min_two max_three min_three max_four min_four   -- for this text's walks alone
set_option linter.unusedVariables false
set_option linter.unusedSimpArgs false

mutual
def payrollref29_Valid.j0 : Nat → List (S30) → Bool → Option (Bool)
 | 0, _, _ => none
 | k + 1, x0, x18 => if x18 = true then (some false) else (payrollref29_Valid.l0 k x0 0)
def payrollref29_Valid.l0 : Nat → List (S30) → Int → Option (Bool)
 | 0, _, _ => none
 | k + 1, x0, x3 => if x3 < (x0.length : Int) then (if x3 > 0 then (if 0 ≤ x3 then (if 0 ≤ (wrap64 (x3 - 1)) then (if (wrap64 (x3 - 1)) < (x0.length : Int) then (if ((rd_T30 x0 x3).f0) ≤ ((rd_T30 x0 (wrap64 (x3 - 1))).f0) then (some false) else (if ((rd_T30 x0 x3).f0) > 1000000000000 then (some false) else (if ((rd_T30 x0 x3).f1) < 0 then (some false) else (if ((rd_T30 x0 x3).f1) > 1000000 then (some false) else (payrollref29_Valid.l0 k x0 (wrap64 (x3 + 1))))))) else (none)) else (none)) else (none)) else (if 0 ≤ x3 then (if ((rd_T30 x0 x3).f0) > 1000000000000 then (some false) else (if ((rd_T30 x0 x3).f1) < 0 then (some false) else (if ((rd_T30 x0 x3).f1) > 1000000 then (some false) else (payrollref29_Valid.l0 k x0 (wrap64 (x3 + 1)))))) else (none))) else (some true)
end
def payrollref29_Valid.f (k : Nat) (l0 : List (S30)) : Option (Bool) := if (l0.length : Int) = 0 then (payrollref29_Valid.j0 k l0 true) else (if (l0.length : Int) > 24 then (payrollref29_Valid.j0 k l0 true) else (if 0 < (l0.length : Int) then (payrollref29_Valid.j0 k l0 (((rd_T30 l0 0).f0) != 0)) else (none)))
theorem payrollref29_Valid.mono_l : ∀ k, (∀ y0 y1, LeO (payrollref29_Valid.j0 k y0 y1) (payrollref29_Valid.j0 (k + 1) y0 y1)) ∧ (∀ y0 y1, LeO (payrollref29_Valid.l0 k y0 y1) (payrollref29_Valid.l0 (k + 1) y0 y1))
 | 0 => ⟨fun _ _ r h => by simp [payrollref29_Valid.j0] at h, fun _ _ r h => by simp [payrollref29_Valid.l0] at h⟩
 | k + 1 => by
  obtain ⟨ih0, ih1⟩ := payrollref29_Valid.mono_l k
  refine ⟨?_, ?_⟩
  ·
   intro y0 y1
   unfold payrollref29_Valid.j0
   repeat' first
   | (with_reducible exact ih0 _ _)
   | (with_reducible exact ih1 _ _)
   | (with_reducible exact LeO.refl _)
   | (with_reducible exact LeO.none _)
   | (with_reducible refine LeO.ite ?_ ?_)
   | (with_reducible refine LeO.bind ?_ (fun _ => ?_))
   | exact ih0 _ _
   | exact ih1 _ _
   | exact LeO.none _
   | refine LeO.ite ?_ ?_
   | refine LeO.bind ?_ (fun _ => ?_)
  ·
   intro y0 y1
   unfold payrollref29_Valid.l0
   repeat' first
   | (with_reducible exact ih0 _ _)
   | (with_reducible exact ih1 _ _)
   | (with_reducible exact LeO.refl _)
   | (with_reducible exact LeO.none _)
   | (with_reducible refine LeO.ite ?_ ?_)
   | (with_reducible refine LeO.bind ?_ (fun _ => ?_))
   | exact ih0 _ _
   | exact ih1 _ _
   | exact LeO.none _
   | refine LeO.ite ?_ ?_
   | refine LeO.bind ?_ (fun _ => ?_)
theorem payrollref29_Valid.mono : ∀ a0 k, LeO (payrollref29_Valid.f k a0) (payrollref29_Valid.f (k + 1) a0) := by
 intro a0 k
 obtain ⟨ih0, ih1⟩ := payrollref29_Valid.mono_l k
 unfold payrollref29_Valid.f
 repeat' first
   | (with_reducible exact ih0 _ _)
   | (with_reducible exact ih1 _ _)
   | (with_reducible exact LeO.refl _)
   | (with_reducible exact LeO.none _)
   | (with_reducible refine LeO.ite ?_ ?_)
   | (with_reducible refine LeO.bind ?_ (fun _ => ?_))
   | exact ih0 _ _
   | exact ih1 _ _
   | exact LeO.none _
   | refine LeO.ite ?_ ?_
   | refine LeO.bind ?_ (fun _ => ?_)
set_option maxHeartbeats 8000000 in
set_option maxRecDepth 100000 in
theorem payrollref29_Valid.calls (k : Nat) (A0 : Option Addr) (c0 : Nat) (l0 : List (S30)) (r : Bool) (w : World) (hr0 : Kd.C k30 w A0 l0.length l0) (hc0 : l0.length ≤ c0) (h : payrollref29_Valid.f k l0 = some r) :
  Calls Try.prog 18 #[.slice A0 l0.length c0] w fun e w' => e = .returned (.bool r) ∧ Drawn0 w w' := by
 have HR0 := Aside0.mk hr0
 have HC0 := Aside0.mk hc0
 clear hr0 hc0
 have H : (if (l0.length : Int) = 0 then (payrollref29_Valid.j0 k l0 true) else (if (l0.length : Int) > 24 then (payrollref29_Valid.j0 k l0 true) else (if 0 < (l0.length : Int) then (payrollref29_Valid.j0 k l0 (((rd_T30 l0 0).f0) != 0)) else (none)))) = some r := h
 clear h
 have HC2 := Aside0.mk H
 clear H
 go_enter Try.func18, Try.ntmps18
 go_upto_region 1 with (fail)
 repeat (go_quiet (fail); go_upto_region 1 with (fail))
 go_cut [18] (fun v18 wc => ∃ (kq : Nat) (x18_1 : Bool), v18 = .bool x18_1 ∧ Aside0 (payrollref29_Valid.j0 kq l0 x18_1 = some r) ∧ Aside0 (kq ≤ k) ∧ Drawn0 w wc)
 case first =>
  have H := HC2.out
  clear HC2
  by_cases c3 : (l0.length : Int) = 0
  ·
   rw [if_pos c3] at H
   have c3b0 : ((l0.length : Int) == 0) = true := beq_iff_eq.mpr c3
   have c3b1 : ((l0.length : Int) != 0) = false := bne_eq_false_iff_eq.mpr c3
   clear c3
   (first | rw [c3b0] | (simp only [i64_w, i32_w]; rw [c3b0]) | skip)
   have H' := Aside0.mk H
   clear H
   go_wp2
   repeat (go_quiet (fail); try go_wp2)
   go_meet
   case rel => exact ⟨_, (true), (by first | rfl | (simp; done) | (simp [*]; done)), H', ⟨by first | omega | exact Nat.le_refl _⟩, by repeat (first | exact Drawn0.refl _ | apply Drawn0.step)⟩
  ·
   rw [if_neg c3] at H
   have c3b0 : ((l0.length : Int) == 0) = false := beq_eq_false_iff_ne.mpr c3
   have c3b1 : ((l0.length : Int) != 0) = true := bne_iff_ne.mpr c3
   have c3b2 : ¬ (l0 = []) := fun h_ => c3 (by rw [h_]; rfl)
   (first | rw [c3b0] | (simp only [i64_w, i32_w]; rw [c3b0]) | skip)
   by_cases c4 : (l0.length : Int) > 24
   ·
    rw [if_pos c4] at H
    have c4b0 : decide (24 < (l0.length : Int)) = true := decide_eq_true c4
    have c4b1 : decide (24 < l0.length) = true := decide_eq_true (by omega)
    clear c4
    have H' := Aside0.mk H
    clear H
    go_wp2
    repeat (go_quiet (fail); try go_wp2)
    go_meet
    case rel => exact ⟨_, (true), (by first | rfl | (simp; done) | (simp [*]; done)), H', ⟨by first | omega | exact Nat.le_refl _⟩, by repeat (first | exact Drawn0.refl _ | apply Drawn0.step)⟩
   ·
    rw [if_neg c4] at H
    have c4b0 : decide (24 < (l0.length : Int)) = false := decide_eq_false c4
    have c4b1 : decide (24 < l0.length) = false := decide_eq_false (by omega)
    clear c4
    by_cases c5 : 0 < (l0.length : Int)
    ·
     rw [if_pos c5] at H
     have c5b0 : decide (0 < (l0.length : Int)) = true := decide_eq_true c5
     have c5b1 : decide (0 < l0.length) = true := decide_eq_true (by omega)
     clear c5
     have H' := Aside0.mk H
     clear H
     have p206 : 0 ≤ (0 : Int) := (by omega)
     have q206 : 0 < (l0.length : Int) := of_decide_eq_true (by first | (with_reducible assumption) | assumption)
     obtain ⟨ad206, e206, hx206_0, hx206_1⟩ := at_T30 HR0.out 0 p206 q206
     cases e206
     have qi206 : (0 < l0.length) = True := eq_true (by omega)
     (try rw [show ((0 : Int)).toNat = 0 from rfl] at hx206_0)
     (try rw [show 0 * 2 = 0 from rfl] at hx206_0)
     (try rw [Addr.add_zero'] at hx206_0)
     (try rw [show ((0 : Int)).toNat = 0 from rfl] at hx206_1)
     (try rw [show 0 * 2 = 0 from rfl] at hx206_1)
     (try rw [Addr.add_zero'] at hx206_1)
     replace p206 := eq_true p206
     replace q206 := eq_true q206
     go_wp2
     repeat (go_quiet (fail); try go_wp2)
     go_meet
     case rel => exact ⟨_, ((((rd_T30 l0 0).f0) != 0)), (by first | rfl | (simp; done) | (simp [*]; done)), H', ⟨by first | omega | exact Nat.le_refl _⟩, by repeat (first | exact Drawn0.refl _ | apply Drawn0.step)⟩
    ·
     rw [if_neg c5] at H
     exact absurd H (by simp)
 case rest =>
  clear HC2
  try clear c1
  try clear p2
  try clear q2
  try clear hx2
  try clear qi2
  try clear c3
  try clear c3b0
  try clear c3b1
  try clear c3b2
  try clear c4
  try clear c4b0
  try clear c4b1
  try clear c5
  try clear c5b0
  try clear c5b1
  try clear hx206_0
  try clear hx206_1
  try clear p206
  try clear q206
  obtain ⟨kq, x18_1, rfl, HA, HJ1, ⟨mc1, rfl⟩⟩ := hcut
  cases kq with
  | zero => exact absurd HA.out (by simp [payrollref29_Valid.j0])
  | succ kj1 =>
   have H := HA.out
   clear HA
   simp only [payrollref29_Valid.j0] at H
   by_cases c6 : x18_1 = true
   ·
    subst c6
    have H1 : (some false) = some r := by rw [if_pos rfl] at H; exact H
    clear H
    have H := H1
    clear H1
    obtain rfl := Option.some.inj H
    go_wp2
    repeat (go_quiet (fail); try go_wp2)
    go_ret
    exact ⟨by first | rfl | (simp; done) | (simp [*]; done), by repeat (first | exact Drawn0.refl _ | apply Drawn0.step)⟩
   ·
    replace c6 := Bool.eq_false_iff.mpr c6
    subst c6
    have H1 : (payrollref29_Valid.l0 kj1 l0 0) = some r := by rw [if_neg (show ¬ (false = true) by decide)] at H; exact H
    clear H
    have H := H1
    clear H1
    have H' := Aside0.mk H
    clear H
    go_wp2
    repeat (go_quiet (fail); try go_wp2)
    go_loopg [3] kj1 (fun kq v3 w' => ∃ (x3_2 : Int), v3 = .int .i64 x3_2 ∧ Aside0 (payrollref29_Valid.l0 kq l0 x3_2 = some r) ∧ Aside0 (kq ≤ kj1) ∧ Drawn0 w w')
    case atStart => exact ⟨(0), (by first | rfl | (simp; done) | (simp [*]; done)), H', ⟨Nat.le_refl _⟩, by repeat (first | exact Drawn0.refl _ | apply Drawn0.step)⟩
    case round =>
     clear H'
     try clear c1
     try clear p2
     try clear q2
     try clear hx2
     try clear qi2
     try clear c3
     try clear c3b0
     try clear c3b1
     try clear c3b2
     try clear c4
     try clear c4b0
     try clear c4b1
     try clear c5
     try clear c5b0
     try clear c5b1
     try clear c6
     try clear hx206_0
     try clear hx206_1
     try clear p2
     try clear p206
     try clear q2
     try clear q206
     obtain ⟨x3_2, rfl, HA, HK2, ⟨m2, rfl⟩⟩ := hrel
     cases gk with
     | zero => exact absurd HA.out (by simp [payrollref29_Valid.l0])
     | succ k2 =>
      have H := HA.out
      clear HA
      simp only [payrollref29_Valid.l0] at H
      by_cases c7 : x3_2 < (l0.length : Int)
      ·
       rw [if_pos c7] at H
       have c7b0 : decide (x3_2 < (l0.length : Int)) = true := decide_eq_true c7
       clear c7
       by_cases c8 : x3_2 > 0
       ·
        rw [if_pos c8] at H
        have c8b0 : decide (0 < x3_2) = true := decide_eq_true c8
        clear c8
        by_cases c9 : 0 ≤ x3_2
        ·
         rw [if_pos c9] at H
         have c9b0 : decide (0 ≤ x3_2) = true := decide_eq_true c9
         clear c9
         obtain ⟨ji10, hji10⟩ : ∃ j_ : Int, (wrap64 (x3_2 - 1)) = j_ := ⟨_, rfl⟩
         replace H : (if 0 ≤ (ji10) then (if (ji10) < (l0.length : Int) then (if ((rd_T30 l0 x3_2).f0) ≤ ((rd_T30 l0 (ji10)).f0) then (some false) else (if ((rd_T30 l0 x3_2).f0) > 1000000000000 then (some false) else (if ((rd_T30 l0 x3_2).f1) < 0 then (some false) else (if ((rd_T30 l0 x3_2).f1) > 1000000 then (some false) else (payrollref29_Valid.l0 k2 l0 (wrap64 (x3_2 + 1))))))) else (none)) else (none)) = some r := by first | (rw [hji10] at H; exact H) | (simp only [hji10] at H ⊢; exact H)
         have hji10w : (IntKind.i64.wrap (x3_2 - 1)) = ji10 := (i64_w _).trans hji10
         by_cases c11 : 0 ≤ (ji10)
         ·
          rw [if_pos c11] at H
          have c11b0 : decide (0 ≤ (ji10)) = true := decide_eq_true c11
          clear c11
          by_cases c12 : (ji10) < (l0.length : Int)
          ·
           rw [if_pos c12] at H
           have c12b0 : decide ((ji10) < (l0.length : Int)) = true := decide_eq_true c12
           clear c12
           by_cases c13 : ((rd_T30 l0 x3_2).f0) ≤ ((rd_T30 l0 (ji10)).f0)
           ·
            rw [if_pos c13] at H
            have c13b0 : decide (((rd_T30 l0 x3_2).f0) ≤ ((rd_T30 l0 (ji10)).f0)) = true := decide_eq_true c13
            clear c13
            obtain rfl := Option.some.inj H
            have p207 : 0 ≤ (x3_2 : Int) := of_decide_eq_true (by first | (with_reducible assumption) | assumption)
            have q207 : x3_2 < (l0.length : Int) := of_decide_eq_true (by first | (with_reducible assumption) | assumption)
            obtain ⟨ad207, e207, hx207_0, hx207_1⟩ := at_T30 HR0.out x3_2 p207 q207
            cases e207
            replace p207 := eq_true p207
            replace q207 := eq_true q207
            have p208 : 0 ≤ ((ji10) : Int) := of_decide_eq_true (by first | (with_reducible assumption) | assumption)
            have q208 : (ji10) < (l0.length : Int) := of_decide_eq_true (by first | (with_reducible assumption) | assumption)
            obtain ⟨ad208, e208, hx208_0, hx208_1⟩ := at_T30 HR0.out (ji10) p208 q208
            obtain rfl : ad207 = ad208 := (by injection e208)
            replace p208 := eq_true p208
            replace q208 := eq_true q208
            go_wp2
            repeat (go_quiet (fail); try go_wp2)
            go_ret
            exact ⟨by first | rfl | (simp; done) | (simp only [← hji10] <;> (first | rfl | simp)) | (simp [*]; done), by repeat (first | exact Drawn0.refl _ | apply Drawn0.step)⟩
           ·
            rw [if_neg c13] at H
            have c13b0 : decide (((rd_T30 l0 x3_2).f0) ≤ ((rd_T30 l0 (ji10)).f0)) = false := decide_eq_false c13
            clear c13
            by_cases c14 : ((rd_T30 l0 x3_2).f0) > 1000000000000
            ·
             rw [if_pos c14] at H
             have c14b0 : decide (1000000000000 < ((rd_T30 l0 x3_2).f0)) = true := decide_eq_true c14
             clear c14
             obtain rfl := Option.some.inj H
             have p207 : 0 ≤ (x3_2 : Int) := of_decide_eq_true (by first | (with_reducible assumption) | assumption)
             have q207 : x3_2 < (l0.length : Int) := of_decide_eq_true (by first | (with_reducible assumption) | assumption)
             obtain ⟨ad207, e207, hx207_0, hx207_1⟩ := at_T30 HR0.out x3_2 p207 q207
             cases e207
             replace p207 := eq_true p207
             replace q207 := eq_true q207
             have p208 : 0 ≤ ((ji10) : Int) := of_decide_eq_true (by first | (with_reducible assumption) | assumption)
             have q208 : (ji10) < (l0.length : Int) := of_decide_eq_true (by first | (with_reducible assumption) | assumption)
             obtain ⟨ad208, e208, hx208_0, hx208_1⟩ := at_T30 HR0.out (ji10) p208 q208
             obtain rfl : ad207 = ad208 := (by injection e208)
             replace p208 := eq_true p208
             replace q208 := eq_true q208
             have p209 : 0 ≤ (x3_2 : Int) := of_decide_eq_true (by first | (with_reducible assumption) | assumption)
             have q209 : x3_2 < (l0.length : Int) := of_decide_eq_true (by first | (with_reducible assumption) | assumption)
             obtain ⟨ad209, e209, hx209_0, hx209_1⟩ := at_T30 HR0.out x3_2 p209 q209
             obtain rfl : ad207 = ad209 := (by injection e209)
             replace p209 := eq_true p209
             replace q209 := eq_true q209
             go_wp2
             repeat (go_quiet (fail); try go_wp2)
             go_ret
             exact ⟨by first | rfl | (simp; done) | (simp only [← hji10] <;> (first | rfl | simp)) | (simp [*]; done), by repeat (first | exact Drawn0.refl _ | apply Drawn0.step)⟩
            ·
             rw [if_neg c14] at H
             have c14b0 : decide (1000000000000 < ((rd_T30 l0 x3_2).f0)) = false := decide_eq_false c14
             clear c14
             by_cases c15 : ((rd_T30 l0 x3_2).f1) < 0
             ·
              rw [if_pos c15] at H
              have c15b0 : decide (((rd_T30 l0 x3_2).f1) < 0) = true := decide_eq_true c15
              clear c15
              obtain rfl := Option.some.inj H
              have p207 : 0 ≤ (x3_2 : Int) := of_decide_eq_true (by first | (with_reducible assumption) | assumption)
              have q207 : x3_2 < (l0.length : Int) := of_decide_eq_true (by first | (with_reducible assumption) | assumption)
              obtain ⟨ad207, e207, hx207_0, hx207_1⟩ := at_T30 HR0.out x3_2 p207 q207
              cases e207
              replace p207 := eq_true p207
              replace q207 := eq_true q207
              have p208 : 0 ≤ ((ji10) : Int) := of_decide_eq_true (by first | (with_reducible assumption) | assumption)
              have q208 : (ji10) < (l0.length : Int) := of_decide_eq_true (by first | (with_reducible assumption) | assumption)
              obtain ⟨ad208, e208, hx208_0, hx208_1⟩ := at_T30 HR0.out (ji10) p208 q208
              obtain rfl : ad207 = ad208 := (by injection e208)
              replace p208 := eq_true p208
              replace q208 := eq_true q208
              have p209 : 0 ≤ (x3_2 : Int) := of_decide_eq_true (by first | (with_reducible assumption) | assumption)
              have q209 : x3_2 < (l0.length : Int) := of_decide_eq_true (by first | (with_reducible assumption) | assumption)
              obtain ⟨ad209, e209, hx209_0, hx209_1⟩ := at_T30 HR0.out x3_2 p209 q209
              obtain rfl : ad207 = ad209 := (by injection e209)
              replace p209 := eq_true p209
              replace q209 := eq_true q209
              have p210 : 0 ≤ (x3_2 : Int) := of_decide_eq_true (by first | (with_reducible assumption) | assumption)
              have q210 : x3_2 < (l0.length : Int) := of_decide_eq_true (by first | (with_reducible assumption) | assumption)
              obtain ⟨ad210, e210, hx210_0, hx210_1⟩ := at_T30 HR0.out x3_2 p210 q210
              obtain rfl : ad207 = ad210 := (by injection e210)
              replace p210 := eq_true p210
              replace q210 := eq_true q210
              go_wp2
              repeat (go_quiet (fail); try go_wp2)
              go_ret
              exact ⟨by first | rfl | (simp; done) | (simp only [← hji10] <;> (first | rfl | simp)) | (simp [*]; done), by repeat (first | exact Drawn0.refl _ | apply Drawn0.step)⟩
             ·
              rw [if_neg c15] at H
              have c15b0 : decide (((rd_T30 l0 x3_2).f1) < 0) = false := decide_eq_false c15
              clear c15
              by_cases c16 : ((rd_T30 l0 x3_2).f1) > 1000000
              ·
               rw [if_pos c16] at H
               have c16b0 : decide (1000000 < ((rd_T30 l0 x3_2).f1)) = true := decide_eq_true c16
               clear c16
               obtain rfl := Option.some.inj H
               have p207 : 0 ≤ (x3_2 : Int) := of_decide_eq_true (by first | (with_reducible assumption) | assumption)
               have q207 : x3_2 < (l0.length : Int) := of_decide_eq_true (by first | (with_reducible assumption) | assumption)
               obtain ⟨ad207, e207, hx207_0, hx207_1⟩ := at_T30 HR0.out x3_2 p207 q207
               cases e207
               replace p207 := eq_true p207
               replace q207 := eq_true q207
               have p208 : 0 ≤ ((ji10) : Int) := of_decide_eq_true (by first | (with_reducible assumption) | assumption)
               have q208 : (ji10) < (l0.length : Int) := of_decide_eq_true (by first | (with_reducible assumption) | assumption)
               obtain ⟨ad208, e208, hx208_0, hx208_1⟩ := at_T30 HR0.out (ji10) p208 q208
               obtain rfl : ad207 = ad208 := (by injection e208)
               replace p208 := eq_true p208
               replace q208 := eq_true q208
               have p209 : 0 ≤ (x3_2 : Int) := of_decide_eq_true (by first | (with_reducible assumption) | assumption)
               have q209 : x3_2 < (l0.length : Int) := of_decide_eq_true (by first | (with_reducible assumption) | assumption)
               obtain ⟨ad209, e209, hx209_0, hx209_1⟩ := at_T30 HR0.out x3_2 p209 q209
               obtain rfl : ad207 = ad209 := (by injection e209)
               replace p209 := eq_true p209
               replace q209 := eq_true q209
               have p210 : 0 ≤ (x3_2 : Int) := of_decide_eq_true (by first | (with_reducible assumption) | assumption)
               have q210 : x3_2 < (l0.length : Int) := of_decide_eq_true (by first | (with_reducible assumption) | assumption)
               obtain ⟨ad210, e210, hx210_0, hx210_1⟩ := at_T30 HR0.out x3_2 p210 q210
               obtain rfl : ad207 = ad210 := (by injection e210)
               replace p210 := eq_true p210
               replace q210 := eq_true q210
               have p211 : 0 ≤ (x3_2 : Int) := of_decide_eq_true (by first | (with_reducible assumption) | assumption)
               have q211 : x3_2 < (l0.length : Int) := of_decide_eq_true (by first | (with_reducible assumption) | assumption)
               obtain ⟨ad211, e211, hx211_0, hx211_1⟩ := at_T30 HR0.out x3_2 p211 q211
               obtain rfl : ad207 = ad211 := (by injection e211)
               replace p211 := eq_true p211
               replace q211 := eq_true q211
               go_wp2
               repeat (go_quiet (fail); try go_wp2)
               go_ret
               exact ⟨by first | rfl | (simp; done) | (simp only [← hji10] <;> (first | rfl | simp)) | (simp [*]; done), by repeat (first | exact Drawn0.refl _ | apply Drawn0.step)⟩
              ·
               rw [if_neg c16] at H
               have c16b0 : decide (1000000 < ((rd_T30 l0 x3_2).f1)) = false := decide_eq_false c16
               clear c16
               have H' := Aside0.mk H
               clear H
               have p207 : 0 ≤ (x3_2 : Int) := of_decide_eq_true (by first | (with_reducible assumption) | assumption)
               have q207 : x3_2 < (l0.length : Int) := of_decide_eq_true (by first | (with_reducible assumption) | assumption)
               obtain ⟨ad207, e207, hx207_0, hx207_1⟩ := at_T30 HR0.out x3_2 p207 q207
               cases e207
               replace p207 := eq_true p207
               replace q207 := eq_true q207
               have p208 : 0 ≤ ((ji10) : Int) := of_decide_eq_true (by first | (with_reducible assumption) | assumption)
               have q208 : (ji10) < (l0.length : Int) := of_decide_eq_true (by first | (with_reducible assumption) | assumption)
               obtain ⟨ad208, e208, hx208_0, hx208_1⟩ := at_T30 HR0.out (ji10) p208 q208
               obtain rfl : ad207 = ad208 := (by injection e208)
               replace p208 := eq_true p208
               replace q208 := eq_true q208
               have p209 : 0 ≤ (x3_2 : Int) := of_decide_eq_true (by first | (with_reducible assumption) | assumption)
               have q209 : x3_2 < (l0.length : Int) := of_decide_eq_true (by first | (with_reducible assumption) | assumption)
               obtain ⟨ad209, e209, hx209_0, hx209_1⟩ := at_T30 HR0.out x3_2 p209 q209
               obtain rfl : ad207 = ad209 := (by injection e209)
               replace p209 := eq_true p209
               replace q209 := eq_true q209
               have p210 : 0 ≤ (x3_2 : Int) := of_decide_eq_true (by first | (with_reducible assumption) | assumption)
               have q210 : x3_2 < (l0.length : Int) := of_decide_eq_true (by first | (with_reducible assumption) | assumption)
               obtain ⟨ad210, e210, hx210_0, hx210_1⟩ := at_T30 HR0.out x3_2 p210 q210
               obtain rfl : ad207 = ad210 := (by injection e210)
               replace p210 := eq_true p210
               replace q210 := eq_true q210
               have p211 : 0 ≤ (x3_2 : Int) := of_decide_eq_true (by first | (with_reducible assumption) | assumption)
               have q211 : x3_2 < (l0.length : Int) := of_decide_eq_true (by first | (with_reducible assumption) | assumption)
               obtain ⟨ad211, e211, hx211_0, hx211_1⟩ := at_T30 HR0.out x3_2 p211 q211
               obtain rfl : ad207 = ad211 := (by injection e211)
               replace p211 := eq_true p211
               replace q211 := eq_true q211
               go_wp2
               repeat (go_quiet (fail); try go_wp2)
               go_roundg k2
               case measure => have := HJ1.out; have := HK2.out; omega
               case rel => exact ⟨(wrap64 (x3_2 + 1)), (by first | rfl | (simp; done) | (simp [*]; done)), H', ⟨by have := HJ1.out; have := HK2.out; omega⟩, by repeat (first | exact Drawn0.refl _ | apply Drawn0.step)⟩
          ·
           rw [if_neg c12] at H
           exact absurd H (by simp)
         ·
          rw [if_neg c11] at H
          exact absurd H (by simp)
        ·
         rw [if_neg c9] at H
         exact absurd H (by simp)
       ·
        rw [if_neg c8] at H
        have c8b0 : decide (0 < x3_2) = false := decide_eq_false c8
        clear c8
        by_cases c17 : 0 ≤ x3_2
        ·
         rw [if_pos c17] at H
         have c17b0 : decide (0 ≤ x3_2) = true := decide_eq_true c17
         clear c17
         by_cases c18 : ((rd_T30 l0 x3_2).f0) > 1000000000000
         ·
          rw [if_pos c18] at H
          have c18b0 : decide (1000000000000 < ((rd_T30 l0 x3_2).f0)) = true := decide_eq_true c18
          clear c18
          obtain rfl := Option.some.inj H
          have p212 : 0 ≤ (x3_2 : Int) := of_decide_eq_true (by first | (with_reducible assumption) | assumption)
          have q212 : x3_2 < (l0.length : Int) := of_decide_eq_true (by first | (with_reducible assumption) | assumption)
          obtain ⟨ad212, e212, hx212_0, hx212_1⟩ := at_T30 HR0.out x3_2 p212 q212
          cases e212
          replace p212 := eq_true p212
          replace q212 := eq_true q212
          go_wp2
          repeat (go_quiet (fail); try go_wp2)
          go_ret
          exact ⟨by first | rfl | (simp; done) | (simp [*]; done), by repeat (first | exact Drawn0.refl _ | apply Drawn0.step)⟩
         ·
          rw [if_neg c18] at H
          have c18b0 : decide (1000000000000 < ((rd_T30 l0 x3_2).f0)) = false := decide_eq_false c18
          clear c18
          by_cases c19 : ((rd_T30 l0 x3_2).f1) < 0
          ·
           rw [if_pos c19] at H
           have c19b0 : decide (((rd_T30 l0 x3_2).f1) < 0) = true := decide_eq_true c19
           clear c19
           obtain rfl := Option.some.inj H
           have p212 : 0 ≤ (x3_2 : Int) := of_decide_eq_true (by first | (with_reducible assumption) | assumption)
           have q212 : x3_2 < (l0.length : Int) := of_decide_eq_true (by first | (with_reducible assumption) | assumption)
           obtain ⟨ad212, e212, hx212_0, hx212_1⟩ := at_T30 HR0.out x3_2 p212 q212
           cases e212
           replace p212 := eq_true p212
           replace q212 := eq_true q212
           have p213 : 0 ≤ (x3_2 : Int) := of_decide_eq_true (by first | (with_reducible assumption) | assumption)
           have q213 : x3_2 < (l0.length : Int) := of_decide_eq_true (by first | (with_reducible assumption) | assumption)
           obtain ⟨ad213, e213, hx213_0, hx213_1⟩ := at_T30 HR0.out x3_2 p213 q213
           obtain rfl : ad212 = ad213 := (by injection e213)
           replace p213 := eq_true p213
           replace q213 := eq_true q213
           go_wp2
           repeat (go_quiet (fail); try go_wp2)
           go_ret
           exact ⟨by first | rfl | (simp; done) | (simp [*]; done), by repeat (first | exact Drawn0.refl _ | apply Drawn0.step)⟩
          ·
           rw [if_neg c19] at H
           have c19b0 : decide (((rd_T30 l0 x3_2).f1) < 0) = false := decide_eq_false c19
           clear c19
           by_cases c20 : ((rd_T30 l0 x3_2).f1) > 1000000
           ·
            rw [if_pos c20] at H
            have c20b0 : decide (1000000 < ((rd_T30 l0 x3_2).f1)) = true := decide_eq_true c20
            clear c20
            obtain rfl := Option.some.inj H
            have p212 : 0 ≤ (x3_2 : Int) := of_decide_eq_true (by first | (with_reducible assumption) | assumption)
            have q212 : x3_2 < (l0.length : Int) := of_decide_eq_true (by first | (with_reducible assumption) | assumption)
            obtain ⟨ad212, e212, hx212_0, hx212_1⟩ := at_T30 HR0.out x3_2 p212 q212
            cases e212
            replace p212 := eq_true p212
            replace q212 := eq_true q212
            have p213 : 0 ≤ (x3_2 : Int) := of_decide_eq_true (by first | (with_reducible assumption) | assumption)
            have q213 : x3_2 < (l0.length : Int) := of_decide_eq_true (by first | (with_reducible assumption) | assumption)
            obtain ⟨ad213, e213, hx213_0, hx213_1⟩ := at_T30 HR0.out x3_2 p213 q213
            obtain rfl : ad212 = ad213 := (by injection e213)
            replace p213 := eq_true p213
            replace q213 := eq_true q213
            have p214 : 0 ≤ (x3_2 : Int) := of_decide_eq_true (by first | (with_reducible assumption) | assumption)
            have q214 : x3_2 < (l0.length : Int) := of_decide_eq_true (by first | (with_reducible assumption) | assumption)
            obtain ⟨ad214, e214, hx214_0, hx214_1⟩ := at_T30 HR0.out x3_2 p214 q214
            obtain rfl : ad212 = ad214 := (by injection e214)
            replace p214 := eq_true p214
            replace q214 := eq_true q214
            go_wp2
            repeat (go_quiet (fail); try go_wp2)
            go_ret
            exact ⟨by first | rfl | (simp; done) | (simp [*]; done), by repeat (first | exact Drawn0.refl _ | apply Drawn0.step)⟩
           ·
            rw [if_neg c20] at H
            have c20b0 : decide (1000000 < ((rd_T30 l0 x3_2).f1)) = false := decide_eq_false c20
            clear c20
            have H' := Aside0.mk H
            clear H
            have p212 : 0 ≤ (x3_2 : Int) := of_decide_eq_true (by first | (with_reducible assumption) | assumption)
            have q212 : x3_2 < (l0.length : Int) := of_decide_eq_true (by first | (with_reducible assumption) | assumption)
            obtain ⟨ad212, e212, hx212_0, hx212_1⟩ := at_T30 HR0.out x3_2 p212 q212
            cases e212
            replace p212 := eq_true p212
            replace q212 := eq_true q212
            have p213 : 0 ≤ (x3_2 : Int) := of_decide_eq_true (by first | (with_reducible assumption) | assumption)
            have q213 : x3_2 < (l0.length : Int) := of_decide_eq_true (by first | (with_reducible assumption) | assumption)
            obtain ⟨ad213, e213, hx213_0, hx213_1⟩ := at_T30 HR0.out x3_2 p213 q213
            obtain rfl : ad212 = ad213 := (by injection e213)
            replace p213 := eq_true p213
            replace q213 := eq_true q213
            have p214 : 0 ≤ (x3_2 : Int) := of_decide_eq_true (by first | (with_reducible assumption) | assumption)
            have q214 : x3_2 < (l0.length : Int) := of_decide_eq_true (by first | (with_reducible assumption) | assumption)
            obtain ⟨ad214, e214, hx214_0, hx214_1⟩ := at_T30 HR0.out x3_2 p214 q214
            obtain rfl : ad212 = ad214 := (by injection e214)
            replace p214 := eq_true p214
            replace q214 := eq_true q214
            go_wp2
            repeat (go_quiet (fail); try go_wp2)
            go_roundg k2
            case measure => have := HJ1.out; have := HK2.out; omega
            case rel => exact ⟨(wrap64 (x3_2 + 1)), (by first | rfl | (simp; done) | (simp [*]; done)), H', ⟨by have := HJ1.out; have := HK2.out; omega⟩, by repeat (first | exact Drawn0.refl _ | apply Drawn0.step)⟩
        ·
         rw [if_neg c17] at H
         exact absurd H (by simp)
      ·
       rw [if_neg c7] at H
       have c7b0 : decide (x3_2 < (l0.length : Int)) = false := decide_eq_false c7
       clear c7
       obtain rfl := Option.some.inj H
       go_wp2
       repeat (go_quiet (fail); try go_wp2)
       go_ret
       exact ⟨by first | rfl | (simp; done) | (simp [*]; done), by repeat (first | exact Drawn0.refl _ | apply Drawn0.step)⟩

end Go.Proofs.Ytafoplpaoahdiaa.P
