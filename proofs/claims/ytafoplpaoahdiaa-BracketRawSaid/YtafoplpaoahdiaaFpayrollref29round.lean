/- Proved here: that the Go function payrollref29_round computes the plain function of that name (the machine side of the laws, reworked from a print; no condition of its own). -/
import Derived.Test.YtafoplpaoahdiaaProg
import Derived.Test.YtafoplpaoahdiaaV1
namespace Go.Proofs.Ytafoplpaoahdiaa.P
open Go.RowKit Go.Proofs.YtafoplpaoahdiaaW.PrintWords Go.Proofs.YtafoplpaoahdiaaW.PrintLast Go.Proofs.YtafoplpaoahdiaaW.PrintMore
attribute [local go_sem] max2_int min2_int max_two min_two max_three min_three max_four min_four   -- for this text's walks alone
set_option linter.unusedVariables false
set_option linter.unusedSimpArgs false

def payrollref29_round.j0 : Nat → Int → Int → Int → Int → Bool → Int → Bool → Option (Int)
 | 0, _, _, _, _, _, _, _ => none
 | k + 1, x1, x7, x8, x9, x10, x19, x20 => if x20 = true then (if x9 > 0 then (some (wrap64 ((wrap64 (x8 + 1)) * x1))) else (some (wrap64 (x8 * x1)))) else (if x19 = 4 then (if (wrap64 (2 * x9)) ≥ x7 then (some (wrap64 ((wrap64 (x8 + 1)) * x1))) else (some (wrap64 (x8 * x1)))) else (if x19 = 5 then (if (wrap64 (2 * x9)) > x7 then (some (wrap64 ((wrap64 (x8 + 1)) * x1))) else (some (wrap64 (x8 * x1)))) else (if x19 = 6 then (if (wrap64 (2 * x9)) > x7 then (some (wrap64 ((wrap64 (x8 + 1)) * x1))) else (if (wrap64 (2 * x9)) = x7 then (if (Int.tmod x8 2) = 1 then (some (wrap64 ((wrap64 (x8 + 1)) * x1))) else (some (wrap64 (x8 * x1)))) else (some (wrap64 (x8 * x1))))) else (if x10 = true then (some (wrap64 ((wrap64 (x8 + 1)) * x1))) else (some (wrap64 (x8 * x1)))))))
def payrollref29_round.f (k : Nat) (a0 : Int) (a1 : Int) (a2 : Int) : Option (Int) := if (wrap64 (1000000 * a1)) = 0 then (none) else (if a2 = 1 then (payrollref29_round.j0 k a1 (wrap64 (1000000 * a1)) (wrap64 (Int.tdiv a0 (wrap64 (1000000 * a1)))) (Int.tmod a0 (wrap64 (1000000 * a1))) false a2 (a2 == 1)) else (payrollref29_round.j0 k a1 (wrap64 (1000000 * a1)) (wrap64 (Int.tdiv a0 (wrap64 (1000000 * a1)))) (Int.tmod a0 (wrap64 (1000000 * a1))) false a2 (a2 == 3)))
theorem payrollref29_round.mono_l : ∀ k, (∀ y0 y1 y2 y3 y4 y5 y6, LeO (payrollref29_round.j0 k y0 y1 y2 y3 y4 y5 y6) (payrollref29_round.j0 (k + 1) y0 y1 y2 y3 y4 y5 y6))
 | 0 => fun _ _ _ _ _ _ _ r h => by simp [payrollref29_round.j0] at h
 | k + 1 => by
  have ih0 := payrollref29_round.mono_l k
  ·
   intro y0 y1 y2 y3 y4 y5 y6
   unfold payrollref29_round.j0
   repeat' first
   | (with_reducible exact ih0 _ _ _ _ _ _ _)
   | (with_reducible exact LeO.refl _)
   | (with_reducible exact LeO.none _)
   | (with_reducible refine LeO.ite ?_ ?_)
   | (with_reducible refine LeO.bind ?_ (fun _ => ?_))
   | exact ih0 _ _ _ _ _ _ _
   | exact LeO.none _
   | refine LeO.ite ?_ ?_
   | refine LeO.bind ?_ (fun _ => ?_)
theorem payrollref29_round.mono : ∀ a0 a1 a2 k, LeO (payrollref29_round.f k a0 a1 a2) (payrollref29_round.f (k + 1) a0 a1 a2) := by
 intro a0 a1 a2 k
 have ih0 := payrollref29_round.mono_l k
 unfold payrollref29_round.f
 repeat' first
   | (with_reducible exact ih0 _ _ _ _ _ _ _)
   | (with_reducible exact LeO.refl _)
   | (with_reducible exact LeO.none _)
   | (with_reducible refine LeO.ite ?_ ?_)
   | (with_reducible refine LeO.bind ?_ (fun _ => ?_))
   | exact ih0 _ _ _ _ _ _ _
   | exact LeO.none _
   | refine LeO.ite ?_ ?_
   | refine LeO.bind ?_ (fun _ => ?_)
set_option maxHeartbeats 8000000 in
set_option maxRecDepth 100000 in
theorem payrollref29_round.calls (k : Nat) (a0 : Int) (a1 : Int) (a2 : Int) (r : Int) (w : World) (h : payrollref29_round.f k a0 a1 a2 = some r) :
  Calls Try.prog 43 #[.int .i64 a0, .int .i64 a1, .int .i64 a2] w fun e w' => e = .returned (.int .i64 r) ∧ Drawn0 w w' := by
 have H : (if (wrap64 (1000000 * a1)) = 0 then (none) else (if a2 = 1 then (payrollref29_round.j0 k a1 (wrap64 (1000000 * a1)) (wrap64 (Int.tdiv a0 (wrap64 (1000000 * a1)))) (Int.tmod a0 (wrap64 (1000000 * a1))) false a2 (a2 == 1)) else (payrollref29_round.j0 k a1 (wrap64 (1000000 * a1)) (wrap64 (Int.tdiv a0 (wrap64 (1000000 * a1)))) (Int.tmod a0 (wrap64 (1000000 * a1))) false a2 (a2 == 3)))) = some r := h
 clear h
 by_cases c4 : (wrap64 (1000000 * a1)) = 0
 ·
  rw [if_pos c4] at H
  exact absurd H (by simp)
 ·
  rw [if_neg c4] at H
  have c4b0 : ((wrap64 (1000000 * a1)) == 0) = false := beq_eq_false_iff_ne.mpr c4
  have c4b1 : ((wrap64 (1000000 * a1)) != 0) = true := bne_iff_ne.mpr c4
  have HC5 := Aside0.mk H
  clear H
  go_enter Try.func43, Try.ntmps43
  go_upto_if 20 with (fail)
  repeat (go_quiet (fail); go_upto_if 20 with (fail))
  go_cut [20] (fun v20 wc => ∃ (kq : Nat) (x20_4 : Bool), v20 = .bool x20_4 ∧ Aside0 (payrollref29_round.j0 kq a1 (wrap64 (1000000 * a1)) (wrap64 (Int.tdiv a0 (wrap64 (1000000 * a1)))) (Int.tmod a0 (wrap64 (1000000 * a1))) false a2 x20_4 = some r) ∧ Aside0 (kq ≤ k) ∧ Drawn0 w wc)
  case first =>
   have H := HC5.out
   clear HC5
   by_cases c6 : a2 = 1
   ·
    rw [if_pos c6] at H
    have c6b0 : (a2 == 1) = true := beq_iff_eq.mpr c6
    have c6b1 : (a2 != 1) = false := bne_eq_false_iff_eq.mpr c6
    clear c6
    (first | rw [c6b0] | (simp only [i64_w, i32_w]; rw [c6b0]) | skip)
    have H' := Aside0.mk H
    clear H
    go_wp2
    repeat (go_quiet (fail); try go_wp2)
    go_meet
    case rel => exact ⟨_, ((a2 == 1)), (by first | rfl | (simp; done) | (simp [*]; done)), H', ⟨by first | omega | exact Nat.le_refl _⟩, by repeat (first | exact Drawn0.refl _ | apply Drawn0.step)⟩
   ·
    rw [if_neg c6] at H
    have c6b0 : (a2 == 1) = false := beq_eq_false_iff_ne.mpr c6
    have c6b1 : (a2 != 1) = true := bne_iff_ne.mpr c6
    (first | rw [c6b0] | (simp only [i64_w, i32_w]; rw [c6b0]) | skip)
    have H' := Aside0.mk H
    clear H
    go_wp2
    repeat (go_quiet (fail); try go_wp2)
    go_meet
    case rel => exact ⟨_, ((a2 == 3)), (by first | rfl | (simp; done) | (simp [*]; done)), H', ⟨by first | omega | exact Nat.le_refl _⟩, by repeat (first | exact Drawn0.refl _ | apply Drawn0.step)⟩
  case rest =>
   clear HC5
   try clear p2
   try clear c4
   try clear c4b0
   try clear c4b1
   try clear c6
   try clear c6b0
   try clear c6b1
   try clear p6
   obtain ⟨kq, x20_4, rfl, HA, HJ4, ⟨mc4, rfl⟩⟩ := hcut
   cases kq with
   | zero => exact absurd HA.out (by simp [payrollref29_round.j0])
   | succ kj4 =>
    have H := HA.out
    clear HA
    simp only [payrollref29_round.j0] at H
    by_cases c7 : x20_4 = true
    ·
     subst c7
     have H1 : (if (Int.tmod a0 (wrap64 (1000000 * a1))) > 0 then (some (wrap64 ((wrap64 ((wrap64 (Int.tdiv a0 (wrap64 (1000000 * a1)))) + 1)) * a1))) else (some (wrap64 ((wrap64 (Int.tdiv a0 (wrap64 (1000000 * a1)))) * a1)))) = some r := by rw [if_pos rfl] at H; exact H
     clear H
     have H := H1
     clear H1
     by_cases c8 : (Int.tmod a0 (wrap64 (1000000 * a1))) > 0
     ·
      rw [if_pos c8] at H
      have c8b0 : decide (0 < (Int.tmod a0 (wrap64 (1000000 * a1)))) = true := decide_eq_true c8
      clear c8
      obtain rfl := Option.some.inj H
      go_wp2
      repeat (go_quiet (fail); try go_wp2)
      go_ret
      exact ⟨by first | rfl | (simp; done) | (simp [*]; done), by repeat (first | exact Drawn0.refl _ | apply Drawn0.step)⟩
     ·
      rw [if_neg c8] at H
      have c8b0 : decide (0 < (Int.tmod a0 (wrap64 (1000000 * a1)))) = false := decide_eq_false c8
      clear c8
      obtain rfl := Option.some.inj H
      go_wp2
      repeat (go_quiet (fail); try go_wp2)
      go_ret
      exact ⟨by first | rfl | (simp; done) | (simp [*]; done), by repeat (first | exact Drawn0.refl _ | apply Drawn0.step)⟩
    ·
     replace c7 := Bool.eq_false_iff.mpr c7
     subst c7
     have H1 : (if a2 = 4 then (if (wrap64 (2 * (Int.tmod a0 (wrap64 (1000000 * a1))))) ≥ (wrap64 (1000000 * a1)) then (some (wrap64 ((wrap64 ((wrap64 (Int.tdiv a0 (wrap64 (1000000 * a1)))) + 1)) * a1))) else (some (wrap64 ((wrap64 (Int.tdiv a0 (wrap64 (1000000 * a1)))) * a1)))) else (if a2 = 5 then (if (wrap64 (2 * (Int.tmod a0 (wrap64 (1000000 * a1))))) > (wrap64 (1000000 * a1)) then (some (wrap64 ((wrap64 ((wrap64 (Int.tdiv a0 (wrap64 (1000000 * a1)))) + 1)) * a1))) else (some (wrap64 ((wrap64 (Int.tdiv a0 (wrap64 (1000000 * a1)))) * a1)))) else (if a2 = 6 then (if (wrap64 (2 * (Int.tmod a0 (wrap64 (1000000 * a1))))) > (wrap64 (1000000 * a1)) then (some (wrap64 ((wrap64 ((wrap64 (Int.tdiv a0 (wrap64 (1000000 * a1)))) + 1)) * a1))) else (if (wrap64 (2 * (Int.tmod a0 (wrap64 (1000000 * a1))))) = (wrap64 (1000000 * a1)) then (if (Int.tmod (wrap64 (Int.tdiv a0 (wrap64 (1000000 * a1)))) 2) = 1 then (some (wrap64 ((wrap64 ((wrap64 (Int.tdiv a0 (wrap64 (1000000 * a1)))) + 1)) * a1))) else (some (wrap64 ((wrap64 (Int.tdiv a0 (wrap64 (1000000 * a1)))) * a1)))) else (some (wrap64 ((wrap64 (Int.tdiv a0 (wrap64 (1000000 * a1)))) * a1))))) else (if false = true then (some (wrap64 ((wrap64 ((wrap64 (Int.tdiv a0 (wrap64 (1000000 * a1)))) + 1)) * a1))) else (some (wrap64 ((wrap64 (Int.tdiv a0 (wrap64 (1000000 * a1)))) * a1))))))) = some r := by rw [if_neg (show ¬ (false = true) by decide)] at H; exact H
     clear H
     have H := H1
     clear H1
     by_cases c9 : a2 = 4
     ·
      rw [if_pos c9] at H
      have c9b0 : (a2 == 4) = true := beq_iff_eq.mpr c9
      have c9b1 : (a2 != 4) = false := bne_eq_false_iff_eq.mpr c9
      clear c9
      by_cases c10 : (wrap64 (2 * (Int.tmod a0 (wrap64 (1000000 * a1))))) ≥ (wrap64 (1000000 * a1))
      ·
       rw [if_pos c10] at H
       have c10b0 : decide ((wrap64 (1000000 * a1)) ≤ (wrap64 (2 * (Int.tmod a0 (wrap64 (1000000 * a1)))))) = true := decide_eq_true c10
       clear c10
       obtain rfl := Option.some.inj H
       go_wp2
       repeat (go_quiet (fail); try go_wp2)
       go_ret
       exact ⟨by first | rfl | (simp; done) | (simp [*]; done), by repeat (first | exact Drawn0.refl _ | apply Drawn0.step)⟩
      ·
       rw [if_neg c10] at H
       have c10b0 : decide ((wrap64 (1000000 * a1)) ≤ (wrap64 (2 * (Int.tmod a0 (wrap64 (1000000 * a1)))))) = false := decide_eq_false c10
       clear c10
       obtain rfl := Option.some.inj H
       go_wp2
       repeat (go_quiet (fail); try go_wp2)
       go_ret
       exact ⟨by first | rfl | (simp; done) | (simp [*]; done), by repeat (first | exact Drawn0.refl _ | apply Drawn0.step)⟩
     ·
      rw [if_neg c9] at H
      have c9b0 : (a2 == 4) = false := beq_eq_false_iff_ne.mpr c9
      have c9b1 : (a2 != 4) = true := bne_iff_ne.mpr c9
      by_cases c11 : a2 = 5
      ·
       rw [if_pos c11] at H
       have c11b0 : (a2 == 5) = true := beq_iff_eq.mpr c11
       have c11b1 : (a2 != 5) = false := bne_eq_false_iff_eq.mpr c11
       clear c11
       by_cases c12 : (wrap64 (2 * (Int.tmod a0 (wrap64 (1000000 * a1))))) > (wrap64 (1000000 * a1))
       ·
        rw [if_pos c12] at H
        have c12b0 : decide ((wrap64 (1000000 * a1)) < (wrap64 (2 * (Int.tmod a0 (wrap64 (1000000 * a1)))))) = true := decide_eq_true c12
        clear c12
        obtain rfl := Option.some.inj H
        go_wp2
        repeat (go_quiet (fail); try go_wp2)
        go_ret
        exact ⟨by first | rfl | (simp; done) | (simp [*]; done), by repeat (first | exact Drawn0.refl _ | apply Drawn0.step)⟩
       ·
        rw [if_neg c12] at H
        have c12b0 : decide ((wrap64 (1000000 * a1)) < (wrap64 (2 * (Int.tmod a0 (wrap64 (1000000 * a1)))))) = false := decide_eq_false c12
        clear c12
        obtain rfl := Option.some.inj H
        go_wp2
        repeat (go_quiet (fail); try go_wp2)
        go_ret
        exact ⟨by first | rfl | (simp; done) | (simp [*]; done), by repeat (first | exact Drawn0.refl _ | apply Drawn0.step)⟩
      ·
       rw [if_neg c11] at H
       have c11b0 : (a2 == 5) = false := beq_eq_false_iff_ne.mpr c11
       have c11b1 : (a2 != 5) = true := bne_iff_ne.mpr c11
       by_cases c13 : a2 = 6
       ·
        rw [if_pos c13] at H
        have c13b0 : (a2 == 6) = true := beq_iff_eq.mpr c13
        have c13b1 : (a2 != 6) = false := bne_eq_false_iff_eq.mpr c13
        clear c13
        by_cases c14 : (wrap64 (2 * (Int.tmod a0 (wrap64 (1000000 * a1))))) > (wrap64 (1000000 * a1))
        ·
         rw [if_pos c14] at H
         have c14b0 : decide ((wrap64 (1000000 * a1)) < (wrap64 (2 * (Int.tmod a0 (wrap64 (1000000 * a1)))))) = true := decide_eq_true c14
         clear c14
         obtain rfl := Option.some.inj H
         go_wp2
         repeat (go_quiet (fail); try go_wp2)
         go_ret
         exact ⟨by first | rfl | (simp; done) | (simp [*]; done), by repeat (first | exact Drawn0.refl _ | apply Drawn0.step)⟩
        ·
         rw [if_neg c14] at H
         have c14b0 : decide ((wrap64 (1000000 * a1)) < (wrap64 (2 * (Int.tmod a0 (wrap64 (1000000 * a1)))))) = false := decide_eq_false c14
         clear c14
         by_cases c15 : (wrap64 (2 * (Int.tmod a0 (wrap64 (1000000 * a1))))) = (wrap64 (1000000 * a1))
         ·
          rw [if_pos c15] at H
          have c15b0 : ((wrap64 (2 * (Int.tmod a0 (wrap64 (1000000 * a1))))) == (wrap64 (1000000 * a1))) = true := beq_iff_eq.mpr c15
          have c15b1 : ((wrap64 (2 * (Int.tmod a0 (wrap64 (1000000 * a1))))) != (wrap64 (1000000 * a1))) = false := bne_eq_false_iff_eq.mpr c15
          clear c15
          by_cases c16 : (Int.tmod (wrap64 (Int.tdiv a0 (wrap64 (1000000 * a1)))) 2) = 1
          ·
           rw [if_pos c16] at H
           have c16b0 : ((Int.tmod (wrap64 (Int.tdiv a0 (wrap64 (1000000 * a1)))) 2) == 1) = true := beq_iff_eq.mpr c16
           have c16b1 : ((Int.tmod (wrap64 (Int.tdiv a0 (wrap64 (1000000 * a1)))) 2) != 1) = false := bne_eq_false_iff_eq.mpr c16
           clear c16
           obtain rfl := Option.some.inj H
           go_wp2
           repeat (go_quiet (fail); try go_wp2)
           go_ret
           exact ⟨by first | rfl | (simp; done) | (simp [*]; done), by repeat (first | exact Drawn0.refl _ | apply Drawn0.step)⟩
          ·
           rw [if_neg c16] at H
           have c16b0 : ((Int.tmod (wrap64 (Int.tdiv a0 (wrap64 (1000000 * a1)))) 2) == 1) = false := beq_eq_false_iff_ne.mpr c16
           have c16b1 : ((Int.tmod (wrap64 (Int.tdiv a0 (wrap64 (1000000 * a1)))) 2) != 1) = true := bne_iff_ne.mpr c16
           obtain rfl := Option.some.inj H
           go_wp2
           repeat (go_quiet (fail); try go_wp2)
           go_ret
           exact ⟨by first | rfl | (simp; done) | (simp [*]; done), by repeat (first | exact Drawn0.refl _ | apply Drawn0.step)⟩
         ·
          rw [if_neg c15] at H
          have c15b0 : ((wrap64 (2 * (Int.tmod a0 (wrap64 (1000000 * a1))))) == (wrap64 (1000000 * a1))) = false := beq_eq_false_iff_ne.mpr c15
          have c15b1 : ((wrap64 (2 * (Int.tmod a0 (wrap64 (1000000 * a1))))) != (wrap64 (1000000 * a1))) = true := bne_iff_ne.mpr c15
          obtain rfl := Option.some.inj H
          go_wp2
          repeat (go_quiet (fail); try go_wp2)
          go_ret
          exact ⟨by first | rfl | (simp; done) | (simp [*]; done), by repeat (first | exact Drawn0.refl _ | apply Drawn0.step)⟩
       ·
        rw [if_neg c13] at H
        have c13b0 : (a2 == 6) = false := beq_eq_false_iff_ne.mpr c13
        have c13b1 : (a2 != 6) = true := bne_iff_ne.mpr c13
        have H1 : (some (wrap64 ((wrap64 (Int.tdiv a0 (wrap64 (1000000 * a1)))) * a1))) = some r := by rw [if_neg (show ¬ (false = true) by decide)] at H; exact H
        clear H
        have H := H1
        clear H1
        obtain rfl := Option.some.inj H
        go_wp2
        repeat (go_quiet (fail); try go_wp2)
        go_ret
        exact ⟨by first | rfl | (simp; done) | (simp [*]; done), by repeat (first | exact Drawn0.refl _ | apply Drawn0.step)⟩

end Go.Proofs.Ytafoplpaoahdiaa.P
