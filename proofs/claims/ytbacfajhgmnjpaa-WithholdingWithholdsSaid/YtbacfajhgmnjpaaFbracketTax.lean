/- Proved here: that the Go function bracket_Tax computes the plain function of that name (the machine side of the laws, reworked from a print; no condition of its own). -/
import Derived.Test.YtbacfajhgmnjpaaProg
import Derived.Test.YtbacfajhgmnjpaaV1
import Derived.Test.YtbacfajhgmnjpaaV2
import Derived.Test.YtbacfajhgmnjpaaFPRE
import Derived.Test.YtbacfajhgmnjpaaFbr
namespace Go.Proofs.Ytbacfajhgmnjpaa.P
open Go.RowKit Go.Proofs.YtbacfajhgmnjpaaW.PrintWords Go.Proofs.YtbacfajhgmnjpaaW.PrintLast Go.Proofs.YtbacfajhgmnjpaaW.PrintMore
attribute [local go_sem] max2_int min2_int max_two min_two max_three min_three max_four min_four   -- for this text's walks alone
set_option linter.unusedVariables false
set_option linter.unusedSimpArgs false

mutual
def bracket_Tax.j0 : Nat → Int → Int → Int → Bool → Option (Int × Int)
 | 0, _, _, _, _ => none
 | k + 1, x2, x3, x10, x30 => if x30 = true then (some (0, 2)) else (if (wrap64 (x2 * 1000000)) = 0 then (none) else (if x3 = 0 then (bracket_Tax.j1 k x2 (wrap64 (x2 * 1000000)) (wrap64 (Int.tdiv x10 (wrap64 (x2 * 1000000)))) (Int.tmod x10 (wrap64 (x2 * 1000000))) false x3 (x3 == 0)) else (bracket_Tax.j1 k x2 (wrap64 (x2 * 1000000)) (wrap64 (Int.tdiv x10 (wrap64 (x2 * 1000000)))) (Int.tmod x10 (wrap64 (x2 * 1000000))) false x3 (x3 == 2))))
def bracket_Tax.j1 : Nat → Int → Int → Int → Int → Bool → Int → Bool → Option (Int × Int)
 | 0, _, _, _, _, _, _, _ => none
 | k + 1, x2, x12, x13, x14, x15, x39, x40 => if x40 = true then (if x15 = true then (some (wrap64 ((wrap64 (x13 + 1)) * x2), 0)) else (some (wrap64 (x13 * x2), 0))) else (if x39 = 1 then (bracket_Tax.j2 k x2 x12 x13 x14 x39 (x39 == 1)) else (bracket_Tax.j2 k x2 x12 x13 x14 x39 (x39 == 3)))
def bracket_Tax.j2 : Nat → Int → Int → Int → Int → Int → Bool → Option (Int × Int)
 | 0, _, _, _, _, _, _ => none
 | k + 1, x2, x12, x13, x14, x39, x43 => if x43 = true then (if x14 > 0 then (some (wrap64 ((wrap64 (x13 + 1)) * x2), 0)) else (some (wrap64 (x13 * x2), 0))) else (if x39 = 4 then (if (wrap64 (2 * x14)) ≥ x12 then (some (wrap64 ((wrap64 (x13 + 1)) * x2), 0)) else (some (wrap64 (x13 * x2), 0))) else (if x39 = 5 then (if (wrap64 (2 * x14)) > x12 then (some (wrap64 ((wrap64 (x13 + 1)) * x2), 0)) else (some (wrap64 (x13 * x2), 0))) else (if x39 = 6 then (if (wrap64 (2 * x14)) > x12 then (some (wrap64 ((wrap64 (x13 + 1)) * x2), 0)) else (if (wrap64 (2 * x14)) = x12 then (if (Int.tmod x13 2) = 1 then (some (wrap64 ((wrap64 (x13 + 1)) * x2), 0)) else (some (wrap64 (x13 * x2), 0))) else (some (wrap64 (x13 * x2), 0)))) else (some (0, 2)))))
end
def bracket_Tax.f (k : Nat) (l0 : List (S58)) (a1 : Int) (a2 : Int) (a3 : Int) : Option (Int × Int) := (bracket_Exact.f k l0 a1).bind fun bt136 => (if bt136.2 = 0 then (if a2 < 1 then (bracket_Tax.j0 k a2 a3 bt136.1 true) else (bracket_Tax.j0 k a2 a3 bt136.1 (decide (a2 > 1000000)))) else (some (0, bt136.2)))
theorem bracket_Tax.mono_l : ∀ k, (∀ y0 y1 y2 y3, LeO (bracket_Tax.j0 k y0 y1 y2 y3) (bracket_Tax.j0 (k + 1) y0 y1 y2 y3)) ∧ (∀ y0 y1 y2 y3 y4 y5 y6, LeO (bracket_Tax.j1 k y0 y1 y2 y3 y4 y5 y6) (bracket_Tax.j1 (k + 1) y0 y1 y2 y3 y4 y5 y6)) ∧ (∀ y0 y1 y2 y3 y4 y5, LeO (bracket_Tax.j2 k y0 y1 y2 y3 y4 y5) (bracket_Tax.j2 (k + 1) y0 y1 y2 y3 y4 y5))
 | 0 => ⟨fun _ _ _ _ r h => by simp [bracket_Tax.j0] at h, fun _ _ _ _ _ _ _ r h => by simp [bracket_Tax.j1] at h, fun _ _ _ _ _ _ r h => by simp [bracket_Tax.j2] at h⟩
 | k + 1 => by
  obtain ⟨ih0, ih1, ih2⟩ := bracket_Tax.mono_l k
  refine ⟨?_, ?_, ?_⟩
  ·
   intro y0 y1 y2 y3
   unfold bracket_Tax.j0
   repeat' first
   | (with_reducible exact ih0 _ _ _ _)
   | (with_reducible exact ih1 _ _ _ _ _ _ _)
   | (with_reducible exact ih2 _ _ _ _ _ _)
   | (with_reducible exact bracket_Exact.mono _ _ _)
   | (with_reducible exact LeO.refl _)
   | (with_reducible exact LeO.none _)
   | (with_reducible refine LeO.ite ?_ ?_)
   | (with_reducible refine LeO.bind ?_ (fun _ => ?_))
   | exact ih0 _ _ _ _
   | exact ih1 _ _ _ _ _ _ _
   | exact ih2 _ _ _ _ _ _
   | exact bracket_Exact.mono _ _ _
   | exact LeO.none _
   | refine LeO.ite ?_ ?_
   | refine LeO.bind ?_ (fun _ => ?_)
  ·
   intro y0 y1 y2 y3 y4 y5 y6
   unfold bracket_Tax.j1
   repeat' first
   | (with_reducible exact ih0 _ _ _ _)
   | (with_reducible exact ih1 _ _ _ _ _ _ _)
   | (with_reducible exact ih2 _ _ _ _ _ _)
   | (with_reducible exact bracket_Exact.mono _ _ _)
   | (with_reducible exact LeO.refl _)
   | (with_reducible exact LeO.none _)
   | (with_reducible refine LeO.ite ?_ ?_)
   | (with_reducible refine LeO.bind ?_ (fun _ => ?_))
   | exact ih0 _ _ _ _
   | exact ih1 _ _ _ _ _ _ _
   | exact ih2 _ _ _ _ _ _
   | exact bracket_Exact.mono _ _ _
   | exact LeO.none _
   | refine LeO.ite ?_ ?_
   | refine LeO.bind ?_ (fun _ => ?_)
  ·
   intro y0 y1 y2 y3 y4 y5
   unfold bracket_Tax.j2
   repeat' first
   | (with_reducible exact ih0 _ _ _ _)
   | (with_reducible exact ih1 _ _ _ _ _ _ _)
   | (with_reducible exact ih2 _ _ _ _ _ _)
   | (with_reducible exact bracket_Exact.mono _ _ _)
   | (with_reducible exact LeO.refl _)
   | (with_reducible exact LeO.none _)
   | (with_reducible refine LeO.ite ?_ ?_)
   | (with_reducible refine LeO.bind ?_ (fun _ => ?_))
   | exact ih0 _ _ _ _
   | exact ih1 _ _ _ _ _ _ _
   | exact ih2 _ _ _ _ _ _
   | exact bracket_Exact.mono _ _ _
   | exact LeO.none _
   | refine LeO.ite ?_ ?_
   | refine LeO.bind ?_ (fun _ => ?_)
theorem bracket_Tax.mono : ∀ a0 a1 a2 a3 k, LeO (bracket_Tax.f k a0 a1 a2 a3) (bracket_Tax.f (k + 1) a0 a1 a2 a3) := by
 intro a0 a1 a2 a3 k
 obtain ⟨ih0, ih1, ih2⟩ := bracket_Tax.mono_l k
 unfold bracket_Tax.f
 repeat' first
   | (with_reducible exact ih0 _ _ _ _)
   | (with_reducible exact ih1 _ _ _ _ _ _ _)
   | (with_reducible exact ih2 _ _ _ _ _ _)
   | (with_reducible exact bracket_Exact.mono _ _ _)
   | (with_reducible exact LeO.refl _)
   | (with_reducible exact LeO.none _)
   | (with_reducible refine LeO.ite ?_ ?_)
   | (with_reducible refine LeO.bind ?_ (fun _ => ?_))
   | exact ih0 _ _ _ _
   | exact ih1 _ _ _ _ _ _ _
   | exact ih2 _ _ _ _ _ _
   | exact bracket_Exact.mono _ _ _
   | exact LeO.none _
   | refine LeO.ite ?_ ?_
   | refine LeO.bind ?_ (fun _ => ?_)
set_option maxHeartbeats 8000000 in
set_option maxRecDepth 100000 in
theorem bracket_Tax.calls (k : Nat) (A0 : Option Addr) (c0 : Nat) (l0 : List (S58)) (a1 : Int) (a2 : Int) (a3 : Int) (r1 : Int) (r2 : Int) (w : World) (hr0 : Kd.C k58 w A0 l0.length l0) (hc0 : l0.length ≤ c0) (h : bracket_Tax.f k l0 a1 a2 a3 = some (r1, r2)) :
  Calls Try.prog 61 #[.slice A0 l0.length c0, .int .i64 a1, .int .i64 a2, .int .i64 a3] w fun e w' => e = .returned (.tuple #[.int .i64 r1, .int .i64 r2]) ∧ Below w.heap.size w w' := by
 have HR0 := Aside0.mk hr0
 have HC0 := Aside0.mk hc0
 clear hr0 hc0
 have HB := Aside0.mk (Below.refl w.heap.size w)
 have H : ((bracket_Exact.f k l0 a1).bind fun bt136 => (if bt136.2 = 0 then (if a2 < 1 then (bracket_Tax.j0 k a2 a3 bt136.1 true) else (bracket_Tax.j0 k a2 a3 bt136.1 (decide (a2 > 1000000)))) else (some (0, bt136.2)))) = some (r1, r2) := h
 clear h
 replace H := Option.bind_eq_some_iff.mp H
 obtain ⟨⟨t136, t137⟩, A50, H⟩ := H
 try dsimp only at H
 have A5 := Aside0.mk A50
 clear A50
 by_cases c6 : t137 = 0
 ·
  rw [if_pos c6] at H
  have c6b0 : (t137 == 0) = true := beq_iff_eq.mpr c6
  have c6b1 : (t137 != 0) = false := bne_eq_false_iff_eq.mpr c6
  clear c6
  have HC7 := Aside0.mk H
  clear H
  go_enter Try.func61, Try.ntmps61
  go_upto_region 4 with (first | (go_at_call 63; (with_reducible refine (bracket_Exact.calls k _ _ l0 a1 t136 t137 _ ?side1 ?side2 A5.out).mono ?_); (case side1 => exact q33); (case side2 => exact HC0.out); rintro e w8 ⟨rfl, hb⟩; have n0_ := Aside0.mk (below_step q0 hb); clear HB; have HB := n0_; clear n0_; (try clear hb); (try clear hb2); (try clear hk); (try clear hi)))
  repeat (go_quiet (first | fail); go_upto_region 4 with (first | fail))
  (try simp only [Act.put, List.setIfInBounds_toArray, List.set_cons_zero, List.set_cons_succ])
  go_cut [30] (fun v30 wc => ∃ (kq : Nat) (x30_6 : Bool), v30 = .bool x30_6 ∧ Aside0 (bracket_Tax.j0 kq a2 a3 t136 x30_6 = some (r1, r2)) ∧ Aside0 (kq ≤ k) ∧ Aside0 (Below w.heap.size w wc))
  case first =>
   have H := HC7.out
   clear HC7
   by_cases c9 : a2 < 1
   ·
    rw [if_pos c9] at H
    have c9b0 : decide (a2 < 1) = true := decide_eq_true c9
    clear c9
    (first | rw [c9b0] | (simp only [i64_w, i32_w]; rw [c9b0]) | skip)
    have H' := Aside0.mk H
    clear H
    go_wp2
    repeat (go_quiet (fail); try go_wp2)
    go_meet
    case rel => exact ⟨_, (true), q26, H', ⟨by first | omega | exact Nat.le_refl _⟩, ⟨q0⟩⟩
   ·
    rw [if_neg c9] at H
    have c9b0 : decide (a2 < 1) = false := decide_eq_false c9
    clear c9
    (first | rw [c9b0] | (simp only [i64_w, i32_w]; rw [c9b0]) | skip)
    have H' := Aside0.mk H
    clear H
    go_wp2
    repeat (go_quiet (fail); try go_wp2)
    go_meet
    case rel => exact ⟨_, (decide (a2 > 1000000)), q26, H', ⟨by first | omega | exact Nat.le_refl _⟩, ⟨q0⟩⟩
  case rest =>
   clear HC7
   try clear p2
   try clear c6
   try clear c6b0
   try clear c6b1
   try clear c9
   try clear c9b0
   obtain ⟨kq, x30_6, rfl, HA, HJ6, HB⟩ := hcut
   cases kq with
   | zero => exact absurd HA.out (by simp [bracket_Tax.j0])
   | succ kj6 =>
    have H := HA.out
    clear HA
    simp only [bracket_Tax.j0] at H
    by_cases c10 : x30_6 = true
    ·
     subst c10
     rw [if_pos rfl] at H
     simp only [Option.some.injEq, Prod.mk.injEq] at H
     obtain ⟨rfl, rfl⟩ := H
     go_wp2
     repeat (go_quiet (fail); try go_wp2)
     go_ret2
     exact ⟨by first | rfl | (simp [errW_none, errW_some] <;> rfl) | (simp [*, errW_none, errW_some] <;> rfl), q0⟩
    ·
     replace c10 := Bool.eq_false_iff.mpr c10
     subst c10
     rw [if_neg (show ¬ (false = true) by decide)] at H
     by_cases c11 : (wrap64 (a2 * 1000000)) = 0
     ·
      rw [if_pos c11] at H
      exact absurd H (by simp)
     ·
      rw [if_neg c11] at H
      have c11b0 : ((wrap64 (a2 * 1000000)) == 0) = false := beq_eq_false_iff_ne.mpr c11
      have c11b1 : ((wrap64 (a2 * 1000000)) != 0) = true := bne_iff_ne.mpr c11
      have HC12 := Aside0.mk H
      clear H
      go_upto_if 40 with (fail)
      repeat (go_quiet (fail); go_upto_if 40 with (fail))
      go_cut [40] (fun v40 wc => ∃ (kq : Nat) (x40_11 : Bool), v40 = .bool x40_11 ∧ Aside0 (bracket_Tax.j1 kq a2 (wrap64 (a2 * 1000000)) (wrap64 (Int.tdiv t136 (wrap64 (a2 * 1000000)))) (Int.tmod t136 (wrap64 (a2 * 1000000))) false a3 x40_11 = some (r1, r2)) ∧ Aside0 (kq ≤ kj6) ∧ Aside0 (Below w.heap.size w wc))
      case first =>
       have H := HC12.out
       clear HC12
       by_cases c13 : a3 = 0
       ·
        rw [if_pos c13] at H
        have c13b0 : (a3 == 0) = true := beq_iff_eq.mpr c13
        have c13b1 : (a3 != 0) = false := bne_eq_false_iff_eq.mpr c13
        clear c13
        (first | rw [c13b0] | (simp only [i64_w, i32_w]; rw [c13b0]) | skip)
        have H' := Aside0.mk H
        clear H
        go_wp2
        repeat (go_quiet (fail); try go_wp2)
        go_meet
        case rel => exact ⟨_, ((a3 == 0)), q26, H', ⟨by have := HJ6.out; first | omega | exact Nat.le_refl _⟩, ⟨q0⟩⟩
       ·
        rw [if_neg c13] at H
        have c13b0 : (a3 == 0) = false := beq_eq_false_iff_ne.mpr c13
        have c13b1 : (a3 != 0) = true := bne_iff_ne.mpr c13
        (first | rw [c13b0] | (simp only [i64_w, i32_w]; rw [c13b0]) | skip)
        have H' := Aside0.mk H
        clear H
        go_wp2
        repeat (go_quiet (fail); try go_wp2)
        go_meet
        case rel => exact ⟨_, ((a3 == 2)), q26, H', ⟨by have := HJ6.out; first | omega | exact Nat.le_refl _⟩, ⟨q0⟩⟩
      case rest =>
       clear HC12
       try clear c1
       try clear p2
       try clear c6
       try clear c6b0
       try clear c6b1
       try clear p6
       try clear c9
       try clear c9b0
       try clear c10
       try clear c11
       try clear c11b0
       try clear c11b1
       try clear c13
       try clear c13b0
       try clear c13b1
       try clear p2
       obtain ⟨kq, x40_11, rfl, HA, HJ11, HB⟩ := hcut
       cases kq with
       | zero => exact absurd HA.out (by simp [bracket_Tax.j1])
       | succ kj11 =>
        have H := HA.out
        clear HA
        simp only [bracket_Tax.j1] at H
        by_cases c14 : x40_11 = true
        ·
         subst c14
         rw [if_pos rfl] at H
         rw [if_neg (show ¬ (false = true) by decide)] at H
         simp only [Option.some.injEq, Prod.mk.injEq] at H
         obtain ⟨rfl, rfl⟩ := H
         go_wp2
         repeat (go_quiet (fail); try go_wp2)
         go_ret2
         exact ⟨by first | rfl | (simp [errW_none, errW_some] <;> rfl) | (simp [*, errW_none, errW_some] <;> rfl), q0⟩
        ·
         replace c14 := Bool.eq_false_iff.mpr c14
         subst c14
         rw [if_neg (show ¬ (false = true) by decide)] at H
         have HC16 := Aside0.mk H
         clear H
         go_upto_if 43 with (fail)
         repeat (go_quiet (fail); go_upto_if 43 with (fail))
         go_cut [43] (fun v43 wc => ∃ (kq : Nat) (x43_15 : Bool), v43 = .bool x43_15 ∧ Aside0 (bracket_Tax.j2 kq a2 (wrap64 (a2 * 1000000)) (wrap64 (Int.tdiv t136 (wrap64 (a2 * 1000000)))) (Int.tmod t136 (wrap64 (a2 * 1000000))) a3 x43_15 = some (r1, r2)) ∧ Aside0 (kq ≤ kj11) ∧ Aside0 (Below w.heap.size w wc))
         case first =>
          have H := HC16.out
          clear HC16
          by_cases c17 : a3 = 1
          ·
           rw [if_pos c17] at H
           have c17b0 : (a3 == 1) = true := beq_iff_eq.mpr c17
           have c17b1 : (a3 != 1) = false := bne_eq_false_iff_eq.mpr c17
           clear c17
           (first | rw [c17b0] | (simp only [i64_w, i32_w]; rw [c17b0]) | skip)
           have H' := Aside0.mk H
           clear H
           go_wp2
           repeat (go_quiet (fail); try go_wp2)
           go_meet
           case rel => exact ⟨_, ((a3 == 1)), q26, H', ⟨by have := HJ6.out; have := HJ11.out; first | omega | exact Nat.le_refl _⟩, ⟨q0⟩⟩
          ·
           rw [if_neg c17] at H
           have c17b0 : (a3 == 1) = false := beq_eq_false_iff_ne.mpr c17
           have c17b1 : (a3 != 1) = true := bne_iff_ne.mpr c17
           (first | rw [c17b0] | (simp only [i64_w, i32_w]; rw [c17b0]) | skip)
           have H' := Aside0.mk H
           clear H
           go_wp2
           repeat (go_quiet (fail); try go_wp2)
           go_meet
           case rel => exact ⟨_, ((a3 == 3)), q26, H', ⟨by have := HJ6.out; have := HJ11.out; first | omega | exact Nat.le_refl _⟩, ⟨q0⟩⟩
         case rest =>
          clear HC16
          try clear c1
          try clear p2
          try clear c6
          try clear c6b0
          try clear c6b1
          try clear p6
          try clear c9
          try clear c9b0
          try clear c10
          try clear c11
          try clear c11b0
          try clear c11b1
          try clear c13
          try clear c13b0
          try clear c13b1
          try clear c14
          try clear c15
          try clear c17
          try clear c17b0
          try clear c17b1
          try clear p2
          try clear p6
          obtain ⟨kq, x43_15, rfl, HA, HJ15, HB⟩ := hcut
          cases kq with
          | zero => exact absurd HA.out (by simp [bracket_Tax.j2])
          | succ kj15 =>
           have H := HA.out
           clear HA
           simp only [bracket_Tax.j2] at H
           by_cases c18 : x43_15 = true
           ·
            subst c18
            rw [if_pos rfl] at H
            by_cases c19 : (Int.tmod t136 (wrap64 (a2 * 1000000))) > 0
            ·
             rw [if_pos c19] at H
             have c19b0 : decide (0 < (Int.tmod t136 (wrap64 (a2 * 1000000)))) = true := decide_eq_true c19
             clear c19
             simp only [Option.some.injEq, Prod.mk.injEq] at H
             obtain ⟨rfl, rfl⟩ := H
             go_wp2
             repeat (go_quiet (fail); try go_wp2)
             go_ret2
             exact ⟨by first | rfl | (simp [errW_none, errW_some] <;> rfl) | (simp [*, errW_none, errW_some] <;> rfl), q0⟩
            ·
             rw [if_neg c19] at H
             have c19b0 : decide (0 < (Int.tmod t136 (wrap64 (a2 * 1000000)))) = false := decide_eq_false c19
             clear c19
             simp only [Option.some.injEq, Prod.mk.injEq] at H
             obtain ⟨rfl, rfl⟩ := H
             go_wp2
             repeat (go_quiet (fail); try go_wp2)
             go_ret2
             exact ⟨by first | rfl | (simp [errW_none, errW_some] <;> rfl) | (simp [*, errW_none, errW_some] <;> rfl), q0⟩
           ·
            replace c18 := Bool.eq_false_iff.mpr c18
            subst c18
            rw [if_neg (show ¬ (false = true) by decide)] at H
            by_cases c20 : a3 = 4
            ·
             rw [if_pos c20] at H
             have c20b0 : (a3 == 4) = true := beq_iff_eq.mpr c20
             have c20b1 : (a3 != 4) = false := bne_eq_false_iff_eq.mpr c20
             clear c20
             by_cases c21 : (wrap64 (2 * (Int.tmod t136 (wrap64 (a2 * 1000000))))) ≥ (wrap64 (a2 * 1000000))
             ·
              rw [if_pos c21] at H
              have c21b0 : decide ((wrap64 (a2 * 1000000)) ≤ (wrap64 (2 * (Int.tmod t136 (wrap64 (a2 * 1000000)))))) = true := decide_eq_true c21
              clear c21
              simp only [Option.some.injEq, Prod.mk.injEq] at H
              obtain ⟨rfl, rfl⟩ := H
              go_wp2
              repeat (go_quiet (fail); try go_wp2)
              go_ret2
              exact ⟨by first | rfl | (simp [errW_none, errW_some] <;> rfl) | (simp [*, errW_none, errW_some] <;> rfl), q0⟩
             ·
              rw [if_neg c21] at H
              have c21b0 : decide ((wrap64 (a2 * 1000000)) ≤ (wrap64 (2 * (Int.tmod t136 (wrap64 (a2 * 1000000)))))) = false := decide_eq_false c21
              clear c21
              simp only [Option.some.injEq, Prod.mk.injEq] at H
              obtain ⟨rfl, rfl⟩ := H
              go_wp2
              repeat (go_quiet (fail); try go_wp2)
              go_ret2
              exact ⟨by first | rfl | (simp [errW_none, errW_some] <;> rfl) | (simp [*, errW_none, errW_some] <;> rfl), q0⟩
            ·
             rw [if_neg c20] at H
             have c20b0 : (a3 == 4) = false := beq_eq_false_iff_ne.mpr c20
             have c20b1 : (a3 != 4) = true := bne_iff_ne.mpr c20
             by_cases c22 : a3 = 5
             ·
              rw [if_pos c22] at H
              have c22b0 : (a3 == 5) = true := beq_iff_eq.mpr c22
              have c22b1 : (a3 != 5) = false := bne_eq_false_iff_eq.mpr c22
              clear c22
              by_cases c23 : (wrap64 (2 * (Int.tmod t136 (wrap64 (a2 * 1000000))))) > (wrap64 (a2 * 1000000))
              ·
               rw [if_pos c23] at H
               have c23b0 : decide ((wrap64 (a2 * 1000000)) < (wrap64 (2 * (Int.tmod t136 (wrap64 (a2 * 1000000)))))) = true := decide_eq_true c23
               clear c23
               simp only [Option.some.injEq, Prod.mk.injEq] at H
               obtain ⟨rfl, rfl⟩ := H
               go_wp2
               repeat (go_quiet (fail); try go_wp2)
               go_ret2
               exact ⟨by first | rfl | (simp [errW_none, errW_some] <;> rfl) | (simp [*, errW_none, errW_some] <;> rfl), q0⟩
              ·
               rw [if_neg c23] at H
               have c23b0 : decide ((wrap64 (a2 * 1000000)) < (wrap64 (2 * (Int.tmod t136 (wrap64 (a2 * 1000000)))))) = false := decide_eq_false c23
               clear c23
               simp only [Option.some.injEq, Prod.mk.injEq] at H
               obtain ⟨rfl, rfl⟩ := H
               go_wp2
               repeat (go_quiet (fail); try go_wp2)
               go_ret2
               exact ⟨by first | rfl | (simp [errW_none, errW_some] <;> rfl) | (simp [*, errW_none, errW_some] <;> rfl), q0⟩
             ·
              rw [if_neg c22] at H
              have c22b0 : (a3 == 5) = false := beq_eq_false_iff_ne.mpr c22
              have c22b1 : (a3 != 5) = true := bne_iff_ne.mpr c22
              by_cases c24 : a3 = 6
              ·
               rw [if_pos c24] at H
               have c24b0 : (a3 == 6) = true := beq_iff_eq.mpr c24
               have c24b1 : (a3 != 6) = false := bne_eq_false_iff_eq.mpr c24
               clear c24
               by_cases c25 : (wrap64 (2 * (Int.tmod t136 (wrap64 (a2 * 1000000))))) > (wrap64 (a2 * 1000000))
               ·
                rw [if_pos c25] at H
                have c25b0 : decide ((wrap64 (a2 * 1000000)) < (wrap64 (2 * (Int.tmod t136 (wrap64 (a2 * 1000000)))))) = true := decide_eq_true c25
                clear c25
                simp only [Option.some.injEq, Prod.mk.injEq] at H
                obtain ⟨rfl, rfl⟩ := H
                go_wp2
                repeat (go_quiet (fail); try go_wp2)
                go_ret2
                exact ⟨by first | rfl | (simp [errW_none, errW_some] <;> rfl) | (simp [*, errW_none, errW_some] <;> rfl), q0⟩
               ·
                rw [if_neg c25] at H
                have c25b0 : decide ((wrap64 (a2 * 1000000)) < (wrap64 (2 * (Int.tmod t136 (wrap64 (a2 * 1000000)))))) = false := decide_eq_false c25
                clear c25
                by_cases c26 : (wrap64 (2 * (Int.tmod t136 (wrap64 (a2 * 1000000))))) = (wrap64 (a2 * 1000000))
                ·
                 rw [if_pos c26] at H
                 have c26b0 : ((wrap64 (2 * (Int.tmod t136 (wrap64 (a2 * 1000000))))) == (wrap64 (a2 * 1000000))) = true := beq_iff_eq.mpr c26
                 have c26b1 : ((wrap64 (2 * (Int.tmod t136 (wrap64 (a2 * 1000000))))) != (wrap64 (a2 * 1000000))) = false := bne_eq_false_iff_eq.mpr c26
                 clear c26
                 by_cases c27 : (Int.tmod (wrap64 (Int.tdiv t136 (wrap64 (a2 * 1000000)))) 2) = 1
                 ·
                  rw [if_pos c27] at H
                  have c27b0 : ((Int.tmod (wrap64 (Int.tdiv t136 (wrap64 (a2 * 1000000)))) 2) == 1) = true := beq_iff_eq.mpr c27
                  have c27b1 : ((Int.tmod (wrap64 (Int.tdiv t136 (wrap64 (a2 * 1000000)))) 2) != 1) = false := bne_eq_false_iff_eq.mpr c27
                  clear c27
                  simp only [Option.some.injEq, Prod.mk.injEq] at H
                  obtain ⟨rfl, rfl⟩ := H
                  go_wp2
                  repeat (go_quiet (fail); try go_wp2)
                  go_ret2
                  exact ⟨by first | rfl | (simp [errW_none, errW_some] <;> rfl) | (simp [*, errW_none, errW_some] <;> rfl), q0⟩
                 ·
                  rw [if_neg c27] at H
                  have c27b0 : ((Int.tmod (wrap64 (Int.tdiv t136 (wrap64 (a2 * 1000000)))) 2) == 1) = false := beq_eq_false_iff_ne.mpr c27
                  have c27b1 : ((Int.tmod (wrap64 (Int.tdiv t136 (wrap64 (a2 * 1000000)))) 2) != 1) = true := bne_iff_ne.mpr c27
                  simp only [Option.some.injEq, Prod.mk.injEq] at H
                  obtain ⟨rfl, rfl⟩ := H
                  go_wp2
                  repeat (go_quiet (fail); try go_wp2)
                  go_ret2
                  exact ⟨by first | rfl | (simp [errW_none, errW_some] <;> rfl) | (simp [*, errW_none, errW_some] <;> rfl), q0⟩
                ·
                 rw [if_neg c26] at H
                 have c26b0 : ((wrap64 (2 * (Int.tmod t136 (wrap64 (a2 * 1000000))))) == (wrap64 (a2 * 1000000))) = false := beq_eq_false_iff_ne.mpr c26
                 have c26b1 : ((wrap64 (2 * (Int.tmod t136 (wrap64 (a2 * 1000000))))) != (wrap64 (a2 * 1000000))) = true := bne_iff_ne.mpr c26
                 simp only [Option.some.injEq, Prod.mk.injEq] at H
                 obtain ⟨rfl, rfl⟩ := H
                 go_wp2
                 repeat (go_quiet (fail); try go_wp2)
                 go_ret2
                 exact ⟨by first | rfl | (simp [errW_none, errW_some] <;> rfl) | (simp [*, errW_none, errW_some] <;> rfl), q0⟩
              ·
               rw [if_neg c24] at H
               have c24b0 : (a3 == 6) = false := beq_eq_false_iff_ne.mpr c24
               have c24b1 : (a3 != 6) = true := bne_iff_ne.mpr c24
               simp only [Option.some.injEq, Prod.mk.injEq] at H
               obtain ⟨rfl, rfl⟩ := H
               go_wp2
               repeat (go_quiet (fail); try go_wp2)
               go_ret2
               exact ⟨by first | rfl | (simp [errW_none, errW_some] <;> rfl) | (simp [*, errW_none, errW_some] <;> rfl), q0⟩
 ·
  rw [if_neg c6] at H
  have c6b0 : (t137 == 0) = false := beq_eq_false_iff_ne.mpr c6
  have c6b1 : (t137 != 0) = true := bne_iff_ne.mpr c6
  simp only [Option.some.injEq, Prod.mk.injEq] at H
  obtain ⟨rfl, rfl⟩ := H
  exact (by go_enter Try.func61, Try.ntmps61; go_wp2_with (first | (go_at_call 63; (with_reducible refine (bracket_Exact.calls k _ _ l0 a1 t136 t137 _ ?side1 ?side2 A5.out).mono ?_); (case side1 => exact q33); (case side2 => exact HC0.out); rintro e w_1 ⟨rfl, hb⟩; have n0_ := Aside0.mk (below_step q0 hb); clear HB; have HB := n0_; clear n0_; (try clear hb); (try clear hb2); (try clear hk); (try clear hi))); (repeat (go_quiet (first | fail); try go_wp2_with (first | fail))); go_ret2; exact ⟨by first | rfl | (simp [errW_none, errW_some] <;> rfl) | (simp [*, errW_none, errW_some] <;> rfl), q0⟩)

end Go.Proofs.Ytbacfajhgmnjpaa.P
