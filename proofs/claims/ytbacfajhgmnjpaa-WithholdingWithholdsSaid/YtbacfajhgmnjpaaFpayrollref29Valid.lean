/- Proved here: that the Go function payrollref29_Valid computes the plain function of that name (the machine side of the laws, reworked from a print; no condition of its own). -/
import Derived.Test.YtbacfajhgmnjpaaProg
import Derived.Test.YtbacfajhgmnjpaaV1
import Derived.Test.YtbacfajhgmnjpaaV2
import Derived.Test.YtbacfajhgmnjpaaFPRE
namespace Go.Proofs.Ytbacfajhgmnjpaa.P
open Go.RowKit Go.Proofs.YtbacfajhgmnjpaaW.PrintWords Go.Proofs.YtbacfajhgmnjpaaW.PrintLast Go.Proofs.YtbacfajhgmnjpaaW.PrintMore
attribute [local go_sem] max2_int min2_int max_two min_two max_three min_three max_four min_four   -- for this text's walks alone
set_option linter.unusedVariables false
set_option linter.unusedSimpArgs false

mutual
def payrollref29_Valid.j0 : Nat → List (S58) → Bool → Option (Bool)
 | 0, _, _ => none
 | k + 1, x0, x18 => if x18 = true then (some false) else (payrollref29_Valid.l0 k x0 0)
def payrollref29_Valid.l0 : Nat → List (S58) → Int → Option (Bool)
 | 0, _, _ => none
 | k + 1, x0, x3 => if x3 < (x0.length : Int) then (if x3 > 0 then (if 0 ≤ x3 then (if 0 ≤ (wrap64 (x3 - 1)) then (if (wrap64 (x3 - 1)) < (x0.length : Int) then (if ((rd_T58 x0 x3).f0) ≤ ((rd_T58 x0 (wrap64 (x3 - 1))).f0) then (some false) else (if ((rd_T58 x0 x3).f0) > 1000000000000 then (some false) else (if ((rd_T58 x0 x3).f1) < 0 then (some false) else (if ((rd_T58 x0 x3).f1) > 1000000 then (some false) else (payrollref29_Valid.l0 k x0 (wrap64 (x3 + 1))))))) else (none)) else (none)) else (none)) else (if 0 ≤ x3 then (if ((rd_T58 x0 x3).f0) > 1000000000000 then (some false) else (if ((rd_T58 x0 x3).f1) < 0 then (some false) else (if ((rd_T58 x0 x3).f1) > 1000000 then (some false) else (payrollref29_Valid.l0 k x0 (wrap64 (x3 + 1)))))) else (none))) else (some true)
end
def payrollref29_Valid.f (k : Nat) (l0 : List (S58)) : Option (Bool) := if (l0.length : Int) = 0 then (payrollref29_Valid.j0 k l0 true) else (if (l0.length : Int) > 24 then (payrollref29_Valid.j0 k l0 true) else (if 0 < (l0.length : Int) then (payrollref29_Valid.j0 k l0 (((rd_T58 l0 0).f0) != 0)) else (none)))
set_option maxHeartbeats 8000000 in
set_option maxRecDepth 100000 in
theorem payrollref29_Valid.calls (k : Nat) (A0 : Option Addr) (c0 : Nat) (l0 : List (S58)) (r : Bool) (w : World) (hr0 : Kd.C k58 w A0 l0.length l0) (hc0 : l0.length ≤ c0) (h : payrollref29_Valid.f k l0 = some r) :
  Calls Try.prog 58 #[.slice A0 l0.length c0] w fun e w' => e = .returned (.bool r) ∧ Drawn0 w w' := by
 have HR0 := Aside0.mk hr0
 have HC0 := Aside0.mk hc0
 clear hr0 hc0
 have H : (if (l0.length : Int) = 0 then (payrollref29_Valid.j0 k l0 true) else (if (l0.length : Int) > 24 then (payrollref29_Valid.j0 k l0 true) else (if 0 < (l0.length : Int) then (payrollref29_Valid.j0 k l0 (((rd_T58 l0 0).f0) != 0)) else (none)))) = some r := h
 clear h
 have HC2 := Aside0.mk H
 clear H
 go_enter Try.func58, Try.ntmps58
 go_upto_region 1 with (fail)
 repeat (go_quiet (fail); go_upto_region 1 with (fail))
 go_cut [18] (fun v18 wc => ∃ (kq : Nat) (x18_1 : Bool), v18 = .bool x18_1 ∧ Aside0 (payrollref29_Valid.j0 kq l0 x18_1 = some r) ∧ Aside0 (kq ≤ k) ∧ Drawn0 w wc)
 case first =>
  have H := HC2.out
  clear HC2
  by_cases c3 : (l0.length : Int) = 0
  ·
   rw [if_pos c3] at H
   have c3b0 : ((l0.length : Int) == 0) = true := beq_iff_eq.mpr c3
   have c3b1 : ((l0.length : Int) != 0) = false := bne_eq_false_iff_eq.mpr c3
   clear c3
   (first | rw [c3b0] | (simp only [i64_w, i32_w]; rw [c3b0]) | skip)
   have H' := Aside0.mk H
   clear H
   go_wp2
   repeat (go_quiet (fail); try go_wp2)
   go_meet
   case rel => exact ⟨_, (true), q26, H', ⟨by first | omega | exact Nat.le_refl _⟩, q49⟩
  rw [if_neg c3] at H
  have c3b0 : ((l0.length : Int) == 0) = false := beq_eq_false_iff_ne.mpr c3
  have c3b1 : ((l0.length : Int) != 0) = true := bne_iff_ne.mpr c3
  have c3b2 : ¬ (l0 = []) := fun h_ => c3 (by rw [h_]; rfl)
  (first | rw [c3b0] | (simp only [i64_w, i32_w]; rw [c3b0]) | skip)
  by_cases c4 : (l0.length : Int) > 24
  ·
   rw [if_pos c4] at H
   have c4b0 : decide (24 < (l0.length : Int)) = true := decide_eq_true c4
   have c4b1 : decide (24 < l0.length) = true := decide_eq_true (by omega)
   clear c4
   have H' := Aside0.mk H
   clear H
   go_wp2
   repeat (go_quiet (fail); try go_wp2)
   go_meet
   case rel => exact ⟨_, (true), q26, H', ⟨by first | omega | exact Nat.le_refl _⟩, q49⟩
  rw [if_neg c4] at H
  have c4b0 : decide (24 < (l0.length : Int)) = false := decide_eq_false c4
  have c4b1 : decide (24 < l0.length) = false := decide_eq_false (by omega)
  clear c4
  by_cases c5 : 0 < (l0.length : Int)
  rotate_left
  ·
   rw [if_neg c5] at H
   exact absurd H (by simp)
  rw [if_pos c5] at H
  have c5b0 : decide (0 < (l0.length : Int)) = true := decide_eq_true c5
  have c5b1 : decide (0 < l0.length) = true := decide_eq_true (by omega)
  clear c5
  have H' := Aside0.mk H
  clear H
  have p389 : 0 ≤ (0 : Int) := (by omega)
  have q389 : 0 < (l0.length : Int) := of_decide_eq_true q6
  obtain ⟨ad389, e389, hx389_0, hx389_1⟩ := at_T58 HR0.out 0 p389 q389
  cases e389
  have qi389 : (0 < l0.length) = True := eq_true (by omega)
  (try rw [show ((0 : Int)).toNat = 0 from rfl] at hx389_0)
  (try rw [show 0 * 2 = 0 from rfl] at hx389_0)
  (try rw [Addr.add_zero'] at hx389_0)
  (try rw [show ((0 : Int)).toNat = 0 from rfl] at hx389_1)
  (try rw [show 0 * 2 = 0 from rfl] at hx389_1)
  (try rw [Addr.add_zero'] at hx389_1)
  replace p389 := eq_true p389
  replace q389 := eq_true q389
  go_wp2
  repeat (go_quiet (fail); try go_wp2)
  go_meet
  case rel => exact ⟨_, ((((rd_T58 l0 0).f0) != 0)), q26, H', ⟨by first | omega | exact Nat.le_refl _⟩, q49⟩
 case rest =>
  clear HC2
  try clear p2
  try clear c3
  try clear c3b0
  try clear c3b1
  try clear c3b2
  try clear p3
  try clear q3
  try clear hx3
  try clear qi3
  try clear c4
  try clear c4b0
  try clear c4b1
  try clear c5
  try clear c5b0
  try clear c5b1
  try clear hx389_0
  try clear hx389_1
  try clear p389
  try clear q389
  obtain ⟨kq, x18_1, rfl, HA, HJ1, ⟨mc1, rfl⟩⟩ := hcut
  cases kq with
  | zero => exact absurd HA.out (by simp [payrollref29_Valid.j0])
  | succ kj1 =>
   have H := HA.out
   clear HA
   simp only [payrollref29_Valid.j0] at H
   by_cases c6 : x18_1 = true
   ·
    subst c6
    rw [if_pos rfl] at H
    obtain rfl := Option.some.inj H
    go_wp2
    repeat (go_quiet (fail); try go_wp2)
    go_ret
    exact ⟨by first | rfl | (simp; done) | (simp [*]; done), q49⟩
   replace c6 := Bool.eq_false_iff.mpr c6
   subst c6
   rw [if_neg (show ¬ (false = true) by decide)] at H
   have H' := Aside0.mk H
   clear H
   go_wp2
   repeat (go_quiet (fail); try go_wp2)
   go_loopg [3] kj1 (fun kq v3 w' => ∃ (x3_2 : Int), v3 = .int .i64 x3_2 ∧ Aside0 (payrollref29_Valid.l0 kq l0 x3_2 = some r) ∧ Aside0 (kq ≤ kj1) ∧ Drawn0 w w')
   case atStart => exact ⟨(0), q26, H', ⟨Nat.le_refl _⟩, q49⟩
   case round =>
    clear H'
    try clear c1
    try clear p2
    try clear c3
    try clear c3b0
    try clear c3b1
    try clear c3b2
    try clear p3
    try clear q3
    try clear hx3
    try clear qi3
    try clear c4
    try clear c4b0
    try clear c4b1
    try clear c5
    try clear c5b0
    try clear c5b1
    try clear c6
    try clear hx389_0
    try clear hx389_1
    try clear p2
    try clear p3
    try clear p389
    try clear q3
    try clear q389
    obtain ⟨x3_2, rfl, HA, HK2, ⟨m2, rfl⟩⟩ := hrel
    cases gk with
    | zero => exact absurd HA.out (by simp [payrollref29_Valid.l0])
    | succ k2 =>
     have H := HA.out
     clear HA
     simp only [payrollref29_Valid.l0] at H
     by_cases c7 : x3_2 < (l0.length : Int)
     rotate_left
     ·
      rw [if_neg c7] at H
      have c7b0 : decide (x3_2 < (l0.length : Int)) = false := decide_eq_false c7
      clear c7
      obtain rfl := Option.some.inj H
      go_wp2
      repeat (go_quiet (fail); try go_wp2)
      go_ret
      exact ⟨by first | rfl | (simp; done) | (simp [*]; done), q49⟩
     rw [if_pos c7] at H
     have c7b0 : decide (x3_2 < (l0.length : Int)) = true := decide_eq_true c7
     clear c7
     by_cases c8 : x3_2 > 0
     rotate_left
     ·
      rw [if_neg c8] at H
      have c8b0 : decide (0 < x3_2) = false := decide_eq_false c8
      clear c8
      by_cases c17 : 0 ≤ x3_2
      rotate_left
      ·
       rw [if_neg c17] at H
       exact absurd H (by simp)
      rw [if_pos c17] at H
      have c17b0 : decide (0 ≤ x3_2) = true := decide_eq_true c17
      clear c17
      by_cases c18 : ((rd_T58 l0 x3_2).f0) > 1000000000000
      ·
       rw [if_pos c18] at H
       have c18b0 : decide (1000000000000 < ((rd_T58 l0 x3_2).f0)) = true := decide_eq_true c18
       clear c18
       obtain rfl := Option.some.inj H
       have p395 : 0 ≤ (x3_2 : Int) := of_decide_eq_true q6
       have q395 : x3_2 < (l0.length : Int) := of_decide_eq_true q6
       obtain ⟨ad395, e395, hx395_0, hx395_1⟩ := at_T58 HR0.out x3_2 p395 q395
       cases e395
       replace p395 := eq_true p395
       replace q395 := eq_true q395
       go_wp2
       repeat (go_quiet (fail); try go_wp2)
       go_ret
       exact ⟨by first | rfl | (simp; done) | (simp [*]; done), q49⟩
      rw [if_neg c18] at H
      have c18b0 : decide (1000000000000 < ((rd_T58 l0 x3_2).f0)) = false := decide_eq_false c18
      clear c18
      by_cases c19 : ((rd_T58 l0 x3_2).f1) < 0
      ·
       rw [if_pos c19] at H
       have c19b0 : decide (((rd_T58 l0 x3_2).f1) < 0) = true := decide_eq_true c19
       clear c19
       obtain rfl := Option.some.inj H
       have p395 : 0 ≤ (x3_2 : Int) := of_decide_eq_true q6
       have q395 : x3_2 < (l0.length : Int) := of_decide_eq_true q6
       obtain ⟨ad395, e395, hx395_0, hx395_1⟩ := at_T58 HR0.out x3_2 p395 q395
       cases e395
       replace p395 := eq_true p395
       replace q395 := eq_true q395
       have p396 : 0 ≤ (x3_2 : Int) := of_decide_eq_true q6
       have q396 : x3_2 < (l0.length : Int) := of_decide_eq_true q6
       obtain ⟨ad396, e396, hx396_0, hx396_1⟩ := at_T58 HR0.out x3_2 p396 q396
       obtain rfl : ad395 = ad396 := (by injection e396)
       replace p396 := eq_true p396
       replace q396 := eq_true q396
       go_wp2
       repeat (go_quiet (fail); try go_wp2)
       go_ret
       exact ⟨by first | rfl | (simp; done) | (simp [*]; done), q49⟩
      rw [if_neg c19] at H
      have c19b0 : decide (((rd_T58 l0 x3_2).f1) < 0) = false := decide_eq_false c19
      clear c19
      by_cases c20 : ((rd_T58 l0 x3_2).f1) > 1000000
      ·
       rw [if_pos c20] at H
       have c20b0 : decide (1000000 < ((rd_T58 l0 x3_2).f1)) = true := decide_eq_true c20
       clear c20
       obtain rfl := Option.some.inj H
       have p395 : 0 ≤ (x3_2 : Int) := of_decide_eq_true q6
       have q395 : x3_2 < (l0.length : Int) := of_decide_eq_true q6
       obtain ⟨ad395, e395, hx395_0, hx395_1⟩ := at_T58 HR0.out x3_2 p395 q395
       cases e395
       replace p395 := eq_true p395
       replace q395 := eq_true q395
       have p396 : 0 ≤ (x3_2 : Int) := of_decide_eq_true q6
       have q396 : x3_2 < (l0.length : Int) := of_decide_eq_true q6
       obtain ⟨ad396, e396, hx396_0, hx396_1⟩ := at_T58 HR0.out x3_2 p396 q396
       obtain rfl : ad395 = ad396 := (by injection e396)
       replace p396 := eq_true p396
       replace q396 := eq_true q396
       have p397 : 0 ≤ (x3_2 : Int) := of_decide_eq_true q6
       have q397 : x3_2 < (l0.length : Int) := of_decide_eq_true q6
       obtain ⟨ad397, e397, hx397_0, hx397_1⟩ := at_T58 HR0.out x3_2 p397 q397
       obtain rfl : ad395 = ad397 := (by injection e397)
       replace p397 := eq_true p397
       replace q397 := eq_true q397
       go_wp2
       repeat (go_quiet (fail); try go_wp2)
       go_ret
       exact ⟨by first | rfl | (simp; done) | (simp [*]; done), q49⟩
      rw [if_neg c20] at H
      have c20b0 : decide (1000000 < ((rd_T58 l0 x3_2).f1)) = false := decide_eq_false c20
      clear c20
      have H' := Aside0.mk H
      clear H
      have p395 : 0 ≤ (x3_2 : Int) := of_decide_eq_true q6
      have q395 : x3_2 < (l0.length : Int) := of_decide_eq_true q6
      obtain ⟨ad395, e395, hx395_0, hx395_1⟩ := at_T58 HR0.out x3_2 p395 q395
      cases e395
      replace p395 := eq_true p395
      replace q395 := eq_true q395
      have p396 : 0 ≤ (x3_2 : Int) := of_decide_eq_true q6
      have q396 : x3_2 < (l0.length : Int) := of_decide_eq_true q6
      obtain ⟨ad396, e396, hx396_0, hx396_1⟩ := at_T58 HR0.out x3_2 p396 q396
      obtain rfl : ad395 = ad396 := (by injection e396)
      replace p396 := eq_true p396
      replace q396 := eq_true q396
      have p397 : 0 ≤ (x3_2 : Int) := of_decide_eq_true q6
      have q397 : x3_2 < (l0.length : Int) := of_decide_eq_true q6
      obtain ⟨ad397, e397, hx397_0, hx397_1⟩ := at_T58 HR0.out x3_2 p397 q397
      obtain rfl : ad395 = ad397 := (by injection e397)
      replace p397 := eq_true p397
      replace q397 := eq_true q397
      go_wp2
      repeat (go_quiet (fail); try go_wp2)
      go_roundg k2
      case measure => have := HJ1.out; have := HK2.out; omega
      case rel => exact ⟨(wrap64 (x3_2 + 1)), q26, H', ⟨by have := HJ1.out; have := HK2.out; omega⟩, q49⟩
     rw [if_pos c8] at H
     have c8b0 : decide (0 < x3_2) = true := decide_eq_true c8
     clear c8
     by_cases c9 : 0 ≤ x3_2
     rotate_left
     ·
      rw [if_neg c9] at H
      exact absurd H (by simp)
     rw [if_pos c9] at H
     have c9b0 : decide (0 ≤ x3_2) = true := decide_eq_true c9
     clear c9
     obtain ⟨ji10, hji10⟩ : ∃ j_ : Int, (wrap64 (x3_2 - 1)) = j_ := ⟨_, rfl⟩
     replace H : (if 0 ≤ (ji10) then (if (ji10) < (l0.length : Int) then (if ((rd_T58 l0 x3_2).f0) ≤ ((rd_T58 l0 (ji10)).f0) then (some false) else (if ((rd_T58 l0 x3_2).f0) > 1000000000000 then (some false) else (if ((rd_T58 l0 x3_2).f1) < 0 then (some false) else (if ((rd_T58 l0 x3_2).f1) > 1000000 then (some false) else (payrollref29_Valid.l0 k2 l0 (wrap64 (x3_2 + 1))))))) else (none)) else (none)) = some r := by first | (rw [hji10] at H; exact H) | (simp only [hji10] at H ⊢; exact H)
     have hji10w : (IntKind.i64.wrap (x3_2 - 1)) = ji10 := (i64_w _).trans hji10
     by_cases c11 : 0 ≤ (ji10)
     rotate_left
     ·
      rw [if_neg c11] at H
      exact absurd H (by simp)
     rw [if_pos c11] at H
     have c11b0 : decide (0 ≤ (ji10)) = true := decide_eq_true c11
     clear c11
     by_cases c12 : (ji10) < (l0.length : Int)
     rotate_left
     ·
      rw [if_neg c12] at H
      exact absurd H (by simp)
     rw [if_pos c12] at H
     have c12b0 : decide ((ji10) < (l0.length : Int)) = true := decide_eq_true c12
     clear c12
     by_cases c13 : ((rd_T58 l0 x3_2).f0) ≤ ((rd_T58 l0 (ji10)).f0)
     ·
      rw [if_pos c13] at H
      have c13b0 : decide (((rd_T58 l0 x3_2).f0) ≤ ((rd_T58 l0 (ji10)).f0)) = true := decide_eq_true c13
      clear c13
      obtain rfl := Option.some.inj H
      have p390 : 0 ≤ (x3_2 : Int) := of_decide_eq_true q6
      have q390 : x3_2 < (l0.length : Int) := of_decide_eq_true q6
      obtain ⟨ad390, e390, hx390_0, hx390_1⟩ := at_T58 HR0.out x3_2 p390 q390
      cases e390
      replace p390 := eq_true p390
      replace q390 := eq_true q390
      have p391 : 0 ≤ ((ji10) : Int) := of_decide_eq_true q6
      have q391 : (ji10) < (l0.length : Int) := of_decide_eq_true q6
      obtain ⟨ad391, e391, hx391_0, hx391_1⟩ := at_T58 HR0.out (ji10) p391 q391
      obtain rfl : ad390 = ad391 := (by injection e391)
      replace p391 := eq_true p391
      replace q391 := eq_true q391
      go_wp2
      repeat (go_quiet (fail); try go_wp2)
      go_ret
      exact ⟨by first | rfl | (simp; done) | (simp only [← hji10] <;> (first | rfl | simp)) | (simp [*]; done), q49⟩
     rw [if_neg c13] at H
     have c13b0 : decide (((rd_T58 l0 x3_2).f0) ≤ ((rd_T58 l0 (ji10)).f0)) = false := decide_eq_false c13
     clear c13
     by_cases c14 : ((rd_T58 l0 x3_2).f0) > 1000000000000
     ·
      rw [if_pos c14] at H
      have c14b0 : decide (1000000000000 < ((rd_T58 l0 x3_2).f0)) = true := decide_eq_true c14
      clear c14
      obtain rfl := Option.some.inj H
      have p390 : 0 ≤ (x3_2 : Int) := of_decide_eq_true q6
      have q390 : x3_2 < (l0.length : Int) := of_decide_eq_true q6
      obtain ⟨ad390, e390, hx390_0, hx390_1⟩ := at_T58 HR0.out x3_2 p390 q390
      cases e390
      replace p390 := eq_true p390
      replace q390 := eq_true q390
      have p391 : 0 ≤ ((ji10) : Int) := of_decide_eq_true q6
      have q391 : (ji10) < (l0.length : Int) := of_decide_eq_true q6
      obtain ⟨ad391, e391, hx391_0, hx391_1⟩ := at_T58 HR0.out (ji10) p391 q391
      obtain rfl : ad390 = ad391 := (by injection e391)
      replace p391 := eq_true p391
      replace q391 := eq_true q391
      have p392 : 0 ≤ (x3_2 : Int) := of_decide_eq_true q6
      have q392 : x3_2 < (l0.length : Int) := of_decide_eq_true q6
      obtain ⟨ad392, e392, hx392_0, hx392_1⟩ := at_T58 HR0.out x3_2 p392 q392
      obtain rfl : ad390 = ad392 := (by injection e392)
      replace p392 := eq_true p392
      replace q392 := eq_true q392
      go_wp2
      repeat (go_quiet (fail); try go_wp2)
      go_ret
      exact ⟨by first | rfl | (simp; done) | (simp only [← hji10] <;> (first | rfl | simp)) | (simp [*]; done), q49⟩
     rw [if_neg c14] at H
     have c14b0 : decide (1000000000000 < ((rd_T58 l0 x3_2).f0)) = false := decide_eq_false c14
     clear c14
     by_cases c15 : ((rd_T58 l0 x3_2).f1) < 0
     ·
      rw [if_pos c15] at H
      have c15b0 : decide (((rd_T58 l0 x3_2).f1) < 0) = true := decide_eq_true c15
      clear c15
      obtain rfl := Option.some.inj H
      have p390 : 0 ≤ (x3_2 : Int) := of_decide_eq_true q6
      have q390 : x3_2 < (l0.length : Int) := of_decide_eq_true q6
      obtain ⟨ad390, e390, hx390_0, hx390_1⟩ := at_T58 HR0.out x3_2 p390 q390
      cases e390
      replace p390 := eq_true p390
      replace q390 := eq_true q390
      have p391 : 0 ≤ ((ji10) : Int) := of_decide_eq_true q6
      have q391 : (ji10) < (l0.length : Int) := of_decide_eq_true q6
      obtain ⟨ad391, e391, hx391_0, hx391_1⟩ := at_T58 HR0.out (ji10) p391 q391
      obtain rfl : ad390 = ad391 := (by injection e391)
      replace p391 := eq_true p391
      replace q391 := eq_true q391
      have p392 : 0 ≤ (x3_2 : Int) := of_decide_eq_true q6
      have q392 : x3_2 < (l0.length : Int) := of_decide_eq_true q6
      obtain ⟨ad392, e392, hx392_0, hx392_1⟩ := at_T58 HR0.out x3_2 p392 q392
      obtain rfl : ad390 = ad392 := (by injection e392)
      replace p392 := eq_true p392
      replace q392 := eq_true q392
      have p393 : 0 ≤ (x3_2 : Int) := of_decide_eq_true q6
      have q393 : x3_2 < (l0.length : Int) := of_decide_eq_true q6
      obtain ⟨ad393, e393, hx393_0, hx393_1⟩ := at_T58 HR0.out x3_2 p393 q393
      obtain rfl : ad390 = ad393 := (by injection e393)
      replace p393 := eq_true p393
      replace q393 := eq_true q393
      go_wp2
      repeat (go_quiet (fail); try go_wp2)
      go_ret
      exact ⟨by first | rfl | (simp; done) | (simp only [← hji10] <;> (first | rfl | simp)) | (simp [*]; done), q49⟩
     rw [if_neg c15] at H
     have c15b0 : decide (((rd_T58 l0 x3_2).f1) < 0) = false := decide_eq_false c15
     clear c15
     by_cases c16 : ((rd_T58 l0 x3_2).f1) > 1000000
     ·
      rw [if_pos c16] at H
      have c16b0 : decide (1000000 < ((rd_T58 l0 x3_2).f1)) = true := decide_eq_true c16
      clear c16
      obtain rfl := Option.some.inj H
      have p390 : 0 ≤ (x3_2 : Int) := of_decide_eq_true q6
      have q390 : x3_2 < (l0.length : Int) := of_decide_eq_true q6
      obtain ⟨ad390, e390, hx390_0, hx390_1⟩ := at_T58 HR0.out x3_2 p390 q390
      cases e390
      replace p390 := eq_true p390
      replace q390 := eq_true q390
      have p391 : 0 ≤ ((ji10) : Int) := of_decide_eq_true q6
      have q391 : (ji10) < (l0.length : Int) := of_decide_eq_true q6
      obtain ⟨ad391, e391, hx391_0, hx391_1⟩ := at_T58 HR0.out (ji10) p391 q391
      obtain rfl : ad390 = ad391 := (by injection e391)
      replace p391 := eq_true p391
      replace q391 := eq_true q391
      have p392 : 0 ≤ (x3_2 : Int) := of_decide_eq_true q6
      have q392 : x3_2 < (l0.length : Int) := of_decide_eq_true q6
      obtain ⟨ad392, e392, hx392_0, hx392_1⟩ := at_T58 HR0.out x3_2 p392 q392
      obtain rfl : ad390 = ad392 := (by injection e392)
      replace p392 := eq_true p392
      replace q392 := eq_true q392
      have p393 : 0 ≤ (x3_2 : Int) := of_decide_eq_true q6
      have q393 : x3_2 < (l0.length : Int) := of_decide_eq_true q6
      obtain ⟨ad393, e393, hx393_0, hx393_1⟩ := at_T58 HR0.out x3_2 p393 q393
      obtain rfl : ad390 = ad393 := (by injection e393)
      replace p393 := eq_true p393
      replace q393 := eq_true q393
      have p394 : 0 ≤ (x3_2 : Int) := of_decide_eq_true q6
      have q394 : x3_2 < (l0.length : Int) := of_decide_eq_true q6
      obtain ⟨ad394, e394, hx394_0, hx394_1⟩ := at_T58 HR0.out x3_2 p394 q394
      obtain rfl : ad390 = ad394 := (by injection e394)
      replace p394 := eq_true p394
      replace q394 := eq_true q394
      go_wp2
      repeat (go_quiet (fail); try go_wp2)
      go_ret
      exact ⟨by first | rfl | (simp; done) | (simp only [← hji10] <;> (first | rfl | simp)) | (simp [*]; done), q49⟩
     rw [if_neg c16] at H
     have c16b0 : decide (1000000 < ((rd_T58 l0 x3_2).f1)) = false := decide_eq_false c16
     clear c16
     have H' := Aside0.mk H
     clear H
     have p390 : 0 ≤ (x3_2 : Int) := of_decide_eq_true q6
     have q390 : x3_2 < (l0.length : Int) := of_decide_eq_true q6
     obtain ⟨ad390, e390, hx390_0, hx390_1⟩ := at_T58 HR0.out x3_2 p390 q390
     cases e390
     replace p390 := eq_true p390
     replace q390 := eq_true q390
     have p391 : 0 ≤ ((ji10) : Int) := of_decide_eq_true q6
     have q391 : (ji10) < (l0.length : Int) := of_decide_eq_true q6
     obtain ⟨ad391, e391, hx391_0, hx391_1⟩ := at_T58 HR0.out (ji10) p391 q391
     obtain rfl : ad390 = ad391 := (by injection e391)
     replace p391 := eq_true p391
     replace q391 := eq_true q391
     have p392 : 0 ≤ (x3_2 : Int) := of_decide_eq_true q6
     have q392 : x3_2 < (l0.length : Int) := of_decide_eq_true q6
     obtain ⟨ad392, e392, hx392_0, hx392_1⟩ := at_T58 HR0.out x3_2 p392 q392
     obtain rfl : ad390 = ad392 := (by injection e392)
     replace p392 := eq_true p392
     replace q392 := eq_true q392
     have p393 : 0 ≤ (x3_2 : Int) := of_decide_eq_true q6
     have q393 : x3_2 < (l0.length : Int) := of_decide_eq_true q6
     obtain ⟨ad393, e393, hx393_0, hx393_1⟩ := at_T58 HR0.out x3_2 p393 q393
     obtain rfl : ad390 = ad393 := (by injection e393)
     replace p393 := eq_true p393
     replace q393 := eq_true q393
     have p394 : 0 ≤ (x3_2 : Int) := of_decide_eq_true q6
     have q394 : x3_2 < (l0.length : Int) := of_decide_eq_true q6
     obtain ⟨ad394, e394, hx394_0, hx394_1⟩ := at_T58 HR0.out x3_2 p394 q394
     obtain rfl : ad390 = ad394 := (by injection e394)
     replace p394 := eq_true p394
     replace q394 := eq_true q394
     go_wp2
     repeat (go_quiet (fail); try go_wp2)
     go_roundg k2
     case measure => have := HJ1.out; have := HK2.out; omega
     case rel => exact ⟨(wrap64 (x3_2 + 1)), q26, H', ⟨by have := HJ1.out; have := HK2.out; omega⟩, q49⟩

end Go.Proofs.Ytbacfajhgmnjpaa.P
