/- Proved here: that the Go function payrollref30_Table computes the plain function of that name (the machine side of the laws, reworked from a print; no condition of its own). -/
import Derived.Test.YtbacfajhgmnjpaaProg
import Derived.Test.YtbacfajhgmnjpaaV1
import Derived.Test.YtbacfajhgmnjpaaV2
import Derived.Test.YtbacfajhgmnjpaaV3
import Derived.Test.YtbacfajhgmnjpaaFPRE
import Derived.Test.YtbacfajhgmnjpaaFref
namespace Go.Proofs.Ytbacfajhgmnjpaa.P
open Go.RowKit Go.Proofs.YtbacfajhgmnjpaaW.PrintWords Go.Proofs.YtbacfajhgmnjpaaW.PrintLast Go.Proofs.YtbacfajhgmnjpaaW.PrintMore
attribute [local go_sem] max2_int min2_int max_two min_two max_three min_three max_four min_four   -- for this text's walks alone
set_option linter.unusedVariables false
set_option linter.unusedSimpArgs false

mutual
def payrollref30_Table.j0 : Nat → List (S80) → Bool → Option (Bool)
 | 0, _, _ => none
 | k + 1, x0, x18 => if x18 = true then (some false) else (payrollref30_Table.l0 k x0 0)
def payrollref30_Table.l0 : Nat → List (S80) → Int → Option (Bool)
 | 0, _, _ => none
 | k + 1, x0, x3 => if x3 < (x0.length : Int) then (if x3 > 0 then (if 0 ≤ x3 then (if 0 ≤ (wrap64 (x3 - 1)) then (if (wrap64 (x3 - 1)) < (x0.length : Int) then (if ((rd_T80 x0 x3).f0) ≤ ((rd_T80 x0 (wrap64 (x3 - 1))).f0) then (some false) else (if ((rd_T80 x0 x3).f0) > 1000000000 then (some false) else ((payrollref30_in.f ((rd_T80 x0 x3).f1) 1000000000).bind fun t403 => (if t403 = true then (payrollref30_Table.l0 k x0 (wrap64 (x3 + 1))) else (some false))))) else (none)) else (none)) else (none)) else (if 0 ≤ x3 then (if ((rd_T80 x0 x3).f0) > 1000000000 then (some false) else ((payrollref30_in.f ((rd_T80 x0 x3).f1) 1000000000).bind fun t406 => (if t406 = true then (payrollref30_Table.l0 k x0 (wrap64 (x3 + 1))) else (some false)))) else (none))) else (some true)
end
def payrollref30_Table.f (k : Nat) (l0 : List (S80)) : Option (Bool) := if (l0.length : Int) = 0 then (payrollref30_Table.j0 k l0 true) else (if (l0.length : Int) > 256 then (payrollref30_Table.j0 k l0 true) else (if 0 < (l0.length : Int) then (payrollref30_Table.j0 k l0 (((rd_T80 l0 0).f0) != 0)) else (none)))
def payrollref30_Table.T6 : Bool × List (List Nat × List Nat) := (true, [([], []), ([0], [0]), ([1], [1]), ([2], [2]), ([2], [2]), ([3, 4, 2], [2, 3, 4]), ([5, 2], [2, 5]), ([6, 2], [2, 6]), ([2], [2]), ([2], [2]), ([9, 2], [2, 9]), ([8, 10, 2], [2, 8, 10]), ([11, 2], [2, 11]), ([12, 2], [2, 12]), ([7, 13, 2], [2, 7, 13]), ([2, 14], [2, 14]), ([15, 2], [15]), ([16], [16]), ([16], [16]), ([17, 18, 16], [16, 17, 18]), ([19, 16], [16, 19]), ([20, 16], [16, 20]), ([21, 16], [16, 21]), ([16, 22], [16, 22]), ([23, 16], [23]), ([24], [24]), ([24], [24]), ([25, 26, 24], [24, 25, 26]), ([27, 24], [24, 27]), ([28, 24], [24, 28]), ([29, 24, 24], [24, 29]), ([30, 24], [24, 30]), ([24, 31], [24, 31])])
def payrollref30_Table.B6 : List Nat := [0, 1, 3, 7, 7, 31, 63, 127, 7, 7, 519, 1799, 3847, 7943, 16383, 32767, 65535, 131071, 131071, 524287, 1048575, 2097151, 4194303, 8388607, 16777215, 33554431, 33554431, 134217727, 268435455, 536870911, 1073741823, 2147483647, 4294967295]
theorem payrollref30_Table.tab6 : rtab .any (opsOf Try.f60 6) = payrollref30_Table.T6 := by kernel_rfl
theorem payrollref30_Table.bits6 : waitsOk payrollref30_Table.T6.2 payrollref30_Table.B6 = true := by kernel_rfl
set_option maxHeartbeats 8000000 in
set_option maxRecDepth 100000 in
theorem payrollref30_Table.calls (k : Nat) (A0 : Option Addr) (c0 : Nat) (l0 : List (S80)) (r : Bool) (w : World) (hr0 : Kd.C k80 w A0 l0.length l0) (hc0 : l0.length ≤ c0) (h : payrollref30_Table.f k l0 = some r) :
  Calls Try.prog 60 #[.slice A0 l0.length c0] w fun e w' => e = .returned (.bool r) ∧ Below w.heap.size w w' := by
 have HR0 := Aside0.mk hr0
 have HC0 := Aside0.mk hc0
 clear hr0 hc0
 have HB := Aside0.mk (Below.refl w.heap.size w)
 have H : (if (l0.length : Int) = 0 then (payrollref30_Table.j0 k l0 true) else (if (l0.length : Int) > 256 then (payrollref30_Table.j0 k l0 true) else (if 0 < (l0.length : Int) then (payrollref30_Table.j0 k l0 (((rd_T80 l0 0).f0) != 0)) else (none)))) = some r := h
 clear h
 have HC2 := Aside0.mk H
 clear H
 go_enter Try.func60, Try.ntmps60
 go_upto_region 1 with (fail)
 go_cut [18] (fun v18 wc => ∃ (kq : Nat) (x18_1 : Bool), v18 = .bool x18_1 ∧ Aside0 (payrollref30_Table.j0 kq l0 x18_1 = some r) ∧ Aside0 (kq ≤ k) ∧ Aside0 (Below w.heap.size w wc))
 case first =>
  have H := HC2.out
  clear HC2
  by_cases c3 : (l0.length : Int) = 0
  ·
   rw [if_pos c3] at H
   have c3b0 : ((l0.length : Int) == 0) = true := beq_iff_eq.mpr c3
   have c3b1 : ((l0.length : Int) != 0) = false := bne_eq_false_iff_eq.mpr c3
   clear c3
   (first | rw [c3b0] | (simp only [i64_w, i32_w]; rw [c3b0]) | skip)
   have H' := Aside0.mk H
   clear H
   go_wp2
   go_meet
   case rel => exact ⟨_, (true), q26, H', ⟨by first | omega | exact Nat.le_refl _⟩, ⟨q0⟩⟩
  rw [if_neg c3] at H
  have c3b0 : ((l0.length : Int) == 0) = false := beq_eq_false_iff_ne.mpr c3
  have c3b1 : ((l0.length : Int) != 0) = true := bne_iff_ne.mpr c3
  have c3b2 : ¬ (l0 = []) := fun h_ => c3 (by rw [h_]; rfl)
  (first | rw [c3b0] | (simp only [i64_w, i32_w]; rw [c3b0]) | skip)
  by_cases c4 : (l0.length : Int) > 256
  ·
   rw [if_pos c4] at H
   have c4b0 : decide (256 < (l0.length : Int)) = true := decide_eq_true c4
   have c4b1 : decide (256 < l0.length) = true := decide_eq_true (by omega)
   clear c4
   have H' := Aside0.mk H
   clear H
   go_wp2
   go_meet
   case rel => exact ⟨_, (true), q26, H', ⟨by first | omega | exact Nat.le_refl _⟩, ⟨q0⟩⟩
  rw [if_neg c4] at H
  have c4b0 : decide (256 < (l0.length : Int)) = false := decide_eq_false c4
  have c4b1 : decide (256 < l0.length) = false := decide_eq_false (by omega)
  clear c4
  by_cases c5 : 0 < (l0.length : Int)
  rotate_left
  ·
   rw [if_neg c5] at H
   exact absurd H (by simp)
  rw [if_pos c5] at H
  have c5b0 : decide (0 < (l0.length : Int)) = true := decide_eq_true c5
  have c5b1 : decide (0 < l0.length) = true := decide_eq_true (by omega)
  clear c5
  have H' := Aside0.mk H
  clear H
  have p398 : 0 ≤ (0 : Int) := (by omega)
  have q398 : 0 < (l0.length : Int) := of_decide_eq_true q6
  obtain ⟨ad398, e398, hx398_0, hx398_1⟩ := at_T80 HR0.out 0 p398 q398
  cases e398
  have qi398 : (0 < l0.length) = True := eq_true (by omega)
  (try rw [show ((0 : Int)).toNat = 0 from rfl] at hx398_0)
  (try rw [show 0 * 2 = 0 from rfl] at hx398_0)
  (try rw [Addr.add_zero'] at hx398_0)
  (try rw [show ((0 : Int)).toNat = 0 from rfl] at hx398_1)
  (try rw [show 0 * 2 = 0 from rfl] at hx398_1)
  (try rw [Addr.add_zero'] at hx398_1)
  replace hx398_0 := (HB.out.cell (World.block_lt_of_cell? w _ hx398_0)).trans hx398_0
  replace hx398_1 := (HB.out.cell (World.block_lt_of_cell? w _ hx398_1)).trans hx398_1
  replace p398 := eq_true p398
  replace q398 := eq_true q398
  go_wp2
  go_meet
  case rel => exact ⟨_, ((((rd_T80 l0 0).f0) != 0)), q26, H', ⟨by first | omega | exact Nat.le_refl _⟩, ⟨q0⟩⟩
 case rest =>
  clear HC2
  try clear p2
  try clear c3
  try clear c3b0
  try clear c3b1
  try clear c3b2
  try clear p3
  try clear q3
  try clear hx3
  try clear qi3
  try clear c4
  try clear c4b0
  try clear c4b1
  try clear c5
  try clear c5b0
  try clear c5b1
  try clear hx398_0
  try clear hx398_1
  try clear p398
  try clear q398
  obtain ⟨kq, x18_1, rfl, HA, HJ1, HB⟩ := hcut
  cases kq with
  | zero => exact absurd HA.out (by simp [payrollref30_Table.j0])
  | succ kj1 =>
   have H := HA.out
   clear HA
   simp only [payrollref30_Table.j0] at H
   by_cases c6 : x18_1 = true
   ·
    subst c6
    rw [if_pos rfl] at H
    obtain rfl := Option.some.inj H
    go_wp2
    go_ret
    exact ⟨by first | rfl | (simp [errW_none, errW_some] <;> rfl) | (simp [*, errW_none, errW_some] <;> rfl), q0⟩
   replace c6 := Bool.eq_false_iff.mpr c6
   subst c6
   rw [if_neg (show ¬ (false = true) by decide)] at H
   have H' := Aside0.mk H
   clear H
   go_wp2
   go_loopg [3] kj1 (fun kq v3 w' => ∃ (x3_2 : Int), v3 = .int .i64 x3_2 ∧ Aside0 (payrollref30_Table.l0 kq l0 x3_2 = some r) ∧ Aside0 (kq ≤ kj1) ∧ Aside0 (Below w.heap.size w w'))
   case atStart => exact ⟨(0), q26, H', ⟨Nat.le_refl _⟩, ⟨q0⟩⟩
   case round =>
    clear H'
    try clear p2
    try clear c3
    try clear c3b0
    try clear c3b1
    try clear c3b2
    try clear p3
    try clear q3
    try clear hx3
    try clear qi3
    try clear c4
    try clear c4b0
    try clear c4b1
    try clear c5
    try clear c5b0
    try clear c5b1
    try clear c6
    try clear hx398_0
    try clear hx398_1
    try clear p2
    try clear p3
    try clear p398
    try clear q3
    try clear q398
    obtain ⟨x3_2, rfl, HA, HK2, HB⟩ := hrel
    cases gk with
    | zero => exact absurd HA.out (by simp [payrollref30_Table.l0])
    | succ k2 =>
     have H := HA.out
     clear HA
     simp only [payrollref30_Table.l0] at H
     by_cases c7 : x3_2 < (l0.length : Int)
     rotate_left
     ·
      rw [if_neg c7] at H
      have c7b0 : decide (x3_2 < (l0.length : Int)) = false := decide_eq_false c7
      clear c7
      obtain rfl := Option.some.inj H
      go_wp2
      go_ret
      exact ⟨by first | rfl | (simp [errW_none, errW_some] <;> rfl) | (simp [*, errW_none, errW_some] <;> rfl), q0⟩
     rw [if_pos c7] at H
     have c7b0 : decide (x3_2 < (l0.length : Int)) = true := decide_eq_true c7
     clear c7
     by_cases c8 : x3_2 > 0
     rotate_left
     ·
      rw [if_neg c8] at H
      have c8b0 : decide (0 < x3_2) = false := decide_eq_false c8
      clear c8
      by_cases c21 : 0 ≤ x3_2
      rotate_left
      ·
       rw [if_neg c21] at H
       exact absurd H (by simp)
      rw [if_pos c21] at H
      have c21b0 : decide (0 ≤ x3_2) = true := decide_eq_true c21
      clear c21
      by_cases c22 : ((rd_T80 l0 x3_2).f0) > 1000000000
      ·
       rw [if_pos c22] at H
       have c22b0 : decide (1000000000 < ((rd_T80 l0 x3_2).f0)) = true := decide_eq_true c22
       clear c22
       obtain rfl := Option.some.inj H
       try go_wp2
       have n0_ := Aside0.mk (below_drew1 HB.out)
       clear HB
       have HB := n0_
       clear n0_
       have p404 : 0 ≤ (x3_2 : Int) := of_decide_eq_true q6
       have q404 : x3_2 < (l0.length : Int) := of_decide_eq_true q6
       obtain ⟨ad404, e404, hx404_0, hx404_1⟩ := at_T80 HR0.out x3_2 p404 q404
       have hw404_1 := hx404_1
       have hw404_0 := hx404_0
       cases e404
       replace hx404_0 := (HB.out.cell (World.block_lt_of_cell? w _ hx404_0)).trans hx404_0
       replace hx404_1 := (HB.out.cell (World.block_lt_of_cell? w _ hx404_1)).trans hx404_1
       replace p404 := eq_true p404
       replace q404 := eq_true q404
       refine start_ (n := 33) (S := fun w' => w'.cell? (ad404.add ((x3_2).toNat * 2)) = some (.int .i64 ((rd_T80 l0 x3_2).f0)) ∧ w'.cell? ⟨(ad404.add ((x3_2).toNat * 2)).block, (ad404.add ((x3_2).toNat * 2)).off + 1, none⟩ = some (.int .i64 ((rd_T80 l0 x3_2).f1))) (ds := []) #[N_,N_,N_,N_,N_,N_,N_,N_,N_,N_,N_,N_,N_,N_,N_,N_,N_,N_,N_,N_,N_,N_,N_,N_,N_,N_,N_,N_,N_,N_,N_,N_,N_] (by kernel_rfl) rfl rfl ⟨((HB.out.cell (World.block_lt_of_cell? w _ hw404_0)).trans hw404_0), ((HB.out.cell (World.block_lt_of_cell? w _ hw404_1)).trans hw404_1)⟩ (fun hHeld => ?_); refine with_tabW payrollref30_Table.tab6 payrollref30_Table.bits6 (fun HT_ HW_ => ?_)
       generalize wr.drew = w23 at HB hx404_0 hx404_1 hHeld ⊢
       refine pv_ (i := 0) (N := some 25) #[Y_,N_,N_,N_,N_,N_,N_,N_,N_,N_,N_,N_,N_,N_,N_,N_,N_,N_,N_,N_,N_,N_,N_,N_,N_,N_,N_,N_,N_,N_,N_,N_,N_] (h := ?_)
       refine pv_ (i := 1) (N := some 26) #[Y_,Y_,N_,N_,N_,N_,N_,N_,N_,N_,N_,N_,N_,N_,N_,N_,N_,N_,N_,N_,N_,N_,N_,N_,N_,N_,N_,N_,N_,N_,N_,N_,N_] (h := ?_)
       refine pv_ (i := 2) (N := some 27) #[Y_,Y_,Y_,N_,N_,N_,N_,N_,N_,N_,N_,N_,N_,N_,N_,N_,N_,N_,N_,N_,N_,N_,N_,N_,N_,N_,N_,N_,N_,N_,N_,N_,N_] (h := ?_)
       refine pn_ (i := 3) (N := some 28) #[Y_,Y_,Y_,Y_,N_,N_,N_,N_,N_,N_,N_,N_,N_,N_,N_,N_,N_,N_,N_,N_,N_,N_,N_,N_,N_,N_,N_,N_,N_,N_,N_,N_,N_] (h := ?_)
       refine pn_ (i := 4) (N := some 29) #[Y_,Y_,Y_,Y_,Y_,N_,N_,N_,N_,N_,N_,N_,N_,N_,N_,N_,N_,N_,N_,N_,N_,N_,N_,N_,N_,N_,N_,N_,N_,N_,N_,N_,N_] (h := ?_)
       refine pn_ (i := 5) (N := some 30) #[Y_,Y_,Y_,Y_,Y_,Y_,N_,N_,N_,N_,N_,N_,N_,N_,N_,N_,N_,N_,N_,N_,N_,N_,N_,N_,N_,N_,N_,N_,N_,N_,N_,N_,N_] (h := ?_)
       refine pn_ (i := 6) (N := some 31) #[Y_,Y_,Y_,Y_,Y_,Y_,Y_,N_,N_,N_,N_,N_,N_,N_,N_,N_,N_,N_,N_,N_,N_,N_,N_,N_,N_,N_,N_,N_,N_,N_,N_,N_,N_] (h := ?_)
       refine pn_ (i := 7) (N := some 32) #[Y_,Y_,Y_,Y_,Y_,Y_,Y_,Y_,N_,N_,N_,N_,N_,N_,N_,N_,N_,N_,N_,N_,N_,N_,N_,N_,N_,N_,N_,N_,N_,N_,N_,N_,N_] (h := ?_)
       refine pn_ (i := 8) (N := some 33) #[Y_,Y_,Y_,Y_,Y_,Y_,Y_,Y_,Y_,N_,N_,N_,N_,N_,N_,N_,N_,N_,N_,N_,N_,N_,N_,N_,N_,N_,N_,N_,N_,N_,N_,N_,N_] (h := ?_)
       refine pn_ (i := 9) (N := some 34) #[Y_,Y_,Y_,Y_,Y_,Y_,Y_,Y_,Y_,Y_,N_,N_,N_,N_,N_,N_,N_,N_,N_,N_,N_,N_,N_,N_,N_,N_,N_,N_,N_,N_,N_,N_,N_] (h := ?_)
       refine pn_ (i := 10) (N := some 35) #[Y_,Y_,Y_,Y_,Y_,Y_,Y_,Y_,Y_,Y_,Y_,N_,N_,N_,N_,N_,N_,N_,N_,N_,N_,N_,N_,N_,N_,N_,N_,N_,N_,N_,N_,N_,N_] (h := ?_)
       refine pn_ (i := 11) (N := some 36) #[Y_,Y_,Y_,Y_,Y_,Y_,Y_,Y_,Y_,Y_,Y_,Y_,N_,N_,N_,N_,N_,N_,N_,N_,N_,N_,N_,N_,N_,N_,N_,N_,N_,N_,N_,N_,N_] (h := ?_)
       refine pn_ (i := 12) (N := some 37) #[Y_,Y_,Y_,Y_,Y_,Y_,Y_,Y_,Y_,Y_,Y_,Y_,Y_,N_,N_,N_,N_,N_,N_,N_,N_,N_,N_,N_,N_,N_,N_,N_,N_,N_,N_,N_,N_] (h := ?_)
       refine pn_ (i := 13) (N := some 38) #[Y_,Y_,Y_,Y_,Y_,Y_,Y_,Y_,Y_,Y_,Y_,Y_,Y_,Y_,N_,N_,N_,N_,N_,N_,N_,N_,N_,N_,N_,N_,N_,N_,N_,N_,N_,N_,N_] (h := ?_)
       refine pn_ (i := 14) (N := some 39) #[Y_,Y_,Y_,Y_,Y_,Y_,Y_,Y_,Y_,Y_,Y_,Y_,Y_,Y_,Y_,N_,N_,N_,N_,N_,N_,N_,N_,N_,N_,N_,N_,N_,N_,N_,N_,N_,N_] (h := ?_)
       refine pv_ (i := 15) (N := some 40) #[Y_,Y_,Y_,Y_,Y_,Y_,Y_,Y_,Y_,Y_,Y_,Y_,Y_,Y_,Y_,Y_,N_,N_,N_,N_,N_,N_,N_,N_,N_,N_,N_,N_,N_,N_,N_,N_,N_] (h := ?_)
       refine pv_ (i := 16) (N := some 41) #[Y_,Y_,Y_,Y_,Y_,Y_,Y_,Y_,Y_,Y_,Y_,Y_,Y_,Y_,Y_,Y_,Y_,N_,N_,N_,N_,N_,N_,N_,N_,N_,N_,N_,N_,N_,N_,N_,N_] (h := ?_)
       refine pv_ (i := 17) (N := some 42) #[Y_,Y_,Y_,Y_,Y_,Y_,Y_,Y_,Y_,Y_,Y_,Y_,Y_,Y_,Y_,Y_,Y_,Y_,N_,N_,N_,N_,N_,N_,N_,N_,N_,N_,N_,N_,N_,N_,N_] (h := ?_)
       refine pv_ (i := 18) (N := some 43) #[Y_,Y_,Y_,Y_,Y_,Y_,Y_,Y_,Y_,Y_,Y_,Y_,Y_,Y_,Y_,Y_,Y_,Y_,Y_,N_,N_,N_,N_,N_,N_,N_,N_,N_,N_,N_,N_,N_,N_] (h := ?_)
       refine pv_ (i := 19) (N := some 44) #[Y_,Y_,Y_,Y_,Y_,Y_,Y_,Y_,Y_,Y_,Y_,Y_,Y_,Y_,Y_,Y_,Y_,Y_,Y_,Y_,N_,N_,N_,N_,N_,N_,N_,N_,N_,N_,N_,N_,N_] (h := ?_)
       refine pv_ (i := 20) (N := some 45) #[Y_,Y_,Y_,Y_,Y_,Y_,Y_,Y_,Y_,Y_,Y_,Y_,Y_,Y_,Y_,Y_,Y_,Y_,Y_,Y_,Y_,N_,N_,N_,N_,N_,N_,N_,N_,N_,N_,N_,N_] (h := ?_)
       refine take_ (i := 21) (N := some 46) (v := ?_) (a' := ?_) #[Y_,Y_,Y_,Y_,Y_,Y_,Y_,Y_,Y_,Y_,Y_,Y_,Y_,Y_,Y_,Y_,Y_,Y_,Y_,Y_,Y_,Y_,N_,N_,N_,N_,N_,N_,N_,N_,N_,N_,N_] rfl rfl (take_ofW HT_.out HW_.out (by kernel_rfl)) (fun _ _ _ h => h) (Or.inl ⟨by rfl, ?_⟩) hHeld ?_ ?_
       rotate_left
       ·
        rintro w' ⟨s0, s1⟩
        go_simp
        with_reducible rfl
       rotate_left
       ·
        simp only [Act.put, List.setIfInBounds_toArray, List.set_cons_zero, List.set_cons_succ, i64_w, i32_w]
        rfl
       refine pv_ (i := 22) (N := some 47) #[Y_,Y_,Y_,Y_,Y_,Y_,Y_,Y_,Y_,Y_,Y_,Y_,Y_,Y_,Y_,Y_,Y_,Y_,Y_,Y_,Y_,Y_,Y_,N_,N_,N_,N_,N_,N_,N_,N_,N_,N_] (h := ?_)
       refine pv_ (i := 23) (N := some 48) #[Y_,Y_,Y_,Y_,Y_,Y_,Y_,Y_,Y_,Y_,Y_,Y_,Y_,Y_,Y_,Y_,Y_,Y_,Y_,Y_,Y_,Y_,Y_,Y_,N_,N_,N_,N_,N_,N_,N_,N_,N_] (h := ?_)
       refine pv_ (i := 24) (N := some 49) #[Y_,Y_,Y_,Y_,Y_,Y_,Y_,Y_,Y_,Y_,Y_,Y_,Y_,Y_,Y_,Y_,Y_,Y_,Y_,Y_,Y_,Y_,Y_,Y_,Y_,N_,N_,N_,N_,N_,N_,N_,N_] (h := ?_)
       refine pn_ (i := 25) (N := some 50) #[Y_,Y_,Y_,Y_,Y_,Y_,Y_,Y_,Y_,Y_,Y_,Y_,Y_,Y_,Y_,Y_,Y_,Y_,Y_,Y_,Y_,Y_,Y_,Y_,Y_,Y_,N_,N_,N_,N_,N_,N_,N_] (h := ?_)
       refine pn_ (i := 26) (N := some 51) #[Y_,Y_,Y_,Y_,Y_,Y_,Y_,Y_,Y_,Y_,Y_,Y_,Y_,Y_,Y_,Y_,Y_,Y_,Y_,Y_,Y_,Y_,Y_,Y_,Y_,Y_,Y_,N_,N_,N_,N_,N_,N_] (h := ?_)
       refine pn_ (i := 27) (N := some 52) #[Y_,Y_,Y_,Y_,Y_,Y_,Y_,Y_,Y_,Y_,Y_,Y_,Y_,Y_,Y_,Y_,Y_,Y_,Y_,Y_,Y_,Y_,Y_,Y_,Y_,Y_,Y_,Y_,N_,N_,N_,N_,N_] (h := ?_)
       refine pn_ (i := 28) (N := some 53) #[Y_,Y_,Y_,Y_,Y_,Y_,Y_,Y_,Y_,Y_,Y_,Y_,Y_,Y_,Y_,Y_,Y_,Y_,Y_,Y_,Y_,Y_,Y_,Y_,Y_,Y_,Y_,Y_,Y_,N_,N_,N_,N_] (h := ?_)
       refine pn_ (i := 29) (N := some 54) #[Y_,Y_,Y_,Y_,Y_,Y_,Y_,Y_,Y_,Y_,Y_,Y_,Y_,Y_,Y_,Y_,Y_,Y_,Y_,Y_,Y_,Y_,Y_,Y_,Y_,Y_,Y_,Y_,Y_,Y_,N_,N_,N_] (h := ?_)
       refine pn_ (i := 30) (N := some 55) #[Y_,Y_,Y_,Y_,Y_,Y_,Y_,Y_,Y_,Y_,Y_,Y_,Y_,Y_,Y_,Y_,Y_,Y_,Y_,Y_,Y_,Y_,Y_,Y_,Y_,Y_,Y_,Y_,Y_,Y_,Y_,N_,N_] (h := ?_)
       refine pn_ (i := 31) (N := some 56) #[Y_,Y_,Y_,Y_,Y_,Y_,Y_,Y_,Y_,Y_,Y_,Y_,Y_,Y_,Y_,Y_,Y_,Y_,Y_,Y_,Y_,Y_,Y_,Y_,Y_,Y_,Y_,Y_,Y_,Y_,Y_,Y_,N_] (h := ?_)
       refine pv_ (i := 32) (N := some 57) #[Y_,Y_,Y_,Y_,Y_,Y_,Y_,Y_,Y_,Y_,Y_,Y_,Y_,Y_,Y_,Y_,Y_,Y_,Y_,Y_,Y_,Y_,Y_,Y_,Y_,Y_,Y_,Y_,Y_,Y_,Y_,Y_,Y_] (h := ?_)
       refine done_ (done_of HT_.out (by kernel_rfl)) ?_
       try go_wp2
       go_ret
       exact ⟨by first | rfl | (simp [errW_none, errW_some] <;> rfl) | (simp [*, errW_none, errW_some] <;> rfl), q0⟩
      rw [if_neg c22] at H
      have c22b0 : decide (1000000000 < ((rd_T80 l0 x3_2).f0)) = false := decide_eq_false c22
      clear c22
      replace H := Option.bind_eq_some_iff.mp H
      obtain ⟨t406, A240, H⟩ := H
      try dsimp only at H
      have A24 := Aside0.mk A240
      clear A240
      by_cases c25 : t406 = true
      rotate_left
      ·
       replace c25 := Bool.eq_false_iff.mpr c25
       subst c25
       rw [if_neg (show ¬ (false = true) by decide)] at H
       obtain rfl := Option.some.inj H
       try go_wp2
       have n0_ := Aside0.mk (below_drew1 HB.out)
       clear HB
       have HB := n0_
       clear n0_
       have p404 : 0 ≤ (x3_2 : Int) := of_decide_eq_true q6
       have q404 : x3_2 < (l0.length : Int) := of_decide_eq_true q6
       obtain ⟨ad404, e404, hx404_0, hx404_1⟩ := at_T80 HR0.out x3_2 p404 q404
       have hw404_1 := hx404_1
       have hw404_0 := hx404_0
       cases e404
       replace hx404_0 := (HB.out.cell (World.block_lt_of_cell? w _ hx404_0)).trans hx404_0
       replace hx404_1 := (HB.out.cell (World.block_lt_of_cell? w _ hx404_1)).trans hx404_1
       replace p404 := eq_true p404
       replace q404 := eq_true q404
       have p405 : 0 ≤ (x3_2 : Int) := of_decide_eq_true q6
       have q405 : x3_2 < (l0.length : Int) := of_decide_eq_true q6
       obtain ⟨ad405, e405, hx405_0, hx405_1⟩ := at_T80 HR0.out x3_2 p405 q405
       have hw405_1 := hx405_1
       have hw405_0 := hx405_0
       obtain rfl : ad404 = ad405 := (by injection e405)
       replace hx405_0 := (HB.out.cell (World.block_lt_of_cell? w _ hx405_0)).trans hx405_0
       replace hx405_1 := (HB.out.cell (World.block_lt_of_cell? w _ hx405_1)).trans hx405_1
       replace p405 := eq_true p405
       replace q405 := eq_true q405
       refine start_ (n := 33) (S := fun w' => w'.cell? (ad404.add ((x3_2).toNat * 2)) = some (.int .i64 ((rd_T80 l0 x3_2).f0)) ∧ w'.cell? ⟨(ad404.add ((x3_2).toNat * 2)).block, (ad404.add ((x3_2).toNat * 2)).off + 1, none⟩ = some (.int .i64 ((rd_T80 l0 x3_2).f1)) ∧ w'.cell? (ad404.add ((x3_2).toNat * 2)) = some (.int .i64 ((rd_T80 l0 x3_2).f0)) ∧ w'.cell? ⟨(ad404.add ((x3_2).toNat * 2)).block, (ad404.add ((x3_2).toNat * 2)).off + 1, none⟩ = some (.int .i64 ((rd_T80 l0 x3_2).f1))) (ds := []) #[N_,N_,N_,N_,N_,N_,N_,N_,N_,N_,N_,N_,N_,N_,N_,N_,N_,N_,N_,N_,N_,N_,N_,N_,N_,N_,N_,N_,N_,N_,N_,N_,N_] (by kernel_rfl) rfl rfl ⟨((HB.out.cell (World.block_lt_of_cell? w _ hw404_0)).trans hw404_0), ((HB.out.cell (World.block_lt_of_cell? w _ hw404_1)).trans hw404_1), ((HB.out.cell (World.block_lt_of_cell? w _ hw405_0)).trans hw405_0), ((HB.out.cell (World.block_lt_of_cell? w _ hw405_1)).trans hw405_1)⟩ (fun hHeld => ?_); refine with_tabW payrollref30_Table.tab6 payrollref30_Table.bits6 (fun HT_ HW_ => ?_)
       generalize wr.drew = w27 at HB hx404_0 hx404_1 hx405_0 hx405_1 hHeld ⊢
       refine pv_ (i := 0) (N := some 25) #[Y_,N_,N_,N_,N_,N_,N_,N_,N_,N_,N_,N_,N_,N_,N_,N_,N_,N_,N_,N_,N_,N_,N_,N_,N_,N_,N_,N_,N_,N_,N_,N_,N_] (h := ?_)
       refine pv_ (i := 1) (N := some 26) #[Y_,Y_,N_,N_,N_,N_,N_,N_,N_,N_,N_,N_,N_,N_,N_,N_,N_,N_,N_,N_,N_,N_,N_,N_,N_,N_,N_,N_,N_,N_,N_,N_,N_] (h := ?_)
       refine pv_ (i := 2) (N := some 27) #[Y_,Y_,Y_,N_,N_,N_,N_,N_,N_,N_,N_,N_,N_,N_,N_,N_,N_,N_,N_,N_,N_,N_,N_,N_,N_,N_,N_,N_,N_,N_,N_,N_,N_] (h := ?_)
       refine pn_ (i := 3) (N := some 28) #[Y_,Y_,Y_,Y_,N_,N_,N_,N_,N_,N_,N_,N_,N_,N_,N_,N_,N_,N_,N_,N_,N_,N_,N_,N_,N_,N_,N_,N_,N_,N_,N_,N_,N_] (h := ?_)
       refine pn_ (i := 4) (N := some 29) #[Y_,Y_,Y_,Y_,Y_,N_,N_,N_,N_,N_,N_,N_,N_,N_,N_,N_,N_,N_,N_,N_,N_,N_,N_,N_,N_,N_,N_,N_,N_,N_,N_,N_,N_] (h := ?_)
       refine pn_ (i := 5) (N := some 30) #[Y_,Y_,Y_,Y_,Y_,Y_,N_,N_,N_,N_,N_,N_,N_,N_,N_,N_,N_,N_,N_,N_,N_,N_,N_,N_,N_,N_,N_,N_,N_,N_,N_,N_,N_] (h := ?_)
       refine pn_ (i := 6) (N := some 31) #[Y_,Y_,Y_,Y_,Y_,Y_,Y_,N_,N_,N_,N_,N_,N_,N_,N_,N_,N_,N_,N_,N_,N_,N_,N_,N_,N_,N_,N_,N_,N_,N_,N_,N_,N_] (h := ?_)
       refine pn_ (i := 7) (N := some 32) #[Y_,Y_,Y_,Y_,Y_,Y_,Y_,Y_,N_,N_,N_,N_,N_,N_,N_,N_,N_,N_,N_,N_,N_,N_,N_,N_,N_,N_,N_,N_,N_,N_,N_,N_,N_] (h := ?_)
       refine pn_ (i := 8) (N := some 33) #[Y_,Y_,Y_,Y_,Y_,Y_,Y_,Y_,Y_,N_,N_,N_,N_,N_,N_,N_,N_,N_,N_,N_,N_,N_,N_,N_,N_,N_,N_,N_,N_,N_,N_,N_,N_] (h := ?_)
       refine pn_ (i := 9) (N := some 34) #[Y_,Y_,Y_,Y_,Y_,Y_,Y_,Y_,Y_,Y_,N_,N_,N_,N_,N_,N_,N_,N_,N_,N_,N_,N_,N_,N_,N_,N_,N_,N_,N_,N_,N_,N_,N_] (h := ?_)
       refine pn_ (i := 10) (N := some 35) #[Y_,Y_,Y_,Y_,Y_,Y_,Y_,Y_,Y_,Y_,Y_,N_,N_,N_,N_,N_,N_,N_,N_,N_,N_,N_,N_,N_,N_,N_,N_,N_,N_,N_,N_,N_,N_] (h := ?_)
       refine pn_ (i := 11) (N := some 36) #[Y_,Y_,Y_,Y_,Y_,Y_,Y_,Y_,Y_,Y_,Y_,Y_,N_,N_,N_,N_,N_,N_,N_,N_,N_,N_,N_,N_,N_,N_,N_,N_,N_,N_,N_,N_,N_] (h := ?_)
       refine pn_ (i := 12) (N := some 37) #[Y_,Y_,Y_,Y_,Y_,Y_,Y_,Y_,Y_,Y_,Y_,Y_,Y_,N_,N_,N_,N_,N_,N_,N_,N_,N_,N_,N_,N_,N_,N_,N_,N_,N_,N_,N_,N_] (h := ?_)
       refine pn_ (i := 13) (N := some 38) #[Y_,Y_,Y_,Y_,Y_,Y_,Y_,Y_,Y_,Y_,Y_,Y_,Y_,Y_,N_,N_,N_,N_,N_,N_,N_,N_,N_,N_,N_,N_,N_,N_,N_,N_,N_,N_,N_] (h := ?_)
       refine pn_ (i := 14) (N := some 39) #[Y_,Y_,Y_,Y_,Y_,Y_,Y_,Y_,Y_,Y_,Y_,Y_,Y_,Y_,Y_,N_,N_,N_,N_,N_,N_,N_,N_,N_,N_,N_,N_,N_,N_,N_,N_,N_,N_] (h := ?_)
       refine pv_ (i := 15) (N := some 40) #[Y_,Y_,Y_,Y_,Y_,Y_,Y_,Y_,Y_,Y_,Y_,Y_,Y_,Y_,Y_,Y_,N_,N_,N_,N_,N_,N_,N_,N_,N_,N_,N_,N_,N_,N_,N_,N_,N_] (h := ?_)
       refine pv_ (i := 16) (N := some 41) #[Y_,Y_,Y_,Y_,Y_,Y_,Y_,Y_,Y_,Y_,Y_,Y_,Y_,Y_,Y_,Y_,Y_,N_,N_,N_,N_,N_,N_,N_,N_,N_,N_,N_,N_,N_,N_,N_,N_] (h := ?_)
       refine pv_ (i := 17) (N := some 42) #[Y_,Y_,Y_,Y_,Y_,Y_,Y_,Y_,Y_,Y_,Y_,Y_,Y_,Y_,Y_,Y_,Y_,Y_,N_,N_,N_,N_,N_,N_,N_,N_,N_,N_,N_,N_,N_,N_,N_] (h := ?_)
       refine pv_ (i := 18) (N := some 43) #[Y_,Y_,Y_,Y_,Y_,Y_,Y_,Y_,Y_,Y_,Y_,Y_,Y_,Y_,Y_,Y_,Y_,Y_,Y_,N_,N_,N_,N_,N_,N_,N_,N_,N_,N_,N_,N_,N_,N_] (h := ?_)
       refine pv_ (i := 19) (N := some 44) #[Y_,Y_,Y_,Y_,Y_,Y_,Y_,Y_,Y_,Y_,Y_,Y_,Y_,Y_,Y_,Y_,Y_,Y_,Y_,Y_,N_,N_,N_,N_,N_,N_,N_,N_,N_,N_,N_,N_,N_] (h := ?_)
       refine pv_ (i := 20) (N := some 45) #[Y_,Y_,Y_,Y_,Y_,Y_,Y_,Y_,Y_,Y_,Y_,Y_,Y_,Y_,Y_,Y_,Y_,Y_,Y_,Y_,Y_,N_,N_,N_,N_,N_,N_,N_,N_,N_,N_,N_,N_] (h := ?_)
       refine take_ (i := 21) (N := some 46) (v := ?_) (a' := ?_) #[Y_,Y_,Y_,Y_,Y_,Y_,Y_,Y_,Y_,Y_,Y_,Y_,Y_,Y_,Y_,Y_,Y_,Y_,Y_,Y_,Y_,Y_,N_,N_,N_,N_,N_,N_,N_,N_,N_,N_,N_] rfl rfl (take_ofW HT_.out HW_.out (by kernel_rfl)) (fun _ _ _ h => h) (Or.inl ⟨by rfl, ?_⟩) hHeld ?_ ?_
       rotate_left
       ·
        rintro w' ⟨s0, s1, s2, s3⟩
        go_simp
        with_reducible rfl
       rotate_left
       ·
        simp only [Act.put, List.setIfInBounds_toArray, List.set_cons_zero, List.set_cons_succ, i64_w, i32_w]
        rfl
       refine pv_ (i := 22) (N := some 47) #[Y_,Y_,Y_,Y_,Y_,Y_,Y_,Y_,Y_,Y_,Y_,Y_,Y_,Y_,Y_,Y_,Y_,Y_,Y_,Y_,Y_,Y_,Y_,N_,N_,N_,N_,N_,N_,N_,N_,N_,N_] (h := ?_)
       refine pv_ (i := 23) (N := some 48) #[Y_,Y_,Y_,Y_,Y_,Y_,Y_,Y_,Y_,Y_,Y_,Y_,Y_,Y_,Y_,Y_,Y_,Y_,Y_,Y_,Y_,Y_,Y_,Y_,N_,N_,N_,N_,N_,N_,N_,N_,N_] (h := ?_)
       refine pv_ (i := 24) (N := some 49) #[Y_,Y_,Y_,Y_,Y_,Y_,Y_,Y_,Y_,Y_,Y_,Y_,Y_,Y_,Y_,Y_,Y_,Y_,Y_,Y_,Y_,Y_,Y_,Y_,Y_,N_,N_,N_,N_,N_,N_,N_,N_] (h := ?_)
       refine pv_ (i := 25) (N := some 50) #[Y_,Y_,Y_,Y_,Y_,Y_,Y_,Y_,Y_,Y_,Y_,Y_,Y_,Y_,Y_,Y_,Y_,Y_,Y_,Y_,Y_,Y_,Y_,Y_,Y_,Y_,N_,N_,N_,N_,N_,N_,N_] (h := ?_)
       refine pv_ (i := 26) (N := some 51) #[Y_,Y_,Y_,Y_,Y_,Y_,Y_,Y_,Y_,Y_,Y_,Y_,Y_,Y_,Y_,Y_,Y_,Y_,Y_,Y_,Y_,Y_,Y_,Y_,Y_,Y_,Y_,N_,N_,N_,N_,N_,N_] (h := ?_)
       refine pv_ (i := 27) (N := some 52) #[Y_,Y_,Y_,Y_,Y_,Y_,Y_,Y_,Y_,Y_,Y_,Y_,Y_,Y_,Y_,Y_,Y_,Y_,Y_,Y_,Y_,Y_,Y_,Y_,Y_,Y_,Y_,Y_,N_,N_,N_,N_,N_] (h := ?_)
       refine pv_ (i := 28) (N := some 53) #[Y_,Y_,Y_,Y_,Y_,Y_,Y_,Y_,Y_,Y_,Y_,Y_,Y_,Y_,Y_,Y_,Y_,Y_,Y_,Y_,Y_,Y_,Y_,Y_,Y_,Y_,Y_,Y_,Y_,N_,N_,N_,N_] (h := ?_)
       refine take_ (i := 29) (N := some 54) (v := ?_) (a' := ?_) #[Y_,Y_,Y_,Y_,Y_,Y_,Y_,Y_,Y_,Y_,Y_,Y_,Y_,Y_,Y_,Y_,Y_,Y_,Y_,Y_,Y_,Y_,Y_,Y_,Y_,Y_,Y_,Y_,Y_,Y_,N_,N_,N_] rfl rfl (take_ofW HT_.out HW_.out (by kernel_rfl)) (fun _ _ _ h => h) (Or.inl ⟨by rfl, ?_⟩) hHeld ?_ ?_
       rotate_left
       ·
        rintro w' ⟨s0, s1, s2, s3⟩
        go_simp
        with_reducible rfl
       rotate_left
       ·
        simp only [Act.put, List.setIfInBounds_toArray, List.set_cons_zero, List.set_cons_succ, i64_w, i32_w]
        rfl
       refine one_ (i := 30) (N := some 55) #[Y_,Y_,Y_,Y_,Y_,Y_,Y_,Y_,Y_,Y_,Y_,Y_,Y_,Y_,Y_,Y_,Y_,Y_,Y_,Y_,Y_,Y_,Y_,Y_,Y_,Y_,Y_,Y_,Y_,Y_,Y_,N_,N_] rfl rfl (one_of HT_.out (by kernel_rfl)) (by decide) (fun K hK => ?_)
       refine goes_ Try.func47 (by kernel_rfl) rfl #[.int .i64 ((rd_T80 l0 x3_2).f1), .int .i64 1000000000] (by rfl) rfl rfl q1 ?_
       with_reducible refine (payrollref30_in.calls ((rd_T80 l0 x3_2).f1) 1000000000 false _ A24.out).mono ?_
       rintro e w' ⟨rfl, ⟨nd, rfl⟩⟩
       refine ⟨_, rfl, ?_⟩
       refine hK.out _ _ ⟨((HB.out.cell (World.block_lt_of_cell? w _ hw404_0)).trans hw404_0), ((HB.out.cell (World.block_lt_of_cell? w _ hw404_1)).trans hw404_1), ((HB.out.cell (World.block_lt_of_cell? w _ hw405_0)).trans hw405_0), ((HB.out.cell (World.block_lt_of_cell? w _ hw405_1)).trans hw405_1)⟩ (fun hHeld => ?_)
       clear hK K
       refine norm_ (a' := ?_) ?_ ?_
       rotate_left
       ·
        show Act.put _ (some 55) _ = _
        simp only [Act.put, List.setIfInBounds_toArray, List.set_cons_zero, List.set_cons_succ, i64_w, i32_w]
        rfl
       refine pv_ (i := 31) (N := some 56) #[Y_,Y_,Y_,Y_,Y_,Y_,Y_,Y_,Y_,Y_,Y_,Y_,Y_,Y_,Y_,Y_,Y_,Y_,Y_,Y_,Y_,Y_,Y_,Y_,Y_,Y_,Y_,Y_,Y_,Y_,Y_,Y_,N_] (h := ?_)
       refine pv_ (i := 32) (N := some 57) #[Y_,Y_,Y_,Y_,Y_,Y_,Y_,Y_,Y_,Y_,Y_,Y_,Y_,Y_,Y_,Y_,Y_,Y_,Y_,Y_,Y_,Y_,Y_,Y_,Y_,Y_,Y_,Y_,Y_,Y_,Y_,Y_,Y_] (h := ?_)
       refine done_ (done_of HT_.out (by kernel_rfl)) ?_
       try go_wp2
       go_ret
       exact ⟨by first | rfl | (simp [errW_none, errW_some] <;> rfl) | (simp [*, errW_none, errW_some] <;> rfl), q0⟩
      subst c25
      rw [if_pos rfl] at H
      have H' := Aside0.mk H
      clear H
      try go_wp2
      have n0_ := Aside0.mk (below_drew1 HB.out)
      clear HB
      have HB := n0_
      clear n0_
      have p404 : 0 ≤ (x3_2 : Int) := of_decide_eq_true q6
      have q404 : x3_2 < (l0.length : Int) := of_decide_eq_true q6
      obtain ⟨ad404, e404, hx404_0, hx404_1⟩ := at_T80 HR0.out x3_2 p404 q404
      have hw404_1 := hx404_1
      have hw404_0 := hx404_0
      cases e404
      replace hx404_0 := (HB.out.cell (World.block_lt_of_cell? w _ hx404_0)).trans hx404_0
      replace hx404_1 := (HB.out.cell (World.block_lt_of_cell? w _ hx404_1)).trans hx404_1
      replace p404 := eq_true p404
      replace q404 := eq_true q404
      have p405 : 0 ≤ (x3_2 : Int) := of_decide_eq_true q6
      have q405 : x3_2 < (l0.length : Int) := of_decide_eq_true q6
      obtain ⟨ad405, e405, hx405_0, hx405_1⟩ := at_T80 HR0.out x3_2 p405 q405
      have hw405_1 := hx405_1
      have hw405_0 := hx405_0
      obtain rfl : ad404 = ad405 := (by injection e405)
      replace hx405_0 := (HB.out.cell (World.block_lt_of_cell? w _ hx405_0)).trans hx405_0
      replace hx405_1 := (HB.out.cell (World.block_lt_of_cell? w _ hx405_1)).trans hx405_1
      replace p405 := eq_true p405
      replace q405 := eq_true q405
      refine start_ (n := 33) (S := fun w' => w'.cell? (ad404.add ((x3_2).toNat * 2)) = some (.int .i64 ((rd_T80 l0 x3_2).f0)) ∧ w'.cell? ⟨(ad404.add ((x3_2).toNat * 2)).block, (ad404.add ((x3_2).toNat * 2)).off + 1, none⟩ = some (.int .i64 ((rd_T80 l0 x3_2).f1)) ∧ w'.cell? (ad404.add ((x3_2).toNat * 2)) = some (.int .i64 ((rd_T80 l0 x3_2).f0)) ∧ w'.cell? ⟨(ad404.add ((x3_2).toNat * 2)).block, (ad404.add ((x3_2).toNat * 2)).off + 1, none⟩ = some (.int .i64 ((rd_T80 l0 x3_2).f1))) (ds := []) #[N_,N_,N_,N_,N_,N_,N_,N_,N_,N_,N_,N_,N_,N_,N_,N_,N_,N_,N_,N_,N_,N_,N_,N_,N_,N_,N_,N_,N_,N_,N_,N_,N_] (by kernel_rfl) rfl rfl ⟨((HB.out.cell (World.block_lt_of_cell? w _ hw404_0)).trans hw404_0), ((HB.out.cell (World.block_lt_of_cell? w _ hw404_1)).trans hw404_1), ((HB.out.cell (World.block_lt_of_cell? w _ hw405_0)).trans hw405_0), ((HB.out.cell (World.block_lt_of_cell? w _ hw405_1)).trans hw405_1)⟩ (fun hHeld => ?_); refine with_tabW payrollref30_Table.tab6 payrollref30_Table.bits6 (fun HT_ HW_ => ?_)
      generalize wr.drew = w26 at HB hx404_0 hx404_1 hx405_0 hx405_1 hHeld ⊢
      refine pv_ (i := 0) (N := some 25) #[Y_,N_,N_,N_,N_,N_,N_,N_,N_,N_,N_,N_,N_,N_,N_,N_,N_,N_,N_,N_,N_,N_,N_,N_,N_,N_,N_,N_,N_,N_,N_,N_,N_] (h := ?_)
      refine pv_ (i := 1) (N := some 26) #[Y_,Y_,N_,N_,N_,N_,N_,N_,N_,N_,N_,N_,N_,N_,N_,N_,N_,N_,N_,N_,N_,N_,N_,N_,N_,N_,N_,N_,N_,N_,N_,N_,N_] (h := ?_)
      refine pv_ (i := 2) (N := some 27) #[Y_,Y_,Y_,N_,N_,N_,N_,N_,N_,N_,N_,N_,N_,N_,N_,N_,N_,N_,N_,N_,N_,N_,N_,N_,N_,N_,N_,N_,N_,N_,N_,N_,N_] (h := ?_)
      refine pn_ (i := 3) (N := some 28) #[Y_,Y_,Y_,Y_,N_,N_,N_,N_,N_,N_,N_,N_,N_,N_,N_,N_,N_,N_,N_,N_,N_,N_,N_,N_,N_,N_,N_,N_,N_,N_,N_,N_,N_] (h := ?_)
      refine pn_ (i := 4) (N := some 29) #[Y_,Y_,Y_,Y_,Y_,N_,N_,N_,N_,N_,N_,N_,N_,N_,N_,N_,N_,N_,N_,N_,N_,N_,N_,N_,N_,N_,N_,N_,N_,N_,N_,N_,N_] (h := ?_)
      refine pn_ (i := 5) (N := some 30) #[Y_,Y_,Y_,Y_,Y_,Y_,N_,N_,N_,N_,N_,N_,N_,N_,N_,N_,N_,N_,N_,N_,N_,N_,N_,N_,N_,N_,N_,N_,N_,N_,N_,N_,N_] (h := ?_)
      refine pn_ (i := 6) (N := some 31) #[Y_,Y_,Y_,Y_,Y_,Y_,Y_,N_,N_,N_,N_,N_,N_,N_,N_,N_,N_,N_,N_,N_,N_,N_,N_,N_,N_,N_,N_,N_,N_,N_,N_,N_,N_] (h := ?_)
      refine pn_ (i := 7) (N := some 32) #[Y_,Y_,Y_,Y_,Y_,Y_,Y_,Y_,N_,N_,N_,N_,N_,N_,N_,N_,N_,N_,N_,N_,N_,N_,N_,N_,N_,N_,N_,N_,N_,N_,N_,N_,N_] (h := ?_)
      refine pn_ (i := 8) (N := some 33) #[Y_,Y_,Y_,Y_,Y_,Y_,Y_,Y_,Y_,N_,N_,N_,N_,N_,N_,N_,N_,N_,N_,N_,N_,N_,N_,N_,N_,N_,N_,N_,N_,N_,N_,N_,N_] (h := ?_)
      refine pn_ (i := 9) (N := some 34) #[Y_,Y_,Y_,Y_,Y_,Y_,Y_,Y_,Y_,Y_,N_,N_,N_,N_,N_,N_,N_,N_,N_,N_,N_,N_,N_,N_,N_,N_,N_,N_,N_,N_,N_,N_,N_] (h := ?_)
      refine pn_ (i := 10) (N := some 35) #[Y_,Y_,Y_,Y_,Y_,Y_,Y_,Y_,Y_,Y_,Y_,N_,N_,N_,N_,N_,N_,N_,N_,N_,N_,N_,N_,N_,N_,N_,N_,N_,N_,N_,N_,N_,N_] (h := ?_)
      refine pn_ (i := 11) (N := some 36) #[Y_,Y_,Y_,Y_,Y_,Y_,Y_,Y_,Y_,Y_,Y_,Y_,N_,N_,N_,N_,N_,N_,N_,N_,N_,N_,N_,N_,N_,N_,N_,N_,N_,N_,N_,N_,N_] (h := ?_)
      refine pn_ (i := 12) (N := some 37) #[Y_,Y_,Y_,Y_,Y_,Y_,Y_,Y_,Y_,Y_,Y_,Y_,Y_,N_,N_,N_,N_,N_,N_,N_,N_,N_,N_,N_,N_,N_,N_,N_,N_,N_,N_,N_,N_] (h := ?_)
      refine pn_ (i := 13) (N := some 38) #[Y_,Y_,Y_,Y_,Y_,Y_,Y_,Y_,Y_,Y_,Y_,Y_,Y_,Y_,N_,N_,N_,N_,N_,N_,N_,N_,N_,N_,N_,N_,N_,N_,N_,N_,N_,N_,N_] (h := ?_)
      refine pn_ (i := 14) (N := some 39) #[Y_,Y_,Y_,Y_,Y_,Y_,Y_,Y_,Y_,Y_,Y_,Y_,Y_,Y_,Y_,N_,N_,N_,N_,N_,N_,N_,N_,N_,N_,N_,N_,N_,N_,N_,N_,N_,N_] (h := ?_)
      refine pv_ (i := 15) (N := some 40) #[Y_,Y_,Y_,Y_,Y_,Y_,Y_,Y_,Y_,Y_,Y_,Y_,Y_,Y_,Y_,Y_,N_,N_,N_,N_,N_,N_,N_,N_,N_,N_,N_,N_,N_,N_,N_,N_,N_] (h := ?_)
      refine pv_ (i := 16) (N := some 41) #[Y_,Y_,Y_,Y_,Y_,Y_,Y_,Y_,Y_,Y_,Y_,Y_,Y_,Y_,Y_,Y_,Y_,N_,N_,N_,N_,N_,N_,N_,N_,N_,N_,N_,N_,N_,N_,N_,N_] (h := ?_)
      refine pv_ (i := 17) (N := some 42) #[Y_,Y_,Y_,Y_,Y_,Y_,Y_,Y_,Y_,Y_,Y_,Y_,Y_,Y_,Y_,Y_,Y_,Y_,N_,N_,N_,N_,N_,N_,N_,N_,N_,N_,N_,N_,N_,N_,N_] (h := ?_)
      refine pv_ (i := 18) (N := some 43) #[Y_,Y_,Y_,Y_,Y_,Y_,Y_,Y_,Y_,Y_,Y_,Y_,Y_,Y_,Y_,Y_,Y_,Y_,Y_,N_,N_,N_,N_,N_,N_,N_,N_,N_,N_,N_,N_,N_,N_] (h := ?_)
      refine pv_ (i := 19) (N := some 44) #[Y_,Y_,Y_,Y_,Y_,Y_,Y_,Y_,Y_,Y_,Y_,Y_,Y_,Y_,Y_,Y_,Y_,Y_,Y_,Y_,N_,N_,N_,N_,N_,N_,N_,N_,N_,N_,N_,N_,N_] (h := ?_)
      refine pv_ (i := 20) (N := some 45) #[Y_,Y_,Y_,Y_,Y_,Y_,Y_,Y_,Y_,Y_,Y_,Y_,Y_,Y_,Y_,Y_,Y_,Y_,Y_,Y_,Y_,N_,N_,N_,N_,N_,N_,N_,N_,N_,N_,N_,N_] (h := ?_)
      refine take_ (i := 21) (N := some 46) (v := ?_) (a' := ?_) #[Y_,Y_,Y_,Y_,Y_,Y_,Y_,Y_,Y_,Y_,Y_,Y_,Y_,Y_,Y_,Y_,Y_,Y_,Y_,Y_,Y_,Y_,N_,N_,N_,N_,N_,N_,N_,N_,N_,N_,N_] rfl rfl (take_ofW HT_.out HW_.out (by kernel_rfl)) (fun _ _ _ h => h) (Or.inl ⟨by rfl, ?_⟩) hHeld ?_ ?_
      rotate_left
      ·
       rintro w' ⟨s0, s1, s2, s3⟩
       go_simp
       with_reducible rfl
      rotate_left
      ·
       simp only [Act.put, List.setIfInBounds_toArray, List.set_cons_zero, List.set_cons_succ, i64_w, i32_w]
       rfl
      refine pv_ (i := 22) (N := some 47) #[Y_,Y_,Y_,Y_,Y_,Y_,Y_,Y_,Y_,Y_,Y_,Y_,Y_,Y_,Y_,Y_,Y_,Y_,Y_,Y_,Y_,Y_,Y_,N_,N_,N_,N_,N_,N_,N_,N_,N_,N_] (h := ?_)
      refine pv_ (i := 23) (N := some 48) #[Y_,Y_,Y_,Y_,Y_,Y_,Y_,Y_,Y_,Y_,Y_,Y_,Y_,Y_,Y_,Y_,Y_,Y_,Y_,Y_,Y_,Y_,Y_,Y_,N_,N_,N_,N_,N_,N_,N_,N_,N_] (h := ?_)
      refine pv_ (i := 24) (N := some 49) #[Y_,Y_,Y_,Y_,Y_,Y_,Y_,Y_,Y_,Y_,Y_,Y_,Y_,Y_,Y_,Y_,Y_,Y_,Y_,Y_,Y_,Y_,Y_,Y_,Y_,N_,N_,N_,N_,N_,N_,N_,N_] (h := ?_)
      refine pv_ (i := 25) (N := some 50) #[Y_,Y_,Y_,Y_,Y_,Y_,Y_,Y_,Y_,Y_,Y_,Y_,Y_,Y_,Y_,Y_,Y_,Y_,Y_,Y_,Y_,Y_,Y_,Y_,Y_,Y_,N_,N_,N_,N_,N_,N_,N_] (h := ?_)
      refine pv_ (i := 26) (N := some 51) #[Y_,Y_,Y_,Y_,Y_,Y_,Y_,Y_,Y_,Y_,Y_,Y_,Y_,Y_,Y_,Y_,Y_,Y_,Y_,Y_,Y_,Y_,Y_,Y_,Y_,Y_,Y_,N_,N_,N_,N_,N_,N_] (h := ?_)
      refine pv_ (i := 27) (N := some 52) #[Y_,Y_,Y_,Y_,Y_,Y_,Y_,Y_,Y_,Y_,Y_,Y_,Y_,Y_,Y_,Y_,Y_,Y_,Y_,Y_,Y_,Y_,Y_,Y_,Y_,Y_,Y_,Y_,N_,N_,N_,N_,N_] (h := ?_)
      refine pv_ (i := 28) (N := some 53) #[Y_,Y_,Y_,Y_,Y_,Y_,Y_,Y_,Y_,Y_,Y_,Y_,Y_,Y_,Y_,Y_,Y_,Y_,Y_,Y_,Y_,Y_,Y_,Y_,Y_,Y_,Y_,Y_,Y_,N_,N_,N_,N_] (h := ?_)
      refine take_ (i := 29) (N := some 54) (v := ?_) (a' := ?_) #[Y_,Y_,Y_,Y_,Y_,Y_,Y_,Y_,Y_,Y_,Y_,Y_,Y_,Y_,Y_,Y_,Y_,Y_,Y_,Y_,Y_,Y_,Y_,Y_,Y_,Y_,Y_,Y_,Y_,Y_,N_,N_,N_] rfl rfl (take_ofW HT_.out HW_.out (by kernel_rfl)) (fun _ _ _ h => h) (Or.inl ⟨by rfl, ?_⟩) hHeld ?_ ?_
      rotate_left
      ·
       rintro w' ⟨s0, s1, s2, s3⟩
       go_simp
       with_reducible rfl
      rotate_left
      ·
       simp only [Act.put, List.setIfInBounds_toArray, List.set_cons_zero, List.set_cons_succ, i64_w, i32_w]
       rfl
      refine one_ (i := 30) (N := some 55) #[Y_,Y_,Y_,Y_,Y_,Y_,Y_,Y_,Y_,Y_,Y_,Y_,Y_,Y_,Y_,Y_,Y_,Y_,Y_,Y_,Y_,Y_,Y_,Y_,Y_,Y_,Y_,Y_,Y_,Y_,Y_,N_,N_] rfl rfl (one_of HT_.out (by kernel_rfl)) (by decide) (fun K hK => ?_)
      refine goes_ Try.func47 (by kernel_rfl) rfl #[.int .i64 ((rd_T80 l0 x3_2).f1), .int .i64 1000000000] (by rfl) rfl rfl q1 ?_
      with_reducible refine (payrollref30_in.calls ((rd_T80 l0 x3_2).f1) 1000000000 true _ A24.out).mono ?_
      rintro e w' ⟨rfl, ⟨nd, rfl⟩⟩
      refine ⟨_, rfl, ?_⟩
      refine hK.out _ _ ⟨((HB.out.cell (World.block_lt_of_cell? w _ hw404_0)).trans hw404_0), ((HB.out.cell (World.block_lt_of_cell? w _ hw404_1)).trans hw404_1), ((HB.out.cell (World.block_lt_of_cell? w _ hw405_0)).trans hw405_0), ((HB.out.cell (World.block_lt_of_cell? w _ hw405_1)).trans hw405_1)⟩ (fun hHeld => ?_)
      clear hK K
      refine norm_ (a' := ?_) ?_ ?_
      rotate_left
      ·
       show Act.put _ (some 55) _ = _
       simp only [Act.put, List.setIfInBounds_toArray, List.set_cons_zero, List.set_cons_succ, i64_w, i32_w]
       rfl
      refine pv_ (i := 31) (N := some 56) #[Y_,Y_,Y_,Y_,Y_,Y_,Y_,Y_,Y_,Y_,Y_,Y_,Y_,Y_,Y_,Y_,Y_,Y_,Y_,Y_,Y_,Y_,Y_,Y_,Y_,Y_,Y_,Y_,Y_,Y_,Y_,Y_,N_] (h := ?_)
      refine pv_ (i := 32) (N := some 57) #[Y_,Y_,Y_,Y_,Y_,Y_,Y_,Y_,Y_,Y_,Y_,Y_,Y_,Y_,Y_,Y_,Y_,Y_,Y_,Y_,Y_,Y_,Y_,Y_,Y_,Y_,Y_,Y_,Y_,Y_,Y_,Y_,Y_] (h := ?_)
      refine done_ (done_of HT_.out (by kernel_rfl)) ?_
      try go_wp2
      go_roundg k2
      case measure => have := HJ1.out; have := HK2.out; omega
      case rel => exact ⟨(wrap64 (x3_2 + 1)), q26, H', ⟨by have := HJ1.out; have := HK2.out; omega⟩, ⟨q0⟩⟩
     rw [if_pos c8] at H
     have c8b0 : decide (0 < x3_2) = true := decide_eq_true c8
     clear c8
     by_cases c9 : 0 ≤ x3_2
     rotate_left
     ·
      rw [if_neg c9] at H
      exact absurd H (by simp)
     rw [if_pos c9] at H
     have c9b0 : decide (0 ≤ x3_2) = true := decide_eq_true c9
     clear c9
     obtain ⟨ji10, hji10⟩ : ∃ j_ : Int, (wrap64 (x3_2 - 1)) = j_ := ⟨_, rfl⟩
     replace H : (if 0 ≤ (ji10) then (if (ji10) < (l0.length : Int) then (if ((rd_T80 l0 x3_2).f0) ≤ ((rd_T80 l0 (ji10)).f0) then (some false) else (if ((rd_T80 l0 x3_2).f0) > 1000000000 then (some false) else ((payrollref30_in.f ((rd_T80 l0 x3_2).f1) 1000000000).bind fun t403 => (if t403 = true then (payrollref30_Table.l0 k2 l0 (wrap64 (x3_2 + 1))) else (some false))))) else (none)) else (none)) = some r := by first | (rw [hji10] at H; exact H) | (simp only [hji10] at H ⊢; exact H)
     have hji10w : (IntKind.i64.wrap (x3_2 - 1)) = ji10 := (i64_w _).trans hji10
     by_cases c11 : 0 ≤ (ji10)
     rotate_left
     ·
      rw [if_neg c11] at H
      exact absurd H (by simp)
     rw [if_pos c11] at H
     have c11b0 : decide (0 ≤ (ji10)) = true := decide_eq_true c11
     clear c11
     by_cases c12 : (ji10) < (l0.length : Int)
     rotate_left
     ·
      rw [if_neg c12] at H
      exact absurd H (by simp)
     rw [if_pos c12] at H
     have c12b0 : decide ((ji10) < (l0.length : Int)) = true := decide_eq_true c12
     clear c12
     by_cases c13 : ((rd_T80 l0 x3_2).f0) ≤ ((rd_T80 l0 (ji10)).f0)
     ·
      rw [if_pos c13] at H
      have c13b0 : decide (((rd_T80 l0 x3_2).f0) ≤ ((rd_T80 l0 (ji10)).f0)) = true := decide_eq_true c13
      clear c13
      obtain rfl := Option.some.inj H
      try go_wp2
      have n0_ := Aside0.mk (below_drew1 HB.out)
      clear HB
      have HB := n0_
      clear n0_
      have p399 : 0 ≤ (x3_2 : Int) := of_decide_eq_true q6
      have q399 : x3_2 < (l0.length : Int) := of_decide_eq_true q6
      obtain ⟨ad399, e399, hx399_0, hx399_1⟩ := at_T80 HR0.out x3_2 p399 q399
      have hw399_1 := hx399_1
      have hw399_0 := hx399_0
      cases e399
      replace hx399_0 := (HB.out.cell (World.block_lt_of_cell? w _ hx399_0)).trans hx399_0
      replace hx399_1 := (HB.out.cell (World.block_lt_of_cell? w _ hx399_1)).trans hx399_1
      replace p399 := eq_true p399
      replace q399 := eq_true q399
      have p400 : 0 ≤ ((ji10) : Int) := of_decide_eq_true q6
      have q400 : (ji10) < (l0.length : Int) := of_decide_eq_true q6
      obtain ⟨ad400, e400, hx400_0, hx400_1⟩ := at_T80 HR0.out (ji10) p400 q400
      have hw400_1 := hx400_1
      have hw400_0 := hx400_0
      obtain rfl : ad399 = ad400 := (by injection e400)
      replace hx400_0 := (HB.out.cell (World.block_lt_of_cell? w _ hx400_0)).trans hx400_0
      replace hx400_1 := (HB.out.cell (World.block_lt_of_cell? w _ hx400_1)).trans hx400_1
      replace p400 := eq_true p400
      replace q400 := eq_true q400
      refine start_ (n := 33) (S := fun w' => w'.cell? (ad399.add ((x3_2).toNat * 2)) = some (.int .i64 ((rd_T80 l0 x3_2).f0)) ∧ w'.cell? ⟨(ad399.add ((x3_2).toNat * 2)).block, (ad399.add ((x3_2).toNat * 2)).off + 1, none⟩ = some (.int .i64 ((rd_T80 l0 x3_2).f1)) ∧ w'.cell? (ad399.add (((ji10)).toNat * 2)) = some (.int .i64 ((rd_T80 l0 (ji10)).f0)) ∧ w'.cell? ⟨(ad399.add (((ji10)).toNat * 2)).block, (ad399.add (((ji10)).toNat * 2)).off + 1, none⟩ = some (.int .i64 ((rd_T80 l0 (ji10)).f1))) (ds := []) #[N_,N_,N_,N_,N_,N_,N_,N_,N_,N_,N_,N_,N_,N_,N_,N_,N_,N_,N_,N_,N_,N_,N_,N_,N_,N_,N_,N_,N_,N_,N_,N_,N_] (by kernel_rfl) rfl rfl ⟨((HB.out.cell (World.block_lt_of_cell? w _ hw399_0)).trans hw399_0), ((HB.out.cell (World.block_lt_of_cell? w _ hw399_1)).trans hw399_1), ((HB.out.cell (World.block_lt_of_cell? w _ hw400_0)).trans hw400_0), ((HB.out.cell (World.block_lt_of_cell? w _ hw400_1)).trans hw400_1)⟩ (fun hHeld => ?_); refine with_tabW payrollref30_Table.tab6 payrollref30_Table.bits6 (fun HT_ HW_ => ?_)
      generalize wr.drew = w14 at HB hx399_0 hx399_1 hx400_0 hx400_1 hHeld ⊢
      refine pv_ (i := 0) (N := some 25) #[Y_,N_,N_,N_,N_,N_,N_,N_,N_,N_,N_,N_,N_,N_,N_,N_,N_,N_,N_,N_,N_,N_,N_,N_,N_,N_,N_,N_,N_,N_,N_,N_,N_] (h := ?_)
      refine pv_ (i := 1) (N := some 26) #[Y_,Y_,N_,N_,N_,N_,N_,N_,N_,N_,N_,N_,N_,N_,N_,N_,N_,N_,N_,N_,N_,N_,N_,N_,N_,N_,N_,N_,N_,N_,N_,N_,N_] (h := ?_)
      refine pv_ (i := 2) (N := some 27) #[Y_,Y_,Y_,N_,N_,N_,N_,N_,N_,N_,N_,N_,N_,N_,N_,N_,N_,N_,N_,N_,N_,N_,N_,N_,N_,N_,N_,N_,N_,N_,N_,N_,N_] (h := ?_)
      refine pv_ (i := 3) (N := some 28) #[Y_,Y_,Y_,Y_,N_,N_,N_,N_,N_,N_,N_,N_,N_,N_,N_,N_,N_,N_,N_,N_,N_,N_,N_,N_,N_,N_,N_,N_,N_,N_,N_,N_,N_] (h := ?_)
      refine pv_ (i := 4) (N := some 29) #[Y_,Y_,Y_,Y_,Y_,N_,N_,N_,N_,N_,N_,N_,N_,N_,N_,N_,N_,N_,N_,N_,N_,N_,N_,N_,N_,N_,N_,N_,N_,N_,N_,N_,N_] (h := ?_)
      refine pv_ (i := 5) (N := some 30) #[Y_,Y_,Y_,Y_,Y_,Y_,N_,N_,N_,N_,N_,N_,N_,N_,N_,N_,N_,N_,N_,N_,N_,N_,N_,N_,N_,N_,N_,N_,N_,N_,N_,N_,N_] (h := ?_)
      refine pv_ (i := 6) (N := some 31) #[Y_,Y_,Y_,Y_,Y_,Y_,Y_,N_,N_,N_,N_,N_,N_,N_,N_,N_,N_,N_,N_,N_,N_,N_,N_,N_,N_,N_,N_,N_,N_,N_,N_,N_,N_] (h := ?_)
      refine pv_ (i := 8) (N := some 33) #[Y_,Y_,Y_,Y_,Y_,Y_,Y_,N_,Y_,N_,N_,N_,N_,N_,N_,N_,N_,N_,N_,N_,N_,N_,N_,N_,N_,N_,N_,N_,N_,N_,N_,N_,N_] (h := ?_)
      refine pv_ (i := 9) (N := some 34) #[Y_,Y_,Y_,Y_,Y_,Y_,Y_,N_,Y_,Y_,N_,N_,N_,N_,N_,N_,N_,N_,N_,N_,N_,N_,N_,N_,N_,N_,N_,N_,N_,N_,N_,N_,N_] (h := ?_)
      refine pv_ (i := 10) (N := some 35) #[Y_,Y_,Y_,Y_,Y_,Y_,Y_,N_,Y_,Y_,Y_,N_,N_,N_,N_,N_,N_,N_,N_,N_,N_,N_,N_,N_,N_,N_,N_,N_,N_,N_,N_,N_,N_] (h := ?_)
      refine pv_ (i := 11) (N := some 36) #[Y_,Y_,Y_,Y_,Y_,Y_,Y_,N_,Y_,Y_,Y_,Y_,N_,N_,N_,N_,N_,N_,N_,N_,N_,N_,N_,N_,N_,N_,N_,N_,N_,N_,N_,N_,N_] (h := ?_)
      refine pv_ (i := 12) (N := some 37) #[Y_,Y_,Y_,Y_,Y_,Y_,Y_,N_,Y_,Y_,Y_,Y_,Y_,N_,N_,N_,N_,N_,N_,N_,N_,N_,N_,N_,N_,N_,N_,N_,N_,N_,N_,N_,N_] (h := ?_)
      refine take_ (i := 7) (N := some 32) (v := ?_) (a' := ?_) #[Y_,Y_,Y_,Y_,Y_,Y_,Y_,Y_,Y_,Y_,Y_,Y_,Y_,N_,N_,N_,N_,N_,N_,N_,N_,N_,N_,N_,N_,N_,N_,N_,N_,N_,N_,N_,N_] rfl rfl (take_ofW HT_.out HW_.out (by kernel_rfl)) (fun _ _ _ h => h) (Or.inl ⟨by rfl, ?_⟩) hHeld ?_ ?_
      rotate_left
      ·
       rintro w' ⟨s0, s1, s2, s3⟩
       go_simp
       with_reducible rfl
      rotate_left
      ·
       simp only [Act.put, List.setIfInBounds_toArray, List.set_cons_zero, List.set_cons_succ, i64_w, i32_w]
       rfl
      refine take_ (i := 13) (N := some 38) (v := ?_) (a' := ?_) #[Y_,Y_,Y_,Y_,Y_,Y_,Y_,Y_,Y_,Y_,Y_,Y_,Y_,Y_,N_,N_,N_,N_,N_,N_,N_,N_,N_,N_,N_,N_,N_,N_,N_,N_,N_,N_,N_] rfl rfl (take_ofW HT_.out HW_.out (by kernel_rfl)) (fun _ _ _ h => h) (Or.inl ⟨by rfl, ?_⟩) hHeld ?_ ?_
      rotate_left
      ·
       rintro w' ⟨s0, s1, s2, s3⟩
       go_simp
       with_reducible rfl
      rotate_left
      ·
       simp only [Act.put, List.setIfInBounds_toArray, List.set_cons_zero, List.set_cons_succ, i64_w, i32_w]
       rfl
      refine pv_ (i := 14) (N := some 39) #[Y_,Y_,Y_,Y_,Y_,Y_,Y_,Y_,Y_,Y_,Y_,Y_,Y_,Y_,Y_,N_,N_,N_,N_,N_,N_,N_,N_,N_,N_,N_,N_,N_,N_,N_,N_,N_,N_] (h := ?_)
      refine pv_ (i := 15) (N := some 40) #[Y_,Y_,Y_,Y_,Y_,Y_,Y_,Y_,Y_,Y_,Y_,Y_,Y_,Y_,Y_,Y_,N_,N_,N_,N_,N_,N_,N_,N_,N_,N_,N_,N_,N_,N_,N_,N_,N_] (h := ?_)
      refine pv_ (i := 16) (N := some 41) #[Y_,Y_,Y_,Y_,Y_,Y_,Y_,Y_,Y_,Y_,Y_,Y_,Y_,Y_,Y_,Y_,Y_,N_,N_,N_,N_,N_,N_,N_,N_,N_,N_,N_,N_,N_,N_,N_,N_] (h := ?_)
      refine pn_ (i := 17) (N := some 42) #[Y_,Y_,Y_,Y_,Y_,Y_,Y_,Y_,Y_,Y_,Y_,Y_,Y_,Y_,Y_,Y_,Y_,Y_,N_,N_,N_,N_,N_,N_,N_,N_,N_,N_,N_,N_,N_,N_,N_] (h := ?_)
      refine pn_ (i := 18) (N := some 43) #[Y_,Y_,Y_,Y_,Y_,Y_,Y_,Y_,Y_,Y_,Y_,Y_,Y_,Y_,Y_,Y_,Y_,Y_,Y_,N_,N_,N_,N_,N_,N_,N_,N_,N_,N_,N_,N_,N_,N_] (h := ?_)
      refine pn_ (i := 19) (N := some 44) #[Y_,Y_,Y_,Y_,Y_,Y_,Y_,Y_,Y_,Y_,Y_,Y_,Y_,Y_,Y_,Y_,Y_,Y_,Y_,Y_,N_,N_,N_,N_,N_,N_,N_,N_,N_,N_,N_,N_,N_] (h := ?_)
      refine pn_ (i := 20) (N := some 45) #[Y_,Y_,Y_,Y_,Y_,Y_,Y_,Y_,Y_,Y_,Y_,Y_,Y_,Y_,Y_,Y_,Y_,Y_,Y_,Y_,Y_,N_,N_,N_,N_,N_,N_,N_,N_,N_,N_,N_,N_] (h := ?_)
      refine pn_ (i := 21) (N := some 46) #[Y_,Y_,Y_,Y_,Y_,Y_,Y_,Y_,Y_,Y_,Y_,Y_,Y_,Y_,Y_,Y_,Y_,Y_,Y_,Y_,Y_,Y_,N_,N_,N_,N_,N_,N_,N_,N_,N_,N_,N_] (h := ?_)
      refine pn_ (i := 22) (N := some 47) #[Y_,Y_,Y_,Y_,Y_,Y_,Y_,Y_,Y_,Y_,Y_,Y_,Y_,Y_,Y_,Y_,Y_,Y_,Y_,Y_,Y_,Y_,Y_,N_,N_,N_,N_,N_,N_,N_,N_,N_,N_] (h := ?_)
      refine pv_ (i := 23) (N := some 48) #[Y_,Y_,Y_,Y_,Y_,Y_,Y_,Y_,Y_,Y_,Y_,Y_,Y_,Y_,Y_,Y_,Y_,Y_,Y_,Y_,Y_,Y_,Y_,Y_,N_,N_,N_,N_,N_,N_,N_,N_,N_] (h := ?_)
      refine pv_ (i := 24) (N := some 49) #[Y_,Y_,Y_,Y_,Y_,Y_,Y_,Y_,Y_,Y_,Y_,Y_,Y_,Y_,Y_,Y_,Y_,Y_,Y_,Y_,Y_,Y_,Y_,Y_,Y_,N_,N_,N_,N_,N_,N_,N_,N_] (h := ?_)
      refine pn_ (i := 25) (N := some 50) #[Y_,Y_,Y_,Y_,Y_,Y_,Y_,Y_,Y_,Y_,Y_,Y_,Y_,Y_,Y_,Y_,Y_,Y_,Y_,Y_,Y_,Y_,Y_,Y_,Y_,Y_,N_,N_,N_,N_,N_,N_,N_] (h := ?_)
      refine pn_ (i := 26) (N := some 51) #[Y_,Y_,Y_,Y_,Y_,Y_,Y_,Y_,Y_,Y_,Y_,Y_,Y_,Y_,Y_,Y_,Y_,Y_,Y_,Y_,Y_,Y_,Y_,Y_,Y_,Y_,Y_,N_,N_,N_,N_,N_,N_] (h := ?_)
      refine pn_ (i := 27) (N := some 52) #[Y_,Y_,Y_,Y_,Y_,Y_,Y_,Y_,Y_,Y_,Y_,Y_,Y_,Y_,Y_,Y_,Y_,Y_,Y_,Y_,Y_,Y_,Y_,Y_,Y_,Y_,Y_,Y_,N_,N_,N_,N_,N_] (h := ?_)
      refine pn_ (i := 28) (N := some 53) #[Y_,Y_,Y_,Y_,Y_,Y_,Y_,Y_,Y_,Y_,Y_,Y_,Y_,Y_,Y_,Y_,Y_,Y_,Y_,Y_,Y_,Y_,Y_,Y_,Y_,Y_,Y_,Y_,Y_,N_,N_,N_,N_] (h := ?_)
      refine pn_ (i := 29) (N := some 54) #[Y_,Y_,Y_,Y_,Y_,Y_,Y_,Y_,Y_,Y_,Y_,Y_,Y_,Y_,Y_,Y_,Y_,Y_,Y_,Y_,Y_,Y_,Y_,Y_,Y_,Y_,Y_,Y_,Y_,Y_,N_,N_,N_] (h := ?_)
      refine pn_ (i := 30) (N := some 55) #[Y_,Y_,Y_,Y_,Y_,Y_,Y_,Y_,Y_,Y_,Y_,Y_,Y_,Y_,Y_,Y_,Y_,Y_,Y_,Y_,Y_,Y_,Y_,Y_,Y_,Y_,Y_,Y_,Y_,Y_,Y_,N_,N_] (h := ?_)
      refine pn_ (i := 31) (N := some 56) #[Y_,Y_,Y_,Y_,Y_,Y_,Y_,Y_,Y_,Y_,Y_,Y_,Y_,Y_,Y_,Y_,Y_,Y_,Y_,Y_,Y_,Y_,Y_,Y_,Y_,Y_,Y_,Y_,Y_,Y_,Y_,Y_,N_] (h := ?_)
      refine pv_ (i := 32) (N := some 57) #[Y_,Y_,Y_,Y_,Y_,Y_,Y_,Y_,Y_,Y_,Y_,Y_,Y_,Y_,Y_,Y_,Y_,Y_,Y_,Y_,Y_,Y_,Y_,Y_,Y_,Y_,Y_,Y_,Y_,Y_,Y_,Y_,Y_] (h := ?_)
      refine done_ (done_of HT_.out (by kernel_rfl)) ?_
      try go_wp2
      go_ret
      exact ⟨by first | rfl | (simp [errW_none, errW_some] <;> rfl) | (simp only [← hji10]; first | rfl | (simp [errW_none, errW_some] <;> rfl)) | (simp [*, errW_none, errW_some] <;> rfl), q0⟩
     rw [if_neg c13] at H
     have c13b0 : decide (((rd_T80 l0 x3_2).f0) ≤ ((rd_T80 l0 (ji10)).f0)) = false := decide_eq_false c13
     clear c13
     by_cases c15 : ((rd_T80 l0 x3_2).f0) > 1000000000
     ·
      rw [if_pos c15] at H
      have c15b0 : decide (1000000000 < ((rd_T80 l0 x3_2).f0)) = true := decide_eq_true c15
      clear c15
      obtain rfl := Option.some.inj H
      try go_wp2
      have n0_ := Aside0.mk (below_drew1 HB.out)
      clear HB
      have HB := n0_
      clear n0_
      have p399 : 0 ≤ (x3_2 : Int) := of_decide_eq_true q6
      have q399 : x3_2 < (l0.length : Int) := of_decide_eq_true q6
      obtain ⟨ad399, e399, hx399_0, hx399_1⟩ := at_T80 HR0.out x3_2 p399 q399
      have hw399_1 := hx399_1
      have hw399_0 := hx399_0
      cases e399
      replace hx399_0 := (HB.out.cell (World.block_lt_of_cell? w _ hx399_0)).trans hx399_0
      replace hx399_1 := (HB.out.cell (World.block_lt_of_cell? w _ hx399_1)).trans hx399_1
      replace p399 := eq_true p399
      replace q399 := eq_true q399
      have p400 : 0 ≤ ((ji10) : Int) := of_decide_eq_true q6
      have q400 : (ji10) < (l0.length : Int) := of_decide_eq_true q6
      obtain ⟨ad400, e400, hx400_0, hx400_1⟩ := at_T80 HR0.out (ji10) p400 q400
      have hw400_1 := hx400_1
      have hw400_0 := hx400_0
      obtain rfl : ad399 = ad400 := (by injection e400)
      replace hx400_0 := (HB.out.cell (World.block_lt_of_cell? w _ hx400_0)).trans hx400_0
      replace hx400_1 := (HB.out.cell (World.block_lt_of_cell? w _ hx400_1)).trans hx400_1
      replace p400 := eq_true p400
      replace q400 := eq_true q400
      have p401 : 0 ≤ (x3_2 : Int) := of_decide_eq_true q6
      have q401 : x3_2 < (l0.length : Int) := of_decide_eq_true q6
      obtain ⟨ad401, e401, hx401_0, hx401_1⟩ := at_T80 HR0.out x3_2 p401 q401
      have hw401_1 := hx401_1
      have hw401_0 := hx401_0
      obtain rfl : ad399 = ad401 := (by injection e401)
      replace hx401_0 := (HB.out.cell (World.block_lt_of_cell? w _ hx401_0)).trans hx401_0
      replace hx401_1 := (HB.out.cell (World.block_lt_of_cell? w _ hx401_1)).trans hx401_1
      replace p401 := eq_true p401
      replace q401 := eq_true q401
      refine start_ (n := 33) (S := fun w' => w'.cell? (ad399.add ((x3_2).toNat * 2)) = some (.int .i64 ((rd_T80 l0 x3_2).f0)) ∧ w'.cell? ⟨(ad399.add ((x3_2).toNat * 2)).block, (ad399.add ((x3_2).toNat * 2)).off + 1, none⟩ = some (.int .i64 ((rd_T80 l0 x3_2).f1)) ∧ w'.cell? (ad399.add (((ji10)).toNat * 2)) = some (.int .i64 ((rd_T80 l0 (ji10)).f0)) ∧ w'.cell? ⟨(ad399.add (((ji10)).toNat * 2)).block, (ad399.add (((ji10)).toNat * 2)).off + 1, none⟩ = some (.int .i64 ((rd_T80 l0 (ji10)).f1)) ∧ w'.cell? (ad399.add ((x3_2).toNat * 2)) = some (.int .i64 ((rd_T80 l0 x3_2).f0)) ∧ w'.cell? ⟨(ad399.add ((x3_2).toNat * 2)).block, (ad399.add ((x3_2).toNat * 2)).off + 1, none⟩ = some (.int .i64 ((rd_T80 l0 x3_2).f1))) (ds := []) #[N_,N_,N_,N_,N_,N_,N_,N_,N_,N_,N_,N_,N_,N_,N_,N_,N_,N_,N_,N_,N_,N_,N_,N_,N_,N_,N_,N_,N_,N_,N_,N_,N_] (by kernel_rfl) rfl rfl ⟨((HB.out.cell (World.block_lt_of_cell? w _ hw399_0)).trans hw399_0), ((HB.out.cell (World.block_lt_of_cell? w _ hw399_1)).trans hw399_1), ((HB.out.cell (World.block_lt_of_cell? w _ hw400_0)).trans hw400_0), ((HB.out.cell (World.block_lt_of_cell? w _ hw400_1)).trans hw400_1), ((HB.out.cell (World.block_lt_of_cell? w _ hw401_0)).trans hw401_0), ((HB.out.cell (World.block_lt_of_cell? w _ hw401_1)).trans hw401_1)⟩ (fun hHeld => ?_); refine with_tabW payrollref30_Table.tab6 payrollref30_Table.bits6 (fun HT_ HW_ => ?_)
      generalize wr.drew = w16 at HB hx399_0 hx399_1 hx400_0 hx400_1 hx401_0 hx401_1 hHeld ⊢
      refine pv_ (i := 0) (N := some 25) #[Y_,N_,N_,N_,N_,N_,N_,N_,N_,N_,N_,N_,N_,N_,N_,N_,N_,N_,N_,N_,N_,N_,N_,N_,N_,N_,N_,N_,N_,N_,N_,N_,N_] (h := ?_)
      refine pv_ (i := 1) (N := some 26) #[Y_,Y_,N_,N_,N_,N_,N_,N_,N_,N_,N_,N_,N_,N_,N_,N_,N_,N_,N_,N_,N_,N_,N_,N_,N_,N_,N_,N_,N_,N_,N_,N_,N_] (h := ?_)
      refine pv_ (i := 2) (N := some 27) #[Y_,Y_,Y_,N_,N_,N_,N_,N_,N_,N_,N_,N_,N_,N_,N_,N_,N_,N_,N_,N_,N_,N_,N_,N_,N_,N_,N_,N_,N_,N_,N_,N_,N_] (h := ?_)
      refine pv_ (i := 3) (N := some 28) #[Y_,Y_,Y_,Y_,N_,N_,N_,N_,N_,N_,N_,N_,N_,N_,N_,N_,N_,N_,N_,N_,N_,N_,N_,N_,N_,N_,N_,N_,N_,N_,N_,N_,N_] (h := ?_)
      refine pv_ (i := 4) (N := some 29) #[Y_,Y_,Y_,Y_,Y_,N_,N_,N_,N_,N_,N_,N_,N_,N_,N_,N_,N_,N_,N_,N_,N_,N_,N_,N_,N_,N_,N_,N_,N_,N_,N_,N_,N_] (h := ?_)
      refine pv_ (i := 5) (N := some 30) #[Y_,Y_,Y_,Y_,Y_,Y_,N_,N_,N_,N_,N_,N_,N_,N_,N_,N_,N_,N_,N_,N_,N_,N_,N_,N_,N_,N_,N_,N_,N_,N_,N_,N_,N_] (h := ?_)
      refine pv_ (i := 6) (N := some 31) #[Y_,Y_,Y_,Y_,Y_,Y_,Y_,N_,N_,N_,N_,N_,N_,N_,N_,N_,N_,N_,N_,N_,N_,N_,N_,N_,N_,N_,N_,N_,N_,N_,N_,N_,N_] (h := ?_)
      refine pv_ (i := 8) (N := some 33) #[Y_,Y_,Y_,Y_,Y_,Y_,Y_,N_,Y_,N_,N_,N_,N_,N_,N_,N_,N_,N_,N_,N_,N_,N_,N_,N_,N_,N_,N_,N_,N_,N_,N_,N_,N_] (h := ?_)
      refine pv_ (i := 9) (N := some 34) #[Y_,Y_,Y_,Y_,Y_,Y_,Y_,N_,Y_,Y_,N_,N_,N_,N_,N_,N_,N_,N_,N_,N_,N_,N_,N_,N_,N_,N_,N_,N_,N_,N_,N_,N_,N_] (h := ?_)
      refine pv_ (i := 10) (N := some 35) #[Y_,Y_,Y_,Y_,Y_,Y_,Y_,N_,Y_,Y_,Y_,N_,N_,N_,N_,N_,N_,N_,N_,N_,N_,N_,N_,N_,N_,N_,N_,N_,N_,N_,N_,N_,N_] (h := ?_)
      refine pv_ (i := 11) (N := some 36) #[Y_,Y_,Y_,Y_,Y_,Y_,Y_,N_,Y_,Y_,Y_,Y_,N_,N_,N_,N_,N_,N_,N_,N_,N_,N_,N_,N_,N_,N_,N_,N_,N_,N_,N_,N_,N_] (h := ?_)
      refine pv_ (i := 12) (N := some 37) #[Y_,Y_,Y_,Y_,Y_,Y_,Y_,N_,Y_,Y_,Y_,Y_,Y_,N_,N_,N_,N_,N_,N_,N_,N_,N_,N_,N_,N_,N_,N_,N_,N_,N_,N_,N_,N_] (h := ?_)
      refine take_ (i := 7) (N := some 32) (v := ?_) (a' := ?_) #[Y_,Y_,Y_,Y_,Y_,Y_,Y_,Y_,Y_,Y_,Y_,Y_,Y_,N_,N_,N_,N_,N_,N_,N_,N_,N_,N_,N_,N_,N_,N_,N_,N_,N_,N_,N_,N_] rfl rfl (take_ofW HT_.out HW_.out (by kernel_rfl)) (fun _ _ _ h => h) (Or.inl ⟨by rfl, ?_⟩) hHeld ?_ ?_
      rotate_left
      ·
       rintro w' ⟨s0, s1, s2, s3, s4, s5⟩
       go_simp
       with_reducible rfl
      rotate_left
      ·
       simp only [Act.put, List.setIfInBounds_toArray, List.set_cons_zero, List.set_cons_succ, i64_w, i32_w]
       rfl
      refine take_ (i := 13) (N := some 38) (v := ?_) (a' := ?_) #[Y_,Y_,Y_,Y_,Y_,Y_,Y_,Y_,Y_,Y_,Y_,Y_,Y_,Y_,N_,N_,N_,N_,N_,N_,N_,N_,N_,N_,N_,N_,N_,N_,N_,N_,N_,N_,N_] rfl rfl (take_ofW HT_.out HW_.out (by kernel_rfl)) (fun _ _ _ h => h) (Or.inl ⟨by rfl, ?_⟩) hHeld ?_ ?_
      rotate_left
      ·
       rintro w' ⟨s0, s1, s2, s3, s4, s5⟩
       go_simp
       with_reducible rfl
      rotate_left
      ·
       simp only [Act.put, List.setIfInBounds_toArray, List.set_cons_zero, List.set_cons_succ, i64_w, i32_w]
       rfl
      refine pv_ (i := 14) (N := some 39) #[Y_,Y_,Y_,Y_,Y_,Y_,Y_,Y_,Y_,Y_,Y_,Y_,Y_,Y_,Y_,N_,N_,N_,N_,N_,N_,N_,N_,N_,N_,N_,N_,N_,N_,N_,N_,N_,N_] (h := ?_)
      refine pv_ (i := 15) (N := some 40) #[Y_,Y_,Y_,Y_,Y_,Y_,Y_,Y_,Y_,Y_,Y_,Y_,Y_,Y_,Y_,Y_,N_,N_,N_,N_,N_,N_,N_,N_,N_,N_,N_,N_,N_,N_,N_,N_,N_] (h := ?_)
      refine pv_ (i := 16) (N := some 41) #[Y_,Y_,Y_,Y_,Y_,Y_,Y_,Y_,Y_,Y_,Y_,Y_,Y_,Y_,Y_,Y_,Y_,N_,N_,N_,N_,N_,N_,N_,N_,N_,N_,N_,N_,N_,N_,N_,N_] (h := ?_)
      refine pv_ (i := 17) (N := some 42) #[Y_,Y_,Y_,Y_,Y_,Y_,Y_,Y_,Y_,Y_,Y_,Y_,Y_,Y_,Y_,Y_,Y_,Y_,N_,N_,N_,N_,N_,N_,N_,N_,N_,N_,N_,N_,N_,N_,N_] (h := ?_)
      refine pv_ (i := 18) (N := some 43) #[Y_,Y_,Y_,Y_,Y_,Y_,Y_,Y_,Y_,Y_,Y_,Y_,Y_,Y_,Y_,Y_,Y_,Y_,Y_,N_,N_,N_,N_,N_,N_,N_,N_,N_,N_,N_,N_,N_,N_] (h := ?_)
      refine pv_ (i := 19) (N := some 44) #[Y_,Y_,Y_,Y_,Y_,Y_,Y_,Y_,Y_,Y_,Y_,Y_,Y_,Y_,Y_,Y_,Y_,Y_,Y_,Y_,N_,N_,N_,N_,N_,N_,N_,N_,N_,N_,N_,N_,N_] (h := ?_)
      refine pv_ (i := 20) (N := some 45) #[Y_,Y_,Y_,Y_,Y_,Y_,Y_,Y_,Y_,Y_,Y_,Y_,Y_,Y_,Y_,Y_,Y_,Y_,Y_,Y_,Y_,N_,N_,N_,N_,N_,N_,N_,N_,N_,N_,N_,N_] (h := ?_)
      refine take_ (i := 21) (N := some 46) (v := ?_) (a' := ?_) #[Y_,Y_,Y_,Y_,Y_,Y_,Y_,Y_,Y_,Y_,Y_,Y_,Y_,Y_,Y_,Y_,Y_,Y_,Y_,Y_,Y_,Y_,N_,N_,N_,N_,N_,N_,N_,N_,N_,N_,N_] rfl rfl (take_ofW HT_.out HW_.out (by kernel_rfl)) (fun _ _ _ h => h) (Or.inl ⟨by rfl, ?_⟩) hHeld ?_ ?_
      rotate_left
      ·
       rintro w' ⟨s0, s1, s2, s3, s4, s5⟩
       go_simp
       with_reducible rfl
      rotate_left
      ·
       simp only [Act.put, List.setIfInBounds_toArray, List.set_cons_zero, List.set_cons_succ, i64_w, i32_w]
       rfl
      refine pv_ (i := 22) (N := some 47) #[Y_,Y_,Y_,Y_,Y_,Y_,Y_,Y_,Y_,Y_,Y_,Y_,Y_,Y_,Y_,Y_,Y_,Y_,Y_,Y_,Y_,Y_,Y_,N_,N_,N_,N_,N_,N_,N_,N_,N_,N_] (h := ?_)
      refine pv_ (i := 23) (N := some 48) #[Y_,Y_,Y_,Y_,Y_,Y_,Y_,Y_,Y_,Y_,Y_,Y_,Y_,Y_,Y_,Y_,Y_,Y_,Y_,Y_,Y_,Y_,Y_,Y_,N_,N_,N_,N_,N_,N_,N_,N_,N_] (h := ?_)
      refine pv_ (i := 24) (N := some 49) #[Y_,Y_,Y_,Y_,Y_,Y_,Y_,Y_,Y_,Y_,Y_,Y_,Y_,Y_,Y_,Y_,Y_,Y_,Y_,Y_,Y_,Y_,Y_,Y_,Y_,N_,N_,N_,N_,N_,N_,N_,N_] (h := ?_)
      refine pn_ (i := 25) (N := some 50) #[Y_,Y_,Y_,Y_,Y_,Y_,Y_,Y_,Y_,Y_,Y_,Y_,Y_,Y_,Y_,Y_,Y_,Y_,Y_,Y_,Y_,Y_,Y_,Y_,Y_,Y_,N_,N_,N_,N_,N_,N_,N_] (h := ?_)
      refine pn_ (i := 26) (N := some 51) #[Y_,Y_,Y_,Y_,Y_,Y_,Y_,Y_,Y_,Y_,Y_,Y_,Y_,Y_,Y_,Y_,Y_,Y_,Y_,Y_,Y_,Y_,Y_,Y_,Y_,Y_,Y_,N_,N_,N_,N_,N_,N_] (h := ?_)
      refine pn_ (i := 27) (N := some 52) #[Y_,Y_,Y_,Y_,Y_,Y_,Y_,Y_,Y_,Y_,Y_,Y_,Y_,Y_,Y_,Y_,Y_,Y_,Y_,Y_,Y_,Y_,Y_,Y_,Y_,Y_,Y_,Y_,N_,N_,N_,N_,N_] (h := ?_)
      refine pn_ (i := 28) (N := some 53) #[Y_,Y_,Y_,Y_,Y_,Y_,Y_,Y_,Y_,Y_,Y_,Y_,Y_,Y_,Y_,Y_,Y_,Y_,Y_,Y_,Y_,Y_,Y_,Y_,Y_,Y_,Y_,Y_,Y_,N_,N_,N_,N_] (h := ?_)
      refine pn_ (i := 29) (N := some 54) #[Y_,Y_,Y_,Y_,Y_,Y_,Y_,Y_,Y_,Y_,Y_,Y_,Y_,Y_,Y_,Y_,Y_,Y_,Y_,Y_,Y_,Y_,Y_,Y_,Y_,Y_,Y_,Y_,Y_,Y_,N_,N_,N_] (h := ?_)
      refine pn_ (i := 30) (N := some 55) #[Y_,Y_,Y_,Y_,Y_,Y_,Y_,Y_,Y_,Y_,Y_,Y_,Y_,Y_,Y_,Y_,Y_,Y_,Y_,Y_,Y_,Y_,Y_,Y_,Y_,Y_,Y_,Y_,Y_,Y_,Y_,N_,N_] (h := ?_)
      refine pn_ (i := 31) (N := some 56) #[Y_,Y_,Y_,Y_,Y_,Y_,Y_,Y_,Y_,Y_,Y_,Y_,Y_,Y_,Y_,Y_,Y_,Y_,Y_,Y_,Y_,Y_,Y_,Y_,Y_,Y_,Y_,Y_,Y_,Y_,Y_,Y_,N_] (h := ?_)
      refine pv_ (i := 32) (N := some 57) #[Y_,Y_,Y_,Y_,Y_,Y_,Y_,Y_,Y_,Y_,Y_,Y_,Y_,Y_,Y_,Y_,Y_,Y_,Y_,Y_,Y_,Y_,Y_,Y_,Y_,Y_,Y_,Y_,Y_,Y_,Y_,Y_,Y_] (h := ?_)
      refine done_ (done_of HT_.out (by kernel_rfl)) ?_
      try go_wp2
      go_ret
      exact ⟨by first | rfl | (simp [errW_none, errW_some] <;> rfl) | (simp only [← hji10]; first | rfl | (simp [errW_none, errW_some] <;> rfl)) | (simp [*, errW_none, errW_some] <;> rfl), q0⟩
     rw [if_neg c15] at H
     have c15b0 : decide (1000000000 < ((rd_T80 l0 x3_2).f0)) = false := decide_eq_false c15
     clear c15
     replace H := Option.bind_eq_some_iff.mp H
     obtain ⟨t403, A170, H⟩ := H
     try dsimp only at H
     have A17 := Aside0.mk A170
     clear A170
     by_cases c18 : t403 = true
     ·
      subst c18
      rw [if_pos rfl] at H
      have H' := Aside0.mk H
      clear H
      try go_wp2
      have n0_ := Aside0.mk (below_drew1 HB.out)
      clear HB
      have HB := n0_
      clear n0_
      have p399 : 0 ≤ (x3_2 : Int) := of_decide_eq_true q6
      have q399 : x3_2 < (l0.length : Int) := of_decide_eq_true q6
      obtain ⟨ad399, e399, hx399_0, hx399_1⟩ := at_T80 HR0.out x3_2 p399 q399
      have hw399_1 := hx399_1
      have hw399_0 := hx399_0
      cases e399
      replace hx399_0 := (HB.out.cell (World.block_lt_of_cell? w _ hx399_0)).trans hx399_0
      replace hx399_1 := (HB.out.cell (World.block_lt_of_cell? w _ hx399_1)).trans hx399_1
      replace p399 := eq_true p399
      replace q399 := eq_true q399
      have p400 : 0 ≤ ((ji10) : Int) := of_decide_eq_true q6
      have q400 : (ji10) < (l0.length : Int) := of_decide_eq_true q6
      obtain ⟨ad400, e400, hx400_0, hx400_1⟩ := at_T80 HR0.out (ji10) p400 q400
      have hw400_1 := hx400_1
      have hw400_0 := hx400_0
      obtain rfl : ad399 = ad400 := (by injection e400)
      replace hx400_0 := (HB.out.cell (World.block_lt_of_cell? w _ hx400_0)).trans hx400_0
      replace hx400_1 := (HB.out.cell (World.block_lt_of_cell? w _ hx400_1)).trans hx400_1
      replace p400 := eq_true p400
      replace q400 := eq_true q400
      have p401 : 0 ≤ (x3_2 : Int) := of_decide_eq_true q6
      have q401 : x3_2 < (l0.length : Int) := of_decide_eq_true q6
      obtain ⟨ad401, e401, hx401_0, hx401_1⟩ := at_T80 HR0.out x3_2 p401 q401
      have hw401_1 := hx401_1
      have hw401_0 := hx401_0
      obtain rfl : ad399 = ad401 := (by injection e401)
      replace hx401_0 := (HB.out.cell (World.block_lt_of_cell? w _ hx401_0)).trans hx401_0
      replace hx401_1 := (HB.out.cell (World.block_lt_of_cell? w _ hx401_1)).trans hx401_1
      replace p401 := eq_true p401
      replace q401 := eq_true q401
      have p402 : 0 ≤ (x3_2 : Int) := of_decide_eq_true q6
      have q402 : x3_2 < (l0.length : Int) := of_decide_eq_true q6
      obtain ⟨ad402, e402, hx402_0, hx402_1⟩ := at_T80 HR0.out x3_2 p402 q402
      have hw402_1 := hx402_1
      have hw402_0 := hx402_0
      obtain rfl : ad399 = ad402 := (by injection e402)
      replace hx402_0 := (HB.out.cell (World.block_lt_of_cell? w _ hx402_0)).trans hx402_0
      replace hx402_1 := (HB.out.cell (World.block_lt_of_cell? w _ hx402_1)).trans hx402_1
      replace p402 := eq_true p402
      replace q402 := eq_true q402
      refine start_ (n := 33) (S := fun w' => w'.cell? (ad399.add ((x3_2).toNat * 2)) = some (.int .i64 ((rd_T80 l0 x3_2).f0)) ∧ w'.cell? ⟨(ad399.add ((x3_2).toNat * 2)).block, (ad399.add ((x3_2).toNat * 2)).off + 1, none⟩ = some (.int .i64 ((rd_T80 l0 x3_2).f1)) ∧ w'.cell? (ad399.add (((ji10)).toNat * 2)) = some (.int .i64 ((rd_T80 l0 (ji10)).f0)) ∧ w'.cell? ⟨(ad399.add (((ji10)).toNat * 2)).block, (ad399.add (((ji10)).toNat * 2)).off + 1, none⟩ = some (.int .i64 ((rd_T80 l0 (ji10)).f1)) ∧ w'.cell? (ad399.add ((x3_2).toNat * 2)) = some (.int .i64 ((rd_T80 l0 x3_2).f0)) ∧ w'.cell? ⟨(ad399.add ((x3_2).toNat * 2)).block, (ad399.add ((x3_2).toNat * 2)).off + 1, none⟩ = some (.int .i64 ((rd_T80 l0 x3_2).f1)) ∧ w'.cell? (ad399.add ((x3_2).toNat * 2)) = some (.int .i64 ((rd_T80 l0 x3_2).f0)) ∧ w'.cell? ⟨(ad399.add ((x3_2).toNat * 2)).block, (ad399.add ((x3_2).toNat * 2)).off + 1, none⟩ = some (.int .i64 ((rd_T80 l0 x3_2).f1))) (ds := []) #[N_,N_,N_,N_,N_,N_,N_,N_,N_,N_,N_,N_,N_,N_,N_,N_,N_,N_,N_,N_,N_,N_,N_,N_,N_,N_,N_,N_,N_,N_,N_,N_,N_] (by kernel_rfl) rfl rfl ⟨((HB.out.cell (World.block_lt_of_cell? w _ hw399_0)).trans hw399_0), ((HB.out.cell (World.block_lt_of_cell? w _ hw399_1)).trans hw399_1), ((HB.out.cell (World.block_lt_of_cell? w _ hw400_0)).trans hw400_0), ((HB.out.cell (World.block_lt_of_cell? w _ hw400_1)).trans hw400_1), ((HB.out.cell (World.block_lt_of_cell? w _ hw401_0)).trans hw401_0), ((HB.out.cell (World.block_lt_of_cell? w _ hw401_1)).trans hw401_1), ((HB.out.cell (World.block_lt_of_cell? w _ hw402_0)).trans hw402_0), ((HB.out.cell (World.block_lt_of_cell? w _ hw402_1)).trans hw402_1)⟩ (fun hHeld => ?_); refine with_tabW payrollref30_Table.tab6 payrollref30_Table.bits6 (fun HT_ HW_ => ?_)
      generalize wr.drew = w19 at HB hx399_0 hx399_1 hx400_0 hx400_1 hx401_0 hx401_1 hx402_0 hx402_1 hHeld ⊢
      refine pv_ (i := 0) (N := some 25) #[Y_,N_,N_,N_,N_,N_,N_,N_,N_,N_,N_,N_,N_,N_,N_,N_,N_,N_,N_,N_,N_,N_,N_,N_,N_,N_,N_,N_,N_,N_,N_,N_,N_] (h := ?_)
      refine pv_ (i := 1) (N := some 26) #[Y_,Y_,N_,N_,N_,N_,N_,N_,N_,N_,N_,N_,N_,N_,N_,N_,N_,N_,N_,N_,N_,N_,N_,N_,N_,N_,N_,N_,N_,N_,N_,N_,N_] (h := ?_)
      refine pv_ (i := 2) (N := some 27) #[Y_,Y_,Y_,N_,N_,N_,N_,N_,N_,N_,N_,N_,N_,N_,N_,N_,N_,N_,N_,N_,N_,N_,N_,N_,N_,N_,N_,N_,N_,N_,N_,N_,N_] (h := ?_)
      refine pv_ (i := 3) (N := some 28) #[Y_,Y_,Y_,Y_,N_,N_,N_,N_,N_,N_,N_,N_,N_,N_,N_,N_,N_,N_,N_,N_,N_,N_,N_,N_,N_,N_,N_,N_,N_,N_,N_,N_,N_] (h := ?_)
      refine pv_ (i := 4) (N := some 29) #[Y_,Y_,Y_,Y_,Y_,N_,N_,N_,N_,N_,N_,N_,N_,N_,N_,N_,N_,N_,N_,N_,N_,N_,N_,N_,N_,N_,N_,N_,N_,N_,N_,N_,N_] (h := ?_)
      refine pv_ (i := 5) (N := some 30) #[Y_,Y_,Y_,Y_,Y_,Y_,N_,N_,N_,N_,N_,N_,N_,N_,N_,N_,N_,N_,N_,N_,N_,N_,N_,N_,N_,N_,N_,N_,N_,N_,N_,N_,N_] (h := ?_)
      refine pv_ (i := 6) (N := some 31) #[Y_,Y_,Y_,Y_,Y_,Y_,Y_,N_,N_,N_,N_,N_,N_,N_,N_,N_,N_,N_,N_,N_,N_,N_,N_,N_,N_,N_,N_,N_,N_,N_,N_,N_,N_] (h := ?_)
      refine pv_ (i := 8) (N := some 33) #[Y_,Y_,Y_,Y_,Y_,Y_,Y_,N_,Y_,N_,N_,N_,N_,N_,N_,N_,N_,N_,N_,N_,N_,N_,N_,N_,N_,N_,N_,N_,N_,N_,N_,N_,N_] (h := ?_)
      refine pv_ (i := 9) (N := some 34) #[Y_,Y_,Y_,Y_,Y_,Y_,Y_,N_,Y_,Y_,N_,N_,N_,N_,N_,N_,N_,N_,N_,N_,N_,N_,N_,N_,N_,N_,N_,N_,N_,N_,N_,N_,N_] (h := ?_)
      refine pv_ (i := 10) (N := some 35) #[Y_,Y_,Y_,Y_,Y_,Y_,Y_,N_,Y_,Y_,Y_,N_,N_,N_,N_,N_,N_,N_,N_,N_,N_,N_,N_,N_,N_,N_,N_,N_,N_,N_,N_,N_,N_] (h := ?_)
      refine pv_ (i := 11) (N := some 36) #[Y_,Y_,Y_,Y_,Y_,Y_,Y_,N_,Y_,Y_,Y_,Y_,N_,N_,N_,N_,N_,N_,N_,N_,N_,N_,N_,N_,N_,N_,N_,N_,N_,N_,N_,N_,N_] (h := ?_)
      refine pv_ (i := 12) (N := some 37) #[Y_,Y_,Y_,Y_,Y_,Y_,Y_,N_,Y_,Y_,Y_,Y_,Y_,N_,N_,N_,N_,N_,N_,N_,N_,N_,N_,N_,N_,N_,N_,N_,N_,N_,N_,N_,N_] (h := ?_)
      refine take_ (i := 7) (N := some 32) (v := ?_) (a' := ?_) #[Y_,Y_,Y_,Y_,Y_,Y_,Y_,Y_,Y_,Y_,Y_,Y_,Y_,N_,N_,N_,N_,N_,N_,N_,N_,N_,N_,N_,N_,N_,N_,N_,N_,N_,N_,N_,N_] rfl rfl (take_ofW HT_.out HW_.out (by kernel_rfl)) (fun _ _ _ h => h) (Or.inl ⟨by rfl, ?_⟩) hHeld ?_ ?_
      rotate_left
      ·
       rintro w' ⟨s0, s1, s2, s3, s4, s5, s6, s7⟩
       go_simp
       with_reducible rfl
      rotate_left
      ·
       simp only [Act.put, List.setIfInBounds_toArray, List.set_cons_zero, List.set_cons_succ, i64_w, i32_w]
       rfl
      refine take_ (i := 13) (N := some 38) (v := ?_) (a' := ?_) #[Y_,Y_,Y_,Y_,Y_,Y_,Y_,Y_,Y_,Y_,Y_,Y_,Y_,Y_,N_,N_,N_,N_,N_,N_,N_,N_,N_,N_,N_,N_,N_,N_,N_,N_,N_,N_,N_] rfl rfl (take_ofW HT_.out HW_.out (by kernel_rfl)) (fun _ _ _ h => h) (Or.inl ⟨by rfl, ?_⟩) hHeld ?_ ?_
      rotate_left
      ·
       rintro w' ⟨s0, s1, s2, s3, s4, s5, s6, s7⟩
       go_simp
       with_reducible rfl
      rotate_left
      ·
       simp only [Act.put, List.setIfInBounds_toArray, List.set_cons_zero, List.set_cons_succ, i64_w, i32_w]
       rfl
      refine pv_ (i := 14) (N := some 39) #[Y_,Y_,Y_,Y_,Y_,Y_,Y_,Y_,Y_,Y_,Y_,Y_,Y_,Y_,Y_,N_,N_,N_,N_,N_,N_,N_,N_,N_,N_,N_,N_,N_,N_,N_,N_,N_,N_] (h := ?_)
      refine pv_ (i := 15) (N := some 40) #[Y_,Y_,Y_,Y_,Y_,Y_,Y_,Y_,Y_,Y_,Y_,Y_,Y_,Y_,Y_,Y_,N_,N_,N_,N_,N_,N_,N_,N_,N_,N_,N_,N_,N_,N_,N_,N_,N_] (h := ?_)
      refine pv_ (i := 16) (N := some 41) #[Y_,Y_,Y_,Y_,Y_,Y_,Y_,Y_,Y_,Y_,Y_,Y_,Y_,Y_,Y_,Y_,Y_,N_,N_,N_,N_,N_,N_,N_,N_,N_,N_,N_,N_,N_,N_,N_,N_] (h := ?_)
      refine pv_ (i := 17) (N := some 42) #[Y_,Y_,Y_,Y_,Y_,Y_,Y_,Y_,Y_,Y_,Y_,Y_,Y_,Y_,Y_,Y_,Y_,Y_,N_,N_,N_,N_,N_,N_,N_,N_,N_,N_,N_,N_,N_,N_,N_] (h := ?_)
      refine pv_ (i := 18) (N := some 43) #[Y_,Y_,Y_,Y_,Y_,Y_,Y_,Y_,Y_,Y_,Y_,Y_,Y_,Y_,Y_,Y_,Y_,Y_,Y_,N_,N_,N_,N_,N_,N_,N_,N_,N_,N_,N_,N_,N_,N_] (h := ?_)
      refine pv_ (i := 19) (N := some 44) #[Y_,Y_,Y_,Y_,Y_,Y_,Y_,Y_,Y_,Y_,Y_,Y_,Y_,Y_,Y_,Y_,Y_,Y_,Y_,Y_,N_,N_,N_,N_,N_,N_,N_,N_,N_,N_,N_,N_,N_] (h := ?_)
      refine pv_ (i := 20) (N := some 45) #[Y_,Y_,Y_,Y_,Y_,Y_,Y_,Y_,Y_,Y_,Y_,Y_,Y_,Y_,Y_,Y_,Y_,Y_,Y_,Y_,Y_,N_,N_,N_,N_,N_,N_,N_,N_,N_,N_,N_,N_] (h := ?_)
      refine take_ (i := 21) (N := some 46) (v := ?_) (a' := ?_) #[Y_,Y_,Y_,Y_,Y_,Y_,Y_,Y_,Y_,Y_,Y_,Y_,Y_,Y_,Y_,Y_,Y_,Y_,Y_,Y_,Y_,Y_,N_,N_,N_,N_,N_,N_,N_,N_,N_,N_,N_] rfl rfl (take_ofW HT_.out HW_.out (by kernel_rfl)) (fun _ _ _ h => h) (Or.inl ⟨by rfl, ?_⟩) hHeld ?_ ?_
      rotate_left
      ·
       rintro w' ⟨s0, s1, s2, s3, s4, s5, s6, s7⟩
       go_simp
       with_reducible rfl
      rotate_left
      ·
       simp only [Act.put, List.setIfInBounds_toArray, List.set_cons_zero, List.set_cons_succ, i64_w, i32_w]
       rfl
      refine pv_ (i := 22) (N := some 47) #[Y_,Y_,Y_,Y_,Y_,Y_,Y_,Y_,Y_,Y_,Y_,Y_,Y_,Y_,Y_,Y_,Y_,Y_,Y_,Y_,Y_,Y_,Y_,N_,N_,N_,N_,N_,N_,N_,N_,N_,N_] (h := ?_)
      refine pv_ (i := 23) (N := some 48) #[Y_,Y_,Y_,Y_,Y_,Y_,Y_,Y_,Y_,Y_,Y_,Y_,Y_,Y_,Y_,Y_,Y_,Y_,Y_,Y_,Y_,Y_,Y_,Y_,N_,N_,N_,N_,N_,N_,N_,N_,N_] (h := ?_)
      refine pv_ (i := 24) (N := some 49) #[Y_,Y_,Y_,Y_,Y_,Y_,Y_,Y_,Y_,Y_,Y_,Y_,Y_,Y_,Y_,Y_,Y_,Y_,Y_,Y_,Y_,Y_,Y_,Y_,Y_,N_,N_,N_,N_,N_,N_,N_,N_] (h := ?_)
      refine pv_ (i := 25) (N := some 50) #[Y_,Y_,Y_,Y_,Y_,Y_,Y_,Y_,Y_,Y_,Y_,Y_,Y_,Y_,Y_,Y_,Y_,Y_,Y_,Y_,Y_,Y_,Y_,Y_,Y_,Y_,N_,N_,N_,N_,N_,N_,N_] (h := ?_)
      refine pv_ (i := 26) (N := some 51) #[Y_,Y_,Y_,Y_,Y_,Y_,Y_,Y_,Y_,Y_,Y_,Y_,Y_,Y_,Y_,Y_,Y_,Y_,Y_,Y_,Y_,Y_,Y_,Y_,Y_,Y_,Y_,N_,N_,N_,N_,N_,N_] (h := ?_)
      refine pv_ (i := 27) (N := some 52) #[Y_,Y_,Y_,Y_,Y_,Y_,Y_,Y_,Y_,Y_,Y_,Y_,Y_,Y_,Y_,Y_,Y_,Y_,Y_,Y_,Y_,Y_,Y_,Y_,Y_,Y_,Y_,Y_,N_,N_,N_,N_,N_] (h := ?_)
      refine pv_ (i := 28) (N := some 53) #[Y_,Y_,Y_,Y_,Y_,Y_,Y_,Y_,Y_,Y_,Y_,Y_,Y_,Y_,Y_,Y_,Y_,Y_,Y_,Y_,Y_,Y_,Y_,Y_,Y_,Y_,Y_,Y_,Y_,N_,N_,N_,N_] (h := ?_)
      refine take_ (i := 29) (N := some 54) (v := ?_) (a' := ?_) #[Y_,Y_,Y_,Y_,Y_,Y_,Y_,Y_,Y_,Y_,Y_,Y_,Y_,Y_,Y_,Y_,Y_,Y_,Y_,Y_,Y_,Y_,Y_,Y_,Y_,Y_,Y_,Y_,Y_,Y_,N_,N_,N_] rfl rfl (take_ofW HT_.out HW_.out (by kernel_rfl)) (fun _ _ _ h => h) (Or.inl ⟨by rfl, ?_⟩) hHeld ?_ ?_
      rotate_left
      ·
       rintro w' ⟨s0, s1, s2, s3, s4, s5, s6, s7⟩
       go_simp
       with_reducible rfl
      rotate_left
      ·
       simp only [Act.put, List.setIfInBounds_toArray, List.set_cons_zero, List.set_cons_succ, i64_w, i32_w]
       rfl
      refine one_ (i := 30) (N := some 55) #[Y_,Y_,Y_,Y_,Y_,Y_,Y_,Y_,Y_,Y_,Y_,Y_,Y_,Y_,Y_,Y_,Y_,Y_,Y_,Y_,Y_,Y_,Y_,Y_,Y_,Y_,Y_,Y_,Y_,Y_,Y_,N_,N_] rfl rfl (one_of HT_.out (by kernel_rfl)) (by decide) (fun K hK => ?_)
      refine goes_ Try.func47 (by kernel_rfl) rfl #[.int .i64 ((rd_T80 l0 x3_2).f1), .int .i64 1000000000] (by rfl) rfl rfl q1 ?_
      with_reducible refine (payrollref30_in.calls ((rd_T80 l0 x3_2).f1) 1000000000 true _ A17.out).mono ?_
      rintro e w' ⟨rfl, ⟨nd, rfl⟩⟩
      refine ⟨_, rfl, ?_⟩
      refine hK.out _ _ ⟨((HB.out.cell (World.block_lt_of_cell? w _ hw399_0)).trans hw399_0), ((HB.out.cell (World.block_lt_of_cell? w _ hw399_1)).trans hw399_1), ((HB.out.cell (World.block_lt_of_cell? w _ hw400_0)).trans hw400_0), ((HB.out.cell (World.block_lt_of_cell? w _ hw400_1)).trans hw400_1), ((HB.out.cell (World.block_lt_of_cell? w _ hw401_0)).trans hw401_0), ((HB.out.cell (World.block_lt_of_cell? w _ hw401_1)).trans hw401_1), ((HB.out.cell (World.block_lt_of_cell? w _ hw402_0)).trans hw402_0), ((HB.out.cell (World.block_lt_of_cell? w _ hw402_1)).trans hw402_1)⟩ (fun hHeld => ?_)
      clear hK K
      refine norm_ (a' := ?_) ?_ ?_
      rotate_left
      ·
       show Act.put _ (some 55) _ = _
       simp only [Act.put, List.setIfInBounds_toArray, List.set_cons_zero, List.set_cons_succ, i64_w, i32_w]
       rfl
      refine pv_ (i := 31) (N := some 56) #[Y_,Y_,Y_,Y_,Y_,Y_,Y_,Y_,Y_,Y_,Y_,Y_,Y_,Y_,Y_,Y_,Y_,Y_,Y_,Y_,Y_,Y_,Y_,Y_,Y_,Y_,Y_,Y_,Y_,Y_,Y_,Y_,N_] (h := ?_)
      refine pv_ (i := 32) (N := some 57) #[Y_,Y_,Y_,Y_,Y_,Y_,Y_,Y_,Y_,Y_,Y_,Y_,Y_,Y_,Y_,Y_,Y_,Y_,Y_,Y_,Y_,Y_,Y_,Y_,Y_,Y_,Y_,Y_,Y_,Y_,Y_,Y_,Y_] (h := ?_)
      refine done_ (done_of HT_.out (by kernel_rfl)) ?_
      try go_wp2
      go_roundg k2
      case measure => have := HJ1.out; have := HK2.out; omega
      case rel => exact ⟨(wrap64 (x3_2 + 1)), q26, H', ⟨by have := HJ1.out; have := HK2.out; omega⟩, ⟨q0⟩⟩
     replace c18 := Bool.eq_false_iff.mpr c18
     subst c18
     rw [if_neg (show ¬ (false = true) by decide)] at H
     obtain rfl := Option.some.inj H
     try go_wp2
     have n0_ := Aside0.mk (below_drew1 HB.out)
     clear HB
     have HB := n0_
     clear n0_
     have p399 : 0 ≤ (x3_2 : Int) := of_decide_eq_true q6
     have q399 : x3_2 < (l0.length : Int) := of_decide_eq_true q6
     obtain ⟨ad399, e399, hx399_0, hx399_1⟩ := at_T80 HR0.out x3_2 p399 q399
     have hw399_1 := hx399_1
     have hw399_0 := hx399_0
     cases e399
     replace hx399_0 := (HB.out.cell (World.block_lt_of_cell? w _ hx399_0)).trans hx399_0
     replace hx399_1 := (HB.out.cell (World.block_lt_of_cell? w _ hx399_1)).trans hx399_1
     replace p399 := eq_true p399
     replace q399 := eq_true q399
     have p400 : 0 ≤ ((ji10) : Int) := of_decide_eq_true q6
     have q400 : (ji10) < (l0.length : Int) := of_decide_eq_true q6
     obtain ⟨ad400, e400, hx400_0, hx400_1⟩ := at_T80 HR0.out (ji10) p400 q400
     have hw400_1 := hx400_1
     have hw400_0 := hx400_0
     obtain rfl : ad399 = ad400 := (by injection e400)
     replace hx400_0 := (HB.out.cell (World.block_lt_of_cell? w _ hx400_0)).trans hx400_0
     replace hx400_1 := (HB.out.cell (World.block_lt_of_cell? w _ hx400_1)).trans hx400_1
     replace p400 := eq_true p400
     replace q400 := eq_true q400
     have p401 : 0 ≤ (x3_2 : Int) := of_decide_eq_true q6
     have q401 : x3_2 < (l0.length : Int) := of_decide_eq_true q6
     obtain ⟨ad401, e401, hx401_0, hx401_1⟩ := at_T80 HR0.out x3_2 p401 q401
     have hw401_1 := hx401_1
     have hw401_0 := hx401_0
     obtain rfl : ad399 = ad401 := (by injection e401)
     replace hx401_0 := (HB.out.cell (World.block_lt_of_cell? w _ hx401_0)).trans hx401_0
     replace hx401_1 := (HB.out.cell (World.block_lt_of_cell? w _ hx401_1)).trans hx401_1
     replace p401 := eq_true p401
     replace q401 := eq_true q401
     have p402 : 0 ≤ (x3_2 : Int) := of_decide_eq_true q6
     have q402 : x3_2 < (l0.length : Int) := of_decide_eq_true q6
     obtain ⟨ad402, e402, hx402_0, hx402_1⟩ := at_T80 HR0.out x3_2 p402 q402
     have hw402_1 := hx402_1
     have hw402_0 := hx402_0
     obtain rfl : ad399 = ad402 := (by injection e402)
     replace hx402_0 := (HB.out.cell (World.block_lt_of_cell? w _ hx402_0)).trans hx402_0
     replace hx402_1 := (HB.out.cell (World.block_lt_of_cell? w _ hx402_1)).trans hx402_1
     replace p402 := eq_true p402
     replace q402 := eq_true q402
     refine start_ (n := 33) (S := fun w' => w'.cell? (ad399.add ((x3_2).toNat * 2)) = some (.int .i64 ((rd_T80 l0 x3_2).f0)) ∧ w'.cell? ⟨(ad399.add ((x3_2).toNat * 2)).block, (ad399.add ((x3_2).toNat * 2)).off + 1, none⟩ = some (.int .i64 ((rd_T80 l0 x3_2).f1)) ∧ w'.cell? (ad399.add (((ji10)).toNat * 2)) = some (.int .i64 ((rd_T80 l0 (ji10)).f0)) ∧ w'.cell? ⟨(ad399.add (((ji10)).toNat * 2)).block, (ad399.add (((ji10)).toNat * 2)).off + 1, none⟩ = some (.int .i64 ((rd_T80 l0 (ji10)).f1)) ∧ w'.cell? (ad399.add ((x3_2).toNat * 2)) = some (.int .i64 ((rd_T80 l0 x3_2).f0)) ∧ w'.cell? ⟨(ad399.add ((x3_2).toNat * 2)).block, (ad399.add ((x3_2).toNat * 2)).off + 1, none⟩ = some (.int .i64 ((rd_T80 l0 x3_2).f1)) ∧ w'.cell? (ad399.add ((x3_2).toNat * 2)) = some (.int .i64 ((rd_T80 l0 x3_2).f0)) ∧ w'.cell? ⟨(ad399.add ((x3_2).toNat * 2)).block, (ad399.add ((x3_2).toNat * 2)).off + 1, none⟩ = some (.int .i64 ((rd_T80 l0 x3_2).f1))) (ds := []) #[N_,N_,N_,N_,N_,N_,N_,N_,N_,N_,N_,N_,N_,N_,N_,N_,N_,N_,N_,N_,N_,N_,N_,N_,N_,N_,N_,N_,N_,N_,N_,N_,N_] (by kernel_rfl) rfl rfl ⟨((HB.out.cell (World.block_lt_of_cell? w _ hw399_0)).trans hw399_0), ((HB.out.cell (World.block_lt_of_cell? w _ hw399_1)).trans hw399_1), ((HB.out.cell (World.block_lt_of_cell? w _ hw400_0)).trans hw400_0), ((HB.out.cell (World.block_lt_of_cell? w _ hw400_1)).trans hw400_1), ((HB.out.cell (World.block_lt_of_cell? w _ hw401_0)).trans hw401_0), ((HB.out.cell (World.block_lt_of_cell? w _ hw401_1)).trans hw401_1), ((HB.out.cell (World.block_lt_of_cell? w _ hw402_0)).trans hw402_0), ((HB.out.cell (World.block_lt_of_cell? w _ hw402_1)).trans hw402_1)⟩ (fun hHeld => ?_); refine with_tabW payrollref30_Table.tab6 payrollref30_Table.bits6 (fun HT_ HW_ => ?_)
     generalize wr.drew = w20 at HB hx399_0 hx399_1 hx400_0 hx400_1 hx401_0 hx401_1 hx402_0 hx402_1 hHeld ⊢
     refine pv_ (i := 0) (N := some 25) #[Y_,N_,N_,N_,N_,N_,N_,N_,N_,N_,N_,N_,N_,N_,N_,N_,N_,N_,N_,N_,N_,N_,N_,N_,N_,N_,N_,N_,N_,N_,N_,N_,N_] (h := ?_)
     refine pv_ (i := 1) (N := some 26) #[Y_,Y_,N_,N_,N_,N_,N_,N_,N_,N_,N_,N_,N_,N_,N_,N_,N_,N_,N_,N_,N_,N_,N_,N_,N_,N_,N_,N_,N_,N_,N_,N_,N_] (h := ?_)
     refine pv_ (i := 2) (N := some 27) #[Y_,Y_,Y_,N_,N_,N_,N_,N_,N_,N_,N_,N_,N_,N_,N_,N_,N_,N_,N_,N_,N_,N_,N_,N_,N_,N_,N_,N_,N_,N_,N_,N_,N_] (h := ?_)
     refine pv_ (i := 3) (N := some 28) #[Y_,Y_,Y_,Y_,N_,N_,N_,N_,N_,N_,N_,N_,N_,N_,N_,N_,N_,N_,N_,N_,N_,N_,N_,N_,N_,N_,N_,N_,N_,N_,N_,N_,N_] (h := ?_)
     refine pv_ (i := 4) (N := some 29) #[Y_,Y_,Y_,Y_,Y_,N_,N_,N_,N_,N_,N_,N_,N_,N_,N_,N_,N_,N_,N_,N_,N_,N_,N_,N_,N_,N_,N_,N_,N_,N_,N_,N_,N_] (h := ?_)
     refine pv_ (i := 5) (N := some 30) #[Y_,Y_,Y_,Y_,Y_,Y_,N_,N_,N_,N_,N_,N_,N_,N_,N_,N_,N_,N_,N_,N_,N_,N_,N_,N_,N_,N_,N_,N_,N_,N_,N_,N_,N_] (h := ?_)
     refine pv_ (i := 6) (N := some 31) #[Y_,Y_,Y_,Y_,Y_,Y_,Y_,N_,N_,N_,N_,N_,N_,N_,N_,N_,N_,N_,N_,N_,N_,N_,N_,N_,N_,N_,N_,N_,N_,N_,N_,N_,N_] (h := ?_)
     refine pv_ (i := 8) (N := some 33) #[Y_,Y_,Y_,Y_,Y_,Y_,Y_,N_,Y_,N_,N_,N_,N_,N_,N_,N_,N_,N_,N_,N_,N_,N_,N_,N_,N_,N_,N_,N_,N_,N_,N_,N_,N_] (h := ?_)
     refine pv_ (i := 9) (N := some 34) #[Y_,Y_,Y_,Y_,Y_,Y_,Y_,N_,Y_,Y_,N_,N_,N_,N_,N_,N_,N_,N_,N_,N_,N_,N_,N_,N_,N_,N_,N_,N_,N_,N_,N_,N_,N_] (h := ?_)
     refine pv_ (i := 10) (N := some 35) #[Y_,Y_,Y_,Y_,Y_,Y_,Y_,N_,Y_,Y_,Y_,N_,N_,N_,N_,N_,N_,N_,N_,N_,N_,N_,N_,N_,N_,N_,N_,N_,N_,N_,N_,N_,N_] (h := ?_)
     refine pv_ (i := 11) (N := some 36) #[Y_,Y_,Y_,Y_,Y_,Y_,Y_,N_,Y_,Y_,Y_,Y_,N_,N_,N_,N_,N_,N_,N_,N_,N_,N_,N_,N_,N_,N_,N_,N_,N_,N_,N_,N_,N_] (h := ?_)
     refine pv_ (i := 12) (N := some 37) #[Y_,Y_,Y_,Y_,Y_,Y_,Y_,N_,Y_,Y_,Y_,Y_,Y_,N_,N_,N_,N_,N_,N_,N_,N_,N_,N_,N_,N_,N_,N_,N_,N_,N_,N_,N_,N_] (h := ?_)
     refine take_ (i := 7) (N := some 32) (v := ?_) (a' := ?_) #[Y_,Y_,Y_,Y_,Y_,Y_,Y_,Y_,Y_,Y_,Y_,Y_,Y_,N_,N_,N_,N_,N_,N_,N_,N_,N_,N_,N_,N_,N_,N_,N_,N_,N_,N_,N_,N_] rfl rfl (take_ofW HT_.out HW_.out (by kernel_rfl)) (fun _ _ _ h => h) (Or.inl ⟨by rfl, ?_⟩) hHeld ?_ ?_
     rotate_left
     ·
      rintro w' ⟨s0, s1, s2, s3, s4, s5, s6, s7⟩
      go_simp
      with_reducible rfl
     rotate_left
     ·
      simp only [Act.put, List.setIfInBounds_toArray, List.set_cons_zero, List.set_cons_succ, i64_w, i32_w]
      rfl
     refine take_ (i := 13) (N := some 38) (v := ?_) (a' := ?_) #[Y_,Y_,Y_,Y_,Y_,Y_,Y_,Y_,Y_,Y_,Y_,Y_,Y_,Y_,N_,N_,N_,N_,N_,N_,N_,N_,N_,N_,N_,N_,N_,N_,N_,N_,N_,N_,N_] rfl rfl (take_ofW HT_.out HW_.out (by kernel_rfl)) (fun _ _ _ h => h) (Or.inl ⟨by rfl, ?_⟩) hHeld ?_ ?_
     rotate_left
     ·
      rintro w' ⟨s0, s1, s2, s3, s4, s5, s6, s7⟩
      go_simp
      with_reducible rfl
     rotate_left
     ·
      simp only [Act.put, List.setIfInBounds_toArray, List.set_cons_zero, List.set_cons_succ, i64_w, i32_w]
      rfl
     refine pv_ (i := 14) (N := some 39) #[Y_,Y_,Y_,Y_,Y_,Y_,Y_,Y_,Y_,Y_,Y_,Y_,Y_,Y_,Y_,N_,N_,N_,N_,N_,N_,N_,N_,N_,N_,N_,N_,N_,N_,N_,N_,N_,N_] (h := ?_)
     refine pv_ (i := 15) (N := some 40) #[Y_,Y_,Y_,Y_,Y_,Y_,Y_,Y_,Y_,Y_,Y_,Y_,Y_,Y_,Y_,Y_,N_,N_,N_,N_,N_,N_,N_,N_,N_,N_,N_,N_,N_,N_,N_,N_,N_] (h := ?_)
     refine pv_ (i := 16) (N := some 41) #[Y_,Y_,Y_,Y_,Y_,Y_,Y_,Y_,Y_,Y_,Y_,Y_,Y_,Y_,Y_,Y_,Y_,N_,N_,N_,N_,N_,N_,N_,N_,N_,N_,N_,N_,N_,N_,N_,N_] (h := ?_)
     refine pv_ (i := 17) (N := some 42) #[Y_,Y_,Y_,Y_,Y_,Y_,Y_,Y_,Y_,Y_,Y_,Y_,Y_,Y_,Y_,Y_,Y_,Y_,N_,N_,N_,N_,N_,N_,N_,N_,N_,N_,N_,N_,N_,N_,N_] (h := ?_)
     refine pv_ (i := 18) (N := some 43) #[Y_,Y_,Y_,Y_,Y_,Y_,Y_,Y_,Y_,Y_,Y_,Y_,Y_,Y_,Y_,Y_,Y_,Y_,Y_,N_,N_,N_,N_,N_,N_,N_,N_,N_,N_,N_,N_,N_,N_] (h := ?_)
     refine pv_ (i := 19) (N := some 44) #[Y_,Y_,Y_,Y_,Y_,Y_,Y_,Y_,Y_,Y_,Y_,Y_,Y_,Y_,Y_,Y_,Y_,Y_,Y_,Y_,N_,N_,N_,N_,N_,N_,N_,N_,N_,N_,N_,N_,N_] (h := ?_)
     refine pv_ (i := 20) (N := some 45) #[Y_,Y_,Y_,Y_,Y_,Y_,Y_,Y_,Y_,Y_,Y_,Y_,Y_,Y_,Y_,Y_,Y_,Y_,Y_,Y_,Y_,N_,N_,N_,N_,N_,N_,N_,N_,N_,N_,N_,N_] (h := ?_)
     refine take_ (i := 21) (N := some 46) (v := ?_) (a' := ?_) #[Y_,Y_,Y_,Y_,Y_,Y_,Y_,Y_,Y_,Y_,Y_,Y_,Y_,Y_,Y_,Y_,Y_,Y_,Y_,Y_,Y_,Y_,N_,N_,N_,N_,N_,N_,N_,N_,N_,N_,N_] rfl rfl (take_ofW HT_.out HW_.out (by kernel_rfl)) (fun _ _ _ h => h) (Or.inl ⟨by rfl, ?_⟩) hHeld ?_ ?_
     rotate_left
     ·
      rintro w' ⟨s0, s1, s2, s3, s4, s5, s6, s7⟩
      go_simp
      with_reducible rfl
     rotate_left
     ·
      simp only [Act.put, List.setIfInBounds_toArray, List.set_cons_zero, List.set_cons_succ, i64_w, i32_w]
      rfl
     refine pv_ (i := 22) (N := some 47) #[Y_,Y_,Y_,Y_,Y_,Y_,Y_,Y_,Y_,Y_,Y_,Y_,Y_,Y_,Y_,Y_,Y_,Y_,Y_,Y_,Y_,Y_,Y_,N_,N_,N_,N_,N_,N_,N_,N_,N_,N_] (h := ?_)
     refine pv_ (i := 23) (N := some 48) #[Y_,Y_,Y_,Y_,Y_,Y_,Y_,Y_,Y_,Y_,Y_,Y_,Y_,Y_,Y_,Y_,Y_,Y_,Y_,Y_,Y_,Y_,Y_,Y_,N_,N_,N_,N_,N_,N_,N_,N_,N_] (h := ?_)
     refine pv_ (i := 24) (N := some 49) #[Y_,Y_,Y_,Y_,Y_,Y_,Y_,Y_,Y_,Y_,Y_,Y_,Y_,Y_,Y_,Y_,Y_,Y_,Y_,Y_,Y_,Y_,Y_,Y_,Y_,N_,N_,N_,N_,N_,N_,N_,N_] (h := ?_)
     refine pv_ (i := 25) (N := some 50) #[Y_,Y_,Y_,Y_,Y_,Y_,Y_,Y_,Y_,Y_,Y_,Y_,Y_,Y_,Y_,Y_,Y_,Y_,Y_,Y_,Y_,Y_,Y_,Y_,Y_,Y_,N_,N_,N_,N_,N_,N_,N_] (h := ?_)
     refine pv_ (i := 26) (N := some 51) #[Y_,Y_,Y_,Y_,Y_,Y_,Y_,Y_,Y_,Y_,Y_,Y_,Y_,Y_,Y_,Y_,Y_,Y_,Y_,Y_,Y_,Y_,Y_,Y_,Y_,Y_,Y_,N_,N_,N_,N_,N_,N_] (h := ?_)
     refine pv_ (i := 27) (N := some 52) #[Y_,Y_,Y_,Y_,Y_,Y_,Y_,Y_,Y_,Y_,Y_,Y_,Y_,Y_,Y_,Y_,Y_,Y_,Y_,Y_,Y_,Y_,Y_,Y_,Y_,Y_,Y_,Y_,N_,N_,N_,N_,N_] (h := ?_)
     refine pv_ (i := 28) (N := some 53) #[Y_,Y_,Y_,Y_,Y_,Y_,Y_,Y_,Y_,Y_,Y_,Y_,Y_,Y_,Y_,Y_,Y_,Y_,Y_,Y_,Y_,Y_,Y_,Y_,Y_,Y_,Y_,Y_,Y_,N_,N_,N_,N_] (h := ?_)
     refine take_ (i := 29) (N := some 54) (v := ?_) (a' := ?_) #[Y_,Y_,Y_,Y_,Y_,Y_,Y_,Y_,Y_,Y_,Y_,Y_,Y_,Y_,Y_,Y_,Y_,Y_,Y_,Y_,Y_,Y_,Y_,Y_,Y_,Y_,Y_,Y_,Y_,Y_,N_,N_,N_] rfl rfl (take_ofW HT_.out HW_.out (by kernel_rfl)) (fun _ _ _ h => h) (Or.inl ⟨by rfl, ?_⟩) hHeld ?_ ?_
     rotate_left
     ·
      rintro w' ⟨s0, s1, s2, s3, s4, s5, s6, s7⟩
      go_simp
      with_reducible rfl
     rotate_left
     ·
      simp only [Act.put, List.setIfInBounds_toArray, List.set_cons_zero, List.set_cons_succ, i64_w, i32_w]
      rfl
     refine one_ (i := 30) (N := some 55) #[Y_,Y_,Y_,Y_,Y_,Y_,Y_,Y_,Y_,Y_,Y_,Y_,Y_,Y_,Y_,Y_,Y_,Y_,Y_,Y_,Y_,Y_,Y_,Y_,Y_,Y_,Y_,Y_,Y_,Y_,Y_,N_,N_] rfl rfl (one_of HT_.out (by kernel_rfl)) (by decide) (fun K hK => ?_)
     refine goes_ Try.func47 (by kernel_rfl) rfl #[.int .i64 ((rd_T80 l0 x3_2).f1), .int .i64 1000000000] (by rfl) rfl rfl q1 ?_
     with_reducible refine (payrollref30_in.calls ((rd_T80 l0 x3_2).f1) 1000000000 false _ A17.out).mono ?_
     rintro e w' ⟨rfl, ⟨nd, rfl⟩⟩
     refine ⟨_, rfl, ?_⟩
     refine hK.out _ _ ⟨((HB.out.cell (World.block_lt_of_cell? w _ hw399_0)).trans hw399_0), ((HB.out.cell (World.block_lt_of_cell? w _ hw399_1)).trans hw399_1), ((HB.out.cell (World.block_lt_of_cell? w _ hw400_0)).trans hw400_0), ((HB.out.cell (World.block_lt_of_cell? w _ hw400_1)).trans hw400_1), ((HB.out.cell (World.block_lt_of_cell? w _ hw401_0)).trans hw401_0), ((HB.out.cell (World.block_lt_of_cell? w _ hw401_1)).trans hw401_1), ((HB.out.cell (World.block_lt_of_cell? w _ hw402_0)).trans hw402_0), ((HB.out.cell (World.block_lt_of_cell? w _ hw402_1)).trans hw402_1)⟩ (fun hHeld => ?_)
     clear hK K
     refine norm_ (a' := ?_) ?_ ?_
     rotate_left
     ·
      show Act.put _ (some 55) _ = _
      simp only [Act.put, List.setIfInBounds_toArray, List.set_cons_zero, List.set_cons_succ, i64_w, i32_w]
      rfl
     refine pv_ (i := 31) (N := some 56) #[Y_,Y_,Y_,Y_,Y_,Y_,Y_,Y_,Y_,Y_,Y_,Y_,Y_,Y_,Y_,Y_,Y_,Y_,Y_,Y_,Y_,Y_,Y_,Y_,Y_,Y_,Y_,Y_,Y_,Y_,Y_,Y_,N_] (h := ?_)
     refine pv_ (i := 32) (N := some 57) #[Y_,Y_,Y_,Y_,Y_,Y_,Y_,Y_,Y_,Y_,Y_,Y_,Y_,Y_,Y_,Y_,Y_,Y_,Y_,Y_,Y_,Y_,Y_,Y_,Y_,Y_,Y_,Y_,Y_,Y_,Y_,Y_,Y_] (h := ?_)
     refine done_ (done_of HT_.out (by kernel_rfl)) ?_
     try go_wp2
     go_ret
     exact ⟨by first | rfl | (simp [errW_none, errW_some] <;> rfl) | (simp only [← hji10]; first | rfl | (simp [errW_none, errW_some] <;> rfl)) | (simp [*, errW_none, errW_some] <;> rfl), q0⟩

end Go.Proofs.Ytbacfajhgmnjpaa.P
