/- Proved here: the plain facts of several small texts of this seat, one behind the other; no condition of its own. -/
import Derived.Test.YtbacfajhgmnjpaaProg
import Derived.Test.YtbacfajhgmnjpaaV1
import Derived.Test.YtbacfajhgmnjpaaV2
import Derived.Test.YtbacfajhgmnjpaaFPRE
import Derived.Test.YtbacfajhgmnjpaaFpayrollref29Valid
namespace Go.Proofs.Ytbacfajhgmnjpaa.P
open Go.RowKit Go.Proofs.YtbacfajhgmnjpaaW.PrintWords Go.Proofs.YtbacfajhgmnjpaaW.PrintLast Go.Proofs.YtbacfajhgmnjpaaW.PrintMore
attribute [local go_sem] max2_int min2_int max_two min_two max_three min_three max_four min_four   -- for this text's walks alone
set_option linter.unusedVariables false
set_option linter.unusedSimpArgs false

def payrollref30_in.f (a0 : Int) (a1 : Int) : Option (Bool) := if a0 ≥ 0 then (some (decide (a0 ≤ a1))) else (some false)
set_option maxHeartbeats 8000000 in
set_option maxRecDepth 100000 in
theorem payrollref30_in.calls (a0 : Int) (a1 : Int) (r : Bool) (w : World) (h : payrollref30_in.f a0 a1 = some r) :
  Calls Try.prog 47 #[.int .i64 a0, .int .i64 a1] w fun e w' => e = .returned (.bool r) ∧ Drawn0 w w' := by
 have H : (if a0 ≥ 0 then (some (decide (a0 ≤ a1))) else (some false)) = some r := h
 clear h
 by_cases c3 : a0 ≥ 0
 ·
  rw [if_pos c3] at H
  have c3b0 : decide (0 ≤ a0) = true := decide_eq_true c3
  clear c3
  obtain rfl := Option.some.inj H
  exact (by go_enter Try.func47, Try.ntmps47; go_wp2; go_ret; exact ⟨by first | rfl | (simp; done) | (simp [*]; done), q49⟩)
 ·
  rw [if_neg c3] at H
  have c3b0 : decide (0 ≤ a0) = false := decide_eq_false c3
  clear c3
  obtain rfl := Option.some.inj H
  exact (by go_enter Try.func47, Try.ntmps47; go_wp2; go_ret; exact ⟨by first | rfl | (simp; done) | (simp [*]; done), q49⟩)

end Go.Proofs.Ytbacfajhgmnjpaa.P

namespace Go.Proofs.Ytbacfajhgmnjpaa.P
open Go.RowKit Go.Proofs.YtbacfajhgmnjpaaW.PrintWords Go.Proofs.YtbacfajhgmnjpaaW.PrintLast Go.Proofs.YtbacfajhgmnjpaaW.PrintMore
attribute [local go_sem] max2_int min2_int max_two min_two max_three min_three max_four min_four   -- for this text's walks alone
set_option linter.unusedVariables false
set_option linter.unusedSimpArgs false

def payrollref2_Mode.f (a0 : Int) : Option (Bool) := if a0 ≥ 0 then (some (decide (a0 ≤ 6))) else (some false)
set_option maxHeartbeats 8000000 in
set_option maxRecDepth 100000 in
theorem payrollref2_Mode.calls (a0 : Int) (r : Bool) (w : World) (h : payrollref2_Mode.f a0 = some r) :
  Calls Try.prog 59 #[.int .i64 a0] w fun e w' => e = .returned (.bool r) ∧ Drawn0 w w' := by
 have H : (if a0 ≥ 0 then (some (decide (a0 ≤ 6))) else (some false)) = some r := h
 clear h
 by_cases c2 : a0 ≥ 0
 ·
  rw [if_pos c2] at H
  have c2b0 : decide (0 ≤ a0) = true := decide_eq_true c2
  clear c2
  obtain rfl := Option.some.inj H
  exact (by go_enter Try.func59, Try.ntmps59; go_wp2; go_ret; exact ⟨by first | rfl | (simp; done) | (simp [*]; done), q49⟩)
 ·
  rw [if_neg c2] at H
  have c2b0 : decide (0 ≤ a0) = false := decide_eq_false c2
  clear c2
  obtain rfl := Option.some.inj H
  exact (by go_enter Try.func59, Try.ntmps59; go_wp2; go_ret; exact ⟨by first | rfl | (simp; done) | (simp [*]; done), q49⟩)

end Go.Proofs.Ytbacfajhgmnjpaa.P

namespace Go.Proofs.Ytbacfajhgmnjpaa.P
open Go.RowKit Go.Proofs.YtbacfajhgmnjpaaW.PrintWords Go.Proofs.YtbacfajhgmnjpaaW.PrintLast Go.Proofs.YtbacfajhgmnjpaaW.PrintMore
attribute [local go_sem] max2_int min2_int max_two min_two max_three min_three max_four min_four   -- for this text's walks alone
set_option linter.unusedVariables false
set_option linter.unusedSimpArgs false

def payrollref29_check.f (k : Nat) (l0 : List (S58)) (a1 : Int) : Option (Int) := (payrollref29_Valid.f k l0).bind fun t413 => (if t413 = true then (if a1 < 0 then (some 2) else (if a1 > 1000000000000 then (some 2) else (some 0))) else (some 1))
set_option maxHeartbeats 8000000 in
set_option maxRecDepth 100000 in
theorem payrollref29_check.calls (k : Nat) (A0 : Option Addr) (c0 : Nat) (l0 : List (S58)) (a1 : Int) (r : Int) (w : World) (hr0 : Kd.C k58 w A0 l0.length l0) (hc0 : l0.length ≤ c0) (h : payrollref29_check.f k l0 a1 = some r) :
  Calls Try.prog 69 #[.slice A0 l0.length c0, .int .i64 a1] w fun e w' => e = .returned (.int .i64 r) ∧ Drawn0 w w' := by
 have HR0 := Aside0.mk hr0
 have HC0 := Aside0.mk hc0
 clear hr0 hc0
 have H : ((payrollref29_Valid.f k l0).bind fun t413 => (if t413 = true then (if a1 < 0 then (some 2) else (if a1 > 1000000000000 then (some 2) else (some 0))) else (some 1))) = some r := h
 clear h
 replace H := Option.bind_eq_some_iff.mp H
 obtain ⟨t413, A30, H⟩ := H
 try dsimp only at H
 have A3 := Aside0.mk A30
 clear A30
 by_cases c4 : t413 = true
 ·
  subst c4
  rw [if_pos rfl] at H
  by_cases c5 : a1 < 0
  ·
   rw [if_pos c5] at H
   have c5b0 : decide (a1 < 0) = true := decide_eq_true c5
   clear c5
   obtain rfl := Option.some.inj H
   exact q113
  ·
   rw [if_neg c5] at H
   have c5b0 : decide (a1 < 0) = false := decide_eq_false c5
   clear c5
   by_cases c6 : a1 > 1000000000000
   ·
    rw [if_pos c6] at H
    have c6b0 : decide (1000000000000 < a1) = true := decide_eq_true c6
    clear c6
    obtain rfl := Option.some.inj H
    exact q113
   ·
    rw [if_neg c6] at H
    have c6b0 : decide (1000000000000 < a1) = false := decide_eq_false c6
    clear c6
    obtain rfl := Option.some.inj H
    exact q113
 ·
  replace c4 := Bool.eq_false_iff.mpr c4
  subst c4
  rw [if_neg (show ¬ (false = true) by decide)] at H
  obtain rfl := Option.some.inj H
  exact (by go_enter Try.func69, Try.ntmps69; go_wp2_with (first | ((with_reducible refine gate_callee (f := 58) rfl ?_); refine goesL_ (some 6) rfl rfl Try.func58 (by kernel_rfl) rfl #[.slice A0 l0.length c0] rfl q1 ?_; (with_reducible refine (payrollref29_Valid.calls k _ _ l0 false _ ?side1 ?side2 A3.out).mono ?_); (case side1 => exact q33); (case side2 => exact HC0.out); rintro e w' ⟨rfl, ⟨nd, rfl⟩⟩; refine ⟨_, rfl, ?_⟩)); go_ret; exact ⟨by first | rfl | (simp; done) | (simp [*]; done), q49⟩)

end Go.Proofs.Ytbacfajhgmnjpaa.P

namespace Go.Proofs.Ytbacfajhgmnjpaa.P
open Go.RowKit Go.Proofs.YtbacfajhgmnjpaaW.PrintWords Go.Proofs.YtbacfajhgmnjpaaW.PrintLast Go.Proofs.YtbacfajhgmnjpaaW.PrintMore
attribute [local go_sem] max2_int min2_int max_two min_two max_three min_three max_four min_four   -- for this text's walks alone
set_option linter.unusedVariables false
set_option linter.unusedSimpArgs false

def payrollref29_Split.l0 : Nat → List (S58) → Int → List Int → Int → Option (List Int × Int)
 | 0, _, _, _, _ => none
 | k + 1, x0, x1, x7, x8 => if x8 < (x0.length : Int) then (if (wrap64 (x8 + 1)) < (x0.length : Int) then (if 0 ≤ (wrap64 (x8 + 1)) then (if 0 ≤ x8 then (if x8 < (x7.length : Int) then (payrollref29_Split.l0 k x0 x1 (x7.set (x8 : Int).toNat (mx (wrap64 ((mn x1 ((rd_T58 x0 (wrap64 (x8 + 1))).f0)) - ((rd_T58 x0 x8).f0))) 0)) (wrap64 (x8 + 1))) else (none)) else (none)) else (none)) else (if 0 ≤ x8 then (if x8 < (x7.length : Int) then (payrollref29_Split.l0 k x0 x1 (x7.set (x8 : Int).toNat (mx (wrap64 (x1 - ((rd_T58 x0 x8).f0))) 0)) (wrap64 (x8 + 1))) else (none)) else (none))) else (some (x7, 0))
def payrollref29_Split.f (k : Nat) (l0 : List (S58)) (a1 : Int) : Option (List Int × Int) := (payrollref29_check.f k l0 a1).bind fun t414 => (if t414 = 0 then (if 0 ≤ (l0.length : Int) then (if ((l0.length : Int) : Int).toNat ≤ 35184372088832 then (payrollref29_Split.l0 k l0 a1 (List.replicate ((l0.length : Int) : Int).toNat 0) 0) else (none)) else (none)) else (some (([] : List Int), t414)))
set_option maxHeartbeats 8000000 in
set_option maxRecDepth 100000 in
theorem payrollref29_Split.calls (k : Nat) (A0 : Option Addr) (c0 : Nat) (l0 : List (S58)) (a1 : Int) (r1 : List Int) (r2 : Int) (w : World) (hr0 : Kd.C k58 w A0 l0.length l0) (hc0 : l0.length ≤ c0) (h : payrollref29_Split.f k l0 a1 = some (r1, r2)) :
  Calls Try.prog 67 #[.slice A0 l0.length c0, .int .i64 a1] w fun e w' => ∃ v0_ : Value, e = .returned (.tuple #[v0_, .int .i64 r2]) ∧ Kd.R (Kd.int .i64) 3 w' w.heap.size (fun _ => True) v0_ r1 ∧ Below w.heap.size w w' := by
 have HR0 := Aside0.mk hr0
 have HC0 := Aside0.mk hc0
 clear hr0 hc0
 have HB := Aside0.mk (Below.refl w.heap.size w)
 have H : ((payrollref29_check.f k l0 a1).bind fun t414 => (if t414 = 0 then (if 0 ≤ (l0.length : Int) then (if ((l0.length : Int) : Int).toNat ≤ 35184372088832 then (payrollref29_Split.l0 k l0 a1 (List.replicate ((l0.length : Int) : Int).toNat 0) 0) else (none)) else (none)) else (some (([] : List Int), t414)))) = some (r1, r2) := h
 clear h
 replace H := Option.bind_eq_some_iff.mp H
 obtain ⟨t414, A30, H⟩ := H
 try dsimp only at H
 have A3 := Aside0.mk A30
 clear A30
 by_cases c4 : t414 = 0
 ·
  rw [if_pos c4] at H
  have c4b0 : (t414 == 0) = true := beq_iff_eq.mpr c4
  have c4b1 : (t414 != 0) = false := bne_eq_false_iff_eq.mpr c4
  clear c4
  by_cases c5 : 0 ≤ (l0.length : Int)
  ·
   rw [if_pos c5] at H
   have c5b0 := eq_true c5
   have c5b1 : decide (0 ≤ (l0.length : Int)) = true := decide_eq_true c5
   clear c5
   by_cases c6 : ((l0.length : Int) : Int).toNat ≤ 35184372088832
   ·
    rw [if_pos c6] at H
    have c6b0 := eq_true c6
    have c6b1 : decide (((l0.length : Int) : Int).toNat ≤ 35184372088832) = true := decide_eq_true c6
    clear c6
    obtain ⟨y415, hy415⟩ : ∃ y_ : List Int, y_ = (List.replicate ((l0.length : Int) : Int).toNat 0) := ⟨_, rfl⟩
    replace H : (payrollref29_Split.l0 k l0 a1 y415 0) = some (r1, r2) := by first | (rw [hy415]; with_reducible exact H) | (have H2_ := (Option.bind_some _ _).symm.trans H; rw [hy415]; with_reducible exact H2_) | (have H2_ := (Option.bind_some _ _).symm.trans H; with_reducible exact H2_) | with_reducible exact H | (rw [hy415]; exact H) | exact H
    have Ny415 := Aside0.mk hy415
    clear hy415
    have H' := Aside0.mk H
    clear H
    go_enter Try.func67, Try.ntmps67
    go_wp2_with (first | ((with_reducible refine gate_callee (f := 69) rfl ?_); refine goesL_ (some 12) rfl rfl Try.func69 (by kernel_rfl) rfl #[.slice A0 l0.length c0, .int .i64 a1] rfl q1 ?_; (with_reducible refine (payrollref29_check.calls k _ _ l0 a1 t414 _ ?side1 ?side2 A3.out).mono ?_); (case side1 => exact q33); (case side2 => exact HC0.out); rintro e w' ⟨rfl, ⟨nd, rfl⟩⟩; refine ⟨_, rfl, ?_⟩) | ((with_reducible refine gate_dst (N := 18) rfl ?_); refine Kd.R_make (Kd.int .i64) _ 3 rfl (N := 18) rfl 22 _ _ rfl (l0.length : Int) rfl rfl Try.underlying22 (.int .i64 0) 8 info3 rfl (by decide) (by omega) 0 (ok := fun _ => True) (okp := fun _ => True) rfl (fun _ hk => hk) trivial (of_decide_eq_true q6) (Nat.le_trans (Nat.mul_le_mul_right _ (of_decide_eq_true q6 : (l0.length : Int).toNat ≤ 35184372088832)) (by omega)) (Below.refl _ _) (Nat.le_refl _) ?_; intro v416 w7 ho8 hb hg_ hnew_; clear hg_ hnew_; (first | rw [← Ny415.out] at ho8 | (simp only [Int.reduceToNat] at ho8; rw [← Ny415.out] at ho8)); have n0_ := Aside0.mk (Kd.R_lower ho8 (below_size q0)); have n1_ := Aside0.mk (below_step q0 hb); clear HB; have HO417 := n0_; have HB := n1_; clear n0_ n1_; clear hb ho8))
    go_loopg [8] k (fun kq v8 w' => ∃ (x7_1 : List Int) (x8_1 : Int), v8 = .int .i64 x8_1 ∧ Aside0 (payrollref29_Split.l0 kq l0 a1 x7_1 x8_1 = some (r1, r2)) ∧ Aside0 (kq ≤ k) ∧ Aside0 (Kd.R (Kd.int .i64) 3 w' w.heap.size (fun _ => True) v416 x7_1) ∧ Aside0 (Below w.heap.size w w'))
    case atStart => exact ⟨(y415), (0), q26, H', ⟨Nat.le_refl _⟩, ⟨(by (with_reducible repeat (first | apply Kd.R_alloc | apply Kd.R_drewN | apply Kd.R_drew)); exact HO417.out)⟩, ⟨q0⟩⟩
    case round =>
     clear H'
     try clear p2
     try clear c4
     try clear c4b0
     try clear c4b1
     try clear c5
     try clear c5b0
     try clear c5b1
     try clear c6
     try clear c6b0
     try clear c6b1
     obtain ⟨x7_1, x8_1, rfl, HA, HK1, HO_7, HB⟩ := hrel
     cases gk with
     | zero => exact absurd HA.out (by simp [payrollref29_Split.l0])
     | succ k1 =>
      have H := HA.out
      clear HA
      simp only [payrollref29_Split.l0] at H
      by_cases c9 : x8_1 < (l0.length : Int)
      ·
       rw [if_pos c9] at H
       have c9b0 : decide (x8_1 < (l0.length : Int)) = true := decide_eq_true c9
       clear c9
       by_cases c10 : (wrap64 (x8_1 + 1)) < (l0.length : Int)
       ·
        rw [if_pos c10] at H
        have c10b0 : decide ((wrap64 (x8_1 + 1)) < (l0.length : Int)) = true := decide_eq_true c10
        clear c10
        obtain ⟨ji11, hji11⟩ : ∃ j_ : Int, (wrap64 (x8_1 + 1)) = j_ := ⟨_, rfl⟩
        replace H : (if 0 ≤ (ji11) then (if 0 ≤ x8_1 then (if x8_1 < (x7_1.length : Int) then (payrollref29_Split.l0 k1 l0 a1 (x7_1.set (x8_1 : Int).toNat (mx (wrap64 ((mn a1 ((rd_T58 l0 (ji11)).f0)) - ((rd_T58 l0 x8_1).f0))) 0)) ji11) else (none)) else (none)) else (none)) = some (r1, r2) := by first | (rw [hji11] at H; exact H) | (simp only [hji11] at H ⊢; exact H)
        (try rw [hji11] at c10b0)
        have hji11w : (IntKind.i64.wrap (x8_1 + 1)) = ji11 := (i64_w _).trans hji11
        by_cases c12 : 0 ≤ (ji11)
        ·
         rw [if_pos c12] at H
         have c12b0 : decide (0 ≤ (ji11)) = true := decide_eq_true c12
         clear c12
         obtain ⟨ji13, hji13⟩ : ∃ j_ : Int, (mn a1 ((rd_T58 l0 (ji11)).f0)) = j_ := ⟨_, rfl⟩
         replace H : (if 0 ≤ x8_1 then (if x8_1 < (x7_1.length : Int) then (payrollref29_Split.l0 k1 l0 a1 (x7_1.set (x8_1 : Int).toNat (mx (wrap64 ((ji13) - ((rd_T58 l0 x8_1).f0))) 0)) ji11) else (none)) else (none)) = some (r1, r2) := by first | (rw [hji13] at H; exact H) | (simp only [hji13] at H ⊢; exact H)
         have hji13_ : (if ((rd_T58 l0 (ji11)).f0) < a1 then ((rd_T58 l0 (ji11)).f0) else a1) = ji13 := hji13
         by_cases c14 : 0 ≤ x8_1
         ·
          rw [if_pos c14] at H
          have c14b0 : decide (0 ≤ x8_1) = true := decide_eq_true c14
          clear c14
          obtain ⟨ji15, hji15⟩ : ∃ j_ : Int, (mx (wrap64 ((ji13) - ((rd_T58 l0 x8_1).f0))) 0) = j_ := ⟨_, rfl⟩
          replace H : (if x8_1 < (x7_1.length : Int) then (payrollref29_Split.l0 k1 l0 a1 (x7_1.set (x8_1 : Int).toNat (ji15)) ji11) else (none)) = some (r1, r2) := by first | (rw [hji15] at H; exact H) | (simp only [hji15] at H ⊢; exact H)
          have hji15_ : (if (wrap64 ((ji13) - ((rd_T58 l0 x8_1).f0))) < 0 then 0 else (wrap64 ((ji13) - ((rd_T58 l0 x8_1).f0)))) = ji15 := hji15
          by_cases c16 : x8_1 < (x7_1.length : Int)
          ·
           rw [if_pos c16] at H
           have c16b0 : decide (x8_1 < (x7_1.length : Int)) = true := decide_eq_true c16
           clear c16
           obtain ⟨y420, hy420⟩ : ∃ y_ : List Int, y_ = (x7_1.set (x8_1 : Int).toNat (ji15)) := ⟨_, rfl⟩
           replace H : (payrollref29_Split.l0 k1 l0 a1 y420 ji11) = some (r1, r2) := by first | (rw [hy420]; with_reducible exact H) | (have H2_ := (Option.bind_some _ _).symm.trans H; rw [hy420]; with_reducible exact H2_) | (have H2_ := (Option.bind_some _ _).symm.trans H; with_reducible exact H2_) | with_reducible exact H | (rw [hy420]; exact H) | exact H
           have Ny420 := Aside0.mk hy420
           clear hy420
           have H' := Aside0.mk H
           clear H
           have p418 : 0 ≤ ((ji11) : Int) := of_decide_eq_true q6
           have q418 : (ji11) < (l0.length : Int) := of_decide_eq_true q6
           obtain ⟨ad418, e418, hx418_0, hx418_1⟩ := at_T58 HR0.out (ji11) p418 q418
           cases e418
           replace hx418_0 := (HB.out.cell (World.block_lt_of_cell? w _ hx418_0)).trans hx418_0
           replace hx418_1 := (HB.out.cell (World.block_lt_of_cell? w _ hx418_1)).trans hx418_1
           replace p418 := eq_true p418
           replace q418 := eq_true q418
           have p419 : 0 ≤ (x8_1 : Int) := of_decide_eq_true q6
           have q419 : x8_1 < (l0.length : Int) := of_decide_eq_true q6
           obtain ⟨ad419, e419, hx419_0, hx419_1⟩ := at_T58 HR0.out x8_1 p419 q419
           obtain rfl : ad418 = ad419 := (by injection e419)
           replace hx419_0 := (HB.out.cell (World.block_lt_of_cell? w _ hx419_0)).trans hx419_0
           replace hx419_1 := (HB.out.cell (World.block_lt_of_cell? w _ hx419_1)).trans hx419_1
           replace p419 := eq_true p419
           replace q419 := eq_true q419
           have p17 : 0 ≤ (x8_1 : Int) := of_decide_eq_true q6
           have q17 : (x8_1 : Int) < ((x7_1.length : Int) : Int) := of_decide_eq_true q6
           obtain ⟨go17, co17, eo17, gb17, gl17, cl17, HG17⟩ := Kd.R_form HO_7.out (by omega)
           (first | cases eo17 | (injection eo17 with ea_ en_ ec_; (first | subst ea_ | (injection ea_ with ea_; subst ea_)); subst ec_; clear en_))
           have GB17 := Aside0.mk gb17
           have GG17 := Aside0.mk HG17
           clear gb17 gl17 HG17
           obtain ⟨hx17_0, hf17_0⟩ := Kd.R_celln 0 HO_7.out (x8_1 : Int) p17 q17
           replace p17 := eq_true p17
           replace q17 := eq_true q17
           have HP18 := Kd.R_putg HO_7.out (x8_1 : Int) ji15
           go_wp2_with (first | ((with_reducible refine gate_store (t := 3) (p := 49) rfl ?_); refine store_event (t := 3) (p := 49) (v := ?vo_w19) (w1 := (wr.setCell ⟨go17, (x8_1 : Int).toNat, none⟩ (.int .i64 ji15))) ?hg ?ho ?hn ?hr ?_; (case ho => rfl); (case hg => rfl); (case hn => rfl); (case hr => first | (go_simp; done) | (go_simp; rfl)); intro w19 hw; have hg : wr.grownBy w19 (some go17) := (by rw [hw]; exact HP18.2); have hp_ : Kd.R (Kd.int .i64) 3 w19 w.heap.size (fun _ => True) (.slice (some ⟨go17, 0, none⟩) x7_1.length co17) y420 := (by rw [hw, Ny420.out]; exact HP18.1); clear HP18; have n0_ := Aside0.mk (hp_); have n1_ := Aside0.mk ((by rw [hw]; exact below_set (HB.out) GB17.out : Below w.heap.size w w19)); clear HO_7; clear HB; have HO_7 := n0_; have HB := n1_; clear n0_ n1_; clear hg hw hp_))
           go_roundg k1
           case measure => have := HK1.out; omega
           case rel => exact ⟨(y420), (ji11), (by first | rfl | (simp; done) | (simp only [← hji11] <;> (first | rfl | simp)) | (simp [*]; done)), H', ⟨by have := HK1.out; omega⟩, ⟨q74⟩, ⟨q0⟩⟩
          ·
           rw [if_neg c16] at H
           exact absurd H (by simp)
         ·
          rw [if_neg c14] at H
          exact absurd H (by simp)
        ·
         rw [if_neg c12] at H
         exact absurd H (by simp)
       ·
        rw [if_neg c10] at H
        have c10b0 : decide ((wrap64 (x8_1 + 1)) < (l0.length : Int)) = false := decide_eq_false c10
        clear c10
        by_cases c20 : 0 ≤ x8_1
        ·
         rw [if_pos c20] at H
         have c20b0 : decide (0 ≤ x8_1) = true := decide_eq_true c20
         clear c20
         obtain ⟨ji21, hji21⟩ : ∃ j_ : Int, (mx (wrap64 (a1 - ((rd_T58 l0 x8_1).f0))) 0) = j_ := ⟨_, rfl⟩
         replace H : (if x8_1 < (x7_1.length : Int) then (payrollref29_Split.l0 k1 l0 a1 (x7_1.set (x8_1 : Int).toNat (ji21)) (wrap64 (x8_1 + 1))) else (none)) = some (r1, r2) := by first | (rw [hji21] at H; exact H) | (simp only [hji21] at H ⊢; exact H)
         have hji21_ : (if (wrap64 (a1 - ((rd_T58 l0 x8_1).f0))) < 0 then 0 else (wrap64 (a1 - ((rd_T58 l0 x8_1).f0)))) = ji21 := hji21
         by_cases c22 : x8_1 < (x7_1.length : Int)
         ·
          rw [if_pos c22] at H
          have c22b0 : decide (x8_1 < (x7_1.length : Int)) = true := decide_eq_true c22
          clear c22
          obtain ⟨y422, hy422⟩ : ∃ y_ : List Int, y_ = (x7_1.set (x8_1 : Int).toNat (ji21)) := ⟨_, rfl⟩
          replace H : (payrollref29_Split.l0 k1 l0 a1 y422 (wrap64 (x8_1 + 1))) = some (r1, r2) := by first | (rw [hy422]; with_reducible exact H) | (have H2_ := (Option.bind_some _ _).symm.trans H; rw [hy422]; with_reducible exact H2_) | (have H2_ := (Option.bind_some _ _).symm.trans H; with_reducible exact H2_) | with_reducible exact H | (rw [hy422]; exact H) | exact H
          have Ny422 := Aside0.mk hy422
          clear hy422
          have H' := Aside0.mk H
          clear H
          have p421 : 0 ≤ (x8_1 : Int) := of_decide_eq_true q6
          have q421 : x8_1 < (l0.length : Int) := of_decide_eq_true q6
          obtain ⟨ad421, e421, hx421_0, hx421_1⟩ := at_T58 HR0.out x8_1 p421 q421
          cases e421
          replace hx421_0 := (HB.out.cell (World.block_lt_of_cell? w _ hx421_0)).trans hx421_0
          replace hx421_1 := (HB.out.cell (World.block_lt_of_cell? w _ hx421_1)).trans hx421_1
          replace p421 := eq_true p421
          replace q421 := eq_true q421
          have p23 : 0 ≤ (x8_1 : Int) := of_decide_eq_true q6
          have q23 : (x8_1 : Int) < ((x7_1.length : Int) : Int) := of_decide_eq_true q6
          obtain ⟨go23, co23, eo23, gb23, gl23, cl23, HG23⟩ := Kd.R_form HO_7.out (by omega)
          (first | cases eo23 | (injection eo23 with ea_ en_ ec_; (first | subst ea_ | (injection ea_ with ea_; subst ea_)); subst ec_; clear en_))
          have GB23 := Aside0.mk gb23
          have GG23 := Aside0.mk HG23
          clear gb23 gl23 HG23
          obtain ⟨hx23_0, hf23_0⟩ := Kd.R_celln 0 HO_7.out (x8_1 : Int) p23 q23
          replace p23 := eq_true p23
          replace q23 := eq_true q23
          have HP24 := Kd.R_putg HO_7.out (x8_1 : Int) ji21
          go_wp2_with (first | ((with_reducible refine gate_store (t := 3) (p := 49) rfl ?_); refine store_event (t := 3) (p := 49) (v := ?vo_w25) (w1 := (wr.setCell ⟨go23, (x8_1 : Int).toNat, none⟩ (.int .i64 ji21))) ?hg ?ho ?hn ?hr ?_; (case ho => rfl); (case hg => rfl); (case hn => rfl); (case hr => first | (go_simp; done) | (go_simp; rfl)); intro w25 hw; have hg : wr.grownBy w25 (some go23) := (by rw [hw]; exact HP24.2); have hp_ : Kd.R (Kd.int .i64) 3 w25 w.heap.size (fun _ => True) (.slice (some ⟨go23, 0, none⟩) x7_1.length co23) y422 := (by rw [hw, Ny422.out]; exact HP24.1); clear HP24; have n0_ := Aside0.mk (hp_); have n1_ := Aside0.mk ((by rw [hw]; exact below_set (HB.out) GB23.out : Below w.heap.size w w25)); clear HO_7; clear HB; have HO_7 := n0_; have HB := n1_; clear n0_ n1_; clear hg hw hp_))
          go_roundg k1
          case measure => have := HK1.out; omega
          case rel => exact ⟨(y422), (wrap64 (x8_1 + 1)), q26, H', ⟨by have := HK1.out; omega⟩, ⟨q74⟩, ⟨q0⟩⟩
         ·
          rw [if_neg c22] at H
          exact absurd H (by simp)
        ·
         rw [if_neg c20] at H
         exact absurd H (by simp)
      ·
       rw [if_neg c9] at H
       have c9b0 : decide (x8_1 < (l0.length : Int)) = false := decide_eq_false c9
       clear c9
       simp only [Option.some.injEq, Prod.mk.injEq] at H
       obtain ⟨rfl, rfl⟩ := H
       go_wp2
       go_ret2
       exact ⟨_, by first | rfl | (simp [errW_none, errW_some] <;> rfl) | (simp [*, errW_none, errW_some] <;> rfl), q74, q0⟩
   ·
    rw [if_neg c6] at H
    exact absurd H (by simp)
  ·
   rw [if_neg c5] at H
   exact absurd H (by simp)
 ·
  rw [if_neg c4] at H
  have c4b0 : (t414 == 0) = false := beq_eq_false_iff_ne.mpr c4
  have c4b1 : (t414 != 0) = true := bne_iff_ne.mpr c4
  simp only [Option.some.injEq, Prod.mk.injEq] at H
  obtain ⟨rfl, rfl⟩ := H
  exact (by go_enter Try.func67, Try.ntmps67; go_wp2_with (first | ((with_reducible refine gate_callee (f := 69) rfl ?_); refine goesL_ (some 12) rfl rfl Try.func69 (by kernel_rfl) rfl #[.slice A0 l0.length c0, .int .i64 a1] rfl q1 ?_; (with_reducible refine (payrollref29_check.calls k _ _ l0 a1 t414 _ ?side1 ?side2 A3.out).mono ?_); (case side1 => exact q33); (case side2 => exact HC0.out); rintro e w' ⟨rfl, ⟨nd, rfl⟩⟩; refine ⟨_, rfl, ?_⟩)); go_ret2; exact ⟨_, by first | rfl | (simp [errW_none, errW_some] <;> rfl) | (simp [*, errW_none, errW_some] <;> rfl), by first | exact Kd.R_nil _ _ _ _ _ | exact Kd.N_nil _ _ _ _ _ | exact Kd.V_nil _ _ _ _ _ | exact Kd.Q_nil _ _ _ _ _ | exact Kd.S_nil _ _ _ _ _, q0⟩)

end Go.Proofs.Ytbacfajhgmnjpaa.P

namespace Go.Proofs.Ytbacfajhgmnjpaa.P
open Go.RowKit Go.Proofs.YtbacfajhgmnjpaaW.PrintWords Go.Proofs.YtbacfajhgmnjpaaW.PrintLast Go.Proofs.YtbacfajhgmnjpaaW.PrintMore
attribute [local go_sem] max2_int min2_int max_two min_two max_three min_three max_four min_four   -- for this text's walks alone
set_option linter.unusedVariables false
set_option linter.unusedSimpArgs false

def payrollref29_Exact.l0 : Nat → List (S58) → List Int → Int → Int → Option (Int × Int)
 | 0, _, _, _, _ => none
 | k + 1, x0, x6, x8, x9 => if x9 < (x6.length : Int) then (if 0 ≤ x9 then (if x9 < (x0.length : Int) then (payrollref29_Exact.l0 k x0 x6 (wrap64 (x8 + (wrap64 ((rd x6 x9) * ((rd_T58 x0 x9).f1))))) (wrap64 (x9 + 1))) else (none)) else (none)) else (some (x8, 0))
def payrollref29_Exact.f (k : Nat) (l0 : List (S58)) (a1 : Int) : Option (Int × Int) := (payrollref29_Split.f k l0 a1).bind fun bt423 => (if bt423.2 = 0 then (payrollref29_Exact.l0 k l0 bt423.1 0 0) else (some (0, bt423.2)))
set_option maxHeartbeats 8000000 in
set_option maxRecDepth 100000 in
theorem payrollref29_Exact.calls (k : Nat) (A0 : Option Addr) (c0 : Nat) (l0 : List (S58)) (a1 : Int) (r1 : Int) (r2 : Int) (w : World) (hr0 : Kd.C k58 w A0 l0.length l0) (hc0 : l0.length ≤ c0) (h : payrollref29_Exact.f k l0 a1 = some (r1, r2)) :
  Calls Try.prog 64 #[.slice A0 l0.length c0, .int .i64 a1] w fun e w' => e = .returned (.tuple #[.int .i64 r1, .int .i64 r2]) ∧ Below w.heap.size w w' := by
 have HR0 := Aside0.mk hr0
 have HC0 := Aside0.mk hc0
 clear hr0 hc0
 have HB := Aside0.mk (Below.refl w.heap.size w)
 have H : ((payrollref29_Split.f k l0 a1).bind fun bt423 => (if bt423.2 = 0 then (payrollref29_Exact.l0 k l0 bt423.1 0 0) else (some (0, bt423.2)))) = some (r1, r2) := h
 clear h
 replace H := Option.bind_eq_some_iff.mp H
 obtain ⟨⟨t423, t424⟩, A30, H⟩ := H
 try dsimp only at H
 have A3 := Aside0.mk A30
 clear A30
 by_cases c4 : t424 = 0
 ·
  rw [if_pos c4] at H
  have c4b0 : (t424 == 0) = true := beq_iff_eq.mpr c4
  have c4b1 : (t424 != 0) = false := bne_eq_false_iff_eq.mpr c4
  clear c4
  have H' := Aside0.mk H
  clear H
  go_enter Try.func64, Try.ntmps64
  go_wp2_with (first | (go_at_call 67; (with_reducible refine (payrollref29_Split.calls k _ _ l0 a1 t423 t424 _ ?side1 ?side2 A3.out).mono ?_); (case side1 => exact q33); (case side2 => exact HC0.out); rintro e w5 ⟨v425, rfl, ho0, hb⟩; have n0_ := Aside0.mk (Kd.R_lower ho0 (below_size q0)); have n1_ := Aside0.mk (below_step q0 hb); clear HB; have HO426 := n0_; have HB := n1_; clear n0_ n1_; (try clear hb); (try clear hb2); (try clear hk); (try clear hi); (try clear ho0)))
  repeat (go_quiet (first | fail); try go_wp2_with (first | fail))
  go_loopg [8, 9] k (fun kq v8 v9 w' => ∃ (x8_1 : Int) (x9_1 : Int), v8 = .int .i64 x8_1 ∧ v9 = .int .i64 x9_1 ∧ Aside0 (payrollref29_Exact.l0 kq l0 t423 x8_1 x9_1 = some (r1, r2)) ∧ Aside0 (kq ≤ k) ∧ Aside0 (Kd.R (Kd.int .i64) 3 w' w.heap.size (fun _ => True) v425 t423) ∧ Aside0 (Below w.heap.size w w'))
  case atStart => exact ⟨(0), (0), q26, q26, H', ⟨Nat.le_refl _⟩, ⟨(by (with_reducible repeat (first | apply Kd.R_alloc | apply Kd.R_drewN | apply Kd.R_drew)); exact HO426.out)⟩, ⟨q0⟩⟩
  case round =>
   clear H'
   try clear p2
   try clear c4
   try clear c4b0
   try clear c4b1
   obtain ⟨x8_1, x9_1, rfl, rfl, HA, HK1, HO_6, HB⟩ := hrel
   cases gk with
   | zero => exact absurd HA.out (by simp [payrollref29_Exact.l0])
   | succ k1 =>
    have H := HA.out
    clear HA
    simp only [payrollref29_Exact.l0] at H
    by_cases c6 : x9_1 < (t423.length : Int)
    ·
     rw [if_pos c6] at H
     have c6b0 : decide (x9_1 < (t423.length : Int)) = true := decide_eq_true c6
     clear c6
     by_cases c7 : 0 ≤ x9_1
     ·
      rw [if_pos c7] at H
      have c7b0 : decide (0 ≤ x9_1) = true := decide_eq_true c7
      clear c7
      by_cases c8 : x9_1 < (l0.length : Int)
      ·
       rw [if_pos c8] at H
       have c8b0 : decide (x9_1 < (l0.length : Int)) = true := decide_eq_true c8
       clear c8
       have H' := Aside0.mk H
       clear H
       obtain ⟨Ao9, co9, eo9⟩ := Kd.R_slice HO_6.out
       subst eo9
       have p427 : 0 ≤ (x9_1 : Int) := of_decide_eq_true q6
       have q427 : x9_1 < (t423.length : Int) := of_decide_eq_true q6
       obtain ⟨ad427, e427, hx427_0⟩ := Kd.at_int (Kd.R_reads' HO_6.out).2.2 x9_1 p427 q427
       cases e427
       replace p427 := eq_true p427
       replace q427 := eq_true q427
       have p428 : 0 ≤ (x9_1 : Int) := of_decide_eq_true q6
       have q428 : x9_1 < (l0.length : Int) := of_decide_eq_true q6
       obtain ⟨ad428, e428, hx428_0, hx428_1⟩ := at_T58 HR0.out x9_1 p428 q428
       cases e428
       replace hx428_0 := (HB.out.cell (World.block_lt_of_cell? w _ hx428_0)).trans hx428_0
       replace hx428_1 := (HB.out.cell (World.block_lt_of_cell? w _ hx428_1)).trans hx428_1
       replace p428 := eq_true p428
       replace q428 := eq_true q428
       go_wp2
       repeat (go_quiet (fail); try go_wp2)
       go_roundg k1
       case measure => have := HK1.out; omega
       case rel => exact ⟨(wrap64 (x8_1 + (wrap64 ((rd t423 x9_1) * ((rd_T58 l0 x9_1).f1))))), (wrap64 (x9_1 + 1)), q26, q26, H', ⟨by have := HK1.out; omega⟩, ⟨q51⟩, ⟨q0⟩⟩
      ·
       rw [if_neg c8] at H
       exact absurd H (by simp)
     ·
      rw [if_neg c7] at H
      exact absurd H (by simp)
    ·
     rw [if_neg c6] at H
     have c6b0 : decide (x9_1 < (t423.length : Int)) = false := decide_eq_false c6
     clear c6
     simp only [Option.some.injEq, Prod.mk.injEq] at H
     obtain ⟨rfl, rfl⟩ := H
     obtain ⟨Ao10, co10, eo10⟩ := Kd.R_slice HO_6.out
     subst eo10
     go_wp2
     repeat (go_quiet (fail); try go_wp2)
     go_ret2
     exact ⟨by first | rfl | (simp [errW_none, errW_some] <;> rfl) | (simp [*, errW_none, errW_some] <;> rfl), q0⟩
 ·
  rw [if_neg c4] at H
  have c4b0 : (t424 == 0) = false := beq_eq_false_iff_ne.mpr c4
  have c4b1 : (t424 != 0) = true := bne_iff_ne.mpr c4
  simp only [Option.some.injEq, Prod.mk.injEq] at H
  obtain ⟨rfl, rfl⟩ := H
  exact (by go_enter Try.func64, Try.ntmps64; go_wp2_with (first | (go_at_call 67; (with_reducible refine (payrollref29_Split.calls k _ _ l0 a1 t423 t424 _ ?side1 ?side2 A3.out).mono ?_); (case side1 => exact q33); (case side2 => exact HC0.out); rintro e w_1 ⟨v425, rfl, ho_1, hb⟩; have n0_ := Aside0.mk (Kd.R_lower ho_1 (below_size q0)); have n1_ := Aside0.mk (below_step q0 hb); clear HB; have HO_1 := n0_; have HB := n1_; clear n0_ n1_; (try clear hb); (try clear hb2); (try clear hk); (try clear hi); (try clear ho_1))); (repeat (go_quiet (first | fail); try go_wp2_with (first | fail))); go_ret2; exact ⟨by first | rfl | (simp [errW_none, errW_some] <;> rfl) | (simp [*, errW_none, errW_some] <;> rfl), q0⟩)

end Go.Proofs.Ytbacfajhgmnjpaa.P

namespace Go.Proofs.Ytbacfajhgmnjpaa.P
open Go.RowKit Go.Proofs.YtbacfajhgmnjpaaW.PrintWords Go.Proofs.YtbacfajhgmnjpaaW.PrintLast Go.Proofs.YtbacfajhgmnjpaaW.PrintMore
attribute [local go_sem] max2_int min2_int max_two min_two max_three min_three max_four min_four   -- for this text's walks alone
set_option linter.unusedVariables false
set_option linter.unusedSimpArgs false

def payrollref29_round.j0 : Nat → Int → Int → Int → Int → Bool → Int → Bool → Option (Int)
 | 0, _, _, _, _, _, _, _ => none
 | k + 1, x1, x7, x8, x9, x10, x19, x20 => if x20 = true then (if x9 > 0 then (some (wrap64 ((wrap64 (x8 + 1)) * x1))) else (some (wrap64 (x8 * x1)))) else (if x19 = 4 then (if (wrap64 (2 * x9)) ≥ x7 then (some (wrap64 ((wrap64 (x8 + 1)) * x1))) else (some (wrap64 (x8 * x1)))) else (if x19 = 5 then (if (wrap64 (2 * x9)) > x7 then (some (wrap64 ((wrap64 (x8 + 1)) * x1))) else (some (wrap64 (x8 * x1)))) else (if x19 = 6 then (if (wrap64 (2 * x9)) > x7 then (some (wrap64 ((wrap64 (x8 + 1)) * x1))) else (if (wrap64 (2 * x9)) = x7 then (if (Int.tmod x8 2) = 1 then (some (wrap64 ((wrap64 (x8 + 1)) * x1))) else (some (wrap64 (x8 * x1)))) else (some (wrap64 (x8 * x1))))) else (if x10 = true then (some (wrap64 ((wrap64 (x8 + 1)) * x1))) else (some (wrap64 (x8 * x1)))))))
def payrollref29_round.f (k : Nat) (a0 : Int) (a1 : Int) (a2 : Int) : Option (Int) := if (wrap64 (1000000 * a1)) = 0 then (none) else (if a2 = 1 then (payrollref29_round.j0 k a1 (wrap64 (1000000 * a1)) (wrap64 (Int.tdiv a0 (wrap64 (1000000 * a1)))) (Int.tmod a0 (wrap64 (1000000 * a1))) false a2 (a2 == 1)) else (payrollref29_round.j0 k a1 (wrap64 (1000000 * a1)) (wrap64 (Int.tdiv a0 (wrap64 (1000000 * a1)))) (Int.tmod a0 (wrap64 (1000000 * a1))) false a2 (a2 == 3)))
set_option maxHeartbeats 8000000 in
set_option maxRecDepth 100000 in
theorem payrollref29_round.calls (k : Nat) (a0 : Int) (a1 : Int) (a2 : Int) (r : Int) (w : World) (h : payrollref29_round.f k a0 a1 a2 = some r) :
  Calls Try.prog 65 #[.int .i64 a0, .int .i64 a1, .int .i64 a2] w fun e w' => e = .returned (.int .i64 r) ∧ Drawn0 w w' := by
 have H : (if (wrap64 (1000000 * a1)) = 0 then (none) else (if a2 = 1 then (payrollref29_round.j0 k a1 (wrap64 (1000000 * a1)) (wrap64 (Int.tdiv a0 (wrap64 (1000000 * a1)))) (Int.tmod a0 (wrap64 (1000000 * a1))) false a2 (a2 == 1)) else (payrollref29_round.j0 k a1 (wrap64 (1000000 * a1)) (wrap64 (Int.tdiv a0 (wrap64 (1000000 * a1)))) (Int.tmod a0 (wrap64 (1000000 * a1))) false a2 (a2 == 3)))) = some r := h
 clear h
 by_cases c4 : (wrap64 (1000000 * a1)) = 0
 ·
  rw [if_pos c4] at H
  exact absurd H (by simp)
 ·
  rw [if_neg c4] at H
  have c4b0 : ((wrap64 (1000000 * a1)) == 0) = false := beq_eq_false_iff_ne.mpr c4
  have c4b1 : ((wrap64 (1000000 * a1)) != 0) = true := bne_iff_ne.mpr c4
  have HC5 := Aside0.mk H
  clear H
  go_enter Try.func65, Try.ntmps65
  go_upto_if 20 with (fail)
  repeat (go_quiet (fail); go_upto_if 20 with (fail))
  go_cut [20] (fun v20 wc => ∃ (kq : Nat) (x20_4 : Bool), v20 = .bool x20_4 ∧ Aside0 (payrollref29_round.j0 kq a1 (wrap64 (1000000 * a1)) (wrap64 (Int.tdiv a0 (wrap64 (1000000 * a1)))) (Int.tmod a0 (wrap64 (1000000 * a1))) false a2 x20_4 = some r) ∧ Aside0 (kq ≤ k) ∧ Drawn0 w wc)
  case first =>
   have H := HC5.out
   clear HC5
   by_cases c6 : a2 = 1
   ·
    rw [if_pos c6] at H
    have c6b0 : (a2 == 1) = true := beq_iff_eq.mpr c6
    have c6b1 : (a2 != 1) = false := bne_eq_false_iff_eq.mpr c6
    clear c6
    (first | rw [c6b0] | (simp only [i64_w, i32_w]; rw [c6b0]) | skip)
    have H' := Aside0.mk H
    clear H
    go_wp2
    repeat (go_quiet (fail); try go_wp2)
    go_meet
    case rel => exact ⟨_, ((a2 == 1)), q26, H', ⟨by first | omega | exact Nat.le_refl _⟩, q49⟩
   ·
    rw [if_neg c6] at H
    have c6b0 : (a2 == 1) = false := beq_eq_false_iff_ne.mpr c6
    have c6b1 : (a2 != 1) = true := bne_iff_ne.mpr c6
    (first | rw [c6b0] | (simp only [i64_w, i32_w]; rw [c6b0]) | skip)
    have H' := Aside0.mk H
    clear H
    go_wp2
    repeat (go_quiet (fail); try go_wp2)
    go_meet
    case rel => exact ⟨_, ((a2 == 3)), q26, H', ⟨by first | omega | exact Nat.le_refl _⟩, q49⟩
  case rest =>
   clear HC5
   try clear p2
   try clear c4
   try clear c4b0
   try clear c4b1
   try clear c6
   try clear c6b0
   try clear c6b1
   try clear p6
   obtain ⟨kq, x20_4, rfl, HA, HJ4, ⟨mc4, rfl⟩⟩ := hcut
   cases kq with
   | zero => exact absurd HA.out (by simp [payrollref29_round.j0])
   | succ kj4 =>
    have H := HA.out
    clear HA
    simp only [payrollref29_round.j0] at H
    by_cases c7 : x20_4 = true
    ·
     subst c7
     rw [if_pos rfl] at H
     by_cases c8 : (Int.tmod a0 (wrap64 (1000000 * a1))) > 0
     ·
      rw [if_pos c8] at H
      have c8b0 : decide (0 < (Int.tmod a0 (wrap64 (1000000 * a1)))) = true := decide_eq_true c8
      clear c8
      obtain rfl := Option.some.inj H
      go_wp2
      repeat (go_quiet (fail); try go_wp2)
      go_ret
      exact ⟨by first | rfl | (simp; done) | (simp [*]; done), q49⟩
     ·
      rw [if_neg c8] at H
      have c8b0 : decide (0 < (Int.tmod a0 (wrap64 (1000000 * a1)))) = false := decide_eq_false c8
      clear c8
      obtain rfl := Option.some.inj H
      go_wp2
      repeat (go_quiet (fail); try go_wp2)
      go_ret
      exact ⟨by first | rfl | (simp; done) | (simp [*]; done), q49⟩
    ·
     replace c7 := Bool.eq_false_iff.mpr c7
     subst c7
     rw [if_neg (show ¬ (false = true) by decide)] at H
     by_cases c9 : a2 = 4
     ·
      rw [if_pos c9] at H
      have c9b0 : (a2 == 4) = true := beq_iff_eq.mpr c9
      have c9b1 : (a2 != 4) = false := bne_eq_false_iff_eq.mpr c9
      clear c9
      by_cases c10 : (wrap64 (2 * (Int.tmod a0 (wrap64 (1000000 * a1))))) ≥ (wrap64 (1000000 * a1))
      ·
       rw [if_pos c10] at H
       have c10b0 : decide ((wrap64 (1000000 * a1)) ≤ (wrap64 (2 * (Int.tmod a0 (wrap64 (1000000 * a1)))))) = true := decide_eq_true c10
       clear c10
       obtain rfl := Option.some.inj H
       go_wp2
       repeat (go_quiet (fail); try go_wp2)
       go_ret
       exact ⟨by first | rfl | (simp; done) | (simp [*]; done), q49⟩
      ·
       rw [if_neg c10] at H
       have c10b0 : decide ((wrap64 (1000000 * a1)) ≤ (wrap64 (2 * (Int.tmod a0 (wrap64 (1000000 * a1)))))) = false := decide_eq_false c10
       clear c10
       obtain rfl := Option.some.inj H
       go_wp2
       repeat (go_quiet (fail); try go_wp2)
       go_ret
       exact ⟨by first | rfl | (simp; done) | (simp [*]; done), q49⟩
     ·
      rw [if_neg c9] at H
      have c9b0 : (a2 == 4) = false := beq_eq_false_iff_ne.mpr c9
      have c9b1 : (a2 != 4) = true := bne_iff_ne.mpr c9
      by_cases c11 : a2 = 5
      ·
       rw [if_pos c11] at H
       have c11b0 : (a2 == 5) = true := beq_iff_eq.mpr c11
       have c11b1 : (a2 != 5) = false := bne_eq_false_iff_eq.mpr c11
       clear c11
       by_cases c12 : (wrap64 (2 * (Int.tmod a0 (wrap64 (1000000 * a1))))) > (wrap64 (1000000 * a1))
       ·
        rw [if_pos c12] at H
        have c12b0 : decide ((wrap64 (1000000 * a1)) < (wrap64 (2 * (Int.tmod a0 (wrap64 (1000000 * a1)))))) = true := decide_eq_true c12
        clear c12
        obtain rfl := Option.some.inj H
        go_wp2
        repeat (go_quiet (fail); try go_wp2)
        go_ret
        exact ⟨by first | rfl | (simp; done) | (simp [*]; done), q49⟩
       ·
        rw [if_neg c12] at H
        have c12b0 : decide ((wrap64 (1000000 * a1)) < (wrap64 (2 * (Int.tmod a0 (wrap64 (1000000 * a1)))))) = false := decide_eq_false c12
        clear c12
        obtain rfl := Option.some.inj H
        go_wp2
        repeat (go_quiet (fail); try go_wp2)
        go_ret
        exact ⟨by first | rfl | (simp; done) | (simp [*]; done), q49⟩
      ·
       rw [if_neg c11] at H
       have c11b0 : (a2 == 5) = false := beq_eq_false_iff_ne.mpr c11
       have c11b1 : (a2 != 5) = true := bne_iff_ne.mpr c11
       by_cases c13 : a2 = 6
       ·
        rw [if_pos c13] at H
        have c13b0 : (a2 == 6) = true := beq_iff_eq.mpr c13
        have c13b1 : (a2 != 6) = false := bne_eq_false_iff_eq.mpr c13
        clear c13
        by_cases c14 : (wrap64 (2 * (Int.tmod a0 (wrap64 (1000000 * a1))))) > (wrap64 (1000000 * a1))
        ·
         rw [if_pos c14] at H
         have c14b0 : decide ((wrap64 (1000000 * a1)) < (wrap64 (2 * (Int.tmod a0 (wrap64 (1000000 * a1)))))) = true := decide_eq_true c14
         clear c14
         obtain rfl := Option.some.inj H
         go_wp2
         repeat (go_quiet (fail); try go_wp2)
         go_ret
         exact ⟨by first | rfl | (simp; done) | (simp [*]; done), q49⟩
        ·
         rw [if_neg c14] at H
         have c14b0 : decide ((wrap64 (1000000 * a1)) < (wrap64 (2 * (Int.tmod a0 (wrap64 (1000000 * a1)))))) = false := decide_eq_false c14
         clear c14
         by_cases c15 : (wrap64 (2 * (Int.tmod a0 (wrap64 (1000000 * a1))))) = (wrap64 (1000000 * a1))
         ·
          rw [if_pos c15] at H
          have c15b0 : ((wrap64 (2 * (Int.tmod a0 (wrap64 (1000000 * a1))))) == (wrap64 (1000000 * a1))) = true := beq_iff_eq.mpr c15
          have c15b1 : ((wrap64 (2 * (Int.tmod a0 (wrap64 (1000000 * a1))))) != (wrap64 (1000000 * a1))) = false := bne_eq_false_iff_eq.mpr c15
          clear c15
          by_cases c16 : (Int.tmod (wrap64 (Int.tdiv a0 (wrap64 (1000000 * a1)))) 2) = 1
          ·
           rw [if_pos c16] at H
           have c16b0 : ((Int.tmod (wrap64 (Int.tdiv a0 (wrap64 (1000000 * a1)))) 2) == 1) = true := beq_iff_eq.mpr c16
           have c16b1 : ((Int.tmod (wrap64 (Int.tdiv a0 (wrap64 (1000000 * a1)))) 2) != 1) = false := bne_eq_false_iff_eq.mpr c16
           clear c16
           obtain rfl := Option.some.inj H
           go_wp2
           repeat (go_quiet (fail); try go_wp2)
           go_ret
           exact ⟨by first | rfl | (simp; done) | (simp [*]; done), q49⟩
          ·
           rw [if_neg c16] at H
           have c16b0 : ((Int.tmod (wrap64 (Int.tdiv a0 (wrap64 (1000000 * a1)))) 2) == 1) = false := beq_eq_false_iff_ne.mpr c16
           have c16b1 : ((Int.tmod (wrap64 (Int.tdiv a0 (wrap64 (1000000 * a1)))) 2) != 1) = true := bne_iff_ne.mpr c16
           obtain rfl := Option.some.inj H
           go_wp2
           repeat (go_quiet (fail); try go_wp2)
           go_ret
           exact ⟨by first | rfl | (simp; done) | (simp [*]; done), q49⟩
         ·
          rw [if_neg c15] at H
          have c15b0 : ((wrap64 (2 * (Int.tmod a0 (wrap64 (1000000 * a1))))) == (wrap64 (1000000 * a1))) = false := beq_eq_false_iff_ne.mpr c15
          have c15b1 : ((wrap64 (2 * (Int.tmod a0 (wrap64 (1000000 * a1))))) != (wrap64 (1000000 * a1))) = true := bne_iff_ne.mpr c15
          obtain rfl := Option.some.inj H
          go_wp2
          repeat (go_quiet (fail); try go_wp2)
          go_ret
          exact ⟨by first | rfl | (simp; done) | (simp [*]; done), q49⟩
       ·
        rw [if_neg c13] at H
        have c13b0 : (a2 == 6) = false := beq_eq_false_iff_ne.mpr c13
        have c13b1 : (a2 != 6) = true := bne_iff_ne.mpr c13
        rw [if_neg (show ¬ (false = true) by decide)] at H
        obtain rfl := Option.some.inj H
        go_wp2
        repeat (go_quiet (fail); try go_wp2)
        go_ret
        exact ⟨by first | rfl | (simp; done) | (simp [*]; done), q49⟩

end Go.Proofs.Ytbacfajhgmnjpaa.P

namespace Go.Proofs.Ytbacfajhgmnjpaa.P
open Go.RowKit Go.Proofs.YtbacfajhgmnjpaaW.PrintWords Go.Proofs.YtbacfajhgmnjpaaW.PrintLast Go.Proofs.YtbacfajhgmnjpaaW.PrintMore
attribute [local go_sem] max2_int min2_int max_two min_two max_three min_three max_four min_four   -- for this text's walks alone
set_option linter.unusedVariables false
set_option linter.unusedSimpArgs false

def payrollref29_Tax.f (k : Nat) (l0 : List (S58)) (a1 : Int) (a2 : Int) (a3 : Int) : Option (Int × Int) := (payrollref29_Exact.f k l0 a1).bind fun bt429 => (if bt429.2 = 0 then (if a2 < 1 then (some (0, 2)) else (if a2 > 1000000 then (some (0, 2)) else ((payrollref2_Mode.f a3).bind fun t431 => (if t431 = true then ((payrollref29_round.f k bt429.1 a2 a3).bind fun t432 => (some (t432, 0))) else (some (0, 2)))))) else (some (0, bt429.2)))
set_option maxHeartbeats 8000000 in
set_option maxRecDepth 100000 in
theorem payrollref29_Tax.calls (k : Nat) (A0 : Option Addr) (c0 : Nat) (l0 : List (S58)) (a1 : Int) (a2 : Int) (a3 : Int) (r1 : Int) (r2 : Int) (w : World) (hr0 : Kd.C k58 w A0 l0.length l0) (hc0 : l0.length ≤ c0) (h : payrollref29_Tax.f k l0 a1 a2 a3 = some (r1, r2)) :
  Calls Try.prog 62 #[.slice A0 l0.length c0, .int .i64 a1, .int .i64 a2, .int .i64 a3] w fun e w' => e = .returned (.tuple #[.int .i64 r1, .int .i64 r2]) ∧ Below w.heap.size w w' := by
 have HR0 := Aside0.mk hr0
 have HC0 := Aside0.mk hc0
 clear hr0 hc0
 have HB := Aside0.mk (Below.refl w.heap.size w)
 have H : ((payrollref29_Exact.f k l0 a1).bind fun bt429 => (if bt429.2 = 0 then (if a2 < 1 then (some (0, 2)) else (if a2 > 1000000 then (some (0, 2)) else ((payrollref2_Mode.f a3).bind fun t431 => (if t431 = true then ((payrollref29_round.f k bt429.1 a2 a3).bind fun t432 => (some (t432, 0))) else (some (0, 2)))))) else (some (0, bt429.2)))) = some (r1, r2) := h
 clear h
 replace H := Option.bind_eq_some_iff.mp H
 obtain ⟨⟨t429, t430⟩, A50, H⟩ := H
 try dsimp only at H
 have A5 := Aside0.mk A50
 clear A50
 by_cases c6 : t430 = 0
 ·
  rw [if_pos c6] at H
  have c6b0 : (t430 == 0) = true := beq_iff_eq.mpr c6
  have c6b1 : (t430 != 0) = false := bne_eq_false_iff_eq.mpr c6
  clear c6
  by_cases c7 : a2 < 1
  ·
   rw [if_pos c7] at H
   have c7b0 : decide (a2 < 1) = true := decide_eq_true c7
   clear c7
   simp only [Option.some.injEq, Prod.mk.injEq] at H
   obtain ⟨rfl, rfl⟩ := H
   exact q88
  ·
   rw [if_neg c7] at H
   have c7b0 : decide (a2 < 1) = false := decide_eq_false c7
   clear c7
   by_cases c9 : a2 > 1000000
   ·
    rw [if_pos c9] at H
    have c9b0 : decide (1000000 < a2) = true := decide_eq_true c9
    clear c9
    simp only [Option.some.injEq, Prod.mk.injEq] at H
    obtain ⟨rfl, rfl⟩ := H
    exact q88
   ·
    rw [if_neg c9] at H
    have c9b0 : decide (1000000 < a2) = false := decide_eq_false c9
    clear c9
    replace H := Option.bind_eq_some_iff.mp H
    obtain ⟨t431, A110, H⟩ := H
    try dsimp only at H
    have A11 := Aside0.mk A110
    clear A110
    by_cases c12 : t431 = true
    ·
     subst c12
     rw [if_pos rfl] at H
     replace H := Option.bind_eq_some_iff.mp H
     obtain ⟨t432, A130, H⟩ := H
     have A13 := Aside0.mk A130
     clear A130
     simp only [Option.some.injEq, Prod.mk.injEq] at H
     obtain ⟨rfl, rfl⟩ := H
     exact (by go_enter Try.func62, Try.ntmps62; go_wp2_with (first | ((with_reducible refine gate_callee (f := 64) rfl ?_); refine goesL_ (some 15) rfl rfl Try.func64 (by kernel_rfl) rfl #[.slice A0 l0.length c0, .int .i64 a1] rfl q1 ?_; (with_reducible refine (payrollref29_Exact.calls k _ _ l0 a1 t429 t430 _ ?side1 ?side2 A5.out).mono ?_); (case side1 => exact q33); (case side2 => exact HC0.out); rintro e w_1 ⟨rfl, hb⟩; refine ⟨_, rfl, ?_⟩; have n0_ := Aside0.mk (below_step q0 hb); clear HB; have HB := n0_; clear n0_; (try clear hb); (try clear hb2); (try clear hk); (try clear hi)) | (go_at_call 59; (with_reducible refine (payrollref2_Mode.calls a3 true _ A11.out).mono ?_); rintro e w' ⟨rfl, ⟨nd, rfl⟩⟩) | ((with_reducible refine gate_callee (f := 65) rfl ?_); refine goesL_ (some 35) rfl rfl Try.func65 (by kernel_rfl) rfl #[.int .i64 t429, .int .i64 a2, .int .i64 a3] rfl q1 ?_; (with_reducible refine (payrollref29_round.calls k t429 a2 a3 t432 _ A13.out).mono ?_); rintro e w' ⟨rfl, ⟨nd, rfl⟩⟩; refine ⟨_, rfl, ?_⟩)); go_ret2; exact ⟨by first | rfl | (simp [errW_none, errW_some] <;> rfl) | (simp [*, errW_none, errW_some] <;> rfl), q0⟩)
    ·
     replace c12 := Bool.eq_false_iff.mpr c12
     subst c12
     rw [if_neg (show ¬ (false = true) by decide)] at H
     simp only [Option.some.injEq, Prod.mk.injEq] at H
     obtain ⟨rfl, rfl⟩ := H
     exact (by go_enter Try.func62, Try.ntmps62; go_wp2_with (first | ((with_reducible refine gate_callee (f := 64) rfl ?_); refine goesL_ (some 15) rfl rfl Try.func64 (by kernel_rfl) rfl #[.slice A0 l0.length c0, .int .i64 a1] rfl q1 ?_; (with_reducible refine (payrollref29_Exact.calls k _ _ l0 a1 t429 t430 _ ?side1 ?side2 A5.out).mono ?_); (case side1 => exact q33); (case side2 => exact HC0.out); rintro e w_1 ⟨rfl, hb⟩; refine ⟨_, rfl, ?_⟩; have n0_ := Aside0.mk (below_step q0 hb); clear HB; have HB := n0_; clear n0_; (try clear hb); (try clear hb2); (try clear hk); (try clear hi)) | (go_at_call 59; (with_reducible refine (payrollref2_Mode.calls a3 false _ A11.out).mono ?_); rintro e w' ⟨rfl, ⟨nd, rfl⟩⟩)); go_ret2; exact ⟨by first | rfl | (simp [errW_none, errW_some] <;> rfl) | (simp [*, errW_none, errW_some] <;> rfl), q0⟩)
 ·
  rw [if_neg c6] at H
  have c6b0 : (t430 == 0) = false := beq_eq_false_iff_ne.mpr c6
  have c6b1 : (t430 != 0) = true := bne_iff_ne.mpr c6
  simp only [Option.some.injEq, Prod.mk.injEq] at H
  obtain ⟨rfl, rfl⟩ := H
  exact q88

end Go.Proofs.Ytbacfajhgmnjpaa.P

namespace Go.Proofs.Ytbacfajhgmnjpaa.P
open Go.RowKit Go.Proofs.YtbacfajhgmnjpaaW.PrintWords Go.Proofs.YtbacfajhgmnjpaaW.PrintLast Go.Proofs.YtbacfajhgmnjpaaW.PrintMore
attribute [local go_sem] max2_int min2_int max_two min_two max_three min_three max_four min_four   -- for this text's walks alone
set_option linter.unusedVariables false
set_option linter.unusedSimpArgs false

def payrollref30_tax.f (k : Nat) (a0_0 : Int) (l0_1 : List (S58)) (a0_2 : Int) (a0_3 : Int) (a0_4 : Int) (a0_5 : Int) (l0_6 : List (S80)) (l1 : List (S58)) (a2 : Int) (a3 : Int) (a4 : Int) : Option (Int) := (payrollref29_Tax.f k l1 (mx (wrap64 (a4 - a2)) 0) a0_4 a0_5).bind fun bt434 => (some (mx (wrap64 (bt434.1 - a3)) 0))
set_option maxHeartbeats 8000000 in
set_option maxRecDepth 100000 in
theorem payrollref30_tax.calls (k : Nat) (a0_0 : Int) (A0_1 : Option Addr) (c0_1 : Nat) (l0_1 : List (S58)) (a0_2 : Int) (a0_3 : Int) (a0_4 : Int) (a0_5 : Int) (A0_6 : Option Addr) (c0_6 : Nat) (l0_6 : List (S80)) (A1 : Option Addr) (c1 : Nat) (l1 : List (S58)) (a2 : Int) (a3 : Int) (a4 : Int) (r : Int) (w : World) (hr0_1 : Kd.C k58 w A0_1 l0_1.length l0_1) (hc0_1 : l0_1.length ≤ c0_1) (hr0_6 : Kd.C k80 w A0_6 l0_6.length l0_6) (hc0_6 : l0_6.length ≤ c0_6) (hr1 : Kd.C k58 w A1 l1.length l1) (hc1 : l1.length ≤ c1) (h : payrollref30_tax.f k a0_0 l0_1 a0_2 a0_3 a0_4 a0_5 l0_6 l1 a2 a3 a4 = some r) :
  Calls Try.prog 51 #[.agg #[.int .i64 a0_0, .slice A0_1 l0_1.length c0_1, .int .i64 a0_2, .int .i64 a0_3, .int .i64 a0_4, .int .i64 a0_5, .slice A0_6 l0_6.length c0_6], .slice A1 l1.length c1, .int .i64 a2, .int .i64 a3, .int .i64 a4] w fun e w' => e = .returned (.int .i64 r) ∧ Below w.heap.size w w' := by
 have hu33 := Try.underlying33
 have HR0_1 := Aside0.mk hr0_1
 have HC0_1 := Aside0.mk hc0_1
 clear hr0_1 hc0_1
 have HR0_6 := Aside0.mk hr0_6
 have HC0_6 := Aside0.mk hc0_6
 clear hr0_6 hc0_6
 have HR1 := Aside0.mk hr1
 have HC1 := Aside0.mk hc1
 clear hr1 hc1
 have HB := Aside0.mk (Below.refl w.heap.size w)
 have H : ((payrollref29_Tax.f k l1 (mx (wrap64 (a4 - a2)) 0) a0_4 a0_5).bind fun bt434 => (some (mx (wrap64 (bt434.1 - a3)) 0))) = some r := h
 clear h
 obtain ⟨ji6, hji6⟩ : ∃ j_ : Int, (mx (wrap64 (a4 - a2)) 0) = j_ := ⟨_, rfl⟩
 replace H : ((payrollref29_Tax.f k l1 (ji6) a0_4 a0_5).bind fun bt434 => (some (mx (wrap64 (bt434.1 - a3)) 0))) = some r := by first | (rw [hji6] at H; exact H) | (simp only [hji6] at H ⊢; exact H)
 (try (have hji6l : 0 ≤ ji6 := by (rw [← hji6]; unfold mx; (repeat' split) <;> omega)))
 (try (have hji6m : 0 ≤ ji6 := by omega))
 have hji6_ : (if (wrap64 (a4 - a2)) < 0 then 0 else (wrap64 (a4 - a2))) = ji6 := hji6
 replace H := Option.bind_eq_some_iff.mp H
 obtain ⟨⟨t434, t435⟩, A70, H⟩ := H
 try dsimp only at H
 have A7 := Aside0.mk A70
 clear A70
 obtain ⟨ji8, hji8⟩ : ∃ j_ : Int, (mx (wrap64 (t434 - a3)) 0) = j_ := ⟨_, rfl⟩
 replace H : (some ji8) = some r := by first | (rw [hji8] at H; exact H) | (simp only [hji8] at H ⊢; exact H)
 (try rw [hji8] at A7)
 (try (have hji8l : 0 ≤ ji8 := by (rw [← hji8]; unfold mx; (repeat' split) <;> omega)))
 (try (have hji8m : 0 ≤ ji8 := by omega))
 have hji8_ : (if (wrap64 (t434 - a3)) < 0 then 0 else (wrap64 (t434 - a3))) = ji8 := hji8
 obtain rfl := Option.some.inj H
 exact (by go_enter Try.func51, Try.ntmps51; go_wp2_with (first | ((with_reducible refine gate_dst (N := 5) rfl ?_); refine box_event ?hg (N := 5) ?hd (cs := #[.int .i64 a0_0, .slice A0_1 l0_1.length c0_1, .int .i64 a0_2, .int .i64 a0_3, .int .i64 a0_4, .int .i64 a0_5, .slice A0_6 l0_6.length c0_6]) (t := 33) ?hr ?_; (case hd => rfl); (case hg => rfl); (case hr => first | (go_simp; done) | (go_simp; rfl)); intro gb433 hg w_1 hbox hb; have n0_ := Aside0.mk (below_step q0 hb); have n1_ := Aside0.mk (hbox); have n2_ := Aside0.mk ((by rw [hg]; exact (below_size q0) : w.heap.size ≤ gb433)); have n3_ := Aside0.mk ((by rw [hg]; exact (below_size q0) : w.heap.size ≤ gb433)); clear HB; have HB := n0_; have BK433 := n1_; have GW433 := n2_; have GE433 := n3_; clear n0_ n1_ n2_ n3_; clear hb hbox hg; obtain ⟨hcz_1, hcz_2, hcz_3, hcz_4, hcz_5, hcz_6, hcz_7, hfz_1, hfz_2, hfz_3, hfz_4, hfz_5, hfz_6, hfz_7⟩ := blk7 BK433.out) | ((with_reducible refine gate_callee (f := 62) rfl ?_); refine goesL_ (some 23) rfl rfl Try.func62 (by kernel_rfl) rfl #[.slice A1 l1.length c1, .int .i64 ji6, .int .i64 a0_4, .int .i64 a0_5] rfl (by (try simp only [List.map_toArray, List.map_cons, List.map_nil]); first | done | (simp only [hji6]; rfl) | rfl | (simp only [List.length_drop, List.length_take]; rfl)) ?_; (with_reducible refine (payrollref29_Tax.calls k _ _ l1 ji6 a0_4 a0_5 t434 t435 _ ?side1 ?side2 A7.out).mono ?_); (case side1 => exact q92); (case side2 => exact HC1.out); rintro e w_2 ⟨rfl, hb⟩; refine ⟨_, rfl, ?_⟩; have n0_ := Aside0.mk (blk_below BK433.out hb); have n1_ := Aside0.mk (below_step (by repeat (first | (with_reducible first | exact HB.out | apply below_alloc | apply pw_below_drewN | apply below_drew1 | refine below_set ?_ GE433.out) | exact HB.out)) hb); clear BK433; clear HB; have BK433 := n0_; have HB := n1_; clear n0_ n1_; (try clear hb); (try clear hb2); (try clear hk); (try clear hi))); go_ret; exact ⟨by first | rfl | (simp [errW_none, errW_some] <;> rfl) | (simp only [← hji6, ← hji8]; first | rfl | (simp [errW_none, errW_some] <;> rfl)) | (simp [*, errW_none, errW_some] <;> rfl), (by repeat (first | (with_reducible first | exact HB.out | apply below_alloc | apply pw_below_drewN | apply below_drew1 | refine below_set ?_ GE433.out) | exact HB.out))⟩)

end Go.Proofs.Ytbacfajhgmnjpaa.P
