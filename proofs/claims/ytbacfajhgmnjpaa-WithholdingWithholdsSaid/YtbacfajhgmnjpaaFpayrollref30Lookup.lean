/- Proved here: that the Go function payrollref30_Lookup computes the plain function of that name (the machine side of the laws, reworked from a print; no condition of its own). -/
import Derived.Test.YtbacfajhgmnjpaaProg
import Derived.Test.YtbacfajhgmnjpaaV1
import Derived.Test.YtbacfajhgmnjpaaV2
import Derived.Test.YtbacfajhgmnjpaaFPRE
import Derived.Test.YtbacfajhgmnjpaaFref
import Derived.Test.YtbacfajhgmnjpaaFpayrollref30Table
namespace Go.Proofs.Ytbacfajhgmnjpaa.P
open Go.RowKit Go.Proofs.YtbacfajhgmnjpaaW.PrintWords Go.Proofs.YtbacfajhgmnjpaaW.PrintLast Go.Proofs.YtbacfajhgmnjpaaW.PrintMore
attribute [local go_sem] max2_int min2_int max_two min_two max_three min_three max_four min_four   -- for this text's walks alone
set_option linter.unusedVariables false
set_option linter.unusedSimpArgs false

def payrollref30_Lookup.l0 : Nat → List (S80) → Int → Int → Int → Option (Int × Int)
 | 0, _, _, _, _ => none
 | k + 1, x0, x1, x6, x7 => if x7 < (x0.length : Int) then (if 0 ≤ x7 then (if ((rd_T80 x0 x7).f0) ≤ x1 then (payrollref30_Lookup.l0 k x0 x1 ((rd_T80 x0 x7).f1) (wrap64 (x7 + 1))) else (payrollref30_Lookup.l0 k x0 x1 x6 (wrap64 (x7 + 1)))) else (none)) else (some (x6, 0))
def payrollref30_Lookup.f (k : Nat) (l0 : List (S80)) (a1 : Int) : Option (Int × Int) := (payrollref30_Table.f k l0).bind fun t462 => (if t462 = true then ((payrollref30_in.f a1 1000000000).bind fun t463 => (if t463 = true then (payrollref30_Lookup.l0 k l0 a1 0 0) else (some (0, 2)))) else (some (0, 1)))
set_option maxHeartbeats 8000000 in
set_option maxRecDepth 100000 in
theorem payrollref30_Lookup.calls (k : Nat) (A0 : Option Addr) (c0 : Nat) (l0 : List (S80)) (a1 : Int) (r1 : Int) (r2 : Int) (w : World) (hr0 : Kd.C k80 w A0 l0.length l0) (hc0 : l0.length ≤ c0) (h : payrollref30_Lookup.f k l0 a1 = some (r1, r2)) :
  Calls Try.prog 48 #[.slice A0 l0.length c0, .int .i64 a1] w fun e w' => e = .returned (.tuple #[.int .i64 r1, .int .i64 r2]) ∧ Below w.heap.size w w' := by
 have HR0 := Aside0.mk hr0
 have HC0 := Aside0.mk hc0
 clear hr0 hc0
 have HB := Aside0.mk (Below.refl w.heap.size w)
 have H : ((payrollref30_Table.f k l0).bind fun t462 => (if t462 = true then ((payrollref30_in.f a1 1000000000).bind fun t463 => (if t463 = true then (payrollref30_Lookup.l0 k l0 a1 0 0) else (some (0, 2)))) else (some (0, 1)))) = some (r1, r2) := h
 clear h
 replace H := Option.bind_eq_some_iff.mp H
 obtain ⟨t462, A30, H⟩ := H
 try dsimp only at H
 have A3 := Aside0.mk A30
 clear A30
 by_cases c4 : t462 = true
 ·
  subst c4
  rw [if_pos rfl] at H
  replace H := Option.bind_eq_some_iff.mp H
  obtain ⟨t463, A50, H⟩ := H
  try dsimp only at H
  have A5 := Aside0.mk A50
  clear A50
  by_cases c6 : t463 = true
  ·
   subst c6
   rw [if_pos rfl] at H
   have H' := Aside0.mk H
   clear H
   go_enter Try.func48, Try.ntmps48
   go_wp2_with (first | ((with_reducible refine gate_callee (f := 60) rfl ?_); refine goesL_ (some 9) rfl rfl Try.func60 (by kernel_rfl) rfl #[.slice A0 l0.length c0] rfl q1 ?_; (with_reducible refine (payrollref30_Table.calls k _ _ l0 true _ ?side1 ?side2 A3.out).mono ?_); (case side1 => exact q33); (case side2 => exact HC0.out); rintro e w7 ⟨rfl, hb⟩; refine ⟨_, rfl, ?_⟩; have n0_ := Aside0.mk (below_step q0 hb); clear HB; have HB := n0_; clear n0_; (try clear hb); (try clear hb2); (try clear hk); (try clear hi)) | ((with_reducible refine gate_callee (f := 47) rfl ?_); refine goesL_ (some 12) rfl rfl Try.func47 (by kernel_rfl) rfl #[.int .i64 a1, .int .i64 1000000000] rfl q1 ?_; (with_reducible refine (payrollref30_in.calls a1 1000000000 true _ A5.out).mono ?_); rintro e w' ⟨rfl, ⟨nd, rfl⟩⟩; refine ⟨_, rfl, ?_⟩))
   go_loopg [6, 7] k (fun kq v6 v7 w' => ∃ (x6_1 : Int) (x7_1 : Int), v6 = .int .i64 x6_1 ∧ v7 = .int .i64 x7_1 ∧ Aside0 (payrollref30_Lookup.l0 kq l0 a1 x6_1 x7_1 = some (r1, r2)) ∧ Aside0 (kq ≤ k) ∧ Aside0 (Below w.heap.size w w'))
   case atStart => exact ⟨(0), (0), q26, q26, H', ⟨Nat.le_refl _⟩, ⟨q0⟩⟩
   case round =>
    clear H'
    try clear p2
    try clear c4
    try clear c6
    obtain ⟨x6_1, x7_1, rfl, rfl, HA, HK1, HB⟩ := hrel
    cases gk with
    | zero => exact absurd HA.out (by simp [payrollref30_Lookup.l0])
    | succ k1 =>
     have H := HA.out
     clear HA
     simp only [payrollref30_Lookup.l0] at H
     by_cases c8 : x7_1 < (l0.length : Int)
     ·
      rw [if_pos c8] at H
      have c8b0 : decide (x7_1 < (l0.length : Int)) = true := decide_eq_true c8
      clear c8
      by_cases c9 : 0 ≤ x7_1
      ·
       rw [if_pos c9] at H
       have c9b0 : decide (0 ≤ x7_1) = true := decide_eq_true c9
       clear c9
       by_cases c10 : ((rd_T80 l0 x7_1).f0) ≤ a1
       ·
        rw [if_pos c10] at H
        have c10b0 : decide (((rd_T80 l0 x7_1).f0) ≤ a1) = true := decide_eq_true c10
        clear c10
        have H' := Aside0.mk H
        clear H
        have p464 : 0 ≤ (x7_1 : Int) := of_decide_eq_true q6
        have q464 : x7_1 < (l0.length : Int) := of_decide_eq_true q6
        obtain ⟨ad464, e464, hx464_0, hx464_1⟩ := at_T80 HR0.out x7_1 p464 q464
        cases e464
        replace hx464_0 := (HB.out.cell (World.block_lt_of_cell? w _ hx464_0)).trans hx464_0
        replace hx464_1 := (HB.out.cell (World.block_lt_of_cell? w _ hx464_1)).trans hx464_1
        replace p464 := eq_true p464
        replace q464 := eq_true q464
        have p465 : 0 ≤ (x7_1 : Int) := of_decide_eq_true q6
        have q465 : x7_1 < (l0.length : Int) := of_decide_eq_true q6
        obtain ⟨ad465, e465, hx465_0, hx465_1⟩ := at_T80 HR0.out x7_1 p465 q465
        obtain rfl : ad464 = ad465 := (by injection e465)
        replace hx465_0 := (HB.out.cell (World.block_lt_of_cell? w _ hx465_0)).trans hx465_0
        replace hx465_1 := (HB.out.cell (World.block_lt_of_cell? w _ hx465_1)).trans hx465_1
        replace p465 := eq_true p465
        replace q465 := eq_true q465
        go_wp2
        go_roundg k1
        case measure => have := HK1.out; omega
        case rel => exact ⟨((rd_T80 l0 x7_1).f1), (wrap64 (x7_1 + 1)), q26, q26, H', ⟨by have := HK1.out; omega⟩, ⟨q0⟩⟩
       ·
        rw [if_neg c10] at H
        have c10b0 : decide (((rd_T80 l0 x7_1).f0) ≤ a1) = false := decide_eq_false c10
        clear c10
        have H' := Aside0.mk H
        clear H
        have p464 : 0 ≤ (x7_1 : Int) := of_decide_eq_true q6
        have q464 : x7_1 < (l0.length : Int) := of_decide_eq_true q6
        obtain ⟨ad464, e464, hx464_0, hx464_1⟩ := at_T80 HR0.out x7_1 p464 q464
        cases e464
        replace hx464_0 := (HB.out.cell (World.block_lt_of_cell? w _ hx464_0)).trans hx464_0
        replace hx464_1 := (HB.out.cell (World.block_lt_of_cell? w _ hx464_1)).trans hx464_1
        replace p464 := eq_true p464
        replace q464 := eq_true q464
        go_wp2
        go_roundg k1
        case measure => have := HK1.out; omega
        case rel => exact ⟨(x6_1), (wrap64 (x7_1 + 1)), q26, q26, H', ⟨by have := HK1.out; omega⟩, ⟨q0⟩⟩
      ·
       rw [if_neg c9] at H
       exact absurd H (by simp)
     ·
      rw [if_neg c8] at H
      have c8b0 : decide (x7_1 < (l0.length : Int)) = false := decide_eq_false c8
      clear c8
      simp only [Option.some.injEq, Prod.mk.injEq] at H
      obtain ⟨rfl, rfl⟩ := H
      go_wp2
      go_ret2
      exact ⟨by first | rfl | (simp [errW_none, errW_some] <;> rfl) | (simp [*, errW_none, errW_some] <;> rfl), q0⟩
  ·
   replace c6 := Bool.eq_false_iff.mpr c6
   subst c6
   rw [if_neg (show ¬ (false = true) by decide)] at H
   simp only [Option.some.injEq, Prod.mk.injEq] at H
   obtain ⟨rfl, rfl⟩ := H
   exact (by go_enter Try.func48, Try.ntmps48; go_wp2_with (first | ((with_reducible refine gate_callee (f := 60) rfl ?_); refine goesL_ (some 9) rfl rfl Try.func60 (by kernel_rfl) rfl #[.slice A0 l0.length c0] rfl q1 ?_; (with_reducible refine (payrollref30_Table.calls k _ _ l0 true _ ?side1 ?side2 A3.out).mono ?_); (case side1 => exact q33); (case side2 => exact HC0.out); rintro e w_1 ⟨rfl, hb⟩; refine ⟨_, rfl, ?_⟩; have n0_ := Aside0.mk (below_step q0 hb); clear HB; have HB := n0_; clear n0_; (try clear hb); (try clear hb2); (try clear hk); (try clear hi)) | ((with_reducible refine gate_callee (f := 47) rfl ?_); refine goesL_ (some 12) rfl rfl Try.func47 (by kernel_rfl) rfl #[.int .i64 a1, .int .i64 1000000000] rfl q1 ?_; (with_reducible refine (payrollref30_in.calls a1 1000000000 false _ A5.out).mono ?_); rintro e w' ⟨rfl, ⟨nd, rfl⟩⟩; refine ⟨_, rfl, ?_⟩)); go_ret2; exact ⟨by first | rfl | (simp [errW_none, errW_some] <;> rfl) | (simp [*, errW_none, errW_some] <;> rfl), q0⟩)
 ·
  replace c4 := Bool.eq_false_iff.mpr c4
  subst c4
  rw [if_neg (show ¬ (false = true) by decide)] at H
  simp only [Option.some.injEq, Prod.mk.injEq] at H
  obtain ⟨rfl, rfl⟩ := H
  exact (by go_enter Try.func48, Try.ntmps48; go_wp2_with (first | ((with_reducible refine gate_callee (f := 60) rfl ?_); refine goesL_ (some 9) rfl rfl Try.func60 (by kernel_rfl) rfl #[.slice A0 l0.length c0] rfl q1 ?_; (with_reducible refine (payrollref30_Table.calls k _ _ l0 false _ ?side1 ?side2 A3.out).mono ?_); (case side1 => exact q33); (case side2 => exact HC0.out); rintro e w_1 ⟨rfl, hb⟩; refine ⟨_, rfl, ?_⟩; have n0_ := Aside0.mk (below_step q0 hb); clear HB; have HB := n0_; clear n0_; (try clear hb); (try clear hb2); (try clear hk); (try clear hi))); go_ret2; exact ⟨by first | rfl | (simp [errW_none, errW_some] <;> rfl) | (simp [*, errW_none, errW_some] <;> rfl), q0⟩)

end Go.Proofs.Ytbacfajhgmnjpaa.P
