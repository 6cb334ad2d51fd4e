/- Proved here: that the Go function payrollref30_Cumulative computes the plain function of that name (the machine side of the laws, reworked from a print; no condition of its own). -/
import Derived.Test.YtbacfajhgmnjpaaProg
import Derived.Test.YtbacfajhgmnjpaaV1
import Derived.Test.YtbacfajhgmnjpaaV2
import Derived.Test.YtbacfajhgmnjpaaFPRE
import Derived.Test.YtbacfajhgmnjpaaFpayrollref30Due
namespace Go.Proofs.Ytbacfajhgmnjpaa.P
open Go.RowKit Go.Proofs.YtbacfajhgmnjpaaW.PrintWords Go.Proofs.YtbacfajhgmnjpaaW.PrintLast Go.Proofs.YtbacfajhgmnjpaaW.PrintMore
attribute [local go_sem] max2_int min2_int max_two min_two max_three min_three max_four min_four   -- for this text's walks alone
set_option linter.unusedVariables false
set_option linter.unusedSimpArgs false

def payrollref30_Cumulative.f (k : Nat) (a0_0 : Int) (l0_1 : List (S58)) (a0_2 : Int) (a0_3 : Int) (a0_4 : Int) (a0_5 : Int) (l0_6 : List (S80)) (a1 : Int) (a2 : Int) (a3 : Int) (a4 : Int) : Option (Int × Int) := (payrollref30_Due.f k a0_0 l0_1 a0_2 a0_3 a0_4 a0_5 l0_6 a1 a2 a3).bind fun bt460 => (if bt460.2 = 0 then (if a4 < (-1000000000000) then (some (0, 2)) else (if a4 > 1000000000000 then (some (0, 2)) else (some (wrap64 (bt460.1 - a4), 0)))) else (some (0, bt460.2)))
set_option maxHeartbeats 8000000 in
set_option maxRecDepth 100000 in
theorem payrollref30_Cumulative.calls (k : Nat) (a0_0 : Int) (A0_1 : Option Addr) (c0_1 : Nat) (l0_1 : List (S58)) (a0_2 : Int) (a0_3 : Int) (a0_4 : Int) (a0_5 : Int) (A0_6 : Option Addr) (c0_6 : Nat) (l0_6 : List (S80)) (a1 : Int) (a2 : Int) (a3 : Int) (a4 : Int) (r1 : Int) (r2 : Int) (w : World) (hr0_1 : Kd.C k58 w A0_1 l0_1.length l0_1) (hc0_1 : l0_1.length ≤ c0_1) (hr0_6 : Kd.C k80 w A0_6 l0_6.length l0_6) (hc0_6 : l0_6.length ≤ c0_6) (h : payrollref30_Cumulative.f k a0_0 l0_1 a0_2 a0_3 a0_4 a0_5 l0_6 a1 a2 a3 a4 = some (r1, r2)) :
  Calls Try.prog 29 #[.agg #[.int .i64 a0_0, .slice A0_1 l0_1.length c0_1, .int .i64 a0_2, .int .i64 a0_3, .int .i64 a0_4, .int .i64 a0_5, .slice A0_6 l0_6.length c0_6], .int .i64 a1, .int .i64 a2, .int .i64 a3, .int .i64 a4] w fun e w' => e = .returned (.tuple #[.int .i64 r1, .int .i64 r2]) ∧ Below w.heap.size w w' := by
 have hu33 := Try.underlying33
 have HR0_1 := Aside0.mk hr0_1
 have HC0_1 := Aside0.mk hc0_1
 clear hr0_1 hc0_1
 have HR0_6 := Aside0.mk hr0_6
 have HC0_6 := Aside0.mk hc0_6
 clear hr0_6 hc0_6
 have HB := Aside0.mk (Below.refl w.heap.size w)
 have H : ((payrollref30_Due.f k a0_0 l0_1 a0_2 a0_3 a0_4 a0_5 l0_6 a1 a2 a3).bind fun bt460 => (if bt460.2 = 0 then (if a4 < (-1000000000000) then (some (0, 2)) else (if a4 > 1000000000000 then (some (0, 2)) else (some (wrap64 (bt460.1 - a4), 0)))) else (some (0, bt460.2)))) = some (r1, r2) := h
 clear h
 replace H := Option.bind_eq_some_iff.mp H
 obtain ⟨⟨t460, t461⟩, A60, H⟩ := H
 try dsimp only at H
 have A6 := Aside0.mk A60
 clear A60
 by_cases c7 : t461 = 0
 ·
  rw [if_pos c7] at H
  have c7b0 : (t461 == 0) = true := beq_iff_eq.mpr c7
  have c7b1 : (t461 != 0) = false := bne_eq_false_iff_eq.mpr c7
  clear c7
  by_cases c8 : a4 < (-1000000000000)
  ·
   rw [if_pos c8] at H
   have c8b0 : decide (a4 < (-1000000000000)) = true := decide_eq_true c8
   clear c8
   simp only [Option.some.injEq, Prod.mk.injEq] at H
   obtain ⟨rfl, rfl⟩ := H
   exact q8
  ·
   rw [if_neg c8] at H
   have c8b0 : decide (a4 < (-1000000000000)) = false := decide_eq_false c8
   clear c8
   by_cases c12 : a4 > 1000000000000
   ·
    rw [if_pos c12] at H
    have c12b0 : decide (1000000000000 < a4) = true := decide_eq_true c12
    clear c12
    simp only [Option.some.injEq, Prod.mk.injEq] at H
    obtain ⟨rfl, rfl⟩ := H
    exact q8
   ·
    rw [if_neg c12] at H
    have c12b0 : decide (1000000000000 < a4) = false := decide_eq_false c12
    clear c12
    simp only [Option.some.injEq, Prod.mk.injEq] at H
    obtain ⟨rfl, rfl⟩ := H
    exact q8
 ·
  rw [if_neg c7] at H
  have c7b0 : (t461 == 0) = false := beq_eq_false_iff_ne.mpr c7
  have c7b1 : (t461 != 0) = true := bne_iff_ne.mpr c7
  simp only [Option.some.injEq, Prod.mk.injEq] at H
  obtain ⟨rfl, rfl⟩ := H
  exact q8

end Go.Proofs.Ytbacfajhgmnjpaa.P
