/- Proved here: that the Go function paygen_ShortElements computes the plain function of that name (the machine side of the laws, reworked from a print; no condition of its own). -/
import Derived.Test.YtbacfajhgmnjpaaProg
import Derived.Test.YtbacfajhgmnjpaaV1
import Derived.Test.YtbacfajhgmnjpaaV2
import Derived.Test.YtbacfajhgmnjpaaFPRE
namespace Go.Proofs.Ytbacfajhgmnjpaa.P
open Go.RowKit Go.Proofs.YtbacfajhgmnjpaaW.PrintWords Go.Proofs.YtbacfajhgmnjpaaW.PrintLast Go.Proofs.YtbacfajhgmnjpaaW.PrintMore
attribute [local go_sem] max2_int min2_int max_two min_two max_three min_three max_four min_four   -- for this text's walks alone
set_option linter.unusedVariables false
set_option linter.unusedSimpArgs false

def paygen_ShortElements.l0 : Nat → List (S61) → Int → Option (Bool)
 | 0, _, _ => none
 | k + 1, x0, x3 => if x3 < (x0.length : Int) then (if 0 ≤ x3 then (if (((rd_T61 x0 x3).f0).size : Int) > 60 then (some false) else (paygen_ShortElements.l0 k x0 (wrap64 (x3 + 1)))) else (none)) else (some true)
def paygen_ShortElements.f (k : Nat) (l0 : List (S61)) : Option (Bool) := if (l0.length : Int) > 140 then (some false) else (paygen_ShortElements.l0 k l0 0)
set_option maxHeartbeats 8000000 in
set_option maxRecDepth 100000 in
theorem paygen_ShortElements.calls (k : Nat) (A0 : Option Addr) (c0 : Nat) (l0 : List (S61)) (r : Bool) (w : World) (hr0 : Kd.C k61 w A0 l0.length l0) (hc0 : l0.length ≤ c0) (h : paygen_ShortElements.f k l0 = some r) :
  Calls Try.prog 11 #[.slice A0 l0.length c0] w fun e w' => e = .returned (.bool r) ∧ Drawn0 w w' := by
 have HR0 := Aside0.mk hr0
 have HC0 := Aside0.mk hc0
 clear hr0 hc0
 have H : (if (l0.length : Int) > 140 then (some false) else (paygen_ShortElements.l0 k l0 0)) = some r := h
 clear h
 by_cases c2 : (l0.length : Int) > 140
 ·
  rw [if_pos c2] at H
  have c2b0 : decide (140 < (l0.length : Int)) = true := decide_eq_true c2
  have c2b1 : decide (140 < l0.length) = true := decide_eq_true (by omega)
  clear c2
  obtain rfl := Option.some.inj H
  exact (by go_enter Try.func11, Try.ntmps11; go_wp2; go_ret; exact ⟨by first | rfl | (simp; done) | (simp [*]; done), q49⟩)
 ·
  rw [if_neg c2] at H
  have c2b0 : decide (140 < (l0.length : Int)) = false := decide_eq_false c2
  have c2b1 : decide (140 < l0.length) = false := decide_eq_false (by omega)
  clear c2
  have H' := Aside0.mk H
  clear H
  go_enter Try.func11, Try.ntmps11
  go_wp2
  go_loopg [3] k (fun kq v3 w' => ∃ (x3_1 : Int), v3 = .int .i64 x3_1 ∧ Aside0 (paygen_ShortElements.l0 kq l0 x3_1 = some r) ∧ Aside0 (kq ≤ k) ∧ Drawn0 w w')
  case atStart => exact ⟨(0), q26, H', ⟨Nat.le_refl _⟩, q49⟩
  case round =>
   clear H'
   try clear c1
   try clear c2
   try clear c2b0
   try clear c2b1
   try clear p2
   obtain ⟨x3_1, rfl, HA, HK1, ⟨m1, rfl⟩⟩ := hrel
   cases gk with
   | zero => exact absurd HA.out (by simp [paygen_ShortElements.l0])
   | succ k1 =>
    have H := HA.out
    clear HA
    simp only [paygen_ShortElements.l0] at H
    by_cases c3 : x3_1 < (l0.length : Int)
    ·
     rw [if_pos c3] at H
     have c3b0 : decide (x3_1 < (l0.length : Int)) = true := decide_eq_true c3
     clear c3
     by_cases c4 : 0 ≤ x3_1
     ·
      rw [if_pos c4] at H
      have c4b0 : decide (0 ≤ x3_1) = true := decide_eq_true c4
      clear c4
      by_cases c5 : (((rd_T61 l0 x3_1).f0).size : Int) > 60
      ·
       rw [if_pos c5] at H
       have c5b0 : decide (60 < (((rd_T61 l0 x3_1).f0).size : Int)) = true := decide_eq_true c5
       have c5b1 : decide (60 < ((rd_T61 l0 x3_1).f0).size) = true := decide_eq_true (by omega)
       clear c5
       obtain rfl := Option.some.inj H
       have p101 : 0 ≤ (x3_1 : Int) := of_decide_eq_true q6
       have q101 : x3_1 < (l0.length : Int) := of_decide_eq_true q6
       obtain ⟨ad101, e101, hx101_0, hx101_1⟩ := at_T61 HR0.out x3_1 p101 q101
       cases e101
       replace p101 := eq_true p101
       replace q101 := eq_true q101
       go_wp2
       go_ret
       exact ⟨by first | rfl | (simp; done) | (simp [*]; done), q49⟩
      ·
       rw [if_neg c5] at H
       have c5b0 : decide (60 < (((rd_T61 l0 x3_1).f0).size : Int)) = false := decide_eq_false c5
       have c5b1 : decide (60 < ((rd_T61 l0 x3_1).f0).size) = false := decide_eq_false (by omega)
       clear c5
       have H' := Aside0.mk H
       clear H
       have p101 : 0 ≤ (x3_1 : Int) := of_decide_eq_true q6
       have q101 : x3_1 < (l0.length : Int) := of_decide_eq_true q6
       obtain ⟨ad101, e101, hx101_0, hx101_1⟩ := at_T61 HR0.out x3_1 p101 q101
       cases e101
       replace p101 := eq_true p101
       replace q101 := eq_true q101
       go_wp2
       go_roundg k1
       case measure => have := HK1.out; omega
       case rel => exact ⟨(wrap64 (x3_1 + 1)), q26, H', ⟨by have := HK1.out; omega⟩, q49⟩
     ·
      rw [if_neg c4] at H
      exact absurd H (by simp)
    ·
     rw [if_neg c3] at H
     have c3b0 : decide (x3_1 < (l0.length : Int)) = false := decide_eq_false c3
     clear c3
     obtain rfl := Option.some.inj H
     go_wp2
     go_ret
     exact ⟨by first | rfl | (simp; done) | (simp [*]; done), q49⟩

end Go.Proofs.Ytbacfajhgmnjpaa.P
