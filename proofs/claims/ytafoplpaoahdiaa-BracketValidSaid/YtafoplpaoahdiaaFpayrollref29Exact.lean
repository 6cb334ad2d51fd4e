/- Proved here: that the Go function payrollref29_Exact computes the plain function of that name (the machine side of the laws, reworked from a print; no condition of its own). -/
import Derived.Test.YtafoplpaoahdiaaProg
import Derived.Test.YtafoplpaoahdiaaV1
import Derived.Test.YtafoplpaoahdiaaFPRE0
import Derived.Test.YtafoplpaoahdiaaFPRE1
import Derived.Test.YtafoplpaoahdiaaFpayrollref29Split
namespace Go.Proofs.Ytafoplpaoahdiaa.P
open Go.RowKit Go.Proofs.YtafoplpaoahdiaaW.PrintWords Go.Proofs.YtafoplpaoahdiaaW.PrintLast Go.Proofs.YtafoplpaoahdiaaW.PrintMore
attribute [local go_sem] max2_int min2_int max_two min_two max_three min_three max_four min_four   -- for this text's walks alone
set_option linter.unusedVariables false
set_option linter.unusedSimpArgs false

def payrollref29_Exact.l0 : Nat → List (S30) → List Int → Int → Int → Option (Int × Int)
 | 0, _, _, _, _ => none
 | k + 1, x0, x6, x8, x9 => if x9 < (x6.length : Int) then (if 0 ≤ x9 then (if x9 < (x0.length : Int) then (payrollref29_Exact.l0 k x0 x6 (wrap64 (x8 + (wrap64 ((rd x6 x9) * ((rd_T30 x0 x9).f1))))) (wrap64 (x9 + 1))) else (none)) else (none)) else (some (x8, 0))
def payrollref29_Exact.f (k : Nat) (l0 : List (S30)) (a1 : Int) : Option (Int × Int) := (payrollref29_Split.f k l0 a1).bind fun bt393 => (if bt393.2 = 0 then (payrollref29_Exact.l0 k l0 bt393.1 0 0) else (some (0, bt393.2)))
theorem payrollref29_Exact.mono_l : ∀ k, (∀ y0 y1 y2 y3, LeO (payrollref29_Exact.l0 k y0 y1 y2 y3) (payrollref29_Exact.l0 (k + 1) y0 y1 y2 y3))
 | 0 => fun _ _ _ _ r h => by simp [payrollref29_Exact.l0] at h
 | k + 1 => by
  have ih0 := payrollref29_Exact.mono_l k
  ·
   intro y0 y1 y2 y3
   unfold payrollref29_Exact.l0
   repeat' first
   | (with_reducible exact ih0 _ _ _ _)
   | (with_reducible exact payrollref29_Split.mono _ _ _)
   | (with_reducible exact LeO.refl _)
   | (with_reducible exact LeO.none _)
   | (with_reducible refine LeO.ite ?_ ?_)
   | (with_reducible refine LeO.bind ?_ (fun _ => ?_))
   | exact ih0 _ _ _ _
   | exact payrollref29_Split.mono _ _ _
   | exact LeO.none _
   | refine LeO.ite ?_ ?_
   | refine LeO.bind ?_ (fun _ => ?_)
theorem payrollref29_Exact.mono : ∀ a0 a1 k, LeO (payrollref29_Exact.f k a0 a1) (payrollref29_Exact.f (k + 1) a0 a1) := by
 intro a0 a1 k
 have ih0 := payrollref29_Exact.mono_l k
 unfold payrollref29_Exact.f
 repeat' first
   | (with_reducible exact ih0 _ _ _ _)
   | (with_reducible exact payrollref29_Split.mono _ _ _)
   | (with_reducible exact LeO.refl _)
   | (with_reducible exact LeO.none _)
   | (with_reducible refine LeO.ite ?_ ?_)
   | (with_reducible refine LeO.bind ?_ (fun _ => ?_))
   | exact ih0 _ _ _ _
   | exact payrollref29_Split.mono _ _ _
   | exact LeO.none _
   | refine LeO.ite ?_ ?_
   | refine LeO.bind ?_ (fun _ => ?_)
set_option maxHeartbeats 8000000 in
set_option maxRecDepth 100000 in
theorem payrollref29_Exact.calls (k : Nat) (A0 : Option Addr) (c0 : Nat) (l0 : List (S30)) (a1 : Int) (r1 : Int) (r2 : Int) (w : World) (hr0 : Kd.C k30 w A0 l0.length l0) (hc0 : l0.length ≤ c0) (h : payrollref29_Exact.f k l0 a1 = some (r1, r2)) :
  Calls Try.prog 26 #[.slice A0 l0.length c0, .int .i64 a1] w fun e w' => e = .returned (.tuple #[.int .i64 r1, .int .i64 r2]) ∧ Below w.heap.size w w' := by
 have HR0 := Aside0.mk hr0
 have HC0 := Aside0.mk hc0
 clear hr0 hc0
 have HB := Aside0.mk (Below.refl w.heap.size w)
 have H : ((payrollref29_Split.f k l0 a1).bind fun bt393 => (if bt393.2 = 0 then (payrollref29_Exact.l0 k l0 bt393.1 0 0) else (some (0, bt393.2)))) = some (r1, r2) := h
 clear h
 replace H := Option.bind_eq_some_iff.mp H
 obtain ⟨⟨t393, t394⟩, A30, H⟩ := H
 replace H : (if t394 = 0 then (payrollref29_Exact.l0 k l0 t393 0 0) else (some (0, t394))) = some (r1, r2) := H
 have A3 := Aside0.mk A30
 clear A30
 by_cases c4 : t394 = 0
 ·
  rw [if_pos c4] at H
  have c4b0 : (t394 == 0) = true := beq_iff_eq.mpr c4
  have c4b1 : (t394 != 0) = false := bne_eq_false_iff_eq.mpr c4
  clear c4
  have H' := Aside0.mk H
  clear H
  go_enter Try.func26, Try.ntmps26
  go_wp2_with (first | (go_at_call 33; (with_reducible refine (payrollref29_Split.calls k _ _ l0 a1 t393 t394 _ ?side1 ?side2 A3.out).mono ?_); (case side1 => repeat (first | exact HR0.out | (with_reducible refine Kd.C_alloc ?_ _) | (with_reducible refine Kd.C_drewN ?_ _) | (with_reducible refine Kd.C_drew ?_))); (case side2 => exact HC0.out); rintro e w5 ⟨v395, rfl, ho0, hb⟩; have n0_ := Aside0.mk (Kd.R_lower ho0 (below_size (by repeat (first | (with_reducible first | exact HB.out | apply below_alloc | apply pw_below_drewN | apply below_drew1) | exact HB.out)))); have n1_ := Aside0.mk (below_step (by repeat (first | (with_reducible first | exact HB.out | apply below_alloc | apply pw_below_drewN | apply below_drew1) | exact HB.out)) hb); clear HB; have HO396 := n0_; have HB := n1_; clear n0_ n1_; (try clear hb); (try clear hb2); (try clear hk); (try clear hi); (try clear ho0)))
  repeat (go_quiet (first | (go_at_call 33; (with_reducible refine (payrollref29_Split.calls k _ _ l0 a1 t393 t394 _ ?side1 ?side2 A3.out).mono ?_); (case side1 => repeat (first | exact HR0.out | (with_reducible refine Kd.C_alloc ?_ _) | (with_reducible refine Kd.C_drewN ?_ _) | (with_reducible refine Kd.C_drew ?_))); (case side2 => exact HC0.out); rintro e w5 ⟨v395, rfl, ho0, hb⟩; have n0_ := Aside0.mk (Kd.R_lower ho0 (below_size (by repeat (first | (with_reducible first | exact HB.out | apply below_alloc | apply pw_below_drewN | apply below_drew1) | exact HB.out)))); have n1_ := Aside0.mk (below_step (by repeat (first | (with_reducible first | exact HB.out | apply below_alloc | apply pw_below_drewN | apply below_drew1) | exact HB.out)) hb); clear HB; have HO396 := n0_; have HB := n1_; clear n0_ n1_; (try clear hb); (try clear hb2); (try clear hk); (try clear hi); (try clear ho0))); try go_wp2_with (first | (go_at_call 33; (with_reducible refine (payrollref29_Split.calls k _ _ l0 a1 t393 t394 _ ?side1 ?side2 A3.out).mono ?_); (case side1 => repeat (first | exact HR0.out | (with_reducible refine Kd.C_alloc ?_ _) | (with_reducible refine Kd.C_drewN ?_ _) | (with_reducible refine Kd.C_drew ?_))); (case side2 => exact HC0.out); rintro e w5 ⟨v395, rfl, ho0, hb⟩; have n0_ := Aside0.mk (Kd.R_lower ho0 (below_size (by repeat (first | (with_reducible first | exact HB.out | apply below_alloc | apply pw_below_drewN | apply below_drew1) | exact HB.out)))); have n1_ := Aside0.mk (below_step (by repeat (first | (with_reducible first | exact HB.out | apply below_alloc | apply pw_below_drewN | apply below_drew1) | exact HB.out)) hb); clear HB; have HO396 := n0_; have HB := n1_; clear n0_ n1_; (try clear hb); (try clear hb2); (try clear hk); (try clear hi); (try clear ho0))))
  go_loopg [8, 9] k (fun kq v8 v9 w' => ∃ (x8_1 : Int) (x9_1 : Int), v8 = .int .i64 x8_1 ∧ v9 = .int .i64 x9_1 ∧ Aside0 (payrollref29_Exact.l0 kq l0 t393 x8_1 x9_1 = some (r1, r2)) ∧ Aside0 (kq ≤ k) ∧ Aside0 (Kd.R (Kd.int .i64) 3 w' w.heap.size (fun _ => True) v395 t393) ∧ Aside0 (Below w.heap.size w w'))
  case atStart => exact ⟨(0), (0), (by first | rfl | (simp; done) | (simp [*]; done)), (by first | rfl | (simp; done) | (simp [*]; done)), H', ⟨Nat.le_refl _⟩, ⟨by (with_reducible repeat (first | apply Kd.R_alloc | apply Kd.R_drewN | apply Kd.R_drew)); exact HO396.out⟩, ⟨by repeat (first | (with_reducible first | exact HB.out | apply below_alloc | apply pw_below_drewN | apply below_drew1) | exact HB.out)⟩⟩
  case round =>
   clear H'
   try clear c2
   try clear p2
   try clear c4
   try clear c4b0
   try clear c4b1
   obtain ⟨x8_1, x9_1, rfl, rfl, HA, HK1, HO_6, HB⟩ := hrel
   cases gk with
   | zero => exact absurd HA.out (by simp [payrollref29_Exact.l0])
   | succ k1 =>
    have H := HA.out
    clear HA
    simp only [payrollref29_Exact.l0] at H
    by_cases c6 : x9_1 < (t393.length : Int)
    ·
     rw [if_pos c6] at H
     have c6b0 : decide (x9_1 < (t393.length : Int)) = true := decide_eq_true c6
     clear c6
     by_cases c7 : 0 ≤ x9_1
     ·
      rw [if_pos c7] at H
      have c7b0 : decide (0 ≤ x9_1) = true := decide_eq_true c7
      clear c7
      by_cases c8 : x9_1 < (l0.length : Int)
      ·
       rw [if_pos c8] at H
       have c8b0 : decide (x9_1 < (l0.length : Int)) = true := decide_eq_true c8
       clear c8
       have H' := Aside0.mk H
       clear H
       obtain ⟨Ao9, co9, eo9⟩ := Kd.R_slice HO_6.out
       subst eo9
       have p397 : 0 ≤ (x9_1 : Int) := of_decide_eq_true (by first | (with_reducible assumption) | assumption)
       have q397 : x9_1 < (t393.length : Int) := of_decide_eq_true (by first | (with_reducible assumption) | assumption)
       obtain ⟨ad397, e397, hx397_0⟩ := Kd.at_int (Kd.R_reads' HO_6.out).2.2 x9_1 p397 q397
       cases e397
       replace p397 := eq_true p397
       replace q397 := eq_true q397
       have p398 : 0 ≤ (x9_1 : Int) := of_decide_eq_true (by first | (with_reducible assumption) | assumption)
       have q398 : x9_1 < (l0.length : Int) := of_decide_eq_true (by first | (with_reducible assumption) | assumption)
       obtain ⟨ad398, e398, hx398_0, hx398_1⟩ := at_T30 HR0.out x9_1 p398 q398
       cases e398
       replace hx398_0 := (HB.out.cell (World.block_lt_of_cell? w _ hx398_0)).trans hx398_0
       replace hx398_1 := (HB.out.cell (World.block_lt_of_cell? w _ hx398_1)).trans hx398_1
       replace p398 := eq_true p398
       replace q398 := eq_true q398
       go_wp2
       repeat (go_quiet (fail); try go_wp2)
       go_roundg k1
       case measure => have := HK1.out; omega
       case rel => exact ⟨(wrap64 (x8_1 + (wrap64 ((rd t393 x9_1) * ((rd_T30 l0 x9_1).f1))))), (wrap64 (x9_1 + 1)), (by first | rfl | (simp; done) | (simp [*]; done)), (by first | rfl | (simp; done) | (simp [*]; done)), H', ⟨by have := HK1.out; omega⟩, ⟨by (with_reducible repeat (first | apply Kd.R_alloc | apply Kd.R_drewN | apply Kd.R_drew)); exact HO_6.out⟩, ⟨by repeat (first | (with_reducible first | exact HB.out | apply below_alloc | apply pw_below_drewN | apply below_drew1) | exact HB.out)⟩⟩
      ·
       rw [if_neg c8] at H
       exact absurd H (by simp)
     ·
      rw [if_neg c7] at H
      exact absurd H (by simp)
    ·
     rw [if_neg c6] at H
     have c6b0 : decide (x9_1 < (t393.length : Int)) = false := decide_eq_false c6
     clear c6
     simp only [Option.some.injEq, Prod.mk.injEq] at H
     obtain ⟨rfl, rfl⟩ := H
     obtain ⟨Ao10, co10, eo10⟩ := Kd.R_slice HO_6.out
     subst eo10
     go_wp2
     repeat (go_quiet (fail); try go_wp2)
     go_ret2
     exact ⟨by first | rfl | (simp [errW_none, errW_some] <;> rfl) | (simp [*, errW_none, errW_some] <;> rfl), by repeat (first | (with_reducible first | exact HB.out | apply below_alloc | apply pw_below_drewN | apply below_drew1) | exact HB.out)⟩
 ·
  rw [if_neg c4] at H
  have c4b0 : (t394 == 0) = false := beq_eq_false_iff_ne.mpr c4
  have c4b1 : (t394 != 0) = true := bne_iff_ne.mpr c4
  simp only [Option.some.injEq, Prod.mk.injEq] at H
  obtain ⟨rfl, rfl⟩ := H
  go_enter Try.func26, Try.ntmps26
  go_wp2_with (first | (go_at_call 33; (with_reducible refine (payrollref29_Split.calls k _ _ l0 a1 t393 t394 _ ?side1 ?side2 A3.out).mono ?_); (case side1 => repeat (first | exact HR0.out | (with_reducible refine Kd.C_alloc ?_ _) | (with_reducible refine Kd.C_drewN ?_ _) | (with_reducible refine Kd.C_drew ?_))); (case side2 => exact HC0.out); rintro e w11 ⟨v395, rfl, ho0, hb⟩; have n0_ := Aside0.mk (Kd.R_lower ho0 (below_size (by repeat (first | (with_reducible first | exact HB.out | apply below_alloc | apply pw_below_drewN | apply below_drew1) | exact HB.out)))); have n1_ := Aside0.mk (below_step (by repeat (first | (with_reducible first | exact HB.out | apply below_alloc | apply pw_below_drewN | apply below_drew1) | exact HB.out)) hb); clear HB; have HO396 := n0_; have HB := n1_; clear n0_ n1_; (try clear hb); (try clear hb2); (try clear hk); (try clear hi); (try clear ho0)))
  repeat (go_quiet (first | (go_at_call 33; (with_reducible refine (payrollref29_Split.calls k _ _ l0 a1 t393 t394 _ ?side1 ?side2 A3.out).mono ?_); (case side1 => repeat (first | exact HR0.out | (with_reducible refine Kd.C_alloc ?_ _) | (with_reducible refine Kd.C_drewN ?_ _) | (with_reducible refine Kd.C_drew ?_))); (case side2 => exact HC0.out); rintro e w11 ⟨v395, rfl, ho0, hb⟩; have n0_ := Aside0.mk (Kd.R_lower ho0 (below_size (by repeat (first | (with_reducible first | exact HB.out | apply below_alloc | apply pw_below_drewN | apply below_drew1) | exact HB.out)))); have n1_ := Aside0.mk (below_step (by repeat (first | (with_reducible first | exact HB.out | apply below_alloc | apply pw_below_drewN | apply below_drew1) | exact HB.out)) hb); clear HB; have HO396 := n0_; have HB := n1_; clear n0_ n1_; (try clear hb); (try clear hb2); (try clear hk); (try clear hi); (try clear ho0))); try go_wp2_with (first | (go_at_call 33; (with_reducible refine (payrollref29_Split.calls k _ _ l0 a1 t393 t394 _ ?side1 ?side2 A3.out).mono ?_); (case side1 => repeat (first | exact HR0.out | (with_reducible refine Kd.C_alloc ?_ _) | (with_reducible refine Kd.C_drewN ?_ _) | (with_reducible refine Kd.C_drew ?_))); (case side2 => exact HC0.out); rintro e w11 ⟨v395, rfl, ho0, hb⟩; have n0_ := Aside0.mk (Kd.R_lower ho0 (below_size (by repeat (first | (with_reducible first | exact HB.out | apply below_alloc | apply pw_below_drewN | apply below_drew1) | exact HB.out)))); have n1_ := Aside0.mk (below_step (by repeat (first | (with_reducible first | exact HB.out | apply below_alloc | apply pw_below_drewN | apply below_drew1) | exact HB.out)) hb); clear HB; have HO396 := n0_; have HB := n1_; clear n0_ n1_; (try clear hb); (try clear hb2); (try clear hk); (try clear hi); (try clear ho0))))
  go_ret2
  exact ⟨by first | rfl | (simp [errW_none, errW_some] <;> rfl) | (simp [*, errW_none, errW_some] <;> rfl), by repeat (first | (with_reducible first | exact HB.out | apply below_alloc | apply pw_below_drewN | apply below_drew1) | exact HB.out)⟩

end Go.Proofs.Ytafoplpaoahdiaa.P
