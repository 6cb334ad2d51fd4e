/- Proved here: that the Go function payrollref29_Scale computes the plain function of that name (the machine side of the laws, reworked from a print; no condition of its own). -/
import Derived.Test.YtafoplpaoahdiaaProg
import Derived.Test.YtafoplpaoahdiaaV1
import Derived.Test.YtafoplpaoahdiaaFPRE0
import Derived.Test.YtafoplpaoahdiaaFPRE1
import Derived.Test.YtafoplpaoahdiaaFpayrollref29Valid
namespace Go.Proofs.Ytafoplpaoahdiaa.P
open Go.RowKit Go.Proofs.YtafoplpaoahdiaaW.PrintWords Go.Proofs.YtafoplpaoahdiaaW.PrintLast Go.Proofs.YtafoplpaoahdiaaW.PrintMore
attribute [local go_sem] max2_int min2_int max_two min_two max_three min_three max_four min_four   -- for this text's walks alone
set_option linter.unusedVariables false
set_option linter.unusedSimpArgs false

mutual
def payrollref29_Scale.j0 : Nat → List (S30) → Int → Int → Bool → Option ((List (S30)) × Int)
 | 0, _, _, _, _ => none
 | k + 1, x0, x1, x2, x28 => if x28 = true then (some (([] : List (S30)), 2)) else (payrollref29_Scale.l0 k x0 x1 x2 ([] : List (S30)) 0)
def payrollref29_Scale.l0 : Nat → List (S30) → Int → Int → List (S30) → Int → Option ((List (S30)) × Int)
 | 0, _, _, _, _, _ => none
 | k + 1, x0, x1, x2, x8, x9 => if x9 < (x0.length : Int) then (if 0 ≤ x9 then (if x2 = 0 then (none) else (if (wrap64 (x9 + 1)) < (x0.length : Int) then (if 0 ≤ (wrap64 (x9 + 1)) then (if (wrap64 (Int.tdiv (wrap64 (((rd_T30 x0 (wrap64 (x9 + 1))).f0) * x1)) x2)) = (wrap64 (Int.tdiv (wrap64 (((rd_T30 x0 x9).f0) * x1)) x2)) then (payrollref29_Scale.l0 k x0 x1 x2 x8 (wrap64 (x9 + 1))) else (if x8.length < 8796093022208 then (payrollref29_Scale.l0 k x0 x1 x2 (x8 ++ [(⟨wrap64 (Int.tdiv (wrap64 (((rd_T30 x0 x9).f0) * x1)) x2), (rd_T30 x0 x9).f1⟩ : S30)]) (wrap64 (x9 + 1))) else (none))) else (none)) else (if x8.length < 8796093022208 then (payrollref29_Scale.l0 k x0 x1 x2 (x8 ++ [(⟨wrap64 (Int.tdiv (wrap64 (((rd_T30 x0 x9).f0) * x1)) x2), (rd_T30 x0 x9).f1⟩ : S30)]) (wrap64 (x9 + 1))) else (none)))) else (none)) else (some (x8, 0))
end
def payrollref29_Scale.f (k : Nat) (l0 : List (S30)) (a1 : Int) (a2 : Int) : Option ((List (S30)) × Int) := (payrollref29_Valid.f k l0).bind fun t388 => (if t388 = true then (if a2 < 1 then (payrollref29_Scale.j0 k l0 a1 a2 true) else (if a2 > 53 then (payrollref29_Scale.j0 k l0 a1 a2 true) else (if a1 < 0 then (payrollref29_Scale.j0 k l0 a1 a2 true) else (payrollref29_Scale.j0 k l0 a1 a2 (decide (a1 > a2)))))) else (some (([] : List (S30)), 1)))
theorem payrollref29_Scale.mono_l : ∀ k, (∀ y0 y1 y2 y3, LeO (payrollref29_Scale.j0 k y0 y1 y2 y3) (payrollref29_Scale.j0 (k + 1) y0 y1 y2 y3)) ∧ (∀ y0 y1 y2 y3 y4, LeO (payrollref29_Scale.l0 k y0 y1 y2 y3 y4) (payrollref29_Scale.l0 (k + 1) y0 y1 y2 y3 y4))
 | 0 => ⟨fun _ _ _ _ r h => by simp [payrollref29_Scale.j0] at h, fun _ _ _ _ _ r h => by simp [payrollref29_Scale.l0] at h⟩
 | k + 1 => by
  obtain ⟨ih0, ih1⟩ := payrollref29_Scale.mono_l k
  refine ⟨?_, ?_⟩
  ·
   intro y0 y1 y2 y3
   unfold payrollref29_Scale.j0
   repeat' first
   | (with_reducible exact ih0 _ _ _ _)
   | (with_reducible exact ih1 _ _ _ _ _)
   | (with_reducible exact payrollref29_Valid.mono _ _)
   | (with_reducible exact LeO.refl _)
   | (with_reducible exact LeO.none _)
   | (with_reducible refine LeO.ite ?_ ?_)
   | (with_reducible refine LeO.bind ?_ (fun _ => ?_))
   | exact ih0 _ _ _ _
   | exact ih1 _ _ _ _ _
   | exact payrollref29_Valid.mono _ _
   | exact LeO.none _
   | refine LeO.ite ?_ ?_
   | refine LeO.bind ?_ (fun _ => ?_)
  ·
   intro y0 y1 y2 y3 y4
   unfold payrollref29_Scale.l0
   repeat' first
   | (with_reducible exact ih0 _ _ _ _)
   | (with_reducible exact ih1 _ _ _ _ _)
   | (with_reducible exact payrollref29_Valid.mono _ _)
   | (with_reducible exact LeO.refl _)
   | (with_reducible exact LeO.none _)
   | (with_reducible refine LeO.ite ?_ ?_)
   | (with_reducible refine LeO.bind ?_ (fun _ => ?_))
   | exact ih0 _ _ _ _
   | exact ih1 _ _ _ _ _
   | exact payrollref29_Valid.mono _ _
   | exact LeO.none _
   | refine LeO.ite ?_ ?_
   | refine LeO.bind ?_ (fun _ => ?_)
theorem payrollref29_Scale.mono : ∀ a0 a1 a2 k, LeO (payrollref29_Scale.f k a0 a1 a2) (payrollref29_Scale.f (k + 1) a0 a1 a2) := by
 intro a0 a1 a2 k
 obtain ⟨ih0, ih1⟩ := payrollref29_Scale.mono_l k
 unfold payrollref29_Scale.f
 repeat' first
   | (with_reducible exact ih0 _ _ _ _)
   | (with_reducible exact ih1 _ _ _ _ _)
   | (with_reducible exact payrollref29_Valid.mono _ _)
   | (with_reducible exact LeO.refl _)
   | (with_reducible exact LeO.none _)
   | (with_reducible refine LeO.ite ?_ ?_)
   | (with_reducible refine LeO.bind ?_ (fun _ => ?_))
   | exact ih0 _ _ _ _
   | exact ih1 _ _ _ _ _
   | exact payrollref29_Valid.mono _ _
   | exact LeO.none _
   | refine LeO.ite ?_ ?_
   | refine LeO.bind ?_ (fun _ => ?_)
set_option maxHeartbeats 8000000 in
set_option maxRecDepth 100000 in
theorem payrollref29_Scale.calls (k : Nat) (A0 : Option Addr) (c0 : Nat) (l0 : List (S30)) (a1 : Int) (a2 : Int) (r1 : List (S30)) (r2 : Int) (w : World) (hr0 : Kd.C k30 w A0 l0.length l0) (hc0 : l0.length ≤ c0) (h : payrollref29_Scale.f k l0 a1 a2 = some (r1, r2)) :
  Calls Try.prog 27 #[.slice A0 l0.length c0, .int .i64 a1, .int .i64 a2] w fun e w' => ∃ v0_ : Value, e = .returned (.tuple #[v0_, .int .i64 r2]) ∧ Kd.R k30 30 w' w.heap.size (fun _ => True) v0_ r1 ∧ Below w.heap.size w w' := by
 have hu30 := Try.underlying30
 have HR0 := Aside0.mk hr0
 have HC0 := Aside0.mk hc0
 clear hr0 hc0
 have HB := Aside0.mk (Below.refl w.heap.size w)
 have H : ((payrollref29_Valid.f k l0).bind fun t388 => (if t388 = true then (if a2 < 1 then (payrollref29_Scale.j0 k l0 a1 a2 true) else (if a2 > 53 then (payrollref29_Scale.j0 k l0 a1 a2 true) else (if a1 < 0 then (payrollref29_Scale.j0 k l0 a1 a2 true) else (payrollref29_Scale.j0 k l0 a1 a2 (decide (a1 > a2)))))) else (some (([] : List (S30)), 1)))) = some (r1, r2) := h
 clear h
 replace H := Option.bind_eq_some_iff.mp H
 obtain ⟨t388, A40, H⟩ := H
 replace H : (if t388 = true then (if a2 < 1 then (payrollref29_Scale.j0 k l0 a1 a2 true) else (if a2 > 53 then (payrollref29_Scale.j0 k l0 a1 a2 true) else (if a1 < 0 then (payrollref29_Scale.j0 k l0 a1 a2 true) else (payrollref29_Scale.j0 k l0 a1 a2 (decide (a1 > a2)))))) else (some (([] : List (S30)), 1))) = some (r1, r2) := H
 have A4 := Aside0.mk A40
 clear A40
 by_cases c5 : t388 = true
 ·
  subst c5
  have H1 : (if a2 < 1 then (payrollref29_Scale.j0 k l0 a1 a2 true) else (if a2 > 53 then (payrollref29_Scale.j0 k l0 a1 a2 true) else (if a1 < 0 then (payrollref29_Scale.j0 k l0 a1 a2 true) else (payrollref29_Scale.j0 k l0 a1 a2 (decide (a1 > a2)))))) = some (r1, r2) := by rw [if_pos rfl] at H; exact H
  clear H
  have H := H1
  clear H1
  have HC6 := Aside0.mk H
  clear H
  go_enter Try.func27, Try.ntmps27
  go_upto_region 3 with (first | ((with_reducible refine gate_callee (f := 18) rfl ?_); refine goesL_ (some 12) rfl rfl Try.func18 (by kernel_rfl) rfl #[.slice A0 l0.length c0] rfl (by (try simp only [List.map_toArray, List.map_cons, List.map_nil]); first | done | rfl | (simp only [List.length_drop, List.length_take]; rfl)) ?_; (with_reducible refine (payrollref29_Valid.calls k _ _ l0 true _ ?side1 ?side2 A4.out).mono ?_); (case side1 => repeat (first | exact HR0.out | (with_reducible refine Kd.C_alloc ?_ _) | (with_reducible refine Kd.C_drewN ?_ _) | (with_reducible refine Kd.C_drew ?_))); (case side2 => exact HC0.out); rintro e w' ⟨rfl, ⟨nd, rfl⟩⟩; refine ⟨_, rfl, ?_⟩))
  (try simp only [Act.put, List.setIfInBounds_toArray, List.set_cons_zero, List.set_cons_succ])
  go_cut [28] (fun v28 wc => ∃ (kq : Nat) (x28_5 : Bool), v28 = .bool x28_5 ∧ Aside0 (payrollref29_Scale.j0 kq l0 a1 a2 x28_5 = some (r1, r2)) ∧ Aside0 (kq ≤ k) ∧ Aside0 (Below w.heap.size w wc))
  case first =>
   have H := HC6.out
   clear HC6
   by_cases c7 : a2 < 1
   ·
    rw [if_pos c7] at H
    have c7b0 : decide (a2 < 1) = true := decide_eq_true c7
    clear c7
    (first | rw [c7b0] | (simp only [i64_w, i32_w]; rw [c7b0]) | skip)
    have H' := Aside0.mk H
    clear H
    go_wp2
    go_meet
    case rel => exact ⟨_, (true), (by first | rfl | (simp; done) | (simp [*]; done)), H', ⟨by first | omega | exact Nat.le_refl _⟩, ⟨by repeat (first | (with_reducible first | exact HB.out | apply below_alloc | apply pw_below_drewN | apply below_drew1) | exact HB.out)⟩⟩
   ·
    rw [if_neg c7] at H
    have c7b0 : decide (a2 < 1) = false := decide_eq_false c7
    clear c7
    (first | rw [c7b0] | (simp only [i64_w, i32_w]; rw [c7b0]) | skip)
    by_cases c8 : a2 > 53
    ·
     rw [if_pos c8] at H
     have c8b0 : decide (53 < a2) = true := decide_eq_true c8
     clear c8
     have H' := Aside0.mk H
     clear H
     go_wp2
     go_meet
     case rel => exact ⟨_, (true), (by first | rfl | (simp; done) | (simp [*]; done)), H', ⟨by first | omega | exact Nat.le_refl _⟩, ⟨by repeat (first | (with_reducible first | exact HB.out | apply below_alloc | apply pw_below_drewN | apply below_drew1) | exact HB.out)⟩⟩
    ·
     rw [if_neg c8] at H
     have c8b0 : decide (53 < a2) = false := decide_eq_false c8
     clear c8
     by_cases c9 : a1 < 0
     ·
      rw [if_pos c9] at H
      have c9b0 : decide (a1 < 0) = true := decide_eq_true c9
      clear c9
      have H' := Aside0.mk H
      clear H
      go_wp2
      go_meet
      case rel => exact ⟨_, (true), (by first | rfl | (simp; done) | (simp [*]; done)), H', ⟨by first | omega | exact Nat.le_refl _⟩, ⟨by repeat (first | (with_reducible first | exact HB.out | apply below_alloc | apply pw_below_drewN | apply below_drew1) | exact HB.out)⟩⟩
     ·
      rw [if_neg c9] at H
      have c9b0 : decide (a1 < 0) = false := decide_eq_false c9
      clear c9
      have H' := Aside0.mk H
      clear H
      go_wp2
      go_meet
      case rel => exact ⟨_, (decide (a1 > a2)), (by first | rfl | (simp; done) | (simp [*]; done)), H', ⟨by first | omega | exact Nat.le_refl _⟩, ⟨by repeat (first | (with_reducible first | exact HB.out | apply below_alloc | apply pw_below_drewN | apply below_drew1) | exact HB.out)⟩⟩
  case rest =>
   clear HC6
   try clear c1
   try clear c2
   try clear p2
   try clear c5
   try clear c7
   try clear c7b0
   try clear c8
   try clear c8b0
   try clear c9
   try clear c9b0
   obtain ⟨kq, x28_5, rfl, HA, HJ5, HB⟩ := hcut
   cases kq with
   | zero => exact absurd HA.out (by simp [payrollref29_Scale.j0])
   | succ kj5 =>
    have H := HA.out
    clear HA
    simp only [payrollref29_Scale.j0] at H
    by_cases c10 : x28_5 = true
    ·
     subst c10
     have H1 : (some (([] : List (S30)), 2)) = some (r1, r2) := by rw [if_pos rfl] at H; exact H
     clear H
     have H := H1
     clear H1
     simp only [Option.some.injEq, Prod.mk.injEq] at H
     obtain ⟨rfl, rfl⟩ := H
     go_wp2
     go_ret2
     exact ⟨_, by first | rfl | (simp [errW_none, errW_some] <;> rfl) | (simp [*, errW_none, errW_some] <;> rfl), by first | exact Kd.R_nil _ _ _ _ _ | exact Kd.N_nil _ _ _ _ _ | exact Kd.V_nil _ _ _ _ _ | exact Kd.Q_nil _ _ _ _ _ | exact Kd.S_nil _ _ _ _ _, by repeat (first | (with_reducible first | exact HB.out | apply below_alloc | apply pw_below_drewN | apply below_drew1) | exact HB.out)⟩
    ·
     replace c10 := Bool.eq_false_iff.mpr c10
     subst c10
     have H1 : (payrollref29_Scale.l0 kj5 l0 a1 a2 ([] : List (S30)) 0) = some (r1, r2) := by rw [if_neg (show ¬ (false = true) by decide)] at H; exact H
     clear H
     have H := H1
     clear H1
     have H' := Aside0.mk H
     clear H
     go_wp2
     go_loopg [8, 9] kj5 (fun kq v8 v9 w' => ∃ (x8_2 : List (S30)) (x9_2 : Int), v9 = .int .i64 x9_2 ∧ Aside0 (payrollref29_Scale.l0 kq l0 a1 a2 x8_2 x9_2 = some (r1, r2)) ∧ Aside0 (kq ≤ kj5) ∧ Aside0 (Kd.R k30 30 w' w.heap.size (fun _ => True) v8 x8_2) ∧ Aside0 (Below w.heap.size w w'))
     case atStart => exact ⟨(([] : List (S30))), (0), (by first | rfl | (simp; done) | (simp [*]; done)), H', ⟨Nat.le_refl _⟩, ⟨by first | exact Kd.R_nil _ _ _ _ _ | exact Kd.N_nil _ _ _ _ _ | exact Kd.V_nil _ _ _ _ _ | exact Kd.Q_nil _ _ _ _ _ | exact Kd.S_nil _ _ _ _ _⟩, ⟨by repeat (first | (with_reducible first | exact HB.out | apply below_alloc | apply pw_below_drewN | apply below_drew1) | exact HB.out)⟩⟩
     case round =>
      clear H'
      try clear c1
      try clear c2
      try clear p2
      try clear c5
      try clear c7
      try clear c7b0
      try clear c8
      try clear c8b0
      try clear c9
      try clear c9b0
      try clear c10
      try clear p2
      obtain ⟨x8_2, x9_2, rfl, HA, HK2, HO_8, HB⟩ := hrel
      cases gk with
      | zero => exact absurd HA.out (by simp [payrollref29_Scale.l0])
      | succ k2 =>
       have H := HA.out
       clear HA
       simp only [payrollref29_Scale.l0] at H
       by_cases c11 : x9_2 < (l0.length : Int)
       ·
        rw [if_pos c11] at H
        have c11b0 : decide (x9_2 < (l0.length : Int)) = true := decide_eq_true c11
        clear c11
        by_cases c12 : 0 ≤ x9_2
        ·
         rw [if_pos c12] at H
         have c12b0 : decide (0 ≤ x9_2) = true := decide_eq_true c12
         clear c12
         by_cases c13 : a2 = 0
         ·
          rw [if_pos c13] at H
          exact absurd H (by simp)
         ·
          rw [if_neg c13] at H
          have c13b0 : (a2 == 0) = false := beq_eq_false_iff_ne.mpr c13
          have c13b1 : (a2 != 0) = true := bne_iff_ne.mpr c13
          by_cases c14 : (wrap64 (x9_2 + 1)) < (l0.length : Int)
          ·
           rw [if_pos c14] at H
           have c14b0 : decide ((wrap64 (x9_2 + 1)) < (l0.length : Int)) = true := decide_eq_true c14
           clear c14
           obtain ⟨ji15, hji15⟩ : ∃ j_ : Int, (wrap64 (x9_2 + 1)) = j_ := ⟨_, rfl⟩
           replace H : (if 0 ≤ (ji15) then (if (wrap64 (Int.tdiv (wrap64 (((rd_T30 l0 (ji15)).f0) * a1)) a2)) = (wrap64 (Int.tdiv (wrap64 (((rd_T30 l0 x9_2).f0) * a1)) a2)) then (payrollref29_Scale.l0 k2 l0 a1 a2 x8_2 ji15) else (if x8_2.length < 8796093022208 then (payrollref29_Scale.l0 k2 l0 a1 a2 (x8_2 ++ [(⟨wrap64 (Int.tdiv (wrap64 (((rd_T30 l0 x9_2).f0) * a1)) a2), (rd_T30 l0 x9_2).f1⟩ : S30)]) ji15) else (none))) else (none)) = some (r1, r2) := by first | (rw [hji15] at H; exact H) | (simp only [hji15] at H ⊢; exact H)
           (try rw [hji15] at c14b0)
           have hji15w : (IntKind.i64.wrap (x9_2 + 1)) = ji15 := (i64_w _).trans hji15
           by_cases c16 : 0 ≤ (ji15)
           ·
            rw [if_pos c16] at H
            have c16b0 : decide (0 ≤ (ji15)) = true := decide_eq_true c16
            clear c16
            by_cases c17 : (wrap64 (Int.tdiv (wrap64 (((rd_T30 l0 (ji15)).f0) * a1)) a2)) = (wrap64 (Int.tdiv (wrap64 (((rd_T30 l0 x9_2).f0) * a1)) a2))
            ·
             rw [if_pos c17] at H
             have c17b0 : ((wrap64 (Int.tdiv (wrap64 (((rd_T30 l0 (ji15)).f0) * a1)) a2)) == (wrap64 (Int.tdiv (wrap64 (((rd_T30 l0 x9_2).f0) * a1)) a2))) = true := beq_iff_eq.mpr c17
             have c17b1 : ((wrap64 (Int.tdiv (wrap64 (((rd_T30 l0 (ji15)).f0) * a1)) a2)) != (wrap64 (Int.tdiv (wrap64 (((rd_T30 l0 x9_2).f0) * a1)) a2))) = false := bne_eq_false_iff_eq.mpr c17
             clear c17
             have H' := Aside0.mk H
             clear H
             have p389 : 0 ≤ (x9_2 : Int) := of_decide_eq_true (by first | (with_reducible assumption) | assumption)
             have q389 : x9_2 < (l0.length : Int) := of_decide_eq_true (by first | (with_reducible assumption) | assumption)
             obtain ⟨ad389, e389, hx389_0, hx389_1⟩ := at_T30 HR0.out x9_2 p389 q389
             cases e389
             replace hx389_0 := (HB.out.cell (World.block_lt_of_cell? w _ hx389_0)).trans hx389_0
             replace hx389_1 := (HB.out.cell (World.block_lt_of_cell? w _ hx389_1)).trans hx389_1
             replace p389 := eq_true p389
             replace q389 := eq_true q389
             have p390 : 0 ≤ ((ji15) : Int) := of_decide_eq_true (by first | (with_reducible assumption) | assumption)
             have q390 : (ji15) < (l0.length : Int) := of_decide_eq_true (by first | (with_reducible assumption) | assumption)
             obtain ⟨ad390, e390, hx390_0, hx390_1⟩ := at_T30 HR0.out (ji15) p390 q390
             obtain rfl : ad389 = ad390 := (by injection e390)
             replace hx390_0 := (HB.out.cell (World.block_lt_of_cell? w _ hx390_0)).trans hx390_0
             replace hx390_1 := (HB.out.cell (World.block_lt_of_cell? w _ hx390_1)).trans hx390_1
             replace p390 := eq_true p390
             replace q390 := eq_true q390
             go_wp2
             go_roundg k2
             case measure => have := HJ5.out; have := HK2.out; omega
             case rel => exact ⟨(x8_2), (ji15), (by first | rfl | (simp; done) | (simp only [← hji15] <;> (first | rfl | simp)) | (simp [*]; done)), H', ⟨by have := HJ5.out; have := HK2.out; omega⟩, ⟨by (with_reducible repeat (first | apply Kd.R_alloc | apply Kd.R_drewN | apply Kd.R_drew)); exact HO_8.out⟩, ⟨by repeat (first | (with_reducible first | exact HB.out | apply below_alloc | apply pw_below_drewN | apply below_drew1) | exact HB.out)⟩⟩
            ·
             rw [if_neg c17] at H
             have c17b0 : ((wrap64 (Int.tdiv (wrap64 (((rd_T30 l0 (ji15)).f0) * a1)) a2)) == (wrap64 (Int.tdiv (wrap64 (((rd_T30 l0 x9_2).f0) * a1)) a2))) = false := beq_eq_false_iff_ne.mpr c17
             have c17b1 : ((wrap64 (Int.tdiv (wrap64 (((rd_T30 l0 (ji15)).f0) * a1)) a2)) != (wrap64 (Int.tdiv (wrap64 (((rd_T30 l0 x9_2).f0) * a1)) a2))) = true := bne_iff_ne.mpr c17
             by_cases c18 : x8_2.length < 8796093022208
             ·
              rw [if_pos c18] at H
              have LMc18 := Aside0.mk c18
              clear c18
              obtain ⟨y392, hy392⟩ : ∃ y_ : List (S30), y_ = (x8_2 ++ [(⟨wrap64 (Int.tdiv (wrap64 (((rd_T30 l0 x9_2).f0) * a1)) a2), (rd_T30 l0 x9_2).f1⟩ : S30)]) := ⟨_, rfl⟩
              replace H : (payrollref29_Scale.l0 k2 l0 a1 a2 y392 ji15) = some (r1, r2) := by first | (rw [hy392]; with_reducible exact H) | (have H2_ := (Option.bind_some _ _).symm.trans H; rw [hy392]; with_reducible exact H2_) | (have H2_ := (Option.bind_some _ _).symm.trans H; with_reducible exact H2_) | with_reducible exact H | (rw [hy392]; exact H) | exact H
              have Ny392 := Aside0.mk hy392
              clear hy392
              have H' := Aside0.mk H
              clear H
              have p389 : 0 ≤ (x9_2 : Int) := of_decide_eq_true (by first | (with_reducible assumption) | assumption)
              have q389 : x9_2 < (l0.length : Int) := of_decide_eq_true (by first | (with_reducible assumption) | assumption)
              obtain ⟨ad389, e389, hx389_0, hx389_1⟩ := at_T30 HR0.out x9_2 p389 q389
              cases e389
              replace hx389_0 := (HB.out.cell (World.block_lt_of_cell? w _ hx389_0)).trans hx389_0
              replace hx389_1 := (HB.out.cell (World.block_lt_of_cell? w _ hx389_1)).trans hx389_1
              replace p389 := eq_true p389
              replace q389 := eq_true q389
              have p390 : 0 ≤ ((ji15) : Int) := of_decide_eq_true (by first | (with_reducible assumption) | assumption)
              have q390 : (ji15) < (l0.length : Int) := of_decide_eq_true (by first | (with_reducible assumption) | assumption)
              obtain ⟨ad390, e390, hx390_0, hx390_1⟩ := at_T30 HR0.out (ji15) p390 q390
              obtain rfl : ad389 = ad390 := (by injection e390)
              replace hx390_0 := (HB.out.cell (World.block_lt_of_cell? w _ hx390_0)).trans hx390_0
              replace hx390_1 := (HB.out.cell (World.block_lt_of_cell? w _ hx390_1)).trans hx390_1
              replace p390 := eq_true p390
              replace q390 := eq_true q390
              have p391 : 0 ≤ (x9_2 : Int) := of_decide_eq_true (by first | (with_reducible assumption) | assumption)
              have q391 : x9_2 < (l0.length : Int) := of_decide_eq_true (by first | (with_reducible assumption) | assumption)
              obtain ⟨ad391, e391, hx391_0, hx391_1⟩ := at_T30 HR0.out x9_2 p391 q391
              obtain rfl : ad389 = ad391 := (by injection e391)
              replace hx391_0 := (HB.out.cell (World.block_lt_of_cell? w _ hx391_0)).trans hx391_0
              replace hx391_1 := (HB.out.cell (World.block_lt_of_cell? w _ hx391_1)).trans hx391_1
              replace p391 := eq_true p391
              replace q391 := eq_true q391
              go_wp2_with (first | ((with_reducible refine gate_builtin (b := .append) (xs := #[.tmp 63, .tmp 71]) rfl ?_); at_builtin; refine Kd.R_append k30 (w0 := w) w.heap.size rfl (.tmp 63) (.tmp 71) 22 30 (.agg #[(.int .i64 0), (.int .i64 0)]) 16 rfl Try.underlying22 info30 rfl (by decide) (by omega) u8 x8_2 (⟨wrap64 (Int.tdiv (wrap64 (((rd_T30 l0 x9_2).f0) * a1)) a2), (rd_T30 l0 x9_2).f1⟩ : S30) [.int .i64 (wrap64 (Int.tdiv (wrap64 (((rd_T30 l0 x9_2).f0) * a1)) a2)), .int .i64 ((rd_T30 l0 x9_2).f1)] (fun _ => True) (fun _ => False) rfl rfl ?aP (fun _ hk => hk.elim) ?aF ?aO ?aB ?aS ?aL ?_; (case aP => exact k30_mkM _ _ _ (⟨wrap64 (Int.tdiv (wrap64 (((rd_T30 l0 x9_2).f0) * a1)) a2), (rd_T30 l0 x9_2).f1⟩ : S30)); (case aB => exact (by repeat (first | (with_reducible first | exact HB.out | apply below_alloc | apply pw_below_drewN | apply below_drew1) | exact HB.out))); (case aF => exact (fun _ _ => trivial)); (case aO => exact (by (with_reducible repeat (first | apply Kd.R_alloc | apply Kd.R_drewN | apply Kd.R_drew)); exact HO_8.out)); (case aS => exact (below_size (by repeat (first | (with_reducible first | exact HB.out | apply below_alloc | apply pw_below_drewN | apply below_drew1) | exact HB.out)))); (case aL => have := LMc18.out; omega); intro v393 w19 ho hb hg hat; rw [← Ny392.out] at ho; have n0_ := Aside0.mk (hb); have n1_ := Aside0.mk (ho); clear HB; clear HO_8; have HB := n0_; have HO394 := n1_; clear n0_ n1_; clear ho hb hg hat))
              go_roundg k2
              case measure => have := HJ5.out; have := HK2.out; omega
              case rel => exact ⟨(y392), (ji15), (by first | rfl | (simp; done) | (simp only [← hji15] <;> (first | rfl | simp)) | (simp [*]; done)), H', ⟨by have := HJ5.out; have := HK2.out; omega⟩, ⟨by (with_reducible repeat (first | apply Kd.R_alloc | apply Kd.R_drewN | apply Kd.R_drew)); exact HO394.out⟩, ⟨by repeat (first | (with_reducible first | exact HB.out | apply below_alloc | apply pw_below_drewN | apply below_drew1) | exact HB.out)⟩⟩
             ·
              rw [if_neg c18] at H
              exact absurd H (by simp)
           ·
            rw [if_neg c16] at H
            exact absurd H (by simp)
          ·
           rw [if_neg c14] at H
           have c14b0 : decide ((wrap64 (x9_2 + 1)) < (l0.length : Int)) = false := decide_eq_false c14
           clear c14
           by_cases c20 : x8_2.length < 8796093022208
           ·
            rw [if_pos c20] at H
            have LMc20 := Aside0.mk c20
            clear c20
            obtain ⟨y396, hy396⟩ : ∃ y_ : List (S30), y_ = (x8_2 ++ [(⟨wrap64 (Int.tdiv (wrap64 (((rd_T30 l0 x9_2).f0) * a1)) a2), (rd_T30 l0 x9_2).f1⟩ : S30)]) := ⟨_, rfl⟩
            replace H : (payrollref29_Scale.l0 k2 l0 a1 a2 y396 (wrap64 (x9_2 + 1))) = some (r1, r2) := by first | (rw [hy396]; with_reducible exact H) | (have H2_ := (Option.bind_some _ _).symm.trans H; rw [hy396]; with_reducible exact H2_) | (have H2_ := (Option.bind_some _ _).symm.trans H; with_reducible exact H2_) | with_reducible exact H | (rw [hy396]; exact H) | exact H
            have Ny396 := Aside0.mk hy396
            clear hy396
            have H' := Aside0.mk H
            clear H
            have p389 : 0 ≤ (x9_2 : Int) := of_decide_eq_true (by first | (with_reducible assumption) | assumption)
            have q389 : x9_2 < (l0.length : Int) := of_decide_eq_true (by first | (with_reducible assumption) | assumption)
            obtain ⟨ad389, e389, hx389_0, hx389_1⟩ := at_T30 HR0.out x9_2 p389 q389
            cases e389
            replace hx389_0 := (HB.out.cell (World.block_lt_of_cell? w _ hx389_0)).trans hx389_0
            replace hx389_1 := (HB.out.cell (World.block_lt_of_cell? w _ hx389_1)).trans hx389_1
            replace p389 := eq_true p389
            replace q389 := eq_true q389
            have p395 : 0 ≤ (x9_2 : Int) := of_decide_eq_true (by first | (with_reducible assumption) | assumption)
            have q395 : x9_2 < (l0.length : Int) := of_decide_eq_true (by first | (with_reducible assumption) | assumption)
            obtain ⟨ad395, e395, hx395_0, hx395_1⟩ := at_T30 HR0.out x9_2 p395 q395
            obtain rfl : ad389 = ad395 := (by injection e395)
            replace hx395_0 := (HB.out.cell (World.block_lt_of_cell? w _ hx395_0)).trans hx395_0
            replace hx395_1 := (HB.out.cell (World.block_lt_of_cell? w _ hx395_1)).trans hx395_1
            replace p395 := eq_true p395
            replace q395 := eq_true q395
            go_wp2_with (first | ((with_reducible refine gate_builtin (b := .append) (xs := #[.tmp 63, .tmp 71]) rfl ?_); at_builtin; refine Kd.R_append k30 (w0 := w) w.heap.size rfl (.tmp 63) (.tmp 71) 22 30 (.agg #[(.int .i64 0), (.int .i64 0)]) 16 rfl Try.underlying22 info30 rfl (by decide) (by omega) u8 x8_2 (⟨wrap64 (Int.tdiv (wrap64 (((rd_T30 l0 x9_2).f0) * a1)) a2), (rd_T30 l0 x9_2).f1⟩ : S30) [.int .i64 (wrap64 (Int.tdiv (wrap64 (((rd_T30 l0 x9_2).f0) * a1)) a2)), .int .i64 ((rd_T30 l0 x9_2).f1)] (fun _ => True) (fun _ => False) rfl rfl ?aP (fun _ hk => hk.elim) ?aF ?aO ?aB ?aS ?aL ?_; (case aP => exact k30_mkM _ _ _ (⟨wrap64 (Int.tdiv (wrap64 (((rd_T30 l0 x9_2).f0) * a1)) a2), (rd_T30 l0 x9_2).f1⟩ : S30)); (case aB => exact (by repeat (first | (with_reducible first | exact HB.out | apply below_alloc | apply pw_below_drewN | apply below_drew1) | exact HB.out))); (case aF => exact (fun _ _ => trivial)); (case aO => exact (by (with_reducible repeat (first | apply Kd.R_alloc | apply Kd.R_drewN | apply Kd.R_drew)); exact HO_8.out)); (case aS => exact (below_size (by repeat (first | (with_reducible first | exact HB.out | apply below_alloc | apply pw_below_drewN | apply below_drew1) | exact HB.out)))); (case aL => have := LMc20.out; omega); intro v397 w21 ho hb hg hat; rw [← Ny396.out] at ho; have n0_ := Aside0.mk (hb); have n1_ := Aside0.mk (ho); clear HB; clear HO_8; have HB := n0_; have HO398 := n1_; clear n0_ n1_; clear ho hb hg hat))
            go_roundg k2
            case measure => have := HJ5.out; have := HK2.out; omega
            case rel => exact ⟨(y396), (wrap64 (x9_2 + 1)), (by first | rfl | (simp; done) | (simp [*]; done)), H', ⟨by have := HJ5.out; have := HK2.out; omega⟩, ⟨by (with_reducible repeat (first | apply Kd.R_alloc | apply Kd.R_drewN | apply Kd.R_drew)); exact HO398.out⟩, ⟨by repeat (first | (with_reducible first | exact HB.out | apply below_alloc | apply pw_below_drewN | apply below_drew1) | exact HB.out)⟩⟩
           ·
            rw [if_neg c20] at H
            exact absurd H (by simp)
        ·
         rw [if_neg c12] at H
         exact absurd H (by simp)
       ·
        rw [if_neg c11] at H
        have c11b0 : decide (x9_2 < (l0.length : Int)) = false := decide_eq_false c11
        clear c11
        simp only [Option.some.injEq, Prod.mk.injEq] at H
        obtain ⟨rfl, rfl⟩ := H
        go_wp2
        go_ret2
        exact ⟨_, by first | rfl | (simp [errW_none, errW_some] <;> rfl) | (simp [*, errW_none, errW_some] <;> rfl), by (with_reducible repeat (first | apply Kd.R_alloc | apply Kd.R_drewN | apply Kd.R_drew)); exact HO_8.out, by repeat (first | (with_reducible first | exact HB.out | apply below_alloc | apply pw_below_drewN | apply below_drew1) | exact HB.out)⟩
 ·
  replace c5 := Bool.eq_false_iff.mpr c5
  subst c5
  have H1 : (some (([] : List (S30)), 1)) = some (r1, r2) := by rw [if_neg (show ¬ (false = true) by decide)] at H; exact H
  clear H
  have H := H1
  clear H1
  simp only [Option.some.injEq, Prod.mk.injEq] at H
  obtain ⟨rfl, rfl⟩ := H
  go_enter Try.func27, Try.ntmps27
  go_wp2_with (first | ((with_reducible refine gate_callee (f := 18) rfl ?_); refine goesL_ (some 12) rfl rfl Try.func18 (by kernel_rfl) rfl #[.slice A0 l0.length c0] rfl (by (try simp only [List.map_toArray, List.map_cons, List.map_nil]); first | done | rfl | (simp only [List.length_drop, List.length_take]; rfl)) ?_; (with_reducible refine (payrollref29_Valid.calls k _ _ l0 false _ ?side1 ?side2 A4.out).mono ?_); (case side1 => repeat (first | exact HR0.out | (with_reducible refine Kd.C_alloc ?_ _) | (with_reducible refine Kd.C_drewN ?_ _) | (with_reducible refine Kd.C_drew ?_))); (case side2 => exact HC0.out); rintro e w' ⟨rfl, ⟨nd, rfl⟩⟩; refine ⟨_, rfl, ?_⟩))
  go_ret2
  exact ⟨_, by first | rfl | (simp [errW_none, errW_some] <;> rfl) | (simp [*, errW_none, errW_some] <;> rfl), by first | exact Kd.R_nil _ _ _ _ _ | exact Kd.N_nil _ _ _ _ _ | exact Kd.V_nil _ _ _ _ _ | exact Kd.Q_nil _ _ _ _ _ | exact Kd.S_nil _ _ _ _ _, by repeat (first | (with_reducible first | exact HB.out | apply below_alloc | apply pw_below_drewN | apply below_drew1) | exact HB.out)⟩

end Go.Proofs.Ytafoplpaoahdiaa.P
