/- Proved here: that the Go function payrollref29_Scale computes the plain function of that name (the machine side of the laws, reworked from a print; no condition of its own). -/
import Derived.Test.YtbacfajhgmnjpaaProg
import Derived.Test.YtbacfajhgmnjpaaV1
import Derived.Test.YtbacfajhgmnjpaaV2
import Derived.Test.YtbacfajhgmnjpaaFPRE
import Derived.Test.YtbacfajhgmnjpaaFpayrollref29Valid
namespace Go.Proofs.Ytbacfajhgmnjpaa.P
open Go.RowKit Go.Proofs.YtbacfajhgmnjpaaW.PrintWords Go.Proofs.YtbacfajhgmnjpaaW.PrintLast Go.Proofs.YtbacfajhgmnjpaaW.PrintMore
attribute [local go_sem] max2_int min2_int max_two min_two max_three min_three max_four min_four   -- for this text's walks alone
set_option linter.unusedVariables false
set_option linter.unusedSimpArgs false

mutual
def payrollref29_Scale.j0 : Nat → List (S58) → Int → Int → Bool → Option ((List (S58)) × Int)
 | 0, _, _, _, _ => none
 | k + 1, x0, x1, x2, x28 => if x28 = true then (some (([] : List (S58)), 2)) else (payrollref29_Scale.l0 k x0 x1 x2 ([] : List (S58)) 0)
def payrollref29_Scale.l0 : Nat → List (S58) → Int → Int → List (S58) → Int → Option ((List (S58)) × Int)
 | 0, _, _, _, _, _ => none
 | k + 1, x0, x1, x2, x8, x9 => if x9 < (x0.length : Int) then (if 0 ≤ x9 then (if x2 = 0 then (none) else (if (wrap64 (x9 + 1)) < (x0.length : Int) then (if 0 ≤ (wrap64 (x9 + 1)) then (if (wrap64 (Int.tdiv (wrap64 (((rd_T58 x0 (wrap64 (x9 + 1))).f0) * x1)) x2)) = (wrap64 (Int.tdiv (wrap64 (((rd_T58 x0 x9).f0) * x1)) x2)) then (payrollref29_Scale.l0 k x0 x1 x2 x8 (wrap64 (x9 + 1))) else (if x8.length < 8796093022208 then (payrollref29_Scale.l0 k x0 x1 x2 (x8 ++ [(⟨wrap64 (Int.tdiv (wrap64 (((rd_T58 x0 x9).f0) * x1)) x2), (rd_T58 x0 x9).f1⟩ : S58)]) (wrap64 (x9 + 1))) else (none))) else (none)) else (if x8.length < 8796093022208 then (payrollref29_Scale.l0 k x0 x1 x2 (x8 ++ [(⟨wrap64 (Int.tdiv (wrap64 (((rd_T58 x0 x9).f0) * x1)) x2), (rd_T58 x0 x9).f1⟩ : S58)]) (wrap64 (x9 + 1))) else (none)))) else (none)) else (some (x8, 0))
end
def payrollref29_Scale.f (k : Nat) (l0 : List (S58)) (a1 : Int) (a2 : Int) : Option ((List (S58)) × Int) := (payrollref29_Valid.f k l0).bind fun t440 => (if t440 = true then (if a2 < 1 then (payrollref29_Scale.j0 k l0 a1 a2 true) else (if a2 > 53 then (payrollref29_Scale.j0 k l0 a1 a2 true) else (if a1 < 0 then (payrollref29_Scale.j0 k l0 a1 a2 true) else (payrollref29_Scale.j0 k l0 a1 a2 (decide (a1 > a2)))))) else (some (([] : List (S58)), 1)))
set_option maxHeartbeats 8000000 in
set_option maxRecDepth 100000 in
theorem payrollref29_Scale.calls (k : Nat) (A0 : Option Addr) (c0 : Nat) (l0 : List (S58)) (a1 : Int) (a2 : Int) (r1 : List (S58)) (r2 : Int) (w : World) (hr0 : Kd.C k58 w A0 l0.length l0) (hc0 : l0.length ≤ c0) (h : payrollref29_Scale.f k l0 a1 a2 = some (r1, r2)) :
  Calls Try.prog 53 #[.slice A0 l0.length c0, .int .i64 a1, .int .i64 a2] w fun e w' => ∃ v0_ : Value, e = .returned (.tuple #[v0_, .int .i64 r2]) ∧ Kd.R k58 58 w' w.heap.size (fun _ => True) v0_ r1 ∧ Below w.heap.size w w' := by
 have hu58 := Try.underlying58
 have HR0 := Aside0.mk hr0
 have HC0 := Aside0.mk hc0
 clear hr0 hc0
 have HB := Aside0.mk (Below.refl w.heap.size w)
 have H : ((payrollref29_Valid.f k l0).bind fun t440 => (if t440 = true then (if a2 < 1 then (payrollref29_Scale.j0 k l0 a1 a2 true) else (if a2 > 53 then (payrollref29_Scale.j0 k l0 a1 a2 true) else (if a1 < 0 then (payrollref29_Scale.j0 k l0 a1 a2 true) else (payrollref29_Scale.j0 k l0 a1 a2 (decide (a1 > a2)))))) else (some (([] : List (S58)), 1)))) = some (r1, r2) := h
 clear h
 replace H := Option.bind_eq_some_iff.mp H
 obtain ⟨t440, A40, H⟩ := H
 try dsimp only at H
 have A4 := Aside0.mk A40
 clear A40
 by_cases c5 : t440 = true
 ·
  subst c5
  rw [if_pos rfl] at H
  have HC6 := Aside0.mk H
  clear H
  go_enter Try.func53, Try.ntmps53
  go_upto_region 3 with (first | ((with_reducible refine gate_callee (f := 58) rfl ?_); refine goesL_ (some 12) rfl rfl Try.func58 (by kernel_rfl) rfl #[.slice A0 l0.length c0] rfl q1 ?_; (with_reducible refine (payrollref29_Valid.calls k _ _ l0 true _ ?side1 ?side2 A4.out).mono ?_); (case side1 => exact q33); (case side2 => exact HC0.out); rintro e w' ⟨rfl, ⟨nd, rfl⟩⟩; refine ⟨_, rfl, ?_⟩))
  (try simp only [Act.put, List.setIfInBounds_toArray, List.set_cons_zero, List.set_cons_succ])
  go_cut [28] (fun v28 wc => ∃ (kq : Nat) (x28_5 : Bool), v28 = .bool x28_5 ∧ Aside0 (payrollref29_Scale.j0 kq l0 a1 a2 x28_5 = some (r1, r2)) ∧ Aside0 (kq ≤ k) ∧ Aside0 (Below w.heap.size w wc))
  case first =>
   have H := HC6.out
   clear HC6
   by_cases c7 : a2 < 1
   ·
    rw [if_pos c7] at H
    have c7b0 : decide (a2 < 1) = true := decide_eq_true c7
    clear c7
    (first | rw [c7b0] | (simp only [i64_w, i32_w]; rw [c7b0]) | skip)
    have H' := Aside0.mk H
    clear H
    go_wp2
    go_meet
    case rel => exact ⟨_, (true), q26, H', ⟨by first | omega | exact Nat.le_refl _⟩, ⟨q0⟩⟩
   ·
    rw [if_neg c7] at H
    have c7b0 : decide (a2 < 1) = false := decide_eq_false c7
    clear c7
    (first | rw [c7b0] | (simp only [i64_w, i32_w]; rw [c7b0]) | skip)
    by_cases c8 : a2 > 53
    ·
     rw [if_pos c8] at H
     have c8b0 : decide (53 < a2) = true := decide_eq_true c8
     clear c8
     have H' := Aside0.mk H
     clear H
     go_wp2
     go_meet
     case rel => exact ⟨_, (true), q26, H', ⟨by first | omega | exact Nat.le_refl _⟩, ⟨q0⟩⟩
    ·
     rw [if_neg c8] at H
     have c8b0 : decide (53 < a2) = false := decide_eq_false c8
     clear c8
     by_cases c9 : a1 < 0
     ·
      rw [if_pos c9] at H
      have c9b0 : decide (a1 < 0) = true := decide_eq_true c9
      clear c9
      have H' := Aside0.mk H
      clear H
      go_wp2
      go_meet
      case rel => exact ⟨_, (true), q26, H', ⟨by first | omega | exact Nat.le_refl _⟩, ⟨q0⟩⟩
     ·
      rw [if_neg c9] at H
      have c9b0 : decide (a1 < 0) = false := decide_eq_false c9
      clear c9
      have H' := Aside0.mk H
      clear H
      go_wp2
      go_meet
      case rel => exact ⟨_, (decide (a1 > a2)), q26, H', ⟨by first | omega | exact Nat.le_refl _⟩, ⟨q0⟩⟩
  case rest =>
   clear HC6
   try clear p2
   try clear c5
   try clear c7
   try clear c7b0
   try clear c8
   try clear c8b0
   try clear c9
   try clear c9b0
   obtain ⟨kq, x28_5, rfl, HA, HJ5, HB⟩ := hcut
   cases kq with
   | zero => exact absurd HA.out (by simp [payrollref29_Scale.j0])
   | succ kj5 =>
    have H := HA.out
    clear HA
    simp only [payrollref29_Scale.j0] at H
    by_cases c10 : x28_5 = true
    ·
     subst c10
     rw [if_pos rfl] at H
     simp only [Option.some.injEq, Prod.mk.injEq] at H
     obtain ⟨rfl, rfl⟩ := H
     go_wp2
     go_ret2
     exact ⟨_, by first | rfl | (simp [errW_none, errW_some] <;> rfl) | (simp [*, errW_none, errW_some] <;> rfl), by first | exact Kd.R_nil _ _ _ _ _ | exact Kd.N_nil _ _ _ _ _ | exact Kd.V_nil _ _ _ _ _ | exact Kd.Q_nil _ _ _ _ _ | exact Kd.S_nil _ _ _ _ _, q0⟩
    ·
     replace c10 := Bool.eq_false_iff.mpr c10
     subst c10
     rw [if_neg (show ¬ (false = true) by decide)] at H
     have H' := Aside0.mk H
     clear H
     go_wp2
     go_loopg [8, 9] kj5 (fun kq v8 v9 w' => ∃ (x8_2 : List (S58)) (x9_2 : Int), v9 = .int .i64 x9_2 ∧ Aside0 (payrollref29_Scale.l0 kq l0 a1 a2 x8_2 x9_2 = some (r1, r2)) ∧ Aside0 (kq ≤ kj5) ∧ Aside0 (Kd.R k58 58 w' w.heap.size (fun _ => True) v8 x8_2) ∧ Aside0 (Below w.heap.size w w'))
     case atStart => exact ⟨(([] : List (S58))), (0), q26, H', ⟨Nat.le_refl _⟩, ⟨by first | exact Kd.R_nil _ _ _ _ _ | exact Kd.N_nil _ _ _ _ _ | exact Kd.V_nil _ _ _ _ _ | exact Kd.Q_nil _ _ _ _ _ | exact Kd.S_nil _ _ _ _ _⟩, ⟨q0⟩⟩
     case round =>
      clear H'
      try clear c1
      try clear p2
      try clear c5
      try clear c7
      try clear c7b0
      try clear c8
      try clear c8b0
      try clear c9
      try clear c9b0
      try clear c10
      try clear p2
      obtain ⟨x8_2, x9_2, rfl, HA, HK2, HO_8, HB⟩ := hrel
      cases gk with
      | zero => exact absurd HA.out (by simp [payrollref29_Scale.l0])
      | succ k2 =>
       have H := HA.out
       clear HA
       simp only [payrollref29_Scale.l0] at H
       by_cases c11 : x9_2 < (l0.length : Int)
       ·
        rw [if_pos c11] at H
        have c11b0 : decide (x9_2 < (l0.length : Int)) = true := decide_eq_true c11
        clear c11
        by_cases c12 : 0 ≤ x9_2
        ·
         rw [if_pos c12] at H
         have c12b0 : decide (0 ≤ x9_2) = true := decide_eq_true c12
         clear c12
         by_cases c13 : a2 = 0
         ·
          rw [if_pos c13] at H
          exact absurd H (by simp)
         ·
          rw [if_neg c13] at H
          have c13b0 : (a2 == 0) = false := beq_eq_false_iff_ne.mpr c13
          have c13b1 : (a2 != 0) = true := bne_iff_ne.mpr c13
          by_cases c14 : (wrap64 (x9_2 + 1)) < (l0.length : Int)
          ·
           rw [if_pos c14] at H
           have c14b0 : decide ((wrap64 (x9_2 + 1)) < (l0.length : Int)) = true := decide_eq_true c14
           clear c14
           obtain ⟨ji15, hji15⟩ : ∃ j_ : Int, (wrap64 (x9_2 + 1)) = j_ := ⟨_, rfl⟩
           replace H : (if 0 ≤ (ji15) then (if (wrap64 (Int.tdiv (wrap64 (((rd_T58 l0 (ji15)).f0) * a1)) a2)) = (wrap64 (Int.tdiv (wrap64 (((rd_T58 l0 x9_2).f0) * a1)) a2)) then (payrollref29_Scale.l0 k2 l0 a1 a2 x8_2 ji15) else (if x8_2.length < 8796093022208 then (payrollref29_Scale.l0 k2 l0 a1 a2 (x8_2 ++ [(⟨wrap64 (Int.tdiv (wrap64 (((rd_T58 l0 x9_2).f0) * a1)) a2), (rd_T58 l0 x9_2).f1⟩ : S58)]) ji15) else (none))) else (none)) = some (r1, r2) := by first | (rw [hji15] at H; exact H) | (simp only [hji15] at H ⊢; exact H)
           (try rw [hji15] at c14b0)
           have hji15w : (IntKind.i64.wrap (x9_2 + 1)) = ji15 := (i64_w _).trans hji15
           by_cases c16 : 0 ≤ (ji15)
           ·
            rw [if_pos c16] at H
            have c16b0 : decide (0 ≤ (ji15)) = true := decide_eq_true c16
            clear c16
            by_cases c17 : (wrap64 (Int.tdiv (wrap64 (((rd_T58 l0 (ji15)).f0) * a1)) a2)) = (wrap64 (Int.tdiv (wrap64 (((rd_T58 l0 x9_2).f0) * a1)) a2))
            ·
             rw [if_pos c17] at H
             have c17b0 : ((wrap64 (Int.tdiv (wrap64 (((rd_T58 l0 (ji15)).f0) * a1)) a2)) == (wrap64 (Int.tdiv (wrap64 (((rd_T58 l0 x9_2).f0) * a1)) a2))) = true := beq_iff_eq.mpr c17
             have c17b1 : ((wrap64 (Int.tdiv (wrap64 (((rd_T58 l0 (ji15)).f0) * a1)) a2)) != (wrap64 (Int.tdiv (wrap64 (((rd_T58 l0 x9_2).f0) * a1)) a2))) = false := bne_eq_false_iff_eq.mpr c17
             clear c17
             have H' := Aside0.mk H
             clear H
             have p441 : 0 ≤ (x9_2 : Int) := of_decide_eq_true q6
             have q441 : x9_2 < (l0.length : Int) := of_decide_eq_true q6
             obtain ⟨ad441, e441, hx441_0, hx441_1⟩ := at_T58 HR0.out x9_2 p441 q441
             cases e441
             replace hx441_0 := (HB.out.cell (World.block_lt_of_cell? w _ hx441_0)).trans hx441_0
             replace hx441_1 := (HB.out.cell (World.block_lt_of_cell? w _ hx441_1)).trans hx441_1
             replace p441 := eq_true p441
             replace q441 := eq_true q441
             have p442 : 0 ≤ ((ji15) : Int) := of_decide_eq_true q6
             have q442 : (ji15) < (l0.length : Int) := of_decide_eq_true q6
             obtain ⟨ad442, e442, hx442_0, hx442_1⟩ := at_T58 HR0.out (ji15) p442 q442
             obtain rfl : ad441 = ad442 := (by injection e442)
             replace hx442_0 := (HB.out.cell (World.block_lt_of_cell? w _ hx442_0)).trans hx442_0
             replace hx442_1 := (HB.out.cell (World.block_lt_of_cell? w _ hx442_1)).trans hx442_1
             replace p442 := eq_true p442
             replace q442 := eq_true q442
             go_wp2
             go_roundg k2
             case measure => have := HJ5.out; have := HK2.out; omega
             case rel => exact ⟨(x8_2), (ji15), (by first | rfl | (simp; done) | (simp only [← hji15] <;> (first | rfl | simp)) | (simp [*]; done)), H', ⟨by have := HJ5.out; have := HK2.out; omega⟩, ⟨q94⟩, ⟨q0⟩⟩
            ·
             rw [if_neg c17] at H
             have c17b0 : ((wrap64 (Int.tdiv (wrap64 (((rd_T58 l0 (ji15)).f0) * a1)) a2)) == (wrap64 (Int.tdiv (wrap64 (((rd_T58 l0 x9_2).f0) * a1)) a2))) = false := beq_eq_false_iff_ne.mpr c17
             have c17b1 : ((wrap64 (Int.tdiv (wrap64 (((rd_T58 l0 (ji15)).f0) * a1)) a2)) != (wrap64 (Int.tdiv (wrap64 (((rd_T58 l0 x9_2).f0) * a1)) a2))) = true := bne_iff_ne.mpr c17
             by_cases c18 : x8_2.length < 8796093022208
             ·
              rw [if_pos c18] at H
              have LMc18 := Aside0.mk c18
              clear c18
              obtain ⟨y444, hy444⟩ : ∃ y_ : List (S58), y_ = (x8_2 ++ [(⟨wrap64 (Int.tdiv (wrap64 (((rd_T58 l0 x9_2).f0) * a1)) a2), (rd_T58 l0 x9_2).f1⟩ : S58)]) := ⟨_, rfl⟩
              replace H : (payrollref29_Scale.l0 k2 l0 a1 a2 y444 ji15) = some (r1, r2) := by first | (rw [hy444]; with_reducible exact H) | (have H2_ := (Option.bind_some _ _).symm.trans H; rw [hy444]; with_reducible exact H2_) | (have H2_ := (Option.bind_some _ _).symm.trans H; with_reducible exact H2_) | with_reducible exact H | (rw [hy444]; exact H) | exact H
              have Ny444 := Aside0.mk hy444
              clear hy444
              have H' := Aside0.mk H
              clear H
              have p441 : 0 ≤ (x9_2 : Int) := of_decide_eq_true q6
              have q441 : x9_2 < (l0.length : Int) := of_decide_eq_true q6
              obtain ⟨ad441, e441, hx441_0, hx441_1⟩ := at_T58 HR0.out x9_2 p441 q441
              cases e441
              replace hx441_0 := (HB.out.cell (World.block_lt_of_cell? w _ hx441_0)).trans hx441_0
              replace hx441_1 := (HB.out.cell (World.block_lt_of_cell? w _ hx441_1)).trans hx441_1
              replace p441 := eq_true p441
              replace q441 := eq_true q441
              have p442 : 0 ≤ ((ji15) : Int) := of_decide_eq_true q6
              have q442 : (ji15) < (l0.length : Int) := of_decide_eq_true q6
              obtain ⟨ad442, e442, hx442_0, hx442_1⟩ := at_T58 HR0.out (ji15) p442 q442
              obtain rfl : ad441 = ad442 := (by injection e442)
              replace hx442_0 := (HB.out.cell (World.block_lt_of_cell? w _ hx442_0)).trans hx442_0
              replace hx442_1 := (HB.out.cell (World.block_lt_of_cell? w _ hx442_1)).trans hx442_1
              replace p442 := eq_true p442
              replace q442 := eq_true q442
              have p443 : 0 ≤ (x9_2 : Int) := of_decide_eq_true q6
              have q443 : x9_2 < (l0.length : Int) := of_decide_eq_true q6
              obtain ⟨ad443, e443, hx443_0, hx443_1⟩ := at_T58 HR0.out x9_2 p443 q443
              obtain rfl : ad441 = ad443 := (by injection e443)
              replace hx443_0 := (HB.out.cell (World.block_lt_of_cell? w _ hx443_0)).trans hx443_0
              replace hx443_1 := (HB.out.cell (World.block_lt_of_cell? w _ hx443_1)).trans hx443_1
              replace p443 := eq_true p443
              replace q443 := eq_true q443
              go_wp2_with (first | ((with_reducible refine gate_builtin (b := .append) (xs := #[.tmp 63, .tmp 71]) rfl ?_); at_builtin; refine Kd.R_append k58 (w0 := w) w.heap.size rfl (.tmp 63) (.tmp 71) 30 58 (.agg #[(.int .i64 0), (.int .i64 0)]) 16 rfl Try.underlying30 info58 rfl (by decide) (by omega) u8 x8_2 (⟨wrap64 (Int.tdiv (wrap64 (((rd_T58 l0 x9_2).f0) * a1)) a2), (rd_T58 l0 x9_2).f1⟩ : S58) [.int .i64 (wrap64 (Int.tdiv (wrap64 (((rd_T58 l0 x9_2).f0) * a1)) a2)), .int .i64 ((rd_T58 l0 x9_2).f1)] (fun _ => True) (fun _ => False) rfl rfl ?aP (fun _ hk => hk.elim) ?aF ?aO ?aB ?aS ?aL ?_; (case aP => exact k58_mkM _ _ _ (⟨wrap64 (Int.tdiv (wrap64 (((rd_T58 l0 x9_2).f0) * a1)) a2), (rd_T58 l0 x9_2).f1⟩ : S58)); (case aB => exact q0); (case aF => exact (fun _ _ => trivial)); (case aO => exact q94); (case aS => exact (below_size q0)); (case aL => have := LMc18.out; omega); intro v445 w19 ho hb hg hat; rw [← Ny444.out] at ho; have n0_ := Aside0.mk (hb); have n1_ := Aside0.mk (ho); clear HB; clear HO_8; have HB := n0_; have HO446 := n1_; clear n0_ n1_; clear ho hb hg hat))
              go_roundg k2
              case measure => have := HJ5.out; have := HK2.out; omega
              case rel => exact ⟨(y444), (ji15), (by first | rfl | (simp; done) | (simp only [← hji15] <;> (first | rfl | simp)) | (simp [*]; done)), H', ⟨by have := HJ5.out; have := HK2.out; omega⟩, ⟨(by (with_reducible repeat (first | apply Kd.R_alloc | apply Kd.R_drewN | apply Kd.R_drew)); exact HO446.out)⟩, ⟨q0⟩⟩
             ·
              rw [if_neg c18] at H
              exact absurd H (by simp)
           ·
            rw [if_neg c16] at H
            exact absurd H (by simp)
          ·
           rw [if_neg c14] at H
           have c14b0 : decide ((wrap64 (x9_2 + 1)) < (l0.length : Int)) = false := decide_eq_false c14
           clear c14
           by_cases c20 : x8_2.length < 8796093022208
           ·
            rw [if_pos c20] at H
            have LMc20 := Aside0.mk c20
            clear c20
            obtain ⟨y448, hy448⟩ : ∃ y_ : List (S58), y_ = (x8_2 ++ [(⟨wrap64 (Int.tdiv (wrap64 (((rd_T58 l0 x9_2).f0) * a1)) a2), (rd_T58 l0 x9_2).f1⟩ : S58)]) := ⟨_, rfl⟩
            replace H : (payrollref29_Scale.l0 k2 l0 a1 a2 y448 (wrap64 (x9_2 + 1))) = some (r1, r2) := by first | (rw [hy448]; with_reducible exact H) | (have H2_ := (Option.bind_some _ _).symm.trans H; rw [hy448]; with_reducible exact H2_) | (have H2_ := (Option.bind_some _ _).symm.trans H; with_reducible exact H2_) | with_reducible exact H | (rw [hy448]; exact H) | exact H
            have Ny448 := Aside0.mk hy448
            clear hy448
            have H' := Aside0.mk H
            clear H
            have p441 : 0 ≤ (x9_2 : Int) := of_decide_eq_true q6
            have q441 : x9_2 < (l0.length : Int) := of_decide_eq_true q6
            obtain ⟨ad441, e441, hx441_0, hx441_1⟩ := at_T58 HR0.out x9_2 p441 q441
            cases e441
            replace hx441_0 := (HB.out.cell (World.block_lt_of_cell? w _ hx441_0)).trans hx441_0
            replace hx441_1 := (HB.out.cell (World.block_lt_of_cell? w _ hx441_1)).trans hx441_1
            replace p441 := eq_true p441
            replace q441 := eq_true q441
            have p447 : 0 ≤ (x9_2 : Int) := of_decide_eq_true q6
            have q447 : x9_2 < (l0.length : Int) := of_decide_eq_true q6
            obtain ⟨ad447, e447, hx447_0, hx447_1⟩ := at_T58 HR0.out x9_2 p447 q447
            obtain rfl : ad441 = ad447 := (by injection e447)
            replace hx447_0 := (HB.out.cell (World.block_lt_of_cell? w _ hx447_0)).trans hx447_0
            replace hx447_1 := (HB.out.cell (World.block_lt_of_cell? w _ hx447_1)).trans hx447_1
            replace p447 := eq_true p447
            replace q447 := eq_true q447
            go_wp2_with (first | ((with_reducible refine gate_builtin (b := .append) (xs := #[.tmp 63, .tmp 71]) rfl ?_); at_builtin; refine Kd.R_append k58 (w0 := w) w.heap.size rfl (.tmp 63) (.tmp 71) 30 58 (.agg #[(.int .i64 0), (.int .i64 0)]) 16 rfl Try.underlying30 info58 rfl (by decide) (by omega) u8 x8_2 (⟨wrap64 (Int.tdiv (wrap64 (((rd_T58 l0 x9_2).f0) * a1)) a2), (rd_T58 l0 x9_2).f1⟩ : S58) [.int .i64 (wrap64 (Int.tdiv (wrap64 (((rd_T58 l0 x9_2).f0) * a1)) a2)), .int .i64 ((rd_T58 l0 x9_2).f1)] (fun _ => True) (fun _ => False) rfl rfl ?aP (fun _ hk => hk.elim) ?aF ?aO ?aB ?aS ?aL ?_; (case aP => exact k58_mkM _ _ _ (⟨wrap64 (Int.tdiv (wrap64 (((rd_T58 l0 x9_2).f0) * a1)) a2), (rd_T58 l0 x9_2).f1⟩ : S58)); (case aB => exact q0); (case aF => exact (fun _ _ => trivial)); (case aO => exact q94); (case aS => exact (below_size q0)); (case aL => have := LMc20.out; omega); intro v449 w21 ho hb hg hat; rw [← Ny448.out] at ho; have n0_ := Aside0.mk (hb); have n1_ := Aside0.mk (ho); clear HB; clear HO_8; have HB := n0_; have HO450 := n1_; clear n0_ n1_; clear ho hb hg hat))
            go_roundg k2
            case measure => have := HJ5.out; have := HK2.out; omega
            case rel => exact ⟨(y448), (wrap64 (x9_2 + 1)), q26, H', ⟨by have := HJ5.out; have := HK2.out; omega⟩, ⟨(by (with_reducible repeat (first | apply Kd.R_alloc | apply Kd.R_drewN | apply Kd.R_drew)); exact HO450.out)⟩, ⟨q0⟩⟩
           ·
            rw [if_neg c20] at H
            exact absurd H (by simp)
        ·
         rw [if_neg c12] at H
         exact absurd H (by simp)
       ·
        rw [if_neg c11] at H
        have c11b0 : decide (x9_2 < (l0.length : Int)) = false := decide_eq_false c11
        clear c11
        simp only [Option.some.injEq, Prod.mk.injEq] at H
        obtain ⟨rfl, rfl⟩ := H
        go_wp2
        go_ret2
        exact ⟨_, by first | rfl | (simp [errW_none, errW_some] <;> rfl) | (simp [*, errW_none, errW_some] <;> rfl), q94, q0⟩
 ·
  replace c5 := Bool.eq_false_iff.mpr c5
  subst c5
  rw [if_neg (show ¬ (false = true) by decide)] at H
  simp only [Option.some.injEq, Prod.mk.injEq] at H
  obtain ⟨rfl, rfl⟩ := H
  exact (by go_enter Try.func53, Try.ntmps53; go_wp2_with (first | ((with_reducible refine gate_callee (f := 58) rfl ?_); refine goesL_ (some 12) rfl rfl Try.func58 (by kernel_rfl) rfl #[.slice A0 l0.length c0] rfl q1 ?_; (with_reducible refine (payrollref29_Valid.calls k _ _ l0 false _ ?side1 ?side2 A4.out).mono ?_); (case side1 => exact q33); (case side2 => exact HC0.out); rintro e w' ⟨rfl, ⟨nd, rfl⟩⟩; refine ⟨_, rfl, ?_⟩)); go_ret2; exact ⟨_, by first | rfl | (simp [errW_none, errW_some] <;> rfl) | (simp [*, errW_none, errW_some] <;> rfl), by first | exact Kd.R_nil _ _ _ _ _ | exact Kd.N_nil _ _ _ _ _ | exact Kd.V_nil _ _ _ _ _ | exact Kd.Q_nil _ _ _ _ _ | exact Kd.S_nil _ _ _ _ _, q0⟩)

end Go.Proofs.Ytbacfajhgmnjpaa.P
