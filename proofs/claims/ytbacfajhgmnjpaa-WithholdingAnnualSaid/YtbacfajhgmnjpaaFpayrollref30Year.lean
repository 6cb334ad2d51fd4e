/- Proved here: that the Go function payrollref30_Year computes the plain function of that name (the machine side of the laws, reworked from a print; no condition of its own). -/
import Derived.Test.YtbacfajhgmnjpaaProg
import Derived.Test.YtbacfajhgmnjpaaV1
import Derived.Test.YtbacfajhgmnjpaaV2
import Derived.Test.YtbacfajhgmnjpaaFPRE
import Derived.Test.YtbacfajhgmnjpaaFref
import Derived.Test.YtbacfajhgmnjpaaFpayrollref30Valid
import Derived.Test.YtbacfajhgmnjpaaFpayrollref30Cumulative
namespace Go.Proofs.Ytbacfajhgmnjpaa.P
open Go.RowKit Go.Proofs.YtbacfajhgmnjpaaW.PrintWords Go.Proofs.YtbacfajhgmnjpaaW.PrintLast Go.Proofs.YtbacfajhgmnjpaaW.PrintMore
attribute [local go_sem] max2_int min2_int max_two min_two max_three min_three max_four min_four   -- for this text's walks alone
set_option linter.unusedVariables false
set_option linter.unusedSimpArgs false

mutual
def payrollref30_Year.j0 : Nat → Int → List Int → Bool → Int → List (S58) → Int → Int → Int → Int → List (S80) → Option (List Int × Int)
 | 0, _, _, _, _, _, _, _, _, _, _ => none
 | k + 1, x1, x2, x29, x624000, x624001, x624002, x624003, x624004, x624005, x624006 => if x29 = true then (some (([] : List Int), 3)) else (payrollref30_Year.l0 k x1 x2 0 x624000 x624001 x624002 x624003 x624004 x624005 x624006)
def payrollref30_Year.l0 : Nat → Int → List Int → Int → Int → List (S58) → Int → Int → Int → Int → List (S80) → Option (List Int × Int)
 | 0, _, _, _, _, _, _, _, _, _, _ => none
 | k + 1, x1, x2, x8, x624000, x624001, x624002, x624003, x624004, x624005, x624006 => if x8 < (x2.length : Int) then (if 0 ≤ x8 then ((payrollref30_in.f (rd x2 x8) 1000000000).bind fun t626 => (if t626 = true then (payrollref30_Year.l0 k x1 x2 (wrap64 (x8 + 1)) x624000 x624001 x624002 x624003 x624004 x624005 x624006) else (some (([] : List Int), 2)))) else (none)) else (payrollref30_Year.l1 k x1 x2 ([] : List Int) 0 0 0 x624000 x624001 x624002 x624003 x624004 x624005 x624006)
def payrollref30_Year.l1 : Nat → Int → List Int → List Int → Int → Int → Int → Int → List (S58) → Int → Int → Int → Int → List (S80) → Option (List Int × Int)
 | 0, _, _, _, _, _, _, _, _, _, _, _, _, _ => none
 | k + 1, x1, x2, x9, x10, x11, x12, x624000, x624001, x624002, x624003, x624004, x624005, x624006 => if x12 < (x2.length : Int) then (if 0 ≤ x12 then ((payrollref30_Cumulative.f k x624000 x624001 x624002 x624003 x624004 x624005 x624006 x1 (wrap64 (x12 + 1)) (wrap64 (x10 + (rd x2 x12))) x11).bind fun bt628 => (if x9.length < 17592186044416 then (payrollref30_Year.l1 k x1 x2 (x9 ++ [bt628.1]) (wrap64 (x10 + (rd x2 x12))) (wrap64 (x11 + bt628.1)) (wrap64 (x12 + 1)) x624000 x624001 x624002 x624003 x624004 x624005 x624006) else (none))) else (none)) else (some (x9, 0))
end
def payrollref30_Year.f (k : Nat) (a0_0 : Int) (l0_1 : List (S58)) (a0_2 : Int) (a0_3 : Int) (a0_4 : Int) (a0_5 : Int) (l0_6 : List (S80)) (a1 : Int) (l2 : List Int) : Option (List Int × Int) := (payrollref30_Valid.f k a0_0 l0_1 a0_2 a0_3 a0_4 a0_5 l0_6).bind fun t624 => (if t624 = true then (if a1 < 1 then (payrollref30_Year.j0 k a1 l2 true a0_0 l0_1 a0_2 a0_3 a0_4 a0_5 l0_6) else (if a1 > 53 then (payrollref30_Year.j0 k a1 l2 true a0_0 l0_1 a0_2 a0_3 a0_4 a0_5 l0_6) else (payrollref30_Year.j0 k a1 l2 (decide ((l2.length : Int) > a1)) a0_0 l0_1 a0_2 a0_3 a0_4 a0_5 l0_6))) else (some (([] : List Int), 1)))
set_option maxHeartbeats 8000000 in
set_option maxRecDepth 100000 in
theorem payrollref30_Year.calls (k : Nat) (a0_0 : Int) (A0_1 : Option Addr) (c0_1 : Nat) (l0_1 : List (S58)) (a0_2 : Int) (a0_3 : Int) (a0_4 : Int) (a0_5 : Int) (A0_6 : Option Addr) (c0_6 : Nat) (l0_6 : List (S80)) (a1 : Int) (A2 : Option Addr) (c2 : Nat) (l2 : List Int) (r1 : List Int) (r2 : Int) (w : World) (hr0_1 : Kd.C k58 w A0_1 l0_1.length l0_1) (hc0_1 : l0_1.length ≤ c0_1) (hr0_6 : Kd.C k80 w A0_6 l0_6.length l0_6) (hc0_6 : l0_6.length ≤ c0_6) (hr2 : Kd.C (Kd.int .i64) w A2 l2.length l2) (hc2 : l2.length ≤ c2) (h : payrollref30_Year.f k a0_0 l0_1 a0_2 a0_3 a0_4 a0_5 l0_6 a1 l2 = some (r1, r2)) :
  Calls Try.prog 32 #[.agg #[.int .i64 a0_0, .slice A0_1 l0_1.length c0_1, .int .i64 a0_2, .int .i64 a0_3, .int .i64 a0_4, .int .i64 a0_5, .slice A0_6 l0_6.length c0_6], .int .i64 a1, .slice A2 l2.length c2] w fun e w' => ∃ v0_ : Value, e = .returned (.tuple #[v0_, .int .i64 r2]) ∧ Kd.R (Kd.int .i64) 3 w' w.heap.size (fun _ => True) v0_ r1 ∧ Below w.heap.size w w' := by
 have hu33 := Try.underlying33
 have HR0_1 := Aside0.mk hr0_1
 have HC0_1 := Aside0.mk hc0_1
 clear hr0_1 hc0_1
 have HR0_6 := Aside0.mk hr0_6
 have HC0_6 := Aside0.mk hc0_6
 clear hr0_6 hc0_6
 have HR2 := Aside0.mk hr2
 have HC2 := Aside0.mk hc2
 clear hr2 hc2
 have HB := Aside0.mk (Below.refl w.heap.size w)
 have H : ((payrollref30_Valid.f k a0_0 l0_1 a0_2 a0_3 a0_4 a0_5 l0_6).bind fun t624 => (if t624 = true then (if a1 < 1 then (payrollref30_Year.j0 k a1 l2 true a0_0 l0_1 a0_2 a0_3 a0_4 a0_5 l0_6) else (if a1 > 53 then (payrollref30_Year.j0 k a1 l2 true a0_0 l0_1 a0_2 a0_3 a0_4 a0_5 l0_6) else (payrollref30_Year.j0 k a1 l2 (decide ((l2.length : Int) > a1)) a0_0 l0_1 a0_2 a0_3 a0_4 a0_5 l0_6))) else (some (([] : List Int), 1)))) = some (r1, r2) := h
 clear h
 replace H := Option.bind_eq_some_iff.mp H
 obtain ⟨t624, A40, H⟩ := H
 try dsimp only at H
 have A4 := Aside0.mk A40
 clear A40
 by_cases c5 : t624 = true
 ·
  subst c5
  have H1 : (if a1 < 1 then (payrollref30_Year.j0 k a1 l2 true a0_0 l0_1 a0_2 a0_3 a0_4 a0_5 l0_6) else (if a1 > 53 then (payrollref30_Year.j0 k a1 l2 true a0_0 l0_1 a0_2 a0_3 a0_4 a0_5 l0_6) else (payrollref30_Year.j0 k a1 l2 (decide ((l2.length : Int) > a1)) a0_0 l0_1 a0_2 a0_3 a0_4 a0_5 l0_6))) = some (r1, r2) := by rw [if_pos rfl] at H; exact H
  clear H
  have H := H1
  clear H1
  have HC6 := Aside0.mk H
  clear H
  go_enter Try.func32, Try.ntmps32
  go_upto_region 3 with (first | ((with_reducible refine gate_dst (N := 3) rfl ?_); (try (refine gate_guard (by rfl) ?_; dsimp only)); refine box_event ?hg (N := 3) ?hd (cs := #[.int .i64 a0_0, .slice A0_1 l0_1.length c0_1, .int .i64 a0_2, .int .i64 a0_3, .int .i64 a0_4, .int .i64 a0_5, .slice A0_6 l0_6.length c0_6]) (t := 33) ?hr ?_; (case hd => rfl); (case hg => rfl); (case hr => first | (go_simp; done) | (go_simp; rfl)); intro gb623 hg w7 hbox hb; have n0_ := Aside0.mk (below_step q0 hb); have n1_ := Aside0.mk (hbox); have n2_ := Aside0.mk ((by rw [hg]; exact (below_size q0) : w.heap.size ≤ gb623)); have n3_ := Aside0.mk ((by rw [hg]; exact (below_size q0) : w.heap.size ≤ gb623)); clear HB; have HB := n0_; have BK623 := n1_; have GW623 := n2_; have GE623 := n3_; clear n0_ n1_ n2_ n3_; clear hb hbox hg; have hcz8_0 : w7.cell? ⟨gb623, 0, none⟩ = some (.int .i64 a0_0) := (blk_cell BK623.out 0).trans rfl; have hcz8_1 : w7.cell? ⟨gb623, 1, none⟩ = some (.slice A0_1 l0_1.length c0_1) := (blk_cell BK623.out 1).trans rfl; have hcz8_2 : w7.cell? ⟨gb623, 2, none⟩ = some (.int .i64 a0_2) := (blk_cell BK623.out 2).trans rfl; have hcz8_3 : w7.cell? ⟨gb623, 3, none⟩ = some (.int .i64 a0_3) := (blk_cell BK623.out 3).trans rfl; have hcz8_4 : w7.cell? ⟨gb623, 4, none⟩ = some (.int .i64 a0_4) := (blk_cell BK623.out 4).trans rfl; have hcz8_5 : w7.cell? ⟨gb623, 5, none⟩ = some (.int .i64 a0_5) := (blk_cell BK623.out 5).trans rfl; have hcz8_6 : w7.cell? ⟨gb623, 6, none⟩ = some (.slice A0_6 l0_6.length c0_6) := (blk_cell BK623.out 6).trans rfl; have hfz8_0 := blk_frozen BK623.out 0; have hfz8_1 := blk_frozen BK623.out 1; have hfz8_2 := blk_frozen BK623.out 2; have hfz8_3 := blk_frozen BK623.out 3; have hfz8_4 := blk_frozen BK623.out 4; have hfz8_5 := blk_frozen BK623.out 5; have hfz8_6 := blk_frozen BK623.out 6) | ((with_reducible refine gate_callee (f := 46) rfl ?_); refine goesL_ (some 16) rfl rfl Try.func46 (by kernel_rfl) rfl #[.agg #[.int .i64 a0_0, .slice A0_1 l0_1.length c0_1, .int .i64 a0_2, .int .i64 a0_3, .int .i64 a0_4, .int .i64 a0_5, .slice A0_6 l0_6.length c0_6]] rfl q1 ?_; (with_reducible refine (payrollref30_Valid.calls k a0_0 _ _ l0_1 a0_2 a0_3 a0_4 a0_5 _ _ l0_6 true _ ?side1 ?side2 ?side3 ?side4 A4.out).mono ?_); (case side1 => exact q12); (case side2 => exact HC0_1.out); (case side3 => exact q25); (case side4 => exact HC0_6.out); rintro e w9 ⟨rfl, hb⟩; refine ⟨_, rfl, ?_⟩; have n0_ := Aside0.mk (blk_below (g := gb623) (o := .cells #[.int .i64 a0_0, .slice A0_1 l0_1.length c0_1, .int .i64 a0_2, .int .i64 a0_3, .int .i64 a0_4, .int .i64 a0_5, .slice A0_6 l0_6.length c0_6] 33 (0, 0)) q100 hb); have n1_ := Aside0.mk (below_step q59 hb); clear BK623; clear HB; have BK623 := n0_; have HB := n1_; clear n0_ n1_; (try clear hb); (try clear hb2); (try clear hk); (try clear hi)))
  (try simp only [Act.put, List.setIfInBounds_toArray, List.set_cons_zero, List.set_cons_succ])
  go_cut [29] (fun v29 wc => ∃ (kq : Nat) (x29_5 : Bool), v29 = .bool x29_5 ∧ Aside0 (payrollref30_Year.j0 kq a1 l2 x29_5 a0_0 l0_1 a0_2 a0_3 a0_4 a0_5 l0_6 = some (r1, r2)) ∧ Aside0 (kq ≤ k) ∧ Aside0 (wc.heap[gb623]? = some (.cells #[.int .i64 a0_0, (.slice A0_1 l0_1.length c0_1), .int .i64 a0_2, .int .i64 a0_3, .int .i64 a0_4, .int .i64 a0_5, (.slice A0_6 l0_6.length c0_6)] 33 (0, 0))) ∧ Aside0 (Below w.heap.size w wc))
  case first =>
   have H := HC6.out
   clear HC6
   by_cases c10 : a1 < 1
   ·
    rw [if_pos c10] at H
    have c10b0 : decide (a1 < 1) = true := decide_eq_true c10
    clear c10
    (first | rw [c10b0] | (simp only [i64_w, i32_w]; rw [c10b0]) | skip)
    have H' := Aside0.mk H
    clear H
    go_wp2
    go_meet
    case rel => exact ⟨_, (true), q26, H', ⟨by first | omega | exact Nat.le_refl _⟩, ⟨q100⟩, ⟨q59⟩⟩
   ·
    rw [if_neg c10] at H
    have c10b0 : decide (a1 < 1) = false := decide_eq_false c10
    clear c10
    (first | rw [c10b0] | (simp only [i64_w, i32_w]; rw [c10b0]) | skip)
    by_cases c11 : a1 > 53
    ·
     rw [if_pos c11] at H
     have c11b0 : decide (53 < a1) = true := decide_eq_true c11
     clear c11
     have H' := Aside0.mk H
     clear H
     go_wp2
     go_meet
     case rel => exact ⟨_, (true), q26, H', ⟨by first | omega | exact Nat.le_refl _⟩, ⟨q100⟩, ⟨q59⟩⟩
    ·
     rw [if_neg c11] at H
     have c11b0 : decide (53 < a1) = false := decide_eq_false c11
     clear c11
     have H' := Aside0.mk H
     clear H
     go_wp2
     go_meet
     case rel => exact ⟨_, (decide ((l2.length : Int) > a1)), q26, H', ⟨by first | omega | exact Nat.le_refl _⟩, ⟨q100⟩, ⟨q59⟩⟩
  case rest =>
   clear HC6
   try clear c1
   try clear c2
   try clear p2
   try clear c3
   try clear c4
   try clear c5
   try clear c10
   try clear c10b0
   try clear c11
   try clear c11b0
   try clear hcz8_0
   try clear hcz8_1
   try clear hcz8_2
   try clear hcz8_3
   try clear hcz8_4
   try clear hcz8_5
   try clear hcz8_6
   try clear hfz8_0
   try clear hfz8_1
   try clear hfz8_2
   try clear hfz8_3
   try clear hfz8_4
   try clear hfz8_5
   try clear hfz8_6
   obtain ⟨kq, x29_5, rfl, HA, HJ5, BK623, HB⟩ := hcut
   cases kq with
   | zero => exact absurd HA.out (by simp [payrollref30_Year.j0])
   | succ kj5 =>
    have H := HA.out
    clear HA
    simp only [payrollref30_Year.j0] at H
    by_cases c12 : x29_5 = true
    ·
     subst c12
     have H1 : (some (([] : List Int), 3)) = some (r1, r2) := by rw [if_pos rfl] at H; exact H
     clear H
     have H := H1
     clear H1
     simp only [Option.some.injEq, Prod.mk.injEq] at H
     obtain ⟨rfl, rfl⟩ := H
     go_wp2
     go_ret2
     exact ⟨_, by first | rfl | (simp [errW_none, errW_some] <;> rfl) | (simp [*, errW_none, errW_some] <;> rfl), by first | exact Kd.R_nil _ _ _ _ _ | exact Kd.N_nil _ _ _ _ _ | exact Kd.V_nil _ _ _ _ _ | exact Kd.Q_nil _ _ _ _ _ | exact Kd.S_nil _ _ _ _ _, q59⟩
    ·
     replace c12 := Bool.eq_false_iff.mpr c12
     subst c12
     have H1 : (payrollref30_Year.l0 kj5 a1 l2 0 a0_0 l0_1 a0_2 a0_3 a0_4 a0_5 l0_6) = some (r1, r2) := by rw [if_neg (show ¬ (false = true) by decide)] at H; exact H
     clear H
     have H := H1
     clear H1
     have H' := Aside0.mk H
     clear H
     go_wp2
     go_loopg [8] kj5 (fun kq v8 w' => ∃ (x8_2 : Int), v8 = .int .i64 x8_2 ∧ Aside0 (payrollref30_Year.l0 kq a1 l2 x8_2 a0_0 l0_1 a0_2 a0_3 a0_4 a0_5 l0_6 = some (r1, r2)) ∧ Aside0 (kq ≤ kj5) ∧ Aside0 (w'.heap[gb623]? = some (.cells #[.int .i64 a0_0, (.slice A0_1 l0_1.length c0_1), .int .i64 a0_2, .int .i64 a0_3, .int .i64 a0_4, .int .i64 a0_5, (.slice A0_6 l0_6.length c0_6)] 33 (0, 0))) ∧ Aside0 (Below w.heap.size w w'))
     case atStart => exact ⟨(0), q26, H', ⟨Nat.le_refl _⟩, ⟨q100⟩, ⟨q59⟩⟩
     case round =>
      clear H'
      try clear c1
      try clear c2
      try clear p2
      try clear c3
      try clear c4
      try clear c5
      try clear c10
      try clear c10b0
      try clear c11
      try clear c11b0
      try clear c12
      try clear hcz8_0
      try clear hcz8_1
      try clear hcz8_2
      try clear hcz8_3
      try clear hcz8_4
      try clear hcz8_5
      try clear hcz8_6
      try clear hfz8_0
      try clear hfz8_1
      try clear hfz8_2
      try clear hfz8_3
      try clear hfz8_4
      try clear hfz8_5
      try clear hfz8_6
      try clear p2
      obtain ⟨x8_2, rfl, HA, HK2, BK623, HB⟩ := hrel
      cases gk with
      | zero => exact absurd HA.out (by simp [payrollref30_Year.l0])
      | succ k2 =>
       have H := HA.out
       clear HA
       simp only [payrollref30_Year.l0] at H
       by_cases c13 : x8_2 < (l2.length : Int)
       ·
        rw [if_pos c13] at H
        have c13b0 : decide (x8_2 < (l2.length : Int)) = true := decide_eq_true c13
        clear c13
        by_cases c14 : 0 ≤ x8_2
        ·
         rw [if_pos c14] at H
         have c14b0 : decide (0 ≤ x8_2) = true := decide_eq_true c14
         clear c14
         replace H := Option.bind_eq_some_iff.mp H
         obtain ⟨t626, A150, H⟩ := H
         try dsimp only at H
         have A15 := Aside0.mk A150
         clear A150
         by_cases c16 : t626 = true
         ·
          subst c16
          have H1 : (payrollref30_Year.l0 k2 a1 l2 (wrap64 (x8_2 + 1)) a0_0 l0_1 a0_2 a0_3 a0_4 a0_5 l0_6) = some (r1, r2) := by rw [if_pos rfl] at H; exact H
          clear H
          have H := H1
          clear H1
          have H' := Aside0.mk H
          clear H
          have p625 : 0 ≤ (x8_2 : Int) := of_decide_eq_true q6
          have q625 : x8_2 < (l2.length : Int) := of_decide_eq_true q6
          obtain ⟨ad625, e625, hx625_0⟩ := Kd.at_int HR2.out x8_2 p625 q625
          cases e625
          replace hx625_0 := (HB.out.cell (World.block_lt_of_cell? w _ hx625_0)).trans hx625_0
          replace p625 := eq_true p625
          replace q625 := eq_true q625
          go_wp2_with (first | ((with_reducible refine gate_callee (f := 47) rfl ?_); refine goesL_ (some 40) rfl rfl Try.func47 (by kernel_rfl) rfl #[.int .i64 (rd l2 x8_2), .int .i64 1000000000] rfl q1 ?_; (with_reducible refine (payrollref30_in.calls (rd l2 x8_2) 1000000000 true _ A15.out).mono ?_); rintro e w' ⟨rfl, ⟨nd, rfl⟩⟩; refine ⟨_, rfl, ?_⟩))
          go_roundg k2
          case measure => have := HJ5.out; have := HK2.out; omega
          case rel => exact ⟨(wrap64 (x8_2 + 1)), q26, H', ⟨by have := HJ5.out; have := HK2.out; omega⟩, ⟨q100⟩, ⟨q59⟩⟩
         ·
          replace c16 := Bool.eq_false_iff.mpr c16
          subst c16
          have H1 : (some (([] : List Int), 2)) = some (r1, r2) := by rw [if_neg (show ¬ (false = true) by decide)] at H; exact H
          clear H
          have H := H1
          clear H1
          simp only [Option.some.injEq, Prod.mk.injEq] at H
          obtain ⟨rfl, rfl⟩ := H
          have p625 : 0 ≤ (x8_2 : Int) := of_decide_eq_true q6
          have q625 : x8_2 < (l2.length : Int) := of_decide_eq_true q6
          obtain ⟨ad625, e625, hx625_0⟩ := Kd.at_int HR2.out x8_2 p625 q625
          cases e625
          replace hx625_0 := (HB.out.cell (World.block_lt_of_cell? w _ hx625_0)).trans hx625_0
          replace p625 := eq_true p625
          replace q625 := eq_true q625
          exact (by go_wp2_with (first | ((with_reducible refine gate_callee (f := 47) rfl ?_); refine goesL_ (some 40) rfl rfl Try.func47 (by kernel_rfl) rfl #[.int .i64 (rd l2 x8_2), .int .i64 1000000000] rfl q1 ?_; (with_reducible refine (payrollref30_in.calls (rd l2 x8_2) 1000000000 false _ A15.out).mono ?_); rintro e w' ⟨rfl, ⟨nd, rfl⟩⟩; refine ⟨_, rfl, ?_⟩)); go_ret2; exact ⟨_, by first | rfl | (simp [errW_none, errW_some] <;> rfl) | (simp [*, errW_none, errW_some] <;> rfl), by first | exact Kd.R_nil _ _ _ _ _ | exact Kd.N_nil _ _ _ _ _ | exact Kd.V_nil _ _ _ _ _ | exact Kd.Q_nil _ _ _ _ _ | exact Kd.S_nil _ _ _ _ _, q59⟩)
        ·
         rw [if_neg c14] at H
         exact absurd H (by simp)
       ·
        rw [if_neg c13] at H
        have c13b0 : decide (x8_2 < (l2.length : Int)) = false := decide_eq_false c13
        clear c13
        have H' := Aside0.mk H
        clear H
        go_wp2
        go_loopg [9, 10, 11, 12] k2 (fun kq v9 v10 v11 v12 w' => ∃ (x9_3 : List Int) (x10_3 : Int) (x11_3 : Int) (x12_3 : Int), v10 = .int .i64 x10_3 ∧ v11 = .int .i64 x11_3 ∧ v12 = .int .i64 x12_3 ∧ Aside0 (payrollref30_Year.l1 kq a1 l2 x9_3 x10_3 x11_3 x12_3 a0_0 l0_1 a0_2 a0_3 a0_4 a0_5 l0_6 = some (r1, r2)) ∧ Aside0 (kq ≤ k2) ∧ Aside0 (Kd.R (Kd.int .i64) 3 w' w.heap.size (fun _ => True) v9 x9_3) ∧ Aside0 (w'.heap[gb623]? = some (.cells #[.int .i64 a0_0, (.slice A0_1 l0_1.length c0_1), .int .i64 a0_2, .int .i64 a0_3, .int .i64 a0_4, .int .i64 a0_5, (.slice A0_6 l0_6.length c0_6)] 33 (0, 0))) ∧ Aside0 (Below w.heap.size w w'))
        case atStart => exact ⟨(([] : List Int)), (0), (0), (0), q26, q26, q26, H', ⟨Nat.le_refl _⟩, ⟨by first | exact Kd.R_nil _ _ _ _ _ | exact Kd.N_nil _ _ _ _ _ | exact Kd.V_nil _ _ _ _ _ | exact Kd.Q_nil _ _ _ _ _ | exact Kd.S_nil _ _ _ _ _⟩, ⟨q100⟩, ⟨q59⟩⟩
        case round =>
         clear H'
         try clear c1
         try clear c2
         try clear p2
         try clear c3
         try clear c4
         try clear c5
         try clear p6
         try clear q6
         try clear hx6
         try clear c10
         try clear c10b0
         try clear c11
         try clear c11b0
         try clear c12
         try clear c13
         try clear c13b0
         try clear c14
         try clear c14b0
         try clear c16
         try clear hcz8_0
         try clear hcz8_1
         try clear hcz8_2
         try clear hcz8_3
         try clear hcz8_4
         try clear hcz8_5
         try clear hcz8_6
         try clear hfz8_0
         try clear hfz8_1
         try clear hfz8_2
         try clear hfz8_3
         try clear hfz8_4
         try clear hfz8_5
         try clear hfz8_6
         try clear hx625_0
         try clear p2
         try clear p625
         try clear q625
         obtain ⟨x9_3, x10_3, x11_3, x12_3, rfl, rfl, rfl, HA, HK3, HO_9, BK623, HB⟩ := hrel
         cases gk with
         | zero => exact absurd HA.out (by simp [payrollref30_Year.l1])
         | succ k3 =>
          have H := HA.out
          clear HA
          simp only [payrollref30_Year.l1] at H
          by_cases c17 : x12_3 < (l2.length : Int)
          ·
           rw [if_pos c17] at H
           have c17b0 : decide (x12_3 < (l2.length : Int)) = true := decide_eq_true c17
           clear c17
           by_cases c18 : 0 ≤ x12_3
           ·
            rw [if_pos c18] at H
            have c18b0 : decide (0 ≤ x12_3) = true := decide_eq_true c18
            clear c18
            replace H := Option.bind_eq_some_iff.mp H
            obtain ⟨⟨t628, t629⟩, A190, H⟩ := H
            try dsimp only at H
            have A19 := Aside0.mk A190
            clear A190
            by_cases c20 : x9_3.length < 17592186044416
            ·
             rw [if_pos c20] at H
             have LMc20 := Aside0.mk c20
             clear c20
             obtain ⟨y630, hy630⟩ : ∃ y_ : List Int, y_ = (x9_3 ++ [t628]) := ⟨_, rfl⟩
             replace H : (payrollref30_Year.l1 k3 a1 l2 y630 (wrap64 (x10_3 + (rd l2 x12_3))) (wrap64 (x11_3 + t628)) (wrap64 (x12_3 + 1)) a0_0 l0_1 a0_2 a0_3 a0_4 a0_5 l0_6) = some (r1, r2) := by first | (rw [hy630]; with_reducible exact H) | (have H2_ := (Option.bind_some _ _).symm.trans H; rw [hy630]; with_reducible exact H2_) | (have H2_ := (Option.bind_some _ _).symm.trans H; with_reducible exact H2_) | with_reducible exact H | (rw [hy630]; exact H) | exact H
             have Ny630 := Aside0.mk hy630
             clear hy630
             have H' := Aside0.mk H
             clear H
             have p627 : 0 ≤ (x12_3 : Int) := of_decide_eq_true q6
             have q627 : x12_3 < (l2.length : Int) := of_decide_eq_true q6
             obtain ⟨ad627, e627, hx627_0⟩ := Kd.at_int HR2.out x12_3 p627 q627
             cases e627
             replace hx627_0 := (HB.out.cell (World.block_lt_of_cell? w _ hx627_0)).trans hx627_0
             replace p627 := eq_true p627
             replace q627 := eq_true q627
             have hcz21_0 : wr.cell? ⟨gb623, 0, none⟩ = some (.int .i64 a0_0) := (blk_cell BK623.out 0).trans rfl
             have hcz21_1 : wr.cell? ⟨gb623, 1, none⟩ = some (.slice A0_1 l0_1.length c0_1) := (blk_cell BK623.out 1).trans rfl
             have hcz21_2 : wr.cell? ⟨gb623, 2, none⟩ = some (.int .i64 a0_2) := (blk_cell BK623.out 2).trans rfl
             have hcz21_3 : wr.cell? ⟨gb623, 3, none⟩ = some (.int .i64 a0_3) := (blk_cell BK623.out 3).trans rfl
             have hcz21_4 : wr.cell? ⟨gb623, 4, none⟩ = some (.int .i64 a0_4) := (blk_cell BK623.out 4).trans rfl
             have hcz21_5 : wr.cell? ⟨gb623, 5, none⟩ = some (.int .i64 a0_5) := (blk_cell BK623.out 5).trans rfl
             have hcz21_6 : wr.cell? ⟨gb623, 6, none⟩ = some (.slice A0_6 l0_6.length c0_6) := (blk_cell BK623.out 6).trans rfl
             have hfz21_0 := blk_frozen BK623.out 0
             have hfz21_1 := blk_frozen BK623.out 1
             have hfz21_2 := blk_frozen BK623.out 2
             have hfz21_3 := blk_frozen BK623.out 3
             have hfz21_4 := blk_frozen BK623.out 4
             have hfz21_5 := blk_frozen BK623.out 5
             have hfz21_6 := blk_frozen BK623.out 6
             go_wp2_with (first | ((with_reducible refine gate_callee (f := 29) rfl ?_); refine goesL_ (some 61) rfl rfl Try.func29 (by kernel_rfl) rfl #[.agg #[.int .i64 a0_0, .slice A0_1 l0_1.length c0_1, .int .i64 a0_2, .int .i64 a0_3, .int .i64 a0_4, .int .i64 a0_5, .slice A0_6 l0_6.length c0_6], .int .i64 a1, .int .i64 (wrap64 (x12_3 + 1)), .int .i64 (wrap64 (x10_3 + (rd l2 x12_3))), .int .i64 x11_3] rfl q1 ?_; (with_reducible refine (payrollref30_Cumulative.calls k3 a0_0 _ _ l0_1 a0_2 a0_3 a0_4 a0_5 _ _ l0_6 a1 (wrap64 (x12_3 + 1)) (wrap64 (x10_3 + (rd l2 x12_3))) x11_3 t628 t629 _ ?side1 ?side2 ?side3 ?side4 A19.out).mono ?_); (case side1 => exact q12); (case side2 => exact HC0_1.out); (case side3 => exact q25); (case side4 => exact HC0_6.out); rintro e w22 ⟨rfl, hb⟩; refine ⟨_, rfl, ?_⟩; have n0_ := Aside0.mk (Kd.R_below q60 hb); have n1_ := Aside0.mk (blk_below (g := gb623) (o := .cells #[.int .i64 a0_0, .slice A0_1 l0_1.length c0_1, .int .i64 a0_2, .int .i64 a0_3, .int .i64 a0_4, .int .i64 a0_5, .slice A0_6 l0_6.length c0_6] 33 (0, 0)) q100 hb); have n2_ := Aside0.mk (below_step q59 hb); clear HO_9; clear BK623; clear HB; have HO_9 := n0_; have BK623 := n1_; have HB := n2_; clear n0_ n1_ n2_; (try clear hb); (try clear hb2); (try clear hk); (try clear hi)) | ((with_reducible refine gate_builtin (b := .append) (xs := #[.tmp 67, .tmp 69]) rfl ?_); (try (refine gate_guard (by rfl) ?_; dsimp only)); at_builtin; refine Kd.R_append (Kd.int .i64) (w0 := w) w.heap.size rfl (.tmp 67) (.tmp 69) 22 3 (.int .i64 0) 8 rfl Try.underlying22 info3 rfl (by decide) (by omega) u9 x9_3 t628 [.int .i64 t628] (fun _ => True) (fun _ => False) rfl rfl ?aP (fun _ hk => hk.elim) ?aF ?aO ?aB ?aS ?aL ?_; (case aP => exact rfl); (case aB => exact q59); (case aF => exact (fun _ _ => trivial)); (case aO => exact q60); (case aS => exact (below_size q59)); (case aL => have := LMc20.out; omega); intro v631 w23 ho hb hg hat; rw [← Ny630.out] at ho; have n0_ := Aside0.mk (blk_grown (g := gb623) (o := .cells #[.int .i64 a0_0, .slice A0_1 l0_1.length c0_1, .int .i64 a0_2, .int .i64 a0_3, .int .i64 a0_4, .int .i64 a0_5, .slice A0_6 l0_6.length c0_6] 33 (0, 0)) q100 hg (Kd.R_ne HO_9.out BK623.out (by decide))); have n1_ := Aside0.mk (hb); have n2_ := Aside0.mk (ho); clear BK623; clear HB; clear HO_9; have BK623 := n0_; have HB := n1_; have HO632 := n2_; clear n0_ n1_ n2_; clear ho hb hg hat))
             go_roundg k3
             case measure => have := HJ5.out; have := HK2.out; have := HK3.out; omega
             case rel => exact ⟨(y630), (wrap64 (x10_3 + (rd l2 x12_3))), (wrap64 (x11_3 + t628)), (wrap64 (x12_3 + 1)), q26, q26, q26, H', ⟨by have := HJ5.out; have := HK2.out; have := HK3.out; omega⟩, ⟨(by (with_reducible repeat (first | apply Kd.R_alloc | apply Kd.R_drewN | apply Kd.R_drew)); exact HO632.out)⟩, ⟨q100⟩, ⟨q59⟩⟩
            ·
             rw [if_neg c20] at H
             exact absurd H (by simp)
           ·
            rw [if_neg c18] at H
            exact absurd H (by simp)
          ·
           rw [if_neg c17] at H
           have c17b0 : decide (x12_3 < (l2.length : Int)) = false := decide_eq_false c17
           clear c17
           simp only [Option.some.injEq, Prod.mk.injEq] at H
           obtain ⟨rfl, rfl⟩ := H
           go_wp2
           go_ret2
           exact ⟨_, by first | rfl | (simp [errW_none, errW_some] <;> rfl) | (simp [*, errW_none, errW_some] <;> rfl), q60, q59⟩
 ·
  replace c5 := Bool.eq_false_iff.mpr c5
  subst c5
  have H1 : (some (([] : List Int), 1)) = some (r1, r2) := by rw [if_neg (show ¬ (false = true) by decide)] at H; exact H
  clear H
  have H := H1
  clear H1
  simp only [Option.some.injEq, Prod.mk.injEq] at H
  obtain ⟨rfl, rfl⟩ := H
  exact (by go_enter Try.func32, Try.ntmps32; go_wp2_with (first | ((with_reducible refine gate_dst (N := 3) rfl ?_); (try (refine gate_guard (by rfl) ?_; dsimp only)); refine box_event ?hg (N := 3) ?hd (cs := #[.int .i64 a0_0, .slice A0_1 l0_1.length c0_1, .int .i64 a0_2, .int .i64 a0_3, .int .i64 a0_4, .int .i64 a0_5, .slice A0_6 l0_6.length c0_6]) (t := 33) ?hr ?_; (case hd => rfl); (case hg => rfl); (case hr => first | (go_simp; done) | (go_simp; rfl)); intro gb623 hg w_1 hbox hb; have n0_ := Aside0.mk (below_step q0 hb); have n1_ := Aside0.mk (hbox); have n2_ := Aside0.mk ((by rw [hg]; exact (below_size q0) : w.heap.size ≤ gb623)); have n3_ := Aside0.mk ((by rw [hg]; exact (below_size q0) : w.heap.size ≤ gb623)); clear HB; have HB := n0_; have BK623 := n1_; have GW623 := n2_; have GE623 := n3_; clear n0_ n1_ n2_ n3_; clear hb hbox hg; have hcz_1 : w_1.cell? ⟨gb623, 0, none⟩ = some (.int .i64 a0_0) := (blk_cell BK623.out 0).trans rfl; have hcz_2 : w_1.cell? ⟨gb623, 1, none⟩ = some (.slice A0_1 l0_1.length c0_1) := (blk_cell BK623.out 1).trans rfl; have hcz_3 : w_1.cell? ⟨gb623, 2, none⟩ = some (.int .i64 a0_2) := (blk_cell BK623.out 2).trans rfl; have hcz_4 : w_1.cell? ⟨gb623, 3, none⟩ = some (.int .i64 a0_3) := (blk_cell BK623.out 3).trans rfl; have hcz_5 : w_1.cell? ⟨gb623, 4, none⟩ = some (.int .i64 a0_4) := (blk_cell BK623.out 4).trans rfl; have hcz_6 : w_1.cell? ⟨gb623, 5, none⟩ = some (.int .i64 a0_5) := (blk_cell BK623.out 5).trans rfl; have hcz_7 : w_1.cell? ⟨gb623, 6, none⟩ = some (.slice A0_6 l0_6.length c0_6) := (blk_cell BK623.out 6).trans rfl; have hfz_1 := blk_frozen BK623.out 0; have hfz_2 := blk_frozen BK623.out 1; have hfz_3 := blk_frozen BK623.out 2; have hfz_4 := blk_frozen BK623.out 3; have hfz_5 := blk_frozen BK623.out 4; have hfz_6 := blk_frozen BK623.out 5; have hfz_7 := blk_frozen BK623.out 6) | ((with_reducible refine gate_callee (f := 46) rfl ?_); refine goesL_ (some 16) rfl rfl Try.func46 (by kernel_rfl) rfl #[.agg #[.int .i64 a0_0, .slice A0_1 l0_1.length c0_1, .int .i64 a0_2, .int .i64 a0_3, .int .i64 a0_4, .int .i64 a0_5, .slice A0_6 l0_6.length c0_6]] rfl q1 ?_; (with_reducible refine (payrollref30_Valid.calls k a0_0 _ _ l0_1 a0_2 a0_3 a0_4 a0_5 _ _ l0_6 false _ ?side1 ?side2 ?side3 ?side4 A4.out).mono ?_); (case side1 => exact q12); (case side2 => exact HC0_1.out); (case side3 => exact q25); (case side4 => exact HC0_6.out); rintro e w_2 ⟨rfl, hb⟩; refine ⟨_, rfl, ?_⟩; have n0_ := Aside0.mk (blk_below (g := gb623) (o := .cells #[.int .i64 a0_0, .slice A0_1 l0_1.length c0_1, .int .i64 a0_2, .int .i64 a0_3, .int .i64 a0_4, .int .i64 a0_5, .slice A0_6 l0_6.length c0_6] 33 (0, 0)) q100 hb); have n1_ := Aside0.mk (below_step q59 hb); clear BK623; clear HB; have BK623 := n0_; have HB := n1_; clear n0_ n1_; (try clear hb); (try clear hb2); (try clear hk); (try clear hi))); go_ret2; exact ⟨_, by first | rfl | (simp [errW_none, errW_some] <;> rfl) | (simp [*, errW_none, errW_some] <;> rfl), by first | exact Kd.R_nil _ _ _ _ _ | exact Kd.N_nil _ _ _ _ _ | exact Kd.V_nil _ _ _ _ _ | exact Kd.Q_nil _ _ _ _ _ | exact Kd.S_nil _ _ _ _ _, q59⟩)

end Go.Proofs.Ytbacfajhgmnjpaa.P
