/- Proved here: that the Go function payrollref30_Withhold computes the plain function of that name (the machine side of the laws, reworked from a print; no condition of its own). -/
import Derived.Test.YtbacfajhgmnjpaaProg
import Derived.Test.YtbacfajhgmnjpaaV1
import Derived.Test.YtbacfajhgmnjpaaV2
import Derived.Test.YtbacfajhgmnjpaaFPRE
import Derived.Test.YtbacfajhgmnjpaaFref
import Derived.Test.YtbacfajhgmnjpaaFpayrollref30Valid
import Derived.Test.YtbacfajhgmnjpaaFpayrollref30Formula
import Derived.Test.YtbacfajhgmnjpaaFpayrollref30Cumulative
import Derived.Test.YtbacfajhgmnjpaaFpayrollref30Lookup
namespace Go.Proofs.Ytbacfajhgmnjpaa.P
open Go.RowKit Go.Proofs.YtbacfajhgmnjpaaW.PrintWords Go.Proofs.YtbacfajhgmnjpaaW.PrintLast Go.Proofs.YtbacfajhgmnjpaaW.PrintMore
attribute [local go_sem] max2_int min2_int max_two min_two max_three min_three max_four min_four   -- for this text's walks alone
set_option linter.unusedVariables false
set_option linter.unusedSimpArgs false

mutual
def payrollref30_Withhold.j0 : Nat → Int → Int → Bool → Int → List (S58) → Int → Int → Int → Int → List (S80) → Int → Int → Int → List Int → List (S61) → Option (Int × Int)
 | 0, _, _, _, _, _, _, _, _, _, _, _, _, _, _, _ => none
 | k + 1, x1, x3, x29, x467000, x467001, x467002, x467003, x467004, x467005, x467006, x468000, x468001, x468002, x468003, x468004 => if x29 = true then (some (0, 3)) else ((payrollref30_in.f x3 1000000000).bind fun t469 => (if t469 = true then ((payrollref30_in.f x468001 999000000000).bind fun t470 => (if t470 = true then (if x468002 < (-1000000000000) then (payrollref30_Withhold.j1 k x1 x3 true x467000 x467001 x467002 x467003 x467004 x467005 x467006 x468000 x468001 x468002 x468003 x468004) else (payrollref30_Withhold.j1 k x1 x3 (decide (x468002 > 1000000000000)) x467000 x467001 x467002 x467003 x467004 x467005 x467006 x468000 x468001 x468002 x468003 x468004)) else (payrollref30_Withhold.j1 k x1 x3 true x467000 x467001 x467002 x467003 x467004 x467005 x467006 x468000 x468001 x468002 x468003 x468004))) else (payrollref30_Withhold.j1 k x1 x3 true x467000 x467001 x467002 x467003 x467004 x467005 x467006 x468000 x468001 x468002 x468003 x468004)))
def payrollref30_Withhold.j1 : Nat → Int → Int → Bool → Int → List (S58) → Int → Int → Int → Int → List (S80) → Int → Int → Int → List Int → List (S61) → Option (Int × Int)
 | 0, _, _, _, _, _, _, _, _, _, _, _, _, _, _, _ => none
 | k + 1, x1, x3, x48, x467000, x467001, x467002, x467003, x467004, x467005, x467006, x468000, x468001, x468002, x468003, x468004 => if x48 = true then (some (0, 2)) else (if x467000 = 1 then ((payrollref30_Lookup.f k x467006 x3).bind fun bt471 => (some (bt471.1, bt471.2))) else (if x467000 = 2 then ((payrollref30_Formula.f k x467000 x467001 x467002 x467003 x467004 x467005 x467006 x3 x1).bind fun bt473 => (some (bt473.1, bt473.2))) else ((payrollref30_Cumulative.f k x467000 x467001 x467002 x467003 x467004 x467005 x467006 x1 (wrap64 (x468000 + 1)) (wrap64 (x468001 + x3)) x468002).bind fun bt475 => (some (bt475.1, bt475.2)))))
end
def payrollref30_Withhold.f (k : Nat) (a0_0 : Int) (l0_1 : List (S58)) (a0_2 : Int) (a0_3 : Int) (a0_4 : Int) (a0_5 : Int) (l0_6 : List (S80)) (a1 : Int) (a2_0 : Int) (a2_1 : Int) (a2_2 : Int) (l2_3 : List Int) (l2_4 : List (S61)) (a3 : Int) : Option (Int × Int) := (payrollref30_Valid.f k a0_0 l0_1 a0_2 a0_3 a0_4 a0_5 l0_6).bind fun t468 => (if t468 = true then (if a1 < 1 then (payrollref30_Withhold.j0 k a1 a3 true a0_0 l0_1 a0_2 a0_3 a0_4 a0_5 l0_6 a2_0 a2_1 a2_2 l2_3 l2_4) else (if a1 > 53 then (payrollref30_Withhold.j0 k a1 a3 true a0_0 l0_1 a0_2 a0_3 a0_4 a0_5 l0_6 a2_0 a2_1 a2_2 l2_3 l2_4) else (if a2_0 < 0 then (payrollref30_Withhold.j0 k a1 a3 true a0_0 l0_1 a0_2 a0_3 a0_4 a0_5 l0_6 a2_0 a2_1 a2_2 l2_3 l2_4) else (payrollref30_Withhold.j0 k a1 a3 (decide (a2_0 ≥ a1)) a0_0 l0_1 a0_2 a0_3 a0_4 a0_5 l0_6 a2_0 a2_1 a2_2 l2_3 l2_4)))) else (some (0, 1)))
set_option maxHeartbeats 8000000 in
set_option maxRecDepth 100000 in
theorem payrollref30_Withhold.calls (k : Nat) (a0_0 : Int) (A0_1 : Option Addr) (c0_1 : Nat) (l0_1 : List (S58)) (a0_2 : Int) (a0_3 : Int) (a0_4 : Int) (a0_5 : Int) (A0_6 : Option Addr) (c0_6 : Nat) (l0_6 : List (S80)) (a1 : Int) (a2_0 : Int) (a2_1 : Int) (a2_2 : Int) (A2_3 : Option Addr) (c2_3 : Nat) (l2_3 : List Int) (A2_4 : Option Addr) (c2_4 : Nat) (l2_4 : List (S61)) (a3 : Int) (r1 : Int) (r2 : Int) (w : World) (hr0_1 : Kd.C k58 w A0_1 l0_1.length l0_1) (hc0_1 : l0_1.length ≤ c0_1) (hr0_6 : Kd.C k80 w A0_6 l0_6.length l0_6) (hc0_6 : l0_6.length ≤ c0_6) (hr2_3 : Kd.C (Kd.int .i64) w A2_3 l2_3.length l2_3) (hc2_3 : l2_3.length ≤ c2_3) (hr2_4 : Kd.C k61 w A2_4 l2_4.length l2_4) (hc2_4 : l2_4.length ≤ c2_4) (h : payrollref30_Withhold.f k a0_0 l0_1 a0_2 a0_3 a0_4 a0_5 l0_6 a1 a2_0 a2_1 a2_2 l2_3 l2_4 a3 = some (r1, r2)) :
  Calls Try.prog 20 #[.agg #[.int .i64 a0_0, .slice A0_1 l0_1.length c0_1, .int .i64 a0_2, .int .i64 a0_3, .int .i64 a0_4, .int .i64 a0_5, .slice A0_6 l0_6.length c0_6], .int .i64 a1, .agg #[.int .i64 a2_0, .int .i64 a2_1, .int .i64 a2_2, .slice A2_3 l2_3.length c2_3, .slice A2_4 l2_4.length c2_4], .int .i64 a3] w fun e w' => e = .returned (.tuple #[.int .i64 r1, .int .i64 r2]) ∧ Below w.heap.size w w' := by
 have hu33 := Try.underlying33
 have hu25 := Try.underlying25
 have HR0_1 := Aside0.mk hr0_1
 have HC0_1 := Aside0.mk hc0_1
 clear hr0_1 hc0_1
 have HR0_6 := Aside0.mk hr0_6
 have HC0_6 := Aside0.mk hc0_6
 clear hr0_6 hc0_6
 have HR2_3 := Aside0.mk hr2_3
 have HC2_3 := Aside0.mk hc2_3
 clear hr2_3 hc2_3
 have HR2_4 := Aside0.mk hr2_4
 have HC2_4 := Aside0.mk hc2_4
 clear hr2_4 hc2_4
 have HB := Aside0.mk (Below.refl w.heap.size w)
 have H : ((payrollref30_Valid.f k a0_0 l0_1 a0_2 a0_3 a0_4 a0_5 l0_6).bind fun t468 => (if t468 = true then (if a1 < 1 then (payrollref30_Withhold.j0 k a1 a3 true a0_0 l0_1 a0_2 a0_3 a0_4 a0_5 l0_6 a2_0 a2_1 a2_2 l2_3 l2_4) else (if a1 > 53 then (payrollref30_Withhold.j0 k a1 a3 true a0_0 l0_1 a0_2 a0_3 a0_4 a0_5 l0_6 a2_0 a2_1 a2_2 l2_3 l2_4) else (if a2_0 < 0 then (payrollref30_Withhold.j0 k a1 a3 true a0_0 l0_1 a0_2 a0_3 a0_4 a0_5 l0_6 a2_0 a2_1 a2_2 l2_3 l2_4) else (payrollref30_Withhold.j0 k a1 a3 (decide (a2_0 ≥ a1)) a0_0 l0_1 a0_2 a0_3 a0_4 a0_5 l0_6 a2_0 a2_1 a2_2 l2_3 l2_4)))) else (some (0, 1)))) = some (r1, r2) := h
 clear h
 replace H := Option.bind_eq_some_iff.mp H
 obtain ⟨t468, A50, H⟩ := H
 try dsimp only at H
 have A5 := Aside0.mk A50
 clear A50
 by_cases c6 : t468 = true
 ·
  subst c6
  rw [if_pos rfl] at H
  have HC7 := Aside0.mk H
  clear H
  go_enter Try.func20, Try.ntmps20
  go_upto_region 3 with (first | ((with_reducible refine gate_dst (N := 4) rfl ?_); refine box_event ?hg (N := 4) ?hd (cs := #[.int .i64 a0_0, .slice A0_1 l0_1.length c0_1, .int .i64 a0_2, .int .i64 a0_3, .int .i64 a0_4, .int .i64 a0_5, .slice A0_6 l0_6.length c0_6]) (t := 33) ?hr ?_; (case hd => rfl); (case hg => rfl); (case hr => first | (go_simp; done) | (go_simp; rfl)); intro gb466 hg w8 hbox hb; have n0_ := Aside0.mk (below_step q0 hb); have n1_ := Aside0.mk (hbox); have n2_ := Aside0.mk ((by rw [hg]; exact (below_size q0) : w.heap.size ≤ gb466)); have n3_ := Aside0.mk ((by rw [hg]; exact (below_size q0) : w.heap.size ≤ gb466)); clear HB; have HB := n0_; have BK466 := n1_; have GW466 := n2_; have GE466 := n3_; clear n0_ n1_ n2_ n3_; clear hb hbox hg) | ((with_reducible refine gate_dst (N := 6) rfl ?_); refine box_event ?hg (N := 6) ?hd (cs := #[.int .i64 a2_0, .int .i64 a2_1, .int .i64 a2_2, .slice A2_3 l2_3.length c2_3, .slice A2_4 l2_4.length c2_4]) (t := 25) ?hr ?_; (case hd => rfl); (case hg => rfl); (case hr => first | (go_simp; done) | (go_simp; rfl)); intro gb467 hg w9 hbox hb; have n0_ := Aside0.mk (blk_below BK466.out hb); have n1_ := Aside0.mk (below_step q131 hb); have n2_ := Aside0.mk (hbox); have n3_ := Aside0.mk ((by rw [hg]; exact (below_size q131) : w.heap.size ≤ gb467)); have n4_ := Aside0.mk ((by rw [hg]; exact (below_size q131) : w.heap.size ≤ gb467)); have n5_ := Aside0.mk ((by rw [hg]; exact Nat.ne_of_lt (blk_lt BK466.out) : gb466 ≠ gb467)); have n6_ := Aside0.mk ((by rw [hg]; exact Nat.ne_of_gt (blk_lt BK466.out) : gb467 ≠ gb466)); clear BK466; clear HB; have BK466 := n0_; have HB := n1_; have BK467 := n2_; have GW467 := n3_; have GE467 := n4_; have NB466_467 := n5_; have NB467_466 := n6_; clear n0_ n1_ n2_ n3_ n4_ n5_ n6_; clear hb hbox hg; have hnb10 := NB466_467.out; have hnc10 := NB467_466.out; obtain ⟨hcz11_0, hcz11_1, hcz11_2, hcz11_3, hcz11_4, hcz11_5, hcz11_6, hfz11_0, hfz11_1, hfz11_2, hfz11_3, hfz11_4, hfz11_5, hfz11_6⟩ := blk7 BK466.out) | ((with_reducible refine gate_callee (f := 46) rfl ?_); refine goesL_ (some 11) rfl rfl Try.func46 (by kernel_rfl) rfl #[.agg #[.int .i64 a0_0, .slice A0_1 l0_1.length c0_1, .int .i64 a0_2, .int .i64 a0_3, .int .i64 a0_4, .int .i64 a0_5, .slice A0_6 l0_6.length c0_6]] rfl q1 ?_; (with_reducible refine (payrollref30_Valid.calls k a0_0 _ _ l0_1 a0_2 a0_3 a0_4 a0_5 _ _ l0_6 true _ ?side1 ?side2 ?side3 ?side4 A5.out).mono ?_); (case side1 => exact q12); (case side2 => exact HC0_1.out); (case side3 => exact q25); (case side4 => exact HC0_6.out); rintro e w12 ⟨rfl, hb⟩; refine ⟨_, rfl, ?_⟩; have n0_ := Aside0.mk (blk_below BK466.out hb); have n1_ := Aside0.mk (blk_below BK467.out hb); have n2_ := Aside0.mk (below_step q46 hb); clear BK466; clear BK467; clear HB; have BK466 := n0_; have BK467 := n1_; have HB := n2_; clear n0_ n1_ n2_; (try clear hb); (try clear hb2); (try clear hk); (try clear hi)))
  (try simp only [Act.put, List.setIfInBounds_toArray, List.set_cons_zero, List.set_cons_succ])
  go_cut [29] (fun v29 wc => ∃ (kq : Nat) (x29_6 : Bool), v29 = .bool x29_6 ∧ Aside0 (payrollref30_Withhold.j0 kq a1 a3 x29_6 a0_0 l0_1 a0_2 a0_3 a0_4 a0_5 l0_6 a2_0 a2_1 a2_2 l2_3 l2_4 = some (r1, r2)) ∧ Aside0 (kq ≤ k) ∧ Aside0 (wc.heap[gb466]? = some (.cells #[.int .i64 a0_0, (.slice A0_1 l0_1.length c0_1), .int .i64 a0_2, .int .i64 a0_3, .int .i64 a0_4, .int .i64 a0_5, (.slice A0_6 l0_6.length c0_6)] 33 (0, 0))) ∧ Aside0 (wc.heap[gb467]? = some (.cells #[.int .i64 a2_0, .int .i64 a2_1, .int .i64 a2_2, (.slice A2_3 l2_3.length c2_3), (.slice A2_4 l2_4.length c2_4)] 25 (0, 0))) ∧ Aside0 (Below w.heap.size w wc))
  case first =>
   have H := HC7.out
   clear HC7
   by_cases c13 : a1 < 1
   ·
    rw [if_pos c13] at H
    have c13b0 : decide (a1 < 1) = true := decide_eq_true c13
    clear c13
    (first | rw [c13b0] | (simp only [i64_w, i32_w]; rw [c13b0]) | skip)
    have H' := Aside0.mk H
    clear H
    go_wp2
    go_meet
    case rel => exact ⟨_, (true), q26, H', ⟨by first | omega | exact Nat.le_refl _⟩, ⟨q63⟩, ⟨q91⟩, ⟨q46⟩⟩
   ·
    rw [if_neg c13] at H
    have c13b0 : decide (a1 < 1) = false := decide_eq_false c13
    clear c13
    (first | rw [c13b0] | (simp only [i64_w, i32_w]; rw [c13b0]) | skip)
    by_cases c14 : a1 > 53
    ·
     rw [if_pos c14] at H
     have c14b0 : decide (53 < a1) = true := decide_eq_true c14
     clear c14
     have H' := Aside0.mk H
     clear H
     go_wp2
     go_meet
     case rel => exact ⟨_, (true), q26, H', ⟨by first | omega | exact Nat.le_refl _⟩, ⟨q63⟩, ⟨q91⟩, ⟨q46⟩⟩
    ·
     rw [if_neg c14] at H
     have c14b0 : decide (53 < a1) = false := decide_eq_false c14
     clear c14
     by_cases c15 : a2_0 < 0
     ·
      rw [if_pos c15] at H
      have c15b0 : decide (a2_0 < 0) = true := decide_eq_true c15
      clear c15
      have H' := Aside0.mk H
      clear H
      have hnb16 := NB467_466.out
      have hnc16 := NB466_467.out
      obtain ⟨hcz17_0, hcz17_1, hcz17_2, hcz17_3, hcz17_4, hfz17_0, hfz17_1, hfz17_2, hfz17_3, hfz17_4⟩ := blk5 BK467.out
      go_wp2
      go_meet
      case rel => exact ⟨_, (true), q26, H', ⟨by first | omega | exact Nat.le_refl _⟩, ⟨q63⟩, ⟨q91⟩, ⟨q46⟩⟩
     ·
      rw [if_neg c15] at H
      have c15b0 : decide (a2_0 < 0) = false := decide_eq_false c15
      clear c15
      have H' := Aside0.mk H
      clear H
      have hnb18 := NB467_466.out
      have hnc18 := NB466_467.out
      obtain ⟨hcz19_0, hcz19_1, hcz19_2, hcz19_3, hcz19_4, hfz19_0, hfz19_1, hfz19_2, hfz19_3, hfz19_4⟩ := blk5 BK467.out
      go_wp2
      go_meet
      case rel => exact ⟨_, (decide (a2_0 ≥ a1)), q26, H', ⟨by first | omega | exact Nat.le_refl _⟩, ⟨q63⟩, ⟨q91⟩, ⟨q46⟩⟩
  case rest =>
   clear HC7
   try clear c1
   try clear c2
   try clear p2
   try clear c4
   try clear c6
   try clear c10
   try clear c13
   try clear c13b0
   try clear c14
   try clear c14b0
   try clear c15
   try clear c15b0
   try clear c16
   try clear c18
   try clear hcz11_0
   try clear hcz11_1
   try clear hcz11_2
   try clear hcz11_3
   try clear hcz11_4
   try clear hcz11_5
   try clear hcz11_6
   try clear hcz17_0
   try clear hcz17_1
   try clear hcz17_2
   try clear hcz17_3
   try clear hcz17_4
   try clear hcz19_0
   try clear hcz19_1
   try clear hcz19_2
   try clear hcz19_3
   try clear hcz19_4
   try clear hfz11_0
   try clear hfz11_1
   try clear hfz11_2
   try clear hfz11_3
   try clear hfz11_4
   try clear hfz11_5
   try clear hfz11_6
   try clear hfz17_0
   try clear hfz17_1
   try clear hfz17_2
   try clear hfz17_3
   try clear hfz17_4
   try clear hfz19_0
   try clear hfz19_1
   try clear hfz19_2
   try clear hfz19_3
   try clear hfz19_4
   obtain ⟨kq, x29_6, rfl, HA, HJ6, BK466, BK467, HB⟩ := hcut
   cases kq with
   | zero => exact absurd HA.out (by simp [payrollref30_Withhold.j0])
   | succ kj6 =>
    have H := HA.out
    clear HA
    simp only [payrollref30_Withhold.j0] at H
    by_cases c20 : x29_6 = true
    ·
     subst c20
     rw [if_pos rfl] at H
     simp only [Option.some.injEq, Prod.mk.injEq] at H
     obtain ⟨rfl, rfl⟩ := H
     go_wp2
     go_ret2
     exact ⟨by first | rfl | (simp [errW_none, errW_some] <;> rfl) | (simp [*, errW_none, errW_some] <;> rfl), q46⟩
    ·
     replace c20 := Bool.eq_false_iff.mpr c20
     subst c20
     rw [if_neg (show ¬ (false = true) by decide)] at H
     have HC21 := Aside0.mk H
     clear H
     go_upto_region 5 with (fail)
     go_cut [48] (fun v48 wc => ∃ (kq : Nat) (x48_20 : Bool), v48 = .bool x48_20 ∧ Aside0 (payrollref30_Withhold.j1 kq a1 a3 x48_20 a0_0 l0_1 a0_2 a0_3 a0_4 a0_5 l0_6 a2_0 a2_1 a2_2 l2_3 l2_4 = some (r1, r2)) ∧ Aside0 (kq ≤ kj6) ∧ Aside0 (wc.heap[gb466]? = some (.cells #[.int .i64 a0_0, (.slice A0_1 l0_1.length c0_1), .int .i64 a0_2, .int .i64 a0_3, .int .i64 a0_4, .int .i64 a0_5, (.slice A0_6 l0_6.length c0_6)] 33 (0, 0))) ∧ Aside0 (wc.heap[gb467]? = some (.cells #[.int .i64 a2_0, .int .i64 a2_1, .int .i64 a2_2, (.slice A2_3 l2_3.length c2_3), (.slice A2_4 l2_4.length c2_4)] 25 (0, 0))) ∧ Aside0 (Below w.heap.size w wc))
     case first =>
      have H := HC21.out
      clear HC21
      replace H := Option.bind_eq_some_iff.mp H
      obtain ⟨t469, A220, H⟩ := H
      try dsimp only at H
      have A22 := Aside0.mk A220
      clear A220
      by_cases c23 : t469 = true
      ·
       subst c23
       rw [if_pos rfl] at H
       replace H := Option.bind_eq_some_iff.mp H
       obtain ⟨t470, A240, H⟩ := H
       try dsimp only at H
       have A24 := Aside0.mk A240
       clear A240
       by_cases c25 : t470 = true
       ·
        subst c25
        rw [if_pos rfl] at H
        by_cases c26 : a2_2 < (-1000000000000)
        ·
         rw [if_pos c26] at H
         have c26b0 : decide (a2_2 < (-1000000000000)) = true := decide_eq_true c26
         clear c26
         (first | rw [c26b0] | (simp only [i64_w, i32_w]; rw [c26b0]) | skip)
         have H' := Aside0.mk H
         clear H
         go_wp2_with (first | ((with_reducible refine gate_callee (f := 47) rfl ?_); refine goesL_ (some 31) rfl rfl Try.func47 (by kernel_rfl) rfl #[.int .i64 a3, .int .i64 1000000000] rfl q1 ?_; (with_reducible refine (payrollref30_in.calls a3 1000000000 true _ A22.out).mono ?_); rintro e w' ⟨rfl, ⟨nd, rfl⟩⟩; refine ⟨_, rfl, ?_⟩; have hnb27 := NB467_466.out; have hnc27 := NB466_467.out; obtain ⟨hcz28_0, hcz28_1, hcz28_2, hcz28_3, hcz28_4, hfz28_0, hfz28_1, hfz28_2, hfz28_3, hfz28_4⟩ := blk5 BK467.out) | (go_at_call 47; (with_reducible refine (payrollref30_in.calls a2_1 999000000000 true _ A24.out).mono ?_); rintro e w' ⟨rfl, ⟨nd, rfl⟩⟩))
         go_meet
         case rel => exact ⟨_, (true), q26, H', ⟨by have := HJ6.out; first | omega | exact Nat.le_refl _⟩, ⟨q63⟩, ⟨q91⟩, ⟨q46⟩⟩
        ·
         rw [if_neg c26] at H
         have c26b0 : decide (a2_2 < (-1000000000000)) = false := decide_eq_false c26
         clear c26
         (first | rw [c26b0] | (simp only [i64_w, i32_w]; rw [c26b0]) | skip)
         have H' := Aside0.mk H
         clear H
         go_wp2_with (first | ((with_reducible refine gate_callee (f := 47) rfl ?_); refine goesL_ (some 31) rfl rfl Try.func47 (by kernel_rfl) rfl #[.int .i64 a3, .int .i64 1000000000] rfl q1 ?_; (with_reducible refine (payrollref30_in.calls a3 1000000000 true _ A22.out).mono ?_); rintro e w' ⟨rfl, ⟨nd, rfl⟩⟩; refine ⟨_, rfl, ?_⟩; have hnb29 := NB467_466.out; have hnc29 := NB466_467.out; obtain ⟨hcz30_0, hcz30_1, hcz30_2, hcz30_3, hcz30_4, hfz30_0, hfz30_1, hfz30_2, hfz30_3, hfz30_4⟩ := blk5 BK467.out) | (go_at_call 47; (with_reducible refine (payrollref30_in.calls a2_1 999000000000 true _ A24.out).mono ?_); rintro e w' ⟨rfl, ⟨nd, rfl⟩⟩))
         go_meet
         case rel => exact ⟨_, (decide (a2_2 > 1000000000000)), q26, H', ⟨by have := HJ6.out; first | omega | exact Nat.le_refl _⟩, ⟨q63⟩, ⟨q91⟩, ⟨q46⟩⟩
       ·
        replace c25 := Bool.eq_false_iff.mpr c25
        subst c25
        rw [if_neg (show ¬ (false = true) by decide)] at H
        have H' := Aside0.mk H
        clear H
        go_wp2_with (first | ((with_reducible refine gate_callee (f := 47) rfl ?_); refine goesL_ (some 31) rfl rfl Try.func47 (by kernel_rfl) rfl #[.int .i64 a3, .int .i64 1000000000] rfl q1 ?_; (with_reducible refine (payrollref30_in.calls a3 1000000000 true _ A22.out).mono ?_); rintro e w' ⟨rfl, ⟨nd, rfl⟩⟩; refine ⟨_, rfl, ?_⟩; have hnb31 := NB467_466.out; have hnc31 := NB466_467.out; obtain ⟨hcz32_0, hcz32_1, hcz32_2, hcz32_3, hcz32_4, hfz32_0, hfz32_1, hfz32_2, hfz32_3, hfz32_4⟩ := blk5 BK467.out) | (go_at_call 47; (with_reducible refine (payrollref30_in.calls a2_1 999000000000 false _ A24.out).mono ?_); rintro e w' ⟨rfl, ⟨nd, rfl⟩⟩))
        go_meet
        case rel => exact ⟨_, (true), q26, H', ⟨by have := HJ6.out; first | omega | exact Nat.le_refl _⟩, ⟨q63⟩, ⟨q91⟩, ⟨q46⟩⟩
      ·
       replace c23 := Bool.eq_false_iff.mpr c23
       subst c23
       rw [if_neg (show ¬ (false = true) by decide)] at H
       have H' := Aside0.mk H
       clear H
       go_wp2_with (first | ((with_reducible refine gate_callee (f := 47) rfl ?_); refine goesL_ (some 31) rfl rfl Try.func47 (by kernel_rfl) rfl #[.int .i64 a3, .int .i64 1000000000] rfl q1 ?_; (with_reducible refine (payrollref30_in.calls a3 1000000000 false _ A22.out).mono ?_); rintro e w' ⟨rfl, ⟨nd, rfl⟩⟩; refine ⟨_, rfl, ?_⟩))
       go_meet
       case rel => exact ⟨_, (true), q26, H', ⟨by have := HJ6.out; first | omega | exact Nat.le_refl _⟩, ⟨q63⟩, ⟨q91⟩, ⟨q46⟩⟩
     case rest =>
      clear HC21
      try clear c1
      try clear c2
      try clear p2
      try clear c3
      try clear c4
      try clear c6
      try clear c10
      try clear c13
      try clear c13b0
      try clear c14
      try clear c14b0
      try clear c15
      try clear c15b0
      try clear c16
      try clear c18
      try clear c20
      try clear c23
      try clear c25
      try clear c26
      try clear c26b0
      try clear c27
      try clear c29
      try clear c31
      try clear hcz11_0
      try clear hcz11_1
      try clear hcz11_2
      try clear hcz11_3
      try clear hcz11_4
      try clear hcz11_5
      try clear hcz11_6
      try clear hcz17_0
      try clear hcz17_1
      try clear hcz17_2
      try clear hcz17_3
      try clear hcz17_4
      try clear hcz19_0
      try clear hcz19_1
      try clear hcz19_2
      try clear hcz19_3
      try clear hcz19_4
      try clear hcz28_0
      try clear hcz28_1
      try clear hcz28_2
      try clear hcz28_3
      try clear hcz28_4
      try clear hcz30_0
      try clear hcz30_1
      try clear hcz30_2
      try clear hcz30_3
      try clear hcz30_4
      try clear hcz32_0
      try clear hcz32_1
      try clear hcz32_2
      try clear hcz32_3
      try clear hcz32_4
      try clear hfz11_0
      try clear hfz11_1
      try clear hfz11_2
      try clear hfz11_3
      try clear hfz11_4
      try clear hfz11_5
      try clear hfz11_6
      try clear hfz17_0
      try clear hfz17_1
      try clear hfz17_2
      try clear hfz17_3
      try clear hfz17_4
      try clear hfz19_0
      try clear hfz19_1
      try clear hfz19_2
      try clear hfz19_3
      try clear hfz19_4
      try clear hfz28_0
      try clear hfz28_1
      try clear hfz28_2
      try clear hfz28_3
      try clear hfz28_4
      try clear hfz30_0
      try clear hfz30_1
      try clear hfz30_2
      try clear hfz30_3
      try clear hfz30_4
      try clear hfz32_0
      try clear hfz32_1
      try clear hfz32_2
      try clear hfz32_3
      try clear hfz32_4
      try clear p2
      obtain ⟨kq, x48_20, rfl, HA, HJ20, BK466, BK467, HB⟩ := hcut
      cases kq with
      | zero => exact absurd HA.out (by simp [payrollref30_Withhold.j1])
      | succ kj20 =>
       have H := HA.out
       clear HA
       simp only [payrollref30_Withhold.j1] at H
       by_cases c33 : x48_20 = true
       ·
        subst c33
        rw [if_pos rfl] at H
        simp only [Option.some.injEq, Prod.mk.injEq] at H
        obtain ⟨rfl, rfl⟩ := H
        go_wp2
        go_ret2
        exact ⟨by first | rfl | (simp [errW_none, errW_some] <;> rfl) | (simp [*, errW_none, errW_some] <;> rfl), q46⟩
       ·
        replace c33 := Bool.eq_false_iff.mpr c33
        subst c33
        rw [if_neg (show ¬ (false = true) by decide)] at H
        by_cases c34 : a0_0 = 1
        ·
         rw [if_pos c34] at H
         have c34b0 : (a0_0 == 1) = true := beq_iff_eq.mpr c34
         have c34b1 : (a0_0 != 1) = false := bne_eq_false_iff_eq.mpr c34
         clear c34
         replace H := Option.bind_eq_some_iff.mp H
         obtain ⟨⟨t471, t472⟩, A350, H⟩ := H
         try dsimp only at H
         have A35 := Aside0.mk A350
         clear A350
         simp only [Option.some.injEq, Prod.mk.injEq] at H
         obtain ⟨rfl, rfl⟩ := H
         have hnb36 := NB466_467.out
         have hnc36 := NB467_466.out
         obtain ⟨hcz37_0, hcz37_1, hcz37_2, hcz37_3, hcz37_4, hcz37_5, hcz37_6, hfz37_0, hfz37_1, hfz37_2, hfz37_3, hfz37_4, hfz37_5, hfz37_6⟩ := blk7 BK466.out
         exact (by go_wp2_with (first | ((with_reducible refine gate_callee (f := 48) rfl ?_); refine goesL_ (some 55) rfl rfl Try.func48 (by kernel_rfl) rfl #[.slice A0_6 l0_6.length c0_6, .int .i64 a3] rfl q1 ?_; (with_reducible refine (payrollref30_Lookup.calls kj20 _ _ l0_6 a3 t471 t472 _ ?side1 ?side2 A35.out).mono ?_); (case side1 => exact q25); (case side2 => exact HC0_6.out); rintro e w_1 ⟨rfl, hb⟩; refine ⟨_, rfl, ?_⟩; have n0_ := Aside0.mk (blk_below BK466.out hb); have n1_ := Aside0.mk (blk_below BK467.out hb); have n2_ := Aside0.mk (below_step q46 hb); clear BK466; clear BK467; clear HB; have BK466 := n0_; have BK467 := n1_; have HB := n2_; clear n0_ n1_ n2_; (try clear hb); (try clear hb2); (try clear hk); (try clear hi))); go_ret2; exact ⟨by first | rfl | (simp [errW_none, errW_some] <;> rfl) | (simp [*, errW_none, errW_some] <;> rfl), q46⟩)
        ·
         rw [if_neg c34] at H
         have c34b0 : (a0_0 == 1) = false := beq_eq_false_iff_ne.mpr c34
         have c34b1 : (a0_0 != 1) = true := bne_iff_ne.mpr c34
         by_cases c39 : a0_0 = 2
         ·
          rw [if_pos c39] at H
          have c39b0 : (a0_0 == 2) = true := beq_iff_eq.mpr c39
          have c39b1 : (a0_0 != 2) = false := bne_eq_false_iff_eq.mpr c39
          clear c39
          replace H := Option.bind_eq_some_iff.mp H
          obtain ⟨⟨t473, t474⟩, A400, H⟩ := H
          try dsimp only at H
          have A40 := Aside0.mk A400
          clear A400
          simp only [Option.some.injEq, Prod.mk.injEq] at H
          obtain ⟨rfl, rfl⟩ := H
          have hnb41 := NB466_467.out
          have hnc41 := NB467_466.out
          obtain ⟨hcz42_0, hcz42_1, hcz42_2, hcz42_3, hcz42_4, hcz42_5, hcz42_6, hfz42_0, hfz42_1, hfz42_2, hfz42_3, hfz42_4, hfz42_5, hfz42_6⟩ := blk7 BK466.out
          exact (by go_wp2_with (first | ((with_reducible refine gate_callee (f := 25) rfl ?_); refine goesL_ (some 64) rfl rfl Try.func25 (by kernel_rfl) rfl #[.agg #[.int .i64 a0_0, .slice A0_1 l0_1.length c0_1, .int .i64 a0_2, .int .i64 a0_3, .int .i64 a0_4, .int .i64 a0_5, .slice A0_6 l0_6.length c0_6], .int .i64 a3, .int .i64 a1] rfl q1 ?_; (with_reducible refine (payrollref30_Formula.calls kj20 a0_0 _ _ l0_1 a0_2 a0_3 a0_4 a0_5 _ _ l0_6 a3 a1 t473 t474 _ ?side1 ?side2 ?side3 ?side4 A40.out).mono ?_); (case side1 => exact q12); (case side2 => exact HC0_1.out); (case side3 => exact q25); (case side4 => exact HC0_6.out); rintro e w_1 ⟨rfl, hb⟩; refine ⟨_, rfl, ?_⟩; have n0_ := Aside0.mk (blk_below BK466.out hb); have n1_ := Aside0.mk (blk_below BK467.out hb); have n2_ := Aside0.mk (below_step q46 hb); clear BK466; clear BK467; clear HB; have BK466 := n0_; have BK467 := n1_; have HB := n2_; clear n0_ n1_ n2_; (try clear hb); (try clear hb2); (try clear hk); (try clear hi))); go_ret2; exact ⟨by first | rfl | (simp [errW_none, errW_some] <;> rfl) | (simp [*, errW_none, errW_some] <;> rfl), q46⟩)
         ·
          rw [if_neg c39] at H
          have c39b0 : (a0_0 == 2) = false := beq_eq_false_iff_ne.mpr c39
          have c39b1 : (a0_0 != 2) = true := bne_iff_ne.mpr c39
          replace H := Option.bind_eq_some_iff.mp H
          obtain ⟨⟨t475, t476⟩, A440, H⟩ := H
          try dsimp only at H
          have A44 := Aside0.mk A440
          clear A440
          simp only [Option.some.injEq, Prod.mk.injEq] at H
          obtain ⟨rfl, rfl⟩ := H
          have hnb45 := NB466_467.out
          have hnc45 := NB467_466.out
          obtain ⟨hcz46_0, hcz46_1, hcz46_2, hcz46_3, hcz46_4, hcz46_5, hcz46_6, hfz46_0, hfz46_1, hfz46_2, hfz46_3, hfz46_4, hfz46_5, hfz46_6⟩ := blk7 BK466.out
          obtain ⟨hcz47_0, hcz47_1, hcz47_2, hcz47_3, hcz47_4, hfz47_0, hfz47_1, hfz47_2, hfz47_3, hfz47_4⟩ := blk5 BK467.out
          exact (by go_wp2_with (first | ((with_reducible refine gate_callee (f := 29) rfl ?_); refine goesL_ (some 78) rfl rfl Try.func29 (by kernel_rfl) rfl #[.agg #[.int .i64 a0_0, .slice A0_1 l0_1.length c0_1, .int .i64 a0_2, .int .i64 a0_3, .int .i64 a0_4, .int .i64 a0_5, .slice A0_6 l0_6.length c0_6], .int .i64 a1, .int .i64 (wrap64 (a2_0 + 1)), .int .i64 (wrap64 (a2_1 + a3)), .int .i64 a2_2] rfl q1 ?_; (with_reducible refine (payrollref30_Cumulative.calls kj20 a0_0 _ _ l0_1 a0_2 a0_3 a0_4 a0_5 _ _ l0_6 a1 (wrap64 (a2_0 + 1)) (wrap64 (a2_1 + a3)) a2_2 t475 t476 _ ?side1 ?side2 ?side3 ?side4 A44.out).mono ?_); (case side1 => exact q12); (case side2 => exact HC0_1.out); (case side3 => exact q25); (case side4 => exact HC0_6.out); rintro e w_1 ⟨rfl, hb⟩; refine ⟨_, rfl, ?_⟩; have n0_ := Aside0.mk (blk_below BK466.out hb); have n1_ := Aside0.mk (blk_below BK467.out hb); have n2_ := Aside0.mk (below_step q46 hb); clear BK466; clear BK467; clear HB; have BK466 := n0_; have BK467 := n1_; have HB := n2_; clear n0_ n1_ n2_; (try clear hb); (try clear hb2); (try clear hk); (try clear hi))); go_ret2; exact ⟨by first | rfl | (simp [errW_none, errW_some] <;> rfl) | (simp [*, errW_none, errW_some] <;> rfl), q46⟩)
 ·
  replace c6 := Bool.eq_false_iff.mpr c6
  subst c6
  rw [if_neg (show ¬ (false = true) by decide)] at H
  simp only [Option.some.injEq, Prod.mk.injEq] at H
  obtain ⟨rfl, rfl⟩ := H
  exact (by go_enter Try.func20, Try.ntmps20; go_wp2_with (first | ((with_reducible refine gate_dst (N := 4) rfl ?_); refine box_event ?hg (N := 4) ?hd (cs := #[.int .i64 a0_0, .slice A0_1 l0_1.length c0_1, .int .i64 a0_2, .int .i64 a0_3, .int .i64 a0_4, .int .i64 a0_5, .slice A0_6 l0_6.length c0_6]) (t := 33) ?hr ?_; (case hd => rfl); (case hg => rfl); (case hr => first | (go_simp; done) | (go_simp; rfl)); intro gb466 hg w_1 hbox hb; have n0_ := Aside0.mk (below_step q0 hb); have n1_ := Aside0.mk (hbox); have n2_ := Aside0.mk ((by rw [hg]; exact (below_size q0) : w.heap.size ≤ gb466)); have n3_ := Aside0.mk ((by rw [hg]; exact (below_size q0) : w.heap.size ≤ gb466)); clear HB; have HB := n0_; have BK466 := n1_; have GW466 := n2_; have GE466 := n3_; clear n0_ n1_ n2_ n3_; clear hb hbox hg) | ((with_reducible refine gate_dst (N := 6) rfl ?_); refine box_event ?hg (N := 6) ?hd (cs := #[.int .i64 a2_0, .int .i64 a2_1, .int .i64 a2_2, .slice A2_3 l2_3.length c2_3, .slice A2_4 l2_4.length c2_4]) (t := 25) ?hr ?_; (case hd => rfl); (case hg => rfl); (case hr => first | (go_simp; done) | (go_simp; rfl)); intro gb467 hg w_2 hbox hb; have n0_ := Aside0.mk (blk_below BK466.out hb); have n1_ := Aside0.mk (below_step q131 hb); have n2_ := Aside0.mk (hbox); have n3_ := Aside0.mk ((by rw [hg]; exact (below_size q131) : w.heap.size ≤ gb467)); have n4_ := Aside0.mk ((by rw [hg]; exact (below_size q131) : w.heap.size ≤ gb467)); have n5_ := Aside0.mk ((by rw [hg]; exact Nat.ne_of_lt (blk_lt BK466.out) : gb466 ≠ gb467)); have n6_ := Aside0.mk ((by rw [hg]; exact Nat.ne_of_gt (blk_lt BK466.out) : gb467 ≠ gb466)); clear BK466; clear HB; have BK466 := n0_; have HB := n1_; have BK467 := n2_; have GW467 := n3_; have GE467 := n4_; have NB466_467 := n5_; have NB467_466 := n6_; clear n0_ n1_ n2_ n3_ n4_ n5_ n6_; clear hb hbox hg; have hnb51 := NB466_467.out; have hnc51 := NB467_466.out; obtain ⟨hcz_1, hcz_2, hcz_3, hcz_4, hcz_5, hcz_6, hcz_7, hfz_1, hfz_2, hfz_3, hfz_4, hfz_5, hfz_6, hfz_7⟩ := blk7 BK466.out) | ((with_reducible refine gate_callee (f := 46) rfl ?_); refine goesL_ (some 11) rfl rfl Try.func46 (by kernel_rfl) rfl #[.agg #[.int .i64 a0_0, .slice A0_1 l0_1.length c0_1, .int .i64 a0_2, .int .i64 a0_3, .int .i64 a0_4, .int .i64 a0_5, .slice A0_6 l0_6.length c0_6]] rfl q1 ?_; (with_reducible refine (payrollref30_Valid.calls k a0_0 _ _ l0_1 a0_2 a0_3 a0_4 a0_5 _ _ l0_6 false _ ?side1 ?side2 ?side3 ?side4 A5.out).mono ?_); (case side1 => exact q12); (case side2 => exact HC0_1.out); (case side3 => exact q25); (case side4 => exact HC0_6.out); rintro e w_3 ⟨rfl, hb⟩; refine ⟨_, rfl, ?_⟩; have n0_ := Aside0.mk (blk_below BK466.out hb); have n1_ := Aside0.mk (blk_below BK467.out hb); have n2_ := Aside0.mk (below_step q46 hb); clear BK466; clear BK467; clear HB; have BK466 := n0_; have BK467 := n1_; have HB := n2_; clear n0_ n1_ n2_; (try clear hb); (try clear hb2); (try clear hk); (try clear hi))); go_ret2; exact ⟨by first | rfl | (simp [errW_none, errW_some] <;> rfl) | (simp [*, errW_none, errW_some] <;> rfl), q46⟩)

end Go.Proofs.Ytbacfajhgmnjpaa.P
