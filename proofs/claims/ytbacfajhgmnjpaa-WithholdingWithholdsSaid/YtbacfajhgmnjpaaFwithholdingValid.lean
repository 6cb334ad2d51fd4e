/- Proved here: that the Go function withholding_Valid computes the plain function of that name (the machine side of the laws, reworked from a print; no condition of its own). -/
import Derived.Test.YtbacfajhgmnjpaaProg
import Derived.Test.YtbacfajhgmnjpaaV1
import Derived.Test.YtbacfajhgmnjpaaV2
import Derived.Test.YtbacfajhgmnjpaaFPRE
import Derived.Test.YtbacfajhgmnjpaaFwh
import Derived.Test.YtbacfajhgmnjpaaFwithholdingtable
import Derived.Test.YtbacfajhgmnjpaaFbracketValid
namespace Go.Proofs.Ytbacfajhgmnjpaa.P
open Go.RowKit Go.Proofs.YtbacfajhgmnjpaaW.PrintWords Go.Proofs.YtbacfajhgmnjpaaW.PrintLast Go.Proofs.YtbacfajhgmnjpaaW.PrintMore
attribute [local go_sem] max2_int min2_int max_two min_two max_three min_three max_four min_four   -- for this text's walks alone
set_option linter.unusedVariables false
set_option linter.unusedSimpArgs false

def withholding_Valid.j0 : Nat → Bool → Int → List (S58) → Int → Int → Int → Int → List (S80) → Option (Bool)
 | 0, _, _, _, _, _, _, _, _ => none
 | k + 1, x11, x113000, x113001, x113002, x113003, x113004, x113005, x113006 => if x11 = true then (if (x113006.length : Int) > 0 then (some false) else ((bracket_Valid.f k x113001).bind fun t117 => (if t117 = true then ((withholding_amount.f x113002).bind fun t118 => (if t118 = true then ((withholding_amount.f x113003).bind fun t119 => (if t119 = true then (if x113004 ≥ 1 then (if x113004 ≤ 100 then (if x113005 ≥ 0 then (some (decide (x113005 ≤ 6))) else (some false)) else (some false)) else (some false)) else (some false))) else (some false))) else (some false)))) else (some false)
def withholding_Valid.f (k : Nat) (a0_0 : Int) (l0_1 : List (S58)) (a0_2 : Int) (a0_3 : Int) (a0_4 : Int) (a0_5 : Int) (l0_6 : List (S80)) : Option (Bool) := if a0_0 = 1 then ((withholding_table.f k l0_6).bind fun t113 => (if t113 = true then ((bracket_Valid.f k l0_1).bind fun t114 => (if t114 = true then ((withholding_amount.f a0_2).bind fun t115 => (if t115 = true then ((withholding_amount.f a0_3).bind fun t116 => (if t116 = true then (if a0_4 ≥ 1 then (if a0_4 ≤ 100 then (if a0_5 ≥ 0 then (some (decide (a0_5 ≤ 6))) else (some false)) else (some false)) else (some false)) else (some false))) else (some false))) else (some false))) else (some false))) else (if a0_0 = 2 then (withholding_Valid.j0 k (a0_0 == 2) a0_0 l0_1 a0_2 a0_3 a0_4 a0_5 l0_6) else (withholding_Valid.j0 k (a0_0 == 3) a0_0 l0_1 a0_2 a0_3 a0_4 a0_5 l0_6))
theorem withholding_Valid.mono_l : ∀ k, (∀ y0 y1 y2 y3 y4 y5 y6 y7, LeO (withholding_Valid.j0 k y0 y1 y2 y3 y4 y5 y6 y7) (withholding_Valid.j0 (k + 1) y0 y1 y2 y3 y4 y5 y6 y7))
 | 0 => fun _ _ _ _ _ _ _ _ r h => by simp [withholding_Valid.j0] at h
 | k + 1 => by
  have ih0 := withholding_Valid.mono_l k
  ·
   intro y0 y1 y2 y3 y4 y5 y6 y7
   unfold withholding_Valid.j0
   repeat' first
   | (with_reducible exact ih0 _ _ _ _ _ _ _ _)
   | (with_reducible exact bracket_Valid.mono _ _)
   | (with_reducible exact withholding_table.mono _ _)
   | (with_reducible exact LeO.refl _)
   | (with_reducible exact LeO.none _)
   | (with_reducible refine LeO.ite ?_ ?_)
   | (with_reducible refine LeO.bind ?_ (fun _ => ?_))
   | exact ih0 _ _ _ _ _ _ _ _
   | exact bracket_Valid.mono _ _
   | exact withholding_table.mono _ _
   | exact LeO.none _
   | refine LeO.ite ?_ ?_
   | refine LeO.bind ?_ (fun _ => ?_)
theorem withholding_Valid.mono : ∀ a0 a1 a2 a3 a4 a5 a6 k, LeO (withholding_Valid.f k a0 a1 a2 a3 a4 a5 a6) (withholding_Valid.f (k + 1) a0 a1 a2 a3 a4 a5 a6) := by
 intro a0 a1 a2 a3 a4 a5 a6 k
 have ih0 := withholding_Valid.mono_l k
 unfold withholding_Valid.f
 repeat' first
   | (with_reducible exact ih0 _ _ _ _ _ _ _ _)
   | (with_reducible exact bracket_Valid.mono _ _)
   | (with_reducible exact withholding_table.mono _ _)
   | (with_reducible exact LeO.refl _)
   | (with_reducible exact LeO.none _)
   | (with_reducible refine LeO.ite ?_ ?_)
   | (with_reducible refine LeO.bind ?_ (fun _ => ?_))
   | exact ih0 _ _ _ _ _ _ _ _
   | exact bracket_Valid.mono _ _
   | exact withholding_table.mono _ _
   | exact LeO.none _
   | refine LeO.ite ?_ ?_
   | refine LeO.bind ?_ (fun _ => ?_)
set_option maxHeartbeats 8000000 in
set_option maxRecDepth 100000 in
theorem withholding_Valid.calls (k : Nat) (a0_0 : Int) (A0_1 : Option Addr) (c0_1 : Nat) (l0_1 : List (S58)) (a0_2 : Int) (a0_3 : Int) (a0_4 : Int) (a0_5 : Int) (A0_6 : Option Addr) (c0_6 : Nat) (l0_6 : List (S80)) (r : Bool) (w : World) (hr0_1 : Kd.C k58 w A0_1 l0_1.length l0_1) (hc0_1 : l0_1.length ≤ c0_1) (hr0_6 : Kd.C k80 w A0_6 l0_6.length l0_6) (hc0_6 : l0_6.length ≤ c0_6) (h : withholding_Valid.f k a0_0 l0_1 a0_2 a0_3 a0_4 a0_5 l0_6 = some r) :
  Calls Try.prog 40 #[.agg #[.int .i64 a0_0, .slice A0_1 l0_1.length c0_1, .int .i64 a0_2, .int .i64 a0_3, .int .i64 a0_4, .int .i64 a0_5, .slice A0_6 l0_6.length c0_6]] w fun e w' => e = .returned (.bool r) ∧ Below w.heap.size w w' := by
 have hu33 := Try.underlying33
 have HR0_1 := Aside0.mk hr0_1
 have HC0_1 := Aside0.mk hc0_1
 clear hr0_1 hc0_1
 have HR0_6 := Aside0.mk hr0_6
 have HC0_6 := Aside0.mk hc0_6
 clear hr0_6 hc0_6
 have HB := Aside0.mk (Below.refl w.heap.size w)
 have H : (if a0_0 = 1 then ((withholding_table.f k l0_6).bind fun t113 => (if t113 = true then ((bracket_Valid.f k l0_1).bind fun t114 => (if t114 = true then ((withholding_amount.f a0_2).bind fun t115 => (if t115 = true then ((withholding_amount.f a0_3).bind fun t116 => (if t116 = true then (if a0_4 ≥ 1 then (if a0_4 ≤ 100 then (if a0_5 ≥ 0 then (some (decide (a0_5 ≤ 6))) else (some false)) else (some false)) else (some false)) else (some false))) else (some false))) else (some false))) else (some false))) else (if a0_0 = 2 then (withholding_Valid.j0 k (a0_0 == 2) a0_0 l0_1 a0_2 a0_3 a0_4 a0_5 l0_6) else (withholding_Valid.j0 k (a0_0 == 3) a0_0 l0_1 a0_2 a0_3 a0_4 a0_5 l0_6))) = some r := h
 clear h
 by_cases c2 : a0_0 = 1
 ·
  rw [if_pos c2] at H
  have c2b0 : (a0_0 == 1) = true := beq_iff_eq.mpr c2
  have c2b1 : (a0_0 != 1) = false := bne_eq_false_iff_eq.mpr c2
  clear c2
  replace H := Option.bind_eq_some_iff.mp H
  obtain ⟨t113, A30, H⟩ := H
  try dsimp only at H
  have A3 := Aside0.mk A30
  clear A30
  by_cases c4 : t113 = true
  ·
   subst c4
   rw [if_pos rfl] at H
   replace H := Option.bind_eq_some_iff.mp H
   obtain ⟨t114, A50, H⟩ := H
   try dsimp only at H
   have A5 := Aside0.mk A50
   clear A50
   by_cases c6 : t114 = true
   ·
    subst c6
    rw [if_pos rfl] at H
    replace H := Option.bind_eq_some_iff.mp H
    obtain ⟨t115, A70, H⟩ := H
    try dsimp only at H
    have A7 := Aside0.mk A70
    clear A70
    by_cases c8 : t115 = true
    ·
     subst c8
     rw [if_pos rfl] at H
     replace H := Option.bind_eq_some_iff.mp H
     obtain ⟨t116, A90, H⟩ := H
     try dsimp only at H
     have A9 := Aside0.mk A90
     clear A90
     by_cases c10 : t116 = true
     ·
      subst c10
      rw [if_pos rfl] at H
      by_cases c11 : a0_4 ≥ 1
      ·
       rw [if_pos c11] at H
       have c11b0 : decide (1 ≤ a0_4) = true := decide_eq_true c11
       clear c11
       by_cases c12 : a0_4 ≤ 100
       ·
        rw [if_pos c12] at H
        have c12b0 : decide (a0_4 ≤ 100) = true := decide_eq_true c12
        clear c12
        by_cases c13 : a0_5 ≥ 0
        ·
         rw [if_pos c13] at H
         have c13b0 : decide (0 ≤ a0_5) = true := decide_eq_true c13
         clear c13
         obtain rfl := Option.some.inj H
         exact q2
        ·
         rw [if_neg c13] at H
         have c13b0 : decide (0 ≤ a0_5) = false := decide_eq_false c13
         clear c13
         obtain rfl := Option.some.inj H
         exact q2
       ·
        rw [if_neg c12] at H
        have c12b0 : decide (a0_4 ≤ 100) = false := decide_eq_false c12
        clear c12
        obtain rfl := Option.some.inj H
        exact q2
      ·
       rw [if_neg c11] at H
       have c11b0 : decide (1 ≤ a0_4) = false := decide_eq_false c11
       clear c11
       obtain rfl := Option.some.inj H
       exact q2
     ·
      replace c10 := Bool.eq_false_iff.mpr c10
      subst c10
      rw [if_neg (show ¬ (false = true) by decide)] at H
      obtain rfl := Option.some.inj H
      exact (by go_enter Try.func40, Try.ntmps40; go_wp2_with (first | ((with_reducible refine gate_dst (N := 1) rfl ?_); refine box_event ?hg (N := 1) ?hd (cs := #[.int .i64 a0_0, .slice A0_1 l0_1.length c0_1, .int .i64 a0_2, .int .i64 a0_3, .int .i64 a0_4, .int .i64 a0_5, .slice A0_6 l0_6.length c0_6]) (t := 33) ?hr ?_; (case hd => rfl); (case hg => rfl); (case hr => first | (go_simp; done) | (go_simp; rfl)); intro gb112 hg w_1 hbox hb; have n0_ := Aside0.mk (below_step q0 hb); have n1_ := Aside0.mk (hbox); have n2_ := Aside0.mk ((by rw [hg]; exact (below_size q0) : w.heap.size ≤ gb112)); have n3_ := Aside0.mk ((by rw [hg]; exact (below_size q0) : w.heap.size ≤ gb112)); clear HB; have HB := n0_; have BK112 := n1_; have GW112 := n2_; have GE112 := n3_; clear n0_ n1_ n2_ n3_; clear hb hbox hg; obtain ⟨hcz_1, hcz_2, hcz_3, hcz_4, hcz_5, hcz_6, hcz_7, hfz_1, hfz_2, hfz_3, hfz_4, hfz_5, hfz_6, hfz_7⟩ := blk7 BK112.out) | ((with_reducible refine gate_callee (f := 55) rfl ?_); refine goesL_ (some 9) rfl rfl Try.func55 (by kernel_rfl) rfl #[.slice A0_6 l0_6.length c0_6] rfl q1 ?_; (with_reducible refine (withholding_table.calls k _ _ l0_6 true _ ?side1 ?side2 A3.out).mono ?_); (case side1 => exact q25); (case side2 => exact HC0_6.out); rintro e w_2 ⟨rfl, hb⟩; refine ⟨_, rfl, ?_⟩; have n0_ := Aside0.mk (blk_below BK112.out hb); have n1_ := Aside0.mk (below_step q36 hb); clear BK112; clear HB; have BK112 := n0_; have HB := n1_; clear n0_ n1_; (try clear hb); (try clear hb2); (try clear hk); (try clear hi); obtain ⟨hcz_8, hcz_9, hcz_10, hcz_11, hcz_12, hcz_13, hcz_14, hfz_8, hfz_9, hfz_10, hfz_11, hfz_12, hfz_13, hfz_14⟩ := blk7 BK112.out) | ((with_reducible refine gate_callee (f := 56) rfl ?_); refine goesL_ (some 20) rfl rfl Try.func56 (by kernel_rfl) rfl #[.slice A0_1 l0_1.length c0_1] rfl q1 ?_; (with_reducible refine (bracket_Valid.calls k _ _ l0_1 true _ ?side1 ?side2 A5.out).mono ?_); (case side1 => exact q12); (case side2 => exact HC0_1.out); rintro e w_3 ⟨rfl, hb⟩; refine ⟨_, rfl, ?_⟩; have n0_ := Aside0.mk (blk_below BK112.out hb); have n1_ := Aside0.mk (below_step q36 hb); clear BK112; clear HB; have BK112 := n0_; have HB := n1_; clear n0_ n1_; (try clear hb); (try clear hb2); (try clear hk); (try clear hi); obtain ⟨hcz_15, hcz_16, hcz_17, hcz_18, hcz_19, hcz_20, hcz_21, hfz_15, hfz_16, hfz_17, hfz_18, hfz_19, hfz_20, hfz_21⟩ := blk7 BK112.out) | (go_at_call 42; (with_reducible refine (withholding_amount.calls a0_2 true _ A7.out).mono ?_); rintro e w' ⟨rfl, ⟨nd, rfl⟩⟩) | (go_at_call 42; (with_reducible refine (withholding_amount.calls a0_3 false _ A9.out).mono ?_); rintro e w' ⟨rfl, ⟨nd, rfl⟩⟩)); go_ret; exact ⟨by first | rfl | (simp [errW_none, errW_some] <;> rfl) | (simp [*, errW_none, errW_some] <;> rfl), q36⟩)
    ·
     replace c8 := Bool.eq_false_iff.mpr c8
     subst c8
     rw [if_neg (show ¬ (false = true) by decide)] at H
     obtain rfl := Option.some.inj H
     exact (by go_enter Try.func40, Try.ntmps40; go_wp2_with (first | ((with_reducible refine gate_dst (N := 1) rfl ?_); refine box_event ?hg (N := 1) ?hd (cs := #[.int .i64 a0_0, .slice A0_1 l0_1.length c0_1, .int .i64 a0_2, .int .i64 a0_3, .int .i64 a0_4, .int .i64 a0_5, .slice A0_6 l0_6.length c0_6]) (t := 33) ?hr ?_; (case hd => rfl); (case hg => rfl); (case hr => first | (go_simp; done) | (go_simp; rfl)); intro gb112 hg w_1 hbox hb; have n0_ := Aside0.mk (below_step q0 hb); have n1_ := Aside0.mk (hbox); have n2_ := Aside0.mk ((by rw [hg]; exact (below_size q0) : w.heap.size ≤ gb112)); have n3_ := Aside0.mk ((by rw [hg]; exact (below_size q0) : w.heap.size ≤ gb112)); clear HB; have HB := n0_; have BK112 := n1_; have GW112 := n2_; have GE112 := n3_; clear n0_ n1_ n2_ n3_; clear hb hbox hg; obtain ⟨hcz_1, hcz_2, hcz_3, hcz_4, hcz_5, hcz_6, hcz_7, hfz_1, hfz_2, hfz_3, hfz_4, hfz_5, hfz_6, hfz_7⟩ := blk7 BK112.out) | ((with_reducible refine gate_callee (f := 55) rfl ?_); refine goesL_ (some 9) rfl rfl Try.func55 (by kernel_rfl) rfl #[.slice A0_6 l0_6.length c0_6] rfl q1 ?_; (with_reducible refine (withholding_table.calls k _ _ l0_6 true _ ?side1 ?side2 A3.out).mono ?_); (case side1 => exact q25); (case side2 => exact HC0_6.out); rintro e w_2 ⟨rfl, hb⟩; refine ⟨_, rfl, ?_⟩; have n0_ := Aside0.mk (blk_below BK112.out hb); have n1_ := Aside0.mk (below_step q36 hb); clear BK112; clear HB; have BK112 := n0_; have HB := n1_; clear n0_ n1_; (try clear hb); (try clear hb2); (try clear hk); (try clear hi); obtain ⟨hcz_8, hcz_9, hcz_10, hcz_11, hcz_12, hcz_13, hcz_14, hfz_8, hfz_9, hfz_10, hfz_11, hfz_12, hfz_13, hfz_14⟩ := blk7 BK112.out) | ((with_reducible refine gate_callee (f := 56) rfl ?_); refine goesL_ (some 20) rfl rfl Try.func56 (by kernel_rfl) rfl #[.slice A0_1 l0_1.length c0_1] rfl q1 ?_; (with_reducible refine (bracket_Valid.calls k _ _ l0_1 true _ ?side1 ?side2 A5.out).mono ?_); (case side1 => exact q12); (case side2 => exact HC0_1.out); rintro e w_3 ⟨rfl, hb⟩; refine ⟨_, rfl, ?_⟩; have n0_ := Aside0.mk (blk_below BK112.out hb); have n1_ := Aside0.mk (below_step q36 hb); clear BK112; clear HB; have BK112 := n0_; have HB := n1_; clear n0_ n1_; (try clear hb); (try clear hb2); (try clear hk); (try clear hi); obtain ⟨hcz_15, hcz_16, hcz_17, hcz_18, hcz_19, hcz_20, hcz_21, hfz_15, hfz_16, hfz_17, hfz_18, hfz_19, hfz_20, hfz_21⟩ := blk7 BK112.out) | (go_at_call 42; (with_reducible refine (withholding_amount.calls a0_2 false _ A7.out).mono ?_); rintro e w' ⟨rfl, ⟨nd, rfl⟩⟩)); go_ret; exact ⟨by first | rfl | (simp [errW_none, errW_some] <;> rfl) | (simp [*, errW_none, errW_some] <;> rfl), q36⟩)
   ·
    replace c6 := Bool.eq_false_iff.mpr c6
    subst c6
    rw [if_neg (show ¬ (false = true) by decide)] at H
    obtain rfl := Option.some.inj H
    exact (by go_enter Try.func40, Try.ntmps40; go_wp2_with (first | ((with_reducible refine gate_dst (N := 1) rfl ?_); refine box_event ?hg (N := 1) ?hd (cs := #[.int .i64 a0_0, .slice A0_1 l0_1.length c0_1, .int .i64 a0_2, .int .i64 a0_3, .int .i64 a0_4, .int .i64 a0_5, .slice A0_6 l0_6.length c0_6]) (t := 33) ?hr ?_; (case hd => rfl); (case hg => rfl); (case hr => first | (go_simp; done) | (go_simp; rfl)); intro gb112 hg w_1 hbox hb; have n0_ := Aside0.mk (below_step q0 hb); have n1_ := Aside0.mk (hbox); have n2_ := Aside0.mk ((by rw [hg]; exact (below_size q0) : w.heap.size ≤ gb112)); have n3_ := Aside0.mk ((by rw [hg]; exact (below_size q0) : w.heap.size ≤ gb112)); clear HB; have HB := n0_; have BK112 := n1_; have GW112 := n2_; have GE112 := n3_; clear n0_ n1_ n2_ n3_; clear hb hbox hg; obtain ⟨hcz_1, hcz_2, hcz_3, hcz_4, hcz_5, hcz_6, hcz_7, hfz_1, hfz_2, hfz_3, hfz_4, hfz_5, hfz_6, hfz_7⟩ := blk7 BK112.out) | ((with_reducible refine gate_callee (f := 55) rfl ?_); refine goesL_ (some 9) rfl rfl Try.func55 (by kernel_rfl) rfl #[.slice A0_6 l0_6.length c0_6] rfl q1 ?_; (with_reducible refine (withholding_table.calls k _ _ l0_6 true _ ?side1 ?side2 A3.out).mono ?_); (case side1 => exact q25); (case side2 => exact HC0_6.out); rintro e w_2 ⟨rfl, hb⟩; refine ⟨_, rfl, ?_⟩; have n0_ := Aside0.mk (blk_below BK112.out hb); have n1_ := Aside0.mk (below_step q36 hb); clear BK112; clear HB; have BK112 := n0_; have HB := n1_; clear n0_ n1_; (try clear hb); (try clear hb2); (try clear hk); (try clear hi); obtain ⟨hcz_8, hcz_9, hcz_10, hcz_11, hcz_12, hcz_13, hcz_14, hfz_8, hfz_9, hfz_10, hfz_11, hfz_12, hfz_13, hfz_14⟩ := blk7 BK112.out) | ((with_reducible refine gate_callee (f := 56) rfl ?_); refine goesL_ (some 20) rfl rfl Try.func56 (by kernel_rfl) rfl #[.slice A0_1 l0_1.length c0_1] rfl q1 ?_; (with_reducible refine (bracket_Valid.calls k _ _ l0_1 false _ ?side1 ?side2 A5.out).mono ?_); (case side1 => exact q12); (case side2 => exact HC0_1.out); rintro e w_3 ⟨rfl, hb⟩; refine ⟨_, rfl, ?_⟩; have n0_ := Aside0.mk (blk_below BK112.out hb); have n1_ := Aside0.mk (below_step q36 hb); clear BK112; clear HB; have BK112 := n0_; have HB := n1_; clear n0_ n1_; (try clear hb); (try clear hb2); (try clear hk); (try clear hi))); go_ret; exact ⟨by first | rfl | (simp [errW_none, errW_some] <;> rfl) | (simp [*, errW_none, errW_some] <;> rfl), q36⟩)
  ·
   replace c4 := Bool.eq_false_iff.mpr c4
   subst c4
   rw [if_neg (show ¬ (false = true) by decide)] at H
   obtain rfl := Option.some.inj H
   exact (by go_enter Try.func40, Try.ntmps40; go_wp2_with (first | ((with_reducible refine gate_dst (N := 1) rfl ?_); refine box_event ?hg (N := 1) ?hd (cs := #[.int .i64 a0_0, .slice A0_1 l0_1.length c0_1, .int .i64 a0_2, .int .i64 a0_3, .int .i64 a0_4, .int .i64 a0_5, .slice A0_6 l0_6.length c0_6]) (t := 33) ?hr ?_; (case hd => rfl); (case hg => rfl); (case hr => first | (go_simp; done) | (go_simp; rfl)); intro gb112 hg w_1 hbox hb; have n0_ := Aside0.mk (below_step q0 hb); have n1_ := Aside0.mk (hbox); have n2_ := Aside0.mk ((by rw [hg]; exact (below_size q0) : w.heap.size ≤ gb112)); have n3_ := Aside0.mk ((by rw [hg]; exact (below_size q0) : w.heap.size ≤ gb112)); clear HB; have HB := n0_; have BK112 := n1_; have GW112 := n2_; have GE112 := n3_; clear n0_ n1_ n2_ n3_; clear hb hbox hg; obtain ⟨hcz_1, hcz_2, hcz_3, hcz_4, hcz_5, hcz_6, hcz_7, hfz_1, hfz_2, hfz_3, hfz_4, hfz_5, hfz_6, hfz_7⟩ := blk7 BK112.out) | ((with_reducible refine gate_callee (f := 55) rfl ?_); refine goesL_ (some 9) rfl rfl Try.func55 (by kernel_rfl) rfl #[.slice A0_6 l0_6.length c0_6] rfl q1 ?_; (with_reducible refine (withholding_table.calls k _ _ l0_6 false _ ?side1 ?side2 A3.out).mono ?_); (case side1 => exact q25); (case side2 => exact HC0_6.out); rintro e w_2 ⟨rfl, hb⟩; refine ⟨_, rfl, ?_⟩; have n0_ := Aside0.mk (blk_below BK112.out hb); have n1_ := Aside0.mk (below_step q36 hb); clear BK112; clear HB; have BK112 := n0_; have HB := n1_; clear n0_ n1_; (try clear hb); (try clear hb2); (try clear hk); (try clear hi))); go_ret; exact ⟨by first | rfl | (simp [errW_none, errW_some] <;> rfl) | (simp [*, errW_none, errW_some] <;> rfl), q36⟩)
 ·
  rw [if_neg c2] at H
  have c2b0 : (a0_0 == 1) = false := beq_eq_false_iff_ne.mpr c2
  have c2b1 : (a0_0 != 1) = true := bne_iff_ne.mpr c2
  have HC58 := Aside0.mk H
  clear H
  go_enter Try.func40, Try.ntmps40
  go_upto_if 11 with (first | ((with_reducible refine gate_dst (N := 1) rfl ?_); refine box_event ?hg (N := 1) ?hd (cs := #[.int .i64 a0_0, .slice A0_1 l0_1.length c0_1, .int .i64 a0_2, .int .i64 a0_3, .int .i64 a0_4, .int .i64 a0_5, .slice A0_6 l0_6.length c0_6]) (t := 33) ?hr ?_; (case hd => rfl); (case hg => rfl); (case hr => first | (go_simp; done) | (go_simp; rfl)); intro gb112 hg w59 hbox hb; have n0_ := Aside0.mk (below_step q0 hb); have n1_ := Aside0.mk (hbox); have n2_ := Aside0.mk ((by rw [hg]; exact (below_size q0) : w.heap.size ≤ gb112)); have n3_ := Aside0.mk ((by rw [hg]; exact (below_size q0) : w.heap.size ≤ gb112)); clear HB; have HB := n0_; have BK112 := n1_; have GW112 := n2_; have GE112 := n3_; clear n0_ n1_ n2_ n3_; clear hb hbox hg; obtain ⟨hcz60_0, hcz60_1, hcz60_2, hcz60_3, hcz60_4, hcz60_5, hcz60_6, hfz60_0, hfz60_1, hfz60_2, hfz60_3, hfz60_4, hfz60_5, hfz60_6⟩ := blk7 BK112.out))
  (try simp only [Act.put, List.setIfInBounds_toArray, List.set_cons_zero, List.set_cons_succ])
  go_cut [11] (fun v11 wc => ∃ (kq : Nat) (x11_57 : Bool), v11 = .bool x11_57 ∧ Aside0 (withholding_Valid.j0 kq x11_57 a0_0 l0_1 a0_2 a0_3 a0_4 a0_5 l0_6 = some r) ∧ Aside0 (kq ≤ k) ∧ Aside0 (wc.heap[gb112]? = some (.cells #[.int .i64 a0_0, (.slice A0_1 l0_1.length c0_1), .int .i64 a0_2, .int .i64 a0_3, .int .i64 a0_4, .int .i64 a0_5, (.slice A0_6 l0_6.length c0_6)] 33 (0, 0))) ∧ Aside0 (Below w.heap.size w wc))
  case first =>
   have H := HC58.out
   clear HC58
   by_cases c61 : a0_0 = 2
   ·
    rw [if_pos c61] at H
    have c61b0 : (a0_0 == 2) = true := beq_iff_eq.mpr c61
    have c61b1 : (a0_0 != 2) = false := bne_eq_false_iff_eq.mpr c61
    clear c61
    (first | rw [c61b0] | (simp only [i64_w, i32_w]; rw [c61b0]) | skip)
    have H' := Aside0.mk H
    clear H
    go_wp2
    go_meet
    case rel => exact ⟨_, ((a0_0 == 2)), q26, H', ⟨by first | omega | exact Nat.le_refl _⟩, ⟨q80⟩, ⟨q36⟩⟩
   ·
    rw [if_neg c61] at H
    have c61b0 : (a0_0 == 2) = false := beq_eq_false_iff_ne.mpr c61
    have c61b1 : (a0_0 != 2) = true := bne_iff_ne.mpr c61
    (first | rw [c61b0] | (simp only [i64_w, i32_w]; rw [c61b0]) | skip)
    have H' := Aside0.mk H
    clear H
    go_wp2
    go_meet
    case rel => exact ⟨_, ((a0_0 == 3)), q26, H', ⟨by first | omega | exact Nat.le_refl _⟩, ⟨q80⟩, ⟨q36⟩⟩
  case rest =>
   clear HC58
   try clear c1
   try clear c2
   try clear c2b0
   try clear c2b1
   try clear p2
   try clear c4
   try clear c5
   try clear c6
   try clear c8
   try clear c10
   try clear c11
   try clear c11b0
   try clear c12
   try clear c12b0
   try clear c13
   try clear c13b0
   try clear c40
   try clear c55
   try clear c56
   try clear c61
   try clear c61b0
   try clear c61b1
   try clear hcz15_0
   try clear hcz15_1
   try clear hcz15_2
   try clear hcz15_3
   try clear hcz15_4
   try clear hcz15_5
   try clear hcz15_6
   try clear hcz17_0
   try clear hcz17_1
   try clear hcz17_2
   try clear hcz17_3
   try clear hcz17_4
   try clear hcz17_5
   try clear hcz17_6
   try clear hcz19_0
   try clear hcz19_1
   try clear hcz19_2
   try clear hcz19_3
   try clear hcz19_4
   try clear hcz19_5
   try clear hcz19_6
   try clear hcz21_0
   try clear hcz21_1
   try clear hcz21_2
   try clear hcz21_3
   try clear hcz21_4
   try clear hcz21_5
   try clear hcz21_6
   try clear hcz23_0
   try clear hcz23_1
   try clear hcz23_2
   try clear hcz23_3
   try clear hcz23_4
   try clear hcz23_5
   try clear hcz23_6
   try clear hcz25_0
   try clear hcz25_1
   try clear hcz25_2
   try clear hcz25_3
   try clear hcz25_4
   try clear hcz25_5
   try clear hcz25_6
   try clear hcz27_0
   try clear hcz27_1
   try clear hcz27_2
   try clear hcz27_3
   try clear hcz27_4
   try clear hcz27_5
   try clear hcz27_6
   try clear hcz29_0
   try clear hcz29_1
   try clear hcz29_2
   try clear hcz29_3
   try clear hcz29_4
   try clear hcz29_5
   try clear hcz29_6
   try clear hcz31_0
   try clear hcz31_1
   try clear hcz31_2
   try clear hcz31_3
   try clear hcz31_4
   try clear hcz31_5
   try clear hcz31_6
   try clear hcz33_0
   try clear hcz33_1
   try clear hcz33_2
   try clear hcz33_3
   try clear hcz33_4
   try clear hcz33_5
   try clear hcz33_6
   try clear hcz35_0
   try clear hcz35_1
   try clear hcz35_2
   try clear hcz35_3
   try clear hcz35_4
   try clear hcz35_5
   try clear hcz35_6
   try clear hcz37_0
   try clear hcz37_1
   try clear hcz37_2
   try clear hcz37_3
   try clear hcz37_4
   try clear hcz37_5
   try clear hcz37_6
   try clear hcz39_0
   try clear hcz39_1
   try clear hcz39_2
   try clear hcz39_3
   try clear hcz39_4
   try clear hcz39_5
   try clear hcz39_6
   try clear hcz41_0
   try clear hcz41_1
   try clear hcz41_2
   try clear hcz41_3
   try clear hcz41_4
   try clear hcz41_5
   try clear hcz41_6
   try clear hcz43_0
   try clear hcz43_1
   try clear hcz43_2
   try clear hcz43_3
   try clear hcz43_4
   try clear hcz43_5
   try clear hcz43_6
   try clear hcz45_0
   try clear hcz45_1
   try clear hcz45_2
   try clear hcz45_3
   try clear hcz45_4
   try clear hcz45_5
   try clear hcz45_6
   try clear hcz47_0
   try clear hcz47_1
   try clear hcz47_2
   try clear hcz47_3
   try clear hcz47_4
   try clear hcz47_5
   try clear hcz47_6
   try clear hcz49_0
   try clear hcz49_1
   try clear hcz49_2
   try clear hcz49_3
   try clear hcz49_4
   try clear hcz49_5
   try clear hcz49_6
   try clear hcz51_0
   try clear hcz51_1
   try clear hcz51_2
   try clear hcz51_3
   try clear hcz51_4
   try clear hcz51_5
   try clear hcz51_6
   try clear hcz53_0
   try clear hcz53_1
   try clear hcz53_2
   try clear hcz53_3
   try clear hcz53_4
   try clear hcz53_5
   try clear hcz53_6
   try clear hcz56_0
   try clear hcz56_1
   try clear hcz56_2
   try clear hcz56_3
   try clear hcz56_4
   try clear hcz56_5
   try clear hcz56_6
   try clear hcz60_0
   try clear hcz60_1
   try clear hcz60_2
   try clear hcz60_3
   try clear hcz60_4
   try clear hcz60_5
   try clear hcz60_6
   try clear hfz15_0
   try clear hfz15_1
   try clear hfz15_2
   try clear hfz15_3
   try clear hfz15_4
   try clear hfz15_5
   try clear hfz15_6
   try clear hfz17_0
   try clear hfz17_1
   try clear hfz17_2
   try clear hfz17_3
   try clear hfz17_4
   try clear hfz17_5
   try clear hfz17_6
   try clear hfz19_0
   try clear hfz19_1
   try clear hfz19_2
   try clear hfz19_3
   try clear hfz19_4
   try clear hfz19_5
   try clear hfz19_6
   try clear hfz21_0
   try clear hfz21_1
   try clear hfz21_2
   try clear hfz21_3
   try clear hfz21_4
   try clear hfz21_5
   try clear hfz21_6
   try clear hfz23_0
   try clear hfz23_1
   try clear hfz23_2
   try clear hfz23_3
   try clear hfz23_4
   try clear hfz23_5
   try clear hfz23_6
   try clear hfz25_0
   try clear hfz25_1
   try clear hfz25_2
   try clear hfz25_3
   try clear hfz25_4
   try clear hfz25_5
   try clear hfz25_6
   try clear hfz27_0
   try clear hfz27_1
   try clear hfz27_2
   try clear hfz27_3
   try clear hfz27_4
   try clear hfz27_5
   try clear hfz27_6
   try clear hfz29_0
   try clear hfz29_1
   try clear hfz29_2
   try clear hfz29_3
   try clear hfz29_4
   try clear hfz29_5
   try clear hfz29_6
   try clear hfz31_0
   try clear hfz31_1
   try clear hfz31_2
   try clear hfz31_3
   try clear hfz31_4
   try clear hfz31_5
   try clear hfz31_6
   try clear hfz33_0
   try clear hfz33_1
   try clear hfz33_2
   try clear hfz33_3
   try clear hfz33_4
   try clear hfz33_5
   try clear hfz33_6
   try clear hfz35_0
   try clear hfz35_1
   try clear hfz35_2
   try clear hfz35_3
   try clear hfz35_4
   try clear hfz35_5
   try clear hfz35_6
   try clear hfz37_0
   try clear hfz37_1
   try clear hfz37_2
   try clear hfz37_3
   try clear hfz37_4
   try clear hfz37_5
   try clear hfz37_6
   try clear hfz39_0
   try clear hfz39_1
   try clear hfz39_2
   try clear hfz39_3
   try clear hfz39_4
   try clear hfz39_5
   try clear hfz39_6
   try clear hfz41_0
   try clear hfz41_1
   try clear hfz41_2
   try clear hfz41_3
   try clear hfz41_4
   try clear hfz41_5
   try clear hfz41_6
   try clear hfz43_0
   try clear hfz43_1
   try clear hfz43_2
   try clear hfz43_3
   try clear hfz43_4
   try clear hfz43_5
   try clear hfz43_6
   try clear hfz45_0
   try clear hfz45_1
   try clear hfz45_2
   try clear hfz45_3
   try clear hfz45_4
   try clear hfz45_5
   try clear hfz45_6
   try clear hfz47_0
   try clear hfz47_1
   try clear hfz47_2
   try clear hfz47_3
   try clear hfz47_4
   try clear hfz47_5
   try clear hfz47_6
   try clear hfz49_0
   try clear hfz49_1
   try clear hfz49_2
   try clear hfz49_3
   try clear hfz49_4
   try clear hfz49_5
   try clear hfz49_6
   try clear hfz51_0
   try clear hfz51_1
   try clear hfz51_2
   try clear hfz51_3
   try clear hfz51_4
   try clear hfz51_5
   try clear hfz51_6
   try clear hfz53_0
   try clear hfz53_1
   try clear hfz53_2
   try clear hfz53_3
   try clear hfz53_4
   try clear hfz53_5
   try clear hfz53_6
   try clear hfz56_0
   try clear hfz56_1
   try clear hfz56_2
   try clear hfz56_3
   try clear hfz56_4
   try clear hfz56_5
   try clear hfz56_6
   try clear hfz60_0
   try clear hfz60_1
   try clear hfz60_2
   try clear hfz60_3
   try clear hfz60_4
   try clear hfz60_5
   try clear hfz60_6
   obtain ⟨kq, x11_57, rfl, HA, HJ57, BK112, HB⟩ := hcut
   cases kq with
   | zero => exact absurd HA.out (by simp [withholding_Valid.j0])
   | succ kj57 =>
    have H := HA.out
    clear HA
    simp only [withholding_Valid.j0] at H
    by_cases c62 : x11_57 = true
    ·
     subst c62
     rw [if_pos rfl] at H
     by_cases c63 : (l0_6.length : Int) > 0
     ·
      rw [if_pos c63] at H
      have c63b0 : decide (0 < (l0_6.length : Int)) = true := decide_eq_true c63
      have c63b1 : decide (0 < l0_6.length) = true := decide_eq_true (by omega)
      clear c63
      obtain rfl := Option.some.inj H
      obtain ⟨hcz64_0, hcz64_1, hcz64_2, hcz64_3, hcz64_4, hcz64_5, hcz64_6, hfz64_0, hfz64_1, hfz64_2, hfz64_3, hfz64_4, hfz64_5, hfz64_6⟩ := blk7 BK112.out
      go_wp2
      go_ret
      exact ⟨by first | rfl | (simp [errW_none, errW_some] <;> rfl) | (simp [*, errW_none, errW_some] <;> rfl), q36⟩
     ·
      rw [if_neg c63] at H
      have c63b0 : decide (0 < (l0_6.length : Int)) = false := decide_eq_false c63
      have c63b1 : decide (0 < l0_6.length) = false := decide_eq_false (by omega)
      clear c63
      replace H := Option.bind_eq_some_iff.mp H
      obtain ⟨t117, A650, H⟩ := H
      try dsimp only at H
      have A65 := Aside0.mk A650
      clear A650
      by_cases c66 : t117 = true
      ·
       subst c66
       rw [if_pos rfl] at H
       replace H := Option.bind_eq_some_iff.mp H
       obtain ⟨t118, A670, H⟩ := H
       try dsimp only at H
       have A67 := Aside0.mk A670
       clear A670
       by_cases c68 : t118 = true
       ·
        subst c68
        rw [if_pos rfl] at H
        replace H := Option.bind_eq_some_iff.mp H
        obtain ⟨t119, A690, H⟩ := H
        try dsimp only at H
        have A69 := Aside0.mk A690
        clear A690
        by_cases c70 : t119 = true
        ·
         subst c70
         rw [if_pos rfl] at H
         by_cases c71 : a0_4 ≥ 1
         ·
          rw [if_pos c71] at H
          have c71b0 : decide (1 ≤ a0_4) = true := decide_eq_true c71
          clear c71
          by_cases c72 : a0_4 ≤ 100
          ·
           rw [if_pos c72] at H
           have c72b0 : decide (a0_4 ≤ 100) = true := decide_eq_true c72
           clear c72
           by_cases c73 : a0_5 ≥ 0
           ·
            rw [if_pos c73] at H
            have c73b0 : decide (0 ≤ a0_5) = true := decide_eq_true c73
            clear c73
            obtain rfl := Option.some.inj H
            obtain ⟨hcz74_0, hcz74_1, hcz74_2, hcz74_3, hcz74_4, hcz74_5, hcz74_6, hfz74_0, hfz74_1, hfz74_2, hfz74_3, hfz74_4, hfz74_5, hfz74_6⟩ := blk7 BK112.out
            exact q22
           ·
            rw [if_neg c73] at H
            have c73b0 : decide (0 ≤ a0_5) = false := decide_eq_false c73
            clear c73
            obtain rfl := Option.some.inj H
            obtain ⟨hcz77_0, hcz77_1, hcz77_2, hcz77_3, hcz77_4, hcz77_5, hcz77_6, hfz77_0, hfz77_1, hfz77_2, hfz77_3, hfz77_4, hfz77_5, hfz77_6⟩ := blk7 BK112.out
            exact q22
          ·
           rw [if_neg c72] at H
           have c72b0 : decide (a0_4 ≤ 100) = false := decide_eq_false c72
           clear c72
           obtain rfl := Option.some.inj H
           obtain ⟨hcz80_0, hcz80_1, hcz80_2, hcz80_3, hcz80_4, hcz80_5, hcz80_6, hfz80_0, hfz80_1, hfz80_2, hfz80_3, hfz80_4, hfz80_5, hfz80_6⟩ := blk7 BK112.out
           exact q22
         ·
          rw [if_neg c71] at H
          have c71b0 : decide (1 ≤ a0_4) = false := decide_eq_false c71
          clear c71
          obtain rfl := Option.some.inj H
          obtain ⟨hcz83_0, hcz83_1, hcz83_2, hcz83_3, hcz83_4, hcz83_5, hcz83_6, hfz83_0, hfz83_1, hfz83_2, hfz83_3, hfz83_4, hfz83_5, hfz83_6⟩ := blk7 BK112.out
          exact q22
        ·
         replace c70 := Bool.eq_false_iff.mpr c70
         subst c70
         rw [if_neg (show ¬ (false = true) by decide)] at H
         obtain rfl := Option.some.inj H
         obtain ⟨hcz86_0, hcz86_1, hcz86_2, hcz86_3, hcz86_4, hcz86_5, hcz86_6, hfz86_0, hfz86_1, hfz86_2, hfz86_3, hfz86_4, hfz86_5, hfz86_6⟩ := blk7 BK112.out
         exact (by go_wp2_with (first | ((with_reducible refine gate_callee (f := 56) rfl ?_); refine goesL_ (some 20) rfl rfl Try.func56 (by kernel_rfl) rfl #[.slice A0_1 l0_1.length c0_1] rfl q1 ?_; (with_reducible refine (bracket_Valid.calls kj57 _ _ l0_1 true _ ?side1 ?side2 A65.out).mono ?_); (case side1 => exact q12); (case side2 => exact HC0_1.out); rintro e w_1 ⟨rfl, hb⟩; refine ⟨_, rfl, ?_⟩; have n0_ := Aside0.mk (blk_below BK112.out hb); have n1_ := Aside0.mk (below_step q36 hb); clear BK112; clear HB; have BK112 := n0_; have HB := n1_; clear n0_ n1_; (try clear hb); (try clear hb2); (try clear hk); (try clear hi); obtain ⟨hcz_1, hcz_2, hcz_3, hcz_4, hcz_5, hcz_6, hcz_7, hfz_1, hfz_2, hfz_3, hfz_4, hfz_5, hfz_6, hfz_7⟩ := blk7 BK112.out) | (go_at_call 42; (with_reducible refine (withholding_amount.calls a0_2 true _ A67.out).mono ?_); rintro e w' ⟨rfl, ⟨nd, rfl⟩⟩) | (go_at_call 42; (with_reducible refine (withholding_amount.calls a0_3 false _ A69.out).mono ?_); rintro e w' ⟨rfl, ⟨nd, rfl⟩⟩)); go_ret; exact ⟨by first | rfl | (simp [errW_none, errW_some] <;> rfl) | (simp [*, errW_none, errW_some] <;> rfl), q36⟩)
       ·
        replace c68 := Bool.eq_false_iff.mpr c68
        subst c68
        rw [if_neg (show ¬ (false = true) by decide)] at H
        obtain rfl := Option.some.inj H
        obtain ⟨hcz89_0, hcz89_1, hcz89_2, hcz89_3, hcz89_4, hcz89_5, hcz89_6, hfz89_0, hfz89_1, hfz89_2, hfz89_3, hfz89_4, hfz89_5, hfz89_6⟩ := blk7 BK112.out
        exact (by go_wp2_with (first | ((with_reducible refine gate_callee (f := 56) rfl ?_); refine goesL_ (some 20) rfl rfl Try.func56 (by kernel_rfl) rfl #[.slice A0_1 l0_1.length c0_1] rfl q1 ?_; (with_reducible refine (bracket_Valid.calls kj57 _ _ l0_1 true _ ?side1 ?side2 A65.out).mono ?_); (case side1 => exact q12); (case side2 => exact HC0_1.out); rintro e w_1 ⟨rfl, hb⟩; refine ⟨_, rfl, ?_⟩; have n0_ := Aside0.mk (blk_below BK112.out hb); have n1_ := Aside0.mk (below_step q36 hb); clear BK112; clear HB; have BK112 := n0_; have HB := n1_; clear n0_ n1_; (try clear hb); (try clear hb2); (try clear hk); (try clear hi); obtain ⟨hcz_1, hcz_2, hcz_3, hcz_4, hcz_5, hcz_6, hcz_7, hfz_1, hfz_2, hfz_3, hfz_4, hfz_5, hfz_6, hfz_7⟩ := blk7 BK112.out) | (go_at_call 42; (with_reducible refine (withholding_amount.calls a0_2 false _ A67.out).mono ?_); rintro e w' ⟨rfl, ⟨nd, rfl⟩⟩)); go_ret; exact ⟨by first | rfl | (simp [errW_none, errW_some] <;> rfl) | (simp [*, errW_none, errW_some] <;> rfl), q36⟩)
      ·
       replace c66 := Bool.eq_false_iff.mpr c66
       subst c66
       rw [if_neg (show ¬ (false = true) by decide)] at H
       obtain rfl := Option.some.inj H
       obtain ⟨hcz92_0, hcz92_1, hcz92_2, hcz92_3, hcz92_4, hcz92_5, hcz92_6, hfz92_0, hfz92_1, hfz92_2, hfz92_3, hfz92_4, hfz92_5, hfz92_6⟩ := blk7 BK112.out
       exact (by go_wp2_with (first | ((with_reducible refine gate_callee (f := 56) rfl ?_); refine goesL_ (some 20) rfl rfl Try.func56 (by kernel_rfl) rfl #[.slice A0_1 l0_1.length c0_1] rfl q1 ?_; (with_reducible refine (bracket_Valid.calls kj57 _ _ l0_1 false _ ?side1 ?side2 A65.out).mono ?_); (case side1 => exact q12); (case side2 => exact HC0_1.out); rintro e w_1 ⟨rfl, hb⟩; refine ⟨_, rfl, ?_⟩; have n0_ := Aside0.mk (blk_below BK112.out hb); have n1_ := Aside0.mk (below_step q36 hb); clear BK112; clear HB; have BK112 := n0_; have HB := n1_; clear n0_ n1_; (try clear hb); (try clear hb2); (try clear hk); (try clear hi))); go_ret; exact ⟨by first | rfl | (simp [errW_none, errW_some] <;> rfl) | (simp [*, errW_none, errW_some] <;> rfl), q36⟩)
    ·
     replace c62 := Bool.eq_false_iff.mpr c62
     subst c62
     rw [if_neg (show ¬ (false = true) by decide)] at H
     obtain rfl := Option.some.inj H
     go_wp2
     go_ret
     exact ⟨by first | rfl | (simp [errW_none, errW_some] <;> rfl) | (simp [*, errW_none, errW_some] <;> rfl), q36⟩

end Go.Proofs.Ytbacfajhgmnjpaa.P
