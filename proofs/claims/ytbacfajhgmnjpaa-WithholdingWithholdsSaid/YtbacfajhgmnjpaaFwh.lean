/- Proved here: the plain facts of several small texts of this seat, one behind the other; no condition of its own. -/
import Derived.Test.YtbacfajhgmnjpaaProg
import Derived.Test.YtbacfajhgmnjpaaV1
import Derived.Test.YtbacfajhgmnjpaaV2
import Derived.Test.YtbacfajhgmnjpaaFPRE
import Derived.Test.YtbacfajhgmnjpaaFbracketTax
namespace Go.Proofs.Ytbacfajhgmnjpaa.P
open Go.RowKit Go.Proofs.YtbacfajhgmnjpaaW.PrintWords Go.Proofs.YtbacfajhgmnjpaaW.PrintLast Go.Proofs.YtbacfajhgmnjpaaW.PrintMore
attribute [local go_sem] max2_int min2_int max_two min_two max_three min_three max_four min_four   -- for this text's walks alone
set_option linter.unusedVariables false
set_option linter.unusedSimpArgs false

def withholding_amount.f (a0 : Int) : Option (Bool) := if a0 ≥ 0 then (some (decide (a0 ≤ 1000000000))) else (some false)
set_option maxHeartbeats 8000000 in
set_option maxRecDepth 100000 in
theorem withholding_amount.calls (a0 : Int) (r : Bool) (w : World) (h : withholding_amount.f a0 = some r) :
  Calls Try.prog 42 #[.int .i64 a0] w fun e w' => e = .returned (.bool r) ∧ Drawn0 w w' := by
 have H : (if a0 ≥ 0 then (some (decide (a0 ≤ 1000000000))) else (some false)) = some r := h
 clear h
 by_cases c2 : a0 ≥ 0
 ·
  rw [if_pos c2] at H
  have c2b0 : decide (0 ≤ a0) = true := decide_eq_true c2
  clear c2
  obtain rfl := Option.some.inj H
  exact (by go_enter Try.func42, Try.ntmps42; go_wp2; go_ret; exact ⟨by first | rfl | (simp; done) | (simp [*]; done), q49⟩)
 ·
  rw [if_neg c2] at H
  have c2b0 : decide (0 ≤ a0) = false := decide_eq_false c2
  clear c2
  obtain rfl := Option.some.inj H
  exact (by go_enter Try.func42, Try.ntmps42; go_wp2; go_ret; exact ⟨by first | rfl | (simp; done) | (simp [*]; done), q49⟩)

end Go.Proofs.Ytbacfajhgmnjpaa.P

namespace Go.Proofs.Ytbacfajhgmnjpaa.P
open Go.RowKit Go.Proofs.YtbacfajhgmnjpaaW.PrintWords Go.Proofs.YtbacfajhgmnjpaaW.PrintLast Go.Proofs.YtbacfajhgmnjpaaW.PrintMore
attribute [local go_sem] max2_int min2_int max_two min_two max_three min_three max_four min_four   -- for this text's walks alone
set_option linter.unusedVariables false
set_option linter.unusedSimpArgs false

def withholding_total.f (a0 : Int) : Option (Bool) := if a0 ≥ 0 then (some (decide (a0 ≤ 1000000000000))) else (some false)
set_option maxHeartbeats 8000000 in
set_option maxRecDepth 100000 in
theorem withholding_total.calls (a0 : Int) (r : Bool) (w : World) (h : withholding_total.f a0 = some r) :
  Calls Try.prog 49 #[.int .i64 a0] w fun e w' => e = .returned (.bool r) ∧ Drawn0 w w' := by
 have H : (if a0 ≥ 0 then (some (decide (a0 ≤ 1000000000000))) else (some false)) = some r := h
 clear h
 by_cases c2 : a0 ≥ 0
 ·
  rw [if_pos c2] at H
  have c2b0 : decide (0 ≤ a0) = true := decide_eq_true c2
  clear c2
  obtain rfl := Option.some.inj H
  exact (by go_enter Try.func49, Try.ntmps49; go_wp2; go_ret; exact ⟨by first | rfl | (simp; done) | (simp [*]; done), q49⟩)
 ·
  rw [if_neg c2] at H
  have c2b0 : decide (0 ≤ a0) = false := decide_eq_false c2
  clear c2
  obtain rfl := Option.some.inj H
  exact (by go_enter Try.func49, Try.ntmps49; go_wp2; go_ret; exact ⟨by first | rfl | (simp; done) | (simp [*]; done), q49⟩)

end Go.Proofs.Ytbacfajhgmnjpaa.P

namespace Go.Proofs.Ytbacfajhgmnjpaa.P
open Go.RowKit Go.Proofs.YtbacfajhgmnjpaaW.PrintWords Go.Proofs.YtbacfajhgmnjpaaW.PrintLast Go.Proofs.YtbacfajhgmnjpaaW.PrintMore
attribute [local go_sem] max2_int min2_int max_two min_two max_three min_three max_four min_four   -- for this text's walks alone
set_option linter.unusedVariables false
set_option linter.unusedSimpArgs false

def withholding_count.f (a0 : Int) : Option (Bool) := if a0 ≥ 1 then (some (decide (a0 ≤ 53))) else (some false)
set_option maxHeartbeats 8000000 in
set_option maxRecDepth 100000 in
theorem withholding_count.calls (a0 : Int) (r : Bool) (w : World) (h : withholding_count.f a0 = some r) :
  Calls Try.prog 41 #[.int .i64 a0] w fun e w' => e = .returned (.bool r) ∧ Drawn0 w w' := by
 have H : (if a0 ≥ 1 then (some (decide (a0 ≤ 53))) else (some false)) = some r := h
 clear h
 by_cases c2 : a0 ≥ 1
 ·
  rw [if_pos c2] at H
  have c2b0 : decide (1 ≤ a0) = true := decide_eq_true c2
  clear c2
  obtain rfl := Option.some.inj H
  exact (by go_enter Try.func41, Try.ntmps41; go_wp2; go_ret; exact ⟨by first | rfl | (simp; done) | (simp [*]; done), q49⟩)
 ·
  rw [if_neg c2] at H
  have c2b0 : decide (1 ≤ a0) = false := decide_eq_false c2
  clear c2
  obtain rfl := Option.some.inj H
  exact (by go_enter Try.func41, Try.ntmps41; go_wp2; go_ret; exact ⟨by first | rfl | (simp; done) | (simp [*]; done), q49⟩)

end Go.Proofs.Ytbacfajhgmnjpaa.P

namespace Go.Proofs.Ytbacfajhgmnjpaa.P
open Go.RowKit Go.Proofs.YtbacfajhgmnjpaaW.PrintWords Go.Proofs.YtbacfajhgmnjpaaW.PrintLast Go.Proofs.YtbacfajhgmnjpaaW.PrintMore
attribute [local go_sem] max2_int min2_int max_two min_two max_three min_three max_four min_four   -- for this text's walks alone
set_option linter.unusedVariables false
set_option linter.unusedSimpArgs false

def withholding_tax.f (k : Nat) (a0_0 : Int) (l0_1 : List (S58)) (a0_2 : Int) (a0_3 : Int) (a0_4 : Int) (a0_5 : Int) (l0_6 : List (S80)) (l1 : List (S58)) (a2 : Int) (a3 : Int) (a4 : Int) : Option (Int × Int) := (bracket_Tax.f k l1 (mx (wrap64 (a4 - a2)) 0) a0_4 a0_5).bind fun bt139 => (if bt139.2 = 0 then (some (mx (wrap64 (bt139.1 - a3)) 0, 0)) else (some (0, bt139.2)))
theorem withholding_tax.mono : ∀ a0 a1 a2 a3 a4 a5 a6 a7 a8 a9 a10 k, LeO (withholding_tax.f k a0 a1 a2 a3 a4 a5 a6 a7 a8 a9 a10) (withholding_tax.f (k + 1) a0 a1 a2 a3 a4 a5 a6 a7 a8 a9 a10) := by
 intro a0 a1 a2 a3 a4 a5 a6 a7 a8 a9 a10 k
 unfold withholding_tax.f
 repeat' first
   | (with_reducible exact bracket_Tax.mono _ _ _ _ _)
   | (with_reducible exact LeO.refl _)
   | (with_reducible exact LeO.none _)
   | (with_reducible refine LeO.ite ?_ ?_)
   | (with_reducible refine LeO.bind ?_ (fun _ => ?_))
   | exact bracket_Tax.mono _ _ _ _ _
   | exact LeO.none _
   | refine LeO.ite ?_ ?_
   | refine LeO.bind ?_ (fun _ => ?_)
set_option maxHeartbeats 8000000 in
set_option maxRecDepth 100000 in
theorem withholding_tax.calls (k : Nat) (a0_0 : Int) (A0_1 : Option Addr) (c0_1 : Nat) (l0_1 : List (S58)) (a0_2 : Int) (a0_3 : Int) (a0_4 : Int) (a0_5 : Int) (A0_6 : Option Addr) (c0_6 : Nat) (l0_6 : List (S80)) (A1 : Option Addr) (c1 : Nat) (l1 : List (S58)) (a2 : Int) (a3 : Int) (a4 : Int) (r1 : Int) (r2 : Int) (w : World) (hr0_1 : Kd.C k58 w A0_1 l0_1.length l0_1) (hc0_1 : l0_1.length ≤ c0_1) (hr0_6 : Kd.C k80 w A0_6 l0_6.length l0_6) (hc0_6 : l0_6.length ≤ c0_6) (hr1 : Kd.C k58 w A1 l1.length l1) (hc1 : l1.length ≤ c1) (h : withholding_tax.f k a0_0 l0_1 a0_2 a0_3 a0_4 a0_5 l0_6 l1 a2 a3 a4 = some (r1, r2)) :
  Calls Try.prog 50 #[.agg #[.int .i64 a0_0, .slice A0_1 l0_1.length c0_1, .int .i64 a0_2, .int .i64 a0_3, .int .i64 a0_4, .int .i64 a0_5, .slice A0_6 l0_6.length c0_6], .slice A1 l1.length c1, .int .i64 a2, .int .i64 a3, .int .i64 a4] w fun e w' => e = .returned (.tuple #[.int .i64 r1, .int .i64 r2]) ∧ Below w.heap.size w w' := by
 have hu33 := Try.underlying33
 have HR0_1 := Aside0.mk hr0_1
 have HC0_1 := Aside0.mk hc0_1
 clear hr0_1 hc0_1
 have HR0_6 := Aside0.mk hr0_6
 have HC0_6 := Aside0.mk hc0_6
 clear hr0_6 hc0_6
 have HR1 := Aside0.mk hr1
 have HC1 := Aside0.mk hc1
 clear hr1 hc1
 have HB := Aside0.mk (Below.refl w.heap.size w)
 have H : ((bracket_Tax.f k l1 (mx (wrap64 (a4 - a2)) 0) a0_4 a0_5).bind fun bt139 => (if bt139.2 = 0 then (some (mx (wrap64 (bt139.1 - a3)) 0, 0)) else (some (0, bt139.2)))) = some (r1, r2) := h
 clear h
 obtain ⟨ji6, hji6⟩ : ∃ j_ : Int, (mx (wrap64 (a4 - a2)) 0) = j_ := ⟨_, rfl⟩
 replace H : ((bracket_Tax.f k l1 (ji6) a0_4 a0_5).bind fun bt139 => (if bt139.2 = 0 then (some (mx (wrap64 (bt139.1 - a3)) 0, 0)) else (some (0, bt139.2)))) = some (r1, r2) := by first | (rw [hji6] at H; exact H) | (simp only [hji6] at H ⊢; exact H)
 (try (have hji6l : 0 ≤ ji6 := by (rw [← hji6]; unfold mx; (repeat' split) <;> omega)))
 (try (have hji6m : 0 ≤ ji6 := by omega))
 have hji6_ : (if (wrap64 (a4 - a2)) < 0 then 0 else (wrap64 (a4 - a2))) = ji6 := hji6
 replace H := Option.bind_eq_some_iff.mp H
 obtain ⟨⟨t139, t140⟩, A70, H⟩ := H
 try dsimp only at H
 have A7 := Aside0.mk A70
 clear A70
 by_cases c8 : t140 = 0
 ·
  rw [if_pos c8] at H
  have c8b0 : (t140 == 0) = true := beq_iff_eq.mpr c8
  have c8b1 : (t140 != 0) = false := bne_eq_false_iff_eq.mpr c8
  clear c8
  obtain ⟨ji9, hji9⟩ : ∃ j_ : Int, (mx (wrap64 (t139 - a3)) 0) = j_ := ⟨_, rfl⟩
  replace H : (some (ji9, 0)) = some (r1, r2) := by first | (rw [hji9] at H; exact H) | (simp only [hji9] at H ⊢; exact H)
  (try rw [hji9] at A7)
  (try (have hji9l : 0 ≤ ji9 := by (rw [← hji9]; unfold mx; (repeat' split) <;> omega)))
  (try (have hji9m : 0 ≤ ji9 := by omega))
  have hji9_ : (if (wrap64 (t139 - a3)) < 0 then 0 else (wrap64 (t139 - a3))) = ji9 := hji9
  simp only [Option.some.injEq, Prod.mk.injEq] at H
  obtain ⟨rfl, rfl⟩ := H
  exact (by go_enter Try.func50, Try.ntmps50; go_wp2_with (first | ((with_reducible refine gate_dst (N := 5) rfl ?_); refine box_event ?hg (N := 5) ?hd (cs := #[.int .i64 a0_0, .slice A0_1 l0_1.length c0_1, .int .i64 a0_2, .int .i64 a0_3, .int .i64 a0_4, .int .i64 a0_5, .slice A0_6 l0_6.length c0_6]) (t := 33) ?hr ?_; (case hd => rfl); (case hg => rfl); (case hr => first | (go_simp; done) | (go_simp; rfl)); intro gb138 hg w_1 hbox hb; have n0_ := Aside0.mk (below_step q0 hb); have n1_ := Aside0.mk (hbox); have n2_ := Aside0.mk ((by rw [hg]; exact (below_size q0) : w.heap.size ≤ gb138)); have n3_ := Aside0.mk ((by rw [hg]; exact (below_size q0) : w.heap.size ≤ gb138)); clear HB; have HB := n0_; have BK138 := n1_; have GW138 := n2_; have GE138 := n3_; clear n0_ n1_ n2_ n3_; clear hb hbox hg; obtain ⟨hcz_1, hcz_2, hcz_3, hcz_4, hcz_5, hcz_6, hcz_7, hfz_1, hfz_2, hfz_3, hfz_4, hfz_5, hfz_6, hfz_7⟩ := blk7 BK138.out) | ((with_reducible refine gate_callee (f := 61) rfl ?_); refine goesL_ (some 24) rfl rfl Try.func61 (by kernel_rfl) rfl #[.slice A1 l1.length c1, .int .i64 ji6, .int .i64 a0_4, .int .i64 a0_5] rfl (by (try simp only [List.map_toArray, List.map_cons, List.map_nil]); first | done | (simp only [hji6]; rfl) | rfl | (simp only [List.length_drop, List.length_take]; rfl)) ?_; (with_reducible refine (bracket_Tax.calls k _ _ l1 ji6 a0_4 a0_5 t139 t140 _ ?side1 ?side2 A7.out).mono ?_); (case side1 => exact q92); (case side2 => exact HC1.out); rintro e w_2 ⟨rfl, hb⟩; refine ⟨_, rfl, ?_⟩; have n0_ := Aside0.mk (blk_below BK138.out hb); have n1_ := Aside0.mk (below_step q146 hb); clear BK138; clear HB; have BK138 := n0_; have HB := n1_; clear n0_ n1_; (try clear hb); (try clear hb2); (try clear hk); (try clear hi))); go_ret2; exact ⟨by first | rfl | (simp [errW_none, errW_some] <;> rfl) | (simp only [← hji6, ← hji9]; first | rfl | (simp [errW_none, errW_some] <;> rfl)) | (simp [*, errW_none, errW_some] <;> rfl), q146⟩)
 ·
  rw [if_neg c8] at H
  have c8b0 : (t140 == 0) = false := beq_eq_false_iff_ne.mpr c8
  have c8b1 : (t140 != 0) = true := bne_iff_ne.mpr c8
  simp only [Option.some.injEq, Prod.mk.injEq] at H
  obtain ⟨rfl, rfl⟩ := H
  exact (by go_enter Try.func50, Try.ntmps50; go_wp2_with (first | ((with_reducible refine gate_dst (N := 5) rfl ?_); refine box_event ?hg (N := 5) ?hd (cs := #[.int .i64 a0_0, .slice A0_1 l0_1.length c0_1, .int .i64 a0_2, .int .i64 a0_3, .int .i64 a0_4, .int .i64 a0_5, .slice A0_6 l0_6.length c0_6]) (t := 33) ?hr ?_; (case hd => rfl); (case hg => rfl); (case hr => first | (go_simp; done) | (go_simp; rfl)); intro gb138 hg w_1 hbox hb; have n0_ := Aside0.mk (below_step q0 hb); have n1_ := Aside0.mk (hbox); have n2_ := Aside0.mk ((by rw [hg]; exact (below_size q0) : w.heap.size ≤ gb138)); have n3_ := Aside0.mk ((by rw [hg]; exact (below_size q0) : w.heap.size ≤ gb138)); clear HB; have HB := n0_; have BK138 := n1_; have GW138 := n2_; have GE138 := n3_; clear n0_ n1_ n2_ n3_; clear hb hbox hg; obtain ⟨hcz_1, hcz_2, hcz_3, hcz_4, hcz_5, hcz_6, hcz_7, hfz_1, hfz_2, hfz_3, hfz_4, hfz_5, hfz_6, hfz_7⟩ := blk7 BK138.out) | ((with_reducible refine gate_callee (f := 61) rfl ?_); refine goesL_ (some 24) rfl rfl Try.func61 (by kernel_rfl) rfl #[.slice A1 l1.length c1, .int .i64 ji6, .int .i64 a0_4, .int .i64 a0_5] rfl (by (try simp only [List.map_toArray, List.map_cons, List.map_nil]); first | done | (simp only [hji6]; rfl) | rfl | (simp only [List.length_drop, List.length_take]; rfl)) ?_; (with_reducible refine (bracket_Tax.calls k _ _ l1 ji6 a0_4 a0_5 t139 t140 _ ?side1 ?side2 A7.out).mono ?_); (case side1 => exact q92); (case side2 => exact HC1.out); rintro e w_2 ⟨rfl, hb⟩; refine ⟨_, rfl, ?_⟩; have n0_ := Aside0.mk (blk_below BK138.out hb); have n1_ := Aside0.mk (below_step q146 hb); clear BK138; clear HB; have BK138 := n0_; have HB := n1_; clear n0_ n1_; (try clear hb); (try clear hb2); (try clear hk); (try clear hi))); go_ret2; exact ⟨by first | rfl | (simp [errW_none, errW_some] <;> rfl) | (simp only [← hji6]; first | rfl | (simp [errW_none, errW_some] <;> rfl)) | (simp [*, errW_none, errW_some] <;> rfl), q146⟩)

end Go.Proofs.Ytbacfajhgmnjpaa.P
