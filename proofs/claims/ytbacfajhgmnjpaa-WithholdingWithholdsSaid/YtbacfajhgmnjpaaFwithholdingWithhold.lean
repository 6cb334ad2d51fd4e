/- Proved here: that the Go function withholding_Withhold computes the plain function of that name (the machine side of the laws, reworked from a print; no condition of its own). -/
import Derived.Test.YtbacfajhgmnjpaaProg
import Derived.Test.YtbacfajhgmnjpaaV1
import Derived.Test.YtbacfajhgmnjpaaV3
import Derived.Test.YtbacfajhgmnjpaaFPRE
import Derived.Test.YtbacfajhgmnjpaaFwh
import Derived.Test.YtbacfajhgmnjpaaFwithholdingValid
import Derived.Test.YtbacfajhgmnjpaaFwithholdingFormula
import Derived.Test.YtbacfajhgmnjpaaFwithholdingCumulative
import Derived.Test.YtbacfajhgmnjpaaFwithholdingLookup
namespace Go.Proofs.Ytbacfajhgmnjpaa.P
open Go.RowKit Go.Proofs.YtbacfajhgmnjpaaW.PrintWords Go.Proofs.YtbacfajhgmnjpaaW.PrintLast Go.Proofs.YtbacfajhgmnjpaaW.PrintMore
attribute [local go_sem] max2_int min2_int max_two min_two max_three min_three max_four min_four   -- for this text's walks alone
set_option linter.unusedVariables false
set_option linter.unusedSimpArgs false

mutual
def withholding_Withhold.j0 : Nat → Int → Int → Bool → Int → List (S58) → Int → Int → Int → Int → List (S80) → Int → Int → Int → List Int → List (S61) → Option (Int × Int)
 | 0, _, _, _, _, _, _, _, _, _, _, _, _, _, _, _ => none
 | k + 1, x1, x3, x28, x388000, x388001, x388002, x388003, x388004, x388005, x388006, x389000, x389001, x389002, x389003, x389004 => if x28 = true then (some (0, 3)) else ((withholding_amount.f x3).bind fun t391 => (if t391 = true then (if x389001 < 0 then (withholding_Withhold.j1 k x1 x3 true x388000 x388001 x388002 x388003 x388004 x388005 x388006 x389000 x389001 x389002 x389003 x389004) else (if x389001 > 999000000000 then (withholding_Withhold.j1 k x1 x3 true x388000 x388001 x388002 x388003 x388004 x388005 x388006 x389000 x389001 x389002 x389003 x389004) else (if x389002 < (-1000000000000) then (withholding_Withhold.j1 k x1 x3 true x388000 x388001 x388002 x388003 x388004 x388005 x388006 x389000 x389001 x389002 x389003 x389004) else (withholding_Withhold.j1 k x1 x3 (decide (x389002 > 1000000000000)) x388000 x388001 x388002 x388003 x388004 x388005 x388006 x389000 x389001 x389002 x389003 x389004)))) else (withholding_Withhold.j1 k x1 x3 true x388000 x388001 x388002 x388003 x388004 x388005 x388006 x389000 x389001 x389002 x389003 x389004)))
def withholding_Withhold.j1 : Nat → Int → Int → Bool → Int → List (S58) → Int → Int → Int → Int → List (S80) → Int → Int → Int → List Int → List (S61) → Option (Int × Int)
 | 0, _, _, _, _, _, _, _, _, _, _, _, _, _, _, _ => none
 | k + 1, x1, x3, x51, x388000, x388001, x388002, x388003, x388004, x388005, x388006, x389000, x389001, x389002, x389003, x389004 => if x51 = true then (some (0, 2)) else (if x388000 = 1 then ((withholding_Lookup.f k x388006 x3).bind fun bt392 => (some (bt392.1, bt392.2))) else (if x388000 = 2 then ((withholding_Formula.f k x388000 x388001 x388002 x388003 x388004 x388005 x388006 x3 x1).bind fun bt394 => (some (bt394.1, bt394.2))) else (if x388000 = 3 then ((withholding_Cumulative.f k x388000 x388001 x388002 x388003 x388004 x388005 x388006 x1 (wrap64 (x389000 + 1)) (wrap64 (x389001 + x3)) x389002).bind fun bt396 => (some (bt396.1, bt396.2))) else none)))
end
def withholding_Withhold.f (k : Nat) (a0_0 : Int) (l0_1 : List (S58)) (a0_2 : Int) (a0_3 : Int) (a0_4 : Int) (a0_5 : Int) (l0_6 : List (S80)) (a1 : Int) (a2_0 : Int) (a2_1 : Int) (a2_2 : Int) (l2_3 : List Int) (l2_4 : List (S61)) (a3 : Int) : Option (Int × Int) := (withholding_Valid.f k a0_0 l0_1 a0_2 a0_3 a0_4 a0_5 l0_6).bind fun t389 => (if t389 = true then ((withholding_count.f a1).bind fun t390 => (if t390 = true then (if a2_0 < 0 then (withholding_Withhold.j0 k a1 a3 true a0_0 l0_1 a0_2 a0_3 a0_4 a0_5 l0_6 a2_0 a2_1 a2_2 l2_3 l2_4) else (withholding_Withhold.j0 k a1 a3 (decide (a2_0 ≥ a1)) a0_0 l0_1 a0_2 a0_3 a0_4 a0_5 l0_6 a2_0 a2_1 a2_2 l2_3 l2_4)) else (withholding_Withhold.j0 k a1 a3 true a0_0 l0_1 a0_2 a0_3 a0_4 a0_5 l0_6 a2_0 a2_1 a2_2 l2_3 l2_4))) else (some (0, 1)))
section
variable {P : Program} {ops : Array Oper} {Q : Exit → Act → World → Prop}
/-- A call of a function value in a plain region. -/
theorem callL_ {rest : List Oper} {oi : Oper} {a : Act} {w : World} (N : Option Tmp) (hd : oi.dst = N) (hg : oi.guard = none) (f : FuncId) (args : Array Value) (hrun : (execOp a.eval oi).run P w = .ok (.enter f args) w)
    (h : Calls P f args w fun e w' => ∃ v, e = .returned v ∧ wpList P ops Q rest (a.put N v) w') : wpList P ops Q (oi :: rest) a w := by
  refine wpList_plain hg fun K hK => ?_
  unfold Oper.wp
  rw [hrun, Oper.upon_enter]
  refine h.mono fun e w'' hh => ?_
  obtain ⟨v, rfl, hk⟩ := hh
  subst hd
  exact hK _ _ hk
end
set_option maxHeartbeats 4000000 in
set_option maxRecDepth 100000 in
theorem withholding_period_table.calls (k : Nat) (a0_0 : Int) (A0_1 : Option Addr) (c0_1 : Nat) (l0_1 : List (S58)) (a0_2 : Int) (a0_3 : Int) (a0_4 : Int) (a0_5 : Int) (A0_6 : Option Addr) (c0_6 : Nat) (l0_6 : List (S80)) (a1 : Int) (a2_0 : Int) (a2_1 : Int) (a2_2 : Int) (A2_3 : Option Addr) (c2_3 : Nat) (l2_3 : List Int) (A2_4 : Option Addr) (c2_4 : Nat) (l2_4 : List (S61)) (a3 : Int) (r1 : Int) (r2 : Int) (w : World) (hr0_1 : Kd.C k58 w A0_1 l0_1.length l0_1) (hc0_1 : l0_1.length ≤ c0_1) (hr0_6 : Kd.C k80 w A0_6 l0_6.length l0_6) (hc0_6 : l0_6.length ≤ c0_6) (h : withholding_Lookup.f k l0_6 a3 = some (r1, r2)) :
  Calls Try.prog 43 #[.agg #[.int .i64 a0_0, .slice A0_1 l0_1.length c0_1, .int .i64 a0_2, .int .i64 a0_3, .int .i64 a0_4, .int .i64 a0_5, .slice A0_6 l0_6.length c0_6, .int .i64 a1, .int .i64 a2_0, .int .i64 a2_1, .int .i64 a2_2, .slice A2_3 l2_3.length c2_3, .slice A2_4 l2_4.length c2_4, .int .i64 a3]] w fun e w' => e = .returned (.tuple #[.int .i64 r1, .int .i64 r2]) ∧ Below w.heap.size w w' := by
 have hu33 := Try.underlying33
 have hu25 := Try.underlying25
 have hu70 := Try.underlying70
 go_enter Try.func43, Try.ntmps43
 go_wp2_with (first | ((with_reducible refine gate_dst (N := 1) rfl ?_); refine box_event ?hg (N := 1) ?hd (cs := #[.int .i64 a0_0, .slice A0_1 l0_1.length c0_1, .int .i64 a0_2, .int .i64 a0_3, .int .i64 a0_4, .int .i64 a0_5, .slice A0_6 l0_6.length c0_6, .int .i64 a1, .int .i64 a2_0, .int .i64 a2_1, .int .i64 a2_2, .slice A2_3 l2_3.length c2_3, .slice A2_4 l2_4.length c2_4, .int .i64 a3]) (t := 70) ?hr ?_; (case hd => rfl); (case hg => rfl); (case hr => first | (go_simp; done) | (go_simp; rfl)); intro gp hgp w1 hbox hb1; clear hgp; have hczp_0 : w1.cell? ⟨gp, 0, none⟩ = some (.int .i64 a0_0) := (blk_cell hbox 0).trans rfl; have hfzp_0 := blk_frozen hbox 0; have hczp_1 : w1.cell? ⟨gp, 1, none⟩ = some (.slice A0_1 l0_1.length c0_1) := (blk_cell hbox 1).trans rfl; have hfzp_1 := blk_frozen hbox 1; have hczp_2 : w1.cell? ⟨gp, 2, none⟩ = some (.int .i64 a0_2) := (blk_cell hbox 2).trans rfl; have hfzp_2 := blk_frozen hbox 2; have hczp_3 : w1.cell? ⟨gp, 3, none⟩ = some (.int .i64 a0_3) := (blk_cell hbox 3).trans rfl; have hfzp_3 := blk_frozen hbox 3; have hczp_4 : w1.cell? ⟨gp, 4, none⟩ = some (.int .i64 a0_4) := (blk_cell hbox 4).trans rfl; have hfzp_4 := blk_frozen hbox 4; have hczp_5 : w1.cell? ⟨gp, 5, none⟩ = some (.int .i64 a0_5) := (blk_cell hbox 5).trans rfl; have hfzp_5 := blk_frozen hbox 5; have hczp_6 : w1.cell? ⟨gp, 6, none⟩ = some (.slice A0_6 l0_6.length c0_6) := (blk_cell hbox 6).trans rfl; have hfzp_6 := blk_frozen hbox 6; have hczp_7 : w1.cell? ⟨gp, 7, none⟩ = some (.int .i64 a1) := (blk_cell hbox 7).trans rfl; have hfzp_7 := blk_frozen hbox 7; have hczp_8 : w1.cell? ⟨gp, 8, none⟩ = some (.int .i64 a2_0) := (blk_cell hbox 8).trans rfl; have hfzp_8 := blk_frozen hbox 8; have hczp_9 : w1.cell? ⟨gp, 9, none⟩ = some (.int .i64 a2_1) := (blk_cell hbox 9).trans rfl; have hfzp_9 := blk_frozen hbox 9; have hczp_10 : w1.cell? ⟨gp, 10, none⟩ = some (.int .i64 a2_2) := (blk_cell hbox 10).trans rfl; have hfzp_10 := blk_frozen hbox 10; have hczp_11 : w1.cell? ⟨gp, 11, none⟩ = some (.slice A2_3 l2_3.length c2_3) := (blk_cell hbox 11).trans rfl; have hfzp_11 := blk_frozen hbox 11; have hczp_12 : w1.cell? ⟨gp, 12, none⟩ = some (.slice A2_4 l2_4.length c2_4) := (blk_cell hbox 12).trans rfl; have hfzp_12 := blk_frozen hbox 12; have hczp_13 : w1.cell? ⟨gp, 13, none⟩ = some (.int .i64 a3) := (blk_cell hbox 13).trans rfl; have hfzp_13 := blk_frozen hbox 13) | ((with_reducible refine gate_callee (f := 57) rfl ?_); refine goesL_ (some 9) rfl rfl Try.func57 (by kernel_rfl) rfl #[.slice A0_6 l0_6.length c0_6, .int .i64 a3] rfl (by (try simp only [List.map_toArray, List.map_cons, List.map_nil]); first | done | rfl) ?_; (with_reducible refine (withholding_Lookup.calls k _ _ l0_6 a3 r1 r2 _ ?side3 ?side4 h).mono ?_); (case side3 => exact Kd.C_below hr0_6 hb1); (case side4 => exact hc0_6); rintro e w2 ⟨rfl, hb2⟩; refine ⟨_, rfl, ?_⟩))
 go_ret2
 exact ⟨rfl, below_step hb1 hb2⟩
set_option maxHeartbeats 4000000 in
set_option maxRecDepth 100000 in
theorem withholding_period_formula.calls (k : Nat) (a0_0 : Int) (A0_1 : Option Addr) (c0_1 : Nat) (l0_1 : List (S58)) (a0_2 : Int) (a0_3 : Int) (a0_4 : Int) (a0_5 : Int) (A0_6 : Option Addr) (c0_6 : Nat) (l0_6 : List (S80)) (a1 : Int) (a2_0 : Int) (a2_1 : Int) (a2_2 : Int) (A2_3 : Option Addr) (c2_3 : Nat) (l2_3 : List Int) (A2_4 : Option Addr) (c2_4 : Nat) (l2_4 : List (S61)) (a3 : Int) (r1 : Int) (r2 : Int) (w : World) (hr0_1 : Kd.C k58 w A0_1 l0_1.length l0_1) (hc0_1 : l0_1.length ≤ c0_1) (hr0_6 : Kd.C k80 w A0_6 l0_6.length l0_6) (hc0_6 : l0_6.length ≤ c0_6) (h : withholding_Formula.f k a0_0 l0_1 a0_2 a0_3 a0_4 a0_5 l0_6 a3 a1 = some (r1, r2)) :
  Calls Try.prog 44 #[.agg #[.int .i64 a0_0, .slice A0_1 l0_1.length c0_1, .int .i64 a0_2, .int .i64 a0_3, .int .i64 a0_4, .int .i64 a0_5, .slice A0_6 l0_6.length c0_6, .int .i64 a1, .int .i64 a2_0, .int .i64 a2_1, .int .i64 a2_2, .slice A2_3 l2_3.length c2_3, .slice A2_4 l2_4.length c2_4, .int .i64 a3]] w fun e w' => e = .returned (.tuple #[.int .i64 r1, .int .i64 r2]) ∧ Below w.heap.size w w' := by
 have hu33 := Try.underlying33
 have hu25 := Try.underlying25
 have hu70 := Try.underlying70
 go_enter Try.func44, Try.ntmps44
 go_wp2_with (first | ((with_reducible refine gate_dst (N := 1) rfl ?_); refine box_event ?hg (N := 1) ?hd (cs := #[.int .i64 a0_0, .slice A0_1 l0_1.length c0_1, .int .i64 a0_2, .int .i64 a0_3, .int .i64 a0_4, .int .i64 a0_5, .slice A0_6 l0_6.length c0_6, .int .i64 a1, .int .i64 a2_0, .int .i64 a2_1, .int .i64 a2_2, .slice A2_3 l2_3.length c2_3, .slice A2_4 l2_4.length c2_4, .int .i64 a3]) (t := 70) ?hr ?_; (case hd => rfl); (case hg => rfl); (case hr => first | (go_simp; done) | (go_simp; rfl)); intro gp hgp w1 hbox hb1; clear hgp; have hczp_0 : w1.cell? ⟨gp, 0, none⟩ = some (.int .i64 a0_0) := (blk_cell hbox 0).trans rfl; have hfzp_0 := blk_frozen hbox 0; have hczp_1 : w1.cell? ⟨gp, 1, none⟩ = some (.slice A0_1 l0_1.length c0_1) := (blk_cell hbox 1).trans rfl; have hfzp_1 := blk_frozen hbox 1; have hczp_2 : w1.cell? ⟨gp, 2, none⟩ = some (.int .i64 a0_2) := (blk_cell hbox 2).trans rfl; have hfzp_2 := blk_frozen hbox 2; have hczp_3 : w1.cell? ⟨gp, 3, none⟩ = some (.int .i64 a0_3) := (blk_cell hbox 3).trans rfl; have hfzp_3 := blk_frozen hbox 3; have hczp_4 : w1.cell? ⟨gp, 4, none⟩ = some (.int .i64 a0_4) := (blk_cell hbox 4).trans rfl; have hfzp_4 := blk_frozen hbox 4; have hczp_5 : w1.cell? ⟨gp, 5, none⟩ = some (.int .i64 a0_5) := (blk_cell hbox 5).trans rfl; have hfzp_5 := blk_frozen hbox 5; have hczp_6 : w1.cell? ⟨gp, 6, none⟩ = some (.slice A0_6 l0_6.length c0_6) := (blk_cell hbox 6).trans rfl; have hfzp_6 := blk_frozen hbox 6; have hczp_7 : w1.cell? ⟨gp, 7, none⟩ = some (.int .i64 a1) := (blk_cell hbox 7).trans rfl; have hfzp_7 := blk_frozen hbox 7; have hczp_8 : w1.cell? ⟨gp, 8, none⟩ = some (.int .i64 a2_0) := (blk_cell hbox 8).trans rfl; have hfzp_8 := blk_frozen hbox 8; have hczp_9 : w1.cell? ⟨gp, 9, none⟩ = some (.int .i64 a2_1) := (blk_cell hbox 9).trans rfl; have hfzp_9 := blk_frozen hbox 9; have hczp_10 : w1.cell? ⟨gp, 10, none⟩ = some (.int .i64 a2_2) := (blk_cell hbox 10).trans rfl; have hfzp_10 := blk_frozen hbox 10; have hczp_11 : w1.cell? ⟨gp, 11, none⟩ = some (.slice A2_3 l2_3.length c2_3) := (blk_cell hbox 11).trans rfl; have hfzp_11 := blk_frozen hbox 11; have hczp_12 : w1.cell? ⟨gp, 12, none⟩ = some (.slice A2_4 l2_4.length c2_4) := (blk_cell hbox 12).trans rfl; have hfzp_12 := blk_frozen hbox 12; have hczp_13 : w1.cell? ⟨gp, 13, none⟩ = some (.int .i64 a3) := (blk_cell hbox 13).trans rfl; have hfzp_13 := blk_frozen hbox 13) | ((with_reducible refine gate_callee (f := 24) rfl ?_); refine goesL_ (some 10) rfl rfl Try.func24 (by kernel_rfl) rfl #[.agg #[.int .i64 a0_0, .slice A0_1 l0_1.length c0_1, .int .i64 a0_2, .int .i64 a0_3, .int .i64 a0_4, .int .i64 a0_5, .slice A0_6 l0_6.length c0_6], .int .i64 a3, .int .i64 a1] rfl (by (try simp only [List.map_toArray, List.map_cons, List.map_nil]); first | done | rfl) ?_; (with_reducible refine (withholding_Formula.calls k a0_0 _ _ l0_1 a0_2 a0_3 a0_4 a0_5 _ _ l0_6 a3 a1 r1 r2 _ ?side1 ?side2 ?side3 ?side4 h).mono ?_); (case side1 => exact Kd.C_below hr0_1 hb1); (case side2 => exact hc0_1); (case side3 => exact Kd.C_below hr0_6 hb1); (case side4 => exact hc0_6); rintro e w2 ⟨rfl, hb2⟩; refine ⟨_, rfl, ?_⟩))
 go_ret2
 exact ⟨rfl, below_step hb1 hb2⟩
set_option maxHeartbeats 4000000 in
set_option maxRecDepth 100000 in
theorem withholding_period_cumulative.calls (k : Nat) (a0_0 : Int) (A0_1 : Option Addr) (c0_1 : Nat) (l0_1 : List (S58)) (a0_2 : Int) (a0_3 : Int) (a0_4 : Int) (a0_5 : Int) (A0_6 : Option Addr) (c0_6 : Nat) (l0_6 : List (S80)) (a1 : Int) (a2_0 : Int) (a2_1 : Int) (a2_2 : Int) (A2_3 : Option Addr) (c2_3 : Nat) (l2_3 : List Int) (A2_4 : Option Addr) (c2_4 : Nat) (l2_4 : List (S61)) (a3 : Int) (r1 : Int) (r2 : Int) (w : World) (hr0_1 : Kd.C k58 w A0_1 l0_1.length l0_1) (hc0_1 : l0_1.length ≤ c0_1) (hr0_6 : Kd.C k80 w A0_6 l0_6.length l0_6) (hc0_6 : l0_6.length ≤ c0_6) (h : withholding_Cumulative.f k a0_0 l0_1 a0_2 a0_3 a0_4 a0_5 l0_6 a1 (wrap64 (a2_0 + 1)) (wrap64 (a2_1 + a3)) a2_2 = some (r1, r2)) :
  Calls Try.prog 45 #[.agg #[.int .i64 a0_0, .slice A0_1 l0_1.length c0_1, .int .i64 a0_2, .int .i64 a0_3, .int .i64 a0_4, .int .i64 a0_5, .slice A0_6 l0_6.length c0_6, .int .i64 a1, .int .i64 a2_0, .int .i64 a2_1, .int .i64 a2_2, .slice A2_3 l2_3.length c2_3, .slice A2_4 l2_4.length c2_4, .int .i64 a3]] w fun e w' => e = .returned (.tuple #[.int .i64 r1, .int .i64 r2]) ∧ Below w.heap.size w w' := by
 have hu33 := Try.underlying33
 have hu25 := Try.underlying25
 have hu70 := Try.underlying70
 go_enter Try.func45, Try.ntmps45
 go_wp2_with (first | ((with_reducible refine gate_dst (N := 1) rfl ?_); refine box_event ?hg (N := 1) ?hd (cs := #[.int .i64 a0_0, .slice A0_1 l0_1.length c0_1, .int .i64 a0_2, .int .i64 a0_3, .int .i64 a0_4, .int .i64 a0_5, .slice A0_6 l0_6.length c0_6, .int .i64 a1, .int .i64 a2_0, .int .i64 a2_1, .int .i64 a2_2, .slice A2_3 l2_3.length c2_3, .slice A2_4 l2_4.length c2_4, .int .i64 a3]) (t := 70) ?hr ?_; (case hd => rfl); (case hg => rfl); (case hr => first | (go_simp; done) | (go_simp; rfl)); intro gp hgp w1 hbox hb1; clear hgp; have hczp_0 : w1.cell? ⟨gp, 0, none⟩ = some (.int .i64 a0_0) := (blk_cell hbox 0).trans rfl; have hfzp_0 := blk_frozen hbox 0; have hczp_1 : w1.cell? ⟨gp, 1, none⟩ = some (.slice A0_1 l0_1.length c0_1) := (blk_cell hbox 1).trans rfl; have hfzp_1 := blk_frozen hbox 1; have hczp_2 : w1.cell? ⟨gp, 2, none⟩ = some (.int .i64 a0_2) := (blk_cell hbox 2).trans rfl; have hfzp_2 := blk_frozen hbox 2; have hczp_3 : w1.cell? ⟨gp, 3, none⟩ = some (.int .i64 a0_3) := (blk_cell hbox 3).trans rfl; have hfzp_3 := blk_frozen hbox 3; have hczp_4 : w1.cell? ⟨gp, 4, none⟩ = some (.int .i64 a0_4) := (blk_cell hbox 4).trans rfl; have hfzp_4 := blk_frozen hbox 4; have hczp_5 : w1.cell? ⟨gp, 5, none⟩ = some (.int .i64 a0_5) := (blk_cell hbox 5).trans rfl; have hfzp_5 := blk_frozen hbox 5; have hczp_6 : w1.cell? ⟨gp, 6, none⟩ = some (.slice A0_6 l0_6.length c0_6) := (blk_cell hbox 6).trans rfl; have hfzp_6 := blk_frozen hbox 6; have hczp_7 : w1.cell? ⟨gp, 7, none⟩ = some (.int .i64 a1) := (blk_cell hbox 7).trans rfl; have hfzp_7 := blk_frozen hbox 7; have hczp_8 : w1.cell? ⟨gp, 8, none⟩ = some (.int .i64 a2_0) := (blk_cell hbox 8).trans rfl; have hfzp_8 := blk_frozen hbox 8; have hczp_9 : w1.cell? ⟨gp, 9, none⟩ = some (.int .i64 a2_1) := (blk_cell hbox 9).trans rfl; have hfzp_9 := blk_frozen hbox 9; have hczp_10 : w1.cell? ⟨gp, 10, none⟩ = some (.int .i64 a2_2) := (blk_cell hbox 10).trans rfl; have hfzp_10 := blk_frozen hbox 10; have hczp_11 : w1.cell? ⟨gp, 11, none⟩ = some (.slice A2_3 l2_3.length c2_3) := (blk_cell hbox 11).trans rfl; have hfzp_11 := blk_frozen hbox 11; have hczp_12 : w1.cell? ⟨gp, 12, none⟩ = some (.slice A2_4 l2_4.length c2_4) := (blk_cell hbox 12).trans rfl; have hfzp_12 := blk_frozen hbox 12; have hczp_13 : w1.cell? ⟨gp, 13, none⟩ = some (.int .i64 a3) := (blk_cell hbox 13).trans rfl; have hfzp_13 := blk_frozen hbox 13) | ((with_reducible refine gate_callee (f := 28) rfl ?_); refine goesL_ (some 21) rfl rfl Try.func28 (by kernel_rfl) rfl #[.agg #[.int .i64 a0_0, .slice A0_1 l0_1.length c0_1, .int .i64 a0_2, .int .i64 a0_3, .int .i64 a0_4, .int .i64 a0_5, .slice A0_6 l0_6.length c0_6], .int .i64 a1, .int .i64 (wrap64 (a2_0 + 1)), .int .i64 (wrap64 (a2_1 + a3)), .int .i64 a2_2] rfl (by (try simp only [List.map_toArray, List.map_cons, List.map_nil]); first | done | rfl) ?_; (with_reducible refine (withholding_Cumulative.calls k a0_0 _ _ l0_1 a0_2 a0_3 a0_4 a0_5 _ _ l0_6 a1 (wrap64 (a2_0 + 1)) (wrap64 (a2_1 + a3)) a2_2 r1 r2 _ ?side1 ?side2 ?side3 ?side4 h).mono ?_); (case side1 => exact Kd.C_below hr0_1 hb1); (case side2 => exact hc0_1); (case side3 => exact Kd.C_below hr0_6 hb1); (case side4 => exact hc0_6); rintro e w2 ⟨rfl, hb2⟩; refine ⟨_, rfl, ?_⟩))
 go_ret2
 exact ⟨rfl, below_step hb1 hb2⟩
set_option maxHeartbeats 8000000 in
set_option maxRecDepth 100000 in
theorem withholding_Withhold.calls (k : Nat) (a0_0 : Int) (A0_1 : Option Addr) (c0_1 : Nat) (l0_1 : List (S58)) (a0_2 : Int) (a0_3 : Int) (a0_4 : Int) (a0_5 : Int) (A0_6 : Option Addr) (c0_6 : Nat) (l0_6 : List (S80)) (a1 : Int) (a2_0 : Int) (a2_1 : Int) (a2_2 : Int) (A2_3 : Option Addr) (c2_3 : Nat) (l2_3 : List Int) (A2_4 : Option Addr) (c2_4 : Nat) (l2_4 : List (S61)) (a3 : Int) (r1 : Int) (r2 : Int) (w : World) (hr0_1 : Kd.C k58 w A0_1 l0_1.length l0_1) (hc0_1 : l0_1.length ≤ c0_1) (hr0_6 : Kd.C k80 w A0_6 l0_6.length l0_6) (hc0_6 : l0_6.length ≤ c0_6) (hr2_3 : Kd.C (Kd.int .i64) w A2_3 l2_3.length l2_3) (hc2_3 : l2_3.length ≤ c2_3) (hr2_4 : Kd.C k61 w A2_4 l2_4.length l2_4) (hc2_4 : l2_4.length ≤ c2_4) (h : withholding_Withhold.f k a0_0 l0_1 a0_2 a0_3 a0_4 a0_5 l0_6 a1 a2_0 a2_1 a2_2 l2_3 l2_4 a3 = some (r1, r2)) :
  Calls Try.prog 19 #[.agg #[.int .i64 a0_0, .slice A0_1 l0_1.length c0_1, .int .i64 a0_2, .int .i64 a0_3, .int .i64 a0_4, .int .i64 a0_5, .slice A0_6 l0_6.length c0_6], .int .i64 a1, .agg #[.int .i64 a2_0, .int .i64 a2_1, .int .i64 a2_2, .slice A2_3 l2_3.length c2_3, .slice A2_4 l2_4.length c2_4], .int .i64 a3] w fun e w' => e = .returned (.tuple #[.int .i64 r1, .int .i64 r2]) ∧ Below w.heap.size w w' := by
 have hu33 := Try.underlying33
 have hu25 := Try.underlying25
 have HR0_1 := Aside0.mk hr0_1
 have HC0_1 := Aside0.mk hc0_1
 clear hr0_1 hc0_1
 have HR0_6 := Aside0.mk hr0_6
 have HC0_6 := Aside0.mk hc0_6
 clear hr0_6 hc0_6
 have HR2_3 := Aside0.mk hr2_3
 have HC2_3 := Aside0.mk hc2_3
 clear hr2_3 hc2_3
 have HR2_4 := Aside0.mk hr2_4
 have HC2_4 := Aside0.mk hc2_4
 clear hr2_4 hc2_4
 have HB := Aside0.mk (Below.refl w.heap.size w)
 have H : ((withholding_Valid.f k a0_0 l0_1 a0_2 a0_3 a0_4 a0_5 l0_6).bind fun t389 => (if t389 = true then ((withholding_count.f a1).bind fun t390 => (if t390 = true then (if a2_0 < 0 then (withholding_Withhold.j0 k a1 a3 true a0_0 l0_1 a0_2 a0_3 a0_4 a0_5 l0_6 a2_0 a2_1 a2_2 l2_3 l2_4) else (withholding_Withhold.j0 k a1 a3 (decide (a2_0 ≥ a1)) a0_0 l0_1 a0_2 a0_3 a0_4 a0_5 l0_6 a2_0 a2_1 a2_2 l2_3 l2_4)) else (withholding_Withhold.j0 k a1 a3 true a0_0 l0_1 a0_2 a0_3 a0_4 a0_5 l0_6 a2_0 a2_1 a2_2 l2_3 l2_4))) else (some (0, 1)))) = some (r1, r2) := h
 clear h
 replace H := Option.bind_eq_some_iff.mp H
 obtain ⟨t389, A50, H⟩ := H
 have A5 := Aside0.mk A50
 clear A50
 by_cases c6 : t389 = true
 ·
  subst c6
  rw [if_pos rfl] at H
  have HC7 := Aside0.mk H
  clear H
  go_enter Try.func19, Try.ntmps19
  go_upto_region 3 with (first | ((with_reducible refine gate_dst (N := 4) rfl ?_); refine box_event ?hg (N := 4) ?hd (cs := #[.int .i64 a0_0, .slice A0_1 l0_1.length c0_1, .int .i64 a0_2, .int .i64 a0_3, .int .i64 a0_4, .int .i64 a0_5, .slice A0_6 l0_6.length c0_6]) (t := 33) ?hr ?_; (case hd => rfl); (case hg => rfl); (case hr => first | (go_simp; done) | (go_simp; rfl)); intro gb387 hg w8 hbox hb; have n0_ := Aside0.mk (below_step (by repeat (first | (with_reducible first | exact HB.out | apply below_alloc | apply pw_below_drewN | apply below_drew1) | exact HB.out)) hb); have n1_ := Aside0.mk (hbox); have n2_ := Aside0.mk ((by rw [hg]; exact (below_size (by repeat (first | (with_reducible first | exact HB.out | apply below_alloc | apply pw_below_drewN | apply below_drew1) | exact HB.out))) : w.heap.size ≤ gb387)); have n3_ := Aside0.mk ((by rw [hg]; exact (below_size (by repeat (first | (with_reducible first | exact HB.out | apply below_alloc | apply pw_below_drewN | apply below_drew1) | exact HB.out))) : w.heap.size ≤ gb387)); clear HB; have HB := n0_; have BK387 := n1_; have GW387 := n2_; have GE387 := n3_; clear n0_ n1_ n2_ n3_; clear hb hbox hg) | ((with_reducible refine gate_dst (N := 6) rfl ?_); refine box_event ?hg (N := 6) ?hd (cs := #[.int .i64 a2_0, .int .i64 a2_1, .int .i64 a2_2, .slice A2_3 l2_3.length c2_3, .slice A2_4 l2_4.length c2_4]) (t := 25) ?hr ?_; (case hd => rfl); (case hg => rfl); (case hr => first | (go_simp; done) | (go_simp; rfl)); intro gb388 hg w9 hbox hb; have n0_ := Aside0.mk (blk_below BK387.out hb); have n1_ := Aside0.mk (below_step (by repeat (first | (with_reducible first | exact HB.out | apply below_alloc | apply pw_below_drewN | apply below_drew1 | refine below_set ?_ GE387.out) | exact HB.out)) hb); have n2_ := Aside0.mk (hbox); have n3_ := Aside0.mk ((by rw [hg]; exact (below_size (by repeat (first | (with_reducible first | exact HB.out | apply below_alloc | apply pw_below_drewN | apply below_drew1 | refine below_set ?_ GE387.out) | exact HB.out))) : w.heap.size ≤ gb388)); have n4_ := Aside0.mk ((by rw [hg]; exact (below_size (by repeat (first | (with_reducible first | exact HB.out | apply below_alloc | apply pw_below_drewN | apply below_drew1 | refine below_set ?_ GE387.out) | exact HB.out))) : w.heap.size ≤ gb388)); have n5_ := Aside0.mk ((by rw [hg]; exact Nat.ne_of_lt (blk_lt BK387.out) : gb387 ≠ gb388)); have n6_ := Aside0.mk ((by rw [hg]; exact Nat.ne_of_gt (blk_lt BK387.out) : gb388 ≠ gb387)); clear BK387; clear HB; have BK387 := n0_; have HB := n1_; have BK388 := n2_; have GW388 := n3_; have GE388 := n4_; have NB387_388 := n5_; have NB388_387 := n6_; clear n0_ n1_ n2_ n3_ n4_ n5_ n6_; clear hb hbox hg; have hnb10 := NB387_388.out; have hnc10 := NB388_387.out; obtain ⟨hcz11_0, hcz11_1, hcz11_2, hcz11_3, hcz11_4, hcz11_5, hcz11_6, hfz11_0, hfz11_1, hfz11_2, hfz11_3, hfz11_4, hfz11_5, hfz11_6⟩ := blk7 BK387.out) | ((with_reducible refine gate_callee (f := 40) rfl ?_); refine goesL_ (some 13) rfl rfl Try.func40 (by kernel_rfl) rfl #[.agg #[.int .i64 a0_0, .slice A0_1 l0_1.length c0_1, .int .i64 a0_2, .int .i64 a0_3, .int .i64 a0_4, .int .i64 a0_5, .slice A0_6 l0_6.length c0_6]] rfl (by (try simp only [List.map_toArray, List.map_cons, List.map_nil]); first | done | rfl | (simp only [List.length_drop, List.length_take]; rfl)) ?_; (with_reducible refine (withholding_Valid.calls k a0_0 _ _ l0_1 a0_2 a0_3 a0_4 a0_5 _ _ l0_6 true _ ?side1 ?side2 ?side3 ?side4 A5.out).mono ?_); (case side1 => repeat (first | exact (Kd.C_below HR0_1.out HB.out) | (with_reducible refine Kd.C_alloc ?_ _) | (with_reducible refine Kd.C_drewN ?_ _) | (with_reducible refine Kd.C_drew ?_))); (case side2 => exact HC0_1.out); (case side3 => repeat (first | exact (Kd.C_below HR0_6.out HB.out) | (with_reducible refine Kd.C_alloc ?_ _) | (with_reducible refine Kd.C_drewN ?_ _) | (with_reducible refine Kd.C_drew ?_))); (case side4 => exact HC0_6.out); rintro e w12 ⟨rfl, hb⟩; refine ⟨_, rfl, ?_⟩; have n0_ := Aside0.mk (blk_below BK387.out hb); have n1_ := Aside0.mk (blk_below BK388.out hb); have n2_ := Aside0.mk (below_step (by repeat (first | (with_reducible first | exact HB.out | apply below_alloc | apply pw_below_drewN | apply below_drew1 | refine below_set ?_ GE387.out | refine below_set ?_ GE388.out) | exact HB.out)) hb); clear BK387; clear BK388; clear HB; have BK387 := n0_; have BK388 := n1_; have HB := n2_; clear n0_ n1_ n2_; (try clear hb); (try clear hb2); (try clear hk); (try clear hi)))
  (try simp only [Act.put, List.setIfInBounds_toArray, List.set_cons_zero, List.set_cons_succ])
  go_cut [28] (fun v28 wc => ∃ (kq : Nat) (x28_6 : Bool), v28 = .bool x28_6 ∧ Aside0 (withholding_Withhold.j0 kq a1 a3 x28_6 a0_0 l0_1 a0_2 a0_3 a0_4 a0_5 l0_6 a2_0 a2_1 a2_2 l2_3 l2_4 = some (r1, r2)) ∧ Aside0 (kq ≤ k) ∧ Aside0 (wc.heap[gb387]? = some (.cells #[.int .i64 a0_0, (.slice A0_1 l0_1.length c0_1), .int .i64 a0_2, .int .i64 a0_3, .int .i64 a0_4, .int .i64 a0_5, (.slice A0_6 l0_6.length c0_6)] 33 (0, 0))) ∧ Aside0 (wc.heap[gb388]? = some (.cells #[.int .i64 a2_0, .int .i64 a2_1, .int .i64 a2_2, (.slice A2_3 l2_3.length c2_3), (.slice A2_4 l2_4.length c2_4)] 25 (0, 0))) ∧ Aside0 (Below w.heap.size w wc))
  case first =>
   have H := HC7.out
   clear HC7
   replace H := Option.bind_eq_some_iff.mp H
   obtain ⟨t390, A130, H⟩ := H
   have A13 := Aside0.mk A130
   clear A130
   by_cases c14 : t390 = true
   ·
    subst c14
    rw [if_pos rfl] at H
    by_cases c15 : a2_0 < 0
    ·
     rw [if_pos c15] at H
     have c15b0 : decide (a2_0 < 0) = true := decide_eq_true c15
     clear c15
     (first | rw [c15b0] | (simp only [i64_w, i32_w]; rw [c15b0]) | skip)
     have H' := Aside0.mk H
     clear H
     go_wp2_with (first | ((with_reducible refine gate_callee (f := 41) rfl ?_); refine goesL_ (some 16) rfl rfl Try.func41 (by kernel_rfl) rfl #[.int .i64 a1] rfl (by (try simp only [List.map_toArray, List.map_cons, List.map_nil]); first | done | rfl | (simp only [List.length_drop, List.length_take]; rfl)) ?_; (with_reducible refine (withholding_count.calls a1 true _ A13.out).mono ?_); rintro e w' ⟨rfl, ⟨nd, rfl⟩⟩; refine ⟨_, rfl, ?_⟩; have hnb16 := NB388_387.out; have hnc16 := NB387_388.out; obtain ⟨hcz17_0, hcz17_1, hcz17_2, hcz17_3, hcz17_4, hfz17_0, hfz17_1, hfz17_2, hfz17_3, hfz17_4⟩ := blk5 BK388.out))
     go_meet
     case rel => exact ⟨_, (true), (by first | rfl | (simp; done) | (simp [*]; done)), H', ⟨by first | omega | exact Nat.le_refl _⟩, ⟨by (with_reducible repeat (first | refine blk_drewN ?_ _ | refine blk_drew ?_ | refine blk_alloc ?_ _)); exact BK387.out⟩, ⟨by (with_reducible repeat (first | refine blk_drewN ?_ _ | refine blk_drew ?_ | refine blk_alloc ?_ _)); exact BK388.out⟩, ⟨by repeat (first | (with_reducible first | exact HB.out | apply below_alloc | apply pw_below_drewN | apply below_drew1 | refine below_set ?_ GE387.out | refine below_set ?_ GE388.out) | exact HB.out)⟩⟩
    ·
     rw [if_neg c15] at H
     have c15b0 : decide (a2_0 < 0) = false := decide_eq_false c15
     clear c15
     (first | rw [c15b0] | (simp only [i64_w, i32_w]; rw [c15b0]) | skip)
     have H' := Aside0.mk H
     clear H
     go_wp2_with (first | ((with_reducible refine gate_callee (f := 41) rfl ?_); refine goesL_ (some 16) rfl rfl Try.func41 (by kernel_rfl) rfl #[.int .i64 a1] rfl (by (try simp only [List.map_toArray, List.map_cons, List.map_nil]); first | done | rfl | (simp only [List.length_drop, List.length_take]; rfl)) ?_; (with_reducible refine (withholding_count.calls a1 true _ A13.out).mono ?_); rintro e w' ⟨rfl, ⟨nd, rfl⟩⟩; refine ⟨_, rfl, ?_⟩; have hnb18 := NB388_387.out; have hnc18 := NB387_388.out; obtain ⟨hcz19_0, hcz19_1, hcz19_2, hcz19_3, hcz19_4, hfz19_0, hfz19_1, hfz19_2, hfz19_3, hfz19_4⟩ := blk5 BK388.out))
     go_meet
     case rel => exact ⟨_, (decide (a2_0 ≥ a1)), (by first | rfl | (simp; done) | (simp [*]; done)), H', ⟨by first | omega | exact Nat.le_refl _⟩, ⟨by (with_reducible repeat (first | refine blk_drewN ?_ _ | refine blk_drew ?_ | refine blk_alloc ?_ _)); exact BK387.out⟩, ⟨by (with_reducible repeat (first | refine blk_drewN ?_ _ | refine blk_drew ?_ | refine blk_alloc ?_ _)); exact BK388.out⟩, ⟨by repeat (first | (with_reducible first | exact HB.out | apply below_alloc | apply pw_below_drewN | apply below_drew1 | refine below_set ?_ GE387.out | refine below_set ?_ GE388.out) | exact HB.out)⟩⟩
   ·
    replace c14 := Bool.eq_false_iff.mpr c14
    subst c14
    rw [if_neg (show ¬ (false = true) by decide)] at H
    have H' := Aside0.mk H
    clear H
    go_wp2_with (first | ((with_reducible refine gate_callee (f := 41) rfl ?_); refine goesL_ (some 16) rfl rfl Try.func41 (by kernel_rfl) rfl #[.int .i64 a1] rfl (by (try simp only [List.map_toArray, List.map_cons, List.map_nil]); first | done | rfl | (simp only [List.length_drop, List.length_take]; rfl)) ?_; (with_reducible refine (withholding_count.calls a1 false _ A13.out).mono ?_); rintro e w' ⟨rfl, ⟨nd, rfl⟩⟩; refine ⟨_, rfl, ?_⟩))
    go_meet
    case rel => exact ⟨_, (true), (by first | rfl | (simp; done) | (simp [*]; done)), H', ⟨by first | omega | exact Nat.le_refl _⟩, ⟨by (with_reducible repeat (first | refine blk_drewN ?_ _ | refine blk_drew ?_ | refine blk_alloc ?_ _)); exact BK387.out⟩, ⟨by (with_reducible repeat (first | refine blk_drewN ?_ _ | refine blk_drew ?_ | refine blk_alloc ?_ _)); exact BK388.out⟩, ⟨by repeat (first | (with_reducible first | exact HB.out | apply below_alloc | apply pw_below_drewN | apply below_drew1 | refine below_set ?_ GE387.out | refine below_set ?_ GE388.out) | exact HB.out)⟩⟩
  case rest =>
   clear HC7
   try clear c1
   try clear c2
   try clear p2
   try clear c4
   try clear c6
   try clear c10
   try clear c14
   try clear c15
   try clear c15b0
   try clear c16
   try clear c18
   try clear c19
   try clear hcz11_0
   try clear hcz11_1
   try clear hcz11_2
   try clear hcz11_3
   try clear hcz11_4
   try clear hcz11_5
   try clear hcz11_6
   try clear hcz17_0
   try clear hcz17_1
   try clear hcz17_2
   try clear hcz17_3
   try clear hcz17_4
   try clear hcz19_0
   try clear hcz19_1
   try clear hcz19_2
   try clear hcz19_3
   try clear hcz19_4
   try clear hfz11_0
   try clear hfz11_1
   try clear hfz11_2
   try clear hfz11_3
   try clear hfz11_4
   try clear hfz11_5
   try clear hfz11_6
   try clear hfz17_0
   try clear hfz17_1
   try clear hfz17_2
   try clear hfz17_3
   try clear hfz17_4
   try clear hfz19_0
   try clear hfz19_1
   try clear hfz19_2
   try clear hfz19_3
   try clear hfz19_4
   obtain ⟨kq, x28_6, rfl, HA, HJ6, BK387, BK388, HB⟩ := hcut
   cases kq with
   | zero => exact absurd HA.out (by simp [withholding_Withhold.j0])
   | succ kj6 =>
    have H := HA.out
    clear HA
    simp only [withholding_Withhold.j0] at H
    by_cases c20 : x28_6 = true
    ·
     subst c20
     rw [if_pos rfl] at H
     simp only [Option.some.injEq, Prod.mk.injEq] at H
     obtain ⟨rfl, rfl⟩ := H
     go_wp2
     go_ret2
     exact ⟨by first | rfl | (simp [errW_none, errW_some] <;> rfl) | (simp [*, errW_none, errW_some] <;> rfl), by repeat (first | (with_reducible first | exact HB.out | apply below_alloc | apply pw_below_drewN | apply below_drew1 | refine below_set ?_ GE387.out | refine below_set ?_ GE388.out) | exact HB.out)⟩
    ·
     replace c20 := Bool.eq_false_iff.mpr c20
     subst c20
     rw [if_neg (show ¬ (false = true) by decide)] at H
     have HC21 := Aside0.mk H
     clear H
     go_upto_region 5 with (fail)
     go_cut [51] (fun v51 wc => ∃ (kq : Nat) (x51_20 : Bool), v51 = .bool x51_20 ∧ Aside0 (withholding_Withhold.j1 kq a1 a3 x51_20 a0_0 l0_1 a0_2 a0_3 a0_4 a0_5 l0_6 a2_0 a2_1 a2_2 l2_3 l2_4 = some (r1, r2)) ∧ Aside0 (kq ≤ kj6) ∧ Aside0 (wc.heap[gb387]? = some (.cells #[.int .i64 a0_0, (.slice A0_1 l0_1.length c0_1), .int .i64 a0_2, .int .i64 a0_3, .int .i64 a0_4, .int .i64 a0_5, (.slice A0_6 l0_6.length c0_6)] 33 (0, 0))) ∧ Aside0 (wc.heap[gb388]? = some (.cells #[.int .i64 a2_0, .int .i64 a2_1, .int .i64 a2_2, (.slice A2_3 l2_3.length c2_3), (.slice A2_4 l2_4.length c2_4)] 25 (0, 0))) ∧ Aside0 (Below w.heap.size w wc))
     case first =>
      have H := HC21.out
      clear HC21
      replace H := Option.bind_eq_some_iff.mp H
      obtain ⟨t391, A220, H⟩ := H
      have A22 := Aside0.mk A220
      clear A220
      by_cases c23 : t391 = true
      ·
       subst c23
       rw [if_pos rfl] at H
       by_cases c24 : a2_1 < 0
       ·
        rw [if_pos c24] at H
        have c24b0 : decide (a2_1 < 0) = true := decide_eq_true c24
        clear c24
        (first | rw [c24b0] | (simp only [i64_w, i32_w]; rw [c24b0]) | skip)
        have H' := Aside0.mk H
        clear H
        go_wp2_with (first | ((with_reducible refine gate_callee (f := 42) rfl ?_); refine goesL_ (some 30) rfl rfl Try.func42 (by kernel_rfl) rfl #[.int .i64 a3] rfl (by (try simp only [List.map_toArray, List.map_cons, List.map_nil]); first | done | rfl | (simp only [List.length_drop, List.length_take]; rfl)) ?_; (with_reducible refine (withholding_amount.calls a3 true _ A22.out).mono ?_); rintro e w' ⟨rfl, ⟨nd, rfl⟩⟩; refine ⟨_, rfl, ?_⟩; have hnb25 := NB388_387.out; have hnc25 := NB387_388.out; obtain ⟨hcz26_0, hcz26_1, hcz26_2, hcz26_3, hcz26_4, hfz26_0, hfz26_1, hfz26_2, hfz26_3, hfz26_4⟩ := blk5 BK388.out))
        go_meet
        case rel => exact ⟨_, (true), (by first | rfl | (simp; done) | (simp [*]; done)), H', ⟨by have := HJ6.out; first | omega | exact Nat.le_refl _⟩, ⟨by (with_reducible repeat (first | refine blk_drewN ?_ _ | refine blk_drew ?_ | refine blk_alloc ?_ _)); exact BK387.out⟩, ⟨by (with_reducible repeat (first | refine blk_drewN ?_ _ | refine blk_drew ?_ | refine blk_alloc ?_ _)); exact BK388.out⟩, ⟨by repeat (first | (with_reducible first | exact HB.out | apply below_alloc | apply pw_below_drewN | apply below_drew1 | refine below_set ?_ GE387.out | refine below_set ?_ GE388.out) | exact HB.out)⟩⟩
       ·
        rw [if_neg c24] at H
        have c24b0 : decide (a2_1 < 0) = false := decide_eq_false c24
        clear c24
        (first | rw [c24b0] | (simp only [i64_w, i32_w]; rw [c24b0]) | skip)
        by_cases c27 : a2_1 > 999000000000
        ·
         rw [if_pos c27] at H
         have c27b0 : decide (999000000000 < a2_1) = true := decide_eq_true c27
         clear c27
         have H' := Aside0.mk H
         clear H
         go_wp2_with (first | ((with_reducible refine gate_callee (f := 42) rfl ?_); refine goesL_ (some 30) rfl rfl Try.func42 (by kernel_rfl) rfl #[.int .i64 a3] rfl (by (try simp only [List.map_toArray, List.map_cons, List.map_nil]); first | done | rfl | (simp only [List.length_drop, List.length_take]; rfl)) ?_; (with_reducible refine (withholding_amount.calls a3 true _ A22.out).mono ?_); rintro e w' ⟨rfl, ⟨nd, rfl⟩⟩; refine ⟨_, rfl, ?_⟩; have hnb28 := NB388_387.out; have hnc28 := NB387_388.out; obtain ⟨hcz29_0, hcz29_1, hcz29_2, hcz29_3, hcz29_4, hfz29_0, hfz29_1, hfz29_2, hfz29_3, hfz29_4⟩ := blk5 BK388.out))
         go_meet
         case rel => exact ⟨_, (true), (by first | rfl | (simp; done) | (simp [*]; done)), H', ⟨by have := HJ6.out; first | omega | exact Nat.le_refl _⟩, ⟨by (with_reducible repeat (first | refine blk_drewN ?_ _ | refine blk_drew ?_ | refine blk_alloc ?_ _)); exact BK387.out⟩, ⟨by (with_reducible repeat (first | refine blk_drewN ?_ _ | refine blk_drew ?_ | refine blk_alloc ?_ _)); exact BK388.out⟩, ⟨by repeat (first | (with_reducible first | exact HB.out | apply below_alloc | apply pw_below_drewN | apply below_drew1 | refine below_set ?_ GE387.out | refine below_set ?_ GE388.out) | exact HB.out)⟩⟩
        ·
         rw [if_neg c27] at H
         have c27b0 : decide (999000000000 < a2_1) = false := decide_eq_false c27
         clear c27
         by_cases c30 : a2_2 < (-1000000000000)
         ·
          rw [if_pos c30] at H
          have c30b0 : decide (a2_2 < (-1000000000000)) = true := decide_eq_true c30
          clear c30
          have H' := Aside0.mk H
          clear H
          go_wp2_with (first | ((with_reducible refine gate_callee (f := 42) rfl ?_); refine goesL_ (some 30) rfl rfl Try.func42 (by kernel_rfl) rfl #[.int .i64 a3] rfl (by (try simp only [List.map_toArray, List.map_cons, List.map_nil]); first | done | rfl | (simp only [List.length_drop, List.length_take]; rfl)) ?_; (with_reducible refine (withholding_amount.calls a3 true _ A22.out).mono ?_); rintro e w' ⟨rfl, ⟨nd, rfl⟩⟩; refine ⟨_, rfl, ?_⟩; have hnb31 := NB388_387.out; have hnc31 := NB387_388.out; obtain ⟨hcz32_0, hcz32_1, hcz32_2, hcz32_3, hcz32_4, hfz32_0, hfz32_1, hfz32_2, hfz32_3, hfz32_4⟩ := blk5 BK388.out))
          go_meet
          case rel => exact ⟨_, (true), (by first | rfl | (simp; done) | (simp [*]; done)), H', ⟨by have := HJ6.out; first | omega | exact Nat.le_refl _⟩, ⟨by (with_reducible repeat (first | refine blk_drewN ?_ _ | refine blk_drew ?_ | refine blk_alloc ?_ _)); exact BK387.out⟩, ⟨by (with_reducible repeat (first | refine blk_drewN ?_ _ | refine blk_drew ?_ | refine blk_alloc ?_ _)); exact BK388.out⟩, ⟨by repeat (first | (with_reducible first | exact HB.out | apply below_alloc | apply pw_below_drewN | apply below_drew1 | refine below_set ?_ GE387.out | refine below_set ?_ GE388.out) | exact HB.out)⟩⟩
         ·
          rw [if_neg c30] at H
          have c30b0 : decide (a2_2 < (-1000000000000)) = false := decide_eq_false c30
          clear c30
          have H' := Aside0.mk H
          clear H
          go_wp2_with (first | ((with_reducible refine gate_callee (f := 42) rfl ?_); refine goesL_ (some 30) rfl rfl Try.func42 (by kernel_rfl) rfl #[.int .i64 a3] rfl (by (try simp only [List.map_toArray, List.map_cons, List.map_nil]); first | done | rfl | (simp only [List.length_drop, List.length_take]; rfl)) ?_; (with_reducible refine (withholding_amount.calls a3 true _ A22.out).mono ?_); rintro e w' ⟨rfl, ⟨nd, rfl⟩⟩; refine ⟨_, rfl, ?_⟩; have hnb33 := NB388_387.out; have hnc33 := NB387_388.out; obtain ⟨hcz34_0, hcz34_1, hcz34_2, hcz34_3, hcz34_4, hfz34_0, hfz34_1, hfz34_2, hfz34_3, hfz34_4⟩ := blk5 BK388.out))
          go_meet
          case rel => exact ⟨_, (decide (a2_2 > 1000000000000)), (by first | rfl | (simp; done) | (simp [*]; done)), H', ⟨by have := HJ6.out; first | omega | exact Nat.le_refl _⟩, ⟨by (with_reducible repeat (first | refine blk_drewN ?_ _ | refine blk_drew ?_ | refine blk_alloc ?_ _)); exact BK387.out⟩, ⟨by (with_reducible repeat (first | refine blk_drewN ?_ _ | refine blk_drew ?_ | refine blk_alloc ?_ _)); exact BK388.out⟩, ⟨by repeat (first | (with_reducible first | exact HB.out | apply below_alloc | apply pw_below_drewN | apply below_drew1 | refine below_set ?_ GE387.out | refine below_set ?_ GE388.out) | exact HB.out)⟩⟩
      ·
       replace c23 := Bool.eq_false_iff.mpr c23
       subst c23
       rw [if_neg (show ¬ (false = true) by decide)] at H
       have H' := Aside0.mk H
       clear H
       go_wp2_with (first | ((with_reducible refine gate_callee (f := 42) rfl ?_); refine goesL_ (some 30) rfl rfl Try.func42 (by kernel_rfl) rfl #[.int .i64 a3] rfl (by (try simp only [List.map_toArray, List.map_cons, List.map_nil]); first | done | rfl | (simp only [List.length_drop, List.length_take]; rfl)) ?_; (with_reducible refine (withholding_amount.calls a3 false _ A22.out).mono ?_); rintro e w' ⟨rfl, ⟨nd, rfl⟩⟩; refine ⟨_, rfl, ?_⟩))
       go_meet
       case rel => exact ⟨_, (true), (by first | rfl | (simp; done) | (simp [*]; done)), H', ⟨by have := HJ6.out; first | omega | exact Nat.le_refl _⟩, ⟨by (with_reducible repeat (first | refine blk_drewN ?_ _ | refine blk_drew ?_ | refine blk_alloc ?_ _)); exact BK387.out⟩, ⟨by (with_reducible repeat (first | refine blk_drewN ?_ _ | refine blk_drew ?_ | refine blk_alloc ?_ _)); exact BK388.out⟩, ⟨by repeat (first | (with_reducible first | exact HB.out | apply below_alloc | apply pw_below_drewN | apply below_drew1 | refine below_set ?_ GE387.out | refine below_set ?_ GE388.out) | exact HB.out)⟩⟩
     case rest =>
      clear HC21
      try clear c1
      try clear c2
      try clear p2
      try clear c3
      try clear c4
      try clear c6
      try clear c10
      try clear c14
      try clear c15
      try clear c15b0
      try clear c16
      try clear c18
      try clear c19
      try clear c20
      try clear c23
      try clear c24
      try clear c24b0
      try clear c25
      try clear c27
      try clear c27b0
      try clear c28
      try clear c30
      try clear c30b0
      try clear c31
      try clear c33
      try clear hcz11_0
      try clear hcz11_1
      try clear hcz11_2
      try clear hcz11_3
      try clear hcz11_4
      try clear hcz11_5
      try clear hcz11_6
      try clear hcz17_0
      try clear hcz17_1
      try clear hcz17_2
      try clear hcz17_3
      try clear hcz17_4
      try clear hcz19_0
      try clear hcz19_1
      try clear hcz19_2
      try clear hcz19_3
      try clear hcz19_4
      try clear hcz26_0
      try clear hcz26_1
      try clear hcz26_2
      try clear hcz26_3
      try clear hcz26_4
      try clear hcz29_0
      try clear hcz29_1
      try clear hcz29_2
      try clear hcz29_3
      try clear hcz29_4
      try clear hcz32_0
      try clear hcz32_1
      try clear hcz32_2
      try clear hcz32_3
      try clear hcz32_4
      try clear hcz34_0
      try clear hcz34_1
      try clear hcz34_2
      try clear hcz34_3
      try clear hcz34_4
      try clear hfz11_0
      try clear hfz11_1
      try clear hfz11_2
      try clear hfz11_3
      try clear hfz11_4
      try clear hfz11_5
      try clear hfz11_6
      try clear hfz17_0
      try clear hfz17_1
      try clear hfz17_2
      try clear hfz17_3
      try clear hfz17_4
      try clear hfz19_0
      try clear hfz19_1
      try clear hfz19_2
      try clear hfz19_3
      try clear hfz19_4
      try clear hfz26_0
      try clear hfz26_1
      try clear hfz26_2
      try clear hfz26_3
      try clear hfz26_4
      try clear hfz29_0
      try clear hfz29_1
      try clear hfz29_2
      try clear hfz29_3
      try clear hfz29_4
      try clear hfz32_0
      try clear hfz32_1
      try clear hfz32_2
      try clear hfz32_3
      try clear hfz32_4
      try clear hfz34_0
      try clear hfz34_1
      try clear hfz34_2
      try clear hfz34_3
      try clear hfz34_4
      try clear p2
      obtain ⟨kq, x51_20, rfl, HA, HJ20, BK387, BK388, HB⟩ := hcut
      cases kq with
      | zero => exact absurd HA.out (by simp [withholding_Withhold.j1])
      | succ kj20 =>
       have H := HA.out
       clear HA
       simp only [withholding_Withhold.j1] at H
       by_cases c35 : x51_20 = true
       ·
        subst c35
        rw [if_pos rfl] at H
        simp only [Option.some.injEq, Prod.mk.injEq] at H
        obtain ⟨rfl, rfl⟩ := H
        go_wp2
        go_ret2
        exact ⟨by first | rfl | (simp [errW_none, errW_some] <;> rfl) | (simp [*, errW_none, errW_some] <;> rfl), by repeat (first | (with_reducible first | exact HB.out | apply below_alloc | apply pw_below_drewN | apply below_drew1 | refine below_set ?_ GE387.out | refine below_set ?_ GE388.out) | exact HB.out)⟩
       ·
        replace c35 := Bool.eq_false_iff.mpr c35
        subst c35
        rw [if_neg (show ¬ (false = true) by decide)] at H
        have hnb := NB387_388.out
        have hnc := NB388_387.out
        have hczt_0 : wc.cell? ⟨gb387, 0, none⟩ = some (.int .i64 a0_0) := (blk_cell BK387.out 0).trans rfl
        have hfzt_0 := blk_frozen BK387.out 0
        have hczt_1 : wc.cell? ⟨gb387, 1, none⟩ = some (.slice A0_1 l0_1.length c0_1) := (blk_cell BK387.out 1).trans rfl
        have hfzt_1 := blk_frozen BK387.out 1
        have hczt_2 : wc.cell? ⟨gb387, 2, none⟩ = some (.int .i64 a0_2) := (blk_cell BK387.out 2).trans rfl
        have hfzt_2 := blk_frozen BK387.out 2
        have hczt_3 : wc.cell? ⟨gb387, 3, none⟩ = some (.int .i64 a0_3) := (blk_cell BK387.out 3).trans rfl
        have hfzt_3 := blk_frozen BK387.out 3
        have hczt_4 : wc.cell? ⟨gb387, 4, none⟩ = some (.int .i64 a0_4) := (blk_cell BK387.out 4).trans rfl
        have hfzt_4 := blk_frozen BK387.out 4
        have hczt_5 : wc.cell? ⟨gb387, 5, none⟩ = some (.int .i64 a0_5) := (blk_cell BK387.out 5).trans rfl
        have hfzt_5 := blk_frozen BK387.out 5
        have hczt_6 : wc.cell? ⟨gb387, 6, none⟩ = some (.slice A0_6 l0_6.length c0_6) := (blk_cell BK387.out 6).trans rfl
        have hfzt_6 := blk_frozen BK387.out 6
        have hczy_0 : wc.cell? ⟨gb388, 0, none⟩ = some (.int .i64 a2_0) := (blk_cell BK388.out 0).trans rfl
        have hfzy_0 := blk_frozen BK388.out 0
        have hczy_1 : wc.cell? ⟨gb388, 1, none⟩ = some (.int .i64 a2_1) := (blk_cell BK388.out 1).trans rfl
        have hfzy_1 := blk_frozen BK388.out 1
        have hczy_2 : wc.cell? ⟨gb388, 2, none⟩ = some (.int .i64 a2_2) := (blk_cell BK388.out 2).trans rfl
        have hfzy_2 := blk_frozen BK388.out 2
        have hczy_3 : wc.cell? ⟨gb388, 3, none⟩ = some (.slice A2_3 l2_3.length c2_3) := (blk_cell BK388.out 3).trans rfl
        have hfzy_3 := blk_frozen BK388.out 3
        have hczy_4 : wc.cell? ⟨gb388, 4, none⟩ = some (.slice A2_4 l2_4.length c2_4) := (blk_cell BK388.out 4).trans rfl
        have hfzy_4 := blk_frozen BK388.out 4
        by_cases c36 : a0_0 = 1
        ·
         rw [if_pos c36] at H
         replace H := Option.bind_eq_some_iff.mp H
         obtain ⟨⟨t392, t393⟩, A370, H⟩ := H
         dsimp only at H
         have A37 := Aside0.mk A370
         clear A370
         simp only [Option.some.injEq, Prod.mk.injEq] at H
         obtain ⟨rfl, rfl⟩ := H
         subst c36
         go_wp2_with (first | ((with_reducible refine gate_dst (N := 10) rfl ?_); refine box_event ?hg (N := 10) ?hd (cs := #[.int .i64 0, .slice none 0 0, .int .i64 0, .int .i64 0, .int .i64 0, .int .i64 0, .slice none 0 0, .int .i64 0, .int .i64 0, .int .i64 0, .int .i64 0, .slice none 0 0, .slice none 0 0, .int .i64 0]) (t := 70) ?hr ?_; (case hd => rfl); (case hg => rfl); (case hr => first | (go_simp; done) | (go_simp; rfl)); intro gp hgp w1 hbox1 hb1; have Bt1 := blk_below BK387.out hb1; have By1 := blk_below BK388.out hb1; have B1 := below_step HB.out hb1; have Gp := (by rw [hgp]; exact below_size HB.out : w.heap.size ≤ gp); have Np := (by rw [hgp]; exact Nat.ne_of_lt (blk_lt BK387.out) : gb387 ≠ gp); clear hgp) | ((with_reducible refine gate_store (t := 70) (p := 10) rfl ?_); refine fillL_ (g := gp) #[.int .i64 1, .slice A0_1 l0_1.length c0_1, .int .i64 a0_2, .int .i64 a0_3, .int .i64 a0_4, .int .i64 a0_5, .slice A0_6 l0_6.length c0_6, .int .i64 a1, .int .i64 a2_0, .int .i64 a2_1, .int .i64 a2_2, .slice A2_3 l2_3.length c2_3, .slice A2_4 l2_4.length c2_4, .int .i64 a3] rfl rfl rfl rfl rfl (by rfl) hbox1 rfl (by kernel_rfl) (by rfl) ?_; intro w2 hbk2 hg2; have Bt2 := blk_grown Bt1 hg2 (fun e_ => Np (by injection e_)); have B2 := B1.grown hg2 (below_size B1) (fun k_ hk_ => by injection hk_ with hk_; rw [← hk_]; exact Gp); have hczq_0 : w2.cell? ⟨gp, 0, none⟩ = some (.int .i64 1) := (blk_cell hbk2 0).trans rfl; have hfzq_0 := blk_frozen hbk2 0; have hczq_1 : w2.cell? ⟨gp, 1, none⟩ = some (.slice A0_1 l0_1.length c0_1) := (blk_cell hbk2 1).trans rfl; have hfzq_1 := blk_frozen hbk2 1; have hczq_2 : w2.cell? ⟨gp, 2, none⟩ = some (.int .i64 a0_2) := (blk_cell hbk2 2).trans rfl; have hfzq_2 := blk_frozen hbk2 2; have hczq_3 : w2.cell? ⟨gp, 3, none⟩ = some (.int .i64 a0_3) := (blk_cell hbk2 3).trans rfl; have hfzq_3 := blk_frozen hbk2 3; have hczq_4 : w2.cell? ⟨gp, 4, none⟩ = some (.int .i64 a0_4) := (blk_cell hbk2 4).trans rfl; have hfzq_4 := blk_frozen hbk2 4; have hczq_5 : w2.cell? ⟨gp, 5, none⟩ = some (.int .i64 a0_5) := (blk_cell hbk2 5).trans rfl; have hfzq_5 := blk_frozen hbk2 5; have hczq_6 : w2.cell? ⟨gp, 6, none⟩ = some (.slice A0_6 l0_6.length c0_6) := (blk_cell hbk2 6).trans rfl; have hfzq_6 := blk_frozen hbk2 6; have hczq_7 : w2.cell? ⟨gp, 7, none⟩ = some (.int .i64 a1) := (blk_cell hbk2 7).trans rfl; have hfzq_7 := blk_frozen hbk2 7; have hczq_8 : w2.cell? ⟨gp, 8, none⟩ = some (.int .i64 a2_0) := (blk_cell hbk2 8).trans rfl; have hfzq_8 := blk_frozen hbk2 8; have hczq_9 : w2.cell? ⟨gp, 9, none⟩ = some (.int .i64 a2_1) := (blk_cell hbk2 9).trans rfl; have hfzq_9 := blk_frozen hbk2 9; have hczq_10 : w2.cell? ⟨gp, 10, none⟩ = some (.int .i64 a2_2) := (blk_cell hbk2 10).trans rfl; have hfzq_10 := blk_frozen hbk2 10; have hczq_11 : w2.cell? ⟨gp, 11, none⟩ = some (.slice A2_3 l2_3.length c2_3) := (blk_cell hbk2 11).trans rfl; have hfzq_11 := blk_frozen hbk2 11; have hczq_12 : w2.cell? ⟨gp, 12, none⟩ = some (.slice A2_4 l2_4.length c2_4) := (blk_cell hbk2 12).trans rfl; have hfzq_12 := blk_frozen hbk2 12; have hczq_13 : w2.cell? ⟨gp, 13, none⟩ = some (.int .i64 a3) := (blk_cell hbk2 13).trans rfl; have hfzq_13 := blk_frozen hbk2 13) | ((with_reducible refine gate_dst (N := 11) rfl ?_); refine box_event ?hg (N := 11) ?hd (cs := #[.nilFunc, .nilFunc, .nilFunc, .nilFunc]) (t := 72) ?hr ?_; (case hd => rfl); (case hg => rfl); (case hr => first | (go_simp; done) | (go_simp; rfl)); intro gm hgm w3 hbox3 hb3; have Bt3 := blk_below Bt2 hb3; have B3 := below_step B2 hb3; have Gm := (by rw [hgm]; exact below_size B2 : w.heap.size ≤ gm); have Nm := (by rw [hgm]; exact Nat.ne_of_lt (blk_lt Bt2) : gb387 ≠ gm); clear hgm) | ((with_reducible refine gate_store (t := 72) (p := 11) rfl ?_); refine fillL_ (g := gm) #[.nilFunc, .func (.func 43) #[.agg #[.int .i64 1, .slice A0_1 l0_1.length c0_1, .int .i64 a0_2, .int .i64 a0_3, .int .i64 a0_4, .int .i64 a0_5, .slice A0_6 l0_6.length c0_6, .int .i64 a1, .int .i64 a2_0, .int .i64 a2_1, .int .i64 a2_2, .slice A2_3 l2_3.length c2_3, .slice A2_4 l2_4.length c2_4, .int .i64 a3]] #[], .func (.func 44) #[.agg #[.int .i64 1, .slice A0_1 l0_1.length c0_1, .int .i64 a0_2, .int .i64 a0_3, .int .i64 a0_4, .int .i64 a0_5, .slice A0_6 l0_6.length c0_6, .int .i64 a1, .int .i64 a2_0, .int .i64 a2_1, .int .i64 a2_2, .slice A2_3 l2_3.length c2_3, .slice A2_4 l2_4.length c2_4, .int .i64 a3]] #[], .func (.func 45) #[.agg #[.int .i64 1, .slice A0_1 l0_1.length c0_1, .int .i64 a0_2, .int .i64 a0_3, .int .i64 a0_4, .int .i64 a0_5, .slice A0_6 l0_6.length c0_6, .int .i64 a1, .int .i64 a2_0, .int .i64 a2_1, .int .i64 a2_2, .slice A2_3 l2_3.length c2_3, .slice A2_4 l2_4.length c2_4, .int .i64 a3]] #[]] rfl rfl rfl rfl rfl (by rfl) hbox3 rfl (by kernel_rfl) (by rfl) ?_; intro w4 hbk4 hg4; have Bt4 := blk_grown Bt3 hg4 (fun e_ => Nm (by injection e_)); have B4 := B3.grown hg4 (below_size B3) (fun k_ hk_ => by injection hk_ with hk_; rw [← hk_]; exact Gm); have hct_0 := blk_cell Bt4 0; have hft_0 := blk_frozen Bt4 0; have hcm_1 := (blk_cell hbk4 1); have hfm_1 := blk_frozen hbk4 1) | ((with_reducible refine gate_dst (N := 68) rfl ?_); refine callL_ (some 68) rfl rfl 43 #[.agg #[.int .i64 1, .slice A0_1 l0_1.length c0_1, .int .i64 a0_2, .int .i64 a0_3, .int .i64 a0_4, .int .i64 a0_5, .slice A0_6 l0_6.length c0_6, .int .i64 a1, .int .i64 a2_0, .int .i64 a2_1, .int .i64 a2_2, .slice A2_3 l2_3.length c2_3, .slice A2_4 l2_4.length c2_4, .int .i64 a3]] (by go_simp) ?_; (with_reducible refine (withholding_period_table.calls kj20 _ _ _ l0_1 a0_2 a0_3 a0_4 a0_5 _ _ l0_6 a1 a2_0 a2_1 a2_2 _ _ l2_3 _ _ l2_4 a3 t392 t393 _ ?side1 ?side2 ?side3 ?side4 A37.out).mono ?_); (case side1 => exact Kd.C_below HR0_1.out B4); (case side2 => exact HC0_1.out); (case side3 => exact Kd.C_below HR0_6.out B4); (case side4 => exact HC0_6.out); rintro e w5 ⟨rfl, hb5⟩; refine ⟨_, rfl, ?_⟩))
         go_ret2
         exact ⟨rfl, below_step B4 hb5⟩
        ·
         rw [if_neg c36] at H
         by_cases c36 : a0_0 = 2
         ·
          rw [if_pos c36] at H
          replace H := Option.bind_eq_some_iff.mp H
          obtain ⟨⟨t392, t393⟩, A370, H⟩ := H
          dsimp only at H
          have A37 := Aside0.mk A370
          clear A370
          simp only [Option.some.injEq, Prod.mk.injEq] at H
          obtain ⟨rfl, rfl⟩ := H
          subst c36
          go_wp2_with (first | ((with_reducible refine gate_dst (N := 10) rfl ?_); refine box_event ?hg (N := 10) ?hd (cs := #[.int .i64 0, .slice none 0 0, .int .i64 0, .int .i64 0, .int .i64 0, .int .i64 0, .slice none 0 0, .int .i64 0, .int .i64 0, .int .i64 0, .int .i64 0, .slice none 0 0, .slice none 0 0, .int .i64 0]) (t := 70) ?hr ?_; (case hd => rfl); (case hg => rfl); (case hr => first | (go_simp; done) | (go_simp; rfl)); intro gp hgp w1 hbox1 hb1; have Bt1 := blk_below BK387.out hb1; have By1 := blk_below BK388.out hb1; have B1 := below_step HB.out hb1; have Gp := (by rw [hgp]; exact below_size HB.out : w.heap.size ≤ gp); have Np := (by rw [hgp]; exact Nat.ne_of_lt (blk_lt BK387.out) : gb387 ≠ gp); clear hgp) | ((with_reducible refine gate_store (t := 70) (p := 10) rfl ?_); refine fillL_ (g := gp) #[.int .i64 2, .slice A0_1 l0_1.length c0_1, .int .i64 a0_2, .int .i64 a0_3, .int .i64 a0_4, .int .i64 a0_5, .slice A0_6 l0_6.length c0_6, .int .i64 a1, .int .i64 a2_0, .int .i64 a2_1, .int .i64 a2_2, .slice A2_3 l2_3.length c2_3, .slice A2_4 l2_4.length c2_4, .int .i64 a3] rfl rfl rfl rfl rfl (by rfl) hbox1 rfl (by kernel_rfl) (by rfl) ?_; intro w2 hbk2 hg2; have Bt2 := blk_grown Bt1 hg2 (fun e_ => Np (by injection e_)); have B2 := B1.grown hg2 (below_size B1) (fun k_ hk_ => by injection hk_ with hk_; rw [← hk_]; exact Gp); have hczq_0 : w2.cell? ⟨gp, 0, none⟩ = some (.int .i64 2) := (blk_cell hbk2 0).trans rfl; have hfzq_0 := blk_frozen hbk2 0; have hczq_1 : w2.cell? ⟨gp, 1, none⟩ = some (.slice A0_1 l0_1.length c0_1) := (blk_cell hbk2 1).trans rfl; have hfzq_1 := blk_frozen hbk2 1; have hczq_2 : w2.cell? ⟨gp, 2, none⟩ = some (.int .i64 a0_2) := (blk_cell hbk2 2).trans rfl; have hfzq_2 := blk_frozen hbk2 2; have hczq_3 : w2.cell? ⟨gp, 3, none⟩ = some (.int .i64 a0_3) := (blk_cell hbk2 3).trans rfl; have hfzq_3 := blk_frozen hbk2 3; have hczq_4 : w2.cell? ⟨gp, 4, none⟩ = some (.int .i64 a0_4) := (blk_cell hbk2 4).trans rfl; have hfzq_4 := blk_frozen hbk2 4; have hczq_5 : w2.cell? ⟨gp, 5, none⟩ = some (.int .i64 a0_5) := (blk_cell hbk2 5).trans rfl; have hfzq_5 := blk_frozen hbk2 5; have hczq_6 : w2.cell? ⟨gp, 6, none⟩ = some (.slice A0_6 l0_6.length c0_6) := (blk_cell hbk2 6).trans rfl; have hfzq_6 := blk_frozen hbk2 6; have hczq_7 : w2.cell? ⟨gp, 7, none⟩ = some (.int .i64 a1) := (blk_cell hbk2 7).trans rfl; have hfzq_7 := blk_frozen hbk2 7; have hczq_8 : w2.cell? ⟨gp, 8, none⟩ = some (.int .i64 a2_0) := (blk_cell hbk2 8).trans rfl; have hfzq_8 := blk_frozen hbk2 8; have hczq_9 : w2.cell? ⟨gp, 9, none⟩ = some (.int .i64 a2_1) := (blk_cell hbk2 9).trans rfl; have hfzq_9 := blk_frozen hbk2 9; have hczq_10 : w2.cell? ⟨gp, 10, none⟩ = some (.int .i64 a2_2) := (blk_cell hbk2 10).trans rfl; have hfzq_10 := blk_frozen hbk2 10; have hczq_11 : w2.cell? ⟨gp, 11, none⟩ = some (.slice A2_3 l2_3.length c2_3) := (blk_cell hbk2 11).trans rfl; have hfzq_11 := blk_frozen hbk2 11; have hczq_12 : w2.cell? ⟨gp, 12, none⟩ = some (.slice A2_4 l2_4.length c2_4) := (blk_cell hbk2 12).trans rfl; have hfzq_12 := blk_frozen hbk2 12; have hczq_13 : w2.cell? ⟨gp, 13, none⟩ = some (.int .i64 a3) := (blk_cell hbk2 13).trans rfl; have hfzq_13 := blk_frozen hbk2 13) | ((with_reducible refine gate_dst (N := 11) rfl ?_); refine box_event ?hg (N := 11) ?hd (cs := #[.nilFunc, .nilFunc, .nilFunc, .nilFunc]) (t := 72) ?hr ?_; (case hd => rfl); (case hg => rfl); (case hr => first | (go_simp; done) | (go_simp; rfl)); intro gm hgm w3 hbox3 hb3; have Bt3 := blk_below Bt2 hb3; have B3 := below_step B2 hb3; have Gm := (by rw [hgm]; exact below_size B2 : w.heap.size ≤ gm); have Nm := (by rw [hgm]; exact Nat.ne_of_lt (blk_lt Bt2) : gb387 ≠ gm); clear hgm) | ((with_reducible refine gate_store (t := 72) (p := 11) rfl ?_); refine fillL_ (g := gm) #[.nilFunc, .func (.func 43) #[.agg #[.int .i64 2, .slice A0_1 l0_1.length c0_1, .int .i64 a0_2, .int .i64 a0_3, .int .i64 a0_4, .int .i64 a0_5, .slice A0_6 l0_6.length c0_6, .int .i64 a1, .int .i64 a2_0, .int .i64 a2_1, .int .i64 a2_2, .slice A2_3 l2_3.length c2_3, .slice A2_4 l2_4.length c2_4, .int .i64 a3]] #[], .func (.func 44) #[.agg #[.int .i64 2, .slice A0_1 l0_1.length c0_1, .int .i64 a0_2, .int .i64 a0_3, .int .i64 a0_4, .int .i64 a0_5, .slice A0_6 l0_6.length c0_6, .int .i64 a1, .int .i64 a2_0, .int .i64 a2_1, .int .i64 a2_2, .slice A2_3 l2_3.length c2_3, .slice A2_4 l2_4.length c2_4, .int .i64 a3]] #[], .func (.func 45) #[.agg #[.int .i64 2, .slice A0_1 l0_1.length c0_1, .int .i64 a0_2, .int .i64 a0_3, .int .i64 a0_4, .int .i64 a0_5, .slice A0_6 l0_6.length c0_6, .int .i64 a1, .int .i64 a2_0, .int .i64 a2_1, .int .i64 a2_2, .slice A2_3 l2_3.length c2_3, .slice A2_4 l2_4.length c2_4, .int .i64 a3]] #[]] rfl rfl rfl rfl rfl (by rfl) hbox3 rfl (by kernel_rfl) (by rfl) ?_; intro w4 hbk4 hg4; have Bt4 := blk_grown Bt3 hg4 (fun e_ => Nm (by injection e_)); have B4 := B3.grown hg4 (below_size B3) (fun k_ hk_ => by injection hk_ with hk_; rw [← hk_]; exact Gm); have hct_0 := blk_cell Bt4 0; have hft_0 := blk_frozen Bt4 0; have hcm_2 := (blk_cell hbk4 2); have hfm_2 := blk_frozen hbk4 2) | ((with_reducible refine gate_dst (N := 68) rfl ?_); refine callL_ (some 68) rfl rfl 44 #[.agg #[.int .i64 2, .slice A0_1 l0_1.length c0_1, .int .i64 a0_2, .int .i64 a0_3, .int .i64 a0_4, .int .i64 a0_5, .slice A0_6 l0_6.length c0_6, .int .i64 a1, .int .i64 a2_0, .int .i64 a2_1, .int .i64 a2_2, .slice A2_3 l2_3.length c2_3, .slice A2_4 l2_4.length c2_4, .int .i64 a3]] (by go_simp) ?_; (with_reducible refine (withholding_period_formula.calls kj20 _ _ _ l0_1 a0_2 a0_3 a0_4 a0_5 _ _ l0_6 a1 a2_0 a2_1 a2_2 _ _ l2_3 _ _ l2_4 a3 t392 t393 _ ?side1 ?side2 ?side3 ?side4 A37.out).mono ?_); (case side1 => exact Kd.C_below HR0_1.out B4); (case side2 => exact HC0_1.out); (case side3 => exact Kd.C_below HR0_6.out B4); (case side4 => exact HC0_6.out); rintro e w5 ⟨rfl, hb5⟩; refine ⟨_, rfl, ?_⟩))
          go_ret2
          exact ⟨rfl, below_step B4 hb5⟩
         ·
          rw [if_neg c36] at H
          by_cases c36 : a0_0 = 3
          ·
           rw [if_pos c36] at H
           replace H := Option.bind_eq_some_iff.mp H
           obtain ⟨⟨t392, t393⟩, A370, H⟩ := H
           dsimp only at H
           have A37 := Aside0.mk A370
           clear A370
           simp only [Option.some.injEq, Prod.mk.injEq] at H
           obtain ⟨rfl, rfl⟩ := H
           subst c36
           go_wp2_with (first | ((with_reducible refine gate_dst (N := 10) rfl ?_); refine box_event ?hg (N := 10) ?hd (cs := #[.int .i64 0, .slice none 0 0, .int .i64 0, .int .i64 0, .int .i64 0, .int .i64 0, .slice none 0 0, .int .i64 0, .int .i64 0, .int .i64 0, .int .i64 0, .slice none 0 0, .slice none 0 0, .int .i64 0]) (t := 70) ?hr ?_; (case hd => rfl); (case hg => rfl); (case hr => first | (go_simp; done) | (go_simp; rfl)); intro gp hgp w1 hbox1 hb1; have Bt1 := blk_below BK387.out hb1; have By1 := blk_below BK388.out hb1; have B1 := below_step HB.out hb1; have Gp := (by rw [hgp]; exact below_size HB.out : w.heap.size ≤ gp); have Np := (by rw [hgp]; exact Nat.ne_of_lt (blk_lt BK387.out) : gb387 ≠ gp); clear hgp) | ((with_reducible refine gate_store (t := 70) (p := 10) rfl ?_); refine fillL_ (g := gp) #[.int .i64 3, .slice A0_1 l0_1.length c0_1, .int .i64 a0_2, .int .i64 a0_3, .int .i64 a0_4, .int .i64 a0_5, .slice A0_6 l0_6.length c0_6, .int .i64 a1, .int .i64 a2_0, .int .i64 a2_1, .int .i64 a2_2, .slice A2_3 l2_3.length c2_3, .slice A2_4 l2_4.length c2_4, .int .i64 a3] rfl rfl rfl rfl rfl (by rfl) hbox1 rfl (by kernel_rfl) (by rfl) ?_; intro w2 hbk2 hg2; have Bt2 := blk_grown Bt1 hg2 (fun e_ => Np (by injection e_)); have B2 := B1.grown hg2 (below_size B1) (fun k_ hk_ => by injection hk_ with hk_; rw [← hk_]; exact Gp); have hczq_0 : w2.cell? ⟨gp, 0, none⟩ = some (.int .i64 3) := (blk_cell hbk2 0).trans rfl; have hfzq_0 := blk_frozen hbk2 0; have hczq_1 : w2.cell? ⟨gp, 1, none⟩ = some (.slice A0_1 l0_1.length c0_1) := (blk_cell hbk2 1).trans rfl; have hfzq_1 := blk_frozen hbk2 1; have hczq_2 : w2.cell? ⟨gp, 2, none⟩ = some (.int .i64 a0_2) := (blk_cell hbk2 2).trans rfl; have hfzq_2 := blk_frozen hbk2 2; have hczq_3 : w2.cell? ⟨gp, 3, none⟩ = some (.int .i64 a0_3) := (blk_cell hbk2 3).trans rfl; have hfzq_3 := blk_frozen hbk2 3; have hczq_4 : w2.cell? ⟨gp, 4, none⟩ = some (.int .i64 a0_4) := (blk_cell hbk2 4).trans rfl; have hfzq_4 := blk_frozen hbk2 4; have hczq_5 : w2.cell? ⟨gp, 5, none⟩ = some (.int .i64 a0_5) := (blk_cell hbk2 5).trans rfl; have hfzq_5 := blk_frozen hbk2 5; have hczq_6 : w2.cell? ⟨gp, 6, none⟩ = some (.slice A0_6 l0_6.length c0_6) := (blk_cell hbk2 6).trans rfl; have hfzq_6 := blk_frozen hbk2 6; have hczq_7 : w2.cell? ⟨gp, 7, none⟩ = some (.int .i64 a1) := (blk_cell hbk2 7).trans rfl; have hfzq_7 := blk_frozen hbk2 7; have hczq_8 : w2.cell? ⟨gp, 8, none⟩ = some (.int .i64 a2_0) := (blk_cell hbk2 8).trans rfl; have hfzq_8 := blk_frozen hbk2 8; have hczq_9 : w2.cell? ⟨gp, 9, none⟩ = some (.int .i64 a2_1) := (blk_cell hbk2 9).trans rfl; have hfzq_9 := blk_frozen hbk2 9; have hczq_10 : w2.cell? ⟨gp, 10, none⟩ = some (.int .i64 a2_2) := (blk_cell hbk2 10).trans rfl; have hfzq_10 := blk_frozen hbk2 10; have hczq_11 : w2.cell? ⟨gp, 11, none⟩ = some (.slice A2_3 l2_3.length c2_3) := (blk_cell hbk2 11).trans rfl; have hfzq_11 := blk_frozen hbk2 11; have hczq_12 : w2.cell? ⟨gp, 12, none⟩ = some (.slice A2_4 l2_4.length c2_4) := (blk_cell hbk2 12).trans rfl; have hfzq_12 := blk_frozen hbk2 12; have hczq_13 : w2.cell? ⟨gp, 13, none⟩ = some (.int .i64 a3) := (blk_cell hbk2 13).trans rfl; have hfzq_13 := blk_frozen hbk2 13) | ((with_reducible refine gate_dst (N := 11) rfl ?_); refine box_event ?hg (N := 11) ?hd (cs := #[.nilFunc, .nilFunc, .nilFunc, .nilFunc]) (t := 72) ?hr ?_; (case hd => rfl); (case hg => rfl); (case hr => first | (go_simp; done) | (go_simp; rfl)); intro gm hgm w3 hbox3 hb3; have Bt3 := blk_below Bt2 hb3; have B3 := below_step B2 hb3; have Gm := (by rw [hgm]; exact below_size B2 : w.heap.size ≤ gm); have Nm := (by rw [hgm]; exact Nat.ne_of_lt (blk_lt Bt2) : gb387 ≠ gm); clear hgm) | ((with_reducible refine gate_store (t := 72) (p := 11) rfl ?_); refine fillL_ (g := gm) #[.nilFunc, .func (.func 43) #[.agg #[.int .i64 3, .slice A0_1 l0_1.length c0_1, .int .i64 a0_2, .int .i64 a0_3, .int .i64 a0_4, .int .i64 a0_5, .slice A0_6 l0_6.length c0_6, .int .i64 a1, .int .i64 a2_0, .int .i64 a2_1, .int .i64 a2_2, .slice A2_3 l2_3.length c2_3, .slice A2_4 l2_4.length c2_4, .int .i64 a3]] #[], .func (.func 44) #[.agg #[.int .i64 3, .slice A0_1 l0_1.length c0_1, .int .i64 a0_2, .int .i64 a0_3, .int .i64 a0_4, .int .i64 a0_5, .slice A0_6 l0_6.length c0_6, .int .i64 a1, .int .i64 a2_0, .int .i64 a2_1, .int .i64 a2_2, .slice A2_3 l2_3.length c2_3, .slice A2_4 l2_4.length c2_4, .int .i64 a3]] #[], .func (.func 45) #[.agg #[.int .i64 3, .slice A0_1 l0_1.length c0_1, .int .i64 a0_2, .int .i64 a0_3, .int .i64 a0_4, .int .i64 a0_5, .slice A0_6 l0_6.length c0_6, .int .i64 a1, .int .i64 a2_0, .int .i64 a2_1, .int .i64 a2_2, .slice A2_3 l2_3.length c2_3, .slice A2_4 l2_4.length c2_4, .int .i64 a3]] #[]] rfl rfl rfl rfl rfl (by rfl) hbox3 rfl (by kernel_rfl) (by rfl) ?_; intro w4 hbk4 hg4; have Bt4 := blk_grown Bt3 hg4 (fun e_ => Nm (by injection e_)); have B4 := B3.grown hg4 (below_size B3) (fun k_ hk_ => by injection hk_ with hk_; rw [← hk_]; exact Gm); have hct_0 := blk_cell Bt4 0; have hft_0 := blk_frozen Bt4 0; have hcm_3 := (blk_cell hbk4 3); have hfm_3 := blk_frozen hbk4 3) | ((with_reducible refine gate_dst (N := 68) rfl ?_); refine callL_ (some 68) rfl rfl 45 #[.agg #[.int .i64 3, .slice A0_1 l0_1.length c0_1, .int .i64 a0_2, .int .i64 a0_3, .int .i64 a0_4, .int .i64 a0_5, .slice A0_6 l0_6.length c0_6, .int .i64 a1, .int .i64 a2_0, .int .i64 a2_1, .int .i64 a2_2, .slice A2_3 l2_3.length c2_3, .slice A2_4 l2_4.length c2_4, .int .i64 a3]] (by go_simp) ?_; (with_reducible refine (withholding_period_cumulative.calls kj20 _ _ _ l0_1 a0_2 a0_3 a0_4 a0_5 _ _ l0_6 a1 a2_0 a2_1 a2_2 _ _ l2_3 _ _ l2_4 a3 t392 t393 _ ?side1 ?side2 ?side3 ?side4 A37.out).mono ?_); (case side1 => exact Kd.C_below HR0_1.out B4); (case side2 => exact HC0_1.out); (case side3 => exact Kd.C_below HR0_6.out B4); (case side4 => exact HC0_6.out); rintro e w5 ⟨rfl, hb5⟩; refine ⟨_, rfl, ?_⟩))
           go_ret2
           exact ⟨rfl, below_step B4 hb5⟩
          ·
           rw [if_neg c36] at H
           exact absurd H (by simp)

 ·
  replace c6 := Bool.eq_false_iff.mpr c6
  subst c6
  rw [if_neg (show ¬ (false = true) by decide)] at H
  simp only [Option.some.injEq, Prod.mk.injEq] at H
  obtain ⟨rfl, rfl⟩ := H
  go_enter Try.func19, Try.ntmps19
  go_wp2_with (first | ((with_reducible refine gate_dst (N := 4) rfl ?_); refine box_event ?hg (N := 4) ?hd (cs := #[.int .i64 a0_0, .slice A0_1 l0_1.length c0_1, .int .i64 a0_2, .int .i64 a0_3, .int .i64 a0_4, .int .i64 a0_5, .slice A0_6 l0_6.length c0_6]) (t := 33) ?hr ?_; (case hd => rfl); (case hg => rfl); (case hr => first | (go_simp; done) | (go_simp; rfl)); intro gb387 hg w51 hbox hb; have n0_ := Aside0.mk (below_step (by repeat (first | (with_reducible first | exact HB.out | apply below_alloc | apply pw_below_drewN | apply below_drew1) | exact HB.out)) hb); have n1_ := Aside0.mk (hbox); have n2_ := Aside0.mk ((by rw [hg]; exact (below_size (by repeat (first | (with_reducible first | exact HB.out | apply below_alloc | apply pw_below_drewN | apply below_drew1) | exact HB.out))) : w.heap.size ≤ gb387)); have n3_ := Aside0.mk ((by rw [hg]; exact (below_size (by repeat (first | (with_reducible first | exact HB.out | apply below_alloc | apply pw_below_drewN | apply below_drew1) | exact HB.out))) : w.heap.size ≤ gb387)); clear HB; have HB := n0_; have BK387 := n1_; have GW387 := n2_; have GE387 := n3_; clear n0_ n1_ n2_ n3_; clear hb hbox hg) | ((with_reducible refine gate_dst (N := 6) rfl ?_); refine box_event ?hg (N := 6) ?hd (cs := #[.int .i64 a2_0, .int .i64 a2_1, .int .i64 a2_2, .slice A2_3 l2_3.length c2_3, .slice A2_4 l2_4.length c2_4]) (t := 25) ?hr ?_; (case hd => rfl); (case hg => rfl); (case hr => first | (go_simp; done) | (go_simp; rfl)); intro gb388 hg w52 hbox hb; have n0_ := Aside0.mk (blk_below BK387.out hb); have n1_ := Aside0.mk (below_step (by repeat (first | (with_reducible first | exact HB.out | apply below_alloc | apply pw_below_drewN | apply below_drew1 | refine below_set ?_ GE387.out) | exact HB.out)) hb); have n2_ := Aside0.mk (hbox); have n3_ := Aside0.mk ((by rw [hg]; exact (below_size (by repeat (first | (with_reducible first | exact HB.out | apply below_alloc | apply pw_below_drewN | apply below_drew1 | refine below_set ?_ GE387.out) | exact HB.out))) : w.heap.size ≤ gb388)); have n4_ := Aside0.mk ((by rw [hg]; exact (below_size (by repeat (first | (with_reducible first | exact HB.out | apply below_alloc | apply pw_below_drewN | apply below_drew1 | refine below_set ?_ GE387.out) | exact HB.out))) : w.heap.size ≤ gb388)); have n5_ := Aside0.mk ((by rw [hg]; exact Nat.ne_of_lt (blk_lt BK387.out) : gb387 ≠ gb388)); have n6_ := Aside0.mk ((by rw [hg]; exact Nat.ne_of_gt (blk_lt BK387.out) : gb388 ≠ gb387)); clear BK387; clear HB; have BK387 := n0_; have HB := n1_; have BK388 := n2_; have GW388 := n3_; have GE388 := n4_; have NB387_388 := n5_; have NB388_387 := n6_; clear n0_ n1_ n2_ n3_ n4_ n5_ n6_; clear hb hbox hg; have hnb53 := NB387_388.out; have hnc53 := NB388_387.out; obtain ⟨hcz54_0, hcz54_1, hcz54_2, hcz54_3, hcz54_4, hcz54_5, hcz54_6, hfz54_0, hfz54_1, hfz54_2, hfz54_3, hfz54_4, hfz54_5, hfz54_6⟩ := blk7 BK387.out) | ((with_reducible refine gate_callee (f := 40) rfl ?_); refine goesL_ (some 13) rfl rfl Try.func40 (by kernel_rfl) rfl #[.agg #[.int .i64 a0_0, .slice A0_1 l0_1.length c0_1, .int .i64 a0_2, .int .i64 a0_3, .int .i64 a0_4, .int .i64 a0_5, .slice A0_6 l0_6.length c0_6]] rfl (by (try simp only [List.map_toArray, List.map_cons, List.map_nil]); first | done | rfl | (simp only [List.length_drop, List.length_take]; rfl)) ?_; (with_reducible refine (withholding_Valid.calls k a0_0 _ _ l0_1 a0_2 a0_3 a0_4 a0_5 _ _ l0_6 false _ ?side1 ?side2 ?side3 ?side4 A5.out).mono ?_); (case side1 => repeat (first | exact (Kd.C_below HR0_1.out HB.out) | (with_reducible refine Kd.C_alloc ?_ _) | (with_reducible refine Kd.C_drewN ?_ _) | (with_reducible refine Kd.C_drew ?_))); (case side2 => exact HC0_1.out); (case side3 => repeat (first | exact (Kd.C_below HR0_6.out HB.out) | (with_reducible refine Kd.C_alloc ?_ _) | (with_reducible refine Kd.C_drewN ?_ _) | (with_reducible refine Kd.C_drew ?_))); (case side4 => exact HC0_6.out); rintro e w55 ⟨rfl, hb⟩; refine ⟨_, rfl, ?_⟩; have n0_ := Aside0.mk (blk_below BK387.out hb); have n1_ := Aside0.mk (blk_below BK388.out hb); have n2_ := Aside0.mk (below_step (by repeat (first | (with_reducible first | exact HB.out | apply below_alloc | apply pw_below_drewN | apply below_drew1 | refine below_set ?_ GE387.out | refine below_set ?_ GE388.out) | exact HB.out)) hb); clear BK387; clear BK388; clear HB; have BK387 := n0_; have BK388 := n1_; have HB := n2_; clear n0_ n1_ n2_; (try clear hb); (try clear hb2); (try clear hk); (try clear hi)))
  go_ret2
  exact ⟨by first | rfl | (simp [errW_none, errW_some] <;> rfl) | (simp [*, errW_none, errW_some] <;> rfl), by repeat (first | (with_reducible first | exact HB.out | apply below_alloc | apply pw_below_drewN | apply below_drew1 | refine below_set ?_ GE387.out | refine below_set ?_ GE388.out) | exact HB.out)⟩

end Go.Proofs.Ytbacfajhgmnjpaa.P
