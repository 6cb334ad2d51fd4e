/- Proved here: that the Go function bracket_Marginal computes the plain function of that name (the machine side of the laws, reworked from a print; no condition of its own). -/
import Derived.Test.YtafoplpaoahdiaaProg
import Derived.Test.YtafoplpaoahdiaaV1
import Derived.Test.YtafoplpaoahdiaaFPRE0
import Derived.Test.YtafoplpaoahdiaaFPRE1
import Derived.Test.YtafoplpaoahdiaaFbracketcheck
namespace Go.Proofs.Ytafoplpaoahdiaa.P
open Go.RowKit Go.Proofs.YtafoplpaoahdiaaW.PrintWords Go.Proofs.YtafoplpaoahdiaaW.PrintLast Go.Proofs.YtafoplpaoahdiaaW.PrintMore
attribute [local go_sem] max2_int min2_int max_two min_two max_three min_three max_four min_four   -- for this text's walks alone
set_option linter.unusedVariables false
set_option linter.unusedSimpArgs false

def bracket_Marginal.l0 : Nat → Int → Int → List (S30) → Int → Int → Option (Int × Int)
 | 0, _, _, _, _, _ => none
 | k + 1, x1, x7, x16, x17, x18 => if x18 < x17 then (if 0 ≤ x18 then (if x18 < (x16.length : Int) then (if ((rd_T30 x16 x18).f0) ≤ x1 then (bracket_Marginal.l0 k x1 ((rd_T30 x16 x18).f1) x16 x17 (wrap64 (x18 + 1))) else (bracket_Marginal.l0 k x1 x7 x16 x17 (wrap64 (x18 + 1)))) else (none)) else (none)) else (some (x7, 0))
def bracket_Marginal.f (k : Nat) (l0 : List (S30)) (a1 : Int) : Option (Int × Int) := (bracket_check.f k l0 a1).bind fun t328 => (if t328 = 0 then (bracket_Marginal.l0 k a1 0 l0 (l0.length : Int) 0) else (some (0, t328)))
theorem bracket_Marginal.mono_l : ∀ k, (∀ y0 y1 y2 y3 y4, LeO (bracket_Marginal.l0 k y0 y1 y2 y3 y4) (bracket_Marginal.l0 (k + 1) y0 y1 y2 y3 y4))
 | 0 => fun _ _ _ _ _ r h => by simp [bracket_Marginal.l0] at h
 | k + 1 => by
  have ih0 := bracket_Marginal.mono_l k
  ·
   intro y0 y1 y2 y3 y4
   unfold bracket_Marginal.l0
   repeat' first
   | (with_reducible exact ih0 _ _ _ _ _)
   | (with_reducible exact bracket_check.mono _ _ _)
   | (with_reducible exact LeO.refl _)
   | (with_reducible exact LeO.none _)
   | (with_reducible refine LeO.ite ?_ ?_)
   | (with_reducible refine LeO.bind ?_ (fun _ => ?_))
   | exact ih0 _ _ _ _ _
   | exact bracket_check.mono _ _ _
   | exact LeO.none _
   | refine LeO.ite ?_ ?_
   | refine LeO.bind ?_ (fun _ => ?_)
theorem bracket_Marginal.mono : ∀ a0 a1 k, LeO (bracket_Marginal.f k a0 a1) (bracket_Marginal.f (k + 1) a0 a1) := by
 intro a0 a1 k
 have ih0 := bracket_Marginal.mono_l k
 unfold bracket_Marginal.f
 repeat' first
   | (with_reducible exact ih0 _ _ _ _ _)
   | (with_reducible exact bracket_check.mono _ _ _)
   | (with_reducible exact LeO.refl _)
   | (with_reducible exact LeO.none _)
   | (with_reducible refine LeO.ite ?_ ?_)
   | (with_reducible refine LeO.bind ?_ (fun _ => ?_))
   | exact ih0 _ _ _ _ _
   | exact bracket_check.mono _ _ _
   | exact LeO.none _
   | refine LeO.ite ?_ ?_
   | refine LeO.bind ?_ (fun _ => ?_)
set_option maxHeartbeats 8000000 in
set_option maxRecDepth 100000 in
theorem bracket_Marginal.calls (k : Nat) (A0 : Option Addr) (c0 : Nat) (l0 : List (S30)) (a1 : Int) (r1 : Int) (r2 : Int) (w : World) (hr0 : Kd.C k30 w A0 l0.length l0) (hc0 : l0.length ≤ c0) (h : bracket_Marginal.f k l0 a1 = some (r1, r2)) :
  Calls Try.prog 25 #[.slice A0 l0.length c0, .int .i64 a1] w fun e w' => e = .returned (.tuple #[.int .i64 r1, .int .i64 r2]) ∧ Below w.heap.size w w' := by
 have hu30 := Try.underlying30
 have HR0 := Aside0.mk hr0
 have HC0 := Aside0.mk hc0
 clear hr0 hc0
 have HB := Aside0.mk (Below.refl w.heap.size w)
 have H : ((bracket_check.f k l0 a1).bind fun t328 => (if t328 = 0 then (bracket_Marginal.l0 k a1 0 l0 (l0.length : Int) 0) else (some (0, t328)))) = some (r1, r2) := h
 clear h
 replace H := Option.bind_eq_some_iff.mp H
 obtain ⟨t328, A30, H⟩ := H
 replace H : (if t328 = 0 then (bracket_Marginal.l0 k a1 0 l0 (l0.length : Int) 0) else (some (0, t328))) = some (r1, r2) := H
 have A3 := Aside0.mk A30
 clear A30
 by_cases c4 : t328 = 0
 ·
  rw [if_pos c4] at H
  have c4b0 : (t328 == 0) = true := beq_iff_eq.mpr c4
  have c4b1 : (t328 != 0) = false := bne_eq_false_iff_eq.mpr c4
  clear c4
  have H' := Aside0.mk H
  clear H
  go_enter Try.func25, Try.ntmps25
  go_wp2_with (first | ((with_reducible refine gate_callee (f := 40) rfl ?_); refine goesL_ (some 12) rfl rfl Try.func40 (by kernel_rfl) rfl #[.slice A0 l0.length c0, .int .i64 a1] rfl (by (try simp only [List.map_toArray, List.map_cons, List.map_nil]); first | done | rfl | (simp only [List.length_drop, List.length_take]; rfl)) ?_; (with_reducible refine (bracket_check.calls k _ _ l0 a1 t328 _ ?side1 ?side2 A3.out).mono ?_); (case side1 => repeat (first | exact HR0.out | (with_reducible refine Kd.C_alloc ?_ _) | (with_reducible refine Kd.C_drewN ?_ _) | (with_reducible refine Kd.C_drew ?_))); (case side2 => exact HC0.out); rintro e w5 ⟨rfl, hb⟩; refine ⟨_, rfl, ?_⟩; have n0_ := Aside0.mk (below_step (by repeat (first | (with_reducible first | exact HB.out | apply below_alloc | apply pw_below_drewN | apply below_drew1) | exact HB.out)) hb); clear HB; have HB := n0_; clear n0_; (try clear hb); (try clear hb2); (try clear hk); (try clear hi)))
  go_loopg [7, 18] k (fun kq v7 v18 w' => ∃ (x7_1 : Int) (x18_1 : Int), v7 = .int .i64 x7_1 ∧ v18 = .int .i64 x18_1 ∧ Aside0 (bracket_Marginal.l0 kq a1 x7_1 l0 (l0.length : Int) x18_1 = some (r1, r2)) ∧ Aside0 (kq ≤ k) ∧ Aside0 (Below w.heap.size w w'))
  case atStart => exact ⟨(0), (0), (by first | rfl | (simp; done) | (simp [*]; done)), (by first | rfl | (simp; done) | (simp [*]; done)), H', ⟨Nat.le_refl _⟩, ⟨by repeat (first | (with_reducible first | exact HB.out | apply below_alloc | apply pw_below_drewN | apply below_drew1) | exact HB.out)⟩⟩
  case round =>
   clear H'
   try clear c2
   try clear p2
   try clear c4
   try clear c4b0
   try clear c4b1
   obtain ⟨x7_1, x18_1, rfl, rfl, HA, HK1, HB⟩ := hrel
   cases gk with
   | zero => exact absurd HA.out (by simp [bracket_Marginal.l0])
   | succ k1 =>
    have H := HA.out
    clear HA
    simp only [bracket_Marginal.l0] at H
    by_cases c6 : x18_1 < (l0.length : Int)
    ·
     rw [if_pos c6] at H
     have c6b0 : decide (x18_1 < (l0.length : Int)) = true := decide_eq_true c6
     clear c6
     by_cases c7 : 0 ≤ x18_1
     ·
      rw [if_pos c7] at H
      have c7b0 : decide (0 ≤ x18_1) = true := decide_eq_true c7
      clear c7
      by_cases c8 : x18_1 < (l0.length : Int)
      ·
       rw [if_pos c8] at H
       have c8b0 : decide (x18_1 < (l0.length : Int)) = true := decide_eq_true c8
       clear c8
       by_cases c9 : ((rd_T30 l0 x18_1).f0) ≤ a1
       ·
        rw [if_pos c9] at H
        have c9b0 : decide (((rd_T30 l0 x18_1).f0) ≤ a1) = true := decide_eq_true c9
        clear c9
        have H' := Aside0.mk H
        clear H
        have p329 : 0 ≤ (x18_1 : Int) := of_decide_eq_true (by first | (with_reducible assumption) | assumption)
        have q329 : x18_1 < (l0.length : Int) := of_decide_eq_true (by first | (with_reducible assumption) | assumption)
        obtain ⟨ad329, e329, hx329_0, hx329_1⟩ := at_T30 HR0.out x18_1 p329 q329
        cases e329
        replace hx329_0 := (HB.out.cell (World.block_lt_of_cell? w _ hx329_0)).trans hx329_0
        replace hx329_1 := (HB.out.cell (World.block_lt_of_cell? w _ hx329_1)).trans hx329_1
        replace p329 := eq_true p329
        replace q329 := eq_true q329
        go_wp2_with (first | ((with_reducible refine gate_dst (N := 9) rfl ?_); refine box_event ?hg (N := 9) ?hd (cs := #[.int .i64 0, .int .i64 0]) (t := 30) ?hr ?_; (case hd => rfl); (case hg => rfl); (case hr => first | (go_simp; done) | (go_simp; rfl)); intro gb330 hg w10 hbox hb; have n0_ := Aside0.mk (below_step (by repeat (first | (with_reducible first | exact HB.out | apply below_alloc | apply pw_below_drewN | apply below_drew1) | exact HB.out)) hb); have n1_ := Aside0.mk (hbox); have n2_ := Aside0.mk ((by rw [hg]; exact (below_size (by repeat (first | (with_reducible first | exact HB.out | apply below_alloc | apply pw_below_drewN | apply below_drew1) | exact HB.out))) : w.heap.size ≤ gb330)); have n3_ := Aside0.mk ((by rw [hg]; exact (below_size (by repeat (first | (with_reducible first | exact HB.out | apply below_alloc | apply pw_below_drewN | apply below_drew1) | exact HB.out))) : w.heap.size ≤ gb330)); clear HB; have HB := n0_; have BK330 := n1_; have GW330 := n2_; have GE330 := n3_; clear n0_ n1_ n2_ n3_; clear hb hbox hg; have hcz11_0 : w10.cell? ⟨gb330, 0, none⟩ = some (.int .i64 0) := (blk_cell BK330.out 0).trans rfl; have hcz11_1 : w10.cell? ⟨gb330, 1, none⟩ = some (.int .i64 0) := (blk_cell BK330.out 1).trans rfl; have hfz11_0 := blk_frozen BK330.out 0; have hfz11_1 := blk_frozen BK330.out 1))
        go_roundg k1
        case measure => have := HK1.out; omega
        case rel => exact ⟨((rd_T30 l0 x18_1).f1), (wrap64 (x18_1 + 1)), (by first | rfl | (simp; done) | (simp [*]; done)), (by first | rfl | (simp; done) | (simp [*]; done)), H', ⟨by have := HK1.out; omega⟩, ⟨by repeat (first | (with_reducible first | exact HB.out | apply below_alloc | apply pw_below_drewN | apply below_drew1 | refine below_set ?_ GE330.out) | exact HB.out)⟩⟩
       ·
        rw [if_neg c9] at H
        have c9b0 : decide (((rd_T30 l0 x18_1).f0) ≤ a1) = false := decide_eq_false c9
        clear c9
        have H' := Aside0.mk H
        clear H
        have p329 : 0 ≤ (x18_1 : Int) := of_decide_eq_true (by first | (with_reducible assumption) | assumption)
        have q329 : x18_1 < (l0.length : Int) := of_decide_eq_true (by first | (with_reducible assumption) | assumption)
        obtain ⟨ad329, e329, hx329_0, hx329_1⟩ := at_T30 HR0.out x18_1 p329 q329
        cases e329
        replace hx329_0 := (HB.out.cell (World.block_lt_of_cell? w _ hx329_0)).trans hx329_0
        replace hx329_1 := (HB.out.cell (World.block_lt_of_cell? w _ hx329_1)).trans hx329_1
        replace p329 := eq_true p329
        replace q329 := eq_true q329
        go_wp2_with (first | ((with_reducible refine gate_dst (N := 9) rfl ?_); refine box_event ?hg (N := 9) ?hd (cs := #[.int .i64 0, .int .i64 0]) (t := 30) ?hr ?_; (case hd => rfl); (case hg => rfl); (case hr => first | (go_simp; done) | (go_simp; rfl)); intro gb330 hg w12 hbox hb; have n0_ := Aside0.mk (below_step (by repeat (first | (with_reducible first | exact HB.out | apply below_alloc | apply pw_below_drewN | apply below_drew1) | exact HB.out)) hb); have n1_ := Aside0.mk (hbox); have n2_ := Aside0.mk ((by rw [hg]; exact (below_size (by repeat (first | (with_reducible first | exact HB.out | apply below_alloc | apply pw_below_drewN | apply below_drew1) | exact HB.out))) : w.heap.size ≤ gb330)); have n3_ := Aside0.mk ((by rw [hg]; exact (below_size (by repeat (first | (with_reducible first | exact HB.out | apply below_alloc | apply pw_below_drewN | apply below_drew1) | exact HB.out))) : w.heap.size ≤ gb330)); clear HB; have HB := n0_; have BK330 := n1_; have GW330 := n2_; have GE330 := n3_; clear n0_ n1_ n2_ n3_; clear hb hbox hg; have hcz13_0 : w12.cell? ⟨gb330, 0, none⟩ = some (.int .i64 0) := (blk_cell BK330.out 0).trans rfl; have hcz13_1 : w12.cell? ⟨gb330, 1, none⟩ = some (.int .i64 0) := (blk_cell BK330.out 1).trans rfl; have hfz13_0 := blk_frozen BK330.out 0; have hfz13_1 := blk_frozen BK330.out 1))
        go_roundg k1
        case measure => have := HK1.out; omega
        case rel => exact ⟨(x7_1), (wrap64 (x18_1 + 1)), (by first | rfl | (simp; done) | (simp [*]; done)), (by first | rfl | (simp; done) | (simp [*]; done)), H', ⟨by have := HK1.out; omega⟩, ⟨by repeat (first | (with_reducible first | exact HB.out | apply below_alloc | apply pw_below_drewN | apply below_drew1 | refine below_set ?_ GE330.out) | exact HB.out)⟩⟩
      ·
       rw [if_neg c8] at H
       exact absurd H (by simp)
     ·
      rw [if_neg c7] at H
      exact absurd H (by simp)
    ·
     rw [if_neg c6] at H
     have c6b0 : decide (x18_1 < (l0.length : Int)) = false := decide_eq_false c6
     clear c6
     simp only [Option.some.injEq, Prod.mk.injEq] at H
     obtain ⟨rfl, rfl⟩ := H
     go_wp2
     go_ret2
     exact ⟨by first | rfl | (simp [errW_none, errW_some] <;> rfl) | (simp [*, errW_none, errW_some] <;> rfl), by repeat (first | (with_reducible first | exact HB.out | apply below_alloc | apply pw_below_drewN | apply below_drew1) | exact HB.out)⟩
 ·
  rw [if_neg c4] at H
  have c4b0 : (t328 == 0) = false := beq_eq_false_iff_ne.mpr c4
  have c4b1 : (t328 != 0) = true := bne_iff_ne.mpr c4
  simp only [Option.some.injEq, Prod.mk.injEq] at H
  obtain ⟨rfl, rfl⟩ := H
  go_enter Try.func25, Try.ntmps25
  go_wp2_with (first | ((with_reducible refine gate_callee (f := 40) rfl ?_); refine goesL_ (some 12) rfl rfl Try.func40 (by kernel_rfl) rfl #[.slice A0 l0.length c0, .int .i64 a1] rfl (by (try simp only [List.map_toArray, List.map_cons, List.map_nil]); first | done | rfl | (simp only [List.length_drop, List.length_take]; rfl)) ?_; (with_reducible refine (bracket_check.calls k _ _ l0 a1 t328 _ ?side1 ?side2 A3.out).mono ?_); (case side1 => repeat (first | exact HR0.out | (with_reducible refine Kd.C_alloc ?_ _) | (with_reducible refine Kd.C_drewN ?_ _) | (with_reducible refine Kd.C_drew ?_))); (case side2 => exact HC0.out); rintro e w14 ⟨rfl, hb⟩; refine ⟨_, rfl, ?_⟩; have n0_ := Aside0.mk (below_step (by repeat (first | (with_reducible first | exact HB.out | apply below_alloc | apply pw_below_drewN | apply below_drew1) | exact HB.out)) hb); clear HB; have HB := n0_; clear n0_; (try clear hb); (try clear hb2); (try clear hk); (try clear hi)))
  go_ret2
  exact ⟨by first | rfl | (simp [errW_none, errW_some] <;> rfl) | (simp [*, errW_none, errW_some] <;> rfl), by repeat (first | (with_reducible first | exact HB.out | apply below_alloc | apply pw_below_drewN | apply below_drew1) | exact HB.out)⟩

end Go.Proofs.Ytafoplpaoahdiaa.P
