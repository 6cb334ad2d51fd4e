/- Proved here: that the Go function bracket_Least computes the plain function of that name (the machine side of the laws, reworked from a print; no condition of its own). -/
import Derived.Test.YtafoplpaoahdiaaProg
import Derived.Test.YtafoplpaoahdiaaV1
import Derived.Test.YtafoplpaoahdiaaFPRE0
import Derived.Test.YtafoplpaoahdiaaFPRE1
import Derived.Test.YtafoplpaoahdiaaFbracketValid
namespace Go.Proofs.Ytafoplpaoahdiaa.P
open Go.RowKit Go.Proofs.YtafoplpaoahdiaaW.PrintWords Go.Proofs.YtafoplpaoahdiaaW.PrintLast Go.Proofs.YtafoplpaoahdiaaW.PrintMore
attribute [local go_sem] max2_int min2_int max_two min_two max_three min_three max_four min_four   -- for this text's walks alone
set_option linter.unusedVariables false
set_option linter.unusedSimpArgs false

def bracket_Least.l0 : Nat → List (S30) → Int → Int → List (S30) → Int → Int → Option (Int × Bool)
 | 0, _, _, _, _, _, _ => none
 | k + 1, x0, x1, x6, x16, x17, x18 => if x18 < x17 then (if 0 ≤ x18 then (if x18 < (x16.length : Int) then (if (wrap64 (x18 + 1)) < (x0.length : Int) then (if 0 ≤ (wrap64 (x18 + 1)) then (if (wrap64 (x6 + (wrap64 (((rd_T30 x16 x18).f1) * (wrap64 (((rd_T30 x0 (wrap64 (x18 + 1))).f0) - ((rd_T30 x16 x18).f0))))))) ≥ x1 then (if ((rd_T30 x16 x18).f1) = 0 then (none) else (some (wrap64 ((wrap64 (((rd_T30 x16 x18).f0) + (wrap64 (Int.tdiv (wrap64 ((wrap64 (x1 - x6)) - 1)) ((rd_T30 x16 x18).f1))))) + 1), true))) else (bracket_Least.l0 k x0 x1 (wrap64 (x6 + (wrap64 (((rd_T30 x16 x18).f1) * (wrap64 (((rd_T30 x0 (wrap64 (x18 + 1))).f0) - ((rd_T30 x16 x18).f0))))))) x16 x17 (wrap64 (x18 + 1)))) else (none)) else (if (wrap64 (x6 + (wrap64 (((rd_T30 x16 x18).f1) * (wrap64 (1000000000000 - ((rd_T30 x16 x18).f0))))))) ≥ x1 then (if ((rd_T30 x16 x18).f1) = 0 then (none) else (some (wrap64 ((wrap64 (((rd_T30 x16 x18).f0) + (wrap64 (Int.tdiv (wrap64 ((wrap64 (x1 - x6)) - 1)) ((rd_T30 x16 x18).f1))))) + 1), true))) else (bracket_Least.l0 k x0 x1 (wrap64 (x6 + (wrap64 (((rd_T30 x16 x18).f1) * (wrap64 (1000000000000 - ((rd_T30 x16 x18).f0))))))) x16 x17 (wrap64 (x18 + 1))))) else (none)) else (none)) else (some (0, false))
def bracket_Least.f (k : Nat) (l0 : List (S30)) (a1 : Int) : Option (Int × Bool) := (bracket_Valid.f k l0).bind fun t399 => (if t399 = true then (if a1 ≤ 0 then (some (0, true)) else (bracket_Least.l0 k l0 a1 0 l0 (l0.length : Int) 0)) else (some (0, false)))
theorem bracket_Least.mono_l : ∀ k, (∀ y0 y1 y2 y3 y4 y5, LeO (bracket_Least.l0 k y0 y1 y2 y3 y4 y5) (bracket_Least.l0 (k + 1) y0 y1 y2 y3 y4 y5))
 | 0 => fun _ _ _ _ _ _ r h => by simp [bracket_Least.l0] at h
 | k + 1 => by
  have ih0 := bracket_Least.mono_l k
  ·
   intro y0 y1 y2 y3 y4 y5
   unfold bracket_Least.l0
   repeat' first
   | (with_reducible exact ih0 _ _ _ _ _ _)
   | (with_reducible exact bracket_Valid.mono _ _)
   | (with_reducible exact LeO.refl _)
   | (with_reducible exact LeO.none _)
   | (with_reducible refine LeO.ite ?_ ?_)
   | (with_reducible refine LeO.bind ?_ (fun _ => ?_))
   | exact ih0 _ _ _ _ _ _
   | exact bracket_Valid.mono _ _
   | exact LeO.none _
   | refine LeO.ite ?_ ?_
   | refine LeO.bind ?_ (fun _ => ?_)
theorem bracket_Least.mono : ∀ a0 a1 k, LeO (bracket_Least.f k a0 a1) (bracket_Least.f (k + 1) a0 a1) := by
 intro a0 a1 k
 have ih0 := bracket_Least.mono_l k
 unfold bracket_Least.f
 repeat' first
   | (with_reducible exact ih0 _ _ _ _ _ _)
   | (with_reducible exact bracket_Valid.mono _ _)
   | (with_reducible exact LeO.refl _)
   | (with_reducible exact LeO.none _)
   | (with_reducible refine LeO.ite ?_ ?_)
   | (with_reducible refine LeO.bind ?_ (fun _ => ?_))
   | exact ih0 _ _ _ _ _ _
   | exact bracket_Valid.mono _ _
   | exact LeO.none _
   | refine LeO.ite ?_ ?_
   | refine LeO.bind ?_ (fun _ => ?_)
set_option maxHeartbeats 8000000 in
set_option maxRecDepth 100000 in
theorem bracket_Least.calls (k : Nat) (A0 : Option Addr) (c0 : Nat) (l0 : List (S30)) (a1 : Int) (r1 : Int) (r2 : Bool) (w : World) (hr0 : Kd.C k30 w A0 l0.length l0) (hc0 : l0.length ≤ c0) (h : bracket_Least.f k l0 a1 = some (r1, r2)) :
  Calls Try.prog 28 #[.slice A0 l0.length c0, .int .i64 a1] w fun e w' => e = .returned (.tuple #[.int .i64 r1, .bool r2]) ∧ Below w.heap.size w w' := by
 have hu30 := Try.underlying30
 have HR0 := Aside0.mk hr0
 have HC0 := Aside0.mk hc0
 clear hr0 hc0
 have HB := Aside0.mk (Below.refl w.heap.size w)
 have H : ((bracket_Valid.f k l0).bind fun t399 => (if t399 = true then (if a1 ≤ 0 then (some (0, true)) else (bracket_Least.l0 k l0 a1 0 l0 (l0.length : Int) 0)) else (some (0, false)))) = some (r1, r2) := h
 clear h
 replace H := Option.bind_eq_some_iff.mp H
 obtain ⟨t399, A30, H⟩ := H
 replace H : (if t399 = true then (if a1 ≤ 0 then (some (0, true)) else (bracket_Least.l0 k l0 a1 0 l0 (l0.length : Int) 0)) else (some (0, false))) = some (r1, r2) := H
 have A3 := Aside0.mk A30
 clear A30
 by_cases c4 : t399 = true
 ·
  subst c4
  have H1 : (if a1 ≤ 0 then (some (0, true)) else (bracket_Least.l0 k l0 a1 0 l0 (l0.length : Int) 0)) = some (r1, r2) := by rw [if_pos rfl] at H; exact H
  clear H
  have H := H1
  clear H1
  by_cases c5 : a1 ≤ 0
  ·
   rw [if_pos c5] at H
   have c5b0 : decide (a1 ≤ 0) = true := decide_eq_true c5
   clear c5
   simp only [Option.some.injEq, Prod.mk.injEq] at H
   obtain ⟨rfl, rfl⟩ := H
   go_enter Try.func28, Try.ntmps28
   go_wp2_with (first | (go_at_call 17; (with_reducible refine (bracket_Valid.calls k _ _ l0 true _ ?side1 ?side2 A3.out).mono ?_); (case side1 => repeat (first | exact HR0.out | (with_reducible refine Kd.C_alloc ?_ _) | (with_reducible refine Kd.C_drewN ?_ _) | (with_reducible refine Kd.C_drew ?_))); (case side2 => exact HC0.out); rintro e w6 ⟨rfl, hb⟩; have n0_ := Aside0.mk (below_step (by repeat (first | (with_reducible first | exact HB.out | apply below_alloc | apply pw_below_drewN | apply below_drew1) | exact HB.out)) hb); clear HB; have HB := n0_; clear n0_; (try clear hb); (try clear hb2); (try clear hk); (try clear hi)))
   repeat (go_quiet (first | (go_at_call 17; (with_reducible refine (bracket_Valid.calls k _ _ l0 true _ ?side1 ?side2 A3.out).mono ?_); (case side1 => repeat (first | exact HR0.out | (with_reducible refine Kd.C_alloc ?_ _) | (with_reducible refine Kd.C_drewN ?_ _) | (with_reducible refine Kd.C_drew ?_))); (case side2 => exact HC0.out); rintro e w6 ⟨rfl, hb⟩; have n0_ := Aside0.mk (below_step (by repeat (first | (with_reducible first | exact HB.out | apply below_alloc | apply pw_below_drewN | apply below_drew1) | exact HB.out)) hb); clear HB; have HB := n0_; clear n0_; (try clear hb); (try clear hb2); (try clear hk); (try clear hi))); try go_wp2_with (first | (go_at_call 17; (with_reducible refine (bracket_Valid.calls k _ _ l0 true _ ?side1 ?side2 A3.out).mono ?_); (case side1 => repeat (first | exact HR0.out | (with_reducible refine Kd.C_alloc ?_ _) | (with_reducible refine Kd.C_drewN ?_ _) | (with_reducible refine Kd.C_drew ?_))); (case side2 => exact HC0.out); rintro e w6 ⟨rfl, hb⟩; have n0_ := Aside0.mk (below_step (by repeat (first | (with_reducible first | exact HB.out | apply below_alloc | apply pw_below_drewN | apply below_drew1) | exact HB.out)) hb); clear HB; have HB := n0_; clear n0_; (try clear hb); (try clear hb2); (try clear hk); (try clear hi))))
   go_ret2
   exact ⟨by first | rfl | (simp [errW_none, errW_some] <;> rfl) | (simp [*, errW_none, errW_some] <;> rfl), by repeat (first | (with_reducible first | exact HB.out | apply below_alloc | apply pw_below_drewN | apply below_drew1) | exact HB.out)⟩
  ·
   rw [if_neg c5] at H
   have c5b0 : decide (a1 ≤ 0) = false := decide_eq_false c5
   clear c5
   have H' := Aside0.mk H
   clear H
   go_enter Try.func28, Try.ntmps28
   go_wp2_with (first | (go_at_call 17; (with_reducible refine (bracket_Valid.calls k _ _ l0 true _ ?side1 ?side2 A3.out).mono ?_); (case side1 => repeat (first | exact HR0.out | (with_reducible refine Kd.C_alloc ?_ _) | (with_reducible refine Kd.C_drewN ?_ _) | (with_reducible refine Kd.C_drew ?_))); (case side2 => exact HC0.out); rintro e w7 ⟨rfl, hb⟩; have n0_ := Aside0.mk (below_step (by repeat (first | (with_reducible first | exact HB.out | apply below_alloc | apply pw_below_drewN | apply below_drew1) | exact HB.out)) hb); clear HB; have HB := n0_; clear n0_; (try clear hb); (try clear hb2); (try clear hk); (try clear hi)))
   repeat (go_quiet (first | (go_at_call 17; (with_reducible refine (bracket_Valid.calls k _ _ l0 true _ ?side1 ?side2 A3.out).mono ?_); (case side1 => repeat (first | exact HR0.out | (with_reducible refine Kd.C_alloc ?_ _) | (with_reducible refine Kd.C_drewN ?_ _) | (with_reducible refine Kd.C_drew ?_))); (case side2 => exact HC0.out); rintro e w7 ⟨rfl, hb⟩; have n0_ := Aside0.mk (below_step (by repeat (first | (with_reducible first | exact HB.out | apply below_alloc | apply pw_below_drewN | apply below_drew1) | exact HB.out)) hb); clear HB; have HB := n0_; clear n0_; (try clear hb); (try clear hb2); (try clear hk); (try clear hi))); try go_wp2_with (first | (go_at_call 17; (with_reducible refine (bracket_Valid.calls k _ _ l0 true _ ?side1 ?side2 A3.out).mono ?_); (case side1 => repeat (first | exact HR0.out | (with_reducible refine Kd.C_alloc ?_ _) | (with_reducible refine Kd.C_drewN ?_ _) | (with_reducible refine Kd.C_drew ?_))); (case side2 => exact HC0.out); rintro e w7 ⟨rfl, hb⟩; have n0_ := Aside0.mk (below_step (by repeat (first | (with_reducible first | exact HB.out | apply below_alloc | apply pw_below_drewN | apply below_drew1) | exact HB.out)) hb); clear HB; have HB := n0_; clear n0_; (try clear hb); (try clear hb2); (try clear hk); (try clear hi))))
   go_loopg [6, 18] k (fun kq v6 v18 w' => ∃ (x6_1 : Int) (x18_1 : Int), v6 = .int .i64 x6_1 ∧ v18 = .int .i64 x18_1 ∧ Aside0 (bracket_Least.l0 kq l0 a1 x6_1 l0 (l0.length : Int) x18_1 = some (r1, r2)) ∧ Aside0 (kq ≤ k) ∧ Aside0 (Below w.heap.size w w'))
   case atStart => exact ⟨(0), (0), (by first | rfl | (simp; done) | (simp [*]; done)), (by first | rfl | (simp; done) | (simp [*]; done)), H', ⟨Nat.le_refl _⟩, ⟨by repeat (first | (with_reducible first | exact HB.out | apply below_alloc | apply pw_below_drewN | apply below_drew1) | exact HB.out)⟩⟩
   case round =>
    clear H'
    try clear c2
    try clear p2
    try clear c4
    try clear c5
    try clear c5b0
    obtain ⟨x6_1, x18_1, rfl, rfl, HA, HK1, HB⟩ := hrel
    cases gk with
    | zero => exact absurd HA.out (by simp [bracket_Least.l0])
    | succ k1 =>
     have H := HA.out
     clear HA
     simp only [bracket_Least.l0] at H
     by_cases c8 : x18_1 < (l0.length : Int)
     ·
      rw [if_pos c8] at H
      have c8b0 : decide (x18_1 < (l0.length : Int)) = true := decide_eq_true c8
      clear c8
      by_cases c9 : 0 ≤ x18_1
      ·
       rw [if_pos c9] at H
       have c9b0 : decide (0 ≤ x18_1) = true := decide_eq_true c9
       clear c9
       by_cases c10 : x18_1 < (l0.length : Int)
       ·
        rw [if_pos c10] at H
        have c10b0 : decide (x18_1 < (l0.length : Int)) = true := decide_eq_true c10
        clear c10
        by_cases c11 : (wrap64 (x18_1 + 1)) < (l0.length : Int)
        ·
         rw [if_pos c11] at H
         have c11b0 : decide ((wrap64 (x18_1 + 1)) < (l0.length : Int)) = true := decide_eq_true c11
         clear c11
         obtain ⟨ji12, hji12⟩ : ∃ j_ : Int, (wrap64 (x18_1 + 1)) = j_ := ⟨_, rfl⟩
         replace H : (if 0 ≤ (ji12) then (if (wrap64 (x6_1 + (wrap64 (((rd_T30 l0 x18_1).f1) * (wrap64 (((rd_T30 l0 (ji12)).f0) - ((rd_T30 l0 x18_1).f0))))))) ≥ a1 then (if ((rd_T30 l0 x18_1).f1) = 0 then (none) else (some (wrap64 ((wrap64 (((rd_T30 l0 x18_1).f0) + (wrap64 (Int.tdiv (wrap64 ((wrap64 (a1 - x6_1)) - 1)) ((rd_T30 l0 x18_1).f1))))) + 1), true))) else (bracket_Least.l0 k1 l0 a1 (wrap64 (x6_1 + (wrap64 (((rd_T30 l0 x18_1).f1) * (wrap64 (((rd_T30 l0 (ji12)).f0) - ((rd_T30 l0 x18_1).f0))))))) l0 (l0.length : Int) ji12)) else (none)) = some (r1, r2) := by first | (rw [hji12] at H; exact H) | (simp only [hji12] at H ⊢; exact H)
         (try rw [hji12] at c11b0)
         have hji12w : (IntKind.i64.wrap (x18_1 + 1)) = ji12 := (i64_w _).trans hji12
         by_cases c13 : 0 ≤ (ji12)
         ·
          rw [if_pos c13] at H
          have c13b0 : decide (0 ≤ (ji12)) = true := decide_eq_true c13
          clear c13
          by_cases c14 : (wrap64 (x6_1 + (wrap64 (((rd_T30 l0 x18_1).f1) * (wrap64 (((rd_T30 l0 (ji12)).f0) - ((rd_T30 l0 x18_1).f0))))))) ≥ a1
          ·
           rw [if_pos c14] at H
           have c14b0 : decide (a1 ≤ (wrap64 (x6_1 + (wrap64 (((rd_T30 l0 x18_1).f1) * (wrap64 (((rd_T30 l0 (ji12)).f0) - ((rd_T30 l0 x18_1).f0)))))))) = true := decide_eq_true c14
           clear c14
           by_cases c15 : ((rd_T30 l0 x18_1).f1) = 0
           ·
            rw [if_pos c15] at H
            exact absurd H (by simp)
           ·
            rw [if_neg c15] at H
            have c15b0 : (((rd_T30 l0 x18_1).f1) == 0) = false := beq_eq_false_iff_ne.mpr c15
            have c15b1 : (((rd_T30 l0 x18_1).f1) != 0) = true := bne_iff_ne.mpr c15
            simp only [Option.some.injEq, Prod.mk.injEq] at H
            obtain ⟨rfl, rfl⟩ := H
            have p400 : 0 ≤ (x18_1 : Int) := of_decide_eq_true (by first | (with_reducible assumption) | assumption)
            have q400 : x18_1 < (l0.length : Int) := of_decide_eq_true (by first | (with_reducible assumption) | assumption)
            obtain ⟨ad400, e400, hx400_0, hx400_1⟩ := at_T30 HR0.out x18_1 p400 q400
            cases e400
            replace hx400_0 := (HB.out.cell (World.block_lt_of_cell? w _ hx400_0)).trans hx400_0
            replace hx400_1 := (HB.out.cell (World.block_lt_of_cell? w _ hx400_1)).trans hx400_1
            replace p400 := eq_true p400
            replace q400 := eq_true q400
            go_wp2_with (first | ((with_reducible refine gate_dst (N := 8) rfl ?_); refine box_event ?hg (N := 8) ?hd (cs := #[.int .i64 0, .int .i64 0]) (t := 30) ?hr ?_; (case hd => rfl); (case hg => rfl); (case hr => first | (go_simp; done) | (go_simp; rfl)); intro gb401 hg w16 hbox hb; have n0_ := Aside0.mk (below_step (by repeat (first | (with_reducible first | exact HB.out | apply below_alloc | apply pw_below_drewN | apply below_drew1) | exact HB.out)) hb); have n1_ := Aside0.mk (hbox); have n2_ := Aside0.mk ((by rw [hg]; exact (below_size (by repeat (first | (with_reducible first | exact HB.out | apply below_alloc | apply pw_below_drewN | apply below_drew1) | exact HB.out))) : w.heap.size ≤ gb401)); have n3_ := Aside0.mk ((by rw [hg]; exact (below_size (by repeat (first | (with_reducible first | exact HB.out | apply below_alloc | apply pw_below_drewN | apply below_drew1) | exact HB.out))) : w.heap.size ≤ gb401)); clear HB; have HB := n0_; have BK401 := n1_; have GW401 := n2_; have GE401 := n3_; clear n0_ n1_ n2_ n3_; clear hb hbox hg; have hcz17_0 : w16.cell? ⟨gb401, 0, none⟩ = some (.int .i64 0) := (blk_cell BK401.out 0).trans rfl; have hcz17_1 : w16.cell? ⟨gb401, 1, none⟩ = some (.int .i64 0) := (blk_cell BK401.out 1).trans rfl; have hfz17_0 := blk_frozen BK401.out 0; have hfz17_1 := blk_frozen BK401.out 1; have p402 : 0 ≤ ((ji12) : Int) := of_decide_eq_true (by first | (with_reducible assumption) | assumption); have q402 : (ji12) < (l0.length : Int) := of_decide_eq_true (by first | (with_reducible assumption) | assumption); obtain ⟨ad402, e402, hx402_0, hx402_1⟩ := at_T30 HR0.out (ji12) p402 q402; obtain rfl : ad400 = ad402 := (by injection e402); have hn402_0 : ad400.block ≠ gb401 := Nat.ne_of_lt (Nat.lt_of_lt_of_le (by have := World.block_lt_of_cell? _ _ hx402_0; first | rwa [add_block] at this | exact this) GW401.out); have hn402_1 : ad400.block ≠ gb401 := Nat.ne_of_lt (Nat.lt_of_lt_of_le (by have := World.block_lt_of_cell? _ _ hx402_0; first | rwa [add_block] at this | exact this) GW401.out); replace hx402_0 := (HB.out.cell (World.block_lt_of_cell? w _ hx402_0)).trans hx402_0; replace hx402_1 := (HB.out.cell (World.block_lt_of_cell? w _ hx402_1)).trans hx402_1; replace hx402_0 := (cell_far (p := ⟨gb401, 0, none⟩) (by first | (rw [add_block]; exact hn402_0) | (show (Addr.add _ _).block ≠ _; rw [add_block]; exact hn402_0) | exact hn402_0) (.int .i64 ((rd_T30 l0 x18_1).f0))).trans hx402_0; replace hx402_1 := (cell_far (p := ⟨gb401, 0, none⟩) (by first | (rw [add_block]; exact hn402_0) | (show (Addr.add _ _).block ≠ _; rw [add_block]; exact hn402_0) | exact hn402_0) (.int .i64 ((rd_T30 l0 x18_1).f0))).trans hx402_1; replace hx402_0 := (cell_far (p := ⟨gb401, 1, none⟩) (by first | (rw [add_block]; exact hn402_1) | (show (Addr.add _ _).block ≠ _; rw [add_block]; exact hn402_1) | exact hn402_1) (.int .i64 ((rd_T30 l0 x18_1).f1))).trans hx402_0; replace hx402_1 := (cell_far (p := ⟨gb401, 1, none⟩) (by first | (rw [add_block]; exact hn402_1) | (show (Addr.add _ _).block ≠ _; rw [add_block]; exact hn402_1) | exact hn402_1) (.int .i64 ((rd_T30 l0 x18_1).f1))).trans hx402_1; (try have hy402_0 := fun (n_ : Nat) => (show ((((w16.drewN n_).setCell ⟨gb401, 0, none⟩ (.int .i64 ((rd_T30 l0 x18_1).f0))).setCell ⟨gb401, 1, none⟩ (.int .i64 ((rd_T30 l0 x18_1).f1)))).cell? _ = some _ from hx402_0)); (try have hy402_1 := fun (n_ : Nat) => (show ((((w16.drewN n_).setCell ⟨gb401, 0, none⟩ (.int .i64 ((rd_T30 l0 x18_1).f0))).setCell ⟨gb401, 1, none⟩ (.int .i64 ((rd_T30 l0 x18_1).f1)))).cell? _ = some _ from hx402_1)); clear hn402_0; clear hn402_1; replace p402 := eq_true p402; replace q402 := eq_true q402))
            repeat (go_quiet (first | ((with_reducible refine gate_dst (N := 8) rfl ?_); refine box_event ?hg (N := 8) ?hd (cs := #[.int .i64 0, .int .i64 0]) (t := 30) ?hr ?_; (case hd => rfl); (case hg => rfl); (case hr => first | (go_simp; done) | (go_simp; rfl)); intro gb401 hg w16 hbox hb; have n0_ := Aside0.mk (below_step (by repeat (first | (with_reducible first | exact HB.out | apply below_alloc | apply pw_below_drewN | apply below_drew1) | exact HB.out)) hb); have n1_ := Aside0.mk (hbox); have n2_ := Aside0.mk ((by rw [hg]; exact (below_size (by repeat (first | (with_reducible first | exact HB.out | apply below_alloc | apply pw_below_drewN | apply below_drew1) | exact HB.out))) : w.heap.size ≤ gb401)); have n3_ := Aside0.mk ((by rw [hg]; exact (below_size (by repeat (first | (with_reducible first | exact HB.out | apply below_alloc | apply pw_below_drewN | apply below_drew1) | exact HB.out))) : w.heap.size ≤ gb401)); clear HB; have HB := n0_; have BK401 := n1_; have GW401 := n2_; have GE401 := n3_; clear n0_ n1_ n2_ n3_; clear hb hbox hg; have hcz17_0 : w16.cell? ⟨gb401, 0, none⟩ = some (.int .i64 0) := (blk_cell BK401.out 0).trans rfl; have hcz17_1 : w16.cell? ⟨gb401, 1, none⟩ = some (.int .i64 0) := (blk_cell BK401.out 1).trans rfl; have hfz17_0 := blk_frozen BK401.out 0; have hfz17_1 := blk_frozen BK401.out 1; have p402 : 0 ≤ ((ji12) : Int) := of_decide_eq_true (by first | (with_reducible assumption) | assumption); have q402 : (ji12) < (l0.length : Int) := of_decide_eq_true (by first | (with_reducible assumption) | assumption); obtain ⟨ad402, e402, hx402_0, hx402_1⟩ := at_T30 HR0.out (ji12) p402 q402; obtain rfl : ad400 = ad402 := (by injection e402); have hn402_0 : ad400.block ≠ gb401 := Nat.ne_of_lt (Nat.lt_of_lt_of_le (by have := World.block_lt_of_cell? _ _ hx402_0; first | rwa [add_block] at this | exact this) GW401.out); have hn402_1 : ad400.block ≠ gb401 := Nat.ne_of_lt (Nat.lt_of_lt_of_le (by have := World.block_lt_of_cell? _ _ hx402_0; first | rwa [add_block] at this | exact this) GW401.out); replace hx402_0 := (HB.out.cell (World.block_lt_of_cell? w _ hx402_0)).trans hx402_0; replace hx402_1 := (HB.out.cell (World.block_lt_of_cell? w _ hx402_1)).trans hx402_1; replace hx402_0 := (cell_far (p := ⟨gb401, 0, none⟩) (by first | (rw [add_block]; exact hn402_0) | (show (Addr.add _ _).block ≠ _; rw [add_block]; exact hn402_0) | exact hn402_0) (.int .i64 ((rd_T30 l0 x18_1).f0))).trans hx402_0; replace hx402_1 := (cell_far (p := ⟨gb401, 0, none⟩) (by first | (rw [add_block]; exact hn402_0) | (show (Addr.add _ _).block ≠ _; rw [add_block]; exact hn402_0) | exact hn402_0) (.int .i64 ((rd_T30 l0 x18_1).f0))).trans hx402_1; replace hx402_0 := (cell_far (p := ⟨gb401, 1, none⟩) (by first | (rw [add_block]; exact hn402_1) | (show (Addr.add _ _).block ≠ _; rw [add_block]; exact hn402_1) | exact hn402_1) (.int .i64 ((rd_T30 l0 x18_1).f1))).trans hx402_0; replace hx402_1 := (cell_far (p := ⟨gb401, 1, none⟩) (by first | (rw [add_block]; exact hn402_1) | (show (Addr.add _ _).block ≠ _; rw [add_block]; exact hn402_1) | exact hn402_1) (.int .i64 ((rd_T30 l0 x18_1).f1))).trans hx402_1; (try have hy402_0 := fun (n_ : Nat) => (show ((((w16.drewN n_).setCell ⟨gb401, 0, none⟩ (.int .i64 ((rd_T30 l0 x18_1).f0))).setCell ⟨gb401, 1, none⟩ (.int .i64 ((rd_T30 l0 x18_1).f1)))).cell? _ = some _ from hx402_0)); (try have hy402_1 := fun (n_ : Nat) => (show ((((w16.drewN n_).setCell ⟨gb401, 0, none⟩ (.int .i64 ((rd_T30 l0 x18_1).f0))).setCell ⟨gb401, 1, none⟩ (.int .i64 ((rd_T30 l0 x18_1).f1)))).cell? _ = some _ from hx402_1)); clear hn402_0; clear hn402_1; replace p402 := eq_true p402; replace q402 := eq_true q402)); try go_wp2_with (first | ((with_reducible refine gate_dst (N := 8) rfl ?_); refine box_event ?hg (N := 8) ?hd (cs := #[.int .i64 0, .int .i64 0]) (t := 30) ?hr ?_; (case hd => rfl); (case hg => rfl); (case hr => first | (go_simp; done) | (go_simp; rfl)); intro gb401 hg w16 hbox hb; have n0_ := Aside0.mk (below_step (by repeat (first | (with_reducible first | exact HB.out | apply below_alloc | apply pw_below_drewN | apply below_drew1) | exact HB.out)) hb); have n1_ := Aside0.mk (hbox); have n2_ := Aside0.mk ((by rw [hg]; exact (below_size (by repeat (first | (with_reducible first | exact HB.out | apply below_alloc | apply pw_below_drewN | apply below_drew1) | exact HB.out))) : w.heap.size ≤ gb401)); have n3_ := Aside0.mk ((by rw [hg]; exact (below_size (by repeat (first | (with_reducible first | exact HB.out | apply below_alloc | apply pw_below_drewN | apply below_drew1) | exact HB.out))) : w.heap.size ≤ gb401)); clear HB; have HB := n0_; have BK401 := n1_; have GW401 := n2_; have GE401 := n3_; clear n0_ n1_ n2_ n3_; clear hb hbox hg; have hcz17_0 : w16.cell? ⟨gb401, 0, none⟩ = some (.int .i64 0) := (blk_cell BK401.out 0).trans rfl; have hcz17_1 : w16.cell? ⟨gb401, 1, none⟩ = some (.int .i64 0) := (blk_cell BK401.out 1).trans rfl; have hfz17_0 := blk_frozen BK401.out 0; have hfz17_1 := blk_frozen BK401.out 1; have p402 : 0 ≤ ((ji12) : Int) := of_decide_eq_true (by first | (with_reducible assumption) | assumption); have q402 : (ji12) < (l0.length : Int) := of_decide_eq_true (by first | (with_reducible assumption) | assumption); obtain ⟨ad402, e402, hx402_0, hx402_1⟩ := at_T30 HR0.out (ji12) p402 q402; obtain rfl : ad400 = ad402 := (by injection e402); have hn402_0 : ad400.block ≠ gb401 := Nat.ne_of_lt (Nat.lt_of_lt_of_le (by have := World.block_lt_of_cell? _ _ hx402_0; first | rwa [add_block] at this | exact this) GW401.out); have hn402_1 : ad400.block ≠ gb401 := Nat.ne_of_lt (Nat.lt_of_lt_of_le (by have := World.block_lt_of_cell? _ _ hx402_0; first | rwa [add_block] at this | exact this) GW401.out); replace hx402_0 := (HB.out.cell (World.block_lt_of_cell? w _ hx402_0)).trans hx402_0; replace hx402_1 := (HB.out.cell (World.block_lt_of_cell? w _ hx402_1)).trans hx402_1; replace hx402_0 := (cell_far (p := ⟨gb401, 0, none⟩) (by first | (rw [add_block]; exact hn402_0) | (show (Addr.add _ _).block ≠ _; rw [add_block]; exact hn402_0) | exact hn402_0) (.int .i64 ((rd_T30 l0 x18_1).f0))).trans hx402_0; replace hx402_1 := (cell_far (p := ⟨gb401, 0, none⟩) (by first | (rw [add_block]; exact hn402_0) | (show (Addr.add _ _).block ≠ _; rw [add_block]; exact hn402_0) | exact hn402_0) (.int .i64 ((rd_T30 l0 x18_1).f0))).trans hx402_1; replace hx402_0 := (cell_far (p := ⟨gb401, 1, none⟩) (by first | (rw [add_block]; exact hn402_1) | (show (Addr.add _ _).block ≠ _; rw [add_block]; exact hn402_1) | exact hn402_1) (.int .i64 ((rd_T30 l0 x18_1).f1))).trans hx402_0; replace hx402_1 := (cell_far (p := ⟨gb401, 1, none⟩) (by first | (rw [add_block]; exact hn402_1) | (show (Addr.add _ _).block ≠ _; rw [add_block]; exact hn402_1) | exact hn402_1) (.int .i64 ((rd_T30 l0 x18_1).f1))).trans hx402_1; (try have hy402_0 := fun (n_ : Nat) => (show ((((w16.drewN n_).setCell ⟨gb401, 0, none⟩ (.int .i64 ((rd_T30 l0 x18_1).f0))).setCell ⟨gb401, 1, none⟩ (.int .i64 ((rd_T30 l0 x18_1).f1)))).cell? _ = some _ from hx402_0)); (try have hy402_1 := fun (n_ : Nat) => (show ((((w16.drewN n_).setCell ⟨gb401, 0, none⟩ (.int .i64 ((rd_T30 l0 x18_1).f0))).setCell ⟨gb401, 1, none⟩ (.int .i64 ((rd_T30 l0 x18_1).f1)))).cell? _ = some _ from hx402_1)); clear hn402_0; clear hn402_1; replace p402 := eq_true p402; replace q402 := eq_true q402)))
            go_ret2
            exact ⟨by first | rfl | (simp [errW_none, errW_some] <;> rfl) | (simp only [← hji12]; first | rfl | (simp [errW_none, errW_some] <;> rfl)) | (simp [*, errW_none, errW_some] <;> rfl), by repeat (first | (with_reducible first | exact HB.out | apply below_alloc | apply pw_below_drewN | apply below_drew1 | refine below_set ?_ GE401.out) | exact HB.out)⟩
          ·
           rw [if_neg c14] at H
           have c14b0 : decide (a1 ≤ (wrap64 (x6_1 + (wrap64 (((rd_T30 l0 x18_1).f1) * (wrap64 (((rd_T30 l0 (ji12)).f0) - ((rd_T30 l0 x18_1).f0)))))))) = false := decide_eq_false c14
           clear c14
           have H' := Aside0.mk H
           clear H
           have p400 : 0 ≤ (x18_1 : Int) := of_decide_eq_true (by first | (with_reducible assumption) | assumption)
           have q400 : x18_1 < (l0.length : Int) := of_decide_eq_true (by first | (with_reducible assumption) | assumption)
           obtain ⟨ad400, e400, hx400_0, hx400_1⟩ := at_T30 HR0.out x18_1 p400 q400
           cases e400
           replace hx400_0 := (HB.out.cell (World.block_lt_of_cell? w _ hx400_0)).trans hx400_0
           replace hx400_1 := (HB.out.cell (World.block_lt_of_cell? w _ hx400_1)).trans hx400_1
           replace p400 := eq_true p400
           replace q400 := eq_true q400
           go_wp2_with (first | ((with_reducible refine gate_dst (N := 8) rfl ?_); refine box_event ?hg (N := 8) ?hd (cs := #[.int .i64 0, .int .i64 0]) (t := 30) ?hr ?_; (case hd => rfl); (case hg => rfl); (case hr => first | (go_simp; done) | (go_simp; rfl)); intro gb401 hg w18 hbox hb; have n0_ := Aside0.mk (below_step (by repeat (first | (with_reducible first | exact HB.out | apply below_alloc | apply pw_below_drewN | apply below_drew1) | exact HB.out)) hb); have n1_ := Aside0.mk (hbox); have n2_ := Aside0.mk ((by rw [hg]; exact (below_size (by repeat (first | (with_reducible first | exact HB.out | apply below_alloc | apply pw_below_drewN | apply below_drew1) | exact HB.out))) : w.heap.size ≤ gb401)); have n3_ := Aside0.mk ((by rw [hg]; exact (below_size (by repeat (first | (with_reducible first | exact HB.out | apply below_alloc | apply pw_below_drewN | apply below_drew1) | exact HB.out))) : w.heap.size ≤ gb401)); clear HB; have HB := n0_; have BK401 := n1_; have GW401 := n2_; have GE401 := n3_; clear n0_ n1_ n2_ n3_; clear hb hbox hg; have hcz19_0 : w18.cell? ⟨gb401, 0, none⟩ = some (.int .i64 0) := (blk_cell BK401.out 0).trans rfl; have hcz19_1 : w18.cell? ⟨gb401, 1, none⟩ = some (.int .i64 0) := (blk_cell BK401.out 1).trans rfl; have hfz19_0 := blk_frozen BK401.out 0; have hfz19_1 := blk_frozen BK401.out 1; have p402 : 0 ≤ ((ji12) : Int) := of_decide_eq_true (by first | (with_reducible assumption) | assumption); have q402 : (ji12) < (l0.length : Int) := of_decide_eq_true (by first | (with_reducible assumption) | assumption); obtain ⟨ad402, e402, hx402_0, hx402_1⟩ := at_T30 HR0.out (ji12) p402 q402; obtain rfl : ad400 = ad402 := (by injection e402); have hn402_0 : ad400.block ≠ gb401 := Nat.ne_of_lt (Nat.lt_of_lt_of_le (by have := World.block_lt_of_cell? _ _ hx402_0; first | rwa [add_block] at this | exact this) GW401.out); have hn402_1 : ad400.block ≠ gb401 := Nat.ne_of_lt (Nat.lt_of_lt_of_le (by have := World.block_lt_of_cell? _ _ hx402_0; first | rwa [add_block] at this | exact this) GW401.out); replace hx402_0 := (HB.out.cell (World.block_lt_of_cell? w _ hx402_0)).trans hx402_0; replace hx402_1 := (HB.out.cell (World.block_lt_of_cell? w _ hx402_1)).trans hx402_1; replace hx402_0 := (cell_far (p := ⟨gb401, 0, none⟩) (by first | (rw [add_block]; exact hn402_0) | (show (Addr.add _ _).block ≠ _; rw [add_block]; exact hn402_0) | exact hn402_0) (.int .i64 ((rd_T30 l0 x18_1).f0))).trans hx402_0; replace hx402_1 := (cell_far (p := ⟨gb401, 0, none⟩) (by first | (rw [add_block]; exact hn402_0) | (show (Addr.add _ _).block ≠ _; rw [add_block]; exact hn402_0) | exact hn402_0) (.int .i64 ((rd_T30 l0 x18_1).f0))).trans hx402_1; replace hx402_0 := (cell_far (p := ⟨gb401, 1, none⟩) (by first | (rw [add_block]; exact hn402_1) | (show (Addr.add _ _).block ≠ _; rw [add_block]; exact hn402_1) | exact hn402_1) (.int .i64 ((rd_T30 l0 x18_1).f1))).trans hx402_0; replace hx402_1 := (cell_far (p := ⟨gb401, 1, none⟩) (by first | (rw [add_block]; exact hn402_1) | (show (Addr.add _ _).block ≠ _; rw [add_block]; exact hn402_1) | exact hn402_1) (.int .i64 ((rd_T30 l0 x18_1).f1))).trans hx402_1; (try have hy402_0 := fun (n_ : Nat) => (show ((((w18.drewN n_).setCell ⟨gb401, 0, none⟩ (.int .i64 ((rd_T30 l0 x18_1).f0))).setCell ⟨gb401, 1, none⟩ (.int .i64 ((rd_T30 l0 x18_1).f1)))).cell? _ = some _ from hx402_0)); (try have hy402_1 := fun (n_ : Nat) => (show ((((w18.drewN n_).setCell ⟨gb401, 0, none⟩ (.int .i64 ((rd_T30 l0 x18_1).f0))).setCell ⟨gb401, 1, none⟩ (.int .i64 ((rd_T30 l0 x18_1).f1)))).cell? _ = some _ from hx402_1)); clear hn402_0; clear hn402_1; replace p402 := eq_true p402; replace q402 := eq_true q402))
           repeat (go_quiet (first | ((with_reducible refine gate_dst (N := 8) rfl ?_); refine box_event ?hg (N := 8) ?hd (cs := #[.int .i64 0, .int .i64 0]) (t := 30) ?hr ?_; (case hd => rfl); (case hg => rfl); (case hr => first | (go_simp; done) | (go_simp; rfl)); intro gb401 hg w18 hbox hb; have n0_ := Aside0.mk (below_step (by repeat (first | (with_reducible first | exact HB.out | apply below_alloc | apply pw_below_drewN | apply below_drew1) | exact HB.out)) hb); have n1_ := Aside0.mk (hbox); have n2_ := Aside0.mk ((by rw [hg]; exact (below_size (by repeat (first | (with_reducible first | exact HB.out | apply below_alloc | apply pw_below_drewN | apply below_drew1) | exact HB.out))) : w.heap.size ≤ gb401)); have n3_ := Aside0.mk ((by rw [hg]; exact (below_size (by repeat (first | (with_reducible first | exact HB.out | apply below_alloc | apply pw_below_drewN | apply below_drew1) | exact HB.out))) : w.heap.size ≤ gb401)); clear HB; have HB := n0_; have BK401 := n1_; have GW401 := n2_; have GE401 := n3_; clear n0_ n1_ n2_ n3_; clear hb hbox hg; have hcz19_0 : w18.cell? ⟨gb401, 0, none⟩ = some (.int .i64 0) := (blk_cell BK401.out 0).trans rfl; have hcz19_1 : w18.cell? ⟨gb401, 1, none⟩ = some (.int .i64 0) := (blk_cell BK401.out 1).trans rfl; have hfz19_0 := blk_frozen BK401.out 0; have hfz19_1 := blk_frozen BK401.out 1; have p402 : 0 ≤ ((ji12) : Int) := of_decide_eq_true (by first | (with_reducible assumption) | assumption); have q402 : (ji12) < (l0.length : Int) := of_decide_eq_true (by first | (with_reducible assumption) | assumption); obtain ⟨ad402, e402, hx402_0, hx402_1⟩ := at_T30 HR0.out (ji12) p402 q402; obtain rfl : ad400 = ad402 := (by injection e402); have hn402_0 : ad400.block ≠ gb401 := Nat.ne_of_lt (Nat.lt_of_lt_of_le (by have := World.block_lt_of_cell? _ _ hx402_0; first | rwa [add_block] at this | exact this) GW401.out); have hn402_1 : ad400.block ≠ gb401 := Nat.ne_of_lt (Nat.lt_of_lt_of_le (by have := World.block_lt_of_cell? _ _ hx402_0; first | rwa [add_block] at this | exact this) GW401.out); replace hx402_0 := (HB.out.cell (World.block_lt_of_cell? w _ hx402_0)).trans hx402_0; replace hx402_1 := (HB.out.cell (World.block_lt_of_cell? w _ hx402_1)).trans hx402_1; replace hx402_0 := (cell_far (p := ⟨gb401, 0, none⟩) (by first | (rw [add_block]; exact hn402_0) | (show (Addr.add _ _).block ≠ _; rw [add_block]; exact hn402_0) | exact hn402_0) (.int .i64 ((rd_T30 l0 x18_1).f0))).trans hx402_0; replace hx402_1 := (cell_far (p := ⟨gb401, 0, none⟩) (by first | (rw [add_block]; exact hn402_0) | (show (Addr.add _ _).block ≠ _; rw [add_block]; exact hn402_0) | exact hn402_0) (.int .i64 ((rd_T30 l0 x18_1).f0))).trans hx402_1; replace hx402_0 := (cell_far (p := ⟨gb401, 1, none⟩) (by first | (rw [add_block]; exact hn402_1) | (show (Addr.add _ _).block ≠ _; rw [add_block]; exact hn402_1) | exact hn402_1) (.int .i64 ((rd_T30 l0 x18_1).f1))).trans hx402_0; replace hx402_1 := (cell_far (p := ⟨gb401, 1, none⟩) (by first | (rw [add_block]; exact hn402_1) | (show (Addr.add _ _).block ≠ _; rw [add_block]; exact hn402_1) | exact hn402_1) (.int .i64 ((rd_T30 l0 x18_1).f1))).trans hx402_1; (try have hy402_0 := fun (n_ : Nat) => (show ((((w18.drewN n_).setCell ⟨gb401, 0, none⟩ (.int .i64 ((rd_T30 l0 x18_1).f0))).setCell ⟨gb401, 1, none⟩ (.int .i64 ((rd_T30 l0 x18_1).f1)))).cell? _ = some _ from hx402_0)); (try have hy402_1 := fun (n_ : Nat) => (show ((((w18.drewN n_).setCell ⟨gb401, 0, none⟩ (.int .i64 ((rd_T30 l0 x18_1).f0))).setCell ⟨gb401, 1, none⟩ (.int .i64 ((rd_T30 l0 x18_1).f1)))).cell? _ = some _ from hx402_1)); clear hn402_0; clear hn402_1; replace p402 := eq_true p402; replace q402 := eq_true q402)); try go_wp2_with (first | ((with_reducible refine gate_dst (N := 8) rfl ?_); refine box_event ?hg (N := 8) ?hd (cs := #[.int .i64 0, .int .i64 0]) (t := 30) ?hr ?_; (case hd => rfl); (case hg => rfl); (case hr => first | (go_simp; done) | (go_simp; rfl)); intro gb401 hg w18 hbox hb; have n0_ := Aside0.mk (below_step (by repeat (first | (with_reducible first | exact HB.out | apply below_alloc | apply pw_below_drewN | apply below_drew1) | exact HB.out)) hb); have n1_ := Aside0.mk (hbox); have n2_ := Aside0.mk ((by rw [hg]; exact (below_size (by repeat (first | (with_reducible first | exact HB.out | apply below_alloc | apply pw_below_drewN | apply below_drew1) | exact HB.out))) : w.heap.size ≤ gb401)); have n3_ := Aside0.mk ((by rw [hg]; exact (below_size (by repeat (first | (with_reducible first | exact HB.out | apply below_alloc | apply pw_below_drewN | apply below_drew1) | exact HB.out))) : w.heap.size ≤ gb401)); clear HB; have HB := n0_; have BK401 := n1_; have GW401 := n2_; have GE401 := n3_; clear n0_ n1_ n2_ n3_; clear hb hbox hg; have hcz19_0 : w18.cell? ⟨gb401, 0, none⟩ = some (.int .i64 0) := (blk_cell BK401.out 0).trans rfl; have hcz19_1 : w18.cell? ⟨gb401, 1, none⟩ = some (.int .i64 0) := (blk_cell BK401.out 1).trans rfl; have hfz19_0 := blk_frozen BK401.out 0; have hfz19_1 := blk_frozen BK401.out 1; have p402 : 0 ≤ ((ji12) : Int) := of_decide_eq_true (by first | (with_reducible assumption) | assumption); have q402 : (ji12) < (l0.length : Int) := of_decide_eq_true (by first | (with_reducible assumption) | assumption); obtain ⟨ad402, e402, hx402_0, hx402_1⟩ := at_T30 HR0.out (ji12) p402 q402; obtain rfl : ad400 = ad402 := (by injection e402); have hn402_0 : ad400.block ≠ gb401 := Nat.ne_of_lt (Nat.lt_of_lt_of_le (by have := World.block_lt_of_cell? _ _ hx402_0; first | rwa [add_block] at this | exact this) GW401.out); have hn402_1 : ad400.block ≠ gb401 := Nat.ne_of_lt (Nat.lt_of_lt_of_le (by have := World.block_lt_of_cell? _ _ hx402_0; first | rwa [add_block] at this | exact this) GW401.out); replace hx402_0 := (HB.out.cell (World.block_lt_of_cell? w _ hx402_0)).trans hx402_0; replace hx402_1 := (HB.out.cell (World.block_lt_of_cell? w _ hx402_1)).trans hx402_1; replace hx402_0 := (cell_far (p := ⟨gb401, 0, none⟩) (by first | (rw [add_block]; exact hn402_0) | (show (Addr.add _ _).block ≠ _; rw [add_block]; exact hn402_0) | exact hn402_0) (.int .i64 ((rd_T30 l0 x18_1).f0))).trans hx402_0; replace hx402_1 := (cell_far (p := ⟨gb401, 0, none⟩) (by first | (rw [add_block]; exact hn402_0) | (show (Addr.add _ _).block ≠ _; rw [add_block]; exact hn402_0) | exact hn402_0) (.int .i64 ((rd_T30 l0 x18_1).f0))).trans hx402_1; replace hx402_0 := (cell_far (p := ⟨gb401, 1, none⟩) (by first | (rw [add_block]; exact hn402_1) | (show (Addr.add _ _).block ≠ _; rw [add_block]; exact hn402_1) | exact hn402_1) (.int .i64 ((rd_T30 l0 x18_1).f1))).trans hx402_0; replace hx402_1 := (cell_far (p := ⟨gb401, 1, none⟩) (by first | (rw [add_block]; exact hn402_1) | (show (Addr.add _ _).block ≠ _; rw [add_block]; exact hn402_1) | exact hn402_1) (.int .i64 ((rd_T30 l0 x18_1).f1))).trans hx402_1; (try have hy402_0 := fun (n_ : Nat) => (show ((((w18.drewN n_).setCell ⟨gb401, 0, none⟩ (.int .i64 ((rd_T30 l0 x18_1).f0))).setCell ⟨gb401, 1, none⟩ (.int .i64 ((rd_T30 l0 x18_1).f1)))).cell? _ = some _ from hx402_0)); (try have hy402_1 := fun (n_ : Nat) => (show ((((w18.drewN n_).setCell ⟨gb401, 0, none⟩ (.int .i64 ((rd_T30 l0 x18_1).f0))).setCell ⟨gb401, 1, none⟩ (.int .i64 ((rd_T30 l0 x18_1).f1)))).cell? _ = some _ from hx402_1)); clear hn402_0; clear hn402_1; replace p402 := eq_true p402; replace q402 := eq_true q402)))
           go_roundg k1
           case measure => have := HK1.out; omega
           case rel => exact ⟨(wrap64 (x6_1 + (wrap64 (((rd_T30 l0 x18_1).f1) * (wrap64 (((rd_T30 l0 (ji12)).f0) - ((rd_T30 l0 x18_1).f0))))))), (ji12), (by first | rfl | (simp; done) | (simp only [← hji12] <;> (first | rfl | simp)) | (simp [*]; done)), (by first | rfl | (simp; done) | (simp only [← hji12] <;> (first | rfl | simp)) | (simp [*]; done)), H', ⟨by have := HK1.out; omega⟩, ⟨by repeat (first | (with_reducible first | exact HB.out | apply below_alloc | apply pw_below_drewN | apply below_drew1 | refine below_set ?_ GE401.out) | exact HB.out)⟩⟩
         ·
          rw [if_neg c13] at H
          exact absurd H (by simp)
        ·
         rw [if_neg c11] at H
         have c11b0 : decide ((wrap64 (x18_1 + 1)) < (l0.length : Int)) = false := decide_eq_false c11
         clear c11
         by_cases c20 : (wrap64 (x6_1 + (wrap64 (((rd_T30 l0 x18_1).f1) * (wrap64 (1000000000000 - ((rd_T30 l0 x18_1).f0))))))) ≥ a1
         ·
          rw [if_pos c20] at H
          have c20b0 : decide (a1 ≤ (wrap64 (x6_1 + (wrap64 (((rd_T30 l0 x18_1).f1) * (wrap64 (1000000000000 - ((rd_T30 l0 x18_1).f0)))))))) = true := decide_eq_true c20
          clear c20
          by_cases c21 : ((rd_T30 l0 x18_1).f1) = 0
          ·
           rw [if_pos c21] at H
           exact absurd H (by simp)
          ·
           rw [if_neg c21] at H
           have c21b0 : (((rd_T30 l0 x18_1).f1) == 0) = false := beq_eq_false_iff_ne.mpr c21
           have c21b1 : (((rd_T30 l0 x18_1).f1) != 0) = true := bne_iff_ne.mpr c21
           simp only [Option.some.injEq, Prod.mk.injEq] at H
           obtain ⟨rfl, rfl⟩ := H
           have p400 : 0 ≤ (x18_1 : Int) := of_decide_eq_true (by first | (with_reducible assumption) | assumption)
           have q400 : x18_1 < (l0.length : Int) := of_decide_eq_true (by first | (with_reducible assumption) | assumption)
           obtain ⟨ad400, e400, hx400_0, hx400_1⟩ := at_T30 HR0.out x18_1 p400 q400
           cases e400
           replace hx400_0 := (HB.out.cell (World.block_lt_of_cell? w _ hx400_0)).trans hx400_0
           replace hx400_1 := (HB.out.cell (World.block_lt_of_cell? w _ hx400_1)).trans hx400_1
           replace p400 := eq_true p400
           replace q400 := eq_true q400
           go_wp2_with (first | ((with_reducible refine gate_dst (N := 8) rfl ?_); refine box_event ?hg (N := 8) ?hd (cs := #[.int .i64 0, .int .i64 0]) (t := 30) ?hr ?_; (case hd => rfl); (case hg => rfl); (case hr => first | (go_simp; done) | (go_simp; rfl)); intro gb401 hg w22 hbox hb; have n0_ := Aside0.mk (below_step (by repeat (first | (with_reducible first | exact HB.out | apply below_alloc | apply pw_below_drewN | apply below_drew1) | exact HB.out)) hb); have n1_ := Aside0.mk (hbox); have n2_ := Aside0.mk ((by rw [hg]; exact (below_size (by repeat (first | (with_reducible first | exact HB.out | apply below_alloc | apply pw_below_drewN | apply below_drew1) | exact HB.out))) : w.heap.size ≤ gb401)); have n3_ := Aside0.mk ((by rw [hg]; exact (below_size (by repeat (first | (with_reducible first | exact HB.out | apply below_alloc | apply pw_below_drewN | apply below_drew1) | exact HB.out))) : w.heap.size ≤ gb401)); clear HB; have HB := n0_; have BK401 := n1_; have GW401 := n2_; have GE401 := n3_; clear n0_ n1_ n2_ n3_; clear hb hbox hg; have hcz23_0 : w22.cell? ⟨gb401, 0, none⟩ = some (.int .i64 0) := (blk_cell BK401.out 0).trans rfl; have hcz23_1 : w22.cell? ⟨gb401, 1, none⟩ = some (.int .i64 0) := (blk_cell BK401.out 1).trans rfl; have hfz23_0 := blk_frozen BK401.out 0; have hfz23_1 := blk_frozen BK401.out 1))
           repeat (go_quiet (first | ((with_reducible refine gate_dst (N := 8) rfl ?_); refine box_event ?hg (N := 8) ?hd (cs := #[.int .i64 0, .int .i64 0]) (t := 30) ?hr ?_; (case hd => rfl); (case hg => rfl); (case hr => first | (go_simp; done) | (go_simp; rfl)); intro gb401 hg w22 hbox hb; have n0_ := Aside0.mk (below_step (by repeat (first | (with_reducible first | exact HB.out | apply below_alloc | apply pw_below_drewN | apply below_drew1) | exact HB.out)) hb); have n1_ := Aside0.mk (hbox); have n2_ := Aside0.mk ((by rw [hg]; exact (below_size (by repeat (first | (with_reducible first | exact HB.out | apply below_alloc | apply pw_below_drewN | apply below_drew1) | exact HB.out))) : w.heap.size ≤ gb401)); have n3_ := Aside0.mk ((by rw [hg]; exact (below_size (by repeat (first | (with_reducible first | exact HB.out | apply below_alloc | apply pw_below_drewN | apply below_drew1) | exact HB.out))) : w.heap.size ≤ gb401)); clear HB; have HB := n0_; have BK401 := n1_; have GW401 := n2_; have GE401 := n3_; clear n0_ n1_ n2_ n3_; clear hb hbox hg; have hcz23_0 : w22.cell? ⟨gb401, 0, none⟩ = some (.int .i64 0) := (blk_cell BK401.out 0).trans rfl; have hcz23_1 : w22.cell? ⟨gb401, 1, none⟩ = some (.int .i64 0) := (blk_cell BK401.out 1).trans rfl; have hfz23_0 := blk_frozen BK401.out 0; have hfz23_1 := blk_frozen BK401.out 1)); try go_wp2_with (first | ((with_reducible refine gate_dst (N := 8) rfl ?_); refine box_event ?hg (N := 8) ?hd (cs := #[.int .i64 0, .int .i64 0]) (t := 30) ?hr ?_; (case hd => rfl); (case hg => rfl); (case hr => first | (go_simp; done) | (go_simp; rfl)); intro gb401 hg w22 hbox hb; have n0_ := Aside0.mk (below_step (by repeat (first | (with_reducible first | exact HB.out | apply below_alloc | apply pw_below_drewN | apply below_drew1) | exact HB.out)) hb); have n1_ := Aside0.mk (hbox); have n2_ := Aside0.mk ((by rw [hg]; exact (below_size (by repeat (first | (with_reducible first | exact HB.out | apply below_alloc | apply pw_below_drewN | apply below_drew1) | exact HB.out))) : w.heap.size ≤ gb401)); have n3_ := Aside0.mk ((by rw [hg]; exact (below_size (by repeat (first | (with_reducible first | exact HB.out | apply below_alloc | apply pw_below_drewN | apply below_drew1) | exact HB.out))) : w.heap.size ≤ gb401)); clear HB; have HB := n0_; have BK401 := n1_; have GW401 := n2_; have GE401 := n3_; clear n0_ n1_ n2_ n3_; clear hb hbox hg; have hcz23_0 : w22.cell? ⟨gb401, 0, none⟩ = some (.int .i64 0) := (blk_cell BK401.out 0).trans rfl; have hcz23_1 : w22.cell? ⟨gb401, 1, none⟩ = some (.int .i64 0) := (blk_cell BK401.out 1).trans rfl; have hfz23_0 := blk_frozen BK401.out 0; have hfz23_1 := blk_frozen BK401.out 1)))
           go_ret2
           exact ⟨by first | rfl | (simp [errW_none, errW_some] <;> rfl) | (simp [*, errW_none, errW_some] <;> rfl), by repeat (first | (with_reducible first | exact HB.out | apply below_alloc | apply pw_below_drewN | apply below_drew1 | refine below_set ?_ GE401.out) | exact HB.out)⟩
         ·
          rw [if_neg c20] at H
          have c20b0 : decide (a1 ≤ (wrap64 (x6_1 + (wrap64 (((rd_T30 l0 x18_1).f1) * (wrap64 (1000000000000 - ((rd_T30 l0 x18_1).f0)))))))) = false := decide_eq_false c20
          clear c20
          have H' := Aside0.mk H
          clear H
          have p400 : 0 ≤ (x18_1 : Int) := of_decide_eq_true (by first | (with_reducible assumption) | assumption)
          have q400 : x18_1 < (l0.length : Int) := of_decide_eq_true (by first | (with_reducible assumption) | assumption)
          obtain ⟨ad400, e400, hx400_0, hx400_1⟩ := at_T30 HR0.out x18_1 p400 q400
          cases e400
          replace hx400_0 := (HB.out.cell (World.block_lt_of_cell? w _ hx400_0)).trans hx400_0
          replace hx400_1 := (HB.out.cell (World.block_lt_of_cell? w _ hx400_1)).trans hx400_1
          replace p400 := eq_true p400
          replace q400 := eq_true q400
          go_wp2_with (first | ((with_reducible refine gate_dst (N := 8) rfl ?_); refine box_event ?hg (N := 8) ?hd (cs := #[.int .i64 0, .int .i64 0]) (t := 30) ?hr ?_; (case hd => rfl); (case hg => rfl); (case hr => first | (go_simp; done) | (go_simp; rfl)); intro gb401 hg w24 hbox hb; have n0_ := Aside0.mk (below_step (by repeat (first | (with_reducible first | exact HB.out | apply below_alloc | apply pw_below_drewN | apply below_drew1) | exact HB.out)) hb); have n1_ := Aside0.mk (hbox); have n2_ := Aside0.mk ((by rw [hg]; exact (below_size (by repeat (first | (with_reducible first | exact HB.out | apply below_alloc | apply pw_below_drewN | apply below_drew1) | exact HB.out))) : w.heap.size ≤ gb401)); have n3_ := Aside0.mk ((by rw [hg]; exact (below_size (by repeat (first | (with_reducible first | exact HB.out | apply below_alloc | apply pw_below_drewN | apply below_drew1) | exact HB.out))) : w.heap.size ≤ gb401)); clear HB; have HB := n0_; have BK401 := n1_; have GW401 := n2_; have GE401 := n3_; clear n0_ n1_ n2_ n3_; clear hb hbox hg; have hcz25_0 : w24.cell? ⟨gb401, 0, none⟩ = some (.int .i64 0) := (blk_cell BK401.out 0).trans rfl; have hcz25_1 : w24.cell? ⟨gb401, 1, none⟩ = some (.int .i64 0) := (blk_cell BK401.out 1).trans rfl; have hfz25_0 := blk_frozen BK401.out 0; have hfz25_1 := blk_frozen BK401.out 1))
          repeat (go_quiet (first | ((with_reducible refine gate_dst (N := 8) rfl ?_); refine box_event ?hg (N := 8) ?hd (cs := #[.int .i64 0, .int .i64 0]) (t := 30) ?hr ?_; (case hd => rfl); (case hg => rfl); (case hr => first | (go_simp; done) | (go_simp; rfl)); intro gb401 hg w24 hbox hb; have n0_ := Aside0.mk (below_step (by repeat (first | (with_reducible first | exact HB.out | apply below_alloc | apply pw_below_drewN | apply below_drew1) | exact HB.out)) hb); have n1_ := Aside0.mk (hbox); have n2_ := Aside0.mk ((by rw [hg]; exact (below_size (by repeat (first | (with_reducible first | exact HB.out | apply below_alloc | apply pw_below_drewN | apply below_drew1) | exact HB.out))) : w.heap.size ≤ gb401)); have n3_ := Aside0.mk ((by rw [hg]; exact (below_size (by repeat (first | (with_reducible first | exact HB.out | apply below_alloc | apply pw_below_drewN | apply below_drew1) | exact HB.out))) : w.heap.size ≤ gb401)); clear HB; have HB := n0_; have BK401 := n1_; have GW401 := n2_; have GE401 := n3_; clear n0_ n1_ n2_ n3_; clear hb hbox hg; have hcz25_0 : w24.cell? ⟨gb401, 0, none⟩ = some (.int .i64 0) := (blk_cell BK401.out 0).trans rfl; have hcz25_1 : w24.cell? ⟨gb401, 1, none⟩ = some (.int .i64 0) := (blk_cell BK401.out 1).trans rfl; have hfz25_0 := blk_frozen BK401.out 0; have hfz25_1 := blk_frozen BK401.out 1)); try go_wp2_with (first | ((with_reducible refine gate_dst (N := 8) rfl ?_); refine box_event ?hg (N := 8) ?hd (cs := #[.int .i64 0, .int .i64 0]) (t := 30) ?hr ?_; (case hd => rfl); (case hg => rfl); (case hr => first | (go_simp; done) | (go_simp; rfl)); intro gb401 hg w24 hbox hb; have n0_ := Aside0.mk (below_step (by repeat (first | (with_reducible first | exact HB.out | apply below_alloc | apply pw_below_drewN | apply below_drew1) | exact HB.out)) hb); have n1_ := Aside0.mk (hbox); have n2_ := Aside0.mk ((by rw [hg]; exact (below_size (by repeat (first | (with_reducible first | exact HB.out | apply below_alloc | apply pw_below_drewN | apply below_drew1) | exact HB.out))) : w.heap.size ≤ gb401)); have n3_ := Aside0.mk ((by rw [hg]; exact (below_size (by repeat (first | (with_reducible first | exact HB.out | apply below_alloc | apply pw_below_drewN | apply below_drew1) | exact HB.out))) : w.heap.size ≤ gb401)); clear HB; have HB := n0_; have BK401 := n1_; have GW401 := n2_; have GE401 := n3_; clear n0_ n1_ n2_ n3_; clear hb hbox hg; have hcz25_0 : w24.cell? ⟨gb401, 0, none⟩ = some (.int .i64 0) := (blk_cell BK401.out 0).trans rfl; have hcz25_1 : w24.cell? ⟨gb401, 1, none⟩ = some (.int .i64 0) := (blk_cell BK401.out 1).trans rfl; have hfz25_0 := blk_frozen BK401.out 0; have hfz25_1 := blk_frozen BK401.out 1)))
          go_roundg k1
          case measure => have := HK1.out; omega
          case rel => exact ⟨(wrap64 (x6_1 + (wrap64 (((rd_T30 l0 x18_1).f1) * (wrap64 (1000000000000 - ((rd_T30 l0 x18_1).f0))))))), (wrap64 (x18_1 + 1)), (by first | rfl | (simp; done) | (simp [*]; done)), (by first | rfl | (simp; done) | (simp [*]; done)), H', ⟨by have := HK1.out; omega⟩, ⟨by repeat (first | (with_reducible first | exact HB.out | apply below_alloc | apply pw_below_drewN | apply below_drew1 | refine below_set ?_ GE401.out) | exact HB.out)⟩⟩
       ·
        rw [if_neg c10] at H
        exact absurd H (by simp)
      ·
       rw [if_neg c9] at H
       exact absurd H (by simp)
     ·
      rw [if_neg c8] at H
      have c8b0 : decide (x18_1 < (l0.length : Int)) = false := decide_eq_false c8
      clear c8
      simp only [Option.some.injEq, Prod.mk.injEq] at H
      obtain ⟨rfl, rfl⟩ := H
      go_wp2
      repeat (go_quiet (fail); try go_wp2)
      go_ret2
      exact ⟨by first | rfl | (simp [errW_none, errW_some] <;> rfl) | (simp [*, errW_none, errW_some] <;> rfl), by repeat (first | (with_reducible first | exact HB.out | apply below_alloc | apply pw_below_drewN | apply below_drew1) | exact HB.out)⟩
 ·
  replace c4 := Bool.eq_false_iff.mpr c4
  subst c4
  have H1 : (some (0, false)) = some (r1, r2) := by rw [if_neg (show ¬ (false = true) by decide)] at H; exact H
  clear H
  have H := H1
  clear H1
  simp only [Option.some.injEq, Prod.mk.injEq] at H
  obtain ⟨rfl, rfl⟩ := H
  go_enter Try.func28, Try.ntmps28
  go_wp2_with (first | (go_at_call 17; (with_reducible refine (bracket_Valid.calls k _ _ l0 false _ ?side1 ?side2 A3.out).mono ?_); (case side1 => repeat (first | exact HR0.out | (with_reducible refine Kd.C_alloc ?_ _) | (with_reducible refine Kd.C_drewN ?_ _) | (with_reducible refine Kd.C_drew ?_))); (case side2 => exact HC0.out); rintro e w26 ⟨rfl, hb⟩; have n0_ := Aside0.mk (below_step (by repeat (first | (with_reducible first | exact HB.out | apply below_alloc | apply pw_below_drewN | apply below_drew1) | exact HB.out)) hb); clear HB; have HB := n0_; clear n0_; (try clear hb); (try clear hb2); (try clear hk); (try clear hi)))
  repeat (go_quiet (first | (go_at_call 17; (with_reducible refine (bracket_Valid.calls k _ _ l0 false _ ?side1 ?side2 A3.out).mono ?_); (case side1 => repeat (first | exact HR0.out | (with_reducible refine Kd.C_alloc ?_ _) | (with_reducible refine Kd.C_drewN ?_ _) | (with_reducible refine Kd.C_drew ?_))); (case side2 => exact HC0.out); rintro e w26 ⟨rfl, hb⟩; have n0_ := Aside0.mk (below_step (by repeat (first | (with_reducible first | exact HB.out | apply below_alloc | apply pw_below_drewN | apply below_drew1) | exact HB.out)) hb); clear HB; have HB := n0_; clear n0_; (try clear hb); (try clear hb2); (try clear hk); (try clear hi))); try go_wp2_with (first | (go_at_call 17; (with_reducible refine (bracket_Valid.calls k _ _ l0 false _ ?side1 ?side2 A3.out).mono ?_); (case side1 => repeat (first | exact HR0.out | (with_reducible refine Kd.C_alloc ?_ _) | (with_reducible refine Kd.C_drewN ?_ _) | (with_reducible refine Kd.C_drew ?_))); (case side2 => exact HC0.out); rintro e w26 ⟨rfl, hb⟩; have n0_ := Aside0.mk (below_step (by repeat (first | (with_reducible first | exact HB.out | apply below_alloc | apply pw_below_drewN | apply below_drew1) | exact HB.out)) hb); clear HB; have HB := n0_; clear n0_; (try clear hb); (try clear hb2); (try clear hk); (try clear hi))))
  go_ret2
  exact ⟨by first | rfl | (simp [errW_none, errW_some] <;> rfl) | (simp [*, errW_none, errW_some] <;> rfl), by repeat (first | (with_reducible first | exact HB.out | apply below_alloc | apply pw_below_drewN | apply below_drew1) | exact HB.out)⟩

end Go.Proofs.Ytafoplpaoahdiaa.P
