/- Proved here: that the Go function withholding_Lookup computes the plain function of that name (the machine side of the laws, reworked from a print; no condition of its own). -/
import Derived.Test.YtbacfajhgmnjpaaProg
import Derived.Test.YtbacfajhgmnjpaaV1
import Derived.Test.YtbacfajhgmnjpaaV3
import Derived.Test.YtbacfajhgmnjpaaFPRE
import Derived.Test.YtbacfajhgmnjpaaFwh
import Derived.Test.YtbacfajhgmnjpaaFwithholdingtable
namespace Go.Proofs.Ytbacfajhgmnjpaa.P
open Go.RowKit Go.Proofs.YtbacfajhgmnjpaaW.PrintWords Go.Proofs.YtbacfajhgmnjpaaW.PrintLast Go.Proofs.YtbacfajhgmnjpaaW.PrintMore
attribute [local go_sem] max2_int min2_int max_two min_two max_three min_three max_four min_four   -- for this text's walks alone
set_option linter.unusedVariables false
set_option linter.unusedSimpArgs false

def withholding_Lookup.l0 : Nat → Int → Int → List (S80) → Int → Int → Option (Int × Int)
 | 0, _, _, _, _, _ => none
 | k + 1, x1, x6, x15, x16, x17 => if x17 < x16 then (if 0 ≤ x17 then (if x17 < (x15.length : Int) then (if ((rd_T80 x15 x17).f0) ≤ x1 then (withholding_Lookup.l0 k x1 ((rd_T80 x15 x17).f1) x15 x16 (wrap64 (x17 + 1))) else (withholding_Lookup.l0 k x1 x6 x15 x16 (wrap64 (x17 + 1)))) else (none)) else (none)) else (some (x6, 0))
def withholding_Lookup.f (k : Nat) (l0 : List (S80)) (a1 : Int) : Option (Int × Int) := (withholding_table.f k l0).bind fun t383 => (if t383 = true then ((withholding_amount.f a1).bind fun t384 => (if t384 = true then (withholding_Lookup.l0 k a1 0 l0 (l0.length : Int) 0) else (some (0, 2)))) else (some (0, 1)))
set_option maxHeartbeats 8000000 in
set_option maxRecDepth 100000 in
theorem withholding_Lookup.calls (k : Nat) (A0 : Option Addr) (c0 : Nat) (l0 : List (S80)) (a1 : Int) (r1 : Int) (r2 : Int) (w : World) (hr0 : Kd.C k80 w A0 l0.length l0) (hc0 : l0.length ≤ c0) (h : withholding_Lookup.f k l0 a1 = some (r1, r2)) :
  Calls Try.prog 57 #[.slice A0 l0.length c0, .int .i64 a1] w fun e w' => e = .returned (.tuple #[.int .i64 r1, .int .i64 r2]) ∧ Below w.heap.size w w' := by
 have hu80 := Try.underlying80
 have HR0 := Aside0.mk hr0
 have HC0 := Aside0.mk hc0
 clear hr0 hc0
 have HB := Aside0.mk (Below.refl w.heap.size w)
 have H : ((withholding_table.f k l0).bind fun t383 => (if t383 = true then ((withholding_amount.f a1).bind fun t384 => (if t384 = true then (withholding_Lookup.l0 k a1 0 l0 (l0.length : Int) 0) else (some (0, 2)))) else (some (0, 1)))) = some (r1, r2) := h
 clear h
 replace H := Option.bind_eq_some_iff.mp H
 obtain ⟨t383, A30, H⟩ := H
 have A3 := Aside0.mk A30
 clear A30
 by_cases c4 : t383 = true
 ·
  subst c4
  rw [if_pos rfl] at H
  replace H := Option.bind_eq_some_iff.mp H
  obtain ⟨t384, A50, H⟩ := H
  have A5 := Aside0.mk A50
  clear A50
  by_cases c6 : t384 = true
  ·
   subst c6
   rw [if_pos rfl] at H
   have H' := Aside0.mk H
   clear H
   go_enter Try.func57, Try.ntmps57
   go_wp2_with (first | ((with_reducible refine gate_callee (f := 55) rfl ?_); refine goesL_ (some 10) rfl rfl Try.func55 (by kernel_rfl) rfl #[.slice A0 l0.length c0] rfl (by (try simp only [List.map_toArray, List.map_cons, List.map_nil]); first | done | rfl | (simp only [List.length_drop, List.length_take]; rfl)) ?_; (with_reducible refine (withholding_table.calls k _ _ l0 true _ ?side1 ?side2 A3.out).mono ?_); (case side1 => repeat (first | exact HR0.out | (with_reducible refine Kd.C_alloc ?_ _) | (with_reducible refine Kd.C_drewN ?_ _) | (with_reducible refine Kd.C_drew ?_))); (case side2 => exact HC0.out); rintro e w7 ⟨rfl, hb⟩; refine ⟨_, rfl, ?_⟩; have n0_ := Aside0.mk (below_step (by repeat (first | (with_reducible first | exact HB.out | apply below_alloc | apply pw_below_drewN | apply below_drew1) | exact HB.out)) hb); clear HB; have HB := n0_; clear n0_; (try clear hb); (try clear hb2); (try clear hk); (try clear hi)) | ((with_reducible refine gate_callee (f := 42) rfl ?_); refine goesL_ (some 13) rfl rfl Try.func42 (by kernel_rfl) rfl #[.int .i64 a1] rfl (by (try simp only [List.map_toArray, List.map_cons, List.map_nil]); first | done | rfl | (simp only [List.length_drop, List.length_take]; rfl)) ?_; (with_reducible refine (withholding_amount.calls a1 true _ A5.out).mono ?_); rintro e w' ⟨rfl, ⟨nd, rfl⟩⟩; refine ⟨_, rfl, ?_⟩))
   go_loopg [6, 17] k (fun kq v6 v17 w' => ∃ (x6_1 : Int) (x17_1 : Int), v6 = .int .i64 x6_1 ∧ v17 = .int .i64 x17_1 ∧ Aside0 (withholding_Lookup.l0 kq a1 x6_1 l0 (l0.length : Int) x17_1 = some (r1, r2)) ∧ Aside0 (kq ≤ k) ∧ Aside0 (Below w.heap.size w w'))
   case atStart => exact ⟨(0), (0), (by first | rfl | (simp; done) | (simp [*]; done)), (by first | rfl | (simp; done) | (simp [*]; done)), H', ⟨Nat.le_refl _⟩, ⟨by repeat (first | (with_reducible first | exact HB.out | apply below_alloc | apply pw_below_drewN | apply below_drew1) | exact HB.out)⟩⟩
   case round =>
    clear H'
    try clear p2
    try clear c4
    try clear c5
    try clear c6
    obtain ⟨x6_1, x17_1, rfl, rfl, HA, HK1, HB⟩ := hrel
    cases gk with
    | zero => exact absurd HA.out (by simp [withholding_Lookup.l0])
    | succ k1 =>
     have H := HA.out
     clear HA
     simp only [withholding_Lookup.l0] at H
     by_cases c8 : x17_1 < (l0.length : Int)
     ·
      rw [if_pos c8] at H
      have c8b0 : decide (x17_1 < (l0.length : Int)) = true := decide_eq_true c8
      clear c8
      by_cases c9 : 0 ≤ x17_1
      ·
       rw [if_pos c9] at H
       have c9b0 : decide (0 ≤ x17_1) = true := decide_eq_true c9
       clear c9
       by_cases c10 : x17_1 < (l0.length : Int)
       ·
        rw [if_pos c10] at H
        have c10b0 : decide (x17_1 < (l0.length : Int)) = true := decide_eq_true c10
        clear c10
        by_cases c11 : ((rd_T80 l0 x17_1).f0) ≤ a1
        ·
         rw [if_pos c11] at H
         have c11b0 : decide (((rd_T80 l0 x17_1).f0) ≤ a1) = true := decide_eq_true c11
         clear c11
         have H' := Aside0.mk H
         clear H
         have p385 : 0 ≤ (x17_1 : Int) := of_decide_eq_true (by first | (with_reducible assumption) | assumption)
         have q385 : x17_1 < (l0.length : Int) := of_decide_eq_true (by first | (with_reducible assumption) | assumption)
         obtain ⟨ad385, e385, hx385_0, hx385_1⟩ := at_T80 HR0.out x17_1 p385 q385
         cases e385
         replace hx385_0 := (HB.out.cell (World.block_lt_of_cell? w _ hx385_0)).trans hx385_0
         replace hx385_1 := (HB.out.cell (World.block_lt_of_cell? w _ hx385_1)).trans hx385_1
         replace p385 := eq_true p385
         replace q385 := eq_true q385
         go_wp2_with (first | ((with_reducible refine gate_dst (N := 8) rfl ?_); refine box_event ?hg (N := 8) ?hd (cs := #[.int .i64 0, .int .i64 0]) (t := 80) ?hr ?_; (case hd => rfl); (case hg => rfl); (case hr => first | (go_simp; done) | (go_simp; rfl)); intro gb386 hg w12 hbox hb; have n0_ := Aside0.mk (below_step (by repeat (first | (with_reducible first | exact HB.out | apply below_alloc | apply pw_below_drewN | apply below_drew1) | exact HB.out)) hb); have n1_ := Aside0.mk (hbox); have n2_ := Aside0.mk ((by rw [hg]; exact (below_size (by repeat (first | (with_reducible first | exact HB.out | apply below_alloc | apply pw_below_drewN | apply below_drew1) | exact HB.out))) : w.heap.size ≤ gb386)); have n3_ := Aside0.mk ((by rw [hg]; exact (below_size (by repeat (first | (with_reducible first | exact HB.out | apply below_alloc | apply pw_below_drewN | apply below_drew1) | exact HB.out))) : w.heap.size ≤ gb386)); clear HB; have HB := n0_; have BK386 := n1_; have GW386 := n2_; have GE386 := n3_; clear n0_ n1_ n2_ n3_; clear hb hbox hg; obtain ⟨hcz13_0, hcz13_1, hfz13_0, hfz13_1⟩ := blk2 BK386.out))
         go_roundg k1
         case measure => have := HK1.out; omega
         case rel => exact ⟨((rd_T80 l0 x17_1).f1), (wrap64 (x17_1 + 1)), (by first | rfl | (simp; done) | (simp [*]; done)), (by first | rfl | (simp; done) | (simp [*]; done)), H', ⟨by have := HK1.out; omega⟩, ⟨by repeat (first | (with_reducible first | exact HB.out | apply below_alloc | apply pw_below_drewN | apply below_drew1 | refine below_set ?_ GE386.out) | exact HB.out)⟩⟩
        ·
         rw [if_neg c11] at H
         have c11b0 : decide (((rd_T80 l0 x17_1).f0) ≤ a1) = false := decide_eq_false c11
         clear c11
         have H' := Aside0.mk H
         clear H
         have p385 : 0 ≤ (x17_1 : Int) := of_decide_eq_true (by first | (with_reducible assumption) | assumption)
         have q385 : x17_1 < (l0.length : Int) := of_decide_eq_true (by first | (with_reducible assumption) | assumption)
         obtain ⟨ad385, e385, hx385_0, hx385_1⟩ := at_T80 HR0.out x17_1 p385 q385
         cases e385
         replace hx385_0 := (HB.out.cell (World.block_lt_of_cell? w _ hx385_0)).trans hx385_0
         replace hx385_1 := (HB.out.cell (World.block_lt_of_cell? w _ hx385_1)).trans hx385_1
         replace p385 := eq_true p385
         replace q385 := eq_true q385
         go_wp2_with (first | ((with_reducible refine gate_dst (N := 8) rfl ?_); refine box_event ?hg (N := 8) ?hd (cs := #[.int .i64 0, .int .i64 0]) (t := 80) ?hr ?_; (case hd => rfl); (case hg => rfl); (case hr => first | (go_simp; done) | (go_simp; rfl)); intro gb386 hg w14 hbox hb; have n0_ := Aside0.mk (below_step (by repeat (first | (with_reducible first | exact HB.out | apply below_alloc | apply pw_below_drewN | apply below_drew1) | exact HB.out)) hb); have n1_ := Aside0.mk (hbox); have n2_ := Aside0.mk ((by rw [hg]; exact (below_size (by repeat (first | (with_reducible first | exact HB.out | apply below_alloc | apply pw_below_drewN | apply below_drew1) | exact HB.out))) : w.heap.size ≤ gb386)); have n3_ := Aside0.mk ((by rw [hg]; exact (below_size (by repeat (first | (with_reducible first | exact HB.out | apply below_alloc | apply pw_below_drewN | apply below_drew1) | exact HB.out))) : w.heap.size ≤ gb386)); clear HB; have HB := n0_; have BK386 := n1_; have GW386 := n2_; have GE386 := n3_; clear n0_ n1_ n2_ n3_; clear hb hbox hg; obtain ⟨hcz15_0, hcz15_1, hfz15_0, hfz15_1⟩ := blk2 BK386.out))
         go_roundg k1
         case measure => have := HK1.out; omega
         case rel => exact ⟨(x6_1), (wrap64 (x17_1 + 1)), (by first | rfl | (simp; done) | (simp [*]; done)), (by first | rfl | (simp; done) | (simp [*]; done)), H', ⟨by have := HK1.out; omega⟩, ⟨by repeat (first | (with_reducible first | exact HB.out | apply below_alloc | apply pw_below_drewN | apply below_drew1 | refine below_set ?_ GE386.out) | exact HB.out)⟩⟩
       ·
        rw [if_neg c10] at H
        exact absurd H (by simp)
      ·
       rw [if_neg c9] at H
       exact absurd H (by simp)
     ·
      rw [if_neg c8] at H
      have c8b0 : decide (x17_1 < (l0.length : Int)) = false := decide_eq_false c8
      clear c8
      simp only [Option.some.injEq, Prod.mk.injEq] at H
      obtain ⟨rfl, rfl⟩ := H
      go_wp2
      go_ret2
      exact ⟨by first | rfl | (simp [errW_none, errW_some] <;> rfl) | (simp [*, errW_none, errW_some] <;> rfl), by repeat (first | (with_reducible first | exact HB.out | apply below_alloc | apply pw_below_drewN | apply below_drew1) | exact HB.out)⟩
  ·
   replace c6 := Bool.eq_false_iff.mpr c6
   subst c6
   rw [if_neg (show ¬ (false = true) by decide)] at H
   simp only [Option.some.injEq, Prod.mk.injEq] at H
   obtain ⟨rfl, rfl⟩ := H
   go_enter Try.func57, Try.ntmps57
   go_wp2_with (first | ((with_reducible refine gate_callee (f := 55) rfl ?_); refine goesL_ (some 10) rfl rfl Try.func55 (by kernel_rfl) rfl #[.slice A0 l0.length c0] rfl (by (try simp only [List.map_toArray, List.map_cons, List.map_nil]); first | done | rfl | (simp only [List.length_drop, List.length_take]; rfl)) ?_; (with_reducible refine (withholding_table.calls k _ _ l0 true _ ?side1 ?side2 A3.out).mono ?_); (case side1 => repeat (first | exact HR0.out | (with_reducible refine Kd.C_alloc ?_ _) | (with_reducible refine Kd.C_drewN ?_ _) | (with_reducible refine Kd.C_drew ?_))); (case side2 => exact HC0.out); rintro e w16 ⟨rfl, hb⟩; refine ⟨_, rfl, ?_⟩; have n0_ := Aside0.mk (below_step (by repeat (first | (with_reducible first | exact HB.out | apply below_alloc | apply pw_below_drewN | apply below_drew1) | exact HB.out)) hb); clear HB; have HB := n0_; clear n0_; (try clear hb); (try clear hb2); (try clear hk); (try clear hi)) | ((with_reducible refine gate_callee (f := 42) rfl ?_); refine goesL_ (some 13) rfl rfl Try.func42 (by kernel_rfl) rfl #[.int .i64 a1] rfl (by (try simp only [List.map_toArray, List.map_cons, List.map_nil]); first | done | rfl | (simp only [List.length_drop, List.length_take]; rfl)) ?_; (with_reducible refine (withholding_amount.calls a1 false _ A5.out).mono ?_); rintro e w' ⟨rfl, ⟨nd, rfl⟩⟩; refine ⟨_, rfl, ?_⟩))
   go_ret2
   exact ⟨by first | rfl | (simp [errW_none, errW_some] <;> rfl) | (simp [*, errW_none, errW_some] <;> rfl), by repeat (first | (with_reducible first | exact HB.out | apply below_alloc | apply pw_below_drewN | apply below_drew1) | exact HB.out)⟩
 ·
  replace c4 := Bool.eq_false_iff.mpr c4
  subst c4
  rw [if_neg (show ¬ (false = true) by decide)] at H
  simp only [Option.some.injEq, Prod.mk.injEq] at H
  obtain ⟨rfl, rfl⟩ := H
  go_enter Try.func57, Try.ntmps57
  go_wp2_with (first | ((with_reducible refine gate_callee (f := 55) rfl ?_); refine goesL_ (some 10) rfl rfl Try.func55 (by kernel_rfl) rfl #[.slice A0 l0.length c0] rfl (by (try simp only [List.map_toArray, List.map_cons, List.map_nil]); first | done | rfl | (simp only [List.length_drop, List.length_take]; rfl)) ?_; (with_reducible refine (withholding_table.calls k _ _ l0 false _ ?side1 ?side2 A3.out).mono ?_); (case side1 => repeat (first | exact HR0.out | (with_reducible refine Kd.C_alloc ?_ _) | (with_reducible refine Kd.C_drewN ?_ _) | (with_reducible refine Kd.C_drew ?_))); (case side2 => exact HC0.out); rintro e w17 ⟨rfl, hb⟩; refine ⟨_, rfl, ?_⟩; have n0_ := Aside0.mk (below_step (by repeat (first | (with_reducible first | exact HB.out | apply below_alloc | apply pw_below_drewN | apply below_drew1) | exact HB.out)) hb); clear HB; have HB := n0_; clear n0_; (try clear hb); (try clear hb2); (try clear hk); (try clear hi)))
  go_ret2
  exact ⟨by first | rfl | (simp [errW_none, errW_some] <;> rfl) | (simp [*, errW_none, errW_some] <;> rfl), by repeat (first | (with_reducible first | exact HB.out | apply below_alloc | apply pw_below_drewN | apply below_drew1) | exact HB.out)⟩

end Go.Proofs.Ytbacfajhgmnjpaa.P
