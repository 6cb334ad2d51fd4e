/- Proved here: the plain facts of several small texts of this seat, one behind the other; no condition of its own. -/
import Derived.Test.YtbacfajhgmnjpaaProg
import Derived.Test.YtbacfajhgmnjpaaV1
import Derived.Test.YtbacfajhgmnjpaaV2
import Derived.Test.YtbacfajhgmnjpaaFPRE
namespace Go.Proofs.Ytbacfajhgmnjpaa.P
open Go.RowKit Go.Proofs.YtbacfajhgmnjpaaW.PrintWords Go.Proofs.YtbacfajhgmnjpaaW.PrintLast Go.Proofs.YtbacfajhgmnjpaaW.PrintMore
attribute [local go_sem] max2_int min2_int max_two min_two max_three min_three max_four min_four   -- for this text's walks alone
set_option linter.unusedVariables false
set_option linter.unusedSimpArgs false

def paygen_New.f (l0 : List Int) : Option (List Int × Int) := some (l0, 0)
set_option maxHeartbeats 8000000 in
set_option maxRecDepth 100000 in
theorem paygen_New.calls (A0 : Option Addr) (c0 : Nat) (l0 : List Int) (r1 : List Int) (r2 : Int) (w0 w : World) (hB : Below w0.heap.size w0 w) (hr0 : Kd.C (Kd.int .i64) w0 A0 l0.length l0) (hc0 : l0.length ≤ c0) (h : paygen_New.f l0 = some (r1, r2)) :
  Calls Try.prog 13 #[.slice A0 l0.length c0] w fun e w' => ∃ g_ : Nat, e = .returned (.pointer (some ⟨g_, 0, none⟩)) ∧ IsS63 w0 w' g_ r1 r2 ∧ Below w0.heap.size w0 w' ∧ Below w.heap.size w w' := by
 have hu63 := Try.underlying63
 have HR0 := Aside0.mk hr0
 have HC0 := Aside0.mk hc0
 clear hr0 hc0
 have HBW := Aside0.mk (Below.refl w.heap.size w)
 have HW0 := Aside0.mk hB.size
 have HB := Aside0.mk hB
 clear hB
 have H : (some (l0, 0)) = some (r1, r2) := h
 clear h
 simp only [Option.some.injEq, Prod.mk.injEq] at H
 obtain ⟨rfl, rfl⟩ := H
 exact (by go_enter Try.func13, Try.ntmps13; go_wp2_with (first | ((with_reducible refine gate_dst (N := 5) rfl ?_); refine box_event ?hg (N := 5) ?hd (cs := #[.slice A0 l0.length c0, .int .i64 0]) (t := 63) ?hr ?_; (case hd => rfl); (case hg => rfl); (case hr => first | (go_simp; done) | (go_simp; rfl)); intro gb231 hg w_1 hbox hb; have n0_ := Aside0.mk (below_step HBW.out hb); have n1_ := Aside0.mk (below_step q0 hb); have n2_ := Aside0.mk (hbox); have n3_ := Aside0.mk ((by rw [hg]; exact (below_size (by repeat (first | (with_reducible first | exact HBW.out | apply below_alloc | apply pw_below_drewN | apply below_drew1) | exact HBW.out))) : w.heap.size ≤ gb231)); have n4_ := Aside0.mk ((Nat.le_trans HW0.out (by rw [hg]; exact (below_size (by repeat (first | (with_reducible first | exact HBW.out | apply below_alloc | apply pw_below_drewN | apply below_drew1) | exact HBW.out))) : w.heap.size ≤ gb231) : w0.heap.size ≤ gb231)); clear HBW; clear HB; have HBW := n0_; have HB := n1_; have BK231 := n2_; have GW231 := n3_; have GE231 := n4_; clear n0_ n1_ n2_ n3_ n4_; clear hb hbox hg)); go_ret; exact ⟨_, rfl, (show IsS63 w0 _ gb231 l0 0 from ⟨_, _, (by (with_reducible repeat (first | refine blk_drewN ?_ _ | refine blk_drew ?_ | refine blk_alloc ?_ _)); exact BK231.out), GE231.out, HR0.out⟩), (by repeat (first | (with_reducible first | exact HB.out | apply below_alloc | apply pw_below_drewN | apply below_drew1 | refine below_set ?_ GE231.out) | exact HB.out)), (by repeat (first | (with_reducible first | exact HBW.out | apply below_alloc | apply pw_below_drewN | apply below_drew1 | refine below_set ?_ GW231.out) | exact HBW.out))⟩)

end Go.Proofs.Ytbacfajhgmnjpaa.P

namespace Go.Proofs.Ytbacfajhgmnjpaa.P
open Go.RowKit Go.Proofs.YtbacfajhgmnjpaaW.PrintWords Go.Proofs.YtbacfajhgmnjpaaW.PrintLast Go.Proofs.YtbacfajhgmnjpaaW.PrintMore
attribute [local go_sem] max2_int min2_int max_two min_two max_three min_three max_four min_four   -- for this text's walks alone
set_option linter.unusedVariables false
set_option linter.unusedSimpArgs false

end Go.Proofs.Ytbacfajhgmnjpaa.P

namespace Go.Proofs.Ytbacfajhgmnjpaa.P
open Go.RowKit Go.Proofs.YtbacfajhgmnjpaaW.PrintWords Go.Proofs.YtbacfajhgmnjpaaW.PrintLast Go.Proofs.YtbacfajhgmnjpaaW.PrintMore
attribute [local go_sem] max2_int min2_int max_two min_two max_three min_three max_four min_four   -- for this text's walks alone
set_option linter.unusedVariables false
set_option linter.unusedSimpArgs false

def paygen_Deck_Next.f (s0_0 : List Int) (s0_1 : Int) (a1 : Int) : Option (Int × Int) := if s0_1 < (s0_0.length : Int) then (if 0 ≤ s0_1 then (if a1 = 0 then (none) else (if (Int.tmod (rd s0_0 s0_1) a1) < 0 then (some (wrap64 ((Int.tmod (rd s0_0 s0_1) a1) + a1), wrap64 (s0_1 + 1))) else (some (Int.tmod (rd s0_0 s0_1) a1, wrap64 (s0_1 + 1))))) else (none)) else (if a1 = 0 then (none) else (if (Int.tmod (wrap64 ((wrap64 (5 * s0_1)) + 2)) a1) < 0 then (some (wrap64 ((Int.tmod (wrap64 ((wrap64 (5 * s0_1)) + 2)) a1) + a1), wrap64 (s0_1 + 1))) else (some (Int.tmod (wrap64 ((wrap64 (5 * s0_1)) + 2)) a1, wrap64 (s0_1 + 1)))))
set_option maxHeartbeats 8000000 in
set_option maxRecDepth 100000 in
theorem paygen_Deck_Next.calls (g : Nat) (s0_0 : List Int) (s0_1 : Int) (a1 : Int) (r1 : Int) (r2 : Int) (w0 w : World) (hI : IsS63 w0 w g s0_0 s0_1) (hB : Below w0.heap.size w0 w) (h : paygen_Deck_Next.f s0_0 s0_1 a1 = some (r1, r2)) :
  Calls Try.prog 17 #[.pointer (some ⟨g, 0, none⟩), .int .i64 a1] w fun e w' => e = .returned (.int .i64 r1) ∧ IsS63 w0 w' g s0_0 r2 ∧ Below w0.heap.size w0 w' ∧ KeepBut w w' g none := by
 have HI0 := Aside0.mk hI
 have HK := Aside0.mk (KeepBut.refl w g none)
 have HL := Aside0.mk hB.size
 clear hI
 have HW0 := Aside0.mk hB.size
 have HB := Aside0.mk hB
 clear hB
 have H : (if s0_1 < (s0_0.length : Int) then (if 0 ≤ s0_1 then (if a1 = 0 then (none) else (if (Int.tmod (rd s0_0 s0_1) a1) < 0 then (some (wrap64 ((Int.tmod (rd s0_0 s0_1) a1) + a1), wrap64 (s0_1 + 1))) else (some (Int.tmod (rd s0_0 s0_1) a1, wrap64 (s0_1 + 1))))) else (none)) else (if a1 = 0 then (none) else (if (Int.tmod (wrap64 ((wrap64 (5 * s0_1)) + 2)) a1) < 0 then (some (wrap64 ((Int.tmod (wrap64 ((wrap64 (5 * s0_1)) + 2)) a1) + a1), wrap64 (s0_1 + 1))) else (some (Int.tmod (wrap64 ((wrap64 (5 * s0_1)) + 2)) a1, wrap64 (s0_1 + 1)))))) = some (r1, r2) := h
 clear h
 by_cases c3 : s0_1 < (s0_0.length : Int)
 ·
  rw [if_pos c3] at H
  have c3b0 : decide (s0_1 < (s0_0.length : Int)) = true := decide_eq_true c3
  clear c3
  by_cases c4 : 0 ≤ s0_1
  ·
   rw [if_pos c4] at H
   have c4b0 : decide (0 ≤ s0_1) = true := decide_eq_true c4
   clear c4
   by_cases c5 : a1 = 0
   ·
    rw [if_pos c5] at H
    exact absurd H (by simp)
   ·
    rw [if_neg c5] at H
    have c5b0 : (a1 == 0) = false := beq_eq_false_iff_ne.mpr c5
    have c5b1 : (a1 != 0) = true := bne_iff_ne.mpr c5
    by_cases c6 : (Int.tmod (rd s0_0 s0_1) a1) < 0
    ·
     rw [if_pos c6] at H
     have c6b0 : decide ((Int.tmod (rd s0_0 s0_1) a1) < 0) = true := decide_eq_true c6
     clear c6
     simp only [Option.some.injEq, Prod.mk.injEq] at H
     obtain ⟨rfl, rfl⟩ := H
     obtain ⟨ASz7_0, cSz7_0, HGz7, hgz7, HSz7_0⟩ := HI0.out
     have hcz7_0 := cellS63_0 HGz7
     have hcz7_1 := cellS63_1 HGz7
     have hfz7_1 := blk_frozen HGz7 1
     clear HGz7 hgz7
     have p232 : 0 ≤ (s0_1 : Int) := of_decide_eq_true q6
     have q232 : s0_1 < (s0_0.length : Int) := of_decide_eq_true q6
     obtain ⟨ad232, e232, hx232_0⟩ := Kd.at_int HSz7_0 s0_1 p232 q232
     cases e232
     replace hx232_0 := pw_cell_below HB.out hx232_0
     replace p232 := eq_true p232
     replace q232 := eq_true q232
     exact q135
    ·
     rw [if_neg c6] at H
     have c6b0 : decide ((Int.tmod (rd s0_0 s0_1) a1) < 0) = false := decide_eq_false c6
     clear c6
     simp only [Option.some.injEq, Prod.mk.injEq] at H
     obtain ⟨rfl, rfl⟩ := H
     obtain ⟨ASz8_0, cSz8_0, HGz8, hgz8, HSz8_0⟩ := HI0.out
     have hcz8_0 := cellS63_0 HGz8
     have hcz8_1 := cellS63_1 HGz8
     have hfz8_1 := blk_frozen HGz8 1
     clear HGz8 hgz8
     have p232 : 0 ≤ (s0_1 : Int) := of_decide_eq_true q6
     have q232 : s0_1 < (s0_0.length : Int) := of_decide_eq_true q6
     obtain ⟨ad232, e232, hx232_0⟩ := Kd.at_int HSz8_0 s0_1 p232 q232
     cases e232
     replace hx232_0 := pw_cell_below HB.out hx232_0
     replace p232 := eq_true p232
     replace q232 := eq_true q232
     exact q135
  ·
   rw [if_neg c4] at H
   exact absurd H (by simp)
 ·
  rw [if_neg c3] at H
  have c3b0 : decide (s0_1 < (s0_0.length : Int)) = false := decide_eq_false c3
  clear c3
  by_cases c9 : a1 = 0
  ·
   rw [if_pos c9] at H
   exact absurd H (by simp)
  ·
   rw [if_neg c9] at H
   have c9b0 : (a1 == 0) = false := beq_eq_false_iff_ne.mpr c9
   have c9b1 : (a1 != 0) = true := bne_iff_ne.mpr c9
   by_cases c10 : (Int.tmod (wrap64 ((wrap64 (5 * s0_1)) + 2)) a1) < 0
   ·
    rw [if_pos c10] at H
    have c10b0 : decide ((Int.tmod (wrap64 ((wrap64 (5 * s0_1)) + 2)) a1) < 0) = true := decide_eq_true c10
    clear c10
    simp only [Option.some.injEq, Prod.mk.injEq] at H
    obtain ⟨rfl, rfl⟩ := H
    obtain ⟨ASz11_0, cSz11_0, HGz11, hgz11, HSz11_0⟩ := HI0.out
    have hcz11_0 := cellS63_0 HGz11
    have hcz11_1 := cellS63_1 HGz11
    have hfz11_1 := blk_frozen HGz11 1
    clear HGz11 hgz11
    exact q135
   ·
    rw [if_neg c10] at H
    have c10b0 : decide ((Int.tmod (wrap64 ((wrap64 (5 * s0_1)) + 2)) a1) < 0) = false := decide_eq_false c10
    clear c10
    simp only [Option.some.injEq, Prod.mk.injEq] at H
    obtain ⟨rfl, rfl⟩ := H
    obtain ⟨ASz12_0, cSz12_0, HGz12, hgz12, HSz12_0⟩ := HI0.out
    have hcz12_0 := cellS63_0 HGz12
    have hcz12_1 := cellS63_1 HGz12
    have hfz12_1 := blk_frozen HGz12 1
    clear HGz12 hgz12
    exact q135

end Go.Proofs.Ytbacfajhgmnjpaa.P

namespace Go.Proofs.Ytbacfajhgmnjpaa.P
open Go.RowKit Go.Proofs.YtbacfajhgmnjpaaW.PrintWords Go.Proofs.YtbacfajhgmnjpaaW.PrintLast Go.Proofs.YtbacfajhgmnjpaaW.PrintMore
attribute [local go_sem] max2_int min2_int max_two min_two max_three min_three max_four min_four   -- for this text's walks alone
set_option linter.unusedVariables false
set_option linter.unusedSimpArgs false

def paygen_Deck_Pick.f (s0_0 : List Int) (s0_1 : Int) (l1 : List Int) : Option (Int × Int) := (paygen_Deck_Next.f s0_0 s0_1 (l1.length : Int)).bind fun bt233 => (if 0 ≤ bt233.1 then (if bt233.1 < (l1.length : Int) then (some (rd l1 bt233.1, bt233.2)) else (none)) else (none))
set_option maxHeartbeats 8000000 in
set_option maxRecDepth 100000 in
theorem paygen_Deck_Pick.calls (g : Nat) (s0_0 : List Int) (s0_1 : Int) (A1 : Option Addr) (c1 : Nat) (l1 : List Int) (r1 : Int) (r2 : Int) (w0 w : World) (hI : IsS63 w0 w g s0_0 s0_1) (hB : Below w0.heap.size w0 w) (hr1 : Kd.C (Kd.int .i64) w A1 l1.length l1) (hc1 : l1.length ≤ c1) (hf1 : ∀ ad, A1 = some ad → 0 < l1.length → ad.block ≠ g) (h : paygen_Deck_Pick.f s0_0 s0_1 l1 = some (r1, r2)) :
  Calls Try.prog 15 #[.pointer (some ⟨g, 0, none⟩), .slice A1 l1.length c1] w fun e w' => e = .returned (.int .i64 r1) ∧ IsS63 w0 w' g s0_0 r2 ∧ Below w0.heap.size w0 w' ∧ KeepBut w w' g none := by
 have HR1 := Aside0.mk hr1
 have HC1 := Aside0.mk hc1
 clear hr1 hc1
 have HI0 := Aside0.mk hI
 have HK := Aside0.mk (KeepBut.refl w g none)
 have HL := Aside0.mk hB.size
 clear hI
 have HW0 := Aside0.mk hB.size
 have HB := Aside0.mk hB
 clear hB
 have H : ((paygen_Deck_Next.f s0_0 s0_1 (l1.length : Int)).bind fun bt233 => (if 0 ≤ bt233.1 then (if bt233.1 < (l1.length : Int) then (some (rd l1 bt233.1, bt233.2)) else (none)) else (none))) = some (r1, r2) := h
 clear h
 replace H := Option.bind_eq_some_iff.mp H
 obtain ⟨⟨t233, t234⟩, A30, H⟩ := H
 try dsimp only at H
 have A3 := Aside0.mk A30
 clear A30
 by_cases c4 : 0 ≤ t233
 ·
  rw [if_pos c4] at H
  have c4b0 : decide (0 ≤ t233) = true := decide_eq_true c4
  clear c4
  by_cases c5 : t233 < (l1.length : Int)
  ·
   rw [if_pos c5] at H
   have c5b0 : decide (t233 < (l1.length : Int)) = true := decide_eq_true c5
   clear c5
   simp only [Option.some.injEq, Prod.mk.injEq] at H
   obtain ⟨rfl, rfl⟩ := H
   exact (by go_enter Try.func15, Try.ntmps15; go_wp2_with (first | ((with_reducible refine gate_callee (f := 17) rfl ?_); refine goesL_ (some 9) rfl rfl Try.func17 (by kernel_rfl) rfl #[.pointer (some ⟨g, 0, none⟩), .int .i64 (l1.length : Int)] rfl q1 ?_; (with_reducible refine (paygen_Deck_Next.calls g s0_0 s0_1 (l1.length : Int) t233 t234 w0 _ ?side1 ?side2 A3.out).mono ?_); (case side1 => exact q3); (case side2 => exact q7); rintro e w_1 ⟨rfl, hi, hb, hk⟩; refine ⟨_, rfl, ?_⟩; have n0_ := Aside0.mk (KeepBut.trans q5 hk (.inl rfl)); have n1_ := Aside0.mk (hb); have n2_ := Aside0.mk (hi); clear HK; clear HB; clear HI0; have HK := n0_; have HB := n1_; have HI0 := n2_; clear n0_ n1_ n2_; (try clear hb); (try clear hb2); (try clear hk); (try clear hi); have p235 : 0 ≤ (t233 : Int) := of_decide_eq_true q6; have q235 : t233 < (l1.length : Int) := of_decide_eq_true q6; obtain ⟨ad_1, e_1, hx235_0⟩ := Kd.at_int HR1.out t233 p235 q235; cases e_1; replace hx235_0 := keep_cell HK.out hx235_0 (by first | (rw [add_block]; exact hf1 _ rfl (by omega)) | exact hf1 _ rfl (by omega) | exact hf1 ad_1 rfl (by omega)); replace p235 := eq_true p235; replace q235 := eq_true q235)); go_ret; exact ⟨by first | rfl | (simp [errW_none, errW_some] <;> rfl) | (simp [*, errW_none, errW_some] <;> rfl), q3, q7, q5⟩)
  ·
   rw [if_neg c5] at H
   exact absurd H (by simp)
 ·
  rw [if_neg c4] at H
  exact absurd H (by simp)

end Go.Proofs.Ytbacfajhgmnjpaa.P

namespace Go.Proofs.Ytbacfajhgmnjpaa.P
open Go.RowKit Go.Proofs.YtbacfajhgmnjpaaW.PrintWords Go.Proofs.YtbacfajhgmnjpaaW.PrintLast Go.Proofs.YtbacfajhgmnjpaaW.PrintMore
attribute [local go_sem] max2_int min2_int max_two min_two max_three min_three max_four min_four   -- for this text's walks alone
set_option linter.unusedVariables false
set_option linter.unusedSimpArgs false

def paygen_Deck_Mode.f (s0_0 : List Int) (s0_1 : Int) : Option (Int × Int) := (paygen_Deck_Next.f s0_0 s0_1 7).bind fun bt276 => (some (bt276.1, bt276.2))
set_option maxHeartbeats 8000000 in
set_option maxRecDepth 100000 in
theorem paygen_Deck_Mode.calls (g : Nat) (s0_0 : List Int) (s0_1 : Int) (r1 : Int) (r2 : Int) (w0 w : World) (hI : IsS63 w0 w g s0_0 s0_1) (hB : Below w0.heap.size w0 w) (h : paygen_Deck_Mode.f s0_0 s0_1 = some (r1, r2)) :
  Calls Try.prog 37 #[.pointer (some ⟨g, 0, none⟩)] w fun e w' => e = .returned (.int .i64 r1) ∧ IsS63 w0 w' g s0_0 r2 ∧ Below w0.heap.size w0 w' ∧ KeepBut w w' g none := by
 have HI0 := Aside0.mk hI
 have HK := Aside0.mk (KeepBut.refl w g none)
 have HL := Aside0.mk hB.size
 clear hI
 have HW0 := Aside0.mk hB.size
 have HB := Aside0.mk hB
 clear hB
 have H : ((paygen_Deck_Next.f s0_0 s0_1 7).bind fun bt276 => (some (bt276.1, bt276.2))) = some (r1, r2) := h
 clear h
 replace H := Option.bind_eq_some_iff.mp H
 obtain ⟨⟨t276, t277⟩, A20, H⟩ := H
 dsimp only at H
 have A2 := Aside0.mk A20
 clear A20
 simp only [Option.some.injEq, Prod.mk.injEq] at H
 obtain ⟨rfl, rfl⟩ := H
 exact (by go_enter Try.func37, Try.ntmps37; go_wp2_with (first | ((with_reducible refine gate_callee (f := 17) rfl ?_); refine goesL_ (some 4) rfl rfl Try.func17 (by kernel_rfl) rfl #[.pointer (some ⟨g, 0, none⟩), .int .i64 7] rfl q1 ?_; (with_reducible refine (paygen_Deck_Next.calls g s0_0 s0_1 7 t276 t277 w0 _ ?side1 ?side2 A2.out).mono ?_); (case side1 => exact q3); (case side2 => exact q7); rintro e w_1 ⟨rfl, hi, hb, hk⟩; refine ⟨_, rfl, ?_⟩; have n0_ := Aside0.mk (KeepBut.trans q5 hk (.inl rfl)); have n1_ := Aside0.mk (hb); have n2_ := Aside0.mk (hi); clear HK; clear HB; clear HI0; have HK := n0_; have HB := n1_; have HI0 := n2_; clear n0_ n1_ n2_; (try clear hb); (try clear hb2); (try clear hk); (try clear hi))); go_ret; exact ⟨by first | rfl | (simp [errW_none, errW_some] <;> rfl) | (simp [*, errW_none, errW_some] <;> rfl), q3, q7, q5⟩)

end Go.Proofs.Ytbacfajhgmnjpaa.P

namespace Go.Proofs.Ytbacfajhgmnjpaa.P
open Go.RowKit Go.Proofs.YtbacfajhgmnjpaaW.PrintWords Go.Proofs.YtbacfajhgmnjpaaW.PrintLast Go.Proofs.YtbacfajhgmnjpaaW.PrintMore
attribute [local go_sem] max2_int min2_int max_two min_two max_three min_three max_four min_four   -- for this text's walks alone
set_option linter.unusedVariables false
set_option linter.unusedSimpArgs false

def paygen_Deck_Rate.f (s0_0 : List Int) (s0_1 : Int) : Option (Int × Int) := (paygen_Deck_Next.f s0_0 s0_1 1000001).bind fun bt236 => ((paygen_Deck_Pick.f s0_0 bt236.2 (([0, 1, 75000, 93000, 200000, 333333, 420000, 500000, 1000000, bt236.1] : List Int))).bind fun bt241 => (some (bt241.1, bt241.2)))
set_option maxHeartbeats 8000000 in
set_option maxRecDepth 100000 in
theorem paygen_Deck_Rate.calls (g : Nat) (s0_0 : List Int) (s0_1 : Int) (r1 : Int) (r2 : Int) (w0 w : World) (hI : IsS63 w0 w g s0_0 s0_1) (hB : Below w0.heap.size w0 w) (h : paygen_Deck_Rate.f s0_0 s0_1 = some (r1, r2)) :
  Calls Try.prog 54 #[.pointer (some ⟨g, 0, none⟩)] w fun e w' => e = .returned (.int .i64 r1) ∧ IsS63 w0 w' g s0_0 r2 ∧ Below w0.heap.size w0 w' ∧ KeepBut w w' g none := by
 have HI0 := Aside0.mk hI
 have HK := Aside0.mk (KeepBut.refl w g none)
 have HL := Aside0.mk hB.size
 clear hI
 have HW0 := Aside0.mk hB.size
 have HB := Aside0.mk hB
 clear hB
 have H : ((paygen_Deck_Next.f s0_0 s0_1 1000001).bind fun bt236 => ((paygen_Deck_Pick.f s0_0 bt236.2 (([0, 1, 75000, 93000, 200000, 333333, 420000, 500000, 1000000, bt236.1] : List Int))).bind fun bt241 => (some (bt241.1, bt241.2)))) = some (r1, r2) := h
 clear h
 replace H := Option.bind_eq_some_iff.mp H
 obtain ⟨⟨t236, t237⟩, A20, H⟩ := H
 try dsimp only at H
 have A2 := Aside0.mk A20
 clear A20
 obtain ⟨y238, hy238⟩ : ∃ y_ : List Int, y_ = (([0, 1, 75000, 93000, 200000, 333333, 420000, 500000, 1000000, t236] : List Int)) := ⟨_, rfl⟩
 replace H : ((paygen_Deck_Pick.f s0_0 t237 y238).bind fun bt241 => (some (bt241.1, bt241.2))) = some (r1, r2) := by first | (rw [hy238]; with_reducible exact H) | (have H2_ := (Option.bind_some _ _).symm.trans H; rw [hy238]; with_reducible exact H2_) | (have H2_ := (Option.bind_some _ _).symm.trans H; with_reducible exact H2_) | with_reducible exact H | (rw [hy238]; exact H) | exact H
 have Ny238 := Aside0.mk hy238
 clear hy238
 replace H := Option.bind_eq_some_iff.mp H
 obtain ⟨⟨t241, t242⟩, A30, H⟩ := H
 dsimp only at H
 have A3 := Aside0.mk A30
 clear A30
 simp only [Option.some.injEq, Prod.mk.injEq] at H
 obtain ⟨rfl, rfl⟩ := H
 exact (by go_enter Try.func54, Try.ntmps54; go_wp2_with (first | ((with_reducible refine gate_callee (f := 17) rfl ?_); refine goesL_ (some 5) rfl rfl Try.func17 (by kernel_rfl) rfl #[.pointer (some ⟨g, 0, none⟩), .int .i64 1000001] rfl q1 ?_; (with_reducible refine (paygen_Deck_Next.calls g s0_0 s0_1 1000001 t236 t237 w0 _ ?side1 ?side2 A2.out).mono ?_); (case side1 => exact q3); (case side2 => exact q7); rintro e w_1 ⟨rfl, hi, hb, hk⟩; refine ⟨_, rfl, ?_⟩; have n0_ := Aside0.mk (KeepBut.trans q5 hk (.inl rfl)); have n1_ := Aside0.mk (hb); have n2_ := Aside0.mk (hi); clear HK; clear HB; clear HI0; have HK := n0_; have HB := n1_; have HI0 := n2_; clear n0_ n1_ n2_; (try clear hb); (try clear hb2); (try clear hk); (try clear hi)) | ((with_reducible refine gate_dst (N := 6) rfl ?_); refine Kd.R_lit (Kd.int .i64) _ 3 ?hg (N := 6) ?hd (xs := ([0, 1, 75000, 93000, 200000, 333333, 420000, 500000, 1000000, t236] : List Int)) (inner := [.int .i64 0, .int .i64 1, .int .i64 75000, .int .i64 93000, .int .i64 200000, .int .i64 333333, .int .i64 420000, .int .i64 500000, .int .i64 1000000, .int .i64 t236]) (ok := fun _ => True) (okp := fun _ => True) ?hr ?hp (fun _ hk => hk) trivial (Below.refl _ _) (Nat.le_refl _) (by simp) ?_; (case hd => rfl); (case hg => rfl); (case hr => first | (go_simp; done) | (go_simp; rfl)); (case hp => exact (Reps.one (show Kd.M (Kd.int .i64) _ _ _ 0 [.int .i64 0] from rfl) (Reps.one (show Kd.M (Kd.int .i64) _ _ _ 1 [.int .i64 1] from rfl) (Reps.one (show Kd.M (Kd.int .i64) _ _ _ 75000 [.int .i64 75000] from rfl) (Reps.one (show Kd.M (Kd.int .i64) _ _ _ 93000 [.int .i64 93000] from rfl) (Reps.one (show Kd.M (Kd.int .i64) _ _ _ 200000 [.int .i64 200000] from rfl) (Reps.one (show Kd.M (Kd.int .i64) _ _ _ 333333 [.int .i64 333333] from rfl) (Reps.one (show Kd.M (Kd.int .i64) _ _ _ 420000 [.int .i64 420000] from rfl) (Reps.one (show Kd.M (Kd.int .i64) _ _ _ 500000 [.int .i64 500000] from rfl) (Reps.one (show Kd.M (Kd.int .i64) _ _ _ 1000000 [.int .i64 1000000] from rfl) (Reps.one (show Kd.M (Kd.int .i64) _ _ _ t236 [.int .i64 t236] from rfl) (Reps.none _ _)))))))))))); intro v239 w_2 ho_1 hb hg_ hnew_; clear hg_ hnew_; (first | rw [← Ny238.out] at ho_1 | (simp only [Int.reduceToNat] at ho_1; rw [← Ny238.out] at ho_1)); have n0_ := Aside0.mk (Kd.R_lower ho_1 (keep_size (w := w) (g := g) (row := none) q5)); have n1_ := Aside0.mk (IsS63.below q3 hb); have n2_ := Aside0.mk (KeepBut.trans q5 (KeepBut.of_below hb g none) (.inl rfl)); have n3_ := Aside0.mk (below_step q7 hb); clear HI0; clear HK; clear HB; have HO_1 := n0_; have HI0 := n1_; have HK := n2_; have HB := n3_; clear n0_ n1_ n2_ n3_; clear hb ho_1; obtain ⟨Ao_1, co_1, eo_1⟩ := Kd.R_slice HO_1.out; subst eo_1) | ((with_reducible refine gate_callee (f := 15) rfl ?_); refine goesL_ (some 7) rfl rfl Try.func15 (by kernel_rfl) rfl #[.pointer (some ⟨g, 0, none⟩), .slice Ao_1 y238.length co_1] rfl q1 ?_; (with_reducible refine (paygen_Deck_Pick.calls g s0_0 t237 _ _ y238 t241 t242 w0 _ ?side1 ?side2 ?side3 ?side4 ?side5 A3.out).mono ?_); (case side1 => exact q3); (case side2 => exact q7); (case side3 => exact q30); (case side4 => exact (Kd.R_reads' HO_1.out).2.1); (case side5 => exact far_slice (IsS63.own_ne HI0.out HO_1.out (by decide))); rintro e w_3 ⟨rfl, hi, hb, hk⟩; refine ⟨_, rfl, ?_⟩; have n0_ := Aside0.mk (Kd.R_mono (Kd.R_keep (IsS63.apart (show IsS63 w0 _ g s0_0 t237 from q3) q20 (by decide)) hk (fun _ h => h.2)) (fun _ h => h.1)); have n1_ := Aside0.mk (KeepBut.trans q5 hk (.inl rfl)); have n2_ := Aside0.mk (hb); have n3_ := Aside0.mk (hi); clear HO_1; clear HK; clear HB; clear HI0; have HO_1 := n0_; have HK := n1_; have HB := n2_; have HI0 := n3_; clear n0_ n1_ n2_ n3_; (try clear hb); (try clear hb2); (try clear hk); (try clear hi))); go_ret; exact ⟨by first | rfl | (simp [errW_none, errW_some] <;> rfl) | (simp [*, errW_none, errW_some] <;> rfl), q3, q7, q5⟩)

end Go.Proofs.Ytbacfajhgmnjpaa.P

namespace Go.Proofs.Ytbacfajhgmnjpaa.P
open Go.RowKit Go.Proofs.YtbacfajhgmnjpaaW.PrintWords Go.Proofs.YtbacfajhgmnjpaaW.PrintLast Go.Proofs.YtbacfajhgmnjpaaW.PrintMore
attribute [local go_sem] max2_int min2_int max_two min_two max_three min_three max_four min_four   -- for this text's walks alone
set_option linter.unusedVariables false
set_option linter.unusedSimpArgs false

def paygen_Deck_Small.f (s0_0 : List Int) (s0_1 : Int) : Option (Int × Int) := (paygen_Deck_Next.f s0_0 s0_1 5).bind fun bt332 => (if bt332.1 = 0 then ((paygen_Deck_Pick.f s0_0 bt332.2 (([0, 0, 1, 100] : List Int))).bind fun bt337 => (some (bt337.1, bt337.2))) else ((paygen_Deck_Next.f s0_0 bt332.2 600000).bind fun bt339 => (some (bt339.1, bt339.2))))
set_option maxHeartbeats 8000000 in
set_option maxRecDepth 100000 in
theorem paygen_Deck_Small.calls (g : Nat) (s0_0 : List Int) (s0_1 : Int) (r1 : Int) (r2 : Int) (w0 w : World) (hI : IsS63 w0 w g s0_0 s0_1) (hB : Below w0.heap.size w0 w) (h : paygen_Deck_Small.f s0_0 s0_1 = some (r1, r2)) :
  Calls Try.prog 18 #[.pointer (some ⟨g, 0, none⟩)] w fun e w' => e = .returned (.int .i64 r1) ∧ IsS63 w0 w' g s0_0 r2 ∧ Below w0.heap.size w0 w' ∧ KeepBut w w' g none := by
 have HI0 := Aside0.mk hI
 have HK := Aside0.mk (KeepBut.refl w g none)
 have HL := Aside0.mk hB.size
 clear hI
 have HW0 := Aside0.mk hB.size
 have HB := Aside0.mk hB
 clear hB
 have H : ((paygen_Deck_Next.f s0_0 s0_1 5).bind fun bt332 => (if bt332.1 = 0 then ((paygen_Deck_Pick.f s0_0 bt332.2 (([0, 0, 1, 100] : List Int))).bind fun bt337 => (some (bt337.1, bt337.2))) else ((paygen_Deck_Next.f s0_0 bt332.2 600000).bind fun bt339 => (some (bt339.1, bt339.2))))) = some (r1, r2) := h
 clear h
 replace H := Option.bind_eq_some_iff.mp H
 obtain ⟨⟨t332, t333⟩, A20, H⟩ := H
 try dsimp only at H
 have A2 := Aside0.mk A20
 clear A20
 by_cases c3 : t332 = 0
 ·
  rw [if_pos c3] at H
  have c3b0 : (t332 == 0) = true := beq_iff_eq.mpr c3
  have c3b1 : (t332 != 0) = false := bne_eq_false_iff_eq.mpr c3
  clear c3
  obtain ⟨y334, hy334⟩ : ∃ y_ : List Int, y_ = (([0, 0, 1, 100] : List Int)) := ⟨_, rfl⟩
  replace H : ((paygen_Deck_Pick.f s0_0 t333 y334).bind fun bt337 => (some (bt337.1, bt337.2))) = some (r1, r2) := by first | (rw [hy334]; with_reducible exact H) | (have H2_ := (Option.bind_some _ _).symm.trans H; rw [hy334]; with_reducible exact H2_) | (have H2_ := (Option.bind_some _ _).symm.trans H; with_reducible exact H2_) | with_reducible exact H | (rw [hy334]; exact H) | exact H
  have Ny334 := Aside0.mk hy334
  clear hy334
  replace H := Option.bind_eq_some_iff.mp H
  obtain ⟨⟨t337, t338⟩, A40, H⟩ := H
  dsimp only at H
  have A4 := Aside0.mk A40
  clear A40
  simp only [Option.some.injEq, Prod.mk.injEq] at H
  obtain ⟨rfl, rfl⟩ := H
  exact (by go_enter Try.func18, Try.ntmps18; go_wp2_with (first | ((with_reducible refine gate_callee (f := 17) rfl ?_); refine goesL_ (some 4) rfl rfl Try.func17 (by kernel_rfl) rfl #[.pointer (some ⟨g, 0, none⟩), .int .i64 5] rfl q1 ?_; (with_reducible refine (paygen_Deck_Next.calls g s0_0 s0_1 5 t332 t333 w0 _ ?side1 ?side2 A2.out).mono ?_); (case side1 => exact q3); (case side2 => exact q7); rintro e w_1 ⟨rfl, hi, hb, hk⟩; refine ⟨_, rfl, ?_⟩; have n0_ := Aside0.mk (KeepBut.trans q5 hk (.inl rfl)); have n1_ := Aside0.mk (hb); have n2_ := Aside0.mk (hi); clear HK; clear HB; clear HI0; have HK := n0_; have HB := n1_; have HI0 := n2_; clear n0_ n1_ n2_; (try clear hb); (try clear hb2); (try clear hk); (try clear hi)) | ((with_reducible refine gate_dst (N := 7) rfl ?_); refine Kd.R_lit (Kd.int .i64) _ 3 ?hg (N := 7) ?hd (xs := ([0, 0, 1, 100] : List Int)) (inner := [.int .i64 0, .int .i64 0, .int .i64 1, .int .i64 100]) (ok := fun _ => True) (okp := fun _ => True) ?hr ?hp (fun _ hk => hk) trivial (Below.refl _ _) (Nat.le_refl _) (by simp) ?_; (case hd => rfl); (case hg => rfl); (case hr => first | (go_simp; done) | (go_simp; rfl)); (case hp => exact (Reps.one (show Kd.M (Kd.int .i64) _ _ _ 0 [.int .i64 0] from rfl) (Reps.one (show Kd.M (Kd.int .i64) _ _ _ 0 [.int .i64 0] from rfl) (Reps.one (show Kd.M (Kd.int .i64) _ _ _ 1 [.int .i64 1] from rfl) (Reps.one (show Kd.M (Kd.int .i64) _ _ _ 100 [.int .i64 100] from rfl) (Reps.none _ _)))))); intro v335 w_2 ho_1 hb hg_ hnew_; clear hg_ hnew_; (first | rw [← Ny334.out] at ho_1 | (simp only [Int.reduceToNat] at ho_1; rw [← Ny334.out] at ho_1)); have n0_ := Aside0.mk (Kd.R_lower ho_1 (keep_size (w := w) (g := g) (row := none) q5)); have n1_ := Aside0.mk (IsS63.below q3 hb); have n2_ := Aside0.mk (KeepBut.trans q5 (KeepBut.of_below hb g none) (.inl rfl)); have n3_ := Aside0.mk (below_step q7 hb); clear HI0; clear HK; clear HB; have HO_1 := n0_; have HI0 := n1_; have HK := n2_; have HB := n3_; clear n0_ n1_ n2_ n3_; clear hb ho_1; obtain ⟨Ao_1, co_1, eo_1⟩ := Kd.R_slice HO_1.out; subst eo_1) | ((with_reducible refine gate_callee (f := 15) rfl ?_); refine goesL_ (some 8) rfl rfl Try.func15 (by kernel_rfl) rfl #[.pointer (some ⟨g, 0, none⟩), .slice Ao_1 y334.length co_1] rfl q1 ?_; (with_reducible refine (paygen_Deck_Pick.calls g s0_0 t333 _ _ y334 t337 t338 w0 _ ?side1 ?side2 ?side3 ?side4 ?side5 A4.out).mono ?_); (case side1 => exact q3); (case side2 => exact q7); (case side3 => exact q30); (case side4 => exact (Kd.R_reads' HO_1.out).2.1); (case side5 => exact far_slice (IsS63.own_ne HI0.out HO_1.out (by decide))); rintro e w_3 ⟨rfl, hi, hb, hk⟩; refine ⟨_, rfl, ?_⟩; have n0_ := Aside0.mk (Kd.R_mono (Kd.R_keep (IsS63.apart (show IsS63 w0 _ g s0_0 t333 from q3) q20 (by decide)) hk (fun _ h => h.2)) (fun _ h => h.1)); have n1_ := Aside0.mk (KeepBut.trans q5 hk (.inl rfl)); have n2_ := Aside0.mk (hb); have n3_ := Aside0.mk (hi); clear HO_1; clear HK; clear HB; clear HI0; have HO_1 := n0_; have HK := n1_; have HB := n2_; have HI0 := n3_; clear n0_ n1_ n2_ n3_; (try clear hb); (try clear hb2); (try clear hk); (try clear hi))); go_ret; exact ⟨by first | rfl | (simp [errW_none, errW_some] <;> rfl) | (simp [*, errW_none, errW_some] <;> rfl), q3, q7, q5⟩)
 ·
  rw [if_neg c3] at H
  have c3b0 : (t332 == 0) = false := beq_eq_false_iff_ne.mpr c3
  have c3b1 : (t332 != 0) = true := bne_iff_ne.mpr c3
  replace H := Option.bind_eq_some_iff.mp H
  obtain ⟨⟨t339, t340⟩, A100, H⟩ := H
  dsimp only at H
  have A10 := Aside0.mk A100
  clear A100
  simp only [Option.some.injEq, Prod.mk.injEq] at H
  obtain ⟨rfl, rfl⟩ := H
  exact (by go_enter Try.func18, Try.ntmps18; go_wp2_with (first | ((with_reducible refine gate_callee (f := 17) rfl ?_); refine goesL_ (some 4) rfl rfl Try.func17 (by kernel_rfl) rfl #[.pointer (some ⟨g, 0, none⟩), .int .i64 5] rfl q1 ?_; (with_reducible refine (paygen_Deck_Next.calls g s0_0 s0_1 5 t332 t333 w0 _ ?side1 ?side2 A2.out).mono ?_); (case side1 => exact q3); (case side2 => exact q7); rintro e w_1 ⟨rfl, hi, hb, hk⟩; refine ⟨_, rfl, ?_⟩; have n0_ := Aside0.mk (KeepBut.trans q5 hk (.inl rfl)); have n1_ := Aside0.mk (hb); have n2_ := Aside0.mk (hi); clear HK; clear HB; clear HI0; have HK := n0_; have HB := n1_; have HI0 := n2_; clear n0_ n1_ n2_; (try clear hb); (try clear hb2); (try clear hk); (try clear hi)) | ((with_reducible refine gate_callee (f := 17) rfl ?_); refine goesL_ (some 10) rfl rfl Try.func17 (by kernel_rfl) rfl #[.pointer (some ⟨g, 0, none⟩), .int .i64 600000] rfl q1 ?_; (with_reducible refine (paygen_Deck_Next.calls g s0_0 t333 600000 t339 t340 w0 _ ?side1 ?side2 A10.out).mono ?_); (case side1 => exact q3); (case side2 => exact q7); rintro e w_2 ⟨rfl, hi, hb, hk⟩; refine ⟨_, rfl, ?_⟩; have n0_ := Aside0.mk (KeepBut.trans q5 hk (.inl rfl)); have n1_ := Aside0.mk (hb); have n2_ := Aside0.mk (hi); clear HK; clear HB; clear HI0; have HK := n0_; have HB := n1_; have HI0 := n2_; clear n0_ n1_ n2_; (try clear hb); (try clear hb2); (try clear hk); (try clear hi))); go_ret; exact ⟨by first | rfl | (simp [errW_none, errW_some] <;> rfl) | (simp [*, errW_none, errW_some] <;> rfl), q3, q7, q5⟩)

end Go.Proofs.Ytbacfajhgmnjpaa.P
