/- Proved here: that the Go function payrollref30_Due computes the plain function of that name (the machine side of the laws, reworked from a print; no condition of its own). -/
import Derived.Test.YtbacfajhgmnjpaaProg
import Derived.Test.YtbacfajhgmnjpaaV1
import Derived.Test.YtbacfajhgmnjpaaV2
import Derived.Test.YtbacfajhgmnjpaaV3
import Derived.Test.YtbacfajhgmnjpaaFPRE
import Derived.Test.YtbacfajhgmnjpaaFref
import Derived.Test.YtbacfajhgmnjpaaFpayrollref30Valid
import Derived.Test.YtbacfajhgmnjpaaFpayrollref29Scale
namespace Go.Proofs.Ytbacfajhgmnjpaa.P
open Go.RowKit Go.Proofs.YtbacfajhgmnjpaaW.PrintWords Go.Proofs.YtbacfajhgmnjpaaW.PrintLast Go.Proofs.YtbacfajhgmnjpaaW.PrintMore
attribute [local go_sem] max2_int min2_int max_two min_two max_three min_three max_four min_four   -- for this text's walks alone
set_option linter.unusedVariables false
set_option linter.unusedSimpArgs false

def payrollref30_Due.j0 : Nat → Int → Int → Int → Bool → Int → List (S58) → Int → Int → Int → Int → List (S80) → Option (Int × Int)
 | 0, _, _, _, _, _, _, _, _, _, _, _ => none
 | k + 1, x1, x2, x3, x34, x452000, x452001, x452002, x452003, x452004, x452005, x452006 => if x34 = true then (some (0, 2)) else ((payrollref29_Scale.f k x452001 x2 x1).bind fun bt454 => (if x1 = 0 then (none) else ((payrollref30_tax.f k x452000 x452001 x452002 x452003 x452004 x452005 x452006 bt454.1 (wrap64 (Int.tdiv (wrap64 (x452002 * x2)) x1)) (wrap64 (Int.tdiv (wrap64 (x452003 * x2)) x1)) x3).bind fun t458 => (some (t458, 0)))))
def payrollref30_Due.f (k : Nat) (a0_0 : Int) (l0_1 : List (S58)) (a0_2 : Int) (a0_3 : Int) (a0_4 : Int) (a0_5 : Int) (l0_6 : List (S80)) (a1 : Int) (a2 : Int) (a3 : Int) : Option (Int × Int) := (payrollref30_Valid.f k a0_0 l0_1 a0_2 a0_3 a0_4 a0_5 l0_6).bind fun t452 => (if t452 = true then (if a1 < 1 then (payrollref30_Due.j0 k a1 a2 a3 true a0_0 l0_1 a0_2 a0_3 a0_4 a0_5 l0_6) else (if a1 > 53 then (payrollref30_Due.j0 k a1 a2 a3 true a0_0 l0_1 a0_2 a0_3 a0_4 a0_5 l0_6) else (if a2 < 1 then (payrollref30_Due.j0 k a1 a2 a3 true a0_0 l0_1 a0_2 a0_3 a0_4 a0_5 l0_6) else (if a2 > a1 then (payrollref30_Due.j0 k a1 a2 a3 true a0_0 l0_1 a0_2 a0_3 a0_4 a0_5 l0_6) else ((payrollref30_in.f a3 1000000000000).bind fun t453 => (payrollref30_Due.j0 k a1 a2 a3 (!t453) a0_0 l0_1 a0_2 a0_3 a0_4 a0_5 l0_6)))))) else (some (0, 1)))
def payrollref30_Due.T6 : Bool × List (List Nat × List Nat) := (true, [([], []), ([], []), ([], []), ([2], [2]), ([], []), ([3, 4], [3, 4]), ([], []), ([5, 6], [5, 6]), ([], []), ([8], [8]), ([], []), ([9, 10], [9, 10]), ([], []), ([11, 12], [11, 12]), ([], []), ([0, 1, 7, 13, 14], [0, 1, 7, 13, 14]), ([15, 15, 0, 1, 2, 3, 4, 5, 6, 7, 8, 9, 10, 11, 12, 13, 14, 15], [15]), ([16, 0, 1, 2, 3, 4, 5, 6, 7, 8, 9, 10, 11, 12, 13, 14, 15, 16], [])])
def payrollref30_Due.B6 : List Nat := [0, 0, 0, 4, 0, 28, 0, 124, 0, 256, 0, 1792, 0, 7936, 0, 32767, 65535, 131071]
theorem payrollref30_Due.tab6 : rtab .any (opsOf Try.f27 6) = payrollref30_Due.T6 := by kernel_rfl
theorem payrollref30_Due.bits6 : waitsOk payrollref30_Due.T6.2 payrollref30_Due.B6 = true := by kernel_rfl
set_option maxHeartbeats 8000000 in
set_option maxRecDepth 100000 in
theorem payrollref30_Due.calls (k : Nat) (a0_0 : Int) (A0_1 : Option Addr) (c0_1 : Nat) (l0_1 : List (S58)) (a0_2 : Int) (a0_3 : Int) (a0_4 : Int) (a0_5 : Int) (A0_6 : Option Addr) (c0_6 : Nat) (l0_6 : List (S80)) (a1 : Int) (a2 : Int) (a3 : Int) (r1 : Int) (r2 : Int) (w : World) (hr0_1 : Kd.C k58 w A0_1 l0_1.length l0_1) (hc0_1 : l0_1.length ≤ c0_1) (hr0_6 : Kd.C k80 w A0_6 l0_6.length l0_6) (hc0_6 : l0_6.length ≤ c0_6) (h : payrollref30_Due.f k a0_0 l0_1 a0_2 a0_3 a0_4 a0_5 l0_6 a1 a2 a3 = some (r1, r2)) :
  Calls Try.prog 27 #[.agg #[.int .i64 a0_0, .slice A0_1 l0_1.length c0_1, .int .i64 a0_2, .int .i64 a0_3, .int .i64 a0_4, .int .i64 a0_5, .slice A0_6 l0_6.length c0_6], .int .i64 a1, .int .i64 a2, .int .i64 a3] w fun e w' => e = .returned (.tuple #[.int .i64 r1, .int .i64 r2]) ∧ Below w.heap.size w w' := by
 have hu33 := Try.underlying33
 have HR0_1 := Aside0.mk hr0_1
 have HC0_1 := Aside0.mk hc0_1
 clear hr0_1 hc0_1
 have HR0_6 := Aside0.mk hr0_6
 have HC0_6 := Aside0.mk hc0_6
 clear hr0_6 hc0_6
 have HB := Aside0.mk (Below.refl w.heap.size w)
 have H : ((payrollref30_Valid.f k a0_0 l0_1 a0_2 a0_3 a0_4 a0_5 l0_6).bind fun t452 => (if t452 = true then (if a1 < 1 then (payrollref30_Due.j0 k a1 a2 a3 true a0_0 l0_1 a0_2 a0_3 a0_4 a0_5 l0_6) else (if a1 > 53 then (payrollref30_Due.j0 k a1 a2 a3 true a0_0 l0_1 a0_2 a0_3 a0_4 a0_5 l0_6) else (if a2 < 1 then (payrollref30_Due.j0 k a1 a2 a3 true a0_0 l0_1 a0_2 a0_3 a0_4 a0_5 l0_6) else (if a2 > a1 then (payrollref30_Due.j0 k a1 a2 a3 true a0_0 l0_1 a0_2 a0_3 a0_4 a0_5 l0_6) else ((payrollref30_in.f a3 1000000000000).bind fun t453 => (payrollref30_Due.j0 k a1 a2 a3 (!t453) a0_0 l0_1 a0_2 a0_3 a0_4 a0_5 l0_6)))))) else (some (0, 1)))) = some (r1, r2) := h
 clear h
 replace H := Option.bind_eq_some_iff.mp H
 obtain ⟨t452, A50, H⟩ := H
 try dsimp only at H
 have A5 := Aside0.mk A50
 clear A50
 by_cases c6 : t452 = true
 ·
  subst c6
  rw [if_pos rfl] at H
  have HC7 := Aside0.mk H
  clear H
  go_enter Try.func27, Try.ntmps27
  go_upto_region 3 with (first | ((with_reducible refine gate_dst (N := 4) rfl ?_); refine box_event ?hg (N := 4) ?hd (cs := #[.int .i64 a0_0, .slice A0_1 l0_1.length c0_1, .int .i64 a0_2, .int .i64 a0_3, .int .i64 a0_4, .int .i64 a0_5, .slice A0_6 l0_6.length c0_6]) (t := 33) ?hr ?_; (case hd => rfl); (case hg => rfl); (case hr => first | (go_simp; done) | (go_simp; rfl)); intro gb451 hg w8 hbox hb; have n0_ := Aside0.mk (below_step q0 hb); have n1_ := Aside0.mk (hbox); have n2_ := Aside0.mk ((by rw [hg]; exact (below_size q0) : w.heap.size ≤ gb451)); have n3_ := Aside0.mk ((by rw [hg]; exact (below_size q0) : w.heap.size ≤ gb451)); clear HB; have HB := n0_; have BK451 := n1_; have GW451 := n2_; have GE451 := n3_; clear n0_ n1_ n2_ n3_; clear hb hbox hg; obtain ⟨hcz9_0, hcz9_1, hcz9_2, hcz9_3, hcz9_4, hcz9_5, hcz9_6, hfz9_0, hfz9_1, hfz9_2, hfz9_3, hfz9_4, hfz9_5, hfz9_6⟩ := blk7 BK451.out) | ((with_reducible refine gate_callee (f := 46) rfl ?_); refine goesL_ (some 13) rfl rfl Try.func46 (by kernel_rfl) rfl #[.agg #[.int .i64 a0_0, .slice A0_1 l0_1.length c0_1, .int .i64 a0_2, .int .i64 a0_3, .int .i64 a0_4, .int .i64 a0_5, .slice A0_6 l0_6.length c0_6]] rfl q1 ?_; (with_reducible refine (payrollref30_Valid.calls k a0_0 _ _ l0_1 a0_2 a0_3 a0_4 a0_5 _ _ l0_6 true _ ?side1 ?side2 ?side3 ?side4 A5.out).mono ?_); (case side1 => exact q12); (case side2 => exact HC0_1.out); (case side3 => exact q25); (case side4 => exact HC0_6.out); rintro e w10 ⟨rfl, hb⟩; refine ⟨_, rfl, ?_⟩; have n0_ := Aside0.mk (blk_below BK451.out hb); have n1_ := Aside0.mk (below_step q68 hb); clear BK451; clear HB; have BK451 := n0_; have HB := n1_; clear n0_ n1_; (try clear hb); (try clear hb2); (try clear hk); (try clear hi)))
  (try simp only [Act.put, List.setIfInBounds_toArray, List.set_cons_zero, List.set_cons_succ])
  go_cut [34] (fun v34 wc => ∃ (kq : Nat) (x34_6 : Bool), v34 = .bool x34_6 ∧ Aside0 (payrollref30_Due.j0 kq a1 a2 a3 x34_6 a0_0 l0_1 a0_2 a0_3 a0_4 a0_5 l0_6 = some (r1, r2)) ∧ Aside0 (kq ≤ k) ∧ Aside0 (wc.heap[gb451]? = some (.cells #[.int .i64 a0_0, (.slice A0_1 l0_1.length c0_1), .int .i64 a0_2, .int .i64 a0_3, .int .i64 a0_4, .int .i64 a0_5, (.slice A0_6 l0_6.length c0_6)] 33 (0, 0))) ∧ Aside0 (Below w.heap.size w wc))
  case first =>
   have H := HC7.out
   clear HC7
   by_cases c11 : a1 < 1
   ·
    rw [if_pos c11] at H
    have c11b0 : decide (a1 < 1) = true := decide_eq_true c11
    clear c11
    (first | rw [c11b0] | (simp only [i64_w, i32_w]; rw [c11b0]) | skip)
    have H' := Aside0.mk H
    clear H
    go_wp2
    go_meet
    case rel => exact ⟨_, (true), q26, H', ⟨by first | omega | exact Nat.le_refl _⟩, ⟨q117⟩, ⟨q68⟩⟩
   ·
    rw [if_neg c11] at H
    have c11b0 : decide (a1 < 1) = false := decide_eq_false c11
    clear c11
    (first | rw [c11b0] | (simp only [i64_w, i32_w]; rw [c11b0]) | skip)
    by_cases c12 : a1 > 53
    ·
     rw [if_pos c12] at H
     have c12b0 : decide (53 < a1) = true := decide_eq_true c12
     clear c12
     have H' := Aside0.mk H
     clear H
     go_wp2
     go_meet
     case rel => exact ⟨_, (true), q26, H', ⟨by first | omega | exact Nat.le_refl _⟩, ⟨q117⟩, ⟨q68⟩⟩
    ·
     rw [if_neg c12] at H
     have c12b0 : decide (53 < a1) = false := decide_eq_false c12
     clear c12
     by_cases c13 : a2 < 1
     ·
      rw [if_pos c13] at H
      have c13b0 : decide (a2 < 1) = true := decide_eq_true c13
      clear c13
      have H' := Aside0.mk H
      clear H
      go_wp2
      go_meet
      case rel => exact ⟨_, (true), q26, H', ⟨by first | omega | exact Nat.le_refl _⟩, ⟨q117⟩, ⟨q68⟩⟩
     ·
      rw [if_neg c13] at H
      have c13b0 : decide (a2 < 1) = false := decide_eq_false c13
      clear c13
      by_cases c14 : a2 > a1
      ·
       rw [if_pos c14] at H
       have c14b0 : decide (a1 < a2) = true := decide_eq_true c14
       clear c14
       have H' := Aside0.mk H
       clear H
       go_wp2
       go_meet
       case rel => exact ⟨_, (true), q26, H', ⟨by first | omega | exact Nat.le_refl _⟩, ⟨q117⟩, ⟨q68⟩⟩
      ·
       rw [if_neg c14] at H
       have c14b0 : decide (a1 < a2) = false := decide_eq_false c14
       clear c14
       replace H := Option.bind_eq_some_iff.mp H
       obtain ⟨t453, A150, H⟩ := H
       try dsimp only at H
       have A15 := Aside0.mk A150
       clear A150
       have H' := Aside0.mk H
       clear H
       go_wp2_with (first | (go_at_call 47; (with_reducible refine (payrollref30_in.calls a3 1000000000000 t453 _ A15.out).mono ?_); rintro e w' ⟨rfl, ⟨nd, rfl⟩⟩))
       go_meet
       case rel => exact ⟨_, (!t453), q26, H', ⟨by first | omega | exact Nat.le_refl _⟩, ⟨q117⟩, ⟨q68⟩⟩
  case rest =>
   clear HC7
   try clear c1
   try clear c2
   try clear p2
   try clear c4
   try clear c6
   try clear c11
   try clear c11b0
   try clear c12
   try clear c12b0
   try clear c13
   try clear c13b0
   try clear c14
   try clear c14b0
   try clear hcz9_0
   try clear hcz9_1
   try clear hcz9_2
   try clear hcz9_3
   try clear hcz9_4
   try clear hcz9_5
   try clear hcz9_6
   try clear hfz9_0
   try clear hfz9_1
   try clear hfz9_2
   try clear hfz9_3
   try clear hfz9_4
   try clear hfz9_5
   try clear hfz9_6
   obtain ⟨kq, x34_6, rfl, HA, HJ6, BK451, HB⟩ := hcut
   cases kq with
   | zero => exact absurd HA.out (by simp [payrollref30_Due.j0])
   | succ kj6 =>
    have H := HA.out
    clear HA
    simp only [payrollref30_Due.j0] at H
    by_cases c16 : x34_6 = true
    ·
     subst c16
     rw [if_pos rfl] at H
     simp only [Option.some.injEq, Prod.mk.injEq] at H
     obtain ⟨rfl, rfl⟩ := H
     go_wp2
     go_ret2
     exact ⟨by first | rfl | (simp [errW_none, errW_some] <;> rfl) | (simp [*, errW_none, errW_some] <;> rfl), q68⟩
    ·
     replace c16 := Bool.eq_false_iff.mpr c16
     subst c16
     rw [if_neg (show ¬ (false = true) by decide)] at H
     replace H := Option.bind_eq_some_iff.mp H
     obtain ⟨⟨t454, t455⟩, A170, H⟩ := H
     try dsimp only at H
     have A17 := Aside0.mk A170
     clear A170
     by_cases c18 : a1 = 0
     ·
      rw [if_pos c18] at H
      exact absurd H (by simp)
     ·
      rw [if_neg c18] at H
      have c18b0 : (a1 == 0) = false := beq_eq_false_iff_ne.mpr c18
      have c18b1 : (a1 != 0) = true := bne_iff_ne.mpr c18
      replace H := Option.bind_eq_some_iff.mp H
      obtain ⟨t458, A190, H⟩ := H
      have A19 := Aside0.mk A190
      clear A190
      simp only [Option.some.injEq, Prod.mk.injEq] at H
      obtain ⟨rfl, rfl⟩ := H
      obtain ⟨hcz20_0, hcz20_1, hcz20_2, hcz20_3, hcz20_4, hcz20_5, hcz20_6, hfz20_0, hfz20_1, hfz20_2, hfz20_3, hfz20_4, hfz20_5, hfz20_6⟩ := blk7 BK451.out
      try go_wp2_with (first | ((with_reducible refine gate_callee (f := 53) rfl ?_); refine goesL_ (some 40) rfl rfl Try.func53 (by kernel_rfl) rfl #[.slice A0_1 l0_1.length c0_1, .int .i64 a2, .int .i64 a1] rfl q1 ?_; (with_reducible refine (payrollref29_Scale.calls kj6 _ _ l0_1 a2 a1 t454 t455 _ ?side1 ?side2 A17.out).mono ?_); (case side1 => exact q12); (case side2 => exact HC0_1.out); rintro e w21 ⟨v456, rfl, ho0, hb⟩; refine ⟨_, rfl, ?_⟩; have n0_ := Aside0.mk (Kd.R_lower ho0 (below_size q68)); have n1_ := Aside0.mk (blk_below BK451.out hb); have n2_ := Aside0.mk (below_step q68 hb); clear BK451; clear HB; have HO457 := n0_; have BK451 := n1_; have HB := n2_; clear n0_ n1_ n2_; (try clear hb); (try clear hb2); (try clear hk); (try clear hi); (try clear ho0)))
      have n0_ := Aside0.mk (Kd.R_drew HO457.out)
      have n1_ := Aside0.mk (blk_drew BK451.out)
      have n2_ := Aside0.mk (below_drew1 HB.out)
      clear HO457
      clear BK451
      clear HB
      have HO457 := n0_
      have BK451 := n1_
      have HB := n2_
      clear n0_ n1_ n2_
      obtain ⟨Ao23, co23, eo23⟩ := Kd.R_slice HO457.out
      (first | subst eo23 | (injection eo23 with f1_ f2_ f3_; have f4_ := f1_.symm; have f5_ := f3_.symm; clear f1_ f2_ f3_; subst f4_; subst f5_))
      refine start_ (n := 18) (S := fun w' => w'.cell? ⟨gb451, 0, none⟩ = some (.int .i64 a0_0) ∧ w'.cell? ⟨gb451, 1, none⟩ = some (.slice A0_1 l0_1.length c0_1) ∧ w'.cell? ⟨gb451, 2, none⟩ = some (.int .i64 a0_2) ∧ w'.cell? ⟨gb451, 3, none⟩ = some (.int .i64 a0_3) ∧ w'.cell? ⟨gb451, 4, none⟩ = some (.int .i64 a0_4) ∧ w'.cell? ⟨gb451, 5, none⟩ = some (.int .i64 a0_5) ∧ w'.cell? ⟨gb451, 6, none⟩ = some (.slice A0_6 l0_6.length c0_6)) (ds := []) #[false, false, false, false, false, false, false, false, false, false, false, false, false, false, false, false, false, false] (by kernel_rfl) rfl rfl ⟨(blk_cell BK451.out 0).trans rfl, (blk_cell BK451.out 1).trans rfl, (blk_cell BK451.out 2).trans rfl, (blk_cell BK451.out 3).trans rfl, (blk_cell BK451.out 4).trans rfl, (blk_cell BK451.out 5).trans rfl, (blk_cell BK451.out 6).trans rfl⟩ (fun hHeld => ?_); refine with_tabW payrollref30_Due.tab6 payrollref30_Due.bits6 (fun HT_ HW_ => ?_)
      generalize w21.drew = w22 at HO457 BK451 HB hHeld ⊢
      refine pv_ (i := 1) (N := some 44) #[false, true, false, false, false, false, false, false, false, false, false, false, false, false, false, false, false, false] (h := ?_)
      refine pv_ (i := 2) (N := some 45) #[false, true, true, false, false, false, false, false, false, false, false, false, false, false, false, false, false, false] (h := ?_)
      refine pv_ (i := 4) (N := some 47) #[false, true, true, false, true, false, false, false, false, false, false, false, false, false, false, false, false, false] (h := ?_)
      refine pv_ (i := 6) (N := some 49) #[false, true, true, false, true, false, true, false, false, false, false, false, false, false, false, false, false, false] (h := ?_)
      refine pv_ (i := 8) (N := some 51) #[false, true, true, false, true, false, true, false, true, false, false, false, false, false, false, false, false, false] (h := ?_)
      refine pv_ (i := 10) (N := some 53) #[false, true, true, false, true, false, true, false, true, false, true, false, false, false, false, false, false, false] (h := ?_)
      refine pv_ (i := 12) (N := some 55) #[false, true, true, false, true, false, true, false, true, false, true, false, true, false, false, false, false, false] (h := ?_)
      refine pv_ (i := 14) (N := some 57) #[false, true, true, false, true, false, true, false, true, false, true, false, true, false, true, false, false, false] (h := ?_)
      refine take_ (i := 0) (N := some 43) (v := ?_) (a' := ?_) #[true, true, true, false, true, false, true, false, true, false, true, false, true, false, true, false, false, false] rfl rfl (take_ofW HT_.out HW_.out (by kernel_rfl)) (fun _ _ _ h => h) (Or.inl ⟨by rfl, ?_⟩) hHeld ?_ ?_
      rotate_left
      ·
       rintro w' ⟨s0, s1, s2, s3, s4, s5, s6⟩
       go_simp
       with_reducible rfl
      rotate_left
      ·
       simp only [Act.put, List.setIfInBounds_toArray, List.set_cons_zero, List.set_cons_succ, i64_w, i32_w]
       rfl
      refine take_ (i := 3) (N := some 46) (v := ?_) (a' := ?_) #[true, true, true, true, true, false, true, false, true, false, true, false, true, false, true, false, false, false] rfl rfl (take_ofW HT_.out HW_.out (by kernel_rfl)) (fun _ _ _ h => h) (Or.inl ⟨by rfl, ?_⟩) hHeld ?_ ?_
      rotate_left
      ·
       rintro w' ⟨s0, s1, s2, s3, s4, s5, s6⟩
       go_simp
       with_reducible rfl
      rotate_left
      ·
       simp only [Act.put, List.setIfInBounds_toArray, List.set_cons_zero, List.set_cons_succ, i64_w, i32_w]
       rfl
      refine pv_ (i := 5) (N := some 48) #[true, true, true, true, true, true, true, false, true, false, true, false, true, false, true, false, false, false] (h := ?_)
      refine pv_ (i := 7) (N := some 50) #[true, true, true, true, true, true, true, true, true, false, true, false, true, false, true, false, false, false] (h := ?_)
      refine take_ (i := 9) (N := some 52) (v := ?_) (a' := ?_) #[true, true, true, true, true, true, true, true, true, true, true, false, true, false, true, false, false, false] rfl rfl (take_ofW HT_.out HW_.out (by kernel_rfl)) (fun _ _ _ h => h) (Or.inl ⟨by rfl, ?_⟩) hHeld ?_ ?_
      rotate_left
      ·
       rintro w' ⟨s0, s1, s2, s3, s4, s5, s6⟩
       go_simp
       with_reducible rfl
      rotate_left
      ·
       simp only [Act.put, List.setIfInBounds_toArray, List.set_cons_zero, List.set_cons_succ, i64_w, i32_w]
       rfl
      refine pv_ (i := 11) (N := some 54) #[true, true, true, true, true, true, true, true, true, true, true, true, true, false, true, false, false, false] (h := ?_)
      refine pv_ (i := 13) (N := some 56) #[true, true, true, true, true, true, true, true, true, true, true, true, true, true, true, false, false, false] (h := ?_)
      refine one_ (i := 15) (N := some 58) #[true, true, true, true, true, true, true, true, true, true, true, true, true, true, true, true, false, false] rfl rfl (one_of HT_.out (by kernel_rfl)) (by decide) (fun K hK => ?_)
      refine goes_ Try.func51 (by kernel_rfl) rfl #[.agg #[.int .i64 a0_0, .slice A0_1 l0_1.length c0_1, .int .i64 a0_2, .int .i64 a0_3, .int .i64 a0_4, .int .i64 a0_5, .slice A0_6 l0_6.length c0_6], .slice Ao23 t454.length co23, .int .i64 (wrap64 (Int.tdiv (wrap64 (a0_2 * a2)) a1)), .int .i64 (wrap64 (Int.tdiv (wrap64 (a0_3 * a2)) a1)), .int .i64 a3] (by rfl) rfl rfl q1 ?_
      with_reducible refine (payrollref30_tax.calls kj6 a0_0 _ _ l0_1 a0_2 a0_3 a0_4 a0_5 _ _ l0_6 _ _ t454 (wrap64 (Int.tdiv (wrap64 (a0_2 * a2)) a1)) (wrap64 (Int.tdiv (wrap64 (a0_3 * a2)) a1)) a3 t458 _ ?side1 ?side2 ?side3 ?side4 ?side5 ?side6 A19.out).mono ?_
      (case side1 => exact q12)
      (case side2 => exact HC0_1.out)
      (case side3 => exact q25)
      (case side4 => exact HC0_6.out)
      (case side5 => exact (by repeat (first | exact (Kd.R_reads' HO457.out).2.2 | (with_reducible refine Kd.C_alloc ?_ _) | (with_reducible refine Kd.C_drewN ?_ _) | (with_reducible refine Kd.C_drew ?_))))
      (case side6 => exact (Kd.R_reads' HO457.out).2.1)
      rintro e w24 ⟨rfl, hb⟩
      refine ⟨_, rfl, ?_⟩
      have n0_ := Aside0.mk (Kd.R_below (by (with_reducible repeat (first | apply Kd.R_alloc | apply Kd.R_drewN | apply Kd.R_drew)); exact HO457.out) hb)
      have n1_ := Aside0.mk (blk_below BK451.out hb)
      have n2_ := Aside0.mk (below_step q68 hb)
      clear HO457
      clear BK451
      clear HB
      have HO457 := n0_
      have BK451 := n1_
      have HB := n2_
      clear n0_ n1_ n2_
      (try clear hb)
      (try clear hb2)
      (try clear hk)
      (try clear hi)
      refine hK.out _ _ ⟨(blk_cell BK451.out 0).trans rfl, (blk_cell BK451.out 1).trans rfl, (blk_cell BK451.out 2).trans rfl, (blk_cell BK451.out 3).trans rfl, (blk_cell BK451.out 4).trans rfl, (blk_cell BK451.out 5).trans rfl, (blk_cell BK451.out 6).trans rfl⟩ (fun hHeld => ?_)
      clear hK K
      refine norm_ (a' := ?_) ?_ ?_
      rotate_left
      ·
       show Act.put _ (some 58) _ = _
       simp only [Act.put, List.setIfInBounds_toArray, List.set_cons_zero, List.set_cons_succ, i64_w, i32_w]
       rfl
      refine pv_ (i := 16) (N := some 8) #[true, true, true, true, true, true, true, true, true, true, true, true, true, true, true, true, true, false] (h := ?_)
      refine pv_ (i := 17) (N := some 9) #[true, true, true, true, true, true, true, true, true, true, true, true, true, true, true, true, true, true] (h := ?_)
      refine done_ (done_of HT_.out (by kernel_rfl)) ?_
      try go_wp2
      go_ret2
      exact ⟨by first | rfl | (simp [errW_none, errW_some] <;> rfl) | (simp [*, errW_none, errW_some] <;> rfl), q68⟩
 ·
  replace c6 := Bool.eq_false_iff.mpr c6
  subst c6
  rw [if_neg (show ¬ (false = true) by decide)] at H
  simp only [Option.some.injEq, Prod.mk.injEq] at H
  obtain ⟨rfl, rfl⟩ := H
  exact (by go_enter Try.func27, Try.ntmps27; go_wp2_with (first | ((with_reducible refine gate_dst (N := 4) rfl ?_); refine box_event ?hg (N := 4) ?hd (cs := #[.int .i64 a0_0, .slice A0_1 l0_1.length c0_1, .int .i64 a0_2, .int .i64 a0_3, .int .i64 a0_4, .int .i64 a0_5, .slice A0_6 l0_6.length c0_6]) (t := 33) ?hr ?_; (case hd => rfl); (case hg => rfl); (case hr => first | (go_simp; done) | (go_simp; rfl)); intro gb451 hg w_1 hbox hb; have n0_ := Aside0.mk (below_step q0 hb); have n1_ := Aside0.mk (hbox); have n2_ := Aside0.mk ((by rw [hg]; exact (below_size q0) : w.heap.size ≤ gb451)); have n3_ := Aside0.mk ((by rw [hg]; exact (below_size q0) : w.heap.size ≤ gb451)); clear HB; have HB := n0_; have BK451 := n1_; have GW451 := n2_; have GE451 := n3_; clear n0_ n1_ n2_ n3_; clear hb hbox hg; obtain ⟨hcz_1, hcz_2, hcz_3, hcz_4, hcz_5, hcz_6, hcz_7, hfz_1, hfz_2, hfz_3, hfz_4, hfz_5, hfz_6, hfz_7⟩ := blk7 BK451.out) | ((with_reducible refine gate_callee (f := 46) rfl ?_); refine goesL_ (some 13) rfl rfl Try.func46 (by kernel_rfl) rfl #[.agg #[.int .i64 a0_0, .slice A0_1 l0_1.length c0_1, .int .i64 a0_2, .int .i64 a0_3, .int .i64 a0_4, .int .i64 a0_5, .slice A0_6 l0_6.length c0_6]] rfl q1 ?_; (with_reducible refine (payrollref30_Valid.calls k a0_0 _ _ l0_1 a0_2 a0_3 a0_4 a0_5 _ _ l0_6 false _ ?side1 ?side2 ?side3 ?side4 A5.out).mono ?_); (case side1 => exact q12); (case side2 => exact HC0_1.out); (case side3 => exact q25); (case side4 => exact HC0_6.out); rintro e w_2 ⟨rfl, hb⟩; refine ⟨_, rfl, ?_⟩; have n0_ := Aside0.mk (blk_below BK451.out hb); have n1_ := Aside0.mk (below_step q68 hb); clear BK451; clear HB; have BK451 := n0_; have HB := n1_; clear n0_ n1_; (try clear hb); (try clear hb2); (try clear hk); (try clear hi))); go_ret2; exact ⟨by first | rfl | (simp [errW_none, errW_some] <;> rfl) | (simp [*, errW_none, errW_some] <;> rfl), q68⟩)

end Go.Proofs.Ytbacfajhgmnjpaa.P
