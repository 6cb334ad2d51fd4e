/- Proved here: that the Go function withholding_Cumulative computes the plain function of that name (the machine side of the laws, reworked from a print; no condition of its own). -/
import Derived.Test.YtbacfajhgmnjpaaProg
import Derived.Test.YtbacfajhgmnjpaaV1
import Derived.Test.YtbacfajhgmnjpaaV2
import Derived.Test.YtbacfajhgmnjpaaFPRE
import Derived.Test.YtbacfajhgmnjpaaFwithholdingValid
import Derived.Test.YtbacfajhgmnjpaaFwithholdingDue
namespace Go.Proofs.Ytbacfajhgmnjpaa.P
open Go.RowKit Go.Proofs.YtbacfajhgmnjpaaW.PrintWords Go.Proofs.YtbacfajhgmnjpaaW.PrintLast Go.Proofs.YtbacfajhgmnjpaaW.PrintMore
attribute [local go_sem] max2_int min2_int max_two min_two max_three min_three max_four min_four   -- for this text's walks alone
set_option linter.unusedVariables false
set_option linter.unusedSimpArgs false

def withholding_Cumulative.j0 : Nat → Int → Int → Int → Int → Bool → Int → List (S58) → Int → Int → Int → Int → List (S80) → Option (Int × Int)
 | 0, _, _, _, _, _, _, _, _, _, _, _, _ => none
 | k + 1, x1, x2, x3, x4, x22, x179000, x179001, x179002, x179003, x179004, x179005, x179006 => if x22 = true then (some (0, 2)) else ((withholding_Due.f k x179000 x179001 x179002 x179003 x179004 x179005 x179006 x1 x2 x3).bind fun bt180 => (if bt180.2 = 0 then (some (wrap64 (bt180.1 - x4), 0)) else (some (0, bt180.2))))
def withholding_Cumulative.f (k : Nat) (a0_0 : Int) (l0_1 : List (S58)) (a0_2 : Int) (a0_3 : Int) (a0_4 : Int) (a0_5 : Int) (l0_6 : List (S80)) (a1 : Int) (a2 : Int) (a3 : Int) (a4 : Int) : Option (Int × Int) := (withholding_Valid.f k a0_0 l0_1 a0_2 a0_3 a0_4 a0_5 l0_6).bind fun t179 => (if t179 = true then (if a4 < (-1000000000000) then (withholding_Cumulative.j0 k a1 a2 a3 a4 true a0_0 l0_1 a0_2 a0_3 a0_4 a0_5 l0_6) else (withholding_Cumulative.j0 k a1 a2 a3 a4 (decide (a4 > 1000000000000)) a0_0 l0_1 a0_2 a0_3 a0_4 a0_5 l0_6)) else (some (0, 1)))
theorem withholding_Cumulative.mono_l : ∀ k, (∀ y0 y1 y2 y3 y4 y5 y6 y7 y8 y9 y10 y11, LeO (withholding_Cumulative.j0 k y0 y1 y2 y3 y4 y5 y6 y7 y8 y9 y10 y11) (withholding_Cumulative.j0 (k + 1) y0 y1 y2 y3 y4 y5 y6 y7 y8 y9 y10 y11))
 | 0 => fun _ _ _ _ _ _ _ _ _ _ _ _ r h => by simp [withholding_Cumulative.j0] at h
 | k + 1 => by
  have ih0 := withholding_Cumulative.mono_l k
  ·
   intro y0 y1 y2 y3 y4 y5 y6 y7 y8 y9 y10 y11
   unfold withholding_Cumulative.j0
   repeat' first
   | (with_reducible exact ih0 _ _ _ _ _ _ _ _ _ _ _ _)
   | (with_reducible exact withholding_Due.mono _ _ _ _ _ _ _ _ _ _ _)
   | (with_reducible exact withholding_Valid.mono _ _ _ _ _ _ _ _)
   | (with_reducible exact LeO.refl _)
   | (with_reducible exact LeO.none _)
   | (with_reducible refine LeO.ite ?_ ?_)
   | (with_reducible refine LeO.bind ?_ (fun _ => ?_))
   | exact ih0 _ _ _ _ _ _ _ _ _ _ _ _
   | exact withholding_Due.mono _ _ _ _ _ _ _ _ _ _ _
   | exact withholding_Valid.mono _ _ _ _ _ _ _ _
   | exact LeO.none _
   | refine LeO.ite ?_ ?_
   | refine LeO.bind ?_ (fun _ => ?_)
theorem withholding_Cumulative.mono : ∀ a0 a1 a2 a3 a4 a5 a6 a7 a8 a9 a10 k, LeO (withholding_Cumulative.f k a0 a1 a2 a3 a4 a5 a6 a7 a8 a9 a10) (withholding_Cumulative.f (k + 1) a0 a1 a2 a3 a4 a5 a6 a7 a8 a9 a10) := by
 intro a0 a1 a2 a3 a4 a5 a6 a7 a8 a9 a10 k
 have ih0 := withholding_Cumulative.mono_l k
 unfold withholding_Cumulative.f
 repeat' first
   | (with_reducible exact ih0 _ _ _ _ _ _ _ _ _ _ _ _)
   | (with_reducible exact withholding_Due.mono _ _ _ _ _ _ _ _ _ _ _)
   | (with_reducible exact withholding_Valid.mono _ _ _ _ _ _ _ _)
   | (with_reducible exact LeO.refl _)
   | (with_reducible exact LeO.none _)
   | (with_reducible refine LeO.ite ?_ ?_)
   | (with_reducible refine LeO.bind ?_ (fun _ => ?_))
   | exact ih0 _ _ _ _ _ _ _ _ _ _ _ _
   | exact withholding_Due.mono _ _ _ _ _ _ _ _ _ _ _
   | exact withholding_Valid.mono _ _ _ _ _ _ _ _
   | exact LeO.none _
   | refine LeO.ite ?_ ?_
   | refine LeO.bind ?_ (fun _ => ?_)
set_option maxHeartbeats 8000000 in
set_option maxRecDepth 100000 in
theorem withholding_Cumulative.calls (k : Nat) (a0_0 : Int) (A0_1 : Option Addr) (c0_1 : Nat) (l0_1 : List (S58)) (a0_2 : Int) (a0_3 : Int) (a0_4 : Int) (a0_5 : Int) (A0_6 : Option Addr) (c0_6 : Nat) (l0_6 : List (S80)) (a1 : Int) (a2 : Int) (a3 : Int) (a4 : Int) (r1 : Int) (r2 : Int) (w : World) (hr0_1 : Kd.C k58 w A0_1 l0_1.length l0_1) (hc0_1 : l0_1.length ≤ c0_1) (hr0_6 : Kd.C k80 w A0_6 l0_6.length l0_6) (hc0_6 : l0_6.length ≤ c0_6) (h : withholding_Cumulative.f k a0_0 l0_1 a0_2 a0_3 a0_4 a0_5 l0_6 a1 a2 a3 a4 = some (r1, r2)) :
  Calls Try.prog 28 #[.agg #[.int .i64 a0_0, .slice A0_1 l0_1.length c0_1, .int .i64 a0_2, .int .i64 a0_3, .int .i64 a0_4, .int .i64 a0_5, .slice A0_6 l0_6.length c0_6], .int .i64 a1, .int .i64 a2, .int .i64 a3, .int .i64 a4] w fun e w' => e = .returned (.tuple #[.int .i64 r1, .int .i64 r2]) ∧ Below w.heap.size w w' := by
 have hu33 := Try.underlying33
 have HR0_1 := Aside0.mk hr0_1
 have HC0_1 := Aside0.mk hc0_1
 clear hr0_1 hc0_1
 have HR0_6 := Aside0.mk hr0_6
 have HC0_6 := Aside0.mk hc0_6
 clear hr0_6 hc0_6
 have HB := Aside0.mk (Below.refl w.heap.size w)
 have H : ((withholding_Valid.f k a0_0 l0_1 a0_2 a0_3 a0_4 a0_5 l0_6).bind fun t179 => (if t179 = true then (if a4 < (-1000000000000) then (withholding_Cumulative.j0 k a1 a2 a3 a4 true a0_0 l0_1 a0_2 a0_3 a0_4 a0_5 l0_6) else (withholding_Cumulative.j0 k a1 a2 a3 a4 (decide (a4 > 1000000000000)) a0_0 l0_1 a0_2 a0_3 a0_4 a0_5 l0_6)) else (some (0, 1)))) = some (r1, r2) := h
 clear h
 replace H := Option.bind_eq_some_iff.mp H
 obtain ⟨t179, A60, H⟩ := H
 try dsimp only at H
 have A6 := Aside0.mk A60
 clear A60
 by_cases c7 : t179 = true
 ·
  subst c7
  rw [if_pos rfl] at H
  have HC8 := Aside0.mk H
  clear H
  go_enter Try.func28, Try.ntmps28
  go_upto_region 3 with (first | ((with_reducible refine gate_dst (N := 5) rfl ?_); refine box_event ?hg (N := 5) ?hd (cs := #[.int .i64 a0_0, .slice A0_1 l0_1.length c0_1, .int .i64 a0_2, .int .i64 a0_3, .int .i64 a0_4, .int .i64 a0_5, .slice A0_6 l0_6.length c0_6]) (t := 33) ?hr ?_; (case hd => rfl); (case hg => rfl); (case hr => first | (go_simp; done) | (go_simp; rfl)); intro gb178 hg w9 hbox hb; have n0_ := Aside0.mk (below_step q0 hb); have n1_ := Aside0.mk (hbox); have n2_ := Aside0.mk ((by rw [hg]; exact (below_size q0) : w.heap.size ≤ gb178)); have n3_ := Aside0.mk ((by rw [hg]; exact (below_size q0) : w.heap.size ≤ gb178)); clear HB; have HB := n0_; have BK178 := n1_; have GW178 := n2_; have GE178 := n3_; clear n0_ n1_ n2_ n3_; clear hb hbox hg; obtain ⟨hcz10_0, hcz10_1, hcz10_2, hcz10_3, hcz10_4, hcz10_5, hcz10_6, hfz10_0, hfz10_1, hfz10_2, hfz10_3, hfz10_4, hfz10_5, hfz10_6⟩ := blk7 BK178.out) | ((with_reducible refine gate_callee (f := 40) rfl ?_); refine goesL_ (some 15) rfl rfl Try.func40 (by kernel_rfl) rfl #[.agg #[.int .i64 a0_0, .slice A0_1 l0_1.length c0_1, .int .i64 a0_2, .int .i64 a0_3, .int .i64 a0_4, .int .i64 a0_5, .slice A0_6 l0_6.length c0_6]] rfl q1 ?_; (with_reducible refine (withholding_Valid.calls k a0_0 _ _ l0_1 a0_2 a0_3 a0_4 a0_5 _ _ l0_6 true _ ?side1 ?side2 ?side3 ?side4 A6.out).mono ?_); (case side1 => exact q12); (case side2 => exact HC0_1.out); (case side3 => exact q25); (case side4 => exact HC0_6.out); rintro e w11 ⟨rfl, hb⟩; refine ⟨_, rfl, ?_⟩; have n0_ := Aside0.mk (blk_below BK178.out hb); have n1_ := Aside0.mk (below_step q104 hb); clear BK178; clear HB; have BK178 := n0_; have HB := n1_; clear n0_ n1_; (try clear hb); (try clear hb2); (try clear hk); (try clear hi)))
  (try simp only [Act.put, List.setIfInBounds_toArray, List.set_cons_zero, List.set_cons_succ])
  go_cut [22] (fun v22 wc => ∃ (kq : Nat) (x22_7 : Bool), v22 = .bool x22_7 ∧ Aside0 (withholding_Cumulative.j0 kq a1 a2 a3 a4 x22_7 a0_0 l0_1 a0_2 a0_3 a0_4 a0_5 l0_6 = some (r1, r2)) ∧ Aside0 (kq ≤ k) ∧ Aside0 (wc.heap[gb178]? = some (.cells #[.int .i64 a0_0, (.slice A0_1 l0_1.length c0_1), .int .i64 a0_2, .int .i64 a0_3, .int .i64 a0_4, .int .i64 a0_5, (.slice A0_6 l0_6.length c0_6)] 33 (0, 0))) ∧ Aside0 (Below w.heap.size w wc))
  case first =>
   have H := HC8.out
   clear HC8
   by_cases c12 : a4 < (-1000000000000)
   ·
    rw [if_pos c12] at H
    have c12b0 : decide (a4 < (-1000000000000)) = true := decide_eq_true c12
    clear c12
    (first | rw [c12b0] | (simp only [i64_w, i32_w]; rw [c12b0]) | skip)
    have H' := Aside0.mk H
    clear H
    go_wp2
    go_meet
    case rel => exact ⟨_, (true), q26, H', ⟨by first | omega | exact Nat.le_refl _⟩, ⟨q148⟩, ⟨q104⟩⟩
   ·
    rw [if_neg c12] at H
    have c12b0 : decide (a4 < (-1000000000000)) = false := decide_eq_false c12
    clear c12
    (first | rw [c12b0] | (simp only [i64_w, i32_w]; rw [c12b0]) | skip)
    have H' := Aside0.mk H
    clear H
    go_wp2
    go_meet
    case rel => exact ⟨_, (decide (a4 > 1000000000000)), q26, H', ⟨by first | omega | exact Nat.le_refl _⟩, ⟨q148⟩, ⟨q104⟩⟩
  case rest =>
   clear HC8
   try clear c1
   try clear c2
   try clear p2
   try clear c4
   try clear c7
   try clear c12
   try clear c12b0
   try clear hcz10_0
   try clear hcz10_1
   try clear hcz10_2
   try clear hcz10_3
   try clear hcz10_4
   try clear hcz10_5
   try clear hcz10_6
   try clear hfz10_0
   try clear hfz10_1
   try clear hfz10_2
   try clear hfz10_3
   try clear hfz10_4
   try clear hfz10_5
   try clear hfz10_6
   obtain ⟨kq, x22_7, rfl, HA, HJ7, BK178, HB⟩ := hcut
   cases kq with
   | zero => exact absurd HA.out (by simp [withholding_Cumulative.j0])
   | succ kj7 =>
    have H := HA.out
    clear HA
    simp only [withholding_Cumulative.j0] at H
    by_cases c13 : x22_7 = true
    ·
     subst c13
     rw [if_pos rfl] at H
     simp only [Option.some.injEq, Prod.mk.injEq] at H
     obtain ⟨rfl, rfl⟩ := H
     go_wp2
     go_ret2
     exact ⟨by first | rfl | (simp [errW_none, errW_some] <;> rfl) | (simp [*, errW_none, errW_some] <;> rfl), q104⟩
    ·
     replace c13 := Bool.eq_false_iff.mpr c13
     subst c13
     rw [if_neg (show ¬ (false = true) by decide)] at H
     replace H := Option.bind_eq_some_iff.mp H
     obtain ⟨⟨t180, t181⟩, A140, H⟩ := H
     try dsimp only at H
     have A14 := Aside0.mk A140
     clear A140
     by_cases c15 : t181 = 0
     ·
      rw [if_pos c15] at H
      have c15b0 : (t181 == 0) = true := beq_iff_eq.mpr c15
      have c15b1 : (t181 != 0) = false := bne_eq_false_iff_eq.mpr c15
      clear c15
      simp only [Option.some.injEq, Prod.mk.injEq] at H
      obtain ⟨rfl, rfl⟩ := H
      obtain ⟨hcz16_0, hcz16_1, hcz16_2, hcz16_3, hcz16_4, hcz16_5, hcz16_6, hfz16_0, hfz16_1, hfz16_2, hfz16_3, hfz16_4, hfz16_5, hfz16_6⟩ := blk7 BK178.out
      exact q79
     ·
      rw [if_neg c15] at H
      have c15b0 : (t181 == 0) = false := beq_eq_false_iff_ne.mpr c15
      have c15b1 : (t181 != 0) = true := bne_iff_ne.mpr c15
      simp only [Option.some.injEq, Prod.mk.injEq] at H
      obtain ⟨rfl, rfl⟩ := H
      obtain ⟨hcz18_0, hcz18_1, hcz18_2, hcz18_3, hcz18_4, hcz18_5, hcz18_6, hfz18_0, hfz18_1, hfz18_2, hfz18_3, hfz18_4, hfz18_5, hfz18_6⟩ := blk7 BK178.out
      exact q79
 ·
  replace c7 := Bool.eq_false_iff.mpr c7
  subst c7
  rw [if_neg (show ¬ (false = true) by decide)] at H
  simp only [Option.some.injEq, Prod.mk.injEq] at H
  obtain ⟨rfl, rfl⟩ := H
  exact (by go_enter Try.func28, Try.ntmps28; go_wp2_with (first | ((with_reducible refine gate_dst (N := 5) rfl ?_); refine box_event ?hg (N := 5) ?hd (cs := #[.int .i64 a0_0, .slice A0_1 l0_1.length c0_1, .int .i64 a0_2, .int .i64 a0_3, .int .i64 a0_4, .int .i64 a0_5, .slice A0_6 l0_6.length c0_6]) (t := 33) ?hr ?_; (case hd => rfl); (case hg => rfl); (case hr => first | (go_simp; done) | (go_simp; rfl)); intro gb178 hg w_1 hbox hb; have n0_ := Aside0.mk (below_step q0 hb); have n1_ := Aside0.mk (hbox); have n2_ := Aside0.mk ((by rw [hg]; exact (below_size q0) : w.heap.size ≤ gb178)); have n3_ := Aside0.mk ((by rw [hg]; exact (below_size q0) : w.heap.size ≤ gb178)); clear HB; have HB := n0_; have BK178 := n1_; have GW178 := n2_; have GE178 := n3_; clear n0_ n1_ n2_ n3_; clear hb hbox hg; obtain ⟨hcz_1, hcz_2, hcz_3, hcz_4, hcz_5, hcz_6, hcz_7, hfz_1, hfz_2, hfz_3, hfz_4, hfz_5, hfz_6, hfz_7⟩ := blk7 BK178.out) | ((with_reducible refine gate_callee (f := 40) rfl ?_); refine goesL_ (some 15) rfl rfl Try.func40 (by kernel_rfl) rfl #[.agg #[.int .i64 a0_0, .slice A0_1 l0_1.length c0_1, .int .i64 a0_2, .int .i64 a0_3, .int .i64 a0_4, .int .i64 a0_5, .slice A0_6 l0_6.length c0_6]] rfl q1 ?_; (with_reducible refine (withholding_Valid.calls k a0_0 _ _ l0_1 a0_2 a0_3 a0_4 a0_5 _ _ l0_6 false _ ?side1 ?side2 ?side3 ?side4 A6.out).mono ?_); (case side1 => exact q12); (case side2 => exact HC0_1.out); (case side3 => exact q25); (case side4 => exact HC0_6.out); rintro e w_2 ⟨rfl, hb⟩; refine ⟨_, rfl, ?_⟩; have n0_ := Aside0.mk (blk_below BK178.out hb); have n1_ := Aside0.mk (below_step q104 hb); clear BK178; clear HB; have BK178 := n0_; have HB := n1_; clear n0_ n1_; (try clear hb); (try clear hb2); (try clear hk); (try clear hi))); go_ret2; exact ⟨by first | rfl | (simp [errW_none, errW_some] <;> rfl) | (simp [*, errW_none, errW_some] <;> rfl), q104⟩)

end Go.Proofs.Ytbacfajhgmnjpaa.P
