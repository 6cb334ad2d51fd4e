/- Proved here: that the Go function withholding_Due computes the plain function of that name (the machine side of the laws, reworked from a print; no condition of its own). -/
import Derived.Test.YtbacfajhgmnjpaaProg
import Derived.Test.YtbacfajhgmnjpaaV1
import Derived.Test.YtbacfajhgmnjpaaV2
import Derived.Test.YtbacfajhgmnjpaaV3
import Derived.Test.YtbacfajhgmnjpaaFPRE
import Derived.Test.YtbacfajhgmnjpaaFwithholdingValid
import Derived.Test.YtbacfajhgmnjpaaFwh
import Derived.Test.YtbacfajhgmnjpaaFbracketScale
namespace Go.Proofs.Ytbacfajhgmnjpaa.P
open Go.RowKit Go.Proofs.YtbacfajhgmnjpaaW.PrintWords Go.Proofs.YtbacfajhgmnjpaaW.PrintLast Go.Proofs.YtbacfajhgmnjpaaW.PrintMore
attribute [local go_sem] max2_int min2_int max_two min_two max_three min_three max_four min_four   -- for this text's walks alone
set_option linter.unusedVariables false
set_option linter.unusedSimpArgs false

def withholding_Due.j0 : Nat → Int → Int → Int → Bool → Int → List (S58) → Int → Int → Int → Int → List (S80) → Option (Int × Int)
 | 0, _, _, _, _, _, _, _, _, _, _, _ => none
 | k + 1, x1, x2, x3, x31, x169000, x169001, x169002, x169003, x169004, x169005, x169006 => if x31 = true then (some (0, 2)) else ((bracket_Scale.f k x169001 x2 x1).bind fun bt172 => (if bt172.2 = 0 then (if x1 = 0 then (none) else ((withholding_tax.f k x169000 x169001 x169002 x169003 x169004 x169005 x169006 bt172.1 (wrap64 (Int.tdiv (wrap64 (x169002 * x2)) x1)) (wrap64 (Int.tdiv (wrap64 (x169003 * x2)) x1)) x3).bind fun bt176 => (some (bt176.1, bt176.2)))) else (some (0, bt172.2))))
def withholding_Due.f (k : Nat) (a0_0 : Int) (l0_1 : List (S58)) (a0_2 : Int) (a0_3 : Int) (a0_4 : Int) (a0_5 : Int) (l0_6 : List (S80)) (a1 : Int) (a2 : Int) (a3 : Int) : Option (Int × Int) := (withholding_Valid.f k a0_0 l0_1 a0_2 a0_3 a0_4 a0_5 l0_6).bind fun t169 => (if t169 = true then ((withholding_count.f a1).bind fun t170 => (if t170 = true then (if a2 < 1 then (withholding_Due.j0 k a1 a2 a3 true a0_0 l0_1 a0_2 a0_3 a0_4 a0_5 l0_6) else (if a2 > a1 then (withholding_Due.j0 k a1 a2 a3 true a0_0 l0_1 a0_2 a0_3 a0_4 a0_5 l0_6) else ((withholding_total.f a3).bind fun t171 => (withholding_Due.j0 k a1 a2 a3 (!t171) a0_0 l0_1 a0_2 a0_3 a0_4 a0_5 l0_6)))) else (withholding_Due.j0 k a1 a2 a3 true a0_0 l0_1 a0_2 a0_3 a0_4 a0_5 l0_6))) else (some (0, 1)))
theorem withholding_Due.mono_l : ∀ k, (∀ y0 y1 y2 y3 y4 y5 y6 y7 y8 y9 y10, LeO (withholding_Due.j0 k y0 y1 y2 y3 y4 y5 y6 y7 y8 y9 y10) (withholding_Due.j0 (k + 1) y0 y1 y2 y3 y4 y5 y6 y7 y8 y9 y10))
 | 0 => fun _ _ _ _ _ _ _ _ _ _ _ r h => by simp [withholding_Due.j0] at h
 | k + 1 => by
  have ih0 := withholding_Due.mono_l k
  ·
   intro y0 y1 y2 y3 y4 y5 y6 y7 y8 y9 y10
   unfold withholding_Due.j0
   repeat' first
   | (with_reducible exact ih0 _ _ _ _ _ _ _ _ _ _ _)
   | (with_reducible exact bracket_Scale.mono _ _ _ _)
   | (with_reducible exact withholding_Valid.mono _ _ _ _ _ _ _ _)
   | (with_reducible exact withholding_tax.mono _ _ _ _ _ _ _ _ _ _ _ _)
   | (with_reducible exact LeO.refl _)
   | (with_reducible exact LeO.none _)
   | (with_reducible refine LeO.ite ?_ ?_)
   | (with_reducible refine LeO.bind ?_ (fun _ => ?_))
   | exact ih0 _ _ _ _ _ _ _ _ _ _ _
   | exact bracket_Scale.mono _ _ _ _
   | exact withholding_Valid.mono _ _ _ _ _ _ _ _
   | exact withholding_tax.mono _ _ _ _ _ _ _ _ _ _ _ _
   | exact LeO.none _
   | refine LeO.ite ?_ ?_
   | refine LeO.bind ?_ (fun _ => ?_)
theorem withholding_Due.mono : ∀ a0 a1 a2 a3 a4 a5 a6 a7 a8 a9 k, LeO (withholding_Due.f k a0 a1 a2 a3 a4 a5 a6 a7 a8 a9) (withholding_Due.f (k + 1) a0 a1 a2 a3 a4 a5 a6 a7 a8 a9) := by
 intro a0 a1 a2 a3 a4 a5 a6 a7 a8 a9 k
 have ih0 := withholding_Due.mono_l k
 unfold withholding_Due.f
 repeat' first
   | (with_reducible exact ih0 _ _ _ _ _ _ _ _ _ _ _)
   | (with_reducible exact bracket_Scale.mono _ _ _ _)
   | (with_reducible exact withholding_Valid.mono _ _ _ _ _ _ _ _)
   | (with_reducible exact withholding_tax.mono _ _ _ _ _ _ _ _ _ _ _ _)
   | (with_reducible exact LeO.refl _)
   | (with_reducible exact LeO.none _)
   | (with_reducible refine LeO.ite ?_ ?_)
   | (with_reducible refine LeO.bind ?_ (fun _ => ?_))
   | exact ih0 _ _ _ _ _ _ _ _ _ _ _
   | exact bracket_Scale.mono _ _ _ _
   | exact withholding_Valid.mono _ _ _ _ _ _ _ _
   | exact withholding_tax.mono _ _ _ _ _ _ _ _ _ _ _ _
   | exact LeO.none _
   | refine LeO.ite ?_ ?_
   | refine LeO.bind ?_ (fun _ => ?_)
def withholding_Due.T8 : Bool × List (List Nat × List Nat) := (true, [([], []), ([], []), ([], []), ([2], [2]), ([], []), ([3, 4], [3, 4]), ([], []), ([5, 6], [5, 6]), ([], []), ([8], [8]), ([], []), ([9, 10], [9, 10]), ([], []), ([11, 12], [11, 12]), ([], []), ([0, 1, 7, 13, 14], [0, 1, 7, 13, 14]), ([15], [15]), ([15], [15]), ([16, 15, 0, 1, 2, 3, 4, 5, 6, 7, 8, 9, 10, 11, 12, 13, 14, 15, 16, 17], [16]), ([17, 18, 0, 1, 2, 3, 4, 5, 6, 7, 8, 9, 10, 11, 12, 13, 14, 15, 16, 17, 18], [17])])
def withholding_Due.B8 : List Nat := [0, 0, 0, 4, 0, 28, 0, 124, 0, 256, 0, 1792, 0, 7936, 0, 32767, 65535, 65535, 262143, 524287]
theorem withholding_Due.tab8 : rtab .any (opsOf Try.f26 8) = withholding_Due.T8 := by kernel_rfl
theorem withholding_Due.bits8 : waitsOk withholding_Due.T8.2 withholding_Due.B8 = true := by kernel_rfl
set_option maxHeartbeats 8000000 in
set_option maxRecDepth 100000 in
theorem withholding_Due.calls (k : Nat) (a0_0 : Int) (A0_1 : Option Addr) (c0_1 : Nat) (l0_1 : List (S58)) (a0_2 : Int) (a0_3 : Int) (a0_4 : Int) (a0_5 : Int) (A0_6 : Option Addr) (c0_6 : Nat) (l0_6 : List (S80)) (a1 : Int) (a2 : Int) (a3 : Int) (r1 : Int) (r2 : Int) (w : World) (hr0_1 : Kd.C k58 w A0_1 l0_1.length l0_1) (hc0_1 : l0_1.length ≤ c0_1) (hr0_6 : Kd.C k80 w A0_6 l0_6.length l0_6) (hc0_6 : l0_6.length ≤ c0_6) (h : withholding_Due.f k a0_0 l0_1 a0_2 a0_3 a0_4 a0_5 l0_6 a1 a2 a3 = some (r1, r2)) :
  Calls Try.prog 26 #[.agg #[.int .i64 a0_0, .slice A0_1 l0_1.length c0_1, .int .i64 a0_2, .int .i64 a0_3, .int .i64 a0_4, .int .i64 a0_5, .slice A0_6 l0_6.length c0_6], .int .i64 a1, .int .i64 a2, .int .i64 a3] w fun e w' => e = .returned (.tuple #[.int .i64 r1, .int .i64 r2]) ∧ Below w.heap.size w w' := by
 have hu33 := Try.underlying33
 have HR0_1 := Aside0.mk hr0_1
 have HC0_1 := Aside0.mk hc0_1
 clear hr0_1 hc0_1
 have HR0_6 := Aside0.mk hr0_6
 have HC0_6 := Aside0.mk hc0_6
 clear hr0_6 hc0_6
 have HB := Aside0.mk (Below.refl w.heap.size w)
 have H : ((withholding_Valid.f k a0_0 l0_1 a0_2 a0_3 a0_4 a0_5 l0_6).bind fun t169 => (if t169 = true then ((withholding_count.f a1).bind fun t170 => (if t170 = true then (if a2 < 1 then (withholding_Due.j0 k a1 a2 a3 true a0_0 l0_1 a0_2 a0_3 a0_4 a0_5 l0_6) else (if a2 > a1 then (withholding_Due.j0 k a1 a2 a3 true a0_0 l0_1 a0_2 a0_3 a0_4 a0_5 l0_6) else ((withholding_total.f a3).bind fun t171 => (withholding_Due.j0 k a1 a2 a3 (!t171) a0_0 l0_1 a0_2 a0_3 a0_4 a0_5 l0_6)))) else (withholding_Due.j0 k a1 a2 a3 true a0_0 l0_1 a0_2 a0_3 a0_4 a0_5 l0_6))) else (some (0, 1)))) = some (r1, r2) := h
 clear h
 replace H := Option.bind_eq_some_iff.mp H
 obtain ⟨t169, A50, H⟩ := H
 try dsimp only at H
 have A5 := Aside0.mk A50
 clear A50
 by_cases c6 : t169 = true
 ·
  subst c6
  rw [if_pos rfl] at H
  have HC7 := Aside0.mk H
  clear H
  go_enter Try.func26, Try.ntmps26
  go_upto_region 3 with (first | ((with_reducible refine gate_dst (N := 4) rfl ?_); refine box_event ?hg (N := 4) ?hd (cs := #[.int .i64 a0_0, .slice A0_1 l0_1.length c0_1, .int .i64 a0_2, .int .i64 a0_3, .int .i64 a0_4, .int .i64 a0_5, .slice A0_6 l0_6.length c0_6]) (t := 33) ?hr ?_; (case hd => rfl); (case hg => rfl); (case hr => first | (go_simp; done) | (go_simp; rfl)); intro gb168 hg w8 hbox hb; have n0_ := Aside0.mk (below_step q0 hb); have n1_ := Aside0.mk (hbox); have n2_ := Aside0.mk ((by rw [hg]; exact (below_size q0) : w.heap.size ≤ gb168)); have n3_ := Aside0.mk ((by rw [hg]; exact (below_size q0) : w.heap.size ≤ gb168)); clear HB; have HB := n0_; have BK168 := n1_; have GW168 := n2_; have GE168 := n3_; clear n0_ n1_ n2_ n3_; clear hb hbox hg; obtain ⟨hcz9_0, hcz9_1, hcz9_2, hcz9_3, hcz9_4, hcz9_5, hcz9_6, hfz9_0, hfz9_1, hfz9_2, hfz9_3, hfz9_4, hfz9_5, hfz9_6⟩ := blk7 BK168.out) | ((with_reducible refine gate_callee (f := 40) rfl ?_); refine goesL_ (some 13) rfl rfl Try.func40 (by kernel_rfl) rfl #[.agg #[.int .i64 a0_0, .slice A0_1 l0_1.length c0_1, .int .i64 a0_2, .int .i64 a0_3, .int .i64 a0_4, .int .i64 a0_5, .slice A0_6 l0_6.length c0_6]] rfl q1 ?_; (with_reducible refine (withholding_Valid.calls k a0_0 _ _ l0_1 a0_2 a0_3 a0_4 a0_5 _ _ l0_6 true _ ?side1 ?side2 ?side3 ?side4 A5.out).mono ?_); (case side1 => exact q12); (case side2 => exact HC0_1.out); (case side3 => exact q25); (case side4 => exact HC0_6.out); rintro e w10 ⟨rfl, hb⟩; refine ⟨_, rfl, ?_⟩; have n0_ := Aside0.mk (blk_below BK168.out hb); have n1_ := Aside0.mk (below_step q61 hb); clear BK168; clear HB; have BK168 := n0_; have HB := n1_; clear n0_ n1_; (try clear hb); (try clear hb2); (try clear hk); (try clear hi)))
  (try simp only [Act.put, List.setIfInBounds_toArray, List.set_cons_zero, List.set_cons_succ])
  go_cut [31] (fun v31 wc => ∃ (kq : Nat) (x31_6 : Bool), v31 = .bool x31_6 ∧ Aside0 (withholding_Due.j0 kq a1 a2 a3 x31_6 a0_0 l0_1 a0_2 a0_3 a0_4 a0_5 l0_6 = some (r1, r2)) ∧ Aside0 (kq ≤ k) ∧ Aside0 (wc.heap[gb168]? = some (.cells #[.int .i64 a0_0, (.slice A0_1 l0_1.length c0_1), .int .i64 a0_2, .int .i64 a0_3, .int .i64 a0_4, .int .i64 a0_5, (.slice A0_6 l0_6.length c0_6)] 33 (0, 0))) ∧ Aside0 (Below w.heap.size w wc))
  case first =>
   have H := HC7.out
   clear HC7
   replace H := Option.bind_eq_some_iff.mp H
   obtain ⟨t170, A110, H⟩ := H
   try dsimp only at H
   have A11 := Aside0.mk A110
   clear A110
   by_cases c12 : t170 = true
   ·
    subst c12
    rw [if_pos rfl] at H
    by_cases c13 : a2 < 1
    ·
     rw [if_pos c13] at H
     have c13b0 : decide (a2 < 1) = true := decide_eq_true c13
     clear c13
     (first | rw [c13b0] | (simp only [i64_w, i32_w]; rw [c13b0]) | skip)
     have H' := Aside0.mk H
     clear H
     go_wp2_with (first | ((with_reducible refine gate_callee (f := 41) rfl ?_); refine goesL_ (some 16) rfl rfl Try.func41 (by kernel_rfl) rfl #[.int .i64 a1] rfl q1 ?_; (with_reducible refine (withholding_count.calls a1 true _ A11.out).mono ?_); rintro e w' ⟨rfl, ⟨nd, rfl⟩⟩; refine ⟨_, rfl, ?_⟩))
     go_meet
     case rel => exact ⟨_, (true), q26, H', ⟨by first | omega | exact Nat.le_refl _⟩, ⟨q119⟩, ⟨q61⟩⟩
    ·
     rw [if_neg c13] at H
     have c13b0 : decide (a2 < 1) = false := decide_eq_false c13
     clear c13
     (first | rw [c13b0] | (simp only [i64_w, i32_w]; rw [c13b0]) | skip)
     by_cases c14 : a2 > a1
     ·
      rw [if_pos c14] at H
      have c14b0 : decide (a1 < a2) = true := decide_eq_true c14
      clear c14
      have H' := Aside0.mk H
      clear H
      go_wp2_with (first | ((with_reducible refine gate_callee (f := 41) rfl ?_); refine goesL_ (some 16) rfl rfl Try.func41 (by kernel_rfl) rfl #[.int .i64 a1] rfl q1 ?_; (with_reducible refine (withholding_count.calls a1 true _ A11.out).mono ?_); rintro e w' ⟨rfl, ⟨nd, rfl⟩⟩; refine ⟨_, rfl, ?_⟩))
      go_meet
      case rel => exact ⟨_, (true), q26, H', ⟨by first | omega | exact Nat.le_refl _⟩, ⟨q119⟩, ⟨q61⟩⟩
     ·
      rw [if_neg c14] at H
      have c14b0 : decide (a1 < a2) = false := decide_eq_false c14
      clear c14
      replace H := Option.bind_eq_some_iff.mp H
      obtain ⟨t171, A150, H⟩ := H
      try dsimp only at H
      have A15 := Aside0.mk A150
      clear A150
      have H' := Aside0.mk H
      clear H
      go_wp2_with (first | ((with_reducible refine gate_callee (f := 41) rfl ?_); refine goesL_ (some 16) rfl rfl Try.func41 (by kernel_rfl) rfl #[.int .i64 a1] rfl q1 ?_; (with_reducible refine (withholding_count.calls a1 true _ A11.out).mono ?_); rintro e w' ⟨rfl, ⟨nd, rfl⟩⟩; refine ⟨_, rfl, ?_⟩) | (go_at_call 49; (with_reducible refine (withholding_total.calls a3 t171 _ A15.out).mono ?_); rintro e w' ⟨rfl, ⟨nd, rfl⟩⟩))
      go_meet
      case rel => exact ⟨_, (!t171), q26, H', ⟨by first | omega | exact Nat.le_refl _⟩, ⟨q119⟩, ⟨q61⟩⟩
   ·
    replace c12 := Bool.eq_false_iff.mpr c12
    subst c12
    rw [if_neg (show ¬ (false = true) by decide)] at H
    have H' := Aside0.mk H
    clear H
    go_wp2_with (first | ((with_reducible refine gate_callee (f := 41) rfl ?_); refine goesL_ (some 16) rfl rfl Try.func41 (by kernel_rfl) rfl #[.int .i64 a1] rfl q1 ?_; (with_reducible refine (withholding_count.calls a1 false _ A11.out).mono ?_); rintro e w' ⟨rfl, ⟨nd, rfl⟩⟩; refine ⟨_, rfl, ?_⟩))
    go_meet
    case rel => exact ⟨_, (true), q26, H', ⟨by first | omega | exact Nat.le_refl _⟩, ⟨q119⟩, ⟨q61⟩⟩
  case rest =>
   clear HC7
   try clear c1
   try clear c2
   try clear p2
   try clear c4
   try clear c6
   try clear c12
   try clear c13
   try clear c13b0
   try clear c14
   try clear c14b0
   try clear hcz9_0
   try clear hcz9_1
   try clear hcz9_2
   try clear hcz9_3
   try clear hcz9_4
   try clear hcz9_5
   try clear hcz9_6
   try clear hfz9_0
   try clear hfz9_1
   try clear hfz9_2
   try clear hfz9_3
   try clear hfz9_4
   try clear hfz9_5
   try clear hfz9_6
   obtain ⟨kq, x31_6, rfl, HA, HJ6, BK168, HB⟩ := hcut
   cases kq with
   | zero => exact absurd HA.out (by simp [withholding_Due.j0])
   | succ kj6 =>
    have H := HA.out
    clear HA
    simp only [withholding_Due.j0] at H
    by_cases c16 : x31_6 = true
    ·
     subst c16
     rw [if_pos rfl] at H
     simp only [Option.some.injEq, Prod.mk.injEq] at H
     obtain ⟨rfl, rfl⟩ := H
     go_wp2
     go_ret2
     exact ⟨by first | rfl | (simp [errW_none, errW_some] <;> rfl) | (simp [*, errW_none, errW_some] <;> rfl), q61⟩
    ·
     replace c16 := Bool.eq_false_iff.mpr c16
     subst c16
     rw [if_neg (show ¬ (false = true) by decide)] at H
     replace H := Option.bind_eq_some_iff.mp H
     obtain ⟨⟨t172, t173⟩, A170, H⟩ := H
     try dsimp only at H
     have A17 := Aside0.mk A170
     clear A170
     by_cases c18 : t173 = 0
     ·
      rw [if_pos c18] at H
      have c18b0 : (t173 == 0) = true := beq_iff_eq.mpr c18
      have c18b1 : (t173 != 0) = false := bne_eq_false_iff_eq.mpr c18
      clear c18
      by_cases c19 : a1 = 0
      ·
       rw [if_pos c19] at H
       exact absurd H (by simp)
      ·
       rw [if_neg c19] at H
       have c19b0 : (a1 == 0) = false := beq_eq_false_iff_ne.mpr c19
       have c19b1 : (a1 != 0) = true := bne_iff_ne.mpr c19
       replace H := Option.bind_eq_some_iff.mp H
       obtain ⟨⟨t176, t177⟩, A200, H⟩ := H
       dsimp only at H
       have A20 := Aside0.mk A200
       clear A200
       simp only [Option.some.injEq, Prod.mk.injEq] at H
       obtain ⟨rfl, rfl⟩ := H
       obtain ⟨hcz21_0, hcz21_1, hcz21_2, hcz21_3, hcz21_4, hcz21_5, hcz21_6, hfz21_0, hfz21_1, hfz21_2, hfz21_3, hfz21_4, hfz21_5, hfz21_6⟩ := blk7 BK168.out
       try go_wp2_with (first | ((with_reducible refine gate_callee (f := 52) rfl ?_); refine goesL_ (some 37) rfl rfl Try.func52 (by kernel_rfl) rfl #[.slice A0_1 l0_1.length c0_1, .int .i64 a2, .int .i64 a1] rfl q1 ?_; (with_reducible refine (bracket_Scale.calls kj6 _ _ l0_1 a2 a1 t172 t173 _ ?side1 ?side2 A17.out).mono ?_); (case side1 => exact q12); (case side2 => exact HC0_1.out); rintro e w22 ⟨v174, rfl, ho0, hb⟩; refine ⟨_, rfl, ?_⟩; have n0_ := Aside0.mk (Kd.R_lower ho0 (below_size q61)); have n1_ := Aside0.mk (blk_below BK168.out hb); have n2_ := Aside0.mk (below_step q61 hb); clear BK168; clear HB; have HO175 := n0_; have BK168 := n1_; have HB := n2_; clear n0_ n1_ n2_; (try clear hb); (try clear hb2); (try clear hk); (try clear hi); (try clear ho0)))
       have n0_ := Aside0.mk (Kd.R_drew HO175.out)
       have n1_ := Aside0.mk (blk_drew BK168.out)
       have n2_ := Aside0.mk (below_drew1 HB.out)
       clear HO175
       clear BK168
       clear HB
       have HO175 := n0_
       have BK168 := n1_
       have HB := n2_
       clear n0_ n1_ n2_
       obtain ⟨Ao24, co24, eo24⟩ := Kd.R_slice HO175.out
       (first | subst eo24 | (injection eo24 with f1_ f2_ f3_; have f4_ := f1_.symm; have f5_ := f3_.symm; clear f1_ f2_ f3_; subst f4_; subst f5_))
       refine start_ (n := 20) (S := fun w' => w'.cell? ⟨gb168, 0, none⟩ = some (.int .i64 a0_0) ∧ w'.cell? ⟨gb168, 1, none⟩ = some (.slice A0_1 l0_1.length c0_1) ∧ w'.cell? ⟨gb168, 2, none⟩ = some (.int .i64 a0_2) ∧ w'.cell? ⟨gb168, 3, none⟩ = some (.int .i64 a0_3) ∧ w'.cell? ⟨gb168, 4, none⟩ = some (.int .i64 a0_4) ∧ w'.cell? ⟨gb168, 5, none⟩ = some (.int .i64 a0_5) ∧ w'.cell? ⟨gb168, 6, none⟩ = some (.slice A0_6 l0_6.length c0_6)) (ds := []) #[false, false, false, false, false, false, false, false, false, false, false, false, false, false, false, false, false, false, false, false] (by kernel_rfl) rfl rfl ⟨(blk_cell BK168.out 0).trans rfl, (blk_cell BK168.out 1).trans rfl, (blk_cell BK168.out 2).trans rfl, (blk_cell BK168.out 3).trans rfl, (blk_cell BK168.out 4).trans rfl, (blk_cell BK168.out 5).trans rfl, (blk_cell BK168.out 6).trans rfl⟩ (fun hHeld => ?_); refine with_tabW withholding_Due.tab8 withholding_Due.bits8 (fun HT_ HW_ => ?_)
       generalize w22.drew = w23 at HO175 BK168 HB hHeld ⊢
       refine pv_ (i := 1) (N := some 44) #[false, true, false, false, false, false, false, false, false, false, false, false, false, false, false, false, false, false, false, false] (h := ?_)
       refine pv_ (i := 2) (N := some 45) #[false, true, true, false, false, false, false, false, false, false, false, false, false, false, false, false, false, false, false, false] (h := ?_)
       refine pv_ (i := 4) (N := some 47) #[false, true, true, false, true, false, false, false, false, false, false, false, false, false, false, false, false, false, false, false] (h := ?_)
       refine pv_ (i := 6) (N := some 49) #[false, true, true, false, true, false, true, false, false, false, false, false, false, false, false, false, false, false, false, false] (h := ?_)
       refine pv_ (i := 8) (N := some 51) #[false, true, true, false, true, false, true, false, true, false, false, false, false, false, false, false, false, false, false, false] (h := ?_)
       refine pv_ (i := 10) (N := some 53) #[false, true, true, false, true, false, true, false, true, false, true, false, false, false, false, false, false, false, false, false] (h := ?_)
       refine pv_ (i := 12) (N := some 55) #[false, true, true, false, true, false, true, false, true, false, true, false, true, false, false, false, false, false, false, false] (h := ?_)
       refine pv_ (i := 14) (N := some 57) #[false, true, true, false, true, false, true, false, true, false, true, false, true, false, true, false, false, false, false, false] (h := ?_)
       refine take_ (i := 0) (N := some 43) (v := ?_) (a' := ?_) #[true, true, true, false, true, false, true, false, true, false, true, false, true, false, true, false, false, false, false, false] rfl rfl (take_ofW HT_.out HW_.out (by kernel_rfl)) (fun _ _ _ h => h) (Or.inl ⟨by rfl, ?_⟩) hHeld ?_ ?_
       rotate_left
       ·
        rintro w' ⟨s0, s1, s2, s3, s4, s5, s6⟩
        go_simp
        with_reducible rfl
       rotate_left
       ·
        simp only [Act.put, List.setIfInBounds_toArray, List.set_cons_zero, List.set_cons_succ, i64_w, i32_w]
        rfl
       refine take_ (i := 3) (N := some 46) (v := ?_) (a' := ?_) #[true, true, true, true, true, false, true, false, true, false, true, false, true, false, true, false, false, false, false, false] rfl rfl (take_ofW HT_.out HW_.out (by kernel_rfl)) (fun _ _ _ h => h) (Or.inl ⟨by rfl, ?_⟩) hHeld ?_ ?_
       rotate_left
       ·
        rintro w' ⟨s0, s1, s2, s3, s4, s5, s6⟩
        go_simp
        with_reducible rfl
       rotate_left
       ·
        simp only [Act.put, List.setIfInBounds_toArray, List.set_cons_zero, List.set_cons_succ, i64_w, i32_w]
        rfl
       refine pv_ (i := 5) (N := some 48) #[true, true, true, true, true, true, true, false, true, false, true, false, true, false, true, false, false, false, false, false] (h := ?_)
       refine pv_ (i := 7) (N := some 50) #[true, true, true, true, true, true, true, true, true, false, true, false, true, false, true, false, false, false, false, false] (h := ?_)
       refine take_ (i := 9) (N := some 52) (v := ?_) (a' := ?_) #[true, true, true, true, true, true, true, true, true, true, true, false, true, false, true, false, false, false, false, false] rfl rfl (take_ofW HT_.out HW_.out (by kernel_rfl)) (fun _ _ _ h => h) (Or.inl ⟨by rfl, ?_⟩) hHeld ?_ ?_
       rotate_left
       ·
        rintro w' ⟨s0, s1, s2, s3, s4, s5, s6⟩
        go_simp
        with_reducible rfl
       rotate_left
       ·
        simp only [Act.put, List.setIfInBounds_toArray, List.set_cons_zero, List.set_cons_succ, i64_w, i32_w]
        rfl
       refine pv_ (i := 11) (N := some 54) #[true, true, true, true, true, true, true, true, true, true, true, true, true, false, true, false, false, false, false, false] (h := ?_)
       refine pv_ (i := 13) (N := some 56) #[true, true, true, true, true, true, true, true, true, true, true, true, true, true, true, false, false, false, false, false] (h := ?_)
       refine one_ (i := 15) (N := some 58) #[true, true, true, true, true, true, true, true, true, true, true, true, true, true, true, true, false, false, false, false] rfl rfl (one_of HT_.out (by kernel_rfl)) (by decide) (fun K hK => ?_)
       refine goes_ Try.func50 (by kernel_rfl) rfl #[.agg #[.int .i64 a0_0, .slice A0_1 l0_1.length c0_1, .int .i64 a0_2, .int .i64 a0_3, .int .i64 a0_4, .int .i64 a0_5, .slice A0_6 l0_6.length c0_6], .slice Ao24 t172.length co24, .int .i64 (wrap64 (Int.tdiv (wrap64 (a0_2 * a2)) a1)), .int .i64 (wrap64 (Int.tdiv (wrap64 (a0_3 * a2)) a1)), .int .i64 a3] (by rfl) rfl rfl q1 ?_
       with_reducible refine (withholding_tax.calls kj6 a0_0 _ _ l0_1 a0_2 a0_3 a0_4 a0_5 _ _ l0_6 _ _ t172 (wrap64 (Int.tdiv (wrap64 (a0_2 * a2)) a1)) (wrap64 (Int.tdiv (wrap64 (a0_3 * a2)) a1)) a3 t176 t177 _ ?side1 ?side2 ?side3 ?side4 ?side5 ?side6 A20.out).mono ?_
       (case side1 => exact q12)
       (case side2 => exact HC0_1.out)
       (case side3 => exact q25)
       (case side4 => exact HC0_6.out)
       (case side5 => exact (by repeat (first | exact (Kd.R_reads' HO175.out).2.2 | (with_reducible refine Kd.C_alloc ?_ _) | (with_reducible refine Kd.C_drewN ?_ _) | (with_reducible refine Kd.C_drew ?_))))
       (case side6 => exact (Kd.R_reads' HO175.out).2.1)
       rintro e w25 ⟨rfl, hb⟩
       refine ⟨_, rfl, ?_⟩
       have n0_ := Aside0.mk (Kd.R_below (by (with_reducible repeat (first | apply Kd.R_alloc | apply Kd.R_drewN | apply Kd.R_drew)); exact HO175.out) hb)
       have n1_ := Aside0.mk (blk_below BK168.out hb)
       have n2_ := Aside0.mk (below_step q61 hb)
       clear HO175
       clear BK168
       clear HB
       have HO175 := n0_
       have BK168 := n1_
       have HB := n2_
       clear n0_ n1_ n2_
       (try clear hb)
       (try clear hb2)
       (try clear hk)
       (try clear hi)
       refine hK.out _ _ ⟨(blk_cell BK168.out 0).trans rfl, (blk_cell BK168.out 1).trans rfl, (blk_cell BK168.out 2).trans rfl, (blk_cell BK168.out 3).trans rfl, (blk_cell BK168.out 4).trans rfl, (blk_cell BK168.out 5).trans rfl, (blk_cell BK168.out 6).trans rfl⟩ (fun hHeld => ?_)
       clear hK K
       refine norm_ (a' := ?_) ?_ ?_
       rotate_left
       ·
        show Act.put _ (some 58) _ = _
        simp only [Act.put, List.setIfInBounds_toArray, List.set_cons_zero, List.set_cons_succ, i64_w, i32_w]
        rfl
       refine pv_ (i := 16) (N := some 59) #[true, true, true, true, true, true, true, true, true, true, true, true, true, true, true, true, true, false, false, false] (h := ?_)
       refine pv_ (i := 17) (N := some 60) #[true, true, true, true, true, true, true, true, true, true, true, true, true, true, true, true, true, true, false, false] (h := ?_)
       refine pv_ (i := 18) (N := some 8) #[true, true, true, true, true, true, true, true, true, true, true, true, true, true, true, true, true, true, true, false] (h := ?_)
       refine pv_ (i := 19) (N := some 9) #[true, true, true, true, true, true, true, true, true, true, true, true, true, true, true, true, true, true, true, true] (h := ?_)
       refine done_ (done_of HT_.out (by kernel_rfl)) ?_
       try go_wp2
       go_ret2
       exact ⟨by first | rfl | (simp [errW_none, errW_some] <;> rfl) | (simp [*, errW_none, errW_some] <;> rfl), q61⟩
     ·
      rw [if_neg c18] at H
      have c18b0 : (t173 == 0) = false := beq_eq_false_iff_ne.mpr c18
      have c18b1 : (t173 != 0) = true := bne_iff_ne.mpr c18
      simp only [Option.some.injEq, Prod.mk.injEq] at H
      obtain ⟨rfl, rfl⟩ := H
      obtain ⟨hcz26_0, hcz26_1, hcz26_2, hcz26_3, hcz26_4, hcz26_5, hcz26_6, hfz26_0, hfz26_1, hfz26_2, hfz26_3, hfz26_4, hfz26_5, hfz26_6⟩ := blk7 BK168.out
      exact (by go_wp2_with (first | ((with_reducible refine gate_callee (f := 52) rfl ?_); refine goesL_ (some 37) rfl rfl Try.func52 (by kernel_rfl) rfl #[.slice A0_1 l0_1.length c0_1, .int .i64 a2, .int .i64 a1] rfl q1 ?_; (with_reducible refine (bracket_Scale.calls kj6 _ _ l0_1 a2 a1 t172 t173 _ ?side1 ?side2 A17.out).mono ?_); (case side1 => exact q12); (case side2 => exact HC0_1.out); rintro e w_1 ⟨v174, rfl, ho_1, hb⟩; refine ⟨_, rfl, ?_⟩; have n0_ := Aside0.mk (Kd.R_lower ho_1 (below_size q61)); have n1_ := Aside0.mk (blk_below BK168.out hb); have n2_ := Aside0.mk (below_step q61 hb); clear BK168; clear HB; have HO_1 := n0_; have BK168 := n1_; have HB := n2_; clear n0_ n1_ n2_; (try clear hb); (try clear hb2); (try clear hk); (try clear hi); (try clear ho_1))); go_ret2; exact ⟨by first | rfl | (simp [errW_none, errW_some] <;> rfl) | (simp [*, errW_none, errW_some] <;> rfl), q61⟩)
 ·
  replace c6 := Bool.eq_false_iff.mpr c6
  subst c6
  rw [if_neg (show ¬ (false = true) by decide)] at H
  simp only [Option.some.injEq, Prod.mk.injEq] at H
  obtain ⟨rfl, rfl⟩ := H
  exact (by go_enter Try.func26, Try.ntmps26; go_wp2_with (first | ((with_reducible refine gate_dst (N := 4) rfl ?_); refine box_event ?hg (N := 4) ?hd (cs := #[.int .i64 a0_0, .slice A0_1 l0_1.length c0_1, .int .i64 a0_2, .int .i64 a0_3, .int .i64 a0_4, .int .i64 a0_5, .slice A0_6 l0_6.length c0_6]) (t := 33) ?hr ?_; (case hd => rfl); (case hg => rfl); (case hr => first | (go_simp; done) | (go_simp; rfl)); intro gb168 hg w_1 hbox hb; have n0_ := Aside0.mk (below_step q0 hb); have n1_ := Aside0.mk (hbox); have n2_ := Aside0.mk ((by rw [hg]; exact (below_size q0) : w.heap.size ≤ gb168)); have n3_ := Aside0.mk ((by rw [hg]; exact (below_size q0) : w.heap.size ≤ gb168)); clear HB; have HB := n0_; have BK168 := n1_; have GW168 := n2_; have GE168 := n3_; clear n0_ n1_ n2_ n3_; clear hb hbox hg; obtain ⟨hcz_1, hcz_2, hcz_3, hcz_4, hcz_5, hcz_6, hcz_7, hfz_1, hfz_2, hfz_3, hfz_4, hfz_5, hfz_6, hfz_7⟩ := blk7 BK168.out) | ((with_reducible refine gate_callee (f := 40) rfl ?_); refine goesL_ (some 13) rfl rfl Try.func40 (by kernel_rfl) rfl #[.agg #[.int .i64 a0_0, .slice A0_1 l0_1.length c0_1, .int .i64 a0_2, .int .i64 a0_3, .int .i64 a0_4, .int .i64 a0_5, .slice A0_6 l0_6.length c0_6]] rfl q1 ?_; (with_reducible refine (withholding_Valid.calls k a0_0 _ _ l0_1 a0_2 a0_3 a0_4 a0_5 _ _ l0_6 false _ ?side1 ?side2 ?side3 ?side4 A5.out).mono ?_); (case side1 => exact q12); (case side2 => exact HC0_1.out); (case side3 => exact q25); (case side4 => exact HC0_6.out); rintro e w_2 ⟨rfl, hb⟩; refine ⟨_, rfl, ?_⟩; have n0_ := Aside0.mk (blk_below BK168.out hb); have n1_ := Aside0.mk (below_step q61 hb); clear BK168; clear HB; have BK168 := n0_; have HB := n1_; clear n0_ n1_; (try clear hb); (try clear hb2); (try clear hk); (try clear hi))); go_ret2; exact ⟨by first | rfl | (simp [errW_none, errW_some] <;> rfl) | (simp [*, errW_none, errW_some] <;> rfl), q61⟩)

end Go.Proofs.Ytbacfajhgmnjpaa.P
