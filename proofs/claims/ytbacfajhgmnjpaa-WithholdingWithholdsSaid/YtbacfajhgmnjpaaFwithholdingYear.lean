/- Proved here: that the Go function withholding_Year computes the plain function of that name (the machine side of the laws, reworked from a print; no condition of its own). -/
import Derived.Test.YtbacfajhgmnjpaaProg
import Derived.Test.YtbacfajhgmnjpaaV1
import Derived.Test.YtbacfajhgmnjpaaV2
import Derived.Test.YtbacfajhgmnjpaaFPRE
import Derived.Test.YtbacfajhgmnjpaaFwh
import Derived.Test.YtbacfajhgmnjpaaFwithholdingValid
import Derived.Test.YtbacfajhgmnjpaaFwithholdingCumulative
namespace Go.Proofs.Ytbacfajhgmnjpaa.P
open Go.RowKit Go.Proofs.YtbacfajhgmnjpaaW.PrintWords Go.Proofs.YtbacfajhgmnjpaaW.PrintLast Go.Proofs.YtbacfajhgmnjpaaW.PrintMore
attribute [local go_sem] max2_int min2_int max_two min_two max_three min_three max_four min_four   -- for this text's walks alone
set_option linter.unusedVariables false
set_option linter.unusedSimpArgs false

mutual
def withholding_Year.j0 : Nat → Int → List Int → Bool → Int → List (S58) → Int → Int → Int → Int → List (S80) → Option (List Int × Int)
 | 0, _, _, _, _, _, _, _, _, _, _ => none
 | k + 1, x1, x2, x28, x183000, x183001, x183002, x183003, x183004, x183005, x183006 => if x28 = true then (some (([] : List Int), 3)) else (withholding_Year.l0 k x1 x2 x2 (x2.length : Int) 0 x183000 x183001 x183002 x183003 x183004 x183005 x183006)
def withholding_Year.l0 : Nat → Int → List Int → List Int → Int → Int → Int → List (S58) → Int → Int → Int → Int → List (S80) → Option (List Int × Int)
 | 0, _, _, _, _, _, _, _, _, _, _, _, _ => none
 | k + 1, x1, x2, x29, x30, x31, x183000, x183001, x183002, x183003, x183004, x183005, x183006 => if x31 < x30 then (if 0 ≤ x31 then (if x31 < (x29.length : Int) then ((withholding_amount.f (rd x29 x31)).bind fun t186 => (if t186 = true then (withholding_Year.l0 k x1 x2 x29 x30 (wrap64 (x31 + 1)) x183000 x183001 x183002 x183003 x183004 x183005 x183006) else (some (([] : List Int), 2)))) else (none)) else (none)) else (withholding_Year.l1 k x1 ([] : List Int) 0 0 x2 (x2.length : Int) 0 x183000 x183001 x183002 x183003 x183004 x183005 x183006)
def withholding_Year.l1 : Nat → Int → List Int → Int → Int → List Int → Int → Int → Int → List (S58) → Int → Int → Int → Int → List (S80) → Option (List Int × Int)
 | 0, _, _, _, _, _, _, _, _, _, _, _, _, _, _ => none
 | k + 1, x1, x10, x11, x12, x39, x40, x41, x183000, x183001, x183002, x183003, x183004, x183005, x183006 => if x41 < x40 then (if 0 ≤ x41 then (if x41 < (x39.length : Int) then ((withholding_Cumulative.f k x183000 x183001 x183002 x183003 x183004 x183005 x183006 x1 (wrap64 (x41 + 1)) (wrap64 (x11 + (rd x39 x41))) x12).bind fun bt188 => (if bt188.2 = 0 then (if x10.length < 17592186044416 then (withholding_Year.l1 k x1 (x10 ++ [bt188.1]) (wrap64 (x11 + (rd x39 x41))) (wrap64 (x12 + bt188.1)) x39 x40 (wrap64 (x41 + 1)) x183000 x183001 x183002 x183003 x183004 x183005 x183006) else (none)) else (some (([] : List Int), bt188.2)))) else (none)) else (none)) else (some (x10, 0))
end
def withholding_Year.f (k : Nat) (a0_0 : Int) (l0_1 : List (S58)) (a0_2 : Int) (a0_3 : Int) (a0_4 : Int) (a0_5 : Int) (l0_6 : List (S80)) (a1 : Int) (l2 : List Int) : Option (List Int × Int) := (withholding_Valid.f k a0_0 l0_1 a0_2 a0_3 a0_4 a0_5 l0_6).bind fun t183 => (if t183 = true then ((withholding_count.f a1).bind fun t184 => (if t184 = true then (withholding_Year.j0 k a1 l2 (decide ((l2.length : Int) > a1)) a0_0 l0_1 a0_2 a0_3 a0_4 a0_5 l0_6) else (withholding_Year.j0 k a1 l2 true a0_0 l0_1 a0_2 a0_3 a0_4 a0_5 l0_6))) else (some (([] : List Int), 1)))
theorem withholding_Year.mono_l : ∀ k, (∀ y0 y1 y2 y3 y4 y5 y6 y7 y8 y9, LeO (withholding_Year.j0 k y0 y1 y2 y3 y4 y5 y6 y7 y8 y9) (withholding_Year.j0 (k + 1) y0 y1 y2 y3 y4 y5 y6 y7 y8 y9)) ∧ (∀ y0 y1 y2 y3 y4 y5 y6 y7 y8 y9 y10 y11, LeO (withholding_Year.l0 k y0 y1 y2 y3 y4 y5 y6 y7 y8 y9 y10 y11) (withholding_Year.l0 (k + 1) y0 y1 y2 y3 y4 y5 y6 y7 y8 y9 y10 y11)) ∧ (∀ y0 y1 y2 y3 y4 y5 y6 y7 y8 y9 y10 y11 y12 y13, LeO (withholding_Year.l1 k y0 y1 y2 y3 y4 y5 y6 y7 y8 y9 y10 y11 y12 y13) (withholding_Year.l1 (k + 1) y0 y1 y2 y3 y4 y5 y6 y7 y8 y9 y10 y11 y12 y13))
 | 0 => ⟨fun _ _ _ _ _ _ _ _ _ _ r h => by simp [withholding_Year.j0] at h, fun _ _ _ _ _ _ _ _ _ _ _ _ r h => by simp [withholding_Year.l0] at h, fun _ _ _ _ _ _ _ _ _ _ _ _ _ _ r h => by simp [withholding_Year.l1] at h⟩
 | k + 1 => by
  obtain ⟨ih0, ih1, ih2⟩ := withholding_Year.mono_l k
  refine ⟨?_, ?_, ?_⟩
  ·
   intro y0 y1 y2 y3 y4 y5 y6 y7 y8 y9
   unfold withholding_Year.j0
   repeat' first
   | (with_reducible exact ih0 _ _ _ _ _ _ _ _ _ _)
   | (with_reducible exact ih1 _ _ _ _ _ _ _ _ _ _ _ _)
   | (with_reducible exact ih2 _ _ _ _ _ _ _ _ _ _ _ _ _ _)
   | (with_reducible exact withholding_Cumulative.mono _ _ _ _ _ _ _ _ _ _ _ _)
   | (with_reducible exact withholding_Valid.mono _ _ _ _ _ _ _ _)
   | (with_reducible exact LeO.refl _)
   | (with_reducible exact LeO.none _)
   | (with_reducible refine LeO.ite ?_ ?_)
   | (with_reducible refine LeO.bind ?_ (fun _ => ?_))
   | exact ih0 _ _ _ _ _ _ _ _ _ _
   | exact ih1 _ _ _ _ _ _ _ _ _ _ _ _
   | exact ih2 _ _ _ _ _ _ _ _ _ _ _ _ _ _
   | exact withholding_Cumulative.mono _ _ _ _ _ _ _ _ _ _ _ _
   | exact withholding_Valid.mono _ _ _ _ _ _ _ _
   | exact LeO.none _
   | refine LeO.ite ?_ ?_
   | refine LeO.bind ?_ (fun _ => ?_)
  ·
   intro y0 y1 y2 y3 y4 y5 y6 y7 y8 y9 y10 y11
   unfold withholding_Year.l0
   repeat' first
   | (with_reducible exact ih0 _ _ _ _ _ _ _ _ _ _)
   | (with_reducible exact ih1 _ _ _ _ _ _ _ _ _ _ _ _)
   | (with_reducible exact ih2 _ _ _ _ _ _ _ _ _ _ _ _ _ _)
   | (with_reducible exact withholding_Cumulative.mono _ _ _ _ _ _ _ _ _ _ _ _)
   | (with_reducible exact withholding_Valid.mono _ _ _ _ _ _ _ _)
   | (with_reducible exact LeO.refl _)
   | (with_reducible exact LeO.none _)
   | (with_reducible refine LeO.ite ?_ ?_)
   | (with_reducible refine LeO.bind ?_ (fun _ => ?_))
   | exact ih0 _ _ _ _ _ _ _ _ _ _
   | exact ih1 _ _ _ _ _ _ _ _ _ _ _ _
   | exact ih2 _ _ _ _ _ _ _ _ _ _ _ _ _ _
   | exact withholding_Cumulative.mono _ _ _ _ _ _ _ _ _ _ _ _
   | exact withholding_Valid.mono _ _ _ _ _ _ _ _
   | exact LeO.none _
   | refine LeO.ite ?_ ?_
   | refine LeO.bind ?_ (fun _ => ?_)
  ·
   intro y0 y1 y2 y3 y4 y5 y6 y7 y8 y9 y10 y11 y12 y13
   unfold withholding_Year.l1
   repeat' first
   | (with_reducible exact ih0 _ _ _ _ _ _ _ _ _ _)
   | (with_reducible exact ih1 _ _ _ _ _ _ _ _ _ _ _ _)
   | (with_reducible exact ih2 _ _ _ _ _ _ _ _ _ _ _ _ _ _)
   | (with_reducible exact withholding_Cumulative.mono _ _ _ _ _ _ _ _ _ _ _ _)
   | (with_reducible exact withholding_Valid.mono _ _ _ _ _ _ _ _)
   | (with_reducible exact LeO.refl _)
   | (with_reducible exact LeO.none _)
   | (with_reducible refine LeO.ite ?_ ?_)
   | (with_reducible refine LeO.bind ?_ (fun _ => ?_))
   | exact ih0 _ _ _ _ _ _ _ _ _ _
   | exact ih1 _ _ _ _ _ _ _ _ _ _ _ _
   | exact ih2 _ _ _ _ _ _ _ _ _ _ _ _ _ _
   | exact withholding_Cumulative.mono _ _ _ _ _ _ _ _ _ _ _ _
   | exact withholding_Valid.mono _ _ _ _ _ _ _ _
   | exact LeO.none _
   | refine LeO.ite ?_ ?_
   | refine LeO.bind ?_ (fun _ => ?_)
theorem withholding_Year.mono : ∀ a0 a1 a2 a3 a4 a5 a6 a7 a8 k, LeO (withholding_Year.f k a0 a1 a2 a3 a4 a5 a6 a7 a8) (withholding_Year.f (k + 1) a0 a1 a2 a3 a4 a5 a6 a7 a8) := by
 intro a0 a1 a2 a3 a4 a5 a6 a7 a8 k
 obtain ⟨ih0, ih1, ih2⟩ := withholding_Year.mono_l k
 unfold withholding_Year.f
 repeat' first
   | (with_reducible exact ih0 _ _ _ _ _ _ _ _ _ _)
   | (with_reducible exact ih1 _ _ _ _ _ _ _ _ _ _ _ _)
   | (with_reducible exact ih2 _ _ _ _ _ _ _ _ _ _ _ _ _ _)
   | (with_reducible exact withholding_Cumulative.mono _ _ _ _ _ _ _ _ _ _ _ _)
   | (with_reducible exact withholding_Valid.mono _ _ _ _ _ _ _ _)
   | (with_reducible exact LeO.refl _)
   | (with_reducible exact LeO.none _)
   | (with_reducible refine LeO.ite ?_ ?_)
   | (with_reducible refine LeO.bind ?_ (fun _ => ?_))
   | exact ih0 _ _ _ _ _ _ _ _ _ _
   | exact ih1 _ _ _ _ _ _ _ _ _ _ _ _
   | exact ih2 _ _ _ _ _ _ _ _ _ _ _ _ _ _
   | exact withholding_Cumulative.mono _ _ _ _ _ _ _ _ _ _ _ _
   | exact withholding_Valid.mono _ _ _ _ _ _ _ _
   | exact LeO.none _
   | refine LeO.ite ?_ ?_
   | refine LeO.bind ?_ (fun _ => ?_)
set_option maxHeartbeats 8000000 in
set_option maxRecDepth 100000 in
theorem withholding_Year.calls (k : Nat) (a0_0 : Int) (A0_1 : Option Addr) (c0_1 : Nat) (l0_1 : List (S58)) (a0_2 : Int) (a0_3 : Int) (a0_4 : Int) (a0_5 : Int) (A0_6 : Option Addr) (c0_6 : Nat) (l0_6 : List (S80)) (a1 : Int) (A2 : Option Addr) (c2 : Nat) (l2 : List Int) (r1 : List Int) (r2 : Int) (w : World) (hr0_1 : Kd.C k58 w A0_1 l0_1.length l0_1) (hc0_1 : l0_1.length ≤ c0_1) (hr0_6 : Kd.C k80 w A0_6 l0_6.length l0_6) (hc0_6 : l0_6.length ≤ c0_6) (hr2 : Kd.C (Kd.int .i64) w A2 l2.length l2) (hc2 : l2.length ≤ c2) (h : withholding_Year.f k a0_0 l0_1 a0_2 a0_3 a0_4 a0_5 l0_6 a1 l2 = some (r1, r2)) :
  Calls Try.prog 31 #[.agg #[.int .i64 a0_0, .slice A0_1 l0_1.length c0_1, .int .i64 a0_2, .int .i64 a0_3, .int .i64 a0_4, .int .i64 a0_5, .slice A0_6 l0_6.length c0_6], .int .i64 a1, .slice A2 l2.length c2] w fun e w' => ∃ v0_ : Value, e = .returned (.tuple #[v0_, .int .i64 r2]) ∧ Kd.R (Kd.int .i64) 3 w' w.heap.size (fun _ => True) v0_ r1 ∧ Below w.heap.size w w' := by
 have hu33 := Try.underlying33
 have HR0_1 := Aside0.mk hr0_1
 have HC0_1 := Aside0.mk hc0_1
 clear hr0_1 hc0_1
 have HR0_6 := Aside0.mk hr0_6
 have HC0_6 := Aside0.mk hc0_6
 clear hr0_6 hc0_6
 have HR2 := Aside0.mk hr2
 have HC2 := Aside0.mk hc2
 clear hr2 hc2
 have HB := Aside0.mk (Below.refl w.heap.size w)
 have H : ((withholding_Valid.f k a0_0 l0_1 a0_2 a0_3 a0_4 a0_5 l0_6).bind fun t183 => (if t183 = true then ((withholding_count.f a1).bind fun t184 => (if t184 = true then (withholding_Year.j0 k a1 l2 (decide ((l2.length : Int) > a1)) a0_0 l0_1 a0_2 a0_3 a0_4 a0_5 l0_6) else (withholding_Year.j0 k a1 l2 true a0_0 l0_1 a0_2 a0_3 a0_4 a0_5 l0_6))) else (some (([] : List Int), 1)))) = some (r1, r2) := h
 clear h
 replace H := Option.bind_eq_some_iff.mp H
 obtain ⟨t183, A40, H⟩ := H
 try dsimp only at H
 have A4 := Aside0.mk A40
 clear A40
 by_cases c5 : t183 = true
 ·
  subst c5
  rw [if_pos rfl] at H
  have HC6 := Aside0.mk H
  clear H
  go_enter Try.func31, Try.ntmps31
  go_upto_region 3 with (first | ((with_reducible refine gate_dst (N := 3) rfl ?_); (try (refine gate_guard (by rfl) ?_; dsimp only)); refine box_event ?hg (N := 3) ?hd (cs := #[.int .i64 a0_0, .slice A0_1 l0_1.length c0_1, .int .i64 a0_2, .int .i64 a0_3, .int .i64 a0_4, .int .i64 a0_5, .slice A0_6 l0_6.length c0_6]) (t := 33) ?hr ?_; (case hd => rfl); (case hg => rfl); (case hr => first | (go_simp; done) | (go_simp; rfl)); intro gb182 hg w7 hbox hb; have n0_ := Aside0.mk (below_step q0 hb); have n1_ := Aside0.mk (hbox); have n2_ := Aside0.mk ((by rw [hg]; exact (below_size q0) : w.heap.size ≤ gb182)); have n3_ := Aside0.mk ((by rw [hg]; exact (below_size q0) : w.heap.size ≤ gb182)); clear HB; have HB := n0_; have BK182 := n1_; have GW182 := n2_; have GE182 := n3_; clear n0_ n1_ n2_ n3_; clear hb hbox hg; obtain ⟨hcz8_0, hcz8_1, hcz8_2, hcz8_3, hcz8_4, hcz8_5, hcz8_6, hfz8_0, hfz8_1, hfz8_2, hfz8_3, hfz8_4, hfz8_5, hfz8_6⟩ := blk7 BK182.out) | ((with_reducible refine gate_callee (f := 40) rfl ?_); refine goesL_ (some 18) rfl rfl Try.func40 (by kernel_rfl) rfl #[.agg #[.int .i64 a0_0, .slice A0_1 l0_1.length c0_1, .int .i64 a0_2, .int .i64 a0_3, .int .i64 a0_4, .int .i64 a0_5, .slice A0_6 l0_6.length c0_6]] rfl q1 ?_; (with_reducible refine (withholding_Valid.calls k a0_0 _ _ l0_1 a0_2 a0_3 a0_4 a0_5 _ _ l0_6 true _ ?side1 ?side2 ?side3 ?side4 A4.out).mono ?_); (case side1 => exact q12); (case side2 => exact HC0_1.out); (case side3 => exact q25); (case side4 => exact HC0_6.out); rintro e w9 ⟨rfl, hb⟩; refine ⟨_, rfl, ?_⟩; have n0_ := Aside0.mk (blk_below BK182.out hb); have n1_ := Aside0.mk (below_step q54 hb); clear BK182; clear HB; have BK182 := n0_; have HB := n1_; clear n0_ n1_; (try clear hb); (try clear hb2); (try clear hk); (try clear hi)))
  (try simp only [Act.put, List.setIfInBounds_toArray, List.set_cons_zero, List.set_cons_succ])
  go_cut [28] (fun v28 wc => ∃ (kq : Nat) (x28_5 : Bool), v28 = .bool x28_5 ∧ Aside0 (withholding_Year.j0 kq a1 l2 x28_5 a0_0 l0_1 a0_2 a0_3 a0_4 a0_5 l0_6 = some (r1, r2)) ∧ Aside0 (kq ≤ k) ∧ Aside0 (wc.heap[gb182]? = some (.cells #[.int .i64 a0_0, (.slice A0_1 l0_1.length c0_1), .int .i64 a0_2, .int .i64 a0_3, .int .i64 a0_4, .int .i64 a0_5, (.slice A0_6 l0_6.length c0_6)] 33 (0, 0))) ∧ Aside0 (Below w.heap.size w wc))
  case first =>
   have H := HC6.out
   clear HC6
   replace H := Option.bind_eq_some_iff.mp H
   obtain ⟨t184, A100, H⟩ := H
   try dsimp only at H
   have A10 := Aside0.mk A100
   clear A100
   by_cases c11 : t184 = true
   ·
    subst c11
    rw [if_pos rfl] at H
    have H' := Aside0.mk H
    clear H
    go_wp2_with (first | ((with_reducible refine gate_callee (f := 41) rfl ?_); refine goesL_ (some 21) rfl rfl Try.func41 (by kernel_rfl) rfl #[.int .i64 a1] rfl q1 ?_; (with_reducible refine (withholding_count.calls a1 true _ A10.out).mono ?_); rintro e w' ⟨rfl, ⟨nd, rfl⟩⟩; refine ⟨_, rfl, ?_⟩))
    go_meet
    case rel => exact ⟨_, (decide ((l2.length : Int) > a1)), q26, H', ⟨by first | omega | exact Nat.le_refl _⟩, ⟨q101⟩, ⟨q54⟩⟩
   ·
    replace c11 := Bool.eq_false_iff.mpr c11
    subst c11
    rw [if_neg (show ¬ (false = true) by decide)] at H
    have H' := Aside0.mk H
    clear H
    go_wp2_with (first | ((with_reducible refine gate_callee (f := 41) rfl ?_); refine goesL_ (some 21) rfl rfl Try.func41 (by kernel_rfl) rfl #[.int .i64 a1] rfl q1 ?_; (with_reducible refine (withholding_count.calls a1 false _ A10.out).mono ?_); rintro e w' ⟨rfl, ⟨nd, rfl⟩⟩; refine ⟨_, rfl, ?_⟩))
    go_meet
    case rel => exact ⟨_, (true), q26, H', ⟨by first | omega | exact Nat.le_refl _⟩, ⟨q101⟩, ⟨q54⟩⟩
  case rest =>
   clear HC6
   try clear c1
   try clear c2
   try clear p2
   try clear c3
   try clear c4
   try clear c5
   try clear c11
   try clear hcz8_0
   try clear hcz8_1
   try clear hcz8_2
   try clear hcz8_3
   try clear hcz8_4
   try clear hcz8_5
   try clear hcz8_6
   try clear hfz8_0
   try clear hfz8_1
   try clear hfz8_2
   try clear hfz8_3
   try clear hfz8_4
   try clear hfz8_5
   try clear hfz8_6
   obtain ⟨kq, x28_5, rfl, HA, HJ5, BK182, HB⟩ := hcut
   cases kq with
   | zero => exact absurd HA.out (by simp [withholding_Year.j0])
   | succ kj5 =>
    have H := HA.out
    clear HA
    simp only [withholding_Year.j0] at H
    by_cases c12 : x28_5 = true
    ·
     subst c12
     rw [if_pos rfl] at H
     simp only [Option.some.injEq, Prod.mk.injEq] at H
     obtain ⟨rfl, rfl⟩ := H
     go_wp2
     go_ret2
     exact ⟨_, by first | rfl | (simp [errW_none, errW_some] <;> rfl) | (simp [*, errW_none, errW_some] <;> rfl), by first | exact Kd.R_nil _ _ _ _ _ | exact Kd.N_nil _ _ _ _ _ | exact Kd.V_nil _ _ _ _ _ | exact Kd.Q_nil _ _ _ _ _ | exact Kd.S_nil _ _ _ _ _, q54⟩
    ·
     replace c12 := Bool.eq_false_iff.mpr c12
     subst c12
     rw [if_neg (show ¬ (false = true) by decide)] at H
     have H' := Aside0.mk H
     clear H
     go_wp2
     go_loopg [31] kj5 (fun kq v31 w' => ∃ (x31_2 : Int), v31 = .int .i64 x31_2 ∧ Aside0 (withholding_Year.l0 kq a1 l2 l2 (l2.length : Int) x31_2 a0_0 l0_1 a0_2 a0_3 a0_4 a0_5 l0_6 = some (r1, r2)) ∧ Aside0 (kq ≤ kj5) ∧ Aside0 (w'.heap[gb182]? = some (.cells #[.int .i64 a0_0, (.slice A0_1 l0_1.length c0_1), .int .i64 a0_2, .int .i64 a0_3, .int .i64 a0_4, .int .i64 a0_5, (.slice A0_6 l0_6.length c0_6)] 33 (0, 0))) ∧ Aside0 (Below w.heap.size w w'))
     case atStart => exact ⟨(0), q26, H', ⟨Nat.le_refl _⟩, ⟨q101⟩, ⟨q54⟩⟩
     case round =>
      clear H'
      try clear c1
      try clear c2
      try clear p2
      try clear c3
      try clear c4
      try clear c5
      try clear c11
      try clear c12
      try clear hcz8_0
      try clear hcz8_1
      try clear hcz8_2
      try clear hcz8_3
      try clear hcz8_4
      try clear hcz8_5
      try clear hcz8_6
      try clear hfz8_0
      try clear hfz8_1
      try clear hfz8_2
      try clear hfz8_3
      try clear hfz8_4
      try clear hfz8_5
      try clear hfz8_6
      try clear p2
      obtain ⟨x31_2, rfl, HA, HK2, BK182, HB⟩ := hrel
      cases gk with
      | zero => exact absurd HA.out (by simp [withholding_Year.l0])
      | succ k2 =>
       have H := HA.out
       clear HA
       simp only [withholding_Year.l0] at H
       by_cases c13 : x31_2 < (l2.length : Int)
       ·
        rw [if_pos c13] at H
        have c13b0 : decide (x31_2 < (l2.length : Int)) = true := decide_eq_true c13
        clear c13
        by_cases c14 : 0 ≤ x31_2
        ·
         rw [if_pos c14] at H
         have c14b0 : decide (0 ≤ x31_2) = true := decide_eq_true c14
         clear c14
         by_cases c15 : x31_2 < (l2.length : Int)
         ·
          rw [if_pos c15] at H
          have c15b0 : decide (x31_2 < (l2.length : Int)) = true := decide_eq_true c15
          clear c15
          replace H := Option.bind_eq_some_iff.mp H
          obtain ⟨t186, A160, H⟩ := H
          try dsimp only at H
          have A16 := Aside0.mk A160
          clear A160
          by_cases c17 : t186 = true
          ·
           subst c17
           rw [if_pos rfl] at H
           have H' := Aside0.mk H
           clear H
           have p185 : 0 ≤ (x31_2 : Int) := of_decide_eq_true q6
           have q185 : x31_2 < (l2.length : Int) := of_decide_eq_true q6
           obtain ⟨ad185, e185, hx185_0⟩ := Kd.at_int HR2.out x31_2 p185 q185
           cases e185
           replace hx185_0 := (HB.out.cell (World.block_lt_of_cell? w _ hx185_0)).trans hx185_0
           replace p185 := eq_true p185
           replace q185 := eq_true q185
           go_wp2_with (first | ((with_reducible refine gate_callee (f := 42) rfl ?_); refine goesL_ (some 36) rfl rfl Try.func42 (by kernel_rfl) rfl #[.int .i64 (rd l2 x31_2)] rfl q1 ?_; (with_reducible refine (withholding_amount.calls (rd l2 x31_2) true _ A16.out).mono ?_); rintro e w' ⟨rfl, ⟨nd, rfl⟩⟩; refine ⟨_, rfl, ?_⟩))
           go_roundg k2
           case measure => have := HJ5.out; have := HK2.out; omega
           case rel => exact ⟨(wrap64 (x31_2 + 1)), q26, H', ⟨by have := HJ5.out; have := HK2.out; omega⟩, ⟨q101⟩, ⟨q54⟩⟩
          ·
           replace c17 := Bool.eq_false_iff.mpr c17
           subst c17
           rw [if_neg (show ¬ (false = true) by decide)] at H
           simp only [Option.some.injEq, Prod.mk.injEq] at H
           obtain ⟨rfl, rfl⟩ := H
           have p185 : 0 ≤ (x31_2 : Int) := of_decide_eq_true q6
           have q185 : x31_2 < (l2.length : Int) := of_decide_eq_true q6
           obtain ⟨ad185, e185, hx185_0⟩ := Kd.at_int HR2.out x31_2 p185 q185
           cases e185
           replace hx185_0 := (HB.out.cell (World.block_lt_of_cell? w _ hx185_0)).trans hx185_0
           replace p185 := eq_true p185
           replace q185 := eq_true q185
           exact (by go_wp2_with (first | ((with_reducible refine gate_callee (f := 42) rfl ?_); refine goesL_ (some 36) rfl rfl Try.func42 (by kernel_rfl) rfl #[.int .i64 (rd l2 x31_2)] rfl q1 ?_; (with_reducible refine (withholding_amount.calls (rd l2 x31_2) false _ A16.out).mono ?_); rintro e w' ⟨rfl, ⟨nd, rfl⟩⟩; refine ⟨_, rfl, ?_⟩)); go_ret2; exact ⟨_, by first | rfl | (simp [errW_none, errW_some] <;> rfl) | (simp [*, errW_none, errW_some] <;> rfl), by first | exact Kd.R_nil _ _ _ _ _ | exact Kd.N_nil _ _ _ _ _ | exact Kd.V_nil _ _ _ _ _ | exact Kd.Q_nil _ _ _ _ _ | exact Kd.S_nil _ _ _ _ _, q54⟩)
         ·
          rw [if_neg c15] at H
          exact absurd H (by simp)
        ·
         rw [if_neg c14] at H
         exact absurd H (by simp)
       ·
        rw [if_neg c13] at H
        have c13b0 : decide (x31_2 < (l2.length : Int)) = false := decide_eq_false c13
        clear c13
        have H' := Aside0.mk H
        clear H
        go_wp2
        go_loopg [10, 11, 12, 41] k2 (fun kq v10 v11 v12 v41 w' => ∃ (x10_3 : List Int) (x11_3 : Int) (x12_3 : Int) (x41_3 : Int), v11 = .int .i64 x11_3 ∧ v12 = .int .i64 x12_3 ∧ v41 = .int .i64 x41_3 ∧ Aside0 (withholding_Year.l1 kq a1 x10_3 x11_3 x12_3 l2 (l2.length : Int) x41_3 a0_0 l0_1 a0_2 a0_3 a0_4 a0_5 l0_6 = some (r1, r2)) ∧ Aside0 (kq ≤ k2) ∧ Aside0 (Kd.R (Kd.int .i64) 3 w' w.heap.size (fun _ => True) v10 x10_3) ∧ Aside0 (w'.heap[gb182]? = some (.cells #[.int .i64 a0_0, (.slice A0_1 l0_1.length c0_1), .int .i64 a0_2, .int .i64 a0_3, .int .i64 a0_4, .int .i64 a0_5, (.slice A0_6 l0_6.length c0_6)] 33 (0, 0))) ∧ Aside0 (Below w.heap.size w w'))
        case atStart => exact ⟨(([] : List Int)), (0), (0), (0), q26, q26, q26, H', ⟨Nat.le_refl _⟩, ⟨by first | exact Kd.R_nil _ _ _ _ _ | exact Kd.N_nil _ _ _ _ _ | exact Kd.V_nil _ _ _ _ _ | exact Kd.Q_nil _ _ _ _ _ | exact Kd.S_nil _ _ _ _ _⟩, ⟨q101⟩, ⟨q54⟩⟩
        case round =>
         clear H'
         try clear c1
         try clear p1
         try clear q1
         try clear hx1
         try clear c2
         try clear p2
         try clear c3
         try clear c4
         try clear c5
         try clear p6
         try clear c11
         try clear c12
         try clear c13
         try clear c13b0
         try clear c14
         try clear c14b0
         try clear c15
         try clear c15b0
         try clear c17
         try clear hcz8_0
         try clear hcz8_1
         try clear hcz8_2
         try clear hcz8_3
         try clear hcz8_4
         try clear hcz8_5
         try clear hcz8_6
         try clear hfz8_0
         try clear hfz8_1
         try clear hfz8_2
         try clear hfz8_3
         try clear hfz8_4
         try clear hfz8_5
         try clear hfz8_6
         try clear hx185_0
         try clear p185
         try clear p2
         try clear q185
         obtain ⟨x10_3, x11_3, x12_3, x41_3, rfl, rfl, rfl, HA, HK3, HO_10, BK182, HB⟩ := hrel
         cases gk with
         | zero => exact absurd HA.out (by simp [withholding_Year.l1])
         | succ k3 =>
          have H := HA.out
          clear HA
          simp only [withholding_Year.l1] at H
          by_cases c18 : x41_3 < (l2.length : Int)
          ·
           rw [if_pos c18] at H
           have c18b0 : decide (x41_3 < (l2.length : Int)) = true := decide_eq_true c18
           clear c18
           by_cases c19 : 0 ≤ x41_3
           ·
            rw [if_pos c19] at H
            have c19b0 : decide (0 ≤ x41_3) = true := decide_eq_true c19
            clear c19
            by_cases c20 : x41_3 < (l2.length : Int)
            ·
             rw [if_pos c20] at H
             have c20b0 : decide (x41_3 < (l2.length : Int)) = true := decide_eq_true c20
             clear c20
             replace H := Option.bind_eq_some_iff.mp H
             obtain ⟨⟨t188, t189⟩, A210, H⟩ := H
             try dsimp only at H
             have A21 := Aside0.mk A210
             clear A210
             by_cases c22 : t189 = 0
             ·
              rw [if_pos c22] at H
              have c22b0 : (t189 == 0) = true := beq_iff_eq.mpr c22
              have c22b1 : (t189 != 0) = false := bne_eq_false_iff_eq.mpr c22
              clear c22
              by_cases c23 : x10_3.length < 17592186044416
              ·
               rw [if_pos c23] at H
               have LMc23 := Aside0.mk c23
               clear c23
               obtain ⟨y190, hy190⟩ : ∃ y_ : List Int, y_ = (x10_3 ++ [t188]) := ⟨_, rfl⟩
               replace H : (withholding_Year.l1 k3 a1 y190 (wrap64 (x11_3 + (rd l2 x41_3))) (wrap64 (x12_3 + t188)) l2 (l2.length : Int) (wrap64 (x41_3 + 1)) a0_0 l0_1 a0_2 a0_3 a0_4 a0_5 l0_6) = some (r1, r2) := by first | (rw [hy190]; with_reducible exact H) | (have H2_ := (Option.bind_some _ _).symm.trans H; rw [hy190]; with_reducible exact H2_) | (have H2_ := (Option.bind_some _ _).symm.trans H; with_reducible exact H2_) | with_reducible exact H | (rw [hy190]; exact H) | exact H
               have Ny190 := Aside0.mk hy190
               clear hy190
               have H' := Aside0.mk H
               clear H
               have p187 : 0 ≤ (x41_3 : Int) := of_decide_eq_true q6
               have q187 : x41_3 < (l2.length : Int) := of_decide_eq_true q6
               obtain ⟨ad187, e187, hx187_0⟩ := Kd.at_int HR2.out x41_3 p187 q187
               cases e187
               replace hx187_0 := (HB.out.cell (World.block_lt_of_cell? w _ hx187_0)).trans hx187_0
               replace p187 := eq_true p187
               replace q187 := eq_true q187
               obtain ⟨hcz24_0, hcz24_1, hcz24_2, hcz24_3, hcz24_4, hcz24_5, hcz24_6, hfz24_0, hfz24_1, hfz24_2, hfz24_3, hfz24_4, hfz24_5, hfz24_6⟩ := blk7 BK182.out
               go_wp2_with (first | ((with_reducible refine gate_callee (f := 28) rfl ?_); refine goesL_ (some 56) rfl rfl Try.func28 (by kernel_rfl) rfl #[.agg #[.int .i64 a0_0, .slice A0_1 l0_1.length c0_1, .int .i64 a0_2, .int .i64 a0_3, .int .i64 a0_4, .int .i64 a0_5, .slice A0_6 l0_6.length c0_6], .int .i64 a1, .int .i64 (wrap64 (x41_3 + 1)), .int .i64 (wrap64 (x11_3 + (rd l2 x41_3))), .int .i64 x12_3] rfl q1 ?_; (with_reducible refine (withholding_Cumulative.calls k3 a0_0 _ _ l0_1 a0_2 a0_3 a0_4 a0_5 _ _ l0_6 a1 (wrap64 (x41_3 + 1)) (wrap64 (x11_3 + (rd l2 x41_3))) x12_3 t188 t189 _ ?side1 ?side2 ?side3 ?side4 A21.out).mono ?_); (case side1 => exact q12); (case side2 => exact HC0_1.out); (case side3 => exact q25); (case side4 => exact HC0_6.out); rintro e w25 ⟨rfl, hb⟩; refine ⟨_, rfl, ?_⟩; have n0_ := Aside0.mk (Kd.R_below q116 hb); have n1_ := Aside0.mk (blk_below BK182.out hb); have n2_ := Aside0.mk (below_step q54 hb); clear HO_10; clear BK182; clear HB; have HO_10 := n0_; have BK182 := n1_; have HB := n2_; clear n0_ n1_ n2_; (try clear hb); (try clear hb2); (try clear hk); (try clear hi)) | ((with_reducible refine gate_builtin (b := .append) (xs := #[.tmp 65, .tmp 67]) rfl ?_); (try (refine gate_guard (by rfl) ?_; dsimp only)); at_builtin; refine Kd.R_append (Kd.int .i64) (w0 := w) w.heap.size rfl (.tmp 65) (.tmp 67) 22 3 (.int .i64 0) 8 rfl Try.underlying22 info3 rfl (by decide) (by omega) u10 x10_3 t188 [.int .i64 t188] (fun _ => True) (fun _ => False) rfl rfl ?aP (fun _ hk => hk.elim) ?aF ?aO ?aB ?aS ?aL ?_; (case aP => exact rfl); (case aB => exact q54); (case aF => exact (fun _ _ => trivial)); (case aO => exact q116); (case aS => exact (below_size q54)); (case aL => have := LMc23.out; omega); intro v191 w26 ho hb hg hat; rw [← Ny190.out] at ho; have n0_ := Aside0.mk (blk_grown BK182.out hg (Kd.R_ne HO_10.out BK182.out (by decide))); have n1_ := Aside0.mk (hb); have n2_ := Aside0.mk (ho); clear BK182; clear HB; clear HO_10; have BK182 := n0_; have HB := n1_; have HO192 := n2_; clear n0_ n1_ n2_; clear ho hb hg hat))
               go_roundg k3
               case measure => have := HJ5.out; have := HK2.out; have := HK3.out; omega
               case rel => exact ⟨(y190), (wrap64 (x11_3 + (rd l2 x41_3))), (wrap64 (x12_3 + t188)), (wrap64 (x41_3 + 1)), q26, q26, q26, H', ⟨by have := HJ5.out; have := HK2.out; have := HK3.out; omega⟩, ⟨(by (with_reducible repeat (first | apply Kd.R_alloc | apply Kd.R_drewN | apply Kd.R_drew)); exact HO192.out)⟩, ⟨q101⟩, ⟨q54⟩⟩
              ·
               rw [if_neg c23] at H
               exact absurd H (by simp)
             ·
              rw [if_neg c22] at H
              have c22b0 : (t189 == 0) = false := beq_eq_false_iff_ne.mpr c22
              have c22b1 : (t189 != 0) = true := bne_iff_ne.mpr c22
              simp only [Option.some.injEq, Prod.mk.injEq] at H
              obtain ⟨rfl, rfl⟩ := H
              have p187 : 0 ≤ (x41_3 : Int) := of_decide_eq_true q6
              have q187 : x41_3 < (l2.length : Int) := of_decide_eq_true q6
              obtain ⟨ad187, e187, hx187_0⟩ := Kd.at_int HR2.out x41_3 p187 q187
              cases e187
              replace hx187_0 := (HB.out.cell (World.block_lt_of_cell? w _ hx187_0)).trans hx187_0
              replace p187 := eq_true p187
              replace q187 := eq_true q187
              obtain ⟨hcz27_0, hcz27_1, hcz27_2, hcz27_3, hcz27_4, hcz27_5, hcz27_6, hfz27_0, hfz27_1, hfz27_2, hfz27_3, hfz27_4, hfz27_5, hfz27_6⟩ := blk7 BK182.out
              exact (by go_wp2_with (first | ((with_reducible refine gate_callee (f := 28) rfl ?_); refine goesL_ (some 56) rfl rfl Try.func28 (by kernel_rfl) rfl #[.agg #[.int .i64 a0_0, .slice A0_1 l0_1.length c0_1, .int .i64 a0_2, .int .i64 a0_3, .int .i64 a0_4, .int .i64 a0_5, .slice A0_6 l0_6.length c0_6], .int .i64 a1, .int .i64 (wrap64 (x41_3 + 1)), .int .i64 (wrap64 (x11_3 + (rd l2 x41_3))), .int .i64 x12_3] rfl q1 ?_; (with_reducible refine (withholding_Cumulative.calls k3 a0_0 _ _ l0_1 a0_2 a0_3 a0_4 a0_5 _ _ l0_6 a1 (wrap64 (x41_3 + 1)) (wrap64 (x11_3 + (rd l2 x41_3))) x12_3 t188 t189 _ ?side1 ?side2 ?side3 ?side4 A21.out).mono ?_); (case side1 => exact q12); (case side2 => exact HC0_1.out); (case side3 => exact q25); (case side4 => exact HC0_6.out); rintro e w_1 ⟨rfl, hb⟩; refine ⟨_, rfl, ?_⟩; have n0_ := Aside0.mk (Kd.R_below q116 hb); have n1_ := Aside0.mk (blk_below BK182.out hb); have n2_ := Aside0.mk (below_step q54 hb); clear HO_10; clear BK182; clear HB; have HO_10 := n0_; have BK182 := n1_; have HB := n2_; clear n0_ n1_ n2_; (try clear hb); (try clear hb2); (try clear hk); (try clear hi))); go_ret2; exact ⟨_, by first | rfl | (simp [errW_none, errW_some] <;> rfl) | (simp [*, errW_none, errW_some] <;> rfl), by first | exact Kd.R_nil _ _ _ _ _ | exact Kd.N_nil _ _ _ _ _ | exact Kd.V_nil _ _ _ _ _ | exact Kd.Q_nil _ _ _ _ _ | exact Kd.S_nil _ _ _ _ _, q54⟩)
            ·
             rw [if_neg c20] at H
             exact absurd H (by simp)
           ·
            rw [if_neg c19] at H
            exact absurd H (by simp)
          ·
           rw [if_neg c18] at H
           have c18b0 : decide (x41_3 < (l2.length : Int)) = false := decide_eq_false c18
           clear c18
           simp only [Option.some.injEq, Prod.mk.injEq] at H
           obtain ⟨rfl, rfl⟩ := H
           go_wp2
           go_ret2
           exact ⟨_, by first | rfl | (simp [errW_none, errW_some] <;> rfl) | (simp [*, errW_none, errW_some] <;> rfl), q116, q54⟩
 ·
  replace c5 := Bool.eq_false_iff.mpr c5
  subst c5
  rw [if_neg (show ¬ (false = true) by decide)] at H
  simp only [Option.some.injEq, Prod.mk.injEq] at H
  obtain ⟨rfl, rfl⟩ := H
  exact (by go_enter Try.func31, Try.ntmps31; go_wp2_with (first | ((with_reducible refine gate_dst (N := 3) rfl ?_); (try (refine gate_guard (by rfl) ?_; dsimp only)); refine box_event ?hg (N := 3) ?hd (cs := #[.int .i64 a0_0, .slice A0_1 l0_1.length c0_1, .int .i64 a0_2, .int .i64 a0_3, .int .i64 a0_4, .int .i64 a0_5, .slice A0_6 l0_6.length c0_6]) (t := 33) ?hr ?_; (case hd => rfl); (case hg => rfl); (case hr => first | (go_simp; done) | (go_simp; rfl)); intro gb182 hg w_1 hbox hb; have n0_ := Aside0.mk (below_step q0 hb); have n1_ := Aside0.mk (hbox); have n2_ := Aside0.mk ((by rw [hg]; exact (below_size q0) : w.heap.size ≤ gb182)); have n3_ := Aside0.mk ((by rw [hg]; exact (below_size q0) : w.heap.size ≤ gb182)); clear HB; have HB := n0_; have BK182 := n1_; have GW182 := n2_; have GE182 := n3_; clear n0_ n1_ n2_ n3_; clear hb hbox hg; obtain ⟨hcz_1, hcz_2, hcz_3, hcz_4, hcz_5, hcz_6, hcz_7, hfz_1, hfz_2, hfz_3, hfz_4, hfz_5, hfz_6, hfz_7⟩ := blk7 BK182.out) | ((with_reducible refine gate_callee (f := 40) rfl ?_); refine goesL_ (some 18) rfl rfl Try.func40 (by kernel_rfl) rfl #[.agg #[.int .i64 a0_0, .slice A0_1 l0_1.length c0_1, .int .i64 a0_2, .int .i64 a0_3, .int .i64 a0_4, .int .i64 a0_5, .slice A0_6 l0_6.length c0_6]] rfl q1 ?_; (with_reducible refine (withholding_Valid.calls k a0_0 _ _ l0_1 a0_2 a0_3 a0_4 a0_5 _ _ l0_6 false _ ?side1 ?side2 ?side3 ?side4 A4.out).mono ?_); (case side1 => exact q12); (case side2 => exact HC0_1.out); (case side3 => exact q25); (case side4 => exact HC0_6.out); rintro e w_2 ⟨rfl, hb⟩; refine ⟨_, rfl, ?_⟩; have n0_ := Aside0.mk (blk_below BK182.out hb); have n1_ := Aside0.mk (below_step q54 hb); clear BK182; clear HB; have BK182 := n0_; have HB := n1_; clear n0_ n1_; (try clear hb); (try clear hb2); (try clear hk); (try clear hi))); go_ret2; exact ⟨_, by first | rfl | (simp [errW_none, errW_some] <;> rfl) | (simp [*, errW_none, errW_some] <;> rfl), by first | exact Kd.R_nil _ _ _ _ _ | exact Kd.N_nil _ _ _ _ _ | exact Kd.V_nil _ _ _ _ _ | exact Kd.Q_nil _ _ _ _ _ | exact Kd.S_nil _ _ _ _ _, q54⟩)

end Go.Proofs.Ytbacfajhgmnjpaa.P
