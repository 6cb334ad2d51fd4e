/- Proved here: that the Go function bracket_Scale computes the plain function of that name (the machine side of the laws, reworked from a print; no condition of its own). -/
import Derived.Test.YtbacfajhgmnjpaaProg
import Derived.Test.YtbacfajhgmnjpaaV1
import Derived.Test.YtbacfajhgmnjpaaV2
import Derived.Test.YtbacfajhgmnjpaaFPRE
import Derived.Test.YtbacfajhgmnjpaaFbracketValid
namespace Go.Proofs.Ytbacfajhgmnjpaa.P
open Go.RowKit Go.Proofs.YtbacfajhgmnjpaaW.PrintWords Go.Proofs.YtbacfajhgmnjpaaW.PrintLast Go.Proofs.YtbacfajhgmnjpaaW.PrintMore
attribute [local go_sem] max2_int min2_int max_two min_two max_three min_three max_four min_four   -- for this text's walks alone
set_option linter.unusedVariables false
set_option linter.unusedSimpArgs false

mutual
def bracket_Scale.j0 : Nat → List (S58) → Int → Int → Bool → Option ((List (S58)) × Int)
 | 0, _, _, _, _ => none
 | k + 1, x0, x1, x2, x28 => if x28 = true then (some (([] : List (S58)), 2)) else (bracket_Scale.l0 k x1 x2 ([] : List (S58)) x0 (x0.length : Int) 0)
def bracket_Scale.l0 : Nat → Int → Int → List (S58) → List (S58) → Int → Int → Option ((List (S58)) × Int)
 | 0, _, _, _, _, _, _ => none
 | k + 1, x1, x2, x8, x29, x30, x31 => if x31 < x30 then (if 0 ≤ x31 then (if x31 < (x29.length : Int) then (if x2 = 0 then (none) else (if (x8.length : Int) > 0 then (if 0 ≤ (wrap64 ((x8.length : Int) - 1)) then (if (wrap64 ((x8.length : Int) - 1)) < (x8.length : Int) then (if ((rd_T58 x8 (wrap64 ((x8.length : Int) - 1))).f0) = (wrap64 (Int.tdiv (wrap64 (((rd_T58 x29 x31).f0) * x1)) x2)) then (if (wrap64 ((x8.length : Int) - 1)) ≤ (x8.length : Int) then ((some (x8.take ((wrap64 ((x8.length : Int) - 1)) : Int).toNat : List (S58))).bind fun y156 => (if y156.length < 8796093022208 then (bracket_Scale.l0 k x1 x2 (y156 ++ [(⟨wrap64 (Int.tdiv (wrap64 (((rd_T58 x29 x31).f0) * x1)) x2), (rd_T58 x29 x31).f1⟩ : S58)]) x29 x30 (wrap64 (x31 + 1))) else (none))) else (none)) else (if x8.length < 8796093022208 then (bracket_Scale.l0 k x1 x2 (x8 ++ [(⟨wrap64 (Int.tdiv (wrap64 (((rd_T58 x29 x31).f0) * x1)) x2), (rd_T58 x29 x31).f1⟩ : S58)]) x29 x30 (wrap64 (x31 + 1))) else (none))) else (none)) else (none)) else (if x8.length < 8796093022208 then (bracket_Scale.l0 k x1 x2 (x8 ++ [(⟨wrap64 (Int.tdiv (wrap64 (((rd_T58 x29 x31).f0) * x1)) x2), (rd_T58 x29 x31).f1⟩ : S58)]) x29 x30 (wrap64 (x31 + 1))) else (none)))) else (none)) else (none)) else (some (x8, 0))
end
def bracket_Scale.f (k : Nat) (l0 : List (S58)) (a1 : Int) (a2 : Int) : Option ((List (S58)) × Int) := (bracket_Valid.f k l0).bind fun t152 => (if t152 = true then (if a2 < 1 then (bracket_Scale.j0 k l0 a1 a2 true) else (if a2 > 53 then (bracket_Scale.j0 k l0 a1 a2 true) else (if a1 < 0 then (bracket_Scale.j0 k l0 a1 a2 true) else (bracket_Scale.j0 k l0 a1 a2 (decide (a1 > a2)))))) else (some (([] : List (S58)), 1)))
theorem bracket_Scale.mono_l : ∀ k, (∀ y0 y1 y2 y3, LeO (bracket_Scale.j0 k y0 y1 y2 y3) (bracket_Scale.j0 (k + 1) y0 y1 y2 y3)) ∧ (∀ y0 y1 y2 y3 y4 y5, LeO (bracket_Scale.l0 k y0 y1 y2 y3 y4 y5) (bracket_Scale.l0 (k + 1) y0 y1 y2 y3 y4 y5))
 | 0 => ⟨fun _ _ _ _ r h => by simp [bracket_Scale.j0] at h, fun _ _ _ _ _ _ r h => by simp [bracket_Scale.l0] at h⟩
 | k + 1 => by
  obtain ⟨ih0, ih1⟩ := bracket_Scale.mono_l k
  refine ⟨?_, ?_⟩
  ·
   intro y0 y1 y2 y3
   unfold bracket_Scale.j0
   repeat' first
   | (with_reducible exact ih0 _ _ _ _)
   | (with_reducible exact ih1 _ _ _ _ _ _)
   | (with_reducible exact bracket_Valid.mono _ _)
   | (with_reducible exact LeO.refl _)
   | (with_reducible exact LeO.none _)
   | (with_reducible refine LeO.ite ?_ ?_)
   | (with_reducible refine LeO.bind ?_ (fun _ => ?_))
   | exact ih0 _ _ _ _
   | exact ih1 _ _ _ _ _ _
   | exact bracket_Valid.mono _ _
   | exact LeO.none _
   | refine LeO.ite ?_ ?_
   | refine LeO.bind ?_ (fun _ => ?_)
  ·
   intro y0 y1 y2 y3 y4 y5
   unfold bracket_Scale.l0
   repeat' first
   | (with_reducible exact ih0 _ _ _ _)
   | (with_reducible exact ih1 _ _ _ _ _ _)
   | (with_reducible exact bracket_Valid.mono _ _)
   | (with_reducible exact LeO.refl _)
   | (with_reducible exact LeO.none _)
   | (with_reducible refine LeO.ite ?_ ?_)
   | (with_reducible refine LeO.bind ?_ (fun _ => ?_))
   | exact ih0 _ _ _ _
   | exact ih1 _ _ _ _ _ _
   | exact bracket_Valid.mono _ _
   | exact LeO.none _
   | refine LeO.ite ?_ ?_
   | refine LeO.bind ?_ (fun _ => ?_)
theorem bracket_Scale.mono : ∀ a0 a1 a2 k, LeO (bracket_Scale.f k a0 a1 a2) (bracket_Scale.f (k + 1) a0 a1 a2) := by
 intro a0 a1 a2 k
 obtain ⟨ih0, ih1⟩ := bracket_Scale.mono_l k
 unfold bracket_Scale.f
 repeat' first
   | (with_reducible exact ih0 _ _ _ _)
   | (with_reducible exact ih1 _ _ _ _ _ _)
   | (with_reducible exact bracket_Valid.mono _ _)
   | (with_reducible exact LeO.refl _)
   | (with_reducible exact LeO.none _)
   | (with_reducible refine LeO.ite ?_ ?_)
   | (with_reducible refine LeO.bind ?_ (fun _ => ?_))
   | exact ih0 _ _ _ _
   | exact ih1 _ _ _ _ _ _
   | exact bracket_Valid.mono _ _
   | exact LeO.none _
   | refine LeO.ite ?_ ?_
   | refine LeO.bind ?_ (fun _ => ?_)
set_option maxHeartbeats 8000000 in
set_option maxRecDepth 100000 in
theorem bracket_Scale.calls (k : Nat) (A0 : Option Addr) (c0 : Nat) (l0 : List (S58)) (a1 : Int) (a2 : Int) (r1 : List (S58)) (r2 : Int) (w : World) (hr0 : Kd.C k58 w A0 l0.length l0) (hc0 : l0.length ≤ c0) (h : bracket_Scale.f k l0 a1 a2 = some (r1, r2)) :
  Calls Try.prog 52 #[.slice A0 l0.length c0, .int .i64 a1, .int .i64 a2] w fun e w' => ∃ v0_ : Value, e = .returned (.tuple #[v0_, .int .i64 r2]) ∧ Kd.R k58 58 w' w.heap.size (fun _ => True) v0_ r1 ∧ Below w.heap.size w w' := by
 have hu58 := Try.underlying58
 have HR0 := Aside0.mk hr0
 have HC0 := Aside0.mk hc0
 clear hr0 hc0
 have HB := Aside0.mk (Below.refl w.heap.size w)
 have H : ((bracket_Valid.f k l0).bind fun t152 => (if t152 = true then (if a2 < 1 then (bracket_Scale.j0 k l0 a1 a2 true) else (if a2 > 53 then (bracket_Scale.j0 k l0 a1 a2 true) else (if a1 < 0 then (bracket_Scale.j0 k l0 a1 a2 true) else (bracket_Scale.j0 k l0 a1 a2 (decide (a1 > a2)))))) else (some (([] : List (S58)), 1)))) = some (r1, r2) := h
 clear h
 replace H := Option.bind_eq_some_iff.mp H
 obtain ⟨t152, A40, H⟩ := H
 try dsimp only at H
 have A4 := Aside0.mk A40
 clear A40
 by_cases c5 : t152 = true
 ·
  subst c5
  rw [if_pos rfl] at H
  have HC6 := Aside0.mk H
  clear H
  go_enter Try.func52, Try.ntmps52
  go_upto_region 3 with (first | (go_at_call 56; (with_reducible refine (bracket_Valid.calls k _ _ l0 true _ ?side1 ?side2 A4.out).mono ?_); (case side1 => exact q33); (case side2 => exact HC0.out); rintro e w7 ⟨rfl, hb⟩; have n0_ := Aside0.mk (below_step q0 hb); clear HB; have HB := n0_; clear n0_; (try clear hb); (try clear hb2); (try clear hk); (try clear hi)))
  repeat (go_quiet (first | fail); go_upto_region 3 with (first | fail))
  (try simp only [Act.put, List.setIfInBounds_toArray, List.set_cons_zero, List.set_cons_succ])
  go_cut [28] (fun v28 wc => ∃ (kq : Nat) (x28_5 : Bool), v28 = .bool x28_5 ∧ Aside0 (bracket_Scale.j0 kq l0 a1 a2 x28_5 = some (r1, r2)) ∧ Aside0 (kq ≤ k) ∧ Aside0 (Below w.heap.size w wc))
  case first =>
   have H := HC6.out
   clear HC6
   by_cases c8 : a2 < 1
   ·
    rw [if_pos c8] at H
    have c8b0 : decide (a2 < 1) = true := decide_eq_true c8
    clear c8
    (first | rw [c8b0] | (simp only [i64_w, i32_w]; rw [c8b0]) | skip)
    have H' := Aside0.mk H
    clear H
    go_wp2
    repeat (go_quiet (fail); try go_wp2)
    go_meet
    case rel => exact ⟨_, (true), q26, H', ⟨by first | omega | exact Nat.le_refl _⟩, ⟨q0⟩⟩
   ·
    rw [if_neg c8] at H
    have c8b0 : decide (a2 < 1) = false := decide_eq_false c8
    clear c8
    (first | rw [c8b0] | (simp only [i64_w, i32_w]; rw [c8b0]) | skip)
    by_cases c9 : a2 > 53
    ·
     rw [if_pos c9] at H
     have c9b0 : decide (53 < a2) = true := decide_eq_true c9
     clear c9
     have H' := Aside0.mk H
     clear H
     go_wp2
     repeat (go_quiet (fail); try go_wp2)
     go_meet
     case rel => exact ⟨_, (true), q26, H', ⟨by first | omega | exact Nat.le_refl _⟩, ⟨q0⟩⟩
    ·
     rw [if_neg c9] at H
     have c9b0 : decide (53 < a2) = false := decide_eq_false c9
     clear c9
     by_cases c10 : a1 < 0
     ·
      rw [if_pos c10] at H
      have c10b0 : decide (a1 < 0) = true := decide_eq_true c10
      clear c10
      have H' := Aside0.mk H
      clear H
      go_wp2
      repeat (go_quiet (fail); try go_wp2)
      go_meet
      case rel => exact ⟨_, (true), q26, H', ⟨by first | omega | exact Nat.le_refl _⟩, ⟨q0⟩⟩
     ·
      rw [if_neg c10] at H
      have c10b0 : decide (a1 < 0) = false := decide_eq_false c10
      clear c10
      have H' := Aside0.mk H
      clear H
      go_wp2
      repeat (go_quiet (fail); try go_wp2)
      go_meet
      case rel => exact ⟨_, (decide (a1 > a2)), q26, H', ⟨by first | omega | exact Nat.le_refl _⟩, ⟨q0⟩⟩
  case rest =>
   clear HC6
   try clear c1
   try clear p2
   try clear c5
   try clear c8
   try clear c8b0
   try clear c9
   try clear c9b0
   try clear c10
   try clear c10b0
   obtain ⟨kq, x28_5, rfl, HA, HJ5, HB⟩ := hcut
   cases kq with
   | zero => exact absurd HA.out (by simp [bracket_Scale.j0])
   | succ kj5 =>
    have H := HA.out
    clear HA
    simp only [bracket_Scale.j0] at H
    by_cases c11 : x28_5 = true
    ·
     subst c11
     rw [if_pos rfl] at H
     simp only [Option.some.injEq, Prod.mk.injEq] at H
     obtain ⟨rfl, rfl⟩ := H
     go_wp2
     repeat (go_quiet (fail); try go_wp2)
     go_ret2
     exact ⟨_, by first | rfl | (simp [errW_none, errW_some] <;> rfl) | (simp [*, errW_none, errW_some] <;> rfl), by first | exact Kd.R_nil _ _ _ _ _ | exact Kd.N_nil _ _ _ _ _ | exact Kd.V_nil _ _ _ _ _ | exact Kd.Q_nil _ _ _ _ _ | exact Kd.S_nil _ _ _ _ _, q0⟩
    ·
     replace c11 := Bool.eq_false_iff.mpr c11
     subst c11
     rw [if_neg (show ¬ (false = true) by decide)] at H
     have H' := Aside0.mk H
     clear H
     go_wp2
     repeat (go_quiet (fail); try go_wp2)
     go_loopg [8, 31] kj5 (fun kq v8 v31 w' => ∃ (x8_2 : List (S58)) (x31_2 : Int), v31 = .int .i64 x31_2 ∧ Aside0 (bracket_Scale.l0 kq a1 a2 x8_2 l0 (l0.length : Int) x31_2 = some (r1, r2)) ∧ Aside0 (kq ≤ kj5) ∧ Aside0 (Kd.R k58 58 w' w.heap.size (fun _ => True) v8 x8_2) ∧ Aside0 (Below w.heap.size w w'))
     case atStart => exact ⟨(([] : List (S58))), (0), q26, H', ⟨Nat.le_refl _⟩, ⟨by first | exact Kd.R_nil _ _ _ _ _ | exact Kd.N_nil _ _ _ _ _ | exact Kd.V_nil _ _ _ _ _ | exact Kd.Q_nil _ _ _ _ _ | exact Kd.S_nil _ _ _ _ _⟩, ⟨q0⟩⟩
     case round =>
      clear H'
      try clear c1
      try clear p2
      try clear c5
      try clear c8
      try clear c8b0
      try clear c9
      try clear c9b0
      try clear c10
      try clear c10b0
      try clear c11
      try clear p2
      obtain ⟨x8_2, x31_2, rfl, HA, HK2, HO_8, HB⟩ := hrel
      cases gk with
      | zero => exact absurd HA.out (by simp [bracket_Scale.l0])
      | succ k2 =>
       have H := HA.out
       clear HA
       simp only [bracket_Scale.l0] at H
       by_cases c12 : x31_2 < (l0.length : Int)
       ·
        rw [if_pos c12] at H
        have c12b0 : decide (x31_2 < (l0.length : Int)) = true := decide_eq_true c12
        clear c12
        by_cases c13 : 0 ≤ x31_2
        ·
         rw [if_pos c13] at H
         have c13b0 : decide (0 ≤ x31_2) = true := decide_eq_true c13
         clear c13
         by_cases c14 : x31_2 < (l0.length : Int)
         ·
          rw [if_pos c14] at H
          have c14b0 : decide (x31_2 < (l0.length : Int)) = true := decide_eq_true c14
          clear c14
          by_cases c15 : a2 = 0
          ·
           rw [if_pos c15] at H
           exact absurd H (by simp)
          ·
           rw [if_neg c15] at H
           have c15b0 : (a2 == 0) = false := beq_eq_false_iff_ne.mpr c15
           have c15b1 : (a2 != 0) = true := bne_iff_ne.mpr c15
           by_cases c16 : (x8_2.length : Int) > 0
           ·
            rw [if_pos c16] at H
            have c16b0 : decide (0 < (x8_2.length : Int)) = true := decide_eq_true c16
            have c16b1 : decide (0 < x8_2.length) = true := decide_eq_true (by omega)
            clear c16
            obtain ⟨ji17, hji17⟩ : ∃ j_ : Int, (wrap64 ((x8_2.length : Int) - 1)) = j_ := ⟨_, rfl⟩
            replace H : (if 0 ≤ (ji17) then (if (ji17) < (x8_2.length : Int) then (if ((rd_T58 x8_2 (ji17)).f0) = (wrap64 (Int.tdiv (wrap64 (((rd_T58 l0 x31_2).f0) * a1)) a2)) then (if (ji17) ≤ (x8_2.length : Int) then ((some (x8_2.take ((ji17) : Int).toNat : List (S58))).bind fun y156 => (if y156.length < 8796093022208 then (bracket_Scale.l0 k2 a1 a2 (y156 ++ [(⟨wrap64 (Int.tdiv (wrap64 (((rd_T58 l0 x31_2).f0) * a1)) a2), (rd_T58 l0 x31_2).f1⟩ : S58)]) l0 (l0.length : Int) (wrap64 (x31_2 + 1))) else (none))) else (none)) else (if x8_2.length < 8796093022208 then (bracket_Scale.l0 k2 a1 a2 (x8_2 ++ [(⟨wrap64 (Int.tdiv (wrap64 (((rd_T58 l0 x31_2).f0) * a1)) a2), (rd_T58 l0 x31_2).f1⟩ : S58)]) l0 (l0.length : Int) (wrap64 (x31_2 + 1))) else (none))) else (none)) else (none)) = some (r1, r2) := by first | (rw [hji17] at H; exact H) | (simp only [hji17] at H ⊢; exact H)
            have hji17w : (IntKind.i64.wrap ((x8_2.length : Int) - 1)) = ji17 := (i64_w _).trans hji17
            by_cases c18 : 0 ≤ (ji17)
            ·
             rw [if_pos c18] at H
             have c18b0 : decide (0 ≤ (ji17)) = true := decide_eq_true c18
             clear c18
             by_cases c19 : (ji17) < (x8_2.length : Int)
             ·
              rw [if_pos c19] at H
              have c19b0 : decide ((ji17) < (x8_2.length : Int)) = true := decide_eq_true c19
              clear c19
              by_cases c20 : ((rd_T58 x8_2 (ji17)).f0) = (wrap64 (Int.tdiv (wrap64 (((rd_T58 l0 x31_2).f0) * a1)) a2))
              ·
               rw [if_pos c20] at H
               have c20b0 : (((rd_T58 x8_2 (ji17)).f0) == (wrap64 (Int.tdiv (wrap64 (((rd_T58 l0 x31_2).f0) * a1)) a2))) = true := beq_iff_eq.mpr c20
               have c20b1 : (((rd_T58 x8_2 (ji17)).f0) != (wrap64 (Int.tdiv (wrap64 (((rd_T58 l0 x31_2).f0) * a1)) a2))) = false := bne_eq_false_iff_eq.mpr c20
               clear c20
               by_cases c21 : (ji17) ≤ (x8_2.length : Int)
               ·
                rw [if_pos c21] at H
                have c21b0 := eq_true c21
                have c21b1 : decide ((ji17) ≤ (x8_2.length : Int)) = true := decide_eq_true c21
                clear c21
                obtain ⟨y156, hy156⟩ : ∃ y_ : List (S58), y_ = (x8_2.take ((ji17) : Int).toNat) := ⟨_, rfl⟩
                replace H : (if y156.length < 8796093022208 then (bracket_Scale.l0 k2 a1 a2 (y156 ++ [(⟨wrap64 (Int.tdiv (wrap64 (((rd_T58 l0 x31_2).f0) * a1)) a2), (rd_T58 l0 x31_2).f1⟩ : S58)]) l0 (l0.length : Int) (wrap64 (x31_2 + 1))) else (none)) = some (r1, r2) := by first | (rw [hy156]; with_reducible exact H) | (have H2_ := (Option.bind_some _ _).symm.trans H; rw [hy156]; with_reducible exact H2_) | (have H2_ := (Option.bind_some _ _).symm.trans H; with_reducible exact H2_) | with_reducible exact H | (rw [hy156]; exact H) | exact H
                have Ny156 := Aside0.mk hy156
                clear hy156
                by_cases c22 : y156.length < 8796093022208
                ·
                 rw [if_pos c22] at H
                 have LMc22 := Aside0.mk c22
                 clear c22
                 obtain ⟨y159, hy159⟩ : ∃ y_ : List (S58), y_ = (y156 ++ [(⟨wrap64 (Int.tdiv (wrap64 (((rd_T58 l0 x31_2).f0) * a1)) a2), (rd_T58 l0 x31_2).f1⟩ : S58)]) := ⟨_, rfl⟩
                 replace H : (bracket_Scale.l0 k2 a1 a2 y159 l0 (l0.length : Int) (wrap64 (x31_2 + 1))) = some (r1, r2) := by first | (rw [hy159]; with_reducible exact H) | (have H2_ := (Option.bind_some _ _).symm.trans H; rw [hy159]; with_reducible exact H2_) | (have H2_ := (Option.bind_some _ _).symm.trans H; with_reducible exact H2_) | with_reducible exact H | (rw [hy159]; exact H) | exact H
                 have Ny159 := Aside0.mk hy159
                 clear hy159
                 have H' := Aside0.mk H
                 clear H
                 have p153 : 0 ≤ (x31_2 : Int) := of_decide_eq_true q6
                 have q153 : x31_2 < (l0.length : Int) := of_decide_eq_true q6
                 obtain ⟨ad153, e153, hx153_0, hx153_1⟩ := at_T58 HR0.out x31_2 p153 q153
                 cases e153
                 replace hx153_0 := (HB.out.cell (World.block_lt_of_cell? w _ hx153_0)).trans hx153_0
                 replace hx153_1 := (HB.out.cell (World.block_lt_of_cell? w _ hx153_1)).trans hx153_1
                 replace p153 := eq_true p153
                 replace q153 := eq_true q153
                 go_wp2_with (first | ((with_reducible refine gate_dst (N := 10) rfl ?_); (try (refine gate_guard (by rfl) ?_; dsimp only)); refine box_event ?hg (N := 10) ?hd (cs := #[.int .i64 0, .int .i64 0]) (t := 58) ?hr ?_; (case hd => rfl); (case hg => rfl); (case hr => first | (go_simp; done) | (go_simp; rfl)); intro gb154 hg w23 hbox hb; have n0_ := Aside0.mk (Kd.R_below (Kd.R_elderB q94 gb154 (Nat.le_of_eq hg.symm)) hb); have n1_ := Aside0.mk (below_step q0 hb); have n2_ := Aside0.mk (hbox); have n3_ := Aside0.mk ((by rw [hg]; exact (below_size q0) : w.heap.size ≤ gb154)); have n4_ := Aside0.mk ((by rw [hg]; exact (below_size q0) : w.heap.size ≤ gb154)); clear HO_8; clear HB; have HO_8 := n0_; have HB := n1_; have BK154 := n2_; have GW154 := n3_; have GE154 := n4_; clear n0_ n1_ n2_ n3_ n4_; clear hb hbox hg; obtain ⟨hcz24_0, hcz24_1, hfz24_0, hfz24_1⟩ := blk2 BK154.out) | ((with_reducible refine gate_store (t := 58) (p := 10) rfl ?_); (try (rw [drewN_self w23]; generalize hq_ : World.drewN w23 _ = w23; have n0_ := Aside0.mk (Kd.R_at hq_ HO_8.out); have n1_ := Aside0.mk (blk_at hq_ BK154.out); have n2_ := Aside0.mk (below_at hq_ HB.out); clear hq_ HO_8 BK154 HB; have HO_8 := n0_; have BK154 := n1_; have HB := n2_; clear n0_ n1_ n2_)); refine store_event (t := 58) (p := 10) (v := ?vo_w25) (w1 := ((w23.setCell ⟨gb154, 0, none⟩ (.int .i64 ((rd_T58 l0 x31_2).f0))).setCell ⟨gb154, 1, none⟩ (.int .i64 ((rd_T58 l0 x31_2).f1)))) ?hg ?ho ?hn ?hr ?_; (case ho => rfl); (case hg => rfl); (case hn => rfl); (case hr => first | (go_simp; done) | (go_simp; rfl)); intro w25 hw; have n0_ : Aside0 (Kd.R k58 58 w25 w.heap.size (fun k_ => k_ ≠ gb154) u8 x8_2) := ⟨(by rw [hw]; exact (by (with_reducible repeat (first | apply Kd.R_alloc | apply Kd.R_drewN | apply Kd.R_drew)); exact Kd.R_mono (Kd.R_far (p := ⟨gb154, 1, none⟩) (Kd.R_far (p := ⟨gb154, 0, none⟩) (Kd.R_mono HO_8.out (fun k_ hk => (⟨hk, hk.2⟩ : _ ∧ k_ ≠ gb154))) (fun _ hk => hk.2) (.int .i64 ((rd_T58 l0 x31_2).f0))) (fun _ hk => hk.2) (.int .i64 ((rd_T58 l0 x31_2).f1))) (fun _ hk => hk.1.2)))⟩; have n1_ : Aside0 (w25.heap[gb154]? = some (.cells #[.int .i64 ((rd_T58 l0 x31_2).f0), .int .i64 ((rd_T58 l0 x31_2).f1)] 58 (0, 0))) := ⟨(by rw [hw]; exact (by (with_reducible repeat (first | refine blk_drewN ?_ _ | refine blk_drew ?_ | refine blk_alloc ?_ _)); refine blk_put (cs := #[.int .i64 ((rd_T58 l0 x31_2).f0), .int .i64 0]) ?_ 1 _ rfl; (with_reducible repeat (first | refine blk_drewN ?_ _ | refine blk_drew ?_ | refine blk_alloc ?_ _)); refine blk_put (cs := #[.int .i64 0, .int .i64 0]) ?_ 0 _ rfl; (with_reducible repeat (first | refine blk_drewN ?_ _ | refine blk_drew ?_ | refine blk_alloc ?_ _)); exact BK154.out))⟩; have n2_ : Aside0 (Below w.heap.size w w25) := ⟨(by rw [hw]; exact q67)⟩; clear hw; clear HO_8; clear BK154; clear HB; have HO_8 := n0_; have BK154 := n1_; have HB := n2_; clear n0_ n1_ n2_; obtain ⟨hcz26_0, hcz26_1, hfz26_0, hfz26_1⟩ := blk2 BK154.out) | ((with_reducible refine gate_store (t := 3) (p := 41) rfl ?_); (try (rw [drewN_self w25]; generalize hq_ : World.drewN w25 _ = w25; have n0_ := Aside0.mk (Kd.R_at hq_ HO_8.out); have n1_ := Aside0.mk (blk_at hq_ BK154.out); have n2_ := Aside0.mk (below_at hq_ HB.out); clear hq_ HO_8 BK154 HB; have HO_8 := n0_; have BK154 := n1_; have HB := n2_; clear n0_ n1_ n2_)); refine store_event (t := 3) (p := 41) (v := ?vo_w27) (w1 := (w25.setCell ⟨gb154, 0, none⟩ (.int .i64 (wrap64 (Int.tdiv (wrap64 (((rd_T58 l0 x31_2).f0) * a1)) a2))))) ?hg ?ho ?hn ?hr ?_; (case ho => rfl); (case hg => rfl); (case hn => rfl); (case hr => first | (go_simp; done) | (go_simp; rfl)); intro w27 hw; have n0_ : Aside0 (Kd.R k58 58 w27 w.heap.size (fun k_ => k_ ≠ gb154) u8 x8_2) := ⟨(by rw [hw]; exact (by (with_reducible repeat (first | apply Kd.R_alloc | apply Kd.R_drewN | apply Kd.R_drew)); exact Kd.R_mono (Kd.R_far (p := ⟨gb154, 0, none⟩) (Kd.R_mono HO_8.out (fun k_ hk => (⟨hk, hk⟩ : _ ∧ k_ ≠ gb154))) (fun _ hk => hk.2) (.int .i64 (wrap64 (Int.tdiv (wrap64 (((rd_T58 l0 x31_2).f0) * a1)) a2)))) (fun _ hk => hk.1)))⟩; have n1_ : Aside0 (w27.heap[gb154]? = some (.cells #[.int .i64 (wrap64 (Int.tdiv (wrap64 (((rd_T58 l0 x31_2).f0) * a1)) a2)), .int .i64 ((rd_T58 l0 x31_2).f1)] 58 (0, 0))) := ⟨(by rw [hw]; exact (by (with_reducible repeat (first | refine blk_drewN ?_ _ | refine blk_drew ?_ | refine blk_alloc ?_ _)); refine blk_put (cs := #[.int .i64 ((rd_T58 l0 x31_2).f0), .int .i64 ((rd_T58 l0 x31_2).f1)]) ?_ 0 _ rfl; (with_reducible repeat (first | refine blk_drewN ?_ _ | refine blk_drew ?_ | refine blk_alloc ?_ _)); exact BK154.out))⟩; have n2_ : Aside0 (Below w.heap.size w w27) := ⟨(by rw [hw]; exact q67)⟩; clear hw; clear HO_8; clear BK154; clear HB; have HO_8 := n0_; have BK154 := n1_; have HB := n2_; clear n0_ n1_ n2_; obtain ⟨Ao28, co28, eo28⟩ := Kd.R_slice HO_8.out; subst eo28; have p155 : 0 ≤ ((ji17) : Int) := of_decide_eq_true q6; have q155 : (ji17) < (x8_2.length : Int) := of_decide_eq_true q6; obtain ⟨ad155, e155, hx155_0, hx155_1⟩ := at_T58 (Kd.R_reads' HO_8.out).2.2 (ji17) p155 q155; cases e155; replace p155 := eq_true p155; replace q155 := eq_true q155; obtain ⟨hcz29_0, hcz29_1, hfz29_0, hfz29_1⟩ := blk2 BK154.out; have q30 : ((ji17) : Int) ≤ ((x8_2.length : Int) : Int) := of_decide_eq_true q6; obtain ⟨i030, hi030, _, hsz30, _⟩ := info_parts info58; have hcut30 := cut_to (P := Try.prog) 30 58 .i64 Try.underlying30 hi030 (some ad155) x8_2.length co28 (ji17) (of_decide_eq_true q6) q30 (Kd.R_reads' HO_8.out).2.1; have hr30 := Kd.R_take (m := ((ji17) : Int).toNat) HO_8.out (by omega); have hy30 : y156.length = ((ji17) : Int).toNat := (by rw [Ny156.out, List.length_take]; omega); rw [← Ny156.out] at hr30; rw [← hy30] at hr30 hcut30; clear hy30 hi030 hsz30 HO_8; have HO158 := Aside0.mk hr30; clear hr30; replace q30 := eq_true q30))
                 repeat (go_quiet (first | fail); try go_wp2_with (first | ((with_reducible refine gate_builtin (b := .append) (xs := #[.tmp 62, .tmp 64]) rfl ?_); (try (refine gate_guard (by rfl) ?_; dsimp only)); at_builtin; refine Kd.R_append k58 (w0 := w) w.heap.size rfl (.tmp 62) (.tmp 64) 30 58 (.agg #[(.int .i64 0), (.int .i64 0)]) 16 rfl Try.underlying30 info58 rfl (by decide) (by omega) (.slice (some ad155) y156.length co28) y156 (⟨wrap64 (Int.tdiv (wrap64 (((rd_T58 l0 x31_2).f0) * a1)) a2), (rd_T58 l0 x31_2).f1⟩ : S58) [.int .i64 (wrap64 (Int.tdiv (wrap64 (((rd_T58 l0 x31_2).f0) * a1)) a2)), .int .i64 ((rd_T58 l0 x31_2).f1)] (fun k_ => k_ ≠ gb154) (fun _ => False) rfl rfl ?aP (fun _ hk => hk.elim) ?aF ?aO ?aB ?aS ?aL ?_; (case aP => exact k58_mkM _ _ _ (⟨wrap64 (Int.tdiv (wrap64 (((rd_T58 l0 x31_2).f0) * a1)) a2), (rd_T58 l0 x31_2).f1⟩ : S58)); (case aB => exact q67); (case aF => exact (fun k_ hk => Kd.freshB (g := gb154) (o := .cells #[.int .i64 (wrap64 (Int.tdiv (wrap64 (((rd_T58 l0 x31_2).f0) * a1)) a2)), .int .i64 ((rd_T58 l0 x31_2).f1)] 58 (0, 0)) (by (with_reducible repeat (first | refine blk_drewN ?_ _ | refine blk_drew ?_ | refine blk_alloc ?_ _)); exact BK154.out) k_ hk)); (case aO => exact (by (with_reducible repeat (first | apply Kd.R_alloc | apply Kd.R_drewN | apply Kd.R_drew)); exact HO158.out)); (case aS => exact (below_size q67)); (case aL => have := LMc22.out; omega); intro v160 w31 ho hb hg hat; rw [← Ny159.out] at ho; have n0_ := Aside0.mk (blk_grown (g := gb154) (o := .cells #[.int .i64 (wrap64 (Int.tdiv (wrap64 (((rd_T58 l0 x31_2).f0) * a1)) a2)), .int .i64 ((rd_T58 l0 x31_2).f1)] 58 (0, 0)) (by (with_reducible repeat (first | refine blk_drewN ?_ _ | refine blk_drew ?_ | refine blk_alloc ?_ _)); exact BK154.out) hg (Kd.R_away HO158.out (fun _ hk => hk))); have n1_ := Aside0.mk (hb); have n2_ := Aside0.mk (ho); clear BK154; clear HB; clear HO158; have BK154 := n0_; have HB := n1_; have HO161 := n2_; clear n0_ n1_ n2_; clear ho hb hg hat)))
                 go_roundg k2
                 case measure => have := HJ5.out; have := HK2.out; omega
                 case rel => exact ⟨(y159), (wrap64 (x31_2 + 1)), q26, H', ⟨by have := HJ5.out; have := HK2.out; omega⟩, ⟨by (with_reducible repeat (first | apply Kd.R_alloc | apply Kd.R_drewN | apply Kd.R_drew)); exact Kd.R_mono HO161.out (fun _ hk => trivial)⟩, ⟨q67⟩⟩
                ·
                 rw [if_neg c22] at H
                 exact absurd H (by simp)
               ·
                rw [if_neg c21] at H
                exact absurd H (by simp)
              ·
               rw [if_neg c20] at H
               have c20b0 : (((rd_T58 x8_2 (ji17)).f0) == (wrap64 (Int.tdiv (wrap64 (((rd_T58 l0 x31_2).f0) * a1)) a2))) = false := beq_eq_false_iff_ne.mpr c20
               have c20b1 : (((rd_T58 x8_2 (ji17)).f0) != (wrap64 (Int.tdiv (wrap64 (((rd_T58 l0 x31_2).f0) * a1)) a2))) = true := bne_iff_ne.mpr c20
               by_cases c32 : x8_2.length < 8796093022208
               ·
                rw [if_pos c32] at H
                have LMc32 := Aside0.mk c32
                clear c32
                obtain ⟨y162, hy162⟩ : ∃ y_ : List (S58), y_ = (x8_2 ++ [(⟨wrap64 (Int.tdiv (wrap64 (((rd_T58 l0 x31_2).f0) * a1)) a2), (rd_T58 l0 x31_2).f1⟩ : S58)]) := ⟨_, rfl⟩
                replace H : (bracket_Scale.l0 k2 a1 a2 y162 l0 (l0.length : Int) (wrap64 (x31_2 + 1))) = some (r1, r2) := by first | (rw [hy162]; with_reducible exact H) | (have H2_ := (Option.bind_some _ _).symm.trans H; rw [hy162]; with_reducible exact H2_) | (have H2_ := (Option.bind_some _ _).symm.trans H; with_reducible exact H2_) | with_reducible exact H | (rw [hy162]; exact H) | exact H
                have Ny162 := Aside0.mk hy162
                clear hy162
                have H' := Aside0.mk H
                clear H
                have p153 : 0 ≤ (x31_2 : Int) := of_decide_eq_true q6
                have q153 : x31_2 < (l0.length : Int) := of_decide_eq_true q6
                obtain ⟨ad153, e153, hx153_0, hx153_1⟩ := at_T58 HR0.out x31_2 p153 q153
                cases e153
                replace hx153_0 := (HB.out.cell (World.block_lt_of_cell? w _ hx153_0)).trans hx153_0
                replace hx153_1 := (HB.out.cell (World.block_lt_of_cell? w _ hx153_1)).trans hx153_1
                replace p153 := eq_true p153
                replace q153 := eq_true q153
                go_wp2_with (first | ((with_reducible refine gate_dst (N := 10) rfl ?_); (try (refine gate_guard (by rfl) ?_; dsimp only)); refine box_event ?hg (N := 10) ?hd (cs := #[.int .i64 0, .int .i64 0]) (t := 58) ?hr ?_; (case hd => rfl); (case hg => rfl); (case hr => first | (go_simp; done) | (go_simp; rfl)); intro gb154 hg w23 hbox hb; have n0_ := Aside0.mk (Kd.R_below (Kd.R_elderB q94 gb154 (Nat.le_of_eq hg.symm)) hb); have n1_ := Aside0.mk (below_step q0 hb); have n2_ := Aside0.mk (hbox); have n3_ := Aside0.mk ((by rw [hg]; exact (below_size q0) : w.heap.size ≤ gb154)); have n4_ := Aside0.mk ((by rw [hg]; exact (below_size q0) : w.heap.size ≤ gb154)); clear HO_8; clear HB; have HO_8 := n0_; have HB := n1_; have BK154 := n2_; have GW154 := n3_; have GE154 := n4_; clear n0_ n1_ n2_ n3_ n4_; clear hb hbox hg; obtain ⟨hcz24_0, hcz24_1, hfz24_0, hfz24_1⟩ := blk2 BK154.out) | ((with_reducible refine gate_store (t := 58) (p := 10) rfl ?_); (try (rw [drewN_self w23]; generalize hq_ : World.drewN w23 _ = w23; have n0_ := Aside0.mk (Kd.R_at hq_ HO_8.out); have n1_ := Aside0.mk (blk_at hq_ BK154.out); have n2_ := Aside0.mk (below_at hq_ HB.out); clear hq_ HO_8 BK154 HB; have HO_8 := n0_; have BK154 := n1_; have HB := n2_; clear n0_ n1_ n2_)); refine store_event (t := 58) (p := 10) (v := ?vo_w25) (w1 := ((w23.setCell ⟨gb154, 0, none⟩ (.int .i64 ((rd_T58 l0 x31_2).f0))).setCell ⟨gb154, 1, none⟩ (.int .i64 ((rd_T58 l0 x31_2).f1)))) ?hg ?ho ?hn ?hr ?_; (case ho => rfl); (case hg => rfl); (case hn => rfl); (case hr => first | (go_simp; done) | (go_simp; rfl)); intro w25 hw; have n0_ : Aside0 (Kd.R k58 58 w25 w.heap.size (fun k_ => k_ ≠ gb154) u8 x8_2) := ⟨(by rw [hw]; exact (by (with_reducible repeat (first | apply Kd.R_alloc | apply Kd.R_drewN | apply Kd.R_drew)); exact Kd.R_mono (Kd.R_far (p := ⟨gb154, 1, none⟩) (Kd.R_far (p := ⟨gb154, 0, none⟩) (Kd.R_mono HO_8.out (fun k_ hk => (⟨hk, hk.2⟩ : _ ∧ k_ ≠ gb154))) (fun _ hk => hk.2) (.int .i64 ((rd_T58 l0 x31_2).f0))) (fun _ hk => hk.2) (.int .i64 ((rd_T58 l0 x31_2).f1))) (fun _ hk => hk.1.2)))⟩; have n1_ : Aside0 (w25.heap[gb154]? = some (.cells #[.int .i64 ((rd_T58 l0 x31_2).f0), .int .i64 ((rd_T58 l0 x31_2).f1)] 58 (0, 0))) := ⟨(by rw [hw]; exact (by (with_reducible repeat (first | refine blk_drewN ?_ _ | refine blk_drew ?_ | refine blk_alloc ?_ _)); refine blk_put (cs := #[.int .i64 ((rd_T58 l0 x31_2).f0), .int .i64 0]) ?_ 1 _ rfl; (with_reducible repeat (first | refine blk_drewN ?_ _ | refine blk_drew ?_ | refine blk_alloc ?_ _)); refine blk_put (cs := #[.int .i64 0, .int .i64 0]) ?_ 0 _ rfl; (with_reducible repeat (first | refine blk_drewN ?_ _ | refine blk_drew ?_ | refine blk_alloc ?_ _)); exact BK154.out))⟩; have n2_ : Aside0 (Below w.heap.size w w25) := ⟨(by rw [hw]; exact q67)⟩; clear hw; clear HO_8; clear BK154; clear HB; have HO_8 := n0_; have BK154 := n1_; have HB := n2_; clear n0_ n1_ n2_; obtain ⟨hcz26_0, hcz26_1, hfz26_0, hfz26_1⟩ := blk2 BK154.out) | ((with_reducible refine gate_store (t := 3) (p := 41) rfl ?_); (try (rw [drewN_self w25]; generalize hq_ : World.drewN w25 _ = w25; have n0_ := Aside0.mk (Kd.R_at hq_ HO_8.out); have n1_ := Aside0.mk (blk_at hq_ BK154.out); have n2_ := Aside0.mk (below_at hq_ HB.out); clear hq_ HO_8 BK154 HB; have HO_8 := n0_; have BK154 := n1_; have HB := n2_; clear n0_ n1_ n2_)); refine store_event (t := 3) (p := 41) (v := ?vo_w27) (w1 := (w25.setCell ⟨gb154, 0, none⟩ (.int .i64 (wrap64 (Int.tdiv (wrap64 (((rd_T58 l0 x31_2).f0) * a1)) a2))))) ?hg ?ho ?hn ?hr ?_; (case ho => rfl); (case hg => rfl); (case hn => rfl); (case hr => first | (go_simp; done) | (go_simp; rfl)); intro w27 hw; have n0_ : Aside0 (Kd.R k58 58 w27 w.heap.size (fun k_ => k_ ≠ gb154) u8 x8_2) := ⟨(by rw [hw]; exact (by (with_reducible repeat (first | apply Kd.R_alloc | apply Kd.R_drewN | apply Kd.R_drew)); exact Kd.R_mono (Kd.R_far (p := ⟨gb154, 0, none⟩) (Kd.R_mono HO_8.out (fun k_ hk => (⟨hk, hk⟩ : _ ∧ k_ ≠ gb154))) (fun _ hk => hk.2) (.int .i64 (wrap64 (Int.tdiv (wrap64 (((rd_T58 l0 x31_2).f0) * a1)) a2)))) (fun _ hk => hk.1)))⟩; have n1_ : Aside0 (w27.heap[gb154]? = some (.cells #[.int .i64 (wrap64 (Int.tdiv (wrap64 (((rd_T58 l0 x31_2).f0) * a1)) a2)), .int .i64 ((rd_T58 l0 x31_2).f1)] 58 (0, 0))) := ⟨(by rw [hw]; exact (by (with_reducible repeat (first | refine blk_drewN ?_ _ | refine blk_drew ?_ | refine blk_alloc ?_ _)); refine blk_put (cs := #[.int .i64 ((rd_T58 l0 x31_2).f0), .int .i64 ((rd_T58 l0 x31_2).f1)]) ?_ 0 _ rfl; (with_reducible repeat (first | refine blk_drewN ?_ _ | refine blk_drew ?_ | refine blk_alloc ?_ _)); exact BK154.out))⟩; have n2_ : Aside0 (Below w.heap.size w w27) := ⟨(by rw [hw]; exact q67)⟩; clear hw; clear HO_8; clear BK154; clear HB; have HO_8 := n0_; have BK154 := n1_; have HB := n2_; clear n0_ n1_ n2_; obtain ⟨Ao28, co28, eo28⟩ := Kd.R_slice HO_8.out; subst eo28; have p155 : 0 ≤ ((ji17) : Int) := of_decide_eq_true q6; have q155 : (ji17) < (x8_2.length : Int) := of_decide_eq_true q6; obtain ⟨ad155, e155, hx155_0, hx155_1⟩ := at_T58 (Kd.R_reads' HO_8.out).2.2 (ji17) p155 q155; cases e155; replace p155 := eq_true p155; replace q155 := eq_true q155; obtain ⟨hcz29_0, hcz29_1, hfz29_0, hfz29_1⟩ := blk2 BK154.out))
                repeat (go_quiet (first | fail); try go_wp2_with (first | ((with_reducible refine gate_builtin (b := .append) (xs := #[.tmp 62, .tmp 64]) rfl ?_); (try (refine gate_guard (by rfl) ?_; dsimp only)); at_builtin; refine Kd.R_append k58 (w0 := w) w.heap.size rfl (.tmp 62) (.tmp 64) 30 58 (.agg #[(.int .i64 0), (.int .i64 0)]) 16 rfl Try.underlying30 info58 rfl (by decide) (by omega) (.slice (some ad155) x8_2.length co28) x8_2 (⟨wrap64 (Int.tdiv (wrap64 (((rd_T58 l0 x31_2).f0) * a1)) a2), (rd_T58 l0 x31_2).f1⟩ : S58) [.int .i64 (wrap64 (Int.tdiv (wrap64 (((rd_T58 l0 x31_2).f0) * a1)) a2)), .int .i64 ((rd_T58 l0 x31_2).f1)] (fun k_ => k_ ≠ gb154) (fun _ => False) rfl rfl ?aP (fun _ hk => hk.elim) ?aF ?aO ?aB ?aS ?aL ?_; (case aP => exact k58_mkM _ _ _ (⟨wrap64 (Int.tdiv (wrap64 (((rd_T58 l0 x31_2).f0) * a1)) a2), (rd_T58 l0 x31_2).f1⟩ : S58)); (case aB => exact q67); (case aF => exact (fun k_ hk => Kd.freshB (g := gb154) (o := .cells #[.int .i64 (wrap64 (Int.tdiv (wrap64 (((rd_T58 l0 x31_2).f0) * a1)) a2)), .int .i64 ((rd_T58 l0 x31_2).f1)] 58 (0, 0)) (by (with_reducible repeat (first | refine blk_drewN ?_ _ | refine blk_drew ?_ | refine blk_alloc ?_ _)); exact BK154.out) k_ hk)); (case aO => exact q94); (case aS => exact (below_size q67)); (case aL => have := LMc32.out; omega); intro v160 w31 ho hb hg hat; rw [← Ny162.out] at ho; have n0_ := Aside0.mk (blk_grown (g := gb154) (o := .cells #[.int .i64 (wrap64 (Int.tdiv (wrap64 (((rd_T58 l0 x31_2).f0) * a1)) a2)), .int .i64 ((rd_T58 l0 x31_2).f1)] 58 (0, 0)) (by (with_reducible repeat (first | refine blk_drewN ?_ _ | refine blk_drew ?_ | refine blk_alloc ?_ _)); exact BK154.out) hg (Kd.R_away HO_8.out (fun _ hk => hk))); have n1_ := Aside0.mk (hb); have n2_ := Aside0.mk (ho); clear BK154; clear HB; clear HO_8; have BK154 := n0_; have HB := n1_; have HO164 := n2_; clear n0_ n1_ n2_; clear ho hb hg hat)))
                go_roundg k2
                case measure => have := HJ5.out; have := HK2.out; omega
                case rel => exact ⟨(y162), (wrap64 (x31_2 + 1)), q26, H', ⟨by have := HJ5.out; have := HK2.out; omega⟩, ⟨by (with_reducible repeat (first | apply Kd.R_alloc | apply Kd.R_drewN | apply Kd.R_drew)); exact Kd.R_mono HO164.out (fun _ hk => trivial)⟩, ⟨q67⟩⟩
               ·
                rw [if_neg c32] at H
                exact absurd H (by simp)
             ·
              rw [if_neg c19] at H
              exact absurd H (by simp)
            ·
             rw [if_neg c18] at H
             exact absurd H (by simp)
           ·
            rw [if_neg c16] at H
            have c16b0 : decide (0 < (x8_2.length : Int)) = false := decide_eq_false c16
            have c16b1 : decide (0 < x8_2.length) = false := decide_eq_false (by omega)
            clear c16
            by_cases c37 : x8_2.length < 8796093022208
            ·
             rw [if_pos c37] at H
             have LMc37 := Aside0.mk c37
             clear c37
             obtain ⟨y165, hy165⟩ : ∃ y_ : List (S58), y_ = (x8_2 ++ [(⟨wrap64 (Int.tdiv (wrap64 (((rd_T58 l0 x31_2).f0) * a1)) a2), (rd_T58 l0 x31_2).f1⟩ : S58)]) := ⟨_, rfl⟩
             replace H : (bracket_Scale.l0 k2 a1 a2 y165 l0 (l0.length : Int) (wrap64 (x31_2 + 1))) = some (r1, r2) := by first | (rw [hy165]; with_reducible exact H) | (have H2_ := (Option.bind_some _ _).symm.trans H; rw [hy165]; with_reducible exact H2_) | (have H2_ := (Option.bind_some _ _).symm.trans H; with_reducible exact H2_) | with_reducible exact H | (rw [hy165]; exact H) | exact H
             have Ny165 := Aside0.mk hy165
             clear hy165
             have H' := Aside0.mk H
             clear H
             have p153 : 0 ≤ (x31_2 : Int) := of_decide_eq_true q6
             have q153 : x31_2 < (l0.length : Int) := of_decide_eq_true q6
             obtain ⟨ad153, e153, hx153_0, hx153_1⟩ := at_T58 HR0.out x31_2 p153 q153
             cases e153
             replace hx153_0 := (HB.out.cell (World.block_lt_of_cell? w _ hx153_0)).trans hx153_0
             replace hx153_1 := (HB.out.cell (World.block_lt_of_cell? w _ hx153_1)).trans hx153_1
             replace p153 := eq_true p153
             replace q153 := eq_true q153
             go_wp2_with (first | ((with_reducible refine gate_dst (N := 10) rfl ?_); (try (refine gate_guard (by rfl) ?_; dsimp only)); refine box_event ?hg (N := 10) ?hd (cs := #[.int .i64 0, .int .i64 0]) (t := 58) ?hr ?_; (case hd => rfl); (case hg => rfl); (case hr => first | (go_simp; done) | (go_simp; rfl)); intro gb154 hg w38 hbox hb; have n0_ := Aside0.mk (Kd.R_below (Kd.R_elderB q94 gb154 (Nat.le_of_eq hg.symm)) hb); have n1_ := Aside0.mk (below_step q0 hb); have n2_ := Aside0.mk (hbox); have n3_ := Aside0.mk ((by rw [hg]; exact (below_size q0) : w.heap.size ≤ gb154)); have n4_ := Aside0.mk ((by rw [hg]; exact (below_size q0) : w.heap.size ≤ gb154)); clear HO_8; clear HB; have HO_8 := n0_; have HB := n1_; have BK154 := n2_; have GW154 := n3_; have GE154 := n4_; clear n0_ n1_ n2_ n3_ n4_; clear hb hbox hg; obtain ⟨hcz39_0, hcz39_1, hfz39_0, hfz39_1⟩ := blk2 BK154.out; obtain ⟨Ao40, co40, eo40⟩ := Kd.R_slice HO_8.out; subst eo40))
             repeat (go_quiet (first | fail); try go_wp2_with (first | ((with_reducible refine gate_builtin (b := .append) (xs := #[.tmp 62, .tmp 64]) rfl ?_); (try (refine gate_guard (by rfl) ?_; dsimp only)); at_builtin; refine Kd.R_append k58 (w0 := w) w.heap.size rfl (.tmp 62) (.tmp 64) 30 58 (.agg #[(.int .i64 0), (.int .i64 0)]) 16 rfl Try.underlying30 info58 rfl (by decide) (by omega) (.slice Ao40 x8_2.length co40) x8_2 (⟨wrap64 (Int.tdiv (wrap64 (((rd_T58 l0 x31_2).f0) * a1)) a2), (rd_T58 l0 x31_2).f1⟩ : S58) [.int .i64 (wrap64 (Int.tdiv (wrap64 (((rd_T58 l0 x31_2).f0) * a1)) a2)), .int .i64 ((rd_T58 l0 x31_2).f1)] (fun k_ => k_ ≠ gb154) (fun _ => False) rfl (by first | (go_simp; done) | (go_simp; rfl)) ?aP (fun _ hk => hk.elim) ?aF ?aO ?aB ?aS ?aL ?_; (case aP => exact k58_mkM _ _ _ (⟨wrap64 (Int.tdiv (wrap64 (((rd_T58 l0 x31_2).f0) * a1)) a2), (rd_T58 l0 x31_2).f1⟩ : S58)); (case aB => exact q67); (case aF => exact (fun k_ hk => Kd.freshB (g := gb154) (o := .cells #[.int .i64 (wrap64 (Int.tdiv (wrap64 (((rd_T58 l0 x31_2).f0) * a1)) a2)), .int .i64 ((rd_T58 l0 x31_2).f1)] 58 (0, 0)) (by (with_reducible repeat (first | refine blk_drewN ?_ _ | refine blk_drew ?_ | refine blk_alloc ?_ _)); refine blk_put (cs := #[.int .i64 ((rd_T58 l0 x31_2).f0), .int .i64 ((rd_T58 l0 x31_2).f1)]) ?_ 0 _ rfl; (with_reducible repeat (first | refine blk_drewN ?_ _ | refine blk_drew ?_ | refine blk_alloc ?_ _)); refine blk_put (cs := #[.int .i64 ((rd_T58 l0 x31_2).f0), .int .i64 0]) ?_ 1 _ rfl; (with_reducible repeat (first | refine blk_drewN ?_ _ | refine blk_drew ?_ | refine blk_alloc ?_ _)); refine blk_put (cs := #[.int .i64 0, .int .i64 0]) ?_ 0 _ rfl; (with_reducible repeat (first | refine blk_drewN ?_ _ | refine blk_drew ?_ | refine blk_alloc ?_ _)); exact BK154.out) k_ hk)); (case aO => exact (by (with_reducible repeat (first | apply Kd.R_alloc | apply Kd.R_drewN | apply Kd.R_drew)); exact Kd.R_mono (Kd.R_far (p := ⟨gb154, 0, none⟩) (Kd.R_far (p := ⟨gb154, 1, none⟩) (Kd.R_far (p := ⟨gb154, 0, none⟩) (Kd.R_mono HO_8.out (fun k_ hk => (⟨hk, hk.2⟩ : _ ∧ k_ ≠ gb154))) (fun _ hk => hk.2) (.int .i64 ((rd_T58 l0 x31_2).f0))) (fun _ hk => hk.2) (.int .i64 ((rd_T58 l0 x31_2).f1))) (fun _ hk => hk.2) (.int .i64 (wrap64 (Int.tdiv (wrap64 (((rd_T58 l0 x31_2).f0) * a1)) a2)))) (fun _ hk => hk.1.2))); (case aS => exact (below_size q67)); (case aL => have := LMc37.out; omega); intro v166 w41 ho hb hg hat; rw [← Ny165.out] at ho; have n0_ := Aside0.mk (blk_grown (g := gb154) (o := .cells #[.int .i64 (wrap64 (Int.tdiv (wrap64 (((rd_T58 l0 x31_2).f0) * a1)) a2)), .int .i64 ((rd_T58 l0 x31_2).f1)] 58 (0, 0)) (by (with_reducible repeat (first | refine blk_drewN ?_ _ | refine blk_drew ?_ | refine blk_alloc ?_ _)); refine blk_put (cs := #[.int .i64 ((rd_T58 l0 x31_2).f0), .int .i64 ((rd_T58 l0 x31_2).f1)]) ?_ 0 _ rfl; (with_reducible repeat (first | refine blk_drewN ?_ _ | refine blk_drew ?_ | refine blk_alloc ?_ _)); refine blk_put (cs := #[.int .i64 ((rd_T58 l0 x31_2).f0), .int .i64 0]) ?_ 1 _ rfl; (with_reducible repeat (first | refine blk_drewN ?_ _ | refine blk_drew ?_ | refine blk_alloc ?_ _)); refine blk_put (cs := #[.int .i64 0, .int .i64 0]) ?_ 0 _ rfl; (with_reducible repeat (first | refine blk_drewN ?_ _ | refine blk_drew ?_ | refine blk_alloc ?_ _)); exact BK154.out) hg (Kd.R_away HO_8.out (fun _ hk => hk.2))); have n1_ := Aside0.mk (hb); have n2_ := Aside0.mk (ho); clear BK154; clear HB; clear HO_8; have BK154 := n0_; have HB := n1_; have HO167 := n2_; clear n0_ n1_ n2_; clear ho hb hg hat)))
             go_roundg k2
             case measure => have := HJ5.out; have := HK2.out; omega
             case rel => exact ⟨(y165), (wrap64 (x31_2 + 1)), q26, H', ⟨by have := HJ5.out; have := HK2.out; omega⟩, ⟨by (with_reducible repeat (first | apply Kd.R_alloc | apply Kd.R_drewN | apply Kd.R_drew)); exact Kd.R_mono HO167.out (fun _ hk => trivial)⟩, ⟨q67⟩⟩
            ·
             rw [if_neg c37] at H
             exact absurd H (by simp)
         ·
          rw [if_neg c14] at H
          exact absurd H (by simp)
        ·
         rw [if_neg c13] at H
         exact absurd H (by simp)
       ·
        rw [if_neg c12] at H
        have c12b0 : decide (x31_2 < (l0.length : Int)) = false := decide_eq_false c12
        clear c12
        simp only [Option.some.injEq, Prod.mk.injEq] at H
        obtain ⟨rfl, rfl⟩ := H
        go_wp2
        repeat (go_quiet (fail); try go_wp2)
        go_ret2
        exact ⟨_, by first | rfl | (simp [errW_none, errW_some] <;> rfl) | (simp [*, errW_none, errW_some] <;> rfl), q94, q0⟩
 ·
  replace c5 := Bool.eq_false_iff.mpr c5
  subst c5
  rw [if_neg (show ¬ (false = true) by decide)] at H
  simp only [Option.some.injEq, Prod.mk.injEq] at H
  obtain ⟨rfl, rfl⟩ := H
  exact (by go_enter Try.func52, Try.ntmps52; go_wp2_with (first | (go_at_call 56; (with_reducible refine (bracket_Valid.calls k _ _ l0 false _ ?side1 ?side2 A4.out).mono ?_); (case side1 => exact q33); (case side2 => exact HC0.out); rintro e w_1 ⟨rfl, hb⟩; have n0_ := Aside0.mk (below_step q0 hb); clear HB; have HB := n0_; clear n0_; (try clear hb); (try clear hb2); (try clear hk); (try clear hi))); (repeat (go_quiet (first | fail); try go_wp2_with (first | fail))); go_ret2; exact ⟨_, by first | rfl | (simp [errW_none, errW_some] <;> rfl) | (simp [*, errW_none, errW_some] <;> rfl), by first | exact Kd.R_nil _ _ _ _ _ | exact Kd.N_nil _ _ _ _ _ | exact Kd.V_nil _ _ _ _ _ | exact Kd.Q_nil _ _ _ _ _ | exact Kd.S_nil _ _ _ _ _, q0⟩)

end Go.Proofs.Ytbacfajhgmnjpaa.P
