/- Proved here: the plain facts of several small texts of this seat, one behind the other; no condition of its own. -/
import Derived.Test.YtbacfajhgmnjpaaProg
import Derived.Test.YtbacfajhgmnjpaaV1
import Derived.Test.YtbacfajhgmnjpaaV2
import Derived.Test.YtbacfajhgmnjpaaFPRE
import Derived.Test.YtbacfajhgmnjpaaFbracketValid
namespace Go.Proofs.Ytbacfajhgmnjpaa.P
open Go.RowKit Go.Proofs.YtbacfajhgmnjpaaW.PrintWords Go.Proofs.YtbacfajhgmnjpaaW.PrintLast Go.Proofs.YtbacfajhgmnjpaaW.PrintMore
attribute [local go_sem] max2_int min2_int max_two min_two max_three min_three max_four min_four   -- for this text's walks alone
set_option linter.unusedVariables false
set_option linter.unusedSimpArgs false

def bracket_check.f (k : Nat) (l0 : List (S58)) (a1 : Int) : Option (Int) := (bracket_Valid.f k l0).bind fun t120 => (if t120 = true then (if a1 < 0 then (some 2) else (if a1 > 1000000000000 then (some 2) else (some 0))) else (some 1))
theorem bracket_check.mono : ∀ a0 a1 k, LeO (bracket_check.f k a0 a1) (bracket_check.f (k + 1) a0 a1) := by
 intro a0 a1 k
 unfold bracket_check.f
 repeat' first
   | (with_reducible exact bracket_Valid.mono _ _)
   | (with_reducible exact LeO.refl _)
   | (with_reducible exact LeO.none _)
   | (with_reducible refine LeO.ite ?_ ?_)
   | (with_reducible refine LeO.bind ?_ (fun _ => ?_))
   | exact bracket_Valid.mono _ _
   | exact LeO.none _
   | refine LeO.ite ?_ ?_
   | refine LeO.bind ?_ (fun _ => ?_)
set_option maxHeartbeats 8000000 in
set_option maxRecDepth 100000 in
theorem bracket_check.calls (k : Nat) (A0 : Option Addr) (c0 : Nat) (l0 : List (S58)) (a1 : Int) (r : Int) (w : World) (hr0 : Kd.C k58 w A0 l0.length l0) (hc0 : l0.length ≤ c0) (h : bracket_check.f k l0 a1 = some r) :
  Calls Try.prog 68 #[.slice A0 l0.length c0, .int .i64 a1] w fun e w' => e = .returned (.int .i64 r) ∧ Below w.heap.size w w' := by
 have HR0 := Aside0.mk hr0
 have HC0 := Aside0.mk hc0
 clear hr0 hc0
 have HB := Aside0.mk (Below.refl w.heap.size w)
 have H : ((bracket_Valid.f k l0).bind fun t120 => (if t120 = true then (if a1 < 0 then (some 2) else (if a1 > 1000000000000 then (some 2) else (some 0))) else (some 1))) = some r := h
 clear h
 replace H := Option.bind_eq_some_iff.mp H
 obtain ⟨t120, A30, H⟩ := H
 try dsimp only at H
 have A3 := Aside0.mk A30
 clear A30
 by_cases c4 : t120 = true
 ·
  subst c4
  rw [if_pos rfl] at H
  by_cases c5 : a1 < 0
  ·
   rw [if_pos c5] at H
   have c5b0 : decide (a1 < 0) = true := decide_eq_true c5
   clear c5
   obtain rfl := Option.some.inj H
   exact q93
  ·
   rw [if_neg c5] at H
   have c5b0 : decide (a1 < 0) = false := decide_eq_false c5
   clear c5
   by_cases c7 : a1 > 1000000000000
   ·
    rw [if_pos c7] at H
    have c7b0 : decide (1000000000000 < a1) = true := decide_eq_true c7
    clear c7
    obtain rfl := Option.some.inj H
    exact q93
   ·
    rw [if_neg c7] at H
    have c7b0 : decide (1000000000000 < a1) = false := decide_eq_false c7
    clear c7
    obtain rfl := Option.some.inj H
    exact q93
 ·
  replace c4 := Bool.eq_false_iff.mpr c4
  subst c4
  rw [if_neg (show ¬ (false = true) by decide)] at H
  obtain rfl := Option.some.inj H
  exact (by go_enter Try.func68, Try.ntmps68; go_wp2_with (first | ((with_reducible refine gate_callee (f := 56) rfl ?_); refine goesL_ (some 6) rfl rfl Try.func56 (by kernel_rfl) rfl #[.slice A0 l0.length c0] rfl q1 ?_; (with_reducible refine (bracket_Valid.calls k _ _ l0 false _ ?side1 ?side2 A3.out).mono ?_); (case side1 => exact q33); (case side2 => exact HC0.out); rintro e w_1 ⟨rfl, hb⟩; refine ⟨_, rfl, ?_⟩; have n0_ := Aside0.mk (below_step q0 hb); clear HB; have HB := n0_; clear n0_; (try clear hb); (try clear hb2); (try clear hk); (try clear hi))); go_ret; exact ⟨by first | rfl | (simp [errW_none, errW_some] <;> rfl) | (simp [*, errW_none, errW_some] <;> rfl), q0⟩)

end Go.Proofs.Ytbacfajhgmnjpaa.P

namespace Go.Proofs.Ytbacfajhgmnjpaa.P
open Go.RowKit Go.Proofs.YtbacfajhgmnjpaaW.PrintWords Go.Proofs.YtbacfajhgmnjpaaW.PrintLast Go.Proofs.YtbacfajhgmnjpaaW.PrintMore
attribute [local go_sem] max2_int min2_int max_two min_two max_three min_three max_four min_four   -- for this text's walks alone
set_option linter.unusedVariables false
set_option linter.unusedSimpArgs false

def bracket_Split.l0 : Nat → List (S58) → Int → List Int → Int → Int → Option (List Int × Int)
 | 0, _, _, _, _, _ => none
 | k + 1, x0, x1, x7, x8, x9 => if x8 < (x0.length : Int) then (if x9 < (x0.length : Int) then (if 0 ≤ x9 then (if 0 ≤ x8 then (if x8 < (x7.length : Int) then (bracket_Split.l0 k x0 x1 (x7.set (x8 : Int).toNat (mx (wrap64 ((mn x1 ((rd_T58 x0 x9).f0)) - ((rd_T58 x0 x8).f0))) 0)) (wrap64 (x8 + 1)) (wrap64 (x9 + 1))) else (none)) else (none)) else (none)) else (if 0 ≤ x8 then (if x8 < (x7.length : Int) then (bracket_Split.l0 k x0 x1 (x7.set (x8 : Int).toNat (mx (wrap64 (x1 - ((rd_T58 x0 x8).f0))) 0)) (wrap64 (x8 + 1)) (wrap64 (x9 + 1))) else (none)) else (none))) else (some (x7, 0))
def bracket_Split.f (k : Nat) (l0 : List (S58)) (a1 : Int) : Option (List Int × Int) := (bracket_check.f k l0 a1).bind fun t121 => (if t121 = 0 then (if 0 ≤ (l0.length : Int) then (if ((l0.length : Int) : Int).toNat ≤ 35184372088832 then (bracket_Split.l0 k l0 a1 (List.replicate ((l0.length : Int) : Int).toNat 0) 0 1) else (none)) else (none)) else (some (([] : List Int), t121)))
theorem bracket_Split.mono_l : ∀ k, (∀ y0 y1 y2 y3 y4, LeO (bracket_Split.l0 k y0 y1 y2 y3 y4) (bracket_Split.l0 (k + 1) y0 y1 y2 y3 y4))
 | 0 => fun _ _ _ _ _ r h => by simp [bracket_Split.l0] at h
 | k + 1 => by
  have ih0 := bracket_Split.mono_l k
  ·
   intro y0 y1 y2 y3 y4
   unfold bracket_Split.l0
   repeat' first
   | (with_reducible exact ih0 _ _ _ _ _)
   | (with_reducible exact bracket_check.mono _ _ _)
   | (with_reducible exact LeO.refl _)
   | (with_reducible exact LeO.none _)
   | (with_reducible refine LeO.ite ?_ ?_)
   | (with_reducible refine LeO.bind ?_ (fun _ => ?_))
   | exact ih0 _ _ _ _ _
   | exact bracket_check.mono _ _ _
   | exact LeO.none _
   | refine LeO.ite ?_ ?_
   | refine LeO.bind ?_ (fun _ => ?_)
theorem bracket_Split.mono : ∀ a0 a1 k, LeO (bracket_Split.f k a0 a1) (bracket_Split.f (k + 1) a0 a1) := by
 intro a0 a1 k
 have ih0 := bracket_Split.mono_l k
 unfold bracket_Split.f
 repeat' first
   | (with_reducible exact ih0 _ _ _ _ _)
   | (with_reducible exact bracket_check.mono _ _ _)
   | (with_reducible exact LeO.refl _)
   | (with_reducible exact LeO.none _)
   | (with_reducible refine LeO.ite ?_ ?_)
   | (with_reducible refine LeO.bind ?_ (fun _ => ?_))
   | exact ih0 _ _ _ _ _
   | exact bracket_check.mono _ _ _
   | exact LeO.none _
   | refine LeO.ite ?_ ?_
   | refine LeO.bind ?_ (fun _ => ?_)
set_option maxHeartbeats 8000000 in
set_option maxRecDepth 100000 in
theorem bracket_Split.calls (k : Nat) (A0 : Option Addr) (c0 : Nat) (l0 : List (S58)) (a1 : Int) (r1 : List Int) (r2 : Int) (w : World) (hr0 : Kd.C k58 w A0 l0.length l0) (hc0 : l0.length ≤ c0) (h : bracket_Split.f k l0 a1 = some (r1, r2)) :
  Calls Try.prog 66 #[.slice A0 l0.length c0, .int .i64 a1] w fun e w' => ∃ v0_ : Value, e = .returned (.tuple #[v0_, .int .i64 r2]) ∧ Kd.R (Kd.int .i64) 3 w' w.heap.size (fun _ => True) v0_ r1 ∧ Below w.heap.size w w' := by
 have HR0 := Aside0.mk hr0
 have HC0 := Aside0.mk hc0
 clear hr0 hc0
 have HB := Aside0.mk (Below.refl w.heap.size w)
 have H : ((bracket_check.f k l0 a1).bind fun t121 => (if t121 = 0 then (if 0 ≤ (l0.length : Int) then (if ((l0.length : Int) : Int).toNat ≤ 35184372088832 then (bracket_Split.l0 k l0 a1 (List.replicate ((l0.length : Int) : Int).toNat 0) 0 1) else (none)) else (none)) else (some (([] : List Int), t121)))) = some (r1, r2) := h
 clear h
 replace H := Option.bind_eq_some_iff.mp H
 obtain ⟨t121, A30, H⟩ := H
 try dsimp only at H
 have A3 := Aside0.mk A30
 clear A30
 by_cases c4 : t121 = 0
 ·
  rw [if_pos c4] at H
  have c4b0 : (t121 == 0) = true := beq_iff_eq.mpr c4
  have c4b1 : (t121 != 0) = false := bne_eq_false_iff_eq.mpr c4
  clear c4
  by_cases c5 : 0 ≤ (l0.length : Int)
  ·
   rw [if_pos c5] at H
   have c5b0 := eq_true c5
   have c5b1 : decide (0 ≤ (l0.length : Int)) = true := decide_eq_true c5
   clear c5
   by_cases c6 : ((l0.length : Int) : Int).toNat ≤ 35184372088832
   ·
    rw [if_pos c6] at H
    have c6b0 := eq_true c6
    have c6b1 : decide (((l0.length : Int) : Int).toNat ≤ 35184372088832) = true := decide_eq_true c6
    clear c6
    obtain ⟨y122, hy122⟩ : ∃ y_ : List Int, y_ = (List.replicate ((l0.length : Int) : Int).toNat 0) := ⟨_, rfl⟩
    replace H : (bracket_Split.l0 k l0 a1 y122 0 1) = some (r1, r2) := by first | (rw [hy122]; with_reducible exact H) | (have H2_ := (Option.bind_some _ _).symm.trans H; rw [hy122]; with_reducible exact H2_) | (have H2_ := (Option.bind_some _ _).symm.trans H; with_reducible exact H2_) | with_reducible exact H | (rw [hy122]; exact H) | exact H
    have Ny122 := Aside0.mk hy122
    clear hy122
    have H' := Aside0.mk H
    clear H
    go_enter Try.func66, Try.ntmps66
    go_wp2_with (first | ((with_reducible refine gate_callee (f := 68) rfl ?_); refine goesL_ (some 13) rfl rfl Try.func68 (by kernel_rfl) rfl #[.slice A0 l0.length c0, .int .i64 a1] rfl q1 ?_; (with_reducible refine (bracket_check.calls k _ _ l0 a1 t121 _ ?side1 ?side2 A3.out).mono ?_); (case side1 => exact q33); (case side2 => exact HC0.out); rintro e w7 ⟨rfl, hb⟩; refine ⟨_, rfl, ?_⟩; have n0_ := Aside0.mk (below_step q0 hb); clear HB; have HB := n0_; clear n0_; (try clear hb); (try clear hb2); (try clear hk); (try clear hi)) | ((with_reducible refine gate_dst (N := 19) rfl ?_); refine Kd.R_make (Kd.int .i64) _ 3 rfl (N := 19) rfl 22 _ _ rfl (l0.length : Int) rfl rfl Try.underlying22 (.int .i64 0) 8 info3 rfl (by decide) (by omega) 0 (ok := fun _ => True) (okp := fun _ => True) rfl (fun _ hk => hk) trivial (of_decide_eq_true q6) (Nat.le_trans (Nat.mul_le_mul_right _ (of_decide_eq_true q6 : (l0.length : Int).toNat ≤ 35184372088832)) (by omega)) (Below.refl _ _) (Nat.le_refl _) ?_; intro v123 w8 ho9 hb hg_ hnew_; clear hg_ hnew_; (first | rw [← Ny122.out] at ho9 | (simp only [Int.reduceToNat] at ho9; rw [← Ny122.out] at ho9)); have n0_ := Aside0.mk (Kd.R_lower ho9 (below_size q0)); have n1_ := Aside0.mk (below_step q0 hb); clear HB; have HO124 := n0_; have HB := n1_; clear n0_ n1_; clear hb ho9))
    go_loopg [8, 9] k (fun kq v8 v9 w' => ∃ (x7_1 : List Int) (x8_1 : Int) (x9_1 : Int), v8 = .int .i64 x8_1 ∧ v9 = .int .i64 x9_1 ∧ Aside0 (bracket_Split.l0 kq l0 a1 x7_1 x8_1 x9_1 = some (r1, r2)) ∧ Aside0 (kq ≤ k) ∧ Aside0 (Kd.R (Kd.int .i64) 3 w' w.heap.size (fun _ => True) v123 x7_1) ∧ Aside0 (Below w.heap.size w w'))
    case atStart => exact ⟨(y122), (0), (1), q26, q26, H', ⟨Nat.le_refl _⟩, ⟨(by (with_reducible repeat (first | apply Kd.R_alloc | apply Kd.R_drewN | apply Kd.R_drew)); exact HO124.out)⟩, ⟨q0⟩⟩
    case round =>
     clear H'
     try clear p2
     try clear c4
     try clear c4b0
     try clear c4b1
     try clear c5
     try clear c5b0
     try clear c5b1
     try clear c6
     try clear c6b0
     try clear c6b1
     obtain ⟨x7_1, x8_1, x9_1, rfl, rfl, HA, HK1, HO_7, HB⟩ := hrel
     cases gk with
     | zero => exact absurd HA.out (by simp [bracket_Split.l0])
     | succ k1 =>
      have H := HA.out
      clear HA
      simp only [bracket_Split.l0] at H
      by_cases c10 : x8_1 < (l0.length : Int)
      ·
       rw [if_pos c10] at H
       have c10b0 : decide (x8_1 < (l0.length : Int)) = true := decide_eq_true c10
       clear c10
       by_cases c11 : x9_1 < (l0.length : Int)
       ·
        rw [if_pos c11] at H
        have c11b0 : decide (x9_1 < (l0.length : Int)) = true := decide_eq_true c11
        clear c11
        by_cases c12 : 0 ≤ x9_1
        ·
         rw [if_pos c12] at H
         have c12b0 : decide (0 ≤ x9_1) = true := decide_eq_true c12
         clear c12
         obtain ⟨ji13, hji13⟩ : ∃ j_ : Int, (mn a1 ((rd_T58 l0 x9_1).f0)) = j_ := ⟨_, rfl⟩
         replace H : (if 0 ≤ x8_1 then (if x8_1 < (x7_1.length : Int) then (bracket_Split.l0 k1 l0 a1 (x7_1.set (x8_1 : Int).toNat (mx (wrap64 ((ji13) - ((rd_T58 l0 x8_1).f0))) 0)) (wrap64 (x8_1 + 1)) (wrap64 (x9_1 + 1))) else (none)) else (none)) = some (r1, r2) := by first | (rw [hji13] at H; exact H) | (simp only [hji13] at H ⊢; exact H)
         have hji13_ : (if ((rd_T58 l0 x9_1).f0) < a1 then ((rd_T58 l0 x9_1).f0) else a1) = ji13 := hji13
         by_cases c14 : 0 ≤ x8_1
         ·
          rw [if_pos c14] at H
          have c14b0 : decide (0 ≤ x8_1) = true := decide_eq_true c14
          clear c14
          obtain ⟨ji15, hji15⟩ : ∃ j_ : Int, (mx (wrap64 ((ji13) - ((rd_T58 l0 x8_1).f0))) 0) = j_ := ⟨_, rfl⟩
          replace H : (if x8_1 < (x7_1.length : Int) then (bracket_Split.l0 k1 l0 a1 (x7_1.set (x8_1 : Int).toNat (ji15)) (wrap64 (x8_1 + 1)) (wrap64 (x9_1 + 1))) else (none)) = some (r1, r2) := by first | (rw [hji15] at H; exact H) | (simp only [hji15] at H ⊢; exact H)
          have hji15_ : (if (wrap64 ((ji13) - ((rd_T58 l0 x8_1).f0))) < 0 then 0 else (wrap64 ((ji13) - ((rd_T58 l0 x8_1).f0)))) = ji15 := hji15
          by_cases c16 : x8_1 < (x7_1.length : Int)
          ·
           rw [if_pos c16] at H
           have c16b0 : decide (x8_1 < (x7_1.length : Int)) = true := decide_eq_true c16
           clear c16
           obtain ⟨y127, hy127⟩ : ∃ y_ : List Int, y_ = (x7_1.set (x8_1 : Int).toNat (ji15)) := ⟨_, rfl⟩
           replace H : (bracket_Split.l0 k1 l0 a1 y127 (wrap64 (x8_1 + 1)) (wrap64 (x9_1 + 1))) = some (r1, r2) := by first | (rw [hy127]; with_reducible exact H) | (have H2_ := (Option.bind_some _ _).symm.trans H; rw [hy127]; with_reducible exact H2_) | (have H2_ := (Option.bind_some _ _).symm.trans H; with_reducible exact H2_) | with_reducible exact H | (rw [hy127]; exact H) | exact H
           have Ny127 := Aside0.mk hy127
           clear hy127
           have H' := Aside0.mk H
           clear H
           have p125 : 0 ≤ (x9_1 : Int) := of_decide_eq_true q6
           have q125 : x9_1 < (l0.length : Int) := of_decide_eq_true q6
           obtain ⟨ad125, e125, hx125_0, hx125_1⟩ := at_T58 HR0.out x9_1 p125 q125
           cases e125
           replace hx125_0 := (HB.out.cell (World.block_lt_of_cell? w _ hx125_0)).trans hx125_0
           replace hx125_1 := (HB.out.cell (World.block_lt_of_cell? w _ hx125_1)).trans hx125_1
           replace p125 := eq_true p125
           replace q125 := eq_true q125
           have p126 : 0 ≤ (x8_1 : Int) := of_decide_eq_true q6
           have q126 : x8_1 < (l0.length : Int) := of_decide_eq_true q6
           obtain ⟨ad126, e126, hx126_0, hx126_1⟩ := at_T58 HR0.out x8_1 p126 q126
           obtain rfl : ad125 = ad126 := (by injection e126)
           replace hx126_0 := (HB.out.cell (World.block_lt_of_cell? w _ hx126_0)).trans hx126_0
           replace hx126_1 := (HB.out.cell (World.block_lt_of_cell? w _ hx126_1)).trans hx126_1
           replace p126 := eq_true p126
           replace q126 := eq_true q126
           have p17 : 0 ≤ (x8_1 : Int) := of_decide_eq_true q6
           have q17 : (x8_1 : Int) < ((x7_1.length : Int) : Int) := of_decide_eq_true q6
           obtain ⟨go17, co17, eo17, gb17, gl17, cl17, HG17⟩ := Kd.R_form HO_7.out (by omega)
           (first | cases eo17 | (injection eo17 with ea_ en_ ec_; (first | subst ea_ | (injection ea_ with ea_; subst ea_)); subst ec_; clear en_))
           have GB17 := Aside0.mk gb17
           have GG17 := Aside0.mk HG17
           clear gb17 gl17 HG17
           obtain ⟨hx17_0, hf17_0⟩ := Kd.R_celln 0 HO_7.out (x8_1 : Int) p17 q17
           replace p17 := eq_true p17
           replace q17 := eq_true q17
           have HP18 := Kd.R_putg HO_7.out (x8_1 : Int) ji15
           go_wp2_with (first | ((with_reducible refine gate_store (t := 3) (p := 50) rfl ?_); refine store_event (t := 3) (p := 50) (v := ?vo_w19) (w1 := (wr.setCell ⟨go17, (x8_1 : Int).toNat, none⟩ (.int .i64 ji15))) ?hg ?ho ?hn ?hr ?_; (case ho => rfl); (case hg => rfl); (case hn => rfl); (case hr => first | (go_simp; done) | (go_simp; rfl)); intro w19 hw; have hg : wr.grownBy w19 (some go17) := (by rw [hw]; exact HP18.2); have hp_ : Kd.R (Kd.int .i64) 3 w19 w.heap.size (fun _ => True) (.slice (some ⟨go17, 0, none⟩) x7_1.length co17) y127 := (by rw [hw, Ny127.out]; exact HP18.1); clear HP18; have n0_ := Aside0.mk (hp_); have n1_ := Aside0.mk ((by rw [hw]; exact below_set (HB.out) GB17.out : Below w.heap.size w w19)); clear HO_7; clear HB; have HO_7 := n0_; have HB := n1_; clear n0_ n1_; clear hg hw hp_))
           go_roundg k1
           case measure => have := HK1.out; omega
           case rel => exact ⟨(y127), (wrap64 (x8_1 + 1)), (wrap64 (x9_1 + 1)), q26, q26, H', ⟨by have := HK1.out; omega⟩, ⟨q74⟩, ⟨q0⟩⟩
          ·
           rw [if_neg c16] at H
           exact absurd H (by simp)
         ·
          rw [if_neg c14] at H
          exact absurd H (by simp)
        ·
         rw [if_neg c12] at H
         exact absurd H (by simp)
       ·
        rw [if_neg c11] at H
        have c11b0 : decide (x9_1 < (l0.length : Int)) = false := decide_eq_false c11
        clear c11
        by_cases c20 : 0 ≤ x8_1
        ·
         rw [if_pos c20] at H
         have c20b0 : decide (0 ≤ x8_1) = true := decide_eq_true c20
         clear c20
         obtain ⟨ji21, hji21⟩ : ∃ j_ : Int, (mx (wrap64 (a1 - ((rd_T58 l0 x8_1).f0))) 0) = j_ := ⟨_, rfl⟩
         replace H : (if x8_1 < (x7_1.length : Int) then (bracket_Split.l0 k1 l0 a1 (x7_1.set (x8_1 : Int).toNat (ji21)) (wrap64 (x8_1 + 1)) (wrap64 (x9_1 + 1))) else (none)) = some (r1, r2) := by first | (rw [hji21] at H; exact H) | (simp only [hji21] at H ⊢; exact H)
         have hji21_ : (if (wrap64 (a1 - ((rd_T58 l0 x8_1).f0))) < 0 then 0 else (wrap64 (a1 - ((rd_T58 l0 x8_1).f0)))) = ji21 := hji21
         by_cases c22 : x8_1 < (x7_1.length : Int)
         ·
          rw [if_pos c22] at H
          have c22b0 : decide (x8_1 < (x7_1.length : Int)) = true := decide_eq_true c22
          clear c22
          obtain ⟨y129, hy129⟩ : ∃ y_ : List Int, y_ = (x7_1.set (x8_1 : Int).toNat (ji21)) := ⟨_, rfl⟩
          replace H : (bracket_Split.l0 k1 l0 a1 y129 (wrap64 (x8_1 + 1)) (wrap64 (x9_1 + 1))) = some (r1, r2) := by first | (rw [hy129]; with_reducible exact H) | (have H2_ := (Option.bind_some _ _).symm.trans H; rw [hy129]; with_reducible exact H2_) | (have H2_ := (Option.bind_some _ _).symm.trans H; with_reducible exact H2_) | with_reducible exact H | (rw [hy129]; exact H) | exact H
          have Ny129 := Aside0.mk hy129
          clear hy129
          have H' := Aside0.mk H
          clear H
          have p128 : 0 ≤ (x8_1 : Int) := of_decide_eq_true q6
          have q128 : x8_1 < (l0.length : Int) := of_decide_eq_true q6
          obtain ⟨ad128, e128, hx128_0, hx128_1⟩ := at_T58 HR0.out x8_1 p128 q128
          cases e128
          replace hx128_0 := (HB.out.cell (World.block_lt_of_cell? w _ hx128_0)).trans hx128_0
          replace hx128_1 := (HB.out.cell (World.block_lt_of_cell? w _ hx128_1)).trans hx128_1
          replace p128 := eq_true p128
          replace q128 := eq_true q128
          have p23 : 0 ≤ (x8_1 : Int) := of_decide_eq_true q6
          have q23 : (x8_1 : Int) < ((x7_1.length : Int) : Int) := of_decide_eq_true q6
          obtain ⟨go23, co23, eo23, gb23, gl23, cl23, HG23⟩ := Kd.R_form HO_7.out (by omega)
          (first | cases eo23 | (injection eo23 with ea_ en_ ec_; (first | subst ea_ | (injection ea_ with ea_; subst ea_)); subst ec_; clear en_))
          have GB23 := Aside0.mk gb23
          have GG23 := Aside0.mk HG23
          clear gb23 gl23 HG23
          obtain ⟨hx23_0, hf23_0⟩ := Kd.R_celln 0 HO_7.out (x8_1 : Int) p23 q23
          replace p23 := eq_true p23
          replace q23 := eq_true q23
          have HP24 := Kd.R_putg HO_7.out (x8_1 : Int) ji21
          go_wp2_with (first | ((with_reducible refine gate_store (t := 3) (p := 50) rfl ?_); refine store_event (t := 3) (p := 50) (v := ?vo_w25) (w1 := (wr.setCell ⟨go23, (x8_1 : Int).toNat, none⟩ (.int .i64 ji21))) ?hg ?ho ?hn ?hr ?_; (case ho => rfl); (case hg => rfl); (case hn => rfl); (case hr => first | (go_simp; done) | (go_simp; rfl)); intro w25 hw; have hg : wr.grownBy w25 (some go23) := (by rw [hw]; exact HP24.2); have hp_ : Kd.R (Kd.int .i64) 3 w25 w.heap.size (fun _ => True) (.slice (some ⟨go23, 0, none⟩) x7_1.length co23) y129 := (by rw [hw, Ny129.out]; exact HP24.1); clear HP24; have n0_ := Aside0.mk (hp_); have n1_ := Aside0.mk ((by rw [hw]; exact below_set (HB.out) GB23.out : Below w.heap.size w w25)); clear HO_7; clear HB; have HO_7 := n0_; have HB := n1_; clear n0_ n1_; clear hg hw hp_))
          go_roundg k1
          case measure => have := HK1.out; omega
          case rel => exact ⟨(y129), (wrap64 (x8_1 + 1)), (wrap64 (x9_1 + 1)), q26, q26, H', ⟨by have := HK1.out; omega⟩, ⟨q74⟩, ⟨q0⟩⟩
         ·
          rw [if_neg c22] at H
          exact absurd H (by simp)
        ·
         rw [if_neg c20] at H
         exact absurd H (by simp)
      ·
       rw [if_neg c10] at H
       have c10b0 : decide (x8_1 < (l0.length : Int)) = false := decide_eq_false c10
       clear c10
       simp only [Option.some.injEq, Prod.mk.injEq] at H
       obtain ⟨rfl, rfl⟩ := H
       go_wp2
       go_ret2
       exact ⟨_, by first | rfl | (simp [errW_none, errW_some] <;> rfl) | (simp [*, errW_none, errW_some] <;> rfl), q74, q0⟩
   ·
    rw [if_neg c6] at H
    exact absurd H (by simp)
  ·
   rw [if_neg c5] at H
   exact absurd H (by simp)
 ·
  rw [if_neg c4] at H
  have c4b0 : (t121 == 0) = false := beq_eq_false_iff_ne.mpr c4
  have c4b1 : (t121 != 0) = true := bne_iff_ne.mpr c4
  simp only [Option.some.injEq, Prod.mk.injEq] at H
  obtain ⟨rfl, rfl⟩ := H
  exact (by go_enter Try.func66, Try.ntmps66; go_wp2_with (first | ((with_reducible refine gate_callee (f := 68) rfl ?_); refine goesL_ (some 13) rfl rfl Try.func68 (by kernel_rfl) rfl #[.slice A0 l0.length c0, .int .i64 a1] rfl q1 ?_; (with_reducible refine (bracket_check.calls k _ _ l0 a1 t121 _ ?side1 ?side2 A3.out).mono ?_); (case side1 => exact q33); (case side2 => exact HC0.out); rintro e w_1 ⟨rfl, hb⟩; refine ⟨_, rfl, ?_⟩; have n0_ := Aside0.mk (below_step q0 hb); clear HB; have HB := n0_; clear n0_; (try clear hb); (try clear hb2); (try clear hk); (try clear hi))); go_ret2; exact ⟨_, by first | rfl | (simp [errW_none, errW_some] <;> rfl) | (simp [*, errW_none, errW_some] <;> rfl), by first | exact Kd.R_nil _ _ _ _ _ | exact Kd.N_nil _ _ _ _ _ | exact Kd.V_nil _ _ _ _ _ | exact Kd.Q_nil _ _ _ _ _ | exact Kd.S_nil _ _ _ _ _, q0⟩)

end Go.Proofs.Ytbacfajhgmnjpaa.P

namespace Go.Proofs.Ytbacfajhgmnjpaa.P
open Go.RowKit Go.Proofs.YtbacfajhgmnjpaaW.PrintWords Go.Proofs.YtbacfajhgmnjpaaW.PrintLast Go.Proofs.YtbacfajhgmnjpaaW.PrintMore
attribute [local go_sem] max2_int min2_int max_two min_two max_three min_three max_four min_four   -- for this text's walks alone
set_option linter.unusedVariables false
set_option linter.unusedSimpArgs false

def bracket_Exact.l0 : Nat → List (S58) → Int → List Int → Int → Int → Option (Int × Int)
 | 0, _, _, _, _, _ => none
 | k + 1, x0, x8, x20, x21, x22 => if x22 < x21 then (if 0 ≤ x22 then (if x22 < (x20.length : Int) then (if x22 < (x0.length : Int) then (bracket_Exact.l0 k x0 (wrap64 (x8 + (wrap64 (((rd_T58 x0 x22).f1) * (rd x20 x22))))) x20 x21 (wrap64 (x22 + 1))) else (none)) else (none)) else (none)) else (some (x8, 0))
def bracket_Exact.f (k : Nat) (l0 : List (S58)) (a1 : Int) : Option (Int × Int) := (bracket_Split.f k l0 a1).bind fun bt130 => (if bt130.2 = 0 then (bracket_Exact.l0 k l0 0 bt130.1 (bt130.1.length : Int) 0) else (some (0, bt130.2)))
theorem bracket_Exact.mono_l : ∀ k, (∀ y0 y1 y2 y3 y4, LeO (bracket_Exact.l0 k y0 y1 y2 y3 y4) (bracket_Exact.l0 (k + 1) y0 y1 y2 y3 y4))
 | 0 => fun _ _ _ _ _ r h => by simp [bracket_Exact.l0] at h
 | k + 1 => by
  have ih0 := bracket_Exact.mono_l k
  ·
   intro y0 y1 y2 y3 y4
   unfold bracket_Exact.l0
   repeat' first
   | (with_reducible exact ih0 _ _ _ _ _)
   | (with_reducible exact bracket_Split.mono _ _ _)
   | (with_reducible exact LeO.refl _)
   | (with_reducible exact LeO.none _)
   | (with_reducible refine LeO.ite ?_ ?_)
   | (with_reducible refine LeO.bind ?_ (fun _ => ?_))
   | exact ih0 _ _ _ _ _
   | exact bracket_Split.mono _ _ _
   | exact LeO.none _
   | refine LeO.ite ?_ ?_
   | refine LeO.bind ?_ (fun _ => ?_)
theorem bracket_Exact.mono : ∀ a0 a1 k, LeO (bracket_Exact.f k a0 a1) (bracket_Exact.f (k + 1) a0 a1) := by
 intro a0 a1 k
 have ih0 := bracket_Exact.mono_l k
 unfold bracket_Exact.f
 repeat' first
   | (with_reducible exact ih0 _ _ _ _ _)
   | (with_reducible exact bracket_Split.mono _ _ _)
   | (with_reducible exact LeO.refl _)
   | (with_reducible exact LeO.none _)
   | (with_reducible refine LeO.ite ?_ ?_)
   | (with_reducible refine LeO.bind ?_ (fun _ => ?_))
   | exact ih0 _ _ _ _ _
   | exact bracket_Split.mono _ _ _
   | exact LeO.none _
   | refine LeO.ite ?_ ?_
   | refine LeO.bind ?_ (fun _ => ?_)
set_option maxHeartbeats 8000000 in
set_option maxRecDepth 100000 in
theorem bracket_Exact.calls (k : Nat) (A0 : Option Addr) (c0 : Nat) (l0 : List (S58)) (a1 : Int) (r1 : Int) (r2 : Int) (w : World) (hr0 : Kd.C k58 w A0 l0.length l0) (hc0 : l0.length ≤ c0) (h : bracket_Exact.f k l0 a1 = some (r1, r2)) :
  Calls Try.prog 63 #[.slice A0 l0.length c0, .int .i64 a1] w fun e w' => e = .returned (.tuple #[.int .i64 r1, .int .i64 r2]) ∧ Below w.heap.size w w' := by
 have HR0 := Aside0.mk hr0
 have HC0 := Aside0.mk hc0
 clear hr0 hc0
 have HB := Aside0.mk (Below.refl w.heap.size w)
 have H : ((bracket_Split.f k l0 a1).bind fun bt130 => (if bt130.2 = 0 then (bracket_Exact.l0 k l0 0 bt130.1 (bt130.1.length : Int) 0) else (some (0, bt130.2)))) = some (r1, r2) := h
 clear h
 replace H := Option.bind_eq_some_iff.mp H
 obtain ⟨⟨t130, t131⟩, A30, H⟩ := H
 try dsimp only at H
 have A3 := Aside0.mk A30
 clear A30
 by_cases c4 : t131 = 0
 ·
  rw [if_pos c4] at H
  have c4b0 : (t131 == 0) = true := beq_iff_eq.mpr c4
  have c4b1 : (t131 != 0) = false := bne_eq_false_iff_eq.mpr c4
  clear c4
  have H' := Aside0.mk H
  clear H
  go_enter Try.func63, Try.ntmps63
  go_wp2_with (first | ((with_reducible refine gate_callee (f := 66) rfl ?_); refine goesL_ (some 14) rfl rfl Try.func66 (by kernel_rfl) rfl #[.slice A0 l0.length c0, .int .i64 a1] rfl q1 ?_; (with_reducible refine (bracket_Split.calls k _ _ l0 a1 t130 t131 _ ?side1 ?side2 A3.out).mono ?_); (case side1 => exact q33); (case side2 => exact HC0.out); rintro e w5 ⟨v132, rfl, ho0, hb⟩; refine ⟨_, rfl, ?_⟩; have n0_ := Aside0.mk (Kd.R_lower ho0 (below_size q0)); have n1_ := Aside0.mk (below_step q0 hb); clear HB; have HO133 := n0_; have HB := n1_; clear n0_ n1_; (try clear hb); (try clear hb2); (try clear hk); (try clear hi); (try clear ho0); obtain ⟨Ao6, co6, eo6⟩ := Kd.R_slice HO133.out; subst eo6))
  go_loopg [8, 22] k (fun kq v8 v22 w' => ∃ (x8_1 : Int) (x22_1 : Int), v8 = .int .i64 x8_1 ∧ v22 = .int .i64 x22_1 ∧ Aside0 (bracket_Exact.l0 kq l0 x8_1 t130 (t130.length : Int) x22_1 = some (r1, r2)) ∧ Aside0 (kq ≤ k) ∧ Aside0 (Kd.R (Kd.int .i64) 3 w' w.heap.size (fun _ => True) (.slice Ao6 t130.length co6) t130) ∧ Aside0 (Below w.heap.size w w'))
  case atStart => exact ⟨(0), (0), q26, q26, H', ⟨Nat.le_refl _⟩, ⟨(by (with_reducible repeat (first | apply Kd.R_alloc | apply Kd.R_drewN | apply Kd.R_drew)); exact HO133.out)⟩, ⟨q0⟩⟩
  case round =>
   clear H'
   try clear p2
   try clear c4
   try clear c4b0
   try clear c4b1
   try clear c6
   obtain ⟨x8_1, x22_1, rfl, rfl, HA, HK1, HO_20, HB⟩ := hrel
   cases gk with
   | zero => exact absurd HA.out (by simp [bracket_Exact.l0])
   | succ k1 =>
    have H := HA.out
    clear HA
    simp only [bracket_Exact.l0] at H
    by_cases c7 : x22_1 < (t130.length : Int)
    ·
     rw [if_pos c7] at H
     have c7b0 : decide (x22_1 < (t130.length : Int)) = true := decide_eq_true c7
     clear c7
     by_cases c8 : 0 ≤ x22_1
     ·
      rw [if_pos c8] at H
      have c8b0 : decide (0 ≤ x22_1) = true := decide_eq_true c8
      clear c8
      by_cases c9 : x22_1 < (t130.length : Int)
      ·
       rw [if_pos c9] at H
       have c9b0 : decide (x22_1 < (t130.length : Int)) = true := decide_eq_true c9
       clear c9
       by_cases c10 : x22_1 < (l0.length : Int)
       ·
        rw [if_pos c10] at H
        have c10b0 : decide (x22_1 < (l0.length : Int)) = true := decide_eq_true c10
        clear c10
        have H' := Aside0.mk H
        clear H
        have p134 : 0 ≤ (x22_1 : Int) := of_decide_eq_true q6
        have q134 : x22_1 < (t130.length : Int) := of_decide_eq_true q6
        obtain ⟨ad134, e134, hx134_0⟩ := Kd.at_int (Kd.R_reads' HO_20.out).2.2 x22_1 p134 q134
        cases e134
        replace p134 := eq_true p134
        replace q134 := eq_true q134
        have p135 : 0 ≤ (x22_1 : Int) := of_decide_eq_true q6
        have q135 : x22_1 < (l0.length : Int) := of_decide_eq_true q6
        obtain ⟨ad135, e135, hx135_0, hx135_1⟩ := at_T58 HR0.out x22_1 p135 q135
        cases e135
        replace hx135_0 := (HB.out.cell (World.block_lt_of_cell? w _ hx135_0)).trans hx135_0
        replace hx135_1 := (HB.out.cell (World.block_lt_of_cell? w _ hx135_1)).trans hx135_1
        replace p135 := eq_true p135
        replace q135 := eq_true q135
        go_wp2
        go_roundg k1
        case measure => have := HK1.out; omega
        case rel => exact ⟨(wrap64 (x8_1 + (wrap64 (((rd_T58 l0 x22_1).f1) * (rd t130 x22_1))))), (wrap64 (x22_1 + 1)), q26, q26, H', ⟨by have := HK1.out; omega⟩, ⟨(by (with_reducible repeat (first | apply Kd.R_alloc | apply Kd.R_drewN | apply Kd.R_drew)); exact HO_20.out)⟩, ⟨q0⟩⟩
       ·
        rw [if_neg c10] at H
        exact absurd H (by simp)
      ·
       rw [if_neg c9] at H
       exact absurd H (by simp)
     ·
      rw [if_neg c8] at H
      exact absurd H (by simp)
    ·
     rw [if_neg c7] at H
     have c7b0 : decide (x22_1 < (t130.length : Int)) = false := decide_eq_false c7
     clear c7
     simp only [Option.some.injEq, Prod.mk.injEq] at H
     obtain ⟨rfl, rfl⟩ := H
     go_wp2
     go_ret2
     exact ⟨by first | rfl | (simp [errW_none, errW_some] <;> rfl) | (simp [*, errW_none, errW_some] <;> rfl), q0⟩
 ·
  rw [if_neg c4] at H
  have c4b0 : (t131 == 0) = false := beq_eq_false_iff_ne.mpr c4
  have c4b1 : (t131 != 0) = true := bne_iff_ne.mpr c4
  simp only [Option.some.injEq, Prod.mk.injEq] at H
  obtain ⟨rfl, rfl⟩ := H
  exact (by go_enter Try.func63, Try.ntmps63; go_wp2_with (first | ((with_reducible refine gate_callee (f := 66) rfl ?_); refine goesL_ (some 14) rfl rfl Try.func66 (by kernel_rfl) rfl #[.slice A0 l0.length c0, .int .i64 a1] rfl q1 ?_; (with_reducible refine (bracket_Split.calls k _ _ l0 a1 t130 t131 _ ?side1 ?side2 A3.out).mono ?_); (case side1 => exact q33); (case side2 => exact HC0.out); rintro e w_1 ⟨v132, rfl, ho_1, hb⟩; refine ⟨_, rfl, ?_⟩; have n0_ := Aside0.mk (Kd.R_lower ho_1 (below_size q0)); have n1_ := Aside0.mk (below_step q0 hb); clear HB; have HO_1 := n0_; have HB := n1_; clear n0_ n1_; (try clear hb); (try clear hb2); (try clear hk); (try clear hi); (try clear ho_1))); go_ret2; exact ⟨by first | rfl | (simp [errW_none, errW_some] <;> rfl) | (simp [*, errW_none, errW_some] <;> rfl), q0⟩)

end Go.Proofs.Ytbacfajhgmnjpaa.P
