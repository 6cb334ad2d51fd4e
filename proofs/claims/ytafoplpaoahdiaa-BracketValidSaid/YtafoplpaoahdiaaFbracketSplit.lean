/- Proved here: that the Go function bracket_Split computes the plain function of that name (the machine side of the laws, reworked from a print; no condition of its own). -/
import Derived.Test.YtafoplpaoahdiaaProg
import Derived.Test.YtafoplpaoahdiaaV1
import Derived.Test.YtafoplpaoahdiaaFPRE0
import Derived.Test.YtafoplpaoahdiaaFPRE1
import Derived.Test.YtafoplpaoahdiaaFbracketcheck
namespace Go.Proofs.Ytafoplpaoahdiaa.P
open Go.RowKit Go.Proofs.YtafoplpaoahdiaaW.PrintWords Go.Proofs.YtafoplpaoahdiaaW.PrintLast Go.Proofs.YtafoplpaoahdiaaW.PrintMore
attribute [local go_sem] max2_int min2_int max_two min_two max_three min_three max_four min_four   -- for this text's walks alone
set_option linter.unusedVariables false
set_option linter.unusedSimpArgs false

def bracket_Split.l0 : Nat → List (S30) → Int → List Int → Int → Int → Option (List Int × Int)
 | 0, _, _, _, _, _ => none
 | k + 1, x0, x1, x7, x8, x9 => if x8 < (x0.length : Int) then (if x9 < (x0.length : Int) then (if 0 ≤ x9 then (if 0 ≤ x8 then (if x8 < (x7.length : Int) then (bracket_Split.l0 k x0 x1 (x7.set (x8 : Int).toNat (mx (wrap64 ((mn x1 ((rd_T30 x0 x9).f0)) - ((rd_T30 x0 x8).f0))) 0)) (wrap64 (x8 + 1)) (wrap64 (x9 + 1))) else (none)) else (none)) else (none)) else (if 0 ≤ x8 then (if x8 < (x7.length : Int) then (bracket_Split.l0 k x0 x1 (x7.set (x8 : Int).toNat (mx (wrap64 (x1 - ((rd_T30 x0 x8).f0))) 0)) (wrap64 (x8 + 1)) (wrap64 (x9 + 1))) else (none)) else (none))) else (some (x7, 0))
def bracket_Split.f (k : Nat) (l0 : List (S30)) (a1 : Int) : Option (List Int × Int) := (bracket_check.f k l0 a1).bind fun t106 => (if t106 = 0 then (if 0 ≤ (l0.length : Int) then (if ((l0.length : Int) : Int).toNat ≤ 35184372088832 then (bracket_Split.l0 k l0 a1 (List.replicate ((l0.length : Int) : Int).toNat 0) 0 1) else (none)) else (none)) else (some (([] : List Int), t106)))
theorem bracket_Split.mono_l : ∀ k, (∀ y0 y1 y2 y3 y4, LeO (bracket_Split.l0 k y0 y1 y2 y3 y4) (bracket_Split.l0 (k + 1) y0 y1 y2 y3 y4))
 | 0 => fun _ _ _ _ _ r h => by simp [bracket_Split.l0] at h
 | k + 1 => by
  have ih0 := bracket_Split.mono_l k
  ·
   intro y0 y1 y2 y3 y4
   unfold bracket_Split.l0
   repeat' first
   | (with_reducible exact ih0 _ _ _ _ _)
   | (with_reducible exact bracket_check.mono _ _ _)
   | (with_reducible exact LeO.refl _)
   | (with_reducible exact LeO.none _)
   | (with_reducible refine LeO.ite ?_ ?_)
   | (with_reducible refine LeO.bind ?_ (fun _ => ?_))
   | exact ih0 _ _ _ _ _
   | exact bracket_check.mono _ _ _
   | exact LeO.none _
   | refine LeO.ite ?_ ?_
   | refine LeO.bind ?_ (fun _ => ?_)
theorem bracket_Split.mono : ∀ a0 a1 k, LeO (bracket_Split.f k a0 a1) (bracket_Split.f (k + 1) a0 a1) := by
 intro a0 a1 k
 have ih0 := bracket_Split.mono_l k
 unfold bracket_Split.f
 repeat' first
   | (with_reducible exact ih0 _ _ _ _ _)
   | (with_reducible exact bracket_check.mono _ _ _)
   | (with_reducible exact LeO.refl _)
   | (with_reducible exact LeO.none _)
   | (with_reducible refine LeO.ite ?_ ?_)
   | (with_reducible refine LeO.bind ?_ (fun _ => ?_))
   | exact ih0 _ _ _ _ _
   | exact bracket_check.mono _ _ _
   | exact LeO.none _
   | refine LeO.ite ?_ ?_
   | refine LeO.bind ?_ (fun _ => ?_)
set_option maxHeartbeats 8000000 in
set_option maxRecDepth 100000 in
theorem bracket_Split.calls (k : Nat) (A0 : Option Addr) (c0 : Nat) (l0 : List (S30)) (a1 : Int) (r1 : List Int) (r2 : Int) (w : World) (hr0 : Kd.C k30 w A0 l0.length l0) (hc0 : l0.length ≤ c0) (h : bracket_Split.f k l0 a1 = some (r1, r2)) :
  Calls Try.prog 20 #[.slice A0 l0.length c0, .int .i64 a1] w fun e w' => ∃ v0_ : Value, e = .returned (.tuple #[v0_, .int .i64 r2]) ∧ Kd.R (Kd.int .i64) 3 w' w.heap.size (fun _ => True) v0_ r1 ∧ Below w.heap.size w w' := by
 have HR0 := Aside0.mk hr0
 have HC0 := Aside0.mk hc0
 clear hr0 hc0
 have HB := Aside0.mk (Below.refl w.heap.size w)
 have H : ((bracket_check.f k l0 a1).bind fun t106 => (if t106 = 0 then (if 0 ≤ (l0.length : Int) then (if ((l0.length : Int) : Int).toNat ≤ 35184372088832 then (bracket_Split.l0 k l0 a1 (List.replicate ((l0.length : Int) : Int).toNat 0) 0 1) else (none)) else (none)) else (some (([] : List Int), t106)))) = some (r1, r2) := h
 clear h
 replace H := Option.bind_eq_some_iff.mp H
 obtain ⟨t106, A30, H⟩ := H
 replace H : (if t106 = 0 then (if 0 ≤ (l0.length : Int) then (if ((l0.length : Int) : Int).toNat ≤ 35184372088832 then (bracket_Split.l0 k l0 a1 (List.replicate ((l0.length : Int) : Int).toNat 0) 0 1) else (none)) else (none)) else (some (([] : List Int), t106))) = some (r1, r2) := H
 have A3 := Aside0.mk A30
 clear A30
 by_cases c4 : t106 = 0
 ·
  rw [if_pos c4] at H
  have c4b0 : (t106 == 0) = true := beq_iff_eq.mpr c4
  have c4b1 : (t106 != 0) = false := bne_eq_false_iff_eq.mpr c4
  clear c4
  by_cases c5 : 0 ≤ (l0.length : Int)
  ·
   rw [if_pos c5] at H
   have c5b0 := eq_true c5
   have c5b1 : decide (0 ≤ (l0.length : Int)) = true := decide_eq_true c5
   clear c5
   by_cases c6 : ((l0.length : Int) : Int).toNat ≤ 35184372088832
   ·
    rw [if_pos c6] at H
    have c6b0 := eq_true c6
    have c6b1 : decide (((l0.length : Int) : Int).toNat ≤ 35184372088832) = true := decide_eq_true c6
    clear c6
    obtain ⟨y107, hy107⟩ : ∃ y_ : List Int, y_ = (List.replicate ((l0.length : Int) : Int).toNat 0) := ⟨_, rfl⟩
    replace H : (bracket_Split.l0 k l0 a1 y107 0 1) = some (r1, r2) := by first | (rw [hy107]; with_reducible exact H) | (have H2_ := (Option.bind_some _ _).symm.trans H; rw [hy107]; with_reducible exact H2_) | (have H2_ := (Option.bind_some _ _).symm.trans H; with_reducible exact H2_) | with_reducible exact H | (rw [hy107]; exact H) | exact H
    have Ny107 := Aside0.mk hy107
    clear hy107
    have H' := Aside0.mk H
    clear H
    go_enter Try.func20, Try.ntmps20
    go_wp2_with (first | ((with_reducible refine gate_callee (f := 40) rfl ?_); refine goesL_ (some 13) rfl rfl Try.func40 (by kernel_rfl) rfl #[.slice A0 l0.length c0, .int .i64 a1] rfl (by (try simp only [List.map_toArray, List.map_cons, List.map_nil]); first | done | rfl | (simp only [List.length_drop, List.length_take]; rfl)) ?_; (with_reducible refine (bracket_check.calls k _ _ l0 a1 t106 _ ?side1 ?side2 A3.out).mono ?_); (case side1 => repeat (first | exact HR0.out | (with_reducible refine Kd.C_alloc ?_ _) | (with_reducible refine Kd.C_drewN ?_ _) | (with_reducible refine Kd.C_drew ?_))); (case side2 => exact HC0.out); rintro e w7 ⟨rfl, hb⟩; refine ⟨_, rfl, ?_⟩; have n0_ := Aside0.mk (below_step (by repeat (first | (with_reducible first | exact HB.out | apply below_alloc | apply pw_below_drewN | apply below_drew1) | exact HB.out)) hb); clear HB; have HB := n0_; clear n0_; (try clear hb); (try clear hb2); (try clear hk); (try clear hi)) | ((with_reducible refine gate_dst (N := 19) rfl ?_); refine Kd.R_make (Kd.int .i64) _ 3 rfl (N := 19) rfl 23 _ _ rfl (l0.length : Int) rfl rfl Try.underlying23 (.int .i64 0) 8 info3 rfl (by decide) (by omega) 0 (ok := fun _ => True) (okp := fun _ => True) rfl (fun _ hk => hk) trivial (of_decide_eq_true (by first | (with_reducible assumption) | assumption)) (Nat.le_trans (Nat.mul_le_mul_right _ (of_decide_eq_true (by first | (with_reducible assumption) | assumption) : (l0.length : Int).toNat ≤ 35184372088832)) (by omega)) (Below.refl _ _) (Nat.le_refl _) ?_; intro v108 w8 ho9 hb hg_ hnew_; clear hg_ hnew_; (first | rw [← Ny107.out] at ho9 | (simp only [Int.reduceToNat] at ho9; rw [← Ny107.out] at ho9)); have n0_ := Aside0.mk (Kd.R_lower ho9 (below_size (by repeat (first | (with_reducible first | exact HB.out | apply below_alloc | apply pw_below_drewN | apply below_drew1) | exact HB.out)))); have n1_ := Aside0.mk (below_step (by repeat (first | (with_reducible first | exact HB.out | apply below_alloc | apply pw_below_drewN | apply below_drew1) | exact HB.out)) hb); clear HB; have HO109 := n0_; have HB := n1_; clear n0_ n1_; clear hb ho9))
    go_loopg [8, 9] k (fun kq v8 v9 w' => ∃ (x7_1 : List Int) (x8_1 : Int) (x9_1 : Int), v8 = .int .i64 x8_1 ∧ v9 = .int .i64 x9_1 ∧ Aside0 (bracket_Split.l0 kq l0 a1 x7_1 x8_1 x9_1 = some (r1, r2)) ∧ Aside0 (kq ≤ k) ∧ Aside0 (Kd.R (Kd.int .i64) 3 w' w.heap.size (fun _ => True) v108 x7_1) ∧ Aside0 (Below w.heap.size w w'))
    case atStart => exact ⟨(y107), (0), (1), (by first | rfl | (simp; done) | (simp [*]; done)), (by first | rfl | (simp; done) | (simp [*]; done)), H', ⟨Nat.le_refl _⟩, ⟨by (with_reducible repeat (first | apply Kd.R_alloc | apply Kd.R_drewN | apply Kd.R_drew)); exact HO109.out⟩, ⟨by repeat (first | (with_reducible first | exact HB.out | apply below_alloc | apply pw_below_drewN | apply below_drew1) | exact HB.out)⟩⟩
    case round =>
     clear H'
     try clear c2
     try clear p2
     try clear c4
     try clear c4b0
     try clear c4b1
     try clear c5
     try clear c5b0
     try clear c5b1
     try clear c6
     try clear c6b0
     try clear c6b1
     obtain ⟨x7_1, x8_1, x9_1, rfl, rfl, HA, HK1, HO_7, HB⟩ := hrel
     cases gk with
     | zero => exact absurd HA.out (by simp [bracket_Split.l0])
     | succ k1 =>
      have H := HA.out
      clear HA
      simp only [bracket_Split.l0] at H
      by_cases c10 : x8_1 < (l0.length : Int)
      ·
       rw [if_pos c10] at H
       have c10b0 : decide (x8_1 < (l0.length : Int)) = true := decide_eq_true c10
       clear c10
       by_cases c11 : x9_1 < (l0.length : Int)
       ·
        rw [if_pos c11] at H
        have c11b0 : decide (x9_1 < (l0.length : Int)) = true := decide_eq_true c11
        clear c11
        by_cases c12 : 0 ≤ x9_1
        ·
         rw [if_pos c12] at H
         have c12b0 : decide (0 ≤ x9_1) = true := decide_eq_true c12
         clear c12
         obtain ⟨ji13, hji13⟩ : ∃ j_ : Int, (mn a1 ((rd_T30 l0 x9_1).f0)) = j_ := ⟨_, rfl⟩
         replace H : (if 0 ≤ x8_1 then (if x8_1 < (x7_1.length : Int) then (bracket_Split.l0 k1 l0 a1 (x7_1.set (x8_1 : Int).toNat (mx (wrap64 ((ji13) - ((rd_T30 l0 x8_1).f0))) 0)) (wrap64 (x8_1 + 1)) (wrap64 (x9_1 + 1))) else (none)) else (none)) = some (r1, r2) := by first | (rw [hji13] at H; exact H) | (simp only [hji13] at H ⊢; exact H)
         have hji13_ : (if ((rd_T30 l0 x9_1).f0) < a1 then ((rd_T30 l0 x9_1).f0) else a1) = ji13 := hji13
         by_cases c14 : 0 ≤ x8_1
         ·
          rw [if_pos c14] at H
          have c14b0 : decide (0 ≤ x8_1) = true := decide_eq_true c14
          clear c14
          obtain ⟨ji15, hji15⟩ : ∃ j_ : Int, (mx (wrap64 ((ji13) - ((rd_T30 l0 x8_1).f0))) 0) = j_ := ⟨_, rfl⟩
          replace H : (if x8_1 < (x7_1.length : Int) then (bracket_Split.l0 k1 l0 a1 (x7_1.set (x8_1 : Int).toNat (ji15)) (wrap64 (x8_1 + 1)) (wrap64 (x9_1 + 1))) else (none)) = some (r1, r2) := by first | (rw [hji15] at H; exact H) | (simp only [hji15] at H ⊢; exact H)
          have hji15_ : (if (wrap64 ((ji13) - ((rd_T30 l0 x8_1).f0))) < 0 then 0 else (wrap64 ((ji13) - ((rd_T30 l0 x8_1).f0)))) = ji15 := hji15
          by_cases c16 : x8_1 < (x7_1.length : Int)
          ·
           rw [if_pos c16] at H
           have c16b0 : decide (x8_1 < (x7_1.length : Int)) = true := decide_eq_true c16
           clear c16
           obtain ⟨y112, hy112⟩ : ∃ y_ : List Int, y_ = (x7_1.set (x8_1 : Int).toNat (ji15)) := ⟨_, rfl⟩
           replace H : (bracket_Split.l0 k1 l0 a1 y112 (wrap64 (x8_1 + 1)) (wrap64 (x9_1 + 1))) = some (r1, r2) := by first | (rw [hy112]; with_reducible exact H) | (have H2_ := (Option.bind_some _ _).symm.trans H; rw [hy112]; with_reducible exact H2_) | (have H2_ := (Option.bind_some _ _).symm.trans H; with_reducible exact H2_) | with_reducible exact H | (rw [hy112]; exact H) | exact H
           have Ny112 := Aside0.mk hy112
           clear hy112
           have H' := Aside0.mk H
           clear H
           have p110 : 0 ≤ (x9_1 : Int) := of_decide_eq_true (by first | (with_reducible assumption) | assumption)
           have q110 : x9_1 < (l0.length : Int) := of_decide_eq_true (by first | (with_reducible assumption) | assumption)
           obtain ⟨ad110, e110, hx110_0, hx110_1⟩ := at_T30 HR0.out x9_1 p110 q110
           cases e110
           replace hx110_0 := (HB.out.cell (World.block_lt_of_cell? w _ hx110_0)).trans hx110_0
           replace hx110_1 := (HB.out.cell (World.block_lt_of_cell? w _ hx110_1)).trans hx110_1
           replace p110 := eq_true p110
           replace q110 := eq_true q110
           have p111 : 0 ≤ (x8_1 : Int) := of_decide_eq_true (by first | (with_reducible assumption) | assumption)
           have q111 : x8_1 < (l0.length : Int) := of_decide_eq_true (by first | (with_reducible assumption) | assumption)
           obtain ⟨ad111, e111, hx111_0, hx111_1⟩ := at_T30 HR0.out x8_1 p111 q111
           obtain rfl : ad110 = ad111 := (by injection e111)
           replace hx111_0 := (HB.out.cell (World.block_lt_of_cell? w _ hx111_0)).trans hx111_0
           replace hx111_1 := (HB.out.cell (World.block_lt_of_cell? w _ hx111_1)).trans hx111_1
           replace p111 := eq_true p111
           replace q111 := eq_true q111
           have p17 : 0 ≤ (x8_1 : Int) := of_decide_eq_true (by first | (with_reducible assumption) | assumption)
           have q17 : (x8_1 : Int) < ((x7_1.length : Int) : Int) := of_decide_eq_true (by first | (with_reducible assumption) | assumption)
           obtain ⟨go17, co17, eo17, gb17, gl17, cl17, HG17⟩ := Kd.R_form HO_7.out (by omega)
           (first | cases eo17 | (injection eo17 with ea_ en_ ec_; (first | subst ea_ | (injection ea_ with ea_; subst ea_)); subst ec_; clear en_))
           have GB17 := Aside0.mk gb17
           have GG17 := Aside0.mk HG17
           clear gb17 gl17 HG17
           obtain ⟨hx17_0, hf17_0⟩ := Kd.R_celln 0 HO_7.out (x8_1 : Int) p17 q17
           replace p17 := eq_true p17
           replace q17 := eq_true q17
           have HP18 := Kd.R_putg HO_7.out (x8_1 : Int) ji15
           go_wp2_with (first | ((with_reducible refine gate_store (t := 3) (p := 50) rfl ?_); refine store_event (t := 3) (p := 50) (v := ?vo_w19) (w1 := (wr.setCell ⟨go17, (x8_1 : Int).toNat, none⟩ (.int .i64 ji15))) ?hg ?ho ?hn ?hr ?_; (case ho => rfl); (case hg => rfl); (case hn => rfl); (case hr => first | (go_simp; done) | (go_simp; rfl)); intro w19 hw; have hg : wr.grownBy w19 (some go17) := (by rw [hw]; exact HP18.2); have hp_ : Kd.R (Kd.int .i64) 3 w19 w.heap.size (fun _ => True) (.slice (some ⟨go17, 0, none⟩) x7_1.length co17) y112 := (by rw [hw, Ny112.out]; exact HP18.1); clear HP18; have n0_ := Aside0.mk (hp_); have n1_ := Aside0.mk ((by rw [hw]; exact below_set (HB.out) GB17.out : Below w.heap.size w w19)); clear HO_7; clear HB; have HO_7 := n0_; have HB := n1_; clear n0_ n1_; clear hg hw hp_))
           go_roundg k1
           case measure => have := HK1.out; omega
           case rel => exact ⟨(y112), (wrap64 (x8_1 + 1)), (wrap64 (x9_1 + 1)), (by first | rfl | (simp; done) | (simp [*]; done)), (by first | rfl | (simp; done) | (simp [*]; done)), H', ⟨by have := HK1.out; omega⟩, ⟨by (with_reducible repeat (first | apply Kd.R_alloc | apply Kd.R_drewN | apply Kd.R_drew)); exact HO_7.out⟩, ⟨by repeat (first | (with_reducible first | exact HB.out | apply below_alloc | apply pw_below_drewN | apply below_drew1) | exact HB.out)⟩⟩
          ·
           rw [if_neg c16] at H
           exact absurd H (by simp)
         ·
          rw [if_neg c14] at H
          exact absurd H (by simp)
        ·
         rw [if_neg c12] at H
         exact absurd H (by simp)
       ·
        rw [if_neg c11] at H
        have c11b0 : decide (x9_1 < (l0.length : Int)) = false := decide_eq_false c11
        clear c11
        by_cases c20 : 0 ≤ x8_1
        ·
         rw [if_pos c20] at H
         have c20b0 : decide (0 ≤ x8_1) = true := decide_eq_true c20
         clear c20
         obtain ⟨ji21, hji21⟩ : ∃ j_ : Int, (mx (wrap64 (a1 - ((rd_T30 l0 x8_1).f0))) 0) = j_ := ⟨_, rfl⟩
         replace H : (if x8_1 < (x7_1.length : Int) then (bracket_Split.l0 k1 l0 a1 (x7_1.set (x8_1 : Int).toNat (ji21)) (wrap64 (x8_1 + 1)) (wrap64 (x9_1 + 1))) else (none)) = some (r1, r2) := by first | (rw [hji21] at H; exact H) | (simp only [hji21] at H ⊢; exact H)
         have hji21_ : (if (wrap64 (a1 - ((rd_T30 l0 x8_1).f0))) < 0 then 0 else (wrap64 (a1 - ((rd_T30 l0 x8_1).f0)))) = ji21 := hji21
         by_cases c22 : x8_1 < (x7_1.length : Int)
         ·
          rw [if_pos c22] at H
          have c22b0 : decide (x8_1 < (x7_1.length : Int)) = true := decide_eq_true c22
          clear c22
          obtain ⟨y114, hy114⟩ : ∃ y_ : List Int, y_ = (x7_1.set (x8_1 : Int).toNat (ji21)) := ⟨_, rfl⟩
          replace H : (bracket_Split.l0 k1 l0 a1 y114 (wrap64 (x8_1 + 1)) (wrap64 (x9_1 + 1))) = some (r1, r2) := by first | (rw [hy114]; with_reducible exact H) | (have H2_ := (Option.bind_some _ _).symm.trans H; rw [hy114]; with_reducible exact H2_) | (have H2_ := (Option.bind_some _ _).symm.trans H; with_reducible exact H2_) | with_reducible exact H | (rw [hy114]; exact H) | exact H
          have Ny114 := Aside0.mk hy114
          clear hy114
          have H' := Aside0.mk H
          clear H
          have p113 : 0 ≤ (x8_1 : Int) := of_decide_eq_true (by first | (with_reducible assumption) | assumption)
          have q113 : x8_1 < (l0.length : Int) := of_decide_eq_true (by first | (with_reducible assumption) | assumption)
          obtain ⟨ad113, e113, hx113_0, hx113_1⟩ := at_T30 HR0.out x8_1 p113 q113
          cases e113
          replace hx113_0 := (HB.out.cell (World.block_lt_of_cell? w _ hx113_0)).trans hx113_0
          replace hx113_1 := (HB.out.cell (World.block_lt_of_cell? w _ hx113_1)).trans hx113_1
          replace p113 := eq_true p113
          replace q113 := eq_true q113
          have p23 : 0 ≤ (x8_1 : Int) := of_decide_eq_true (by first | (with_reducible assumption) | assumption)
          have q23 : (x8_1 : Int) < ((x7_1.length : Int) : Int) := of_decide_eq_true (by first | (with_reducible assumption) | assumption)
          obtain ⟨go23, co23, eo23, gb23, gl23, cl23, HG23⟩ := Kd.R_form HO_7.out (by omega)
          (first | cases eo23 | (injection eo23 with ea_ en_ ec_; (first | subst ea_ | (injection ea_ with ea_; subst ea_)); subst ec_; clear en_))
          have GB23 := Aside0.mk gb23
          have GG23 := Aside0.mk HG23
          clear gb23 gl23 HG23
          obtain ⟨hx23_0, hf23_0⟩ := Kd.R_celln 0 HO_7.out (x8_1 : Int) p23 q23
          replace p23 := eq_true p23
          replace q23 := eq_true q23
          have HP24 := Kd.R_putg HO_7.out (x8_1 : Int) ji21
          go_wp2_with (first | ((with_reducible refine gate_store (t := 3) (p := 50) rfl ?_); refine store_event (t := 3) (p := 50) (v := ?vo_w25) (w1 := (wr.setCell ⟨go23, (x8_1 : Int).toNat, none⟩ (.int .i64 ji21))) ?hg ?ho ?hn ?hr ?_; (case ho => rfl); (case hg => rfl); (case hn => rfl); (case hr => first | (go_simp; done) | (go_simp; rfl)); intro w25 hw; have hg : wr.grownBy w25 (some go23) := (by rw [hw]; exact HP24.2); have hp_ : Kd.R (Kd.int .i64) 3 w25 w.heap.size (fun _ => True) (.slice (some ⟨go23, 0, none⟩) x7_1.length co23) y114 := (by rw [hw, Ny114.out]; exact HP24.1); clear HP24; have n0_ := Aside0.mk (hp_); have n1_ := Aside0.mk ((by rw [hw]; exact below_set (HB.out) GB23.out : Below w.heap.size w w25)); clear HO_7; clear HB; have HO_7 := n0_; have HB := n1_; clear n0_ n1_; clear hg hw hp_))
          go_roundg k1
          case measure => have := HK1.out; omega
          case rel => exact ⟨(y114), (wrap64 (x8_1 + 1)), (wrap64 (x9_1 + 1)), (by first | rfl | (simp; done) | (simp [*]; done)), (by first | rfl | (simp; done) | (simp [*]; done)), H', ⟨by have := HK1.out; omega⟩, ⟨by (with_reducible repeat (first | apply Kd.R_alloc | apply Kd.R_drewN | apply Kd.R_drew)); exact HO_7.out⟩, ⟨by repeat (first | (with_reducible first | exact HB.out | apply below_alloc | apply pw_below_drewN | apply below_drew1) | exact HB.out)⟩⟩
         ·
          rw [if_neg c22] at H
          exact absurd H (by simp)
        ·
         rw [if_neg c20] at H
         exact absurd H (by simp)
      ·
       rw [if_neg c10] at H
       have c10b0 : decide (x8_1 < (l0.length : Int)) = false := decide_eq_false c10
       clear c10
       simp only [Option.some.injEq, Prod.mk.injEq] at H
       obtain ⟨rfl, rfl⟩ := H
       go_wp2
       go_ret2
       exact ⟨_, by first | rfl | (simp [errW_none, errW_some] <;> rfl) | (simp [*, errW_none, errW_some] <;> rfl), by (with_reducible repeat (first | apply Kd.R_alloc | apply Kd.R_drewN | apply Kd.R_drew)); exact HO_7.out, by repeat (first | (with_reducible first | exact HB.out | apply below_alloc | apply pw_below_drewN | apply below_drew1) | exact HB.out)⟩
   ·
    rw [if_neg c6] at H
    exact absurd H (by simp)
  ·
   rw [if_neg c5] at H
   exact absurd H (by simp)
 ·
  rw [if_neg c4] at H
  have c4b0 : (t106 == 0) = false := beq_eq_false_iff_ne.mpr c4
  have c4b1 : (t106 != 0) = true := bne_iff_ne.mpr c4
  simp only [Option.some.injEq, Prod.mk.injEq] at H
  obtain ⟨rfl, rfl⟩ := H
  go_enter Try.func20, Try.ntmps20
  go_wp2_with (first | ((with_reducible refine gate_callee (f := 40) rfl ?_); refine goesL_ (some 13) rfl rfl Try.func40 (by kernel_rfl) rfl #[.slice A0 l0.length c0, .int .i64 a1] rfl (by (try simp only [List.map_toArray, List.map_cons, List.map_nil]); first | done | rfl | (simp only [List.length_drop, List.length_take]; rfl)) ?_; (with_reducible refine (bracket_check.calls k _ _ l0 a1 t106 _ ?side1 ?side2 A3.out).mono ?_); (case side1 => repeat (first | exact HR0.out | (with_reducible refine Kd.C_alloc ?_ _) | (with_reducible refine Kd.C_drewN ?_ _) | (with_reducible refine Kd.C_drew ?_))); (case side2 => exact HC0.out); rintro e w26 ⟨rfl, hb⟩; refine ⟨_, rfl, ?_⟩; have n0_ := Aside0.mk (below_step (by repeat (first | (with_reducible first | exact HB.out | apply below_alloc | apply pw_below_drewN | apply below_drew1) | exact HB.out)) hb); clear HB; have HB := n0_; clear n0_; (try clear hb); (try clear hb2); (try clear hk); (try clear hi)))
  go_ret2
  exact ⟨_, by first | rfl | (simp [errW_none, errW_some] <;> rfl) | (simp [*, errW_none, errW_some] <;> rfl), by first | exact Kd.R_nil _ _ _ _ _ | exact Kd.N_nil _ _ _ _ _ | exact Kd.V_nil _ _ _ _ _ | exact Kd.Q_nil _ _ _ _ _ | exact Kd.S_nil _ _ _ _ _, by repeat (first | (with_reducible first | exact HB.out | apply below_alloc | apply pw_below_drewN | apply below_drew1) | exact HB.out)⟩

end Go.Proofs.Ytafoplpaoahdiaa.P
