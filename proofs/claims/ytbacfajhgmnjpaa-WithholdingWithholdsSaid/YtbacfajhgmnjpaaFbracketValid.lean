/- Proved here: that the Go function bracket_Valid computes the plain function of that name (the machine side of the laws, reworked from a print; no condition of its own). -/
import Derived.Test.YtbacfajhgmnjpaaProg
import Derived.Test.YtbacfajhgmnjpaaV1
import Derived.Test.YtbacfajhgmnjpaaV2
import Derived.Test.YtbacfajhgmnjpaaFPRE
namespace Go.Proofs.Ytbacfajhgmnjpaa.P
open Go.RowKit Go.Proofs.YtbacfajhgmnjpaaW.PrintWords Go.Proofs.YtbacfajhgmnjpaaW.PrintLast Go.Proofs.YtbacfajhgmnjpaaW.PrintMore
attribute [local go_sem] max2_int min2_int max_two min_two max_three min_three max_four min_four   -- for this text's walks alone
set_option linter.unusedVariables false
set_option linter.unusedSimpArgs false

mutual
def bracket_Valid.j0 : Nat → List (S58) → Bool → Option (Bool)
 | 0, _, _ => none
 | k + 1, x0, x19 => if x19 = true then (some false) else (bracket_Valid.l0 k x0 x0 (x0.length : Int) 0)
def bracket_Valid.l0 : Nat → List (S58) → List (S58) → Int → Int → Option (Bool)
 | 0, _, _, _, _ => none
 | k + 1, x0, x20, x21, x22 => if x22 < x21 then (if 0 ≤ x22 then (if x22 < (x20.length : Int) then (if x22 > 0 then (if 0 ≤ (wrap64 (x22 - 1)) then (if (wrap64 (x22 - 1)) < (x0.length : Int) then (if ((rd_T58 x0 (wrap64 (x22 - 1))).f0) ≥ ((rd_T58 x20 x22).f0) then (some false) else (if ((rd_T58 x20 x22).f0) > 1000000000000 then (some false) else (if ((rd_T58 x20 x22).f1) < 0 then (some false) else (if ((rd_T58 x20 x22).f1) > 1000000 then (some false) else (bracket_Valid.l0 k x0 x20 x21 (wrap64 (x22 + 1))))))) else (none)) else (none)) else (if ((rd_T58 x20 x22).f0) > 1000000000000 then (some false) else (if ((rd_T58 x20 x22).f1) < 0 then (some false) else (if ((rd_T58 x20 x22).f1) > 1000000 then (some false) else (bracket_Valid.l0 k x0 x20 x21 (wrap64 (x22 + 1))))))) else (none)) else (none)) else (some true)
end
def bracket_Valid.f (k : Nat) (l0 : List (S58)) : Option (Bool) := if (l0.length : Int) = 0 then (bracket_Valid.j0 k l0 true) else (if (l0.length : Int) > 24 then (bracket_Valid.j0 k l0 true) else (if 0 < (l0.length : Int) then (bracket_Valid.j0 k l0 (((rd_T58 l0 0).f0) != 0)) else (none)))
theorem bracket_Valid.mono_l : ∀ k, (∀ y0 y1, LeO (bracket_Valid.j0 k y0 y1) (bracket_Valid.j0 (k + 1) y0 y1)) ∧ (∀ y0 y1 y2 y3, LeO (bracket_Valid.l0 k y0 y1 y2 y3) (bracket_Valid.l0 (k + 1) y0 y1 y2 y3))
 | 0 => ⟨fun _ _ r h => by simp [bracket_Valid.j0] at h, fun _ _ _ _ r h => by simp [bracket_Valid.l0] at h⟩
 | k + 1 => by
  obtain ⟨ih0, ih1⟩ := bracket_Valid.mono_l k
  refine ⟨?_, ?_⟩
  ·
   intro y0 y1
   unfold bracket_Valid.j0
   repeat' first
   | (with_reducible exact ih0 _ _)
   | (with_reducible exact ih1 _ _ _ _)
   | (with_reducible exact LeO.refl _)
   | (with_reducible exact LeO.none _)
   | (with_reducible refine LeO.ite ?_ ?_)
   | (with_reducible refine LeO.bind ?_ (fun _ => ?_))
   | exact ih0 _ _
   | exact ih1 _ _ _ _
   | exact LeO.none _
   | refine LeO.ite ?_ ?_
   | refine LeO.bind ?_ (fun _ => ?_)
  ·
   intro y0 y1 y2 y3
   unfold bracket_Valid.l0
   repeat' first
   | (with_reducible exact ih0 _ _)
   | (with_reducible exact ih1 _ _ _ _)
   | (with_reducible exact LeO.refl _)
   | (with_reducible exact LeO.none _)
   | (with_reducible refine LeO.ite ?_ ?_)
   | (with_reducible refine LeO.bind ?_ (fun _ => ?_))
   | exact ih0 _ _
   | exact ih1 _ _ _ _
   | exact LeO.none _
   | refine LeO.ite ?_ ?_
   | refine LeO.bind ?_ (fun _ => ?_)
theorem bracket_Valid.mono : ∀ a0 k, LeO (bracket_Valid.f k a0) (bracket_Valid.f (k + 1) a0) := by
 intro a0 k
 obtain ⟨ih0, ih1⟩ := bracket_Valid.mono_l k
 unfold bracket_Valid.f
 repeat' first
   | (with_reducible exact ih0 _ _)
   | (with_reducible exact ih1 _ _ _ _)
   | (with_reducible exact LeO.refl _)
   | (with_reducible exact LeO.none _)
   | (with_reducible refine LeO.ite ?_ ?_)
   | (with_reducible refine LeO.bind ?_ (fun _ => ?_))
   | exact ih0 _ _
   | exact ih1 _ _ _ _
   | exact LeO.none _
   | refine LeO.ite ?_ ?_
   | refine LeO.bind ?_ (fun _ => ?_)
set_option maxHeartbeats 8000000 in
set_option maxRecDepth 100000 in
theorem bracket_Valid.calls (k : Nat) (A0 : Option Addr) (c0 : Nat) (l0 : List (S58)) (r : Bool) (w : World) (hr0 : Kd.C k58 w A0 l0.length l0) (hc0 : l0.length ≤ c0) (h : bracket_Valid.f k l0 = some r) :
  Calls Try.prog 56 #[.slice A0 l0.length c0] w fun e w' => e = .returned (.bool r) ∧ Below w.heap.size w w' := by
 have hu58 := Try.underlying58
 have HR0 := Aside0.mk hr0
 have HC0 := Aside0.mk hc0
 clear hr0 hc0
 have HB := Aside0.mk (Below.refl w.heap.size w)
 have H : (if (l0.length : Int) = 0 then (bracket_Valid.j0 k l0 true) else (if (l0.length : Int) > 24 then (bracket_Valid.j0 k l0 true) else (if 0 < (l0.length : Int) then (bracket_Valid.j0 k l0 (((rd_T58 l0 0).f0) != 0)) else (none)))) = some r := h
 clear h
 have HC2 := Aside0.mk H
 clear H
 go_enter Try.func56, Try.ntmps56
 go_upto_region 1 with (fail)
 repeat (go_quiet (fail); go_upto_region 1 with (fail))
 go_cut [19] (fun v19 wc => ∃ (kq : Nat) (x19_1 : Bool), v19 = .bool x19_1 ∧ Aside0 (bracket_Valid.j0 kq l0 x19_1 = some r) ∧ Aside0 (kq ≤ k) ∧ Aside0 (Below w.heap.size w wc))
 case first =>
  have H := HC2.out
  clear HC2
  by_cases c3 : (l0.length : Int) = 0
  ·
   rw [if_pos c3] at H
   have c3b0 : ((l0.length : Int) == 0) = true := beq_iff_eq.mpr c3
   have c3b1 : ((l0.length : Int) != 0) = false := bne_eq_false_iff_eq.mpr c3
   clear c3
   (first | rw [c3b0] | (simp only [i64_w, i32_w]; rw [c3b0]) | skip)
   have H' := Aside0.mk H
   clear H
   go_wp2
   repeat (go_quiet (fail); try go_wp2)
   go_meet
   case rel => exact ⟨_, (true), q26, H', ⟨by first | omega | exact Nat.le_refl _⟩, ⟨q0⟩⟩
  ·
   rw [if_neg c3] at H
   have c3b0 : ((l0.length : Int) == 0) = false := beq_eq_false_iff_ne.mpr c3
   have c3b1 : ((l0.length : Int) != 0) = true := bne_iff_ne.mpr c3
   have c3b2 : ¬ (l0 = []) := fun h_ => c3 (by rw [h_]; rfl)
   (first | rw [c3b0] | (simp only [i64_w, i32_w]; rw [c3b0]) | skip)
   by_cases c4 : (l0.length : Int) > 24
   ·
    rw [if_pos c4] at H
    have c4b0 : decide (24 < (l0.length : Int)) = true := decide_eq_true c4
    have c4b1 : decide (24 < l0.length) = true := decide_eq_true (by omega)
    clear c4
    have H' := Aside0.mk H
    clear H
    go_wp2
    repeat (go_quiet (fail); try go_wp2)
    go_meet
    case rel => exact ⟨_, (true), q26, H', ⟨by first | omega | exact Nat.le_refl _⟩, ⟨q0⟩⟩
   ·
    rw [if_neg c4] at H
    have c4b0 : decide (24 < (l0.length : Int)) = false := decide_eq_false c4
    have c4b1 : decide (24 < l0.length) = false := decide_eq_false (by omega)
    clear c4
    by_cases c5 : 0 < (l0.length : Int)
    ·
     rw [if_pos c5] at H
     have c5b0 : decide (0 < (l0.length : Int)) = true := decide_eq_true c5
     have c5b1 : decide (0 < l0.length) = true := decide_eq_true (by omega)
     clear c5
     have H' := Aside0.mk H
     clear H
     have p108 : 0 ≤ (0 : Int) := (by omega)
     have q108 : 0 < (l0.length : Int) := of_decide_eq_true q6
     obtain ⟨ad108, e108, hx108_0, hx108_1⟩ := at_T58 HR0.out 0 p108 q108
     cases e108
     have qi108 : (0 < l0.length) = True := eq_true (by omega)
     (try rw [show ((0 : Int)).toNat = 0 from rfl] at hx108_0)
     (try rw [show 0 * 2 = 0 from rfl] at hx108_0)
     (try rw [Addr.add_zero'] at hx108_0)
     (try rw [show ((0 : Int)).toNat = 0 from rfl] at hx108_1)
     (try rw [show 0 * 2 = 0 from rfl] at hx108_1)
     (try rw [Addr.add_zero'] at hx108_1)
     replace hx108_0 := (HB.out.cell (World.block_lt_of_cell? w _ hx108_0)).trans hx108_0
     replace hx108_1 := (HB.out.cell (World.block_lt_of_cell? w _ hx108_1)).trans hx108_1
     replace p108 := eq_true p108
     replace q108 := eq_true q108
     go_wp2
     repeat (go_quiet (fail); try go_wp2)
     go_meet
     case rel => exact ⟨_, ((((rd_T58 l0 0).f0) != 0)), q26, H', ⟨by first | omega | exact Nat.le_refl _⟩, ⟨q0⟩⟩
    ·
     rw [if_neg c5] at H
     exact absurd H (by simp)
 case rest =>
  clear HC2
  try clear p1
  try clear q1
  try clear hx1
  try clear qi1
  try clear p2
  try clear c3
  try clear c3b0
  try clear c3b1
  try clear c3b2
  try clear c4
  try clear c4b0
  try clear c4b1
  try clear c5
  try clear c5b0
  try clear c5b1
  try clear hx108_0
  try clear hx108_1
  try clear p108
  try clear q108
  obtain ⟨kq, x19_1, rfl, HA, HJ1, HB⟩ := hcut
  cases kq with
  | zero => exact absurd HA.out (by simp [bracket_Valid.j0])
  | succ kj1 =>
   have H := HA.out
   clear HA
   simp only [bracket_Valid.j0] at H
   by_cases c6 : x19_1 = true
   ·
    subst c6
    rw [if_pos rfl] at H
    obtain rfl := Option.some.inj H
    go_wp2
    repeat (go_quiet (fail); try go_wp2)
    go_ret
    exact ⟨by first | rfl | (simp [errW_none, errW_some] <;> rfl) | (simp [*, errW_none, errW_some] <;> rfl), q0⟩
   ·
    replace c6 := Bool.eq_false_iff.mpr c6
    subst c6
    rw [if_neg (show ¬ (false = true) by decide)] at H
    have H' := Aside0.mk H
    clear H
    go_wp2
    repeat (go_quiet (fail); try go_wp2)
    go_loopg [22] kj1 (fun kq v22 w' => ∃ (x22_2 : Int), v22 = .int .i64 x22_2 ∧ Aside0 (bracket_Valid.l0 kq l0 l0 (l0.length : Int) x22_2 = some r) ∧ Aside0 (kq ≤ kj1) ∧ Aside0 (Below w.heap.size w w'))
    case atStart => exact ⟨(0), q26, H', ⟨Nat.le_refl _⟩, ⟨q0⟩⟩
    case round =>
     clear H'
     try clear p1
     try clear q1
     try clear hx1
     try clear qi1
     try clear p2
     try clear c3
     try clear c3b0
     try clear c3b1
     try clear c3b2
     try clear c4
     try clear c4b0
     try clear c4b1
     try clear c5
     try clear c5b0
     try clear c5b1
     try clear c6
     try clear hx108_0
     try clear hx108_1
     try clear p1
     try clear p108
     try clear p2
     try clear q1
     try clear q108
     obtain ⟨x22_2, rfl, HA, HK2, HB⟩ := hrel
     cases gk with
     | zero => exact absurd HA.out (by simp [bracket_Valid.l0])
     | succ k2 =>
      have H := HA.out
      clear HA
      simp only [bracket_Valid.l0] at H
      by_cases c7 : x22_2 < (l0.length : Int)
      ·
       rw [if_pos c7] at H
       have c7b0 : decide (x22_2 < (l0.length : Int)) = true := decide_eq_true c7
       clear c7
       by_cases c8 : 0 ≤ x22_2
       ·
        rw [if_pos c8] at H
        have c8b0 : decide (0 ≤ x22_2) = true := decide_eq_true c8
        clear c8
        by_cases c9 : x22_2 < (l0.length : Int)
        ·
         rw [if_pos c9] at H
         have c9b0 : decide (x22_2 < (l0.length : Int)) = true := decide_eq_true c9
         clear c9
         by_cases c10 : x22_2 > 0
         ·
          rw [if_pos c10] at H
          have c10b0 : decide (0 < x22_2) = true := decide_eq_true c10
          clear c10
          obtain ⟨ji11, hji11⟩ : ∃ j_ : Int, (wrap64 (x22_2 - 1)) = j_ := ⟨_, rfl⟩
          replace H : (if 0 ≤ (ji11) then (if (ji11) < (l0.length : Int) then (if ((rd_T58 l0 (ji11)).f0) ≥ ((rd_T58 l0 x22_2).f0) then (some false) else (if ((rd_T58 l0 x22_2).f0) > 1000000000000 then (some false) else (if ((rd_T58 l0 x22_2).f1) < 0 then (some false) else (if ((rd_T58 l0 x22_2).f1) > 1000000 then (some false) else (bracket_Valid.l0 k2 l0 l0 (l0.length : Int) (wrap64 (x22_2 + 1))))))) else (none)) else (none)) = some r := by first | (rw [hji11] at H; exact H) | (simp only [hji11] at H ⊢; exact H)
          have hji11w : (IntKind.i64.wrap (x22_2 - 1)) = ji11 := (i64_w _).trans hji11
          by_cases c12 : 0 ≤ (ji11)
          ·
           rw [if_pos c12] at H
           have c12b0 : decide (0 ≤ (ji11)) = true := decide_eq_true c12
           clear c12
           by_cases c13 : (ji11) < (l0.length : Int)
           ·
            rw [if_pos c13] at H
            have c13b0 : decide ((ji11) < (l0.length : Int)) = true := decide_eq_true c13
            clear c13
            by_cases c14 : ((rd_T58 l0 (ji11)).f0) ≥ ((rd_T58 l0 x22_2).f0)
            ·
             rw [if_pos c14] at H
             have c14b0 : decide (((rd_T58 l0 x22_2).f0) ≤ ((rd_T58 l0 (ji11)).f0)) = true := decide_eq_true c14
             clear c14
             obtain rfl := Option.some.inj H
             have p109 : 0 ≤ (x22_2 : Int) := of_decide_eq_true q6
             have q109 : x22_2 < (l0.length : Int) := of_decide_eq_true q6
             obtain ⟨ad109, e109, hx109_0, hx109_1⟩ := at_T58 HR0.out x22_2 p109 q109
             cases e109
             replace hx109_0 := (HB.out.cell (World.block_lt_of_cell? w _ hx109_0)).trans hx109_0
             replace hx109_1 := (HB.out.cell (World.block_lt_of_cell? w _ hx109_1)).trans hx109_1
             replace p109 := eq_true p109
             replace q109 := eq_true q109
             exact q9
            ·
             rw [if_neg c14] at H
             have c14b0 : decide (((rd_T58 l0 x22_2).f0) ≤ ((rd_T58 l0 (ji11)).f0)) = false := decide_eq_false c14
             clear c14
             by_cases c17 : ((rd_T58 l0 x22_2).f0) > 1000000000000
             ·
              rw [if_pos c17] at H
              have c17b0 : decide (1000000000000 < ((rd_T58 l0 x22_2).f0)) = true := decide_eq_true c17
              clear c17
              obtain rfl := Option.some.inj H
              have p109 : 0 ≤ (x22_2 : Int) := of_decide_eq_true q6
              have q109 : x22_2 < (l0.length : Int) := of_decide_eq_true q6
              obtain ⟨ad109, e109, hx109_0, hx109_1⟩ := at_T58 HR0.out x22_2 p109 q109
              cases e109
              replace hx109_0 := (HB.out.cell (World.block_lt_of_cell? w _ hx109_0)).trans hx109_0
              replace hx109_1 := (HB.out.cell (World.block_lt_of_cell? w _ hx109_1)).trans hx109_1
              replace p109 := eq_true p109
              replace q109 := eq_true q109
              exact q9
             ·
              rw [if_neg c17] at H
              have c17b0 : decide (1000000000000 < ((rd_T58 l0 x22_2).f0)) = false := decide_eq_false c17
              clear c17
              by_cases c20 : ((rd_T58 l0 x22_2).f1) < 0
              ·
               rw [if_pos c20] at H
               have c20b0 : decide (((rd_T58 l0 x22_2).f1) < 0) = true := decide_eq_true c20
               clear c20
               obtain rfl := Option.some.inj H
               have p109 : 0 ≤ (x22_2 : Int) := of_decide_eq_true q6
               have q109 : x22_2 < (l0.length : Int) := of_decide_eq_true q6
               obtain ⟨ad109, e109, hx109_0, hx109_1⟩ := at_T58 HR0.out x22_2 p109 q109
               cases e109
               replace hx109_0 := (HB.out.cell (World.block_lt_of_cell? w _ hx109_0)).trans hx109_0
               replace hx109_1 := (HB.out.cell (World.block_lt_of_cell? w _ hx109_1)).trans hx109_1
               replace p109 := eq_true p109
               replace q109 := eq_true q109
               exact q9
              ·
               rw [if_neg c20] at H
               have c20b0 : decide (((rd_T58 l0 x22_2).f1) < 0) = false := decide_eq_false c20
               clear c20
               by_cases c23 : ((rd_T58 l0 x22_2).f1) > 1000000
               ·
                rw [if_pos c23] at H
                have c23b0 : decide (1000000 < ((rd_T58 l0 x22_2).f1)) = true := decide_eq_true c23
                clear c23
                obtain rfl := Option.some.inj H
                have p109 : 0 ≤ (x22_2 : Int) := of_decide_eq_true q6
                have q109 : x22_2 < (l0.length : Int) := of_decide_eq_true q6
                obtain ⟨ad109, e109, hx109_0, hx109_1⟩ := at_T58 HR0.out x22_2 p109 q109
                cases e109
                replace hx109_0 := (HB.out.cell (World.block_lt_of_cell? w _ hx109_0)).trans hx109_0
                replace hx109_1 := (HB.out.cell (World.block_lt_of_cell? w _ hx109_1)).trans hx109_1
                replace p109 := eq_true p109
                replace q109 := eq_true q109
                exact q9
               ·
                rw [if_neg c23] at H
                have c23b0 : decide (1000000 < ((rd_T58 l0 x22_2).f1)) = false := decide_eq_false c23
                clear c23
                have H' := Aside0.mk H
                clear H
                have p109 : 0 ≤ (x22_2 : Int) := of_decide_eq_true q6
                have q109 : x22_2 < (l0.length : Int) := of_decide_eq_true q6
                obtain ⟨ad109, e109, hx109_0, hx109_1⟩ := at_T58 HR0.out x22_2 p109 q109
                cases e109
                replace hx109_0 := (HB.out.cell (World.block_lt_of_cell? w _ hx109_0)).trans hx109_0
                replace hx109_1 := (HB.out.cell (World.block_lt_of_cell? w _ hx109_1)).trans hx109_1
                replace p109 := eq_true p109
                replace q109 := eq_true q109
                go_wp2_with (first | ((with_reducible refine gate_dst (N := 4) rfl ?_); (try (refine gate_guard (by rfl) ?_; dsimp only)); refine box_event ?hg (N := 4) ?hd (cs := #[.int .i64 0, .int .i64 0]) (t := 58) ?hr ?_; (case hd => rfl); (case hg => rfl); (case hr => first | (go_simp; done) | (go_simp; rfl)); intro gb110 hg w26 hbox hb; have n0_ := Aside0.mk (below_step q0 hb); have n1_ := Aside0.mk (hbox); have n2_ := Aside0.mk ((by rw [hg]; exact (below_size q0) : w.heap.size ≤ gb110)); have n3_ := Aside0.mk ((by rw [hg]; exact (below_size q0) : w.heap.size ≤ gb110)); clear HB; have HB := n0_; have BK110 := n1_; have GW110 := n2_; have GE110 := n3_; clear n0_ n1_ n2_ n3_; clear hb hbox hg; obtain ⟨hcz27_0, hcz27_1, hfz27_0, hfz27_1⟩ := blk2 BK110.out; have p111 : 0 ≤ ((ji11) : Int) := of_decide_eq_true q6; have q111 : (ji11) < (l0.length : Int) := of_decide_eq_true q6; obtain ⟨ad111, e111, hx111_0, hx111_1⟩ := at_T58 HR0.out (ji11) p111 q111; obtain rfl : ad109 = ad111 := (by injection e111); have hn111_0 : ad109.block ≠ gb110 := Nat.ne_of_lt (Nat.lt_of_lt_of_le (by have := World.block_lt_of_cell? _ _ hx111_0; first | rwa [add_block] at this | exact this) GW110.out); have hn111_1 : ad109.block ≠ gb110 := Nat.ne_of_lt (Nat.lt_of_lt_of_le (by have := World.block_lt_of_cell? _ _ hx111_0; first | rwa [add_block] at this | exact this) GW110.out); replace hx111_0 := (HB.out.cell (World.block_lt_of_cell? w _ hx111_0)).trans hx111_0; replace hx111_1 := (HB.out.cell (World.block_lt_of_cell? w _ hx111_1)).trans hx111_1; replace hx111_0 := (cell_far (p := ⟨gb110, 0, none⟩) (by first | (rw [add_block]; exact hn111_0) | (show (Addr.add _ _).block ≠ _; rw [add_block]; exact hn111_0) | exact hn111_0) (.int .i64 ((rd_T58 l0 x22_2).f0))).trans hx111_0; replace hx111_1 := (cell_far (p := ⟨gb110, 0, none⟩) (by first | (rw [add_block]; exact hn111_0) | (show (Addr.add _ _).block ≠ _; rw [add_block]; exact hn111_0) | exact hn111_0) (.int .i64 ((rd_T58 l0 x22_2).f0))).trans hx111_1; replace hx111_0 := (cell_far (p := ⟨gb110, 1, none⟩) (by first | (rw [add_block]; exact hn111_1) | (show (Addr.add _ _).block ≠ _; rw [add_block]; exact hn111_1) | exact hn111_1) (.int .i64 ((rd_T58 l0 x22_2).f1))).trans hx111_0; replace hx111_1 := (cell_far (p := ⟨gb110, 1, none⟩) (by first | (rw [add_block]; exact hn111_1) | (show (Addr.add _ _).block ≠ _; rw [add_block]; exact hn111_1) | exact hn111_1) (.int .i64 ((rd_T58 l0 x22_2).f1))).trans hx111_1; (try have hy111_0 := fun (n_ : Nat) => (show ((((w26.drewN n_).setCell ⟨gb110, 0, none⟩ (.int .i64 ((rd_T58 l0 x22_2).f0))).setCell ⟨gb110, 1, none⟩ (.int .i64 ((rd_T58 l0 x22_2).f1)))).cell? _ = some _ from hx111_0)); (try have hy111_1 := fun (n_ : Nat) => (show ((((w26.drewN n_).setCell ⟨gb110, 0, none⟩ (.int .i64 ((rd_T58 l0 x22_2).f0))).setCell ⟨gb110, 1, none⟩ (.int .i64 ((rd_T58 l0 x22_2).f1)))).cell? _ = some _ from hx111_1)); clear hn111_0; clear hn111_1; replace p111 := eq_true p111; replace q111 := eq_true q111))
                repeat (go_quiet (first | fail); try go_wp2_with (first | fail))
                go_roundg k2
                case measure => have := HJ1.out; have := HK2.out; omega
                case rel => exact ⟨(wrap64 (x22_2 + 1)), q26, H', ⟨by have := HJ1.out; have := HK2.out; omega⟩, ⟨q145⟩⟩
           ·
            rw [if_neg c13] at H
            exact absurd H (by simp)
          ·
           rw [if_neg c12] at H
           exact absurd H (by simp)
         ·
          rw [if_neg c10] at H
          have c10b0 : decide (0 < x22_2) = false := decide_eq_false c10
          clear c10
          by_cases c28 : ((rd_T58 l0 x22_2).f0) > 1000000000000
          ·
           rw [if_pos c28] at H
           have c28b0 : decide (1000000000000 < ((rd_T58 l0 x22_2).f0)) = true := decide_eq_true c28
           clear c28
           obtain rfl := Option.some.inj H
           have p109 : 0 ≤ (x22_2 : Int) := of_decide_eq_true q6
           have q109 : x22_2 < (l0.length : Int) := of_decide_eq_true q6
           obtain ⟨ad109, e109, hx109_0, hx109_1⟩ := at_T58 HR0.out x22_2 p109 q109
           cases e109
           replace hx109_0 := (HB.out.cell (World.block_lt_of_cell? w _ hx109_0)).trans hx109_0
           replace hx109_1 := (HB.out.cell (World.block_lt_of_cell? w _ hx109_1)).trans hx109_1
           replace p109 := eq_true p109
           replace q109 := eq_true q109
           exact q53
          ·
           rw [if_neg c28] at H
           have c28b0 : decide (1000000000000 < ((rd_T58 l0 x22_2).f0)) = false := decide_eq_false c28
           clear c28
           by_cases c31 : ((rd_T58 l0 x22_2).f1) < 0
           ·
            rw [if_pos c31] at H
            have c31b0 : decide (((rd_T58 l0 x22_2).f1) < 0) = true := decide_eq_true c31
            clear c31
            obtain rfl := Option.some.inj H
            have p109 : 0 ≤ (x22_2 : Int) := of_decide_eq_true q6
            have q109 : x22_2 < (l0.length : Int) := of_decide_eq_true q6
            obtain ⟨ad109, e109, hx109_0, hx109_1⟩ := at_T58 HR0.out x22_2 p109 q109
            cases e109
            replace hx109_0 := (HB.out.cell (World.block_lt_of_cell? w _ hx109_0)).trans hx109_0
            replace hx109_1 := (HB.out.cell (World.block_lt_of_cell? w _ hx109_1)).trans hx109_1
            replace p109 := eq_true p109
            replace q109 := eq_true q109
            exact q53
           ·
            rw [if_neg c31] at H
            have c31b0 : decide (((rd_T58 l0 x22_2).f1) < 0) = false := decide_eq_false c31
            clear c31
            by_cases c34 : ((rd_T58 l0 x22_2).f1) > 1000000
            ·
             rw [if_pos c34] at H
             have c34b0 : decide (1000000 < ((rd_T58 l0 x22_2).f1)) = true := decide_eq_true c34
             clear c34
             obtain rfl := Option.some.inj H
             have p109 : 0 ≤ (x22_2 : Int) := of_decide_eq_true q6
             have q109 : x22_2 < (l0.length : Int) := of_decide_eq_true q6
             obtain ⟨ad109, e109, hx109_0, hx109_1⟩ := at_T58 HR0.out x22_2 p109 q109
             cases e109
             replace hx109_0 := (HB.out.cell (World.block_lt_of_cell? w _ hx109_0)).trans hx109_0
             replace hx109_1 := (HB.out.cell (World.block_lt_of_cell? w _ hx109_1)).trans hx109_1
             replace p109 := eq_true p109
             replace q109 := eq_true q109
             exact q53
            ·
             rw [if_neg c34] at H
             have c34b0 : decide (1000000 < ((rd_T58 l0 x22_2).f1)) = false := decide_eq_false c34
             clear c34
             have H' := Aside0.mk H
             clear H
             have p109 : 0 ≤ (x22_2 : Int) := of_decide_eq_true q6
             have q109 : x22_2 < (l0.length : Int) := of_decide_eq_true q6
             obtain ⟨ad109, e109, hx109_0, hx109_1⟩ := at_T58 HR0.out x22_2 p109 q109
             cases e109
             replace hx109_0 := (HB.out.cell (World.block_lt_of_cell? w _ hx109_0)).trans hx109_0
             replace hx109_1 := (HB.out.cell (World.block_lt_of_cell? w _ hx109_1)).trans hx109_1
             replace p109 := eq_true p109
             replace q109 := eq_true q109
             go_wp2_with (first | ((with_reducible refine gate_dst (N := 4) rfl ?_); (try (refine gate_guard (by rfl) ?_; dsimp only)); refine box_event ?hg (N := 4) ?hd (cs := #[.int .i64 0, .int .i64 0]) (t := 58) ?hr ?_; (case hd => rfl); (case hg => rfl); (case hr => first | (go_simp; done) | (go_simp; rfl)); intro gb110 hg w37 hbox hb; have n0_ := Aside0.mk (below_step q0 hb); have n1_ := Aside0.mk (hbox); have n2_ := Aside0.mk ((by rw [hg]; exact (below_size q0) : w.heap.size ≤ gb110)); have n3_ := Aside0.mk ((by rw [hg]; exact (below_size q0) : w.heap.size ≤ gb110)); clear HB; have HB := n0_; have BK110 := n1_; have GW110 := n2_; have GE110 := n3_; clear n0_ n1_ n2_ n3_; clear hb hbox hg; obtain ⟨hcz38_0, hcz38_1, hfz38_0, hfz38_1⟩ := blk2 BK110.out))
             repeat (go_quiet (first | fail); try go_wp2_with (first | fail))
             go_roundg k2
             case measure => have := HJ1.out; have := HK2.out; omega
             case rel => exact ⟨(wrap64 (x22_2 + 1)), q26, H', ⟨by have := HJ1.out; have := HK2.out; omega⟩, ⟨q145⟩⟩
        ·
         rw [if_neg c9] at H
         exact absurd H (by simp)
       ·
        rw [if_neg c8] at H
        exact absurd H (by simp)
      ·
       rw [if_neg c7] at H
       have c7b0 : decide (x22_2 < (l0.length : Int)) = false := decide_eq_false c7
       clear c7
       obtain rfl := Option.some.inj H
       go_wp2
       repeat (go_quiet (fail); try go_wp2)
       go_ret
       exact ⟨by first | rfl | (simp [errW_none, errW_some] <;> rfl) | (simp [*, errW_none, errW_some] <;> rfl), q0⟩

end Go.Proofs.Ytbacfajhgmnjpaa.P
