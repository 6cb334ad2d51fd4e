/- Proved here: that the Go function payrollref30_Valid computes the plain function of that name (the machine side of the laws, reworked from a print; no condition of its own). -/
import Derived.Test.YtbacfajhgmnjpaaProg
import Derived.Test.YtbacfajhgmnjpaaV1
import Derived.Test.YtbacfajhgmnjpaaV2
import Derived.Test.YtbacfajhgmnjpaaFPRE
import Derived.Test.YtbacfajhgmnjpaaFref
import Derived.Test.YtbacfajhgmnjpaaFpayrollref29Valid
import Derived.Test.YtbacfajhgmnjpaaFpayrollref30Table
namespace Go.Proofs.Ytbacfajhgmnjpaa.P
open Go.RowKit Go.Proofs.YtbacfajhgmnjpaaW.PrintWords Go.Proofs.YtbacfajhgmnjpaaW.PrintLast Go.Proofs.YtbacfajhgmnjpaaW.PrintMore
attribute [local go_sem] max2_int min2_int max_two min_two max_three min_three max_four min_four   -- for this text's walks alone
set_option linter.unusedVariables false
set_option linter.unusedSimpArgs false

def payrollref30_Valid.j0 : Nat → Bool → Int → List (S58) → Int → Int → Int → Int → List (S80) → Option (Bool)
 | 0, _, _, _, _, _, _, _, _ => none
 | k + 1, x44, x408000, x408001, x408002, x408003, x408004, x408005, x408006 => if x44 = true then (some false) else (if x408000 = 1 then ((payrollref30_Table.f k x408006).bind fun t412 => (some t412)) else (some ((x408006.length : Int) == 0)))
def payrollref30_Valid.f (k : Nat) (a0_0 : Int) (l0_1 : List (S58)) (a0_2 : Int) (a0_3 : Int) (a0_4 : Int) (a0_5 : Int) (l0_6 : List (S80)) : Option (Bool) := if a0_0 < 1 then (payrollref30_Valid.j0 k true a0_0 l0_1 a0_2 a0_3 a0_4 a0_5 l0_6) else (if a0_0 > 3 then (payrollref30_Valid.j0 k true a0_0 l0_1 a0_2 a0_3 a0_4 a0_5 l0_6) else ((payrollref29_Valid.f k l0_1).bind fun t408 => (if t408 = true then ((payrollref30_in.f a0_2 1000000000).bind fun t409 => (if t409 = true then ((payrollref30_in.f a0_3 1000000000).bind fun t410 => (if t410 = true then (if a0_4 < 1 then (payrollref30_Valid.j0 k true a0_0 l0_1 a0_2 a0_3 a0_4 a0_5 l0_6) else (if a0_4 > 100 then (payrollref30_Valid.j0 k true a0_0 l0_1 a0_2 a0_3 a0_4 a0_5 l0_6) else ((payrollref2_Mode.f a0_5).bind fun t411 => (payrollref30_Valid.j0 k (!t411) a0_0 l0_1 a0_2 a0_3 a0_4 a0_5 l0_6)))) else (payrollref30_Valid.j0 k true a0_0 l0_1 a0_2 a0_3 a0_4 a0_5 l0_6))) else (payrollref30_Valid.j0 k true a0_0 l0_1 a0_2 a0_3 a0_4 a0_5 l0_6))) else (payrollref30_Valid.j0 k true a0_0 l0_1 a0_2 a0_3 a0_4 a0_5 l0_6))))
set_option maxHeartbeats 8000000 in
set_option maxRecDepth 100000 in
theorem payrollref30_Valid.calls (k : Nat) (a0_0 : Int) (A0_1 : Option Addr) (c0_1 : Nat) (l0_1 : List (S58)) (a0_2 : Int) (a0_3 : Int) (a0_4 : Int) (a0_5 : Int) (A0_6 : Option Addr) (c0_6 : Nat) (l0_6 : List (S80)) (r : Bool) (w : World) (hr0_1 : Kd.C k58 w A0_1 l0_1.length l0_1) (hc0_1 : l0_1.length ≤ c0_1) (hr0_6 : Kd.C k80 w A0_6 l0_6.length l0_6) (hc0_6 : l0_6.length ≤ c0_6) (h : payrollref30_Valid.f k a0_0 l0_1 a0_2 a0_3 a0_4 a0_5 l0_6 = some r) :
  Calls Try.prog 46 #[.agg #[.int .i64 a0_0, .slice A0_1 l0_1.length c0_1, .int .i64 a0_2, .int .i64 a0_3, .int .i64 a0_4, .int .i64 a0_5, .slice A0_6 l0_6.length c0_6]] w fun e w' => e = .returned (.bool r) ∧ Below w.heap.size w w' := by
 have hu33 := Try.underlying33
 have HR0_1 := Aside0.mk hr0_1
 have HC0_1 := Aside0.mk hc0_1
 clear hr0_1 hc0_1
 have HR0_6 := Aside0.mk hr0_6
 have HC0_6 := Aside0.mk hc0_6
 clear hr0_6 hc0_6
 have HB := Aside0.mk (Below.refl w.heap.size w)
 have H : (if a0_0 < 1 then (payrollref30_Valid.j0 k true a0_0 l0_1 a0_2 a0_3 a0_4 a0_5 l0_6) else (if a0_0 > 3 then (payrollref30_Valid.j0 k true a0_0 l0_1 a0_2 a0_3 a0_4 a0_5 l0_6) else ((payrollref29_Valid.f k l0_1).bind fun t408 => (if t408 = true then ((payrollref30_in.f a0_2 1000000000).bind fun t409 => (if t409 = true then ((payrollref30_in.f a0_3 1000000000).bind fun t410 => (if t410 = true then (if a0_4 < 1 then (payrollref30_Valid.j0 k true a0_0 l0_1 a0_2 a0_3 a0_4 a0_5 l0_6) else (if a0_4 > 100 then (payrollref30_Valid.j0 k true a0_0 l0_1 a0_2 a0_3 a0_4 a0_5 l0_6) else ((payrollref2_Mode.f a0_5).bind fun t411 => (payrollref30_Valid.j0 k (!t411) a0_0 l0_1 a0_2 a0_3 a0_4 a0_5 l0_6)))) else (payrollref30_Valid.j0 k true a0_0 l0_1 a0_2 a0_3 a0_4 a0_5 l0_6))) else (payrollref30_Valid.j0 k true a0_0 l0_1 a0_2 a0_3 a0_4 a0_5 l0_6))) else (payrollref30_Valid.j0 k true a0_0 l0_1 a0_2 a0_3 a0_4 a0_5 l0_6))))) = some r := h
 clear h
 have HC2 := Aside0.mk H
 clear H
 go_enter Try.func46, Try.ntmps46
 go_upto_region 1 with (first | ((with_reducible refine gate_dst (N := 1) rfl ?_); refine box_event ?hg (N := 1) ?hd (cs := #[.int .i64 a0_0, .slice A0_1 l0_1.length c0_1, .int .i64 a0_2, .int .i64 a0_3, .int .i64 a0_4, .int .i64 a0_5, .slice A0_6 l0_6.length c0_6]) (t := 33) ?hr ?_; (case hd => rfl); (case hg => rfl); (case hr => first | (go_simp; done) | (go_simp; rfl)); intro gb407 hg w3 hbox hb; have n0_ := Aside0.mk (below_step q0 hb); have n1_ := Aside0.mk (hbox); have n2_ := Aside0.mk ((by rw [hg]; exact (below_size q0) : w.heap.size ≤ gb407)); have n3_ := Aside0.mk ((by rw [hg]; exact (below_size q0) : w.heap.size ≤ gb407)); clear HB; have HB := n0_; have BK407 := n1_; have GW407 := n2_; have GE407 := n3_; clear n0_ n1_ n2_ n3_; clear hb hbox hg))
 (try simp only [Act.put, List.setIfInBounds_toArray, List.set_cons_zero, List.set_cons_succ])
 go_cut [44] (fun v44 wc => ∃ (kq : Nat) (x44_1 : Bool), v44 = .bool x44_1 ∧ Aside0 (payrollref30_Valid.j0 kq x44_1 a0_0 l0_1 a0_2 a0_3 a0_4 a0_5 l0_6 = some r) ∧ Aside0 (kq ≤ k) ∧ Aside0 (wc.heap[gb407]? = some (.cells #[.int .i64 a0_0, (.slice A0_1 l0_1.length c0_1), .int .i64 a0_2, .int .i64 a0_3, .int .i64 a0_4, .int .i64 a0_5, (.slice A0_6 l0_6.length c0_6)] 33 (0, 0))) ∧ Aside0 (Below w.heap.size w wc))
 case first =>
  have H := HC2.out
  clear HC2
  by_cases c4 : a0_0 < 1
  ·
   rw [if_pos c4] at H
   have c4b0 : decide (a0_0 < 1) = true := decide_eq_true c4
   clear c4
   (first | rw [c4b0] | (simp only [i64_w, i32_w]; rw [c4b0]) | skip)
   have H' := Aside0.mk H
   clear H
   obtain ⟨hcz5_0, hcz5_1, hcz5_2, hcz5_3, hcz5_4, hcz5_5, hcz5_6, hfz5_0, hfz5_1, hfz5_2, hfz5_3, hfz5_4, hfz5_5, hfz5_6⟩ := blk7 BK407.out
   go_wp2
   go_meet
   case rel => exact ⟨_, (true), q26, H', ⟨by first | omega | exact Nat.le_refl _⟩, ⟨q118⟩, ⟨q72⟩⟩
  ·
   rw [if_neg c4] at H
   have c4b0 : decide (a0_0 < 1) = false := decide_eq_false c4
   clear c4
   (first | rw [c4b0] | (simp only [i64_w, i32_w]; rw [c4b0]) | skip)
   by_cases c6 : a0_0 > 3
   ·
    rw [if_pos c6] at H
    have c6b0 : decide (3 < a0_0) = true := decide_eq_true c6
    clear c6
    have H' := Aside0.mk H
    clear H
    obtain ⟨hcz7_0, hcz7_1, hcz7_2, hcz7_3, hcz7_4, hcz7_5, hcz7_6, hfz7_0, hfz7_1, hfz7_2, hfz7_3, hfz7_4, hfz7_5, hfz7_6⟩ := blk7 BK407.out
    go_wp2
    go_meet
    case rel => exact ⟨_, (true), q26, H', ⟨by first | omega | exact Nat.le_refl _⟩, ⟨q118⟩, ⟨q72⟩⟩
   ·
    rw [if_neg c6] at H
    have c6b0 : decide (3 < a0_0) = false := decide_eq_false c6
    clear c6
    replace H := Option.bind_eq_some_iff.mp H
    obtain ⟨t408, A80, H⟩ := H
    try dsimp only at H
    have A8 := Aside0.mk A80
    clear A80
    by_cases c9 : t408 = true
    ·
     subst c9
     rw [if_pos rfl] at H
     replace H := Option.bind_eq_some_iff.mp H
     obtain ⟨t409, A100, H⟩ := H
     try dsimp only at H
     have A10 := Aside0.mk A100
     clear A100
     by_cases c11 : t409 = true
     ·
      subst c11
      rw [if_pos rfl] at H
      replace H := Option.bind_eq_some_iff.mp H
      obtain ⟨t410, A120, H⟩ := H
      try dsimp only at H
      have A12 := Aside0.mk A120
      clear A120
      by_cases c13 : t410 = true
      ·
       subst c13
       rw [if_pos rfl] at H
       by_cases c14 : a0_4 < 1
       ·
        rw [if_pos c14] at H
        have c14b0 : decide (a0_4 < 1) = true := decide_eq_true c14
        clear c14
        have H' := Aside0.mk H
        clear H
        obtain ⟨hcz15_0, hcz15_1, hcz15_2, hcz15_3, hcz15_4, hcz15_5, hcz15_6, hfz15_0, hfz15_1, hfz15_2, hfz15_3, hfz15_4, hfz15_5, hfz15_6⟩ := blk7 BK407.out
        go_wp2_with (first | (go_at_call 58; (with_reducible refine (payrollref29_Valid.calls k _ _ l0_1 true _ ?side1 ?side2 A8.out).mono ?_); (case side1 => exact q12); (case side2 => exact HC0_1.out); rintro e w' ⟨rfl, ⟨nd, rfl⟩⟩) | (go_at_call 47; (with_reducible refine (payrollref30_in.calls a0_2 1000000000 true _ A10.out).mono ?_); rintro e w' ⟨rfl, ⟨nd, rfl⟩⟩) | (go_at_call 47; (with_reducible refine (payrollref30_in.calls a0_3 1000000000 true _ A12.out).mono ?_); rintro e w' ⟨rfl, ⟨nd, rfl⟩⟩))
        go_meet
        case rel => exact ⟨_, (true), q26, H', ⟨by first | omega | exact Nat.le_refl _⟩, ⟨q118⟩, ⟨q72⟩⟩
       ·
        rw [if_neg c14] at H
        have c14b0 : decide (a0_4 < 1) = false := decide_eq_false c14
        clear c14
        by_cases c16 : a0_4 > 100
        ·
         rw [if_pos c16] at H
         have c16b0 : decide (100 < a0_4) = true := decide_eq_true c16
         clear c16
         have H' := Aside0.mk H
         clear H
         obtain ⟨hcz17_0, hcz17_1, hcz17_2, hcz17_3, hcz17_4, hcz17_5, hcz17_6, hfz17_0, hfz17_1, hfz17_2, hfz17_3, hfz17_4, hfz17_5, hfz17_6⟩ := blk7 BK407.out
         go_wp2_with (first | (go_at_call 58; (with_reducible refine (payrollref29_Valid.calls k _ _ l0_1 true _ ?side1 ?side2 A8.out).mono ?_); (case side1 => exact q12); (case side2 => exact HC0_1.out); rintro e w' ⟨rfl, ⟨nd, rfl⟩⟩) | (go_at_call 47; (with_reducible refine (payrollref30_in.calls a0_2 1000000000 true _ A10.out).mono ?_); rintro e w' ⟨rfl, ⟨nd, rfl⟩⟩) | (go_at_call 47; (with_reducible refine (payrollref30_in.calls a0_3 1000000000 true _ A12.out).mono ?_); rintro e w' ⟨rfl, ⟨nd, rfl⟩⟩))
         go_meet
         case rel => exact ⟨_, (true), q26, H', ⟨by first | omega | exact Nat.le_refl _⟩, ⟨q118⟩, ⟨q72⟩⟩
        ·
         rw [if_neg c16] at H
         have c16b0 : decide (100 < a0_4) = false := decide_eq_false c16
         clear c16
         replace H := Option.bind_eq_some_iff.mp H
         obtain ⟨t411, A180, H⟩ := H
         try dsimp only at H
         have A18 := Aside0.mk A180
         clear A180
         have H' := Aside0.mk H
         clear H
         obtain ⟨hcz19_0, hcz19_1, hcz19_2, hcz19_3, hcz19_4, hcz19_5, hcz19_6, hfz19_0, hfz19_1, hfz19_2, hfz19_3, hfz19_4, hfz19_5, hfz19_6⟩ := blk7 BK407.out
         go_wp2_with (first | (go_at_call 58; (with_reducible refine (payrollref29_Valid.calls k _ _ l0_1 true _ ?side1 ?side2 A8.out).mono ?_); (case side1 => exact q12); (case side2 => exact HC0_1.out); rintro e w' ⟨rfl, ⟨nd, rfl⟩⟩) | (go_at_call 47; (with_reducible refine (payrollref30_in.calls a0_2 1000000000 true _ A10.out).mono ?_); rintro e w' ⟨rfl, ⟨nd, rfl⟩⟩) | (go_at_call 47; (with_reducible refine (payrollref30_in.calls a0_3 1000000000 true _ A12.out).mono ?_); rintro e w' ⟨rfl, ⟨nd, rfl⟩⟩) | (go_at_call 59; (with_reducible refine (payrollref2_Mode.calls a0_5 t411 _ A18.out).mono ?_); rintro e w' ⟨rfl, ⟨nd, rfl⟩⟩))
         go_meet
         case rel => exact ⟨_, (!t411), q26, H', ⟨by first | omega | exact Nat.le_refl _⟩, ⟨q118⟩, ⟨q72⟩⟩
      ·
       replace c13 := Bool.eq_false_iff.mpr c13
       subst c13
       rw [if_neg (show ¬ (false = true) by decide)] at H
       have H' := Aside0.mk H
       clear H
       obtain ⟨hcz20_0, hcz20_1, hcz20_2, hcz20_3, hcz20_4, hcz20_5, hcz20_6, hfz20_0, hfz20_1, hfz20_2, hfz20_3, hfz20_4, hfz20_5, hfz20_6⟩ := blk7 BK407.out
       go_wp2_with (first | (go_at_call 58; (with_reducible refine (payrollref29_Valid.calls k _ _ l0_1 true _ ?side1 ?side2 A8.out).mono ?_); (case side1 => exact q12); (case side2 => exact HC0_1.out); rintro e w' ⟨rfl, ⟨nd, rfl⟩⟩) | (go_at_call 47; (with_reducible refine (payrollref30_in.calls a0_2 1000000000 true _ A10.out).mono ?_); rintro e w' ⟨rfl, ⟨nd, rfl⟩⟩) | (go_at_call 47; (with_reducible refine (payrollref30_in.calls a0_3 1000000000 false _ A12.out).mono ?_); rintro e w' ⟨rfl, ⟨nd, rfl⟩⟩))
       go_meet
       case rel => exact ⟨_, (true), q26, H', ⟨by first | omega | exact Nat.le_refl _⟩, ⟨q118⟩, ⟨q72⟩⟩
     ·
      replace c11 := Bool.eq_false_iff.mpr c11
      subst c11
      rw [if_neg (show ¬ (false = true) by decide)] at H
      have H' := Aside0.mk H
      clear H
      obtain ⟨hcz21_0, hcz21_1, hcz21_2, hcz21_3, hcz21_4, hcz21_5, hcz21_6, hfz21_0, hfz21_1, hfz21_2, hfz21_3, hfz21_4, hfz21_5, hfz21_6⟩ := blk7 BK407.out
      go_wp2_with (first | (go_at_call 58; (with_reducible refine (payrollref29_Valid.calls k _ _ l0_1 true _ ?side1 ?side2 A8.out).mono ?_); (case side1 => exact q12); (case side2 => exact HC0_1.out); rintro e w' ⟨rfl, ⟨nd, rfl⟩⟩) | (go_at_call 47; (with_reducible refine (payrollref30_in.calls a0_2 1000000000 false _ A10.out).mono ?_); rintro e w' ⟨rfl, ⟨nd, rfl⟩⟩))
      go_meet
      case rel => exact ⟨_, (true), q26, H', ⟨by first | omega | exact Nat.le_refl _⟩, ⟨q118⟩, ⟨q72⟩⟩
    ·
     replace c9 := Bool.eq_false_iff.mpr c9
     subst c9
     rw [if_neg (show ¬ (false = true) by decide)] at H
     have H' := Aside0.mk H
     clear H
     obtain ⟨hcz22_0, hcz22_1, hcz22_2, hcz22_3, hcz22_4, hcz22_5, hcz22_6, hfz22_0, hfz22_1, hfz22_2, hfz22_3, hfz22_4, hfz22_5, hfz22_6⟩ := blk7 BK407.out
     go_wp2_with (first | (go_at_call 58; (with_reducible refine (payrollref29_Valid.calls k _ _ l0_1 false _ ?side1 ?side2 A8.out).mono ?_); (case side1 => exact q12); (case side2 => exact HC0_1.out); rintro e w' ⟨rfl, ⟨nd, rfl⟩⟩))
     go_meet
     case rel => exact ⟨_, (true), q26, H', ⟨by first | omega | exact Nat.le_refl _⟩, ⟨q118⟩, ⟨q72⟩⟩
 case rest =>
  clear HC2
  try clear c1
  try clear p2
  try clear c4
  try clear c4b0
  try clear c6
  try clear c6b0
  try clear c9
  try clear c11
  try clear c13
  try clear c14
  try clear c14b0
  try clear c16
  try clear c16b0
  try clear hcz15_0
  try clear hcz15_1
  try clear hcz15_2
  try clear hcz15_3
  try clear hcz15_4
  try clear hcz15_5
  try clear hcz15_6
  try clear hcz17_0
  try clear hcz17_1
  try clear hcz17_2
  try clear hcz17_3
  try clear hcz17_4
  try clear hcz17_5
  try clear hcz17_6
  try clear hcz19_0
  try clear hcz19_1
  try clear hcz19_2
  try clear hcz19_3
  try clear hcz19_4
  try clear hcz19_5
  try clear hcz19_6
  try clear hcz20_0
  try clear hcz20_1
  try clear hcz20_2
  try clear hcz20_3
  try clear hcz20_4
  try clear hcz20_5
  try clear hcz20_6
  try clear hcz21_0
  try clear hcz21_1
  try clear hcz21_2
  try clear hcz21_3
  try clear hcz21_4
  try clear hcz21_5
  try clear hcz21_6
  try clear hcz22_0
  try clear hcz22_1
  try clear hcz22_2
  try clear hcz22_3
  try clear hcz22_4
  try clear hcz22_5
  try clear hcz22_6
  try clear hcz5_0
  try clear hcz5_1
  try clear hcz5_2
  try clear hcz5_3
  try clear hcz5_4
  try clear hcz5_5
  try clear hcz5_6
  try clear hcz7_0
  try clear hcz7_1
  try clear hcz7_2
  try clear hcz7_3
  try clear hcz7_4
  try clear hcz7_5
  try clear hcz7_6
  try clear hfz15_0
  try clear hfz15_1
  try clear hfz15_2
  try clear hfz15_3
  try clear hfz15_4
  try clear hfz15_5
  try clear hfz15_6
  try clear hfz17_0
  try clear hfz17_1
  try clear hfz17_2
  try clear hfz17_3
  try clear hfz17_4
  try clear hfz17_5
  try clear hfz17_6
  try clear hfz19_0
  try clear hfz19_1
  try clear hfz19_2
  try clear hfz19_3
  try clear hfz19_4
  try clear hfz19_5
  try clear hfz19_6
  try clear hfz20_0
  try clear hfz20_1
  try clear hfz20_2
  try clear hfz20_3
  try clear hfz20_4
  try clear hfz20_5
  try clear hfz20_6
  try clear hfz21_0
  try clear hfz21_1
  try clear hfz21_2
  try clear hfz21_3
  try clear hfz21_4
  try clear hfz21_5
  try clear hfz21_6
  try clear hfz22_0
  try clear hfz22_1
  try clear hfz22_2
  try clear hfz22_3
  try clear hfz22_4
  try clear hfz22_5
  try clear hfz22_6
  try clear hfz5_0
  try clear hfz5_1
  try clear hfz5_2
  try clear hfz5_3
  try clear hfz5_4
  try clear hfz5_5
  try clear hfz5_6
  try clear hfz7_0
  try clear hfz7_1
  try clear hfz7_2
  try clear hfz7_3
  try clear hfz7_4
  try clear hfz7_5
  try clear hfz7_6
  obtain ⟨kq, x44_1, rfl, HA, HJ1, BK407, HB⟩ := hcut
  cases kq with
  | zero => exact absurd HA.out (by simp [payrollref30_Valid.j0])
  | succ kj1 =>
   have H := HA.out
   clear HA
   simp only [payrollref30_Valid.j0] at H
   by_cases c23 : x44_1 = true
   ·
    subst c23
    rw [if_pos rfl] at H
    obtain rfl := Option.some.inj H
    go_wp2
    go_ret
    exact ⟨by first | rfl | (simp [errW_none, errW_some] <;> rfl) | (simp [*, errW_none, errW_some] <;> rfl), q72⟩
   ·
    replace c23 := Bool.eq_false_iff.mpr c23
    subst c23
    rw [if_neg (show ¬ (false = true) by decide)] at H
    by_cases c24 : a0_0 = 1
    ·
     rw [if_pos c24] at H
     have c24b0 : (a0_0 == 1) = true := beq_iff_eq.mpr c24
     have c24b1 : (a0_0 != 1) = false := bne_eq_false_iff_eq.mpr c24
     clear c24
     replace H := Option.bind_eq_some_iff.mp H
     obtain ⟨t412, A250, H⟩ := H
     have A25 := Aside0.mk A250
     clear A250
     obtain rfl := Option.some.inj H
     obtain ⟨hcz26_0, hcz26_1, hcz26_2, hcz26_3, hcz26_4, hcz26_5, hcz26_6, hfz26_0, hfz26_1, hfz26_2, hfz26_3, hfz26_4, hfz26_5, hfz26_6⟩ := blk7 BK407.out
     exact (by go_wp2_with (first | ((with_reducible refine gate_callee (f := 60) rfl ?_); refine goesL_ (some 50) rfl rfl Try.func60 (by kernel_rfl) rfl #[.slice A0_6 l0_6.length c0_6] rfl q1 ?_; (with_reducible refine (payrollref30_Table.calls kj1 _ _ l0_6 t412 _ ?side1 ?side2 A25.out).mono ?_); (case side1 => exact q25); (case side2 => exact HC0_6.out); rintro e w_1 ⟨rfl, hb⟩; refine ⟨_, rfl, ?_⟩; have n0_ := Aside0.mk (blk_below BK407.out hb); have n1_ := Aside0.mk (below_step q72 hb); clear BK407; clear HB; have BK407 := n0_; have HB := n1_; clear n0_ n1_; (try clear hb); (try clear hb2); (try clear hk); (try clear hi))); go_ret; exact ⟨by first | rfl | (simp [errW_none, errW_some] <;> rfl) | (simp [*, errW_none, errW_some] <;> rfl), q72⟩)
    ·
     rw [if_neg c24] at H
     have c24b0 : (a0_0 == 1) = false := beq_eq_false_iff_ne.mpr c24
     have c24b1 : (a0_0 != 1) = true := bne_iff_ne.mpr c24
     obtain rfl := Option.some.inj H
     obtain ⟨hcz28_0, hcz28_1, hcz28_2, hcz28_3, hcz28_4, hcz28_5, hcz28_6, hfz28_0, hfz28_1, hfz28_2, hfz28_3, hfz28_4, hfz28_5, hfz28_6⟩ := blk7 BK407.out
     go_wp2
     go_ret
     exact ⟨by first | rfl | (simp [errW_none, errW_some] <;> rfl) | (simp [*, errW_none, errW_some] <;> rfl), q72⟩

end Go.Proofs.Ytbacfajhgmnjpaa.P
