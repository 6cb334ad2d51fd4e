/- Proved here: that the Go function payrolllaw29_income computes the plain function of that name (the machine side of the laws, reworked from a print; no condition of its own). -/
import Derived.Test.YtafoplpaoahdiaaProg
import Derived.Test.YtafoplpaoahdiaaV1
import Derived.Test.YtafoplpaoahdiaaFPRE0
import Derived.Test.YtafoplpaoahdiaaFPRE1
import Derived.Test.YtafoplpaoahdiaaFPRE3
import Derived.Test.YtafoplpaoahdiaaFpaygenDeckNext
import Derived.Test.YtafoplpaoahdiaaFpaygenDeckPick
import Derived.Test.YtafoplpaoahdiaaFpaygenDeckSmall
import Derived.Test.YtafoplpaoahdiaaFpaygenDeckAmount
namespace Go.Proofs.Ytafoplpaoahdiaa.P
open Go.RowKit Go.Proofs.YtafoplpaoahdiaaW.PrintWords Go.Proofs.YtafoplpaoahdiaaW.PrintLast Go.Proofs.YtafoplpaoahdiaaW.PrintMore
attribute [local go_sem] max2_int min2_int max_two min_two max_three min_three max_four min_four   -- for this text's walks alone
set_option linter.unusedVariables false
set_option linter.unusedSimpArgs false

def payrolllaw29_income.f (s0_0 : List Int) (s0_1 : Int) (l1 : List (S30)) : Option (Int × Int) := (paygen_Deck_Next.f s0_0 s0_1 3).bind fun bt256 => (if bt256.1 = 0 then ((paygen_Deck_Next.f s0_0 bt256.2 (l1.length : Int)).bind fun bt258 => (if 0 ≤ bt258.1 then (if bt258.1 < (l1.length : Int) then ((paygen_Deck_Next.f s0_0 bt258.2 3).bind fun bt261 => (some (mx (wrap64 ((wrap64 (((rd_T30 l1 bt258.1).f0) + bt261.1)) - 1)) 0, bt261.2))) else (none)) else (none))) else ((paygen_Deck_Amount.f s0_0 bt256.2).bind fun bt263 => ((paygen_Deck_Small.f s0_0 bt263.2).bind fun bt265 => ((paygen_Deck_Pick.f s0_0 bt265.2 (([bt263.1, wrap64 (10 * bt265.1), 1000000000000, 999999999999] : List Int))).bind fun bt270 => (some (bt270.1, bt270.2))))))
def payrolllaw29_income.T2 : Bool × List (List Nat × List Nat) := (true, [([], []), ([], []), ([], []), ([2], [2]), ([1, 3], [1, 3]), ([0, 4], [0, 4]), ([5], [5]), ([6], [6]), ([], []), ([8, 4], [8]), ([7, 9], [7, 9]), ([10], [10]), ([11], [11]), ([12, 9, 0, 1, 2, 3, 4, 5, 6, 7, 8, 9, 10, 11, 12], [12])])
def payrolllaw29_income.B2 : List Nat := [0, 0, 0, 4, 14, 31, 63, 127, 0, 286, 1023, 2047, 4095, 8191]
theorem payrolllaw29_income.tab2 : rtab .any (opsOf Try.f19 2) = payrolllaw29_income.T2 := by kernel_rfl
theorem payrolllaw29_income.bits2 : waitsOk payrolllaw29_income.T2.2 payrolllaw29_income.B2 = true := by kernel_rfl
set_option maxHeartbeats 8000000 in
set_option maxRecDepth 100000 in
theorem payrolllaw29_income.calls (g : Nat) (s0_0 : List Int) (s0_1 : Int) (A1 : Option Addr) (c1 : Nat) (l1 : List (S30)) (r1 : Int) (r2 : Int) (w0 w : World) (hI : IsS56 w0 w g s0_0 s0_1) (hB : Below w0.heap.size w0 w) (hr1 : ∀ W_, KeepBut w W_ g none → Kd.C k30 W_ A1 l1.length l1) (hc1 : l1.length ≤ c1) (h : payrolllaw29_income.f s0_0 s0_1 l1 = some (r1, r2)) :
  Calls Try.prog 19 #[.pointer (some ⟨g, 0, none⟩), .slice A1 l1.length c1] w fun e w' => e = .returned (.int .i64 r1) ∧ IsS56 w0 w' g s0_0 r2 ∧ Below w0.heap.size w0 w' ∧ KeepBut w w' g none := by
 have HR1 := Aside0.mk hr1
 have HC1 := Aside0.mk hc1
 clear hr1 hc1
 have HI0 := Aside0.mk hI
 have HK := Aside0.mk (KeepBut.refl w g none)
 have HL := Aside0.mk hB.size
 clear hI
 have HW0 := Aside0.mk hB.size
 have HB := Aside0.mk hB
 clear hB
 have H : ((paygen_Deck_Next.f s0_0 s0_1 3).bind fun bt256 => (if bt256.1 = 0 then ((paygen_Deck_Next.f s0_0 bt256.2 (l1.length : Int)).bind fun bt258 => (if 0 ≤ bt258.1 then (if bt258.1 < (l1.length : Int) then ((paygen_Deck_Next.f s0_0 bt258.2 3).bind fun bt261 => (some (mx (wrap64 ((wrap64 (((rd_T30 l1 bt258.1).f0) + bt261.1)) - 1)) 0, bt261.2))) else (none)) else (none))) else ((paygen_Deck_Amount.f s0_0 bt256.2).bind fun bt263 => ((paygen_Deck_Small.f s0_0 bt263.2).bind fun bt265 => ((paygen_Deck_Pick.f s0_0 bt265.2 (([bt263.1, wrap64 (10 * bt265.1), 1000000000000, 999999999999] : List Int))).bind fun bt270 => (some (bt270.1, bt270.2))))))) = some (r1, r2) := h
 clear h
 replace H := Option.bind_eq_some_iff.mp H
 obtain ⟨⟨t256, t257⟩, A30, H⟩ := H
 replace H : (if t256 = 0 then ((paygen_Deck_Next.f s0_0 t257 (l1.length : Int)).bind fun bt258 => (if 0 ≤ bt258.1 then (if bt258.1 < (l1.length : Int) then ((paygen_Deck_Next.f s0_0 bt258.2 3).bind fun bt261 => (some (mx (wrap64 ((wrap64 (((rd_T30 l1 bt258.1).f0) + bt261.1)) - 1)) 0, bt261.2))) else (none)) else (none))) else ((paygen_Deck_Amount.f s0_0 t257).bind fun bt263 => ((paygen_Deck_Small.f s0_0 bt263.2).bind fun bt265 => ((paygen_Deck_Pick.f s0_0 bt265.2 (([bt263.1, wrap64 (10 * bt265.1), 1000000000000, 999999999999] : List Int))).bind fun bt270 => (some (bt270.1, bt270.2)))))) = some (r1, r2) := H
 have A3 := Aside0.mk A30
 clear A30
 by_cases c4 : t256 = 0
 ·
  rw [if_pos c4] at H
  have c4b0 : (t256 == 0) = true := beq_iff_eq.mpr c4
  have c4b1 : (t256 != 0) = false := bne_eq_false_iff_eq.mpr c4
  clear c4
  replace H := Option.bind_eq_some_iff.mp H
  obtain ⟨⟨t258, t259⟩, A50, H⟩ := H
  replace H : (if 0 ≤ t258 then (if t258 < (l1.length : Int) then ((paygen_Deck_Next.f s0_0 t259 3).bind fun bt261 => (some (mx (wrap64 ((wrap64 (((rd_T30 l1 t258).f0) + bt261.1)) - 1)) 0, bt261.2))) else (none)) else (none)) = some (r1, r2) := H
  have A5 := Aside0.mk A50
  clear A50
  by_cases c6 : 0 ≤ t258
  ·
   rw [if_pos c6] at H
   have c6b0 : decide (0 ≤ t258) = true := decide_eq_true c6
   clear c6
   by_cases c7 : t258 < (l1.length : Int)
   ·
    rw [if_pos c7] at H
    have c7b0 : decide (t258 < (l1.length : Int)) = true := decide_eq_true c7
    clear c7
    replace H := Option.bind_eq_some_iff.mp H
    obtain ⟨⟨t261, t262⟩, A80, H⟩ := H
    replace H : (some (mx (wrap64 ((wrap64 (((rd_T30 l1 t258).f0) + t261)) - 1)) 0, t262)) = some (r1, r2) := H
    have A8 := Aside0.mk A80
    clear A80
    obtain ⟨ji9, hji9⟩ : ∃ j_ : Int, (mx (wrap64 ((wrap64 (((rd_T30 l1 t258).f0) + t261)) - 1)) 0) = j_ := ⟨_, rfl⟩
    replace H : (some (ji9, t262)) = some (r1, r2) := by first | (rw [hji9] at H; exact H) | (simp only [hji9] at H ⊢; exact H)
    (try rw [hji9] at A3)
    (try rw [hji9] at A5)
    (try rw [hji9] at A8)
    (try (have hji9l : 0 ≤ ji9 := by (rw [← hji9]; unfold mx; (repeat' split) <;> omega)))
    (try (have hji9m : 0 ≤ ji9 := by omega))
    have hji9_ : (if (wrap64 ((wrap64 (((rd_T30 l1 t258).f0) + t261)) - 1)) < 0 then 0 else (wrap64 ((wrap64 (((rd_T30 l1 t258).f0) + t261)) - 1))) = ji9 := hji9
    simp only [Option.some.injEq, Prod.mk.injEq] at H
    obtain ⟨rfl, rfl⟩ := H
    go_enter Try.func19, Try.ntmps19
    try go_wp2_with (first | ((with_reducible refine gate_callee (f := 15) rfl ?_); refine goesL_ (some 6) rfl rfl Try.func15 (by kernel_rfl) rfl #[.pointer (some ⟨g, 0, none⟩), .int .i64 3] rfl (by (try simp only [List.map_toArray, List.map_cons, List.map_nil]); first | done | rfl | (simp only [List.length_drop, List.length_take]; rfl)) ?_; (with_reducible refine (paygen_Deck_Next.calls g s0_0 s0_1 3 t256 t257 w0 _ ?side1 ?side2 A3.out).mono ?_); (case side1 => repeat (first | (with_reducible first | exact HI0.out | apply IsS56.alloc | apply IsS56.drewN | apply IsS56.drew | apply IsS56.set_1) | exact HI0.out)); (case side2 => repeat (first | (with_reducible first | exact HB.out | apply below_alloc | apply pw_below_drewN | apply below_drew1 | refine below_set ?_ (IsS56.ge HI0.out)) | exact HB.out)); rintro e w10 ⟨rfl, hi, hb, hk⟩; refine ⟨_, rfl, ?_⟩; have n0_ := Aside0.mk (KeepBut.trans (by repeat (first | (with_reducible first | exact HK.out | apply KeepBut.set_ | apply keep_drewN | apply keep_drew | apply keep_alloc) | exact HK.out)) hk (.inl rfl)); have n1_ := Aside0.mk (hb); have n2_ := Aside0.mk (hi); clear HK; clear HB; clear HI0; have HK := n0_; have HB := n1_; have HI0 := n2_; clear n0_ n1_ n2_; (try clear hb); (try clear hb2); (try clear hk); (try clear hi)))
    have n0_ := Aside0.mk (IsS56.drew HI0.out)
    have n1_ := Aside0.mk (keep_drew HK.out)
    have n2_ := Aside0.mk (below_drew1 HB.out)
    clear HI0
    clear HK
    clear HB
    have HI0 := n0_
    have HK := n1_
    have HB := n2_
    clear n0_ n1_ n2_
    have p260 : 0 ≤ (t258 : Int) := of_decide_eq_true (by first | (with_reducible assumption) | assumption)
    have q260 : t258 < (l1.length : Int) := of_decide_eq_true (by first | (with_reducible assumption) | assumption)
    obtain ⟨ad260, e260, hx260_0, hx260_1⟩ := at_T30 (Kd.C_foot_now HR1.out HK.out) t258 p260 q260
    have hw260_1 := hx260_1
    have hw260_0 := hx260_0
    cases e260
    have hne260_1 := (show (⟨(ad260.add ((t258).toNat * 2)).block, (ad260.add ((t258).toNat * 2)).off + 1, none⟩ : Addr).block ≠ g from by first | (rw [add_block]; exact Kd.foot_ne HR1.out (by omega) (by decide)) | (show (Addr.add _ _).block ≠ _; rw [add_block]; exact Kd.foot_ne HR1.out (by omega) (by decide)) | exact Kd.foot_ne HR1.out (by omega) (by decide) | (dsimp only; exact Kd.foot_ne HR1.out (by omega) (by decide)))
    have hlt260_1 := (Kd.foot_lt HR1.out (by omega) (by decide))
    have hne260_0 := (show ((ad260.add ((t258).toNat * 2)) : Addr).block ≠ g from by first | (rw [add_block]; exact Kd.foot_ne HR1.out (by omega) (by decide)) | (show (Addr.add _ _).block ≠ _; rw [add_block]; exact Kd.foot_ne HR1.out (by omega) (by decide)) | exact Kd.foot_ne HR1.out (by omega) (by decide) | (dsimp only; exact Kd.foot_ne HR1.out (by omega) (by decide)))
    have hlt260_0 := (Kd.foot_lt HR1.out (by omega) (by decide))
    replace p260 := eq_true p260
    replace q260 := eq_true q260
    refine start_ (n := 14) (S := fun w' => w'.cell? (ad260.add ((t258).toNat * 2)) = some (.int .i64 ((rd_T30 l1 t258).f0)) ∧ w'.cell? ⟨(ad260.add ((t258).toNat * 2)).block, (ad260.add ((t258).toNat * 2)).off + 1, none⟩ = some (.int .i64 ((rd_T30 l1 t258).f1))) (ds := []) #[false, false, false, false, false, false, false, false, false, false, false, false, false, false] (by kernel_rfl) rfl rfl ⟨hx260_0, hx260_1⟩ (fun hHeld => ?_); refine with_tabW payrolllaw29_income.tab2 payrolllaw29_income.bits2 (fun HT_ HW_ => ?_)
    generalize w10.drew = w11 at HI0 HK HB hx260_0 hx260_1 hHeld ⊢
    refine pure_ (i := 0) (N := some 8) (v := ?_) (a' := ?_) #[true, false, false, false, false, false, false, false, false, false, false, false, false, false] rfl rfl (any_of HT_.out (by kernel_rfl)) (fun _ _ _ h => h) (Or.inl ⟨by rfl, ?_⟩) ?_ ?_
    rotate_left
    ·
     intro w'
     go_simp
     with_reducible rfl
    rotate_left
    ·
     simp only [Act.put, List.setIfInBounds_toArray, List.set_cons_zero, List.set_cons_succ, i64_w, i32_w]
     rfl
    refine pure_ (i := 1) (N := some 9) (v := ?_) (a' := ?_) #[true, true, false, false, false, false, false, false, false, false, false, false, false, false] rfl rfl (any_of HT_.out (by kernel_rfl)) (fun _ _ _ h => h) (Or.inl ⟨by rfl, ?_⟩) ?_ ?_
    rotate_left
    ·
     intro w'
     go_simp
     with_reducible rfl
    rotate_left
    ·
     simp only [Act.put, List.setIfInBounds_toArray, List.set_cons_zero, List.set_cons_succ, i64_w, i32_w]
     rfl
    refine pure_ (i := 2) (N := some 10) (v := ?_) (a' := ?_) #[true, true, true, false, false, false, false, false, false, false, false, false, false, false] rfl rfl (any_of HT_.out (by kernel_rfl)) (fun _ _ _ h => h) (Or.inl ⟨by rfl, ?_⟩) ?_ ?_
    rotate_left
    ·
     intro w'
     go_simp
     with_reducible rfl
    rotate_left
    ·
     simp only [Act.put, List.setIfInBounds_toArray, List.set_cons_zero, List.set_cons_succ, i64_w, i32_w]
     rfl
    refine pure_ (i := 3) (N := some 11) (v := ?_) (a' := ?_) #[true, true, true, true, false, false, false, false, false, false, false, false, false, false] rfl rfl (any_of HT_.out (by kernel_rfl)) (fun _ _ _ h => h) (Or.inl ⟨by rfl, ?_⟩) ?_ ?_
    rotate_left
    ·
     intro w'
     go_simp
     with_reducible rfl
    rotate_left
    ·
     simp only [Act.put, List.setIfInBounds_toArray, List.set_cons_zero, List.set_cons_succ, i64_w, i32_w]
     rfl
    refine pure_ (i := 8) (N := some 16) (v := ?_) (a' := ?_) #[true, true, true, true, false, false, false, false, true, false, false, false, false, false] rfl rfl (any_of HT_.out (by kernel_rfl)) (fun _ _ _ h => h) (Or.inl ⟨by rfl, ?_⟩) ?_ ?_
    rotate_left
    ·
     intro w'
     go_simp
     with_reducible rfl
    rotate_left
    ·
     simp only [Act.put, List.setIfInBounds_toArray, List.set_cons_zero, List.set_cons_succ, i64_w, i32_w]
     rfl
    refine one_ (i := 4) (N := some 12) #[true, true, true, true, true, false, false, false, true, false, false, false, false, false] rfl rfl (one_of HT_.out (by kernel_rfl)) (by decide) (fun K hK => ?_)
    refine goes_ Try.func15 (by kernel_rfl) rfl #[.pointer (some ⟨g, 0, none⟩), .int .i64 (l1.length : Int)] (by rfl) rfl rfl (by (try simp only [List.map_toArray, List.map_cons, List.map_nil]); first | done | rfl | (simp only [List.length_drop, List.length_take]; rfl)) ?_
    with_reducible refine (paygen_Deck_Next.calls g s0_0 t257 (l1.length : Int) t258 t259 w0 _ ?side1 ?side2 A5.out).mono ?_
    (case side1 => repeat (first | (with_reducible first | exact HI0.out | apply IsS56.alloc | apply IsS56.drewN | apply IsS56.drew | apply IsS56.set_1) | exact HI0.out))
    (case side2 => repeat (first | (with_reducible first | exact HB.out | apply below_alloc | apply pw_below_drewN | apply below_drew1 | refine below_set ?_ (IsS56.ge HI0.out)) | exact HB.out))
    rintro e w12 ⟨rfl, hi, hb, hk⟩
    have HS0_ := keep_cell hk (hHeld.1) (by first | (rw [add_block]; exact hne260_0) | (show (Addr.add _ _).block ≠ _; rw [add_block]; exact hne260_0) | exact hne260_0)
    have HS1_ := keep_cell hk (hHeld.2) (by first | (rw [add_block]; exact hne260_1) | (show (Addr.add _ _).block ≠ _; rw [add_block]; exact hne260_1) | exact hne260_1)
    refine ⟨_, rfl, ?_⟩
    have n0_ := Aside0.mk (KeepBut.trans (by repeat (first | (with_reducible first | exact HK.out | apply KeepBut.set_ | apply keep_drewN | apply keep_drew | apply keep_alloc) | exact HK.out)) hk (.inl rfl))
    have n1_ := Aside0.mk (hb)
    have n2_ := Aside0.mk (hi)
    clear HK
    clear HB
    clear HI0
    have HK := n0_
    have HB := n1_
    have HI0 := n2_
    clear n0_ n1_ n2_
    (try clear hb)
    (try clear hb2)
    (try clear hk)
    (try clear hi)
    refine hK.out _ _ ⟨HS0_, HS1_⟩ (fun hHeld => ?_)
    clear hK K
    refine norm_ (a' := ?_) ?_ ?_
    rotate_left
    ·
     show Act.put _ (some 12) _ = _
     simp only [Act.put, List.setIfInBounds_toArray, List.set_cons_zero, List.set_cons_succ, i64_w, i32_w]
     rfl
    refine pure_ (i := 5) (N := some 13) (v := ?_) (a' := ?_) #[true, true, true, true, true, true, false, false, true, false, false, false, false, false] rfl rfl (any_of HT_.out (by kernel_rfl)) (fun _ _ _ h => h) (Or.inl ⟨by rfl, ?_⟩) ?_ ?_
    rotate_left
    ·
     intro w'
     go_simp
     with_reducible rfl
    rotate_left
    ·
     simp only [Act.put, List.setIfInBounds_toArray, List.set_cons_zero, List.set_cons_succ, i64_w, i32_w]
     rfl
    refine pure_ (i := 6) (N := some 14) (v := ?_) (a' := ?_) #[true, true, true, true, true, true, true, false, true, false, false, false, false, false] rfl rfl (any_of HT_.out (by kernel_rfl)) (fun _ _ _ h => h) (Or.inl ⟨by rfl, ?_⟩) ?_ ?_
    rotate_left
    ·
     intro w'
     go_simp
     with_reducible rfl
    rotate_left
    ·
     simp only [Act.put, List.setIfInBounds_toArray, List.set_cons_zero, List.set_cons_succ, i64_w, i32_w]
     rfl
    refine take_ (i := 7) (N := some 15) (v := ?_) (a' := ?_) #[true, true, true, true, true, true, true, true, true, false, false, false, false, false] rfl rfl (take_ofW HT_.out HW_.out (by kernel_rfl)) (fun _ _ _ h => h) (Or.inl ⟨by rfl, ?_⟩) hHeld ?_ ?_
    rotate_left
    ·
     rintro w' ⟨s0, s1⟩
     go_simp
     with_reducible rfl
    rotate_left
    ·
     simp only [Act.put, List.setIfInBounds_toArray, List.set_cons_zero, List.set_cons_succ, i64_w, i32_w]
     rfl
    refine one_ (i := 9) (N := some 17) #[true, true, true, true, true, true, true, true, true, true, false, false, false, false] rfl rfl (one_of HT_.out (by kernel_rfl)) (by decide) (fun K hK => ?_)
    refine goes_ Try.func15 (by kernel_rfl) rfl #[.pointer (some ⟨g, 0, none⟩), .int .i64 3] (by rfl) rfl rfl (by (try simp only [List.map_toArray, List.map_cons, List.map_nil]); first | done | rfl | (simp only [List.length_drop, List.length_take]; rfl)) ?_
    with_reducible refine (paygen_Deck_Next.calls g s0_0 t259 3 t261 t262 w0 _ ?side1 ?side2 A8.out).mono ?_
    (case side1 => repeat (first | (with_reducible first | exact HI0.out | apply IsS56.alloc | apply IsS56.drewN | apply IsS56.drew | apply IsS56.set_1) | exact HI0.out))
    (case side2 => repeat (first | (with_reducible first | exact HB.out | apply below_alloc | apply pw_below_drewN | apply below_drew1 | refine below_set ?_ (IsS56.ge HI0.out)) | exact HB.out))
    rintro e w13 ⟨rfl, hi, hb, hk⟩
    have HS0_ := keep_cell hk (hHeld.1) (by first | (rw [add_block]; exact hne260_0) | (show (Addr.add _ _).block ≠ _; rw [add_block]; exact hne260_0) | exact hne260_0)
    have HS1_ := keep_cell hk (hHeld.2) (by first | (rw [add_block]; exact hne260_1) | (show (Addr.add _ _).block ≠ _; rw [add_block]; exact hne260_1) | exact hne260_1)
    refine ⟨_, rfl, ?_⟩
    have n0_ := Aside0.mk (KeepBut.trans (by repeat (first | (with_reducible first | exact HK.out | apply KeepBut.set_ | apply keep_drewN | apply keep_drew | apply keep_alloc) | exact HK.out)) hk (.inl rfl))
    have n1_ := Aside0.mk (hb)
    have n2_ := Aside0.mk (hi)
    clear HK
    clear HB
    clear HI0
    have HK := n0_
    have HB := n1_
    have HI0 := n2_
    clear n0_ n1_ n2_
    (try clear hb)
    (try clear hb2)
    (try clear hk)
    (try clear hi)
    refine hK.out _ _ ⟨HS0_, HS1_⟩ (fun hHeld => ?_)
    clear hK K
    refine norm_ (a' := ?_) ?_ ?_
    rotate_left
    ·
     show Act.put _ (some 17) _ = _
     simp only [Act.put, List.setIfInBounds_toArray, List.set_cons_zero, List.set_cons_succ, i64_w, i32_w]
     rfl
    refine pure_ (i := 10) (N := some 18) (v := ?_) (a' := ?_) #[true, true, true, true, true, true, true, true, true, true, true, false, false, false] rfl rfl (any_of HT_.out (by kernel_rfl)) (fun _ _ _ h => h) (Or.inl ⟨by rfl, ?_⟩) ?_ ?_
    rotate_left
    ·
     intro w'
     go_simp
     with_reducible rfl
    rotate_left
    ·
     simp only [Act.put, List.setIfInBounds_toArray, List.set_cons_zero, List.set_cons_succ, i64_w, i32_w]
     rfl
    refine pure_ (i := 11) (N := some 19) (v := ?_) (a' := ?_) #[true, true, true, true, true, true, true, true, true, true, true, true, false, false] rfl rfl (any_of HT_.out (by kernel_rfl)) (fun _ _ _ h => h) (Or.inl ⟨by rfl, ?_⟩) ?_ ?_
    rotate_left
    ·
     intro w'
     go_simp
     with_reducible rfl
    rotate_left
    ·
     simp only [Act.put, List.setIfInBounds_toArray, List.set_cons_zero, List.set_cons_succ, i64_w, i32_w]
     rfl
    refine pure_ (i := 12) (N := some 20) (v := ?_) (a' := ?_) #[true, true, true, true, true, true, true, true, true, true, true, true, true, false] rfl rfl (any_of HT_.out (by kernel_rfl)) (fun _ _ _ h => h) (Or.inl ⟨by rfl, ?_⟩) ?_ ?_
    rotate_left
    ·
     intro w'
     go_simp
     with_reducible rfl
    rotate_left
    ·
     simp only [Act.put, List.setIfInBounds_toArray, List.set_cons_zero, List.set_cons_succ, i64_w, i32_w]
     rfl
    refine pure_ (i := 13) (N := some 4) (v := ?_) (a' := ?_) #[true, true, true, true, true, true, true, true, true, true, true, true, true, true] rfl rfl (any_of HT_.out (by kernel_rfl)) (fun _ _ _ h => h) (Or.inl ⟨by rfl, ?_⟩) ?_ ?_
    rotate_left
    ·
     intro w'
     go_simp
     with_reducible rfl
    rotate_left
    ·
     simp only [Act.put, List.setIfInBounds_toArray, List.set_cons_zero, List.set_cons_succ, i64_w, i32_w]
     rfl
    refine done_ (done_of HT_.out (by kernel_rfl)) ?_
    try go_wp2
    go_ret
    exact ⟨by first | rfl | (simp [errW_none, errW_some] <;> rfl) | (simp only [← hji9]; first | rfl | (simp [errW_none, errW_some] <;> rfl)) | (simp [*, errW_none, errW_some] <;> rfl), by repeat (first | (with_reducible first | exact HI0.out | apply IsS56.alloc | apply IsS56.drewN | apply IsS56.drew | apply IsS56.set_1) | exact HI0.out), by repeat (first | (with_reducible first | exact HB.out | apply below_alloc | apply pw_below_drewN | apply below_drew1 | refine below_set ?_ (IsS56.ge HI0.out)) | exact HB.out), by repeat (first | (with_reducible first | exact HK.out | apply KeepBut.set_ | apply keep_drewN | apply keep_drew | apply keep_alloc) | exact HK.out)⟩
   ·
    rw [if_neg c7] at H
    exact absurd H (by simp)
  ·
   rw [if_neg c6] at H
   exact absurd H (by simp)
 ·
  rw [if_neg c4] at H
  have c4b0 : (t256 == 0) = false := beq_eq_false_iff_ne.mpr c4
  have c4b1 : (t256 != 0) = true := bne_iff_ne.mpr c4
  replace H := Option.bind_eq_some_iff.mp H
  obtain ⟨⟨t263, t264⟩, A140, H⟩ := H
  replace H : ((paygen_Deck_Small.f s0_0 t264).bind fun bt265 => ((paygen_Deck_Pick.f s0_0 bt265.2 (([t263, wrap64 (10 * bt265.1), 1000000000000, 999999999999] : List Int))).bind fun bt270 => (some (bt270.1, bt270.2)))) = some (r1, r2) := H
  have A14 := Aside0.mk A140
  clear A140
  replace H := Option.bind_eq_some_iff.mp H
  obtain ⟨⟨t265, t266⟩, A150, H⟩ := H
  replace H : ((paygen_Deck_Pick.f s0_0 t266 (([t263, wrap64 (10 * t265), 1000000000000, 999999999999] : List Int))).bind fun bt270 => (some (bt270.1, bt270.2))) = some (r1, r2) := H
  have A15 := Aside0.mk A150
  clear A150
  obtain ⟨y267, hy267⟩ : ∃ y_ : List Int, y_ = (([t263, wrap64 (10 * t265), 1000000000000, 999999999999] : List Int)) := ⟨_, rfl⟩
  replace H : ((paygen_Deck_Pick.f s0_0 t266 y267).bind fun bt270 => (some (bt270.1, bt270.2))) = some (r1, r2) := by first | (rw [hy267]; with_reducible exact H) | (have H2_ := (Option.bind_some _ _).symm.trans H; rw [hy267]; with_reducible exact H2_) | (have H2_ := (Option.bind_some _ _).symm.trans H; with_reducible exact H2_) | with_reducible exact H | (rw [hy267]; exact H) | exact H
  have Ny267 := Aside0.mk hy267
  clear hy267
  replace H := Option.bind_eq_some_iff.mp H
  obtain ⟨⟨t270, t271⟩, A160, H⟩ := H
  replace H : (some (t270, t271)) = some (r1, r2) := H
  have A16 := Aside0.mk A160
  clear A160
  simp only [Option.some.injEq, Prod.mk.injEq] at H
  obtain ⟨rfl, rfl⟩ := H
  go_enter Try.func19, Try.ntmps19
  go_wp2_with (first | ((with_reducible refine gate_callee (f := 15) rfl ?_); refine goesL_ (some 6) rfl rfl Try.func15 (by kernel_rfl) rfl #[.pointer (some ⟨g, 0, none⟩), .int .i64 3] rfl (by (try simp only [List.map_toArray, List.map_cons, List.map_nil]); first | done | rfl | (simp only [List.length_drop, List.length_take]; rfl)) ?_; (with_reducible refine (paygen_Deck_Next.calls g s0_0 s0_1 3 t256 t257 w0 _ ?side1 ?side2 A3.out).mono ?_); (case side1 => repeat (first | (with_reducible first | exact HI0.out | apply IsS56.alloc | apply IsS56.drewN | apply IsS56.drew | apply IsS56.set_1) | exact HI0.out)); (case side2 => repeat (first | (with_reducible first | exact HB.out | apply below_alloc | apply pw_below_drewN | apply below_drew1 | refine below_set ?_ (IsS56.ge HI0.out)) | exact HB.out)); rintro e w17 ⟨rfl, hi, hb, hk⟩; refine ⟨_, rfl, ?_⟩; have n0_ := Aside0.mk (KeepBut.trans (by repeat (first | (with_reducible first | exact HK.out | apply KeepBut.set_ | apply keep_drewN | apply keep_drew | apply keep_alloc) | exact HK.out)) hk (.inl rfl)); have n1_ := Aside0.mk (hb); have n2_ := Aside0.mk (hi); clear HK; clear HB; clear HI0; have HK := n0_; have HB := n1_; have HI0 := n2_; clear n0_ n1_ n2_; (try clear hb); (try clear hb2); (try clear hk); (try clear hi)) | ((with_reducible refine gate_callee (f := 39) rfl ?_); refine goesL_ (some 23) rfl rfl Try.func39 (by kernel_rfl) rfl #[.pointer (some ⟨g, 0, none⟩)] rfl (by (try simp only [List.map_toArray, List.map_cons, List.map_nil]); first | done | rfl | (simp only [List.length_drop, List.length_take]; rfl)) ?_; (with_reducible refine (paygen_Deck_Amount.calls g s0_0 t257 t263 t264 w0 _ ?side1 ?side2 A14.out).mono ?_); (case side1 => repeat (first | (with_reducible first | exact HI0.out | apply IsS56.alloc | apply IsS56.drewN | apply IsS56.drew | apply IsS56.set_1) | exact HI0.out)); (case side2 => repeat (first | (with_reducible first | exact HB.out | apply below_alloc | apply pw_below_drewN | apply below_drew1 | refine below_set ?_ (IsS56.ge HI0.out)) | exact HB.out)); rintro e w18 ⟨rfl, hi, hb, hk⟩; refine ⟨_, rfl, ?_⟩; have n0_ := Aside0.mk (KeepBut.trans (by repeat (first | (with_reducible first | exact HK.out | apply KeepBut.set_ | apply keep_drewN | apply keep_drew | apply keep_alloc) | exact HK.out)) hk (.inl rfl)); have n1_ := Aside0.mk (hb); have n2_ := Aside0.mk (hi); clear HK; clear HB; clear HI0; have HK := n0_; have HB := n1_; have HI0 := n2_; clear n0_ n1_ n2_; (try clear hb); (try clear hb2); (try clear hk); (try clear hi)) | ((with_reducible refine gate_callee (f := 24) rfl ?_); refine goesL_ (some 25) rfl rfl Try.func24 (by kernel_rfl) rfl #[.pointer (some ⟨g, 0, none⟩)] rfl (by (try simp only [List.map_toArray, List.map_cons, List.map_nil]); first | done | rfl | (simp only [List.length_drop, List.length_take]; rfl)) ?_; (with_reducible refine (paygen_Deck_Small.calls g s0_0 t264 t265 t266 w0 _ ?side1 ?side2 A15.out).mono ?_); (case side1 => repeat (first | (with_reducible first | exact HI0.out | apply IsS56.alloc | apply IsS56.drewN | apply IsS56.drew | apply IsS56.set_1) | exact HI0.out)); (case side2 => repeat (first | (with_reducible first | exact HB.out | apply below_alloc | apply pw_below_drewN | apply below_drew1 | refine below_set ?_ (IsS56.ge HI0.out)) | exact HB.out)); rintro e w19 ⟨rfl, hi, hb, hk⟩; refine ⟨_, rfl, ?_⟩; have n0_ := Aside0.mk (KeepBut.trans (by repeat (first | (with_reducible first | exact HK.out | apply KeepBut.set_ | apply keep_drewN | apply keep_drew | apply keep_alloc) | exact HK.out)) hk (.inl rfl)); have n1_ := Aside0.mk (hb); have n2_ := Aside0.mk (hi); clear HK; clear HB; clear HI0; have HK := n0_; have HB := n1_; have HI0 := n2_; clear n0_ n1_ n2_; (try clear hb); (try clear hb2); (try clear hk); (try clear hi)) | ((with_reducible refine gate_dst (N := 27) rfl ?_); refine Kd.R_lit (Kd.int .i64) _ 3 ?hg (N := 27) ?hd (xs := ([t263, wrap64 (10 * t265), 1000000000000, 999999999999] : List Int)) (inner := [.int .i64 t263, .int .i64 (wrap64 (10 * t265)), .int .i64 1000000000000, .int .i64 999999999999]) (ok := fun _ => True) (okp := fun _ => True) ?hr ?hp (fun _ hk => hk) trivial (Below.refl _ _) (Nat.le_refl _) (by simp) ?_; (case hd => rfl); (case hg => rfl); (case hr => first | (go_simp; done) | (go_simp; rfl)); (case hp => exact (Reps.one (show Kd.M (Kd.int .i64) _ _ _ t263 [.int .i64 t263] from rfl) (Reps.one (show Kd.M (Kd.int .i64) _ _ _ (wrap64 (10 * t265)) [.int .i64 (wrap64 (10 * t265))] from rfl) (Reps.one (show Kd.M (Kd.int .i64) _ _ _ 1000000000000 [.int .i64 1000000000000] from rfl) (Reps.one (show Kd.M (Kd.int .i64) _ _ _ 999999999999 [.int .i64 999999999999] from rfl) (Reps.none _ _)))))); intro v268 w20 ho21 hb hg_ hnew_; clear hg_ hnew_; (first | rw [← Ny267.out] at ho21 | (simp only [Int.reduceToNat] at ho21; rw [← Ny267.out] at ho21)); have n0_ := Aside0.mk (Kd.R_lower ho21 (keep_size (w := w) (g := g) (row := none) (by repeat (first | (with_reducible first | exact HK.out | apply KeepBut.set_ | apply keep_drewN | apply keep_drew | apply keep_alloc) | exact HK.out)))); have n1_ := Aside0.mk (IsS56.below (by repeat (first | (with_reducible first | exact HI0.out | apply IsS56.alloc | apply IsS56.drewN | apply IsS56.drew | apply IsS56.set_1) | exact HI0.out)) hb); have n2_ := Aside0.mk (KeepBut.trans (by repeat (first | (with_reducible first | exact HK.out | apply KeepBut.set_ | apply keep_drewN | apply keep_drew | apply keep_alloc) | exact HK.out)) (KeepBut.of_below hb g none) (.inl rfl)); have n3_ := Aside0.mk (below_step (by repeat (first | (with_reducible first | exact HB.out | apply below_alloc | apply pw_below_drewN | apply below_drew1 | refine below_set ?_ (IsS56.ge HI0.out)) | exact HB.out)) hb); clear HI0; clear HK; clear HB; have HO269 := n0_; have HI0 := n1_; have HK := n2_; have HB := n3_; clear n0_ n1_ n2_ n3_; clear hb ho21; obtain ⟨Ao22, co22, eo22⟩ := Kd.R_slice HO269.out; subst eo22) | ((with_reducible refine gate_callee (f := 30) rfl ?_); refine goesL_ (some 28) rfl rfl Try.func30 (by kernel_rfl) rfl #[.pointer (some ⟨g, 0, none⟩), .slice Ao22 y267.length co22] rfl (by (try simp only [List.map_toArray, List.map_cons, List.map_nil]); first | done | rfl | (simp only [List.length_drop, List.length_take]; rfl)) ?_; (with_reducible refine (paygen_Deck_Pick.calls g s0_0 t266 _ _ y267 t270 t271 w0 _ ?side1 ?side2 ?side3 ?side4 ?side5 A16.out).mono ?_); (case side1 => repeat (first | (with_reducible first | exact HI0.out | apply IsS56.alloc | apply IsS56.drewN | apply IsS56.drew | apply IsS56.set_1) | exact HI0.out)); (case side2 => repeat (first | (with_reducible first | exact HB.out | apply below_alloc | apply pw_below_drewN | apply below_drew1 | refine below_set ?_ (IsS56.ge HI0.out)) | exact HB.out)); (case side3 => repeat (first | exact (Kd.R_reads' HO269.out).2.2 | (with_reducible refine Kd.C_alloc ?_ _) | (with_reducible refine Kd.C_drewN ?_ _) | (with_reducible refine Kd.C_drew ?_))); (case side4 => exact (Kd.R_reads' HO269.out).2.1); (case side5 => exact far_slice (IsS56.own_ne HI0.out HO269.out (by decide))); rintro e w23 ⟨rfl, hi, hb, hk⟩; refine ⟨_, rfl, ?_⟩; have n0_ := Aside0.mk (Kd.R_mono (Kd.R_keep (IsS56.apart (show IsS56 w0 _ g s0_0 t266 from by repeat (first | (with_reducible first | exact HI0.out | apply IsS56.alloc | apply IsS56.drewN | apply IsS56.drew | apply IsS56.set_1) | exact HI0.out)) (by (with_reducible repeat (first | apply Kd.R_alloc | apply Kd.R_drewN | apply Kd.R_drew)); exact HO269.out) (by decide)) hk (fun _ h => h.2)) (fun _ h => h.1)); have n1_ := Aside0.mk (KeepBut.trans (by repeat (first | (with_reducible first | exact HK.out | apply KeepBut.set_ | apply keep_drewN | apply keep_drew | apply keep_alloc) | exact HK.out)) hk (.inl rfl)); have n2_ := Aside0.mk (hb); have n3_ := Aside0.mk (hi); clear HO269; clear HK; clear HB; clear HI0; have HO269 := n0_; have HK := n1_; have HB := n2_; have HI0 := n3_; clear n0_ n1_ n2_ n3_; (try clear hb); (try clear hb2); (try clear hk); (try clear hi)))
  go_ret
  exact ⟨by first | rfl | (simp [errW_none, errW_some] <;> rfl) | (simp [*, errW_none, errW_some] <;> rfl), by repeat (first | (with_reducible first | exact HI0.out | apply IsS56.alloc | apply IsS56.drewN | apply IsS56.drew | apply IsS56.set_1) | exact HI0.out), by repeat (first | (with_reducible first | exact HB.out | apply below_alloc | apply pw_below_drewN | apply below_drew1 | refine below_set ?_ (IsS56.ge HI0.out)) | exact HB.out), by repeat (first | (with_reducible first | exact HK.out | apply KeepBut.set_ | apply keep_drewN | apply keep_drew | apply keep_alloc) | exact HK.out)⟩

end Go.Proofs.Ytafoplpaoahdiaa.P
