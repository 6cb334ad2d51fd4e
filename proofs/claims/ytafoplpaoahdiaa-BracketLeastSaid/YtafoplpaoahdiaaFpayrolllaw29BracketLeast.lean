/- Proved here: that the Go function payrolllaw29_BracketLeast computes the plain function of that name (the machine side of the laws, reworked from a print; no condition of its own). -/
import Derived.Test.YtafoplpaoahdiaaProg
import Derived.Test.YtafoplpaoahdiaaV1
import Derived.Test.YtafoplpaoahdiaaFPRE0
import Derived.Test.YtafoplpaoahdiaaFPRE1
import Derived.Test.YtafoplpaoahdiaaFbracketExact
import Derived.Test.YtafoplpaoahdiaaFpayrolllaw29awake
import Derived.Test.YtafoplpaoahdiaaFPRE3
import Derived.Test.YtafoplpaoahdiaaFpaygenNew
import Derived.Test.YtafoplpaoahdiaaFpaygenDeckBrackets
import Derived.Test.YtafoplpaoahdiaaFpayrolllaw29income
import Derived.Test.YtafoplpaoahdiaaFbracketLeast
namespace Go.Proofs.Ytafoplpaoahdiaa.P
open Go.RowKit Go.Proofs.YtafoplpaoahdiaaW.PrintWords Go.Proofs.YtafoplpaoahdiaaW.PrintLast Go.Proofs.YtafoplpaoahdiaaW.PrintMore
attribute [local go_sem] max2_int min2_int max_two min_two max_three min_three max_four min_four   -- for this text's walks alone
set_option linter.unusedVariables false
set_option linter.unusedSimpArgs false

mutual
def payrolllaw29_BracketLeast.l0 : Nat → List (S30) → List Int → Int → Option (Bool)
 | 0, _, _, _ => none
 | k + 1, x6, x9, x10 => if x10 < (x9.length : Int) then (if 0 ≤ x10 then ((bracket_Least.f k x6 (rd x9 x10)).bind fun bt443 => ((bracket_Exact.f k x6 1000000000000).bind fun bt445 => (if bt445.2 = 0 then (payrolllaw29_BracketLeast.j1 k x6 x9 x10 bt443.1 bt443.2 (bt443.2 != (decide (bt445.1 ≥ (rd x9 x10))))) else (payrolllaw29_BracketLeast.j1 k x6 x9 x10 bt443.1 bt443.2 true)))) else (none)) else ((payrolllaw29_awake.f k).bind fun t441 => (some t441))
def payrolllaw29_BracketLeast.j1 : Nat → List (S30) → List Int → Int → Int → Bool → Bool → Option (Bool)
 | 0, _, _, _, _, _, _ => none
 | k + 1, x6, x9, x10, x11, x12, x73 => if x73 = true then (some false) else (if x12 = true then ((bracket_Exact.f k x6 x11).bind fun bt448 => (if bt448.2 = 0 then (if 0 ≤ x10 then (if x10 < (x9.length : Int) then (payrolllaw29_BracketLeast.j2 k x6 x9 x10 x11 (decide (bt448.1 < (rd x9 x10)))) else (none)) else (none)) else (payrolllaw29_BracketLeast.j2 k x6 x9 x10 x11 true))) else (if x11 = 0 then (payrolllaw29_BracketLeast.l0 k x6 x9 (wrap64 (x10 + 1))) else (some false)))
def payrolllaw29_BracketLeast.j2 : Nat → List (S30) → List Int → Int → Int → Bool → Option (Bool)
 | 0, _, _, _, _, _ => none
 | k + 1, x6, x9, x10, x11, x93 => if x93 = true then (some false) else (if x11 > 0 then ((bracket_Exact.f k x6 (wrap64 (x11 - 1))).bind fun bt451 => (if bt451.2 = 0 then (if 0 ≤ x10 then (if x10 < (x9.length : Int) then (if bt451.1 ≥ (rd x9 x10) then (some false) else (payrolllaw29_BracketLeast.l0 k x6 x9 (wrap64 (x10 + 1)))) else (none)) else (none)) else (some false))) else (payrolllaw29_BracketLeast.l0 k x6 x9 (wrap64 (x10 + 1))))
end
def payrolllaw29_BracketLeast.f (k : Nat) (l0 : List Int) (a1 : Int) : Option (Bool) := (paygen_New.f l0).bind fun bt427 => ((paygen_Deck_Brackets.f k bt427.1 bt427.2 false).bind fun bt430 => ((payrolllaw29_income.f bt427.1 bt430.2 bt430.1).bind fun bt434 => ((bracket_Exact.f k bt430.1 (mn bt434.1 999999999999)).bind fun bt436 => (if bt436.2 = 0 then (payrolllaw29_BracketLeast.l0 k bt430.1 (([bt436.1, wrap64 (bt436.1 + 1), mx (wrap64 (bt436.1 - 1)) 0, a1] : List Int)) 0) else (some false)))))
theorem payrolllaw29_BracketLeast.mono_l : ∀ k, (∀ y0 y1 y2, LeO (payrolllaw29_BracketLeast.l0 k y0 y1 y2) (payrolllaw29_BracketLeast.l0 (k + 1) y0 y1 y2)) ∧ (∀ y0 y1 y2 y3 y4 y5, LeO (payrolllaw29_BracketLeast.j1 k y0 y1 y2 y3 y4 y5) (payrolllaw29_BracketLeast.j1 (k + 1) y0 y1 y2 y3 y4 y5)) ∧ (∀ y0 y1 y2 y3 y4, LeO (payrolllaw29_BracketLeast.j2 k y0 y1 y2 y3 y4) (payrolllaw29_BracketLeast.j2 (k + 1) y0 y1 y2 y3 y4))
 | 0 => ⟨fun _ _ _ r h => by simp [payrolllaw29_BracketLeast.l0] at h, fun _ _ _ _ _ _ r h => by simp [payrolllaw29_BracketLeast.j1] at h, fun _ _ _ _ _ r h => by simp [payrolllaw29_BracketLeast.j2] at h⟩
 | k + 1 => by
  obtain ⟨ih0, ih1, ih2⟩ := payrolllaw29_BracketLeast.mono_l k
  refine ⟨?_, ?_, ?_⟩
  ·
   intro y0 y1 y2
   unfold payrolllaw29_BracketLeast.l0
   repeat' first
   | (with_reducible exact ih0 _ _ _)
   | (with_reducible exact ih1 _ _ _ _ _ _)
   | (with_reducible exact ih2 _ _ _ _ _)
   | (with_reducible exact bracket_Exact.mono _ _ _)
   | (with_reducible exact bracket_Least.mono _ _ _)
   | (with_reducible exact paygen_Deck_Brackets.mono _ _ _ _)
   | (with_reducible exact payrolllaw29_awake.mono _)
   | (with_reducible exact LeO.refl _)
   | (with_reducible exact LeO.none _)
   | (with_reducible refine LeO.ite ?_ ?_)
   | (with_reducible refine LeO.bind ?_ (fun _ => ?_))
   | exact ih0 _ _ _
   | exact ih1 _ _ _ _ _ _
   | exact ih2 _ _ _ _ _
   | exact bracket_Exact.mono _ _ _
   | exact bracket_Least.mono _ _ _
   | exact paygen_Deck_Brackets.mono _ _ _ _
   | exact payrolllaw29_awake.mono _
   | exact LeO.none _
   | refine LeO.ite ?_ ?_
   | refine LeO.bind ?_ (fun _ => ?_)
  ·
   intro y0 y1 y2 y3 y4 y5
   unfold payrolllaw29_BracketLeast.j1
   repeat' first
   | (with_reducible exact ih0 _ _ _)
   | (with_reducible exact ih1 _ _ _ _ _ _)
   | (with_reducible exact ih2 _ _ _ _ _)
   | (with_reducible exact bracket_Exact.mono _ _ _)
   | (with_reducible exact bracket_Least.mono _ _ _)
   | (with_reducible exact paygen_Deck_Brackets.mono _ _ _ _)
   | (with_reducible exact payrolllaw29_awake.mono _)
   | (with_reducible exact LeO.refl _)
   | (with_reducible exact LeO.none _)
   | (with_reducible refine LeO.ite ?_ ?_)
   | (with_reducible refine LeO.bind ?_ (fun _ => ?_))
   | exact ih0 _ _ _
   | exact ih1 _ _ _ _ _ _
   | exact ih2 _ _ _ _ _
   | exact bracket_Exact.mono _ _ _
   | exact bracket_Least.mono _ _ _
   | exact paygen_Deck_Brackets.mono _ _ _ _
   | exact payrolllaw29_awake.mono _
   | exact LeO.none _
   | refine LeO.ite ?_ ?_
   | refine LeO.bind ?_ (fun _ => ?_)
  ·
   intro y0 y1 y2 y3 y4
   unfold payrolllaw29_BracketLeast.j2
   repeat' first
   | (with_reducible exact ih0 _ _ _)
   | (with_reducible exact ih1 _ _ _ _ _ _)
   | (with_reducible exact ih2 _ _ _ _ _)
   | (with_reducible exact bracket_Exact.mono _ _ _)
   | (with_reducible exact bracket_Least.mono _ _ _)
   | (with_reducible exact paygen_Deck_Brackets.mono _ _ _ _)
   | (with_reducible exact payrolllaw29_awake.mono _)
   | (with_reducible exact LeO.refl _)
   | (with_reducible exact LeO.none _)
   | (with_reducible refine LeO.ite ?_ ?_)
   | (with_reducible refine LeO.bind ?_ (fun _ => ?_))
   | exact ih0 _ _ _
   | exact ih1 _ _ _ _ _ _
   | exact ih2 _ _ _ _ _
   | exact bracket_Exact.mono _ _ _
   | exact bracket_Least.mono _ _ _
   | exact paygen_Deck_Brackets.mono _ _ _ _
   | exact payrolllaw29_awake.mono _
   | exact LeO.none _
   | refine LeO.ite ?_ ?_
   | refine LeO.bind ?_ (fun _ => ?_)
theorem payrolllaw29_BracketLeast.mono : ∀ a0 a1 k, LeO (payrolllaw29_BracketLeast.f k a0 a1) (payrolllaw29_BracketLeast.f (k + 1) a0 a1) := by
 intro a0 a1 k
 obtain ⟨ih0, ih1, ih2⟩ := payrolllaw29_BracketLeast.mono_l k
 unfold payrolllaw29_BracketLeast.f
 repeat' first
   | (with_reducible exact ih0 _ _ _)
   | (with_reducible exact ih1 _ _ _ _ _ _)
   | (with_reducible exact ih2 _ _ _ _ _)
   | (with_reducible exact bracket_Exact.mono _ _ _)
   | (with_reducible exact bracket_Least.mono _ _ _)
   | (with_reducible exact paygen_Deck_Brackets.mono _ _ _ _)
   | (with_reducible exact payrolllaw29_awake.mono _)
   | (with_reducible exact LeO.refl _)
   | (with_reducible exact LeO.none _)
   | (with_reducible refine LeO.ite ?_ ?_)
   | (with_reducible refine LeO.bind ?_ (fun _ => ?_))
   | exact ih0 _ _ _
   | exact ih1 _ _ _ _ _ _
   | exact ih2 _ _ _ _ _
   | exact bracket_Exact.mono _ _ _
   | exact bracket_Least.mono _ _ _
   | exact paygen_Deck_Brackets.mono _ _ _ _
   | exact payrolllaw29_awake.mono _
   | exact LeO.none _
   | refine LeO.ite ?_ ?_
   | refine LeO.bind ?_ (fun _ => ?_)
set_option maxHeartbeats 8000000 in
set_option maxRecDepth 100000 in
theorem payrolllaw29_BracketLeast.calls (k : Nat) (A0 : Option Addr) (c0 : Nat) (l0 : List Int) (a1 : Int) (r : Bool) (w : World) (hr0 : Kd.C (Kd.int .i64) w A0 l0.length l0) (hc0 : l0.length ≤ c0) (h : payrolllaw29_BracketLeast.f k l0 a1 = some r) :
  Calls Try.prog 9 #[.slice A0 l0.length c0, .int .i64 a1] w fun e w' => e = .returned (.bool r) ∧ Below w.heap.size w w' := by
 have HR0 := Aside0.mk hr0
 have HC0 := Aside0.mk hc0
 clear hr0 hc0
 have HB := Aside0.mk (Below.refl w.heap.size w)
 have H : ((paygen_New.f l0).bind fun bt427 => ((paygen_Deck_Brackets.f k bt427.1 bt427.2 false).bind fun bt430 => ((payrolllaw29_income.f bt427.1 bt430.2 bt430.1).bind fun bt434 => ((bracket_Exact.f k bt430.1 (mn bt434.1 999999999999)).bind fun bt436 => (if bt436.2 = 0 then (payrolllaw29_BracketLeast.l0 k bt430.1 (([bt436.1, wrap64 (bt436.1 + 1), mx (wrap64 (bt436.1 - 1)) 0, a1] : List Int)) 0) else (some false)))))) = some r := h
 clear h
 replace H := Option.bind_eq_some_iff.mp H
 obtain ⟨⟨t427, t428⟩, A30, H⟩ := H
 replace H : ((paygen_Deck_Brackets.f k t427 t428 false).bind fun bt430 => ((payrolllaw29_income.f t427 bt430.2 bt430.1).bind fun bt434 => ((bracket_Exact.f k bt430.1 (mn bt434.1 999999999999)).bind fun bt436 => (if bt436.2 = 0 then (payrolllaw29_BracketLeast.l0 k bt430.1 (([bt436.1, wrap64 (bt436.1 + 1), mx (wrap64 (bt436.1 - 1)) 0, a1] : List Int)) 0) else (some false))))) = some r := H
 have A3 := Aside0.mk A30
 clear A30
 replace H := Option.bind_eq_some_iff.mp H
 obtain ⟨⟨t430, t433⟩, A40, H⟩ := H
 replace H : ((payrolllaw29_income.f t427 t433 t430).bind fun bt434 => ((bracket_Exact.f k t430 (mn bt434.1 999999999999)).bind fun bt436 => (if bt436.2 = 0 then (payrolllaw29_BracketLeast.l0 k t430 (([bt436.1, wrap64 (bt436.1 + 1), mx (wrap64 (bt436.1 - 1)) 0, a1] : List Int)) 0) else (some false)))) = some r := H
 have A4 := Aside0.mk A40
 clear A40
 replace H := Option.bind_eq_some_iff.mp H
 obtain ⟨⟨t434, t435⟩, A50, H⟩ := H
 replace H : ((bracket_Exact.f k t430 (mn t434 999999999999)).bind fun bt436 => (if bt436.2 = 0 then (payrolllaw29_BracketLeast.l0 k t430 (([bt436.1, wrap64 (bt436.1 + 1), mx (wrap64 (bt436.1 - 1)) 0, a1] : List Int)) 0) else (some false))) = some r := H
 have A5 := Aside0.mk A50
 clear A50
 obtain ⟨ji6, hji6⟩ : ∃ j_ : Int, (mn t434 999999999999) = j_ := ⟨_, rfl⟩
 replace H : ((bracket_Exact.f k t430 (ji6)).bind fun bt436 => (if bt436.2 = 0 then (payrolllaw29_BracketLeast.l0 k t430 (([bt436.1, wrap64 (bt436.1 + 1), mx (wrap64 (bt436.1 - 1)) 0, a1] : List Int)) 0) else (some false))) = some r := by first | (rw [hji6] at H; exact H) | (simp only [hji6] at H ⊢; exact H)
 (try rw [hji6] at A3)
 (try rw [hji6] at A4)
 (try rw [hji6] at A5)
 (try (have hji6h : ji6 ≤ 999999999999 := by (rw [← hji6]; unfold mn; (repeat' split) <;> omega)))
 (try (have hji6g : ji6 ≤ 64 := by omega))
 have hji6_ : (if 999999999999 < t434 then 999999999999 else t434) = ji6 := hji6
 replace H := Option.bind_eq_some_iff.mp H
 obtain ⟨⟨t436, t437⟩, A70, H⟩ := H
 replace H : (if t437 = 0 then (payrolllaw29_BracketLeast.l0 k t430 (([t436, wrap64 (t436 + 1), mx (wrap64 (t436 - 1)) 0, a1] : List Int)) 0) else (some false)) = some r := H
 have A7 := Aside0.mk A70
 clear A70
 by_cases c8 : t437 = 0
 ·
  rw [if_pos c8] at H
  have c8b0 : (t437 == 0) = true := beq_iff_eq.mpr c8
  have c8b1 : (t437 != 0) = false := bne_eq_false_iff_eq.mpr c8
  clear c8
  obtain ⟨ji9, hji9⟩ : ∃ j_ : Int, (mx (wrap64 (t436 - 1)) 0) = j_ := ⟨_, rfl⟩
  replace H : (payrolllaw29_BracketLeast.l0 k t430 (([t436, wrap64 (t436 + 1), ji9, a1] : List Int)) 0) = some r := by first | (rw [hji9] at H; exact H) | (simp only [hji9] at H ⊢; exact H)
  (try rw [hji9] at A3)
  (try rw [hji9] at A4)
  (try rw [hji9] at A5)
  (try rw [hji9] at A7)
  (try (have hji9l : 0 ≤ ji9 := by (rw [← hji9]; unfold mx; (repeat' split) <;> omega)))
  (try (have hji9m : 0 ≤ ji9 := by omega))
  have hji9_ : (if (wrap64 (t436 - 1)) < 0 then 0 else (wrap64 (t436 - 1))) = ji9 := hji9
  obtain ⟨y438, hy438⟩ : ∃ y_ : List Int, y_ = (([t436, wrap64 (t436 + 1), ji9, a1] : List Int)) := ⟨_, rfl⟩
  replace H : (payrolllaw29_BracketLeast.l0 k t430 y438 0) = some r := by first | (rw [hy438]; with_reducible exact H) | (have H2_ := (Option.bind_some _ _).symm.trans H; rw [hy438]; with_reducible exact H2_) | (have H2_ := (Option.bind_some _ _).symm.trans H; with_reducible exact H2_) | with_reducible exact H | (rw [hy438]; exact H) | exact H
  have Ny438 := Aside0.mk hy438
  clear hy438
  have H' := Aside0.mk H
  clear H
  go_enter Try.func9, Try.ntmps9
  go_wp2_with (first | ((with_reducible refine gate_callee (f := 13) rfl ?_); refine goesL_ (some 20) rfl rfl Try.func13 (by kernel_rfl) rfl #[.slice A0 l0.length c0] rfl (by (try simp only [List.map_toArray, List.map_cons, List.map_nil]); first | done | rfl | (simp only [List.length_drop, List.length_take]; rfl)) ?_; (with_reducible refine (paygen_New.calls _ _ l0 t427 t428 w _ ?side1 ?side2 ?side3 A3.out).mono ?_); (case side1 => repeat (first | (with_reducible first | exact HB.out | apply below_alloc | apply pw_below_drewN | apply below_drew1) | exact HB.out)); (case side2 => exact HR0.out); (case side3 => exact HC0.out); rintro e w10 ⟨g429, rfl, hi, hb, hb2⟩; refine ⟨_, rfl, ?_⟩; have n0_ := Aside0.mk (hb); have n1_ := Aside0.mk (hi); clear HB; have HB := n0_; have HI429 := n1_; clear n0_ n1_; (try clear hb); (try clear hb2); (try clear hk); (try clear hi)) | ((with_reducible refine gate_callee (f := 14) rfl ?_); refine goesL_ (some 22) rfl rfl Try.func14 (by kernel_rfl) rfl #[.pointer (some ⟨g429, 0, none⟩), .bool false] rfl (by (try simp only [List.map_toArray, List.map_cons, List.map_nil]); first | done | rfl | (simp only [List.length_drop, List.length_take]; rfl)) ?_; (with_reducible refine (paygen_Deck_Brackets.calls k g429 t427 t428 false t430 t433 w _ ?side1 ?side2 A4.out).mono ?_); (case side1 => repeat (first | (with_reducible first | exact HI429.out | apply IsS56.alloc | apply IsS56.drewN | apply IsS56.drew | apply IsS56.set_1) | exact HI429.out)); (case side2 => repeat (first | (with_reducible first | exact HB.out | apply below_alloc | apply pw_below_drewN | apply below_drew1 | refine below_set ?_ (IsS56.ge HI429.out)) | exact HB.out)); rintro e w11 ⟨v431, rfl, ho0, hi, hb, hk⟩; refine ⟨_, rfl, ?_⟩; have n0_ := Aside0.mk (Kd.R_lower ho0 (below_size (by repeat (first | (with_reducible first | exact HB.out | apply below_alloc | apply pw_below_drewN | apply below_drew1 | refine below_set ?_ (IsS56.ge HI429.out)) | exact HB.out)))); have n1_ := Aside0.mk (hb); have n2_ := Aside0.mk (hi); clear HB; clear HI429; have HO432 := n0_; have HB := n1_; have HI429 := n2_; clear n0_ n1_ n2_; (try clear hb); (try clear hb2); (try clear hk); (try clear hi); (try clear ho0); obtain ⟨Ao12, co12, eo12⟩ := Kd.R_slice HO432.out; subst eo12) | ((with_reducible refine gate_callee (f := 19) rfl ?_); refine goesL_ (some 27) rfl rfl Try.func19 (by kernel_rfl) rfl #[.pointer (some ⟨g429, 0, none⟩), .slice Ao12 t430.length co12] rfl (by (try simp only [List.map_toArray, List.map_cons, List.map_nil]); first | done | rfl | (simp only [List.length_drop, List.length_take]; rfl)) ?_; (with_reducible refine (payrolllaw29_income.calls g429 t427 t433 _ _ t430 t434 t435 w _ ?side1 ?side2 ?side3 ?side4 A5.out).mono ?_); (case side1 => repeat (first | (with_reducible first | exact HI429.out | apply IsS56.alloc | apply IsS56.drewN | apply IsS56.drew | apply IsS56.set_1) | exact HI429.out)); (case side2 => repeat (first | (with_reducible first | exact HB.out | apply below_alloc | apply pw_below_drewN | apply below_drew1 | refine below_set ?_ (IsS56.ge HI429.out)) | exact HB.out)); (case side3 => exact Kd.C_foot_own (IsS56.apart (show IsS56 w _ g429 t427 t433 from by repeat (first | (with_reducible first | exact HI429.out | apply IsS56.alloc | apply IsS56.drewN | apply IsS56.drew | apply IsS56.set_1) | exact HI429.out)) (by (with_reducible repeat (first | apply Kd.R_alloc | apply Kd.R_drewN | apply Kd.R_drew)); exact HO432.out) (by decide)) (fun _ h_ => h_.2)); (case side4 => exact (Kd.R_reads' HO432.out).2.1); rintro e w13 ⟨rfl, hi, hb, hk⟩; refine ⟨_, rfl, ?_⟩; have n0_ := Aside0.mk (Kd.R_mono (Kd.R_keep (IsS56.apart (show IsS56 w _ g429 t427 t433 from by repeat (first | (with_reducible first | exact HI429.out | apply IsS56.alloc | apply IsS56.drewN | apply IsS56.drew | apply IsS56.set_1) | exact HI429.out)) (by (with_reducible repeat (first | apply Kd.R_alloc | apply Kd.R_drewN | apply Kd.R_drew)); exact HO432.out) (by decide)) hk (fun _ h => h.2)) (fun _ h => h.1)); have n1_ := Aside0.mk (hb); have n2_ := Aside0.mk (hi); clear HO432; clear HB; clear HI429; have HO432 := n0_; have HB := n1_; have HI429 := n2_; clear n0_ n1_ n2_; (try clear hb); (try clear hb2); (try clear hk); (try clear hi)) | ((with_reducible refine gate_callee (f := 21) rfl ?_); refine goesL_ (some 29) rfl rfl Try.func21 (by kernel_rfl) rfl #[.slice Ao12 t430.length co12, .int .i64 ji6] rfl (by (try simp only [List.map_toArray, List.map_cons, List.map_nil]); first | done | (simp only [hji6]; rfl) | rfl | (simp only [List.length_drop, List.length_take]; rfl)) ?_; (with_reducible refine (bracket_Exact.calls k _ _ t430 ji6 t436 t437 _ ?side1 ?side2 A7.out).mono ?_); (case side1 => repeat (first | exact (Kd.R_reads' HO432.out).2.2 | (with_reducible refine Kd.C_alloc ?_ _) | (with_reducible refine Kd.C_drewN ?_ _) | (with_reducible refine Kd.C_drew ?_))); (case side2 => exact (Kd.R_reads' HO432.out).2.1); rintro e w14 ⟨rfl, hb⟩; refine ⟨_, rfl, ?_⟩; have n0_ := Aside0.mk (Kd.R_below (by (with_reducible repeat (first | apply Kd.R_alloc | apply Kd.R_drewN | apply Kd.R_drew)); exact HO432.out) hb); have n1_ := Aside0.mk (IsS56.below (by repeat (first | (with_reducible first | exact HI429.out | apply IsS56.alloc | apply IsS56.drewN | apply IsS56.drew | apply IsS56.set_1) | exact HI429.out)) hb); have n2_ := Aside0.mk (below_step (by repeat (first | (with_reducible first | exact HB.out | apply below_alloc | apply pw_below_drewN | apply below_drew1 | refine below_set ?_ (IsS56.ge HI429.out)) | exact HB.out)) hb); clear HO432; clear HI429; clear HB; have HO432 := n0_; have HI429 := n1_; have HB := n2_; clear n0_ n1_ n2_; (try clear hb); (try clear hb2); (try clear hk); (try clear hi)) | ((with_reducible refine gate_dst (N := 41) rfl ?_); refine Kd.R_lit (Kd.int .i64) _ 3 ?hg (N := 41) ?hd (xs := ([t436, wrap64 (t436 + 1), ji9, a1] : List Int)) (inner := [.int .i64 t436, .int .i64 (wrap64 (t436 + 1)), .int .i64 ji9, .int .i64 a1]) (ok := fun _ => True) (okp := fun _ => True) ?hr ?hp (fun _ hk => hk) trivial (Below.refl _ _) (Nat.le_refl _) (by simp) ?_; (case hd => rfl); (case hg => rfl); (case hr => first | (go_simp; done) | (go_simp; rfl)); (case hp => exact (Reps.one (show Kd.M (Kd.int .i64) _ _ _ t436 [.int .i64 t436] from rfl) (Reps.one (show Kd.M (Kd.int .i64) _ _ _ (wrap64 (t436 + 1)) [.int .i64 (wrap64 (t436 + 1))] from rfl) (Reps.one (show Kd.M (Kd.int .i64) _ _ _ ji9 [.int .i64 ji9] from rfl) (Reps.one (show Kd.M (Kd.int .i64) _ _ _ a1 [.int .i64 a1] from rfl) (Reps.none _ _)))))); intro v439 w15 ho16 hb hg_ hnew_; clear hg_ hnew_; (first | rw [← Ny438.out] at ho16 | (simp only [Int.reduceToNat] at ho16; rw [← Ny438.out] at ho16)); have n0_ := Aside0.mk (Kd.R_below (by (with_reducible repeat (first | apply Kd.R_alloc | apply Kd.R_drewN | apply Kd.R_drew)); exact HO432.out) hb); have n1_ := Aside0.mk (Kd.R_lower ho16 (below_size (by repeat (first | (with_reducible first | exact HB.out | apply below_alloc | apply pw_below_drewN | apply below_drew1 | refine below_set ?_ (IsS56.ge HI429.out)) | exact HB.out)))); have n2_ := Aside0.mk (IsS56.below (by repeat (first | (with_reducible first | exact HI429.out | apply IsS56.alloc | apply IsS56.drewN | apply IsS56.drew | apply IsS56.set_1) | exact HI429.out)) hb); have n3_ := Aside0.mk (below_step (by repeat (first | (with_reducible first | exact HB.out | apply below_alloc | apply pw_below_drewN | apply below_drew1 | refine below_set ?_ (IsS56.ge HI429.out)) | exact HB.out)) hb); clear HO432; clear HI429; clear HB; have HO432 := n0_; have HO440 := n1_; have HI429 := n2_; have HB := n3_; clear n0_ n1_ n2_ n3_; clear hb ho16))
  go_loopg [10] k (fun kq v10 w' => ∃ (x10_1 : Int), v10 = .int .i64 x10_1 ∧ Aside0 (payrolllaw29_BracketLeast.l0 kq t430 y438 x10_1 = some r) ∧ Aside0 (kq ≤ k) ∧ Aside0 (Kd.R k30 30 w' w.heap.size (fun _ => True) (.slice Ao12 t430.length co12) t430) ∧ Aside0 (Kd.R (Kd.int .i64) 3 w' w.heap.size (fun _ => True) v439 y438) ∧ Aside0 (Below w.heap.size w w'))
  case atStart => exact ⟨(0), (by first | rfl | (simp; done) | (simp [*]; done)), H', ⟨Nat.le_refl _⟩, ⟨by (with_reducible repeat (first | apply Kd.R_alloc | apply Kd.R_drewN | apply Kd.R_drew)); exact HO432.out⟩, ⟨by (with_reducible repeat (first | apply Kd.R_alloc | apply Kd.R_drewN | apply Kd.R_drew)); exact HO440.out⟩, ⟨by repeat (first | (with_reducible first | exact HB.out | apply below_alloc | apply pw_below_drewN | apply below_drew1 | refine below_set ?_ (IsS56.ge HI429.out)) | exact HB.out)⟩⟩
  case round =>
   clear H'
   try clear c1
   try clear c2
   try clear p2
   try clear p6
   try clear c8
   try clear c8b0
   try clear c8b1
   try clear c9
   try clear c13
   try clear c14
   obtain ⟨x10_1, rfl, HA, HK1, HO_6, HO_9, HB⟩ := hrel
   cases gk with
   | zero => exact absurd HA.out (by simp [payrolllaw29_BracketLeast.l0])
   | succ k1 =>
    have H := HA.out
    clear HA
    simp only [payrolllaw29_BracketLeast.l0] at H
    by_cases c17 : x10_1 < (y438.length : Int)
    ·
     rw [if_pos c17] at H
     have c17b0 : decide (x10_1 < (y438.length : Int)) = true := decide_eq_true c17
     clear c17
     by_cases c18 : 0 ≤ x10_1
     ·
      rw [if_pos c18] at H
      have c18b0 : decide (0 ≤ x10_1) = true := decide_eq_true c18
      clear c18
      replace H := Option.bind_eq_some_iff.mp H
      obtain ⟨⟨t443, t444⟩, A190, H⟩ := H
      replace H : ((bracket_Exact.f k1 t430 1000000000000).bind fun bt445 => (if bt445.2 = 0 then (payrolllaw29_BracketLeast.j1 k1 t430 y438 x10_1 t443 t444 (t444 != (decide (bt445.1 ≥ (rd y438 x10_1))))) else (payrolllaw29_BracketLeast.j1 k1 t430 y438 x10_1 t443 t444 true))) = some r := H
      have A19 := Aside0.mk A190
      clear A190
      replace H := Option.bind_eq_some_iff.mp H
      obtain ⟨⟨t445, t446⟩, A200, H⟩ := H
      replace H : (if t446 = 0 then (payrolllaw29_BracketLeast.j1 k1 t430 y438 x10_1 t443 t444 (t444 != (decide (t445 ≥ (rd y438 x10_1))))) else (payrolllaw29_BracketLeast.j1 k1 t430 y438 x10_1 t443 t444 true)) = some r := H
      have A20 := Aside0.mk A200
      clear A200
      have HC21 := Aside0.mk H
      clear H
      obtain ⟨Ao22, co22, eo22⟩ := Kd.R_slice HO_9.out
      subst eo22
      have p442 : 0 ≤ (x10_1 : Int) := of_decide_eq_true (by first | (with_reducible assumption) | assumption)
      have q442 : x10_1 < (y438.length : Int) := of_decide_eq_true (by first | (with_reducible assumption) | assumption)
      obtain ⟨ad442, e442, hx442_0⟩ := Kd.at_int (Kd.R_reads' HO_9.out).2.2 x10_1 p442 q442
      cases e442
      replace p442 := eq_true p442
      replace q442 := eq_true q442
      go_upto_region 12 with (first | ((with_reducible refine gate_callee (f := 28) rfl ?_); refine goesL_ (some 54) rfl rfl Try.func28 (by kernel_rfl) rfl #[.slice Ao12 t430.length co12, .int .i64 (rd y438 x10_1)] rfl (by (try simp only [List.map_toArray, List.map_cons, List.map_nil]); first | done | rfl | (simp only [List.length_drop, List.length_take]; rfl)) ?_; (with_reducible refine (bracket_Least.calls k1 _ _ t430 (rd y438 x10_1) t443 t444 _ ?side1 ?side2 A19.out).mono ?_); (case side1 => repeat (first | exact (Kd.R_reads' HO_6.out).2.2 | (with_reducible refine Kd.C_alloc ?_ _) | (with_reducible refine Kd.C_drewN ?_ _) | (with_reducible refine Kd.C_drew ?_))); (case side2 => exact (Kd.R_reads' HO_6.out).2.1); rintro e w23 ⟨rfl, hb⟩; refine ⟨_, rfl, ?_⟩; have n0_ := Aside0.mk (Kd.R_below (by (with_reducible repeat (first | apply Kd.R_alloc | apply Kd.R_drewN | apply Kd.R_drew)); exact HO_6.out) hb); have n1_ := Aside0.mk (Kd.R_below (by (with_reducible repeat (first | apply Kd.R_alloc | apply Kd.R_drewN | apply Kd.R_drew)); exact HO_9.out) hb); have n2_ := Aside0.mk (below_step (by repeat (first | (with_reducible first | exact HB.out | apply below_alloc | apply pw_below_drewN | apply below_drew1) | exact HB.out)) hb); clear HO_6; clear HO_9; clear HB; have HO_6 := n0_; have HO_9 := n1_; have HB := n2_; clear n0_ n1_ n2_; (try clear hb); (try clear hb2); (try clear hk); (try clear hi)) | ((with_reducible refine gate_callee (f := 21) rfl ?_); refine goesL_ (some 59) rfl rfl Try.func21 (by kernel_rfl) rfl #[.slice Ao12 t430.length co12, .int .i64 1000000000000] rfl (by (try simp only [List.map_toArray, List.map_cons, List.map_nil]); first | done | rfl | (simp only [List.length_drop, List.length_take]; rfl)) ?_; (with_reducible refine (bracket_Exact.calls k1 _ _ t430 1000000000000 t445 t446 _ ?side1 ?side2 A20.out).mono ?_); (case side1 => repeat (first | exact (Kd.R_reads' HO_6.out).2.2 | (with_reducible refine Kd.C_alloc ?_ _) | (with_reducible refine Kd.C_drewN ?_ _) | (with_reducible refine Kd.C_drew ?_))); (case side2 => exact (Kd.R_reads' HO_6.out).2.1); rintro e w24 ⟨rfl, hb⟩; refine ⟨_, rfl, ?_⟩; have n0_ := Aside0.mk (Kd.R_below (by (with_reducible repeat (first | apply Kd.R_alloc | apply Kd.R_drewN | apply Kd.R_drew)); exact HO_6.out) hb); have n1_ := Aside0.mk (Kd.R_below (by (with_reducible repeat (first | apply Kd.R_alloc | apply Kd.R_drewN | apply Kd.R_drew)); exact HO_9.out) hb); have n2_ := Aside0.mk (below_step (by repeat (first | (with_reducible first | exact HB.out | apply below_alloc | apply pw_below_drewN | apply below_drew1) | exact HB.out)) hb); clear HO_6; clear HO_9; clear HB; have HO_6 := n0_; have HO_9 := n1_; have HB := n2_; clear n0_ n1_ n2_; (try clear hb); (try clear hb2); (try clear hk); (try clear hi)))
      (try simp only [Act.put, List.setIfInBounds_toArray, List.set_cons_zero, List.set_cons_succ])
      go_cut [73] (fun v73 wc => ∃ (kq : Nat) (x73_20 : Bool), v73 = .bool x73_20 ∧ Aside0 (payrolllaw29_BracketLeast.j1 kq t430 y438 x10_1 t443 t444 x73_20 = some r) ∧ Aside0 (kq ≤ k1) ∧ Aside0 (Kd.R k30 30 wc w.heap.size (fun _ => True) (.slice Ao12 t430.length co12) t430) ∧ Aside0 (Kd.R (Kd.int .i64) 3 wc w.heap.size (fun _ => True) (.slice (some ad442) y438.length co22) y438) ∧ Aside0 (Below w.heap.size w wc))
      case first =>
       have H := HC21.out
       clear HC21
       by_cases c25 : t446 = 0
       ·
        rw [if_pos c25] at H
        have c25b0 : (t446 == 0) = true := beq_iff_eq.mpr c25
        have c25b1 : (t446 != 0) = false := bne_eq_false_iff_eq.mpr c25
        clear c25
        (first | rw [c25b0] | (simp only [i64_w, i32_w]; rw [c25b0]) | skip)
        have H' := Aside0.mk H
        clear H
        have p447 : 0 ≤ (x10_1 : Int) := of_decide_eq_true (by first | (with_reducible assumption) | assumption)
        have q447 : x10_1 < (y438.length : Int) := of_decide_eq_true (by first | (with_reducible assumption) | assumption)
        obtain ⟨ad447, e447, hx447_0⟩ := Kd.at_int (Kd.R_reads' HO_9.out).2.2 x10_1 p447 q447
        obtain rfl : ad442 = ad447 := (by injection e447)
        replace p447 := eq_true p447
        replace q447 := eq_true q447
        go_wp2
        go_meet
        case rel => exact ⟨_, ((t444 != (decide (t445 ≥ (rd y438 x10_1))))), (by first | rfl | (simp; done) | (simp [*]; done)), H', ⟨by have := HK1.out; first | omega | exact Nat.le_refl _⟩, ⟨by (with_reducible repeat (first | apply Kd.R_alloc | apply Kd.R_drewN | apply Kd.R_drew)); exact HO_6.out⟩, ⟨by (with_reducible repeat (first | apply Kd.R_alloc | apply Kd.R_drewN | apply Kd.R_drew)); exact HO_9.out⟩, ⟨by repeat (first | (with_reducible first | exact HB.out | apply below_alloc | apply pw_below_drewN | apply below_drew1) | exact HB.out)⟩⟩
       ·
        rw [if_neg c25] at H
        have c25b0 : (t446 == 0) = false := beq_eq_false_iff_ne.mpr c25
        have c25b1 : (t446 != 0) = true := bne_iff_ne.mpr c25
        (first | rw [c25b0] | (simp only [i64_w, i32_w]; rw [c25b0]) | skip)
        have H' := Aside0.mk H
        clear H
        go_wp2
        go_meet
        case rel => exact ⟨_, (true), (by first | rfl | (simp; done) | (simp [*]; done)), H', ⟨by have := HK1.out; first | omega | exact Nat.le_refl _⟩, ⟨by (with_reducible repeat (first | apply Kd.R_alloc | apply Kd.R_drewN | apply Kd.R_drew)); exact HO_6.out⟩, ⟨by (with_reducible repeat (first | apply Kd.R_alloc | apply Kd.R_drewN | apply Kd.R_drew)); exact HO_9.out⟩, ⟨by repeat (first | (with_reducible first | exact HB.out | apply below_alloc | apply pw_below_drewN | apply below_drew1) | exact HB.out)⟩⟩
      case rest =>
       clear HC21
       try clear c1
       try clear c2
       try clear p2
       try clear p4
       try clear q4
       try clear hx4
       try clear p6
       try clear c8
       try clear c8b0
       try clear c8b1
       try clear c9
       try clear c13
       try clear c14
       try clear c17
       try clear c17b0
       try clear c18
       try clear c18b0
       try clear c19
       try clear c21
       try clear c25
       try clear c25b0
       try clear c25b1
       try clear hx442_0
       try clear hx447_0
       try clear p2
       try clear p442
       try clear p447
       try clear p6
       try clear q442
       try clear q447
       obtain ⟨kq, x73_20, rfl, HA, HJ20, HO_6, HO_9, HB⟩ := hcut
       cases kq with
       | zero => exact absurd HA.out (by simp [payrolllaw29_BracketLeast.j1])
       | succ kj20 =>
        have H := HA.out
        clear HA
        simp only [payrolllaw29_BracketLeast.j1] at H
        by_cases c26 : x73_20 = true
        ·
         subst c26
         have H1 : (some false) = some r := by rw [if_pos rfl] at H; exact H
         clear H
         have H := H1
         clear H1
         obtain rfl := Option.some.inj H
         go_wp2
         go_ret
         exact ⟨by first | rfl | (simp [errW_none, errW_some] <;> rfl) | (simp only [← hji6, ← hji9]; first | rfl | (simp [errW_none, errW_some] <;> rfl)) | (simp [*, errW_none, errW_some] <;> rfl), by repeat (first | (with_reducible first | exact HB.out | apply below_alloc | apply pw_below_drewN | apply below_drew1) | exact HB.out)⟩
        ·
         replace c26 := Bool.eq_false_iff.mpr c26
         subst c26
         have H1 : (if t444 = true then ((bracket_Exact.f kj20 t430 t443).bind fun bt448 => (if bt448.2 = 0 then (if 0 ≤ x10_1 then (if x10_1 < (y438.length : Int) then (payrolllaw29_BracketLeast.j2 kj20 t430 y438 x10_1 t443 (decide (bt448.1 < (rd y438 x10_1)))) else (none)) else (none)) else (payrolllaw29_BracketLeast.j2 kj20 t430 y438 x10_1 t443 true))) else (if t443 = 0 then (payrolllaw29_BracketLeast.l0 kj20 t430 y438 (wrap64 (x10_1 + 1))) else (some false))) = some r := by rw [if_neg (show ¬ (false = true) by decide)] at H; exact H
         clear H
         have H := H1
         clear H1
         by_cases c27 : t444 = true
         ·
          subst c27
          have H1 : ((bracket_Exact.f kj20 t430 t443).bind fun bt448 => (if bt448.2 = 0 then (if 0 ≤ x10_1 then (if x10_1 < (y438.length : Int) then (payrolllaw29_BracketLeast.j2 kj20 t430 y438 x10_1 t443 (decide (bt448.1 < (rd y438 x10_1)))) else (none)) else (none)) else (payrolllaw29_BracketLeast.j2 kj20 t430 y438 x10_1 t443 true))) = some r := by rw [if_pos rfl] at H; exact H
          clear H
          have H := H1
          clear H1
          replace H := Option.bind_eq_some_iff.mp H
          obtain ⟨⟨t448, t449⟩, A280, H⟩ := H
          replace H : (if t449 = 0 then (if 0 ≤ x10_1 then (if x10_1 < (y438.length : Int) then (payrolllaw29_BracketLeast.j2 kj20 t430 y438 x10_1 t443 (decide (t448 < (rd y438 x10_1)))) else (none)) else (none)) else (payrolllaw29_BracketLeast.j2 kj20 t430 y438 x10_1 t443 true)) = some r := H
          have A28 := Aside0.mk A280
          clear A280
          have HC29 := Aside0.mk H
          clear H
          go_upto_region 18 with (first | ((with_reducible refine gate_callee (f := 21) rfl ?_); refine goesL_ (some 81) rfl rfl Try.func21 (by kernel_rfl) rfl #[.slice Ao12 t430.length co12, .int .i64 t443] rfl (by (try simp only [List.map_toArray, List.map_cons, List.map_nil]); first | done | rfl | (simp only [List.length_drop, List.length_take]; rfl)) ?_; (with_reducible refine (bracket_Exact.calls kj20 _ _ t430 t443 t448 t449 _ ?side1 ?side2 A28.out).mono ?_); (case side1 => repeat (first | exact (Kd.R_reads' HO_6.out).2.2 | (with_reducible refine Kd.C_alloc ?_ _) | (with_reducible refine Kd.C_drewN ?_ _) | (with_reducible refine Kd.C_drew ?_))); (case side2 => exact (Kd.R_reads' HO_6.out).2.1); rintro e w30 ⟨rfl, hb⟩; refine ⟨_, rfl, ?_⟩; have n0_ := Aside0.mk (Kd.R_below (by (with_reducible repeat (first | apply Kd.R_alloc | apply Kd.R_drewN | apply Kd.R_drew)); exact HO_6.out) hb); have n1_ := Aside0.mk (Kd.R_below (by (with_reducible repeat (first | apply Kd.R_alloc | apply Kd.R_drewN | apply Kd.R_drew)); exact HO_9.out) hb); have n2_ := Aside0.mk (below_step (by repeat (first | (with_reducible first | exact HB.out | apply below_alloc | apply pw_below_drewN | apply below_drew1) | exact HB.out)) hb); clear HO_6; clear HO_9; clear HB; have HO_6 := n0_; have HO_9 := n1_; have HB := n2_; clear n0_ n1_ n2_; (try clear hb); (try clear hb2); (try clear hk); (try clear hi)))
          (try simp only [Act.put, List.setIfInBounds_toArray, List.set_cons_zero, List.set_cons_succ])
          go_cut [93] (fun v93 wc => ∃ (kq : Nat) (x93_28 : Bool), v93 = .bool x93_28 ∧ Aside0 (payrolllaw29_BracketLeast.j2 kq t430 y438 x10_1 t443 x93_28 = some r) ∧ Aside0 (kq ≤ kj20) ∧ Aside0 (Kd.R k30 30 wc w.heap.size (fun _ => True) (.slice Ao12 t430.length co12) t430) ∧ Aside0 (Kd.R (Kd.int .i64) 3 wc w.heap.size (fun _ => True) (.slice (some ad442) y438.length co22) y438) ∧ Aside0 (Below w.heap.size w wc))
          case first =>
           have H := HC29.out
           clear HC29
           by_cases c31 : t449 = 0
           ·
            rw [if_pos c31] at H
            have c31b0 : (t449 == 0) = true := beq_iff_eq.mpr c31
            have c31b1 : (t449 != 0) = false := bne_eq_false_iff_eq.mpr c31
            clear c31
            (first | rw [c31b0] | (simp only [i64_w, i32_w]; rw [c31b0]) | skip)
            by_cases c32 : 0 ≤ x10_1
            ·
             rw [if_pos c32] at H
             have c32b0 : decide (0 ≤ x10_1) = true := decide_eq_true c32
             clear c32
             by_cases c33 : x10_1 < (y438.length : Int)
             ·
              rw [if_pos c33] at H
              have c33b0 : decide (x10_1 < (y438.length : Int)) = true := decide_eq_true c33
              clear c33
              have H' := Aside0.mk H
              clear H
              have p450 : 0 ≤ (x10_1 : Int) := of_decide_eq_true (by first | (with_reducible assumption) | assumption)
              have q450 : x10_1 < (y438.length : Int) := of_decide_eq_true (by first | (with_reducible assumption) | assumption)
              obtain ⟨ad450, e450, hx450_0⟩ := Kd.at_int (Kd.R_reads' HO_9.out).2.2 x10_1 p450 q450
              obtain rfl : ad442 = ad450 := (by injection e450)
              replace p450 := eq_true p450
              replace q450 := eq_true q450
              go_wp2
              go_meet
              case rel => exact ⟨_, (decide (t448 < (rd y438 x10_1))), (by first | rfl | (simp; done) | (simp [*]; done)), H', ⟨by have := HK1.out; have := HJ20.out; first | omega | exact Nat.le_refl _⟩, ⟨by (with_reducible repeat (first | apply Kd.R_alloc | apply Kd.R_drewN | apply Kd.R_drew)); exact HO_6.out⟩, ⟨by (with_reducible repeat (first | apply Kd.R_alloc | apply Kd.R_drewN | apply Kd.R_drew)); exact HO_9.out⟩, ⟨by repeat (first | (with_reducible first | exact HB.out | apply below_alloc | apply pw_below_drewN | apply below_drew1) | exact HB.out)⟩⟩
             ·
              rw [if_neg c33] at H
              exact absurd H (by simp)
            ·
             rw [if_neg c32] at H
             exact absurd H (by simp)
           ·
            rw [if_neg c31] at H
            have c31b0 : (t449 == 0) = false := beq_eq_false_iff_ne.mpr c31
            have c31b1 : (t449 != 0) = true := bne_iff_ne.mpr c31
            (first | rw [c31b0] | (simp only [i64_w, i32_w]; rw [c31b0]) | skip)
            have H' := Aside0.mk H
            clear H
            go_wp2
            go_meet
            case rel => exact ⟨_, (true), (by first | rfl | (simp; done) | (simp [*]; done)), H', ⟨by have := HK1.out; have := HJ20.out; first | omega | exact Nat.le_refl _⟩, ⟨by (with_reducible repeat (first | apply Kd.R_alloc | apply Kd.R_drewN | apply Kd.R_drew)); exact HO_6.out⟩, ⟨by (with_reducible repeat (first | apply Kd.R_alloc | apply Kd.R_drewN | apply Kd.R_drew)); exact HO_9.out⟩, ⟨by repeat (first | (with_reducible first | exact HB.out | apply below_alloc | apply pw_below_drewN | apply below_drew1) | exact HB.out)⟩⟩
          case rest =>
           clear HC29
           try clear c1
           try clear c2
           try clear p2
           try clear c3
           try clear p4
           try clear q4
           try clear hx4
           try clear p6
           try clear c8
           try clear c8b0
           try clear c8b1
           try clear c9
           try clear c13
           try clear c14
           try clear c17
           try clear c17b0
           try clear c18
           try clear c18b0
           try clear c19
           try clear c21
           try clear c25
           try clear c25b0
           try clear c25b1
           try clear c26
           try clear c27
           try clear c28
           try clear c31
           try clear c31b0
           try clear c31b1
           try clear c32
           try clear c32b0
           try clear c33
           try clear c33b0
           try clear hx442_0
           try clear hx447_0
           try clear hx450_0
           try clear p2
           try clear p4
           try clear p442
           try clear p447
           try clear p450
           try clear p6
           try clear q4
           try clear q442
           try clear q447
           try clear q450
           obtain ⟨kq, x93_28, rfl, HA, HJ28, HO_6, HO_9, HB⟩ := hcut
           cases kq with
           | zero => exact absurd HA.out (by simp [payrolllaw29_BracketLeast.j2])
           | succ kj28 =>
            have H := HA.out
            clear HA
            simp only [payrolllaw29_BracketLeast.j2] at H
            by_cases c34 : x93_28 = true
            ·
             subst c34
             have H1 : (some false) = some r := by rw [if_pos rfl] at H; exact H
             clear H
             have H := H1
             clear H1
             obtain rfl := Option.some.inj H
             go_wp2
             go_ret
             exact ⟨by first | rfl | (simp [errW_none, errW_some] <;> rfl) | (simp only [← hji6, ← hji9]; first | rfl | (simp [errW_none, errW_some] <;> rfl)) | (simp [*, errW_none, errW_some] <;> rfl), by repeat (first | (with_reducible first | exact HB.out | apply below_alloc | apply pw_below_drewN | apply below_drew1) | exact HB.out)⟩
            ·
             replace c34 := Bool.eq_false_iff.mpr c34
             subst c34
             have H1 : (if t443 > 0 then ((bracket_Exact.f kj28 t430 (wrap64 (t443 - 1))).bind fun bt451 => (if bt451.2 = 0 then (if 0 ≤ x10_1 then (if x10_1 < (y438.length : Int) then (if bt451.1 ≥ (rd y438 x10_1) then (some false) else (payrolllaw29_BracketLeast.l0 kj28 t430 y438 (wrap64 (x10_1 + 1)))) else (none)) else (none)) else (some false))) else (payrolllaw29_BracketLeast.l0 kj28 t430 y438 (wrap64 (x10_1 + 1)))) = some r := by rw [if_neg (show ¬ (false = true) by decide)] at H; exact H
             clear H
             have H := H1
             clear H1
             by_cases c35 : t443 > 0
             ·
              rw [if_pos c35] at H
              have c35b0 : decide (0 < t443) = true := decide_eq_true c35
              clear c35
              replace H := Option.bind_eq_some_iff.mp H
              obtain ⟨⟨t451, t452⟩, A360, H⟩ := H
              replace H : (if t452 = 0 then (if 0 ≤ x10_1 then (if x10_1 < (y438.length : Int) then (if t451 ≥ (rd y438 x10_1) then (some false) else (payrolllaw29_BracketLeast.l0 kj28 t430 y438 (wrap64 (x10_1 + 1)))) else (none)) else (none)) else (some false)) = some r := H
              have A36 := Aside0.mk A360
              clear A360
              by_cases c37 : t452 = 0
              ·
               rw [if_pos c37] at H
               have c37b0 : (t452 == 0) = true := beq_iff_eq.mpr c37
               have c37b1 : (t452 != 0) = false := bne_eq_false_iff_eq.mpr c37
               clear c37
               by_cases c38 : 0 ≤ x10_1
               ·
                rw [if_pos c38] at H
                have c38b0 : decide (0 ≤ x10_1) = true := decide_eq_true c38
                clear c38
                by_cases c39 : x10_1 < (y438.length : Int)
                ·
                 rw [if_pos c39] at H
                 have c39b0 : decide (x10_1 < (y438.length : Int)) = true := decide_eq_true c39
                 clear c39
                 by_cases c40 : t451 ≥ (rd y438 x10_1)
                 ·
                  rw [if_pos c40] at H
                  have c40b0 : decide ((rd y438 x10_1) ≤ t451) = true := decide_eq_true c40
                  clear c40
                  obtain rfl := Option.some.inj H
                  go_wp2_with (first | ((with_reducible refine gate_callee (f := 21) rfl ?_); refine goesL_ (some 100) rfl rfl Try.func21 (by kernel_rfl) rfl #[.slice Ao12 t430.length co12, .int .i64 (wrap64 (t443 - 1))] rfl (by (try simp only [List.map_toArray, List.map_cons, List.map_nil]); first | done | rfl | (simp only [List.length_drop, List.length_take]; rfl)) ?_; (with_reducible refine (bracket_Exact.calls kj28 _ _ t430 (wrap64 (t443 - 1)) t451 t452 _ ?side1 ?side2 A36.out).mono ?_); (case side1 => repeat (first | exact (Kd.R_reads' HO_6.out).2.2 | (with_reducible refine Kd.C_alloc ?_ _) | (with_reducible refine Kd.C_drewN ?_ _) | (with_reducible refine Kd.C_drew ?_))); (case side2 => exact (Kd.R_reads' HO_6.out).2.1); rintro e w41 ⟨rfl, hb⟩; refine ⟨_, rfl, ?_⟩; have n0_ := Aside0.mk (Kd.R_below (by (with_reducible repeat (first | apply Kd.R_alloc | apply Kd.R_drewN | apply Kd.R_drew)); exact HO_6.out) hb); have n1_ := Aside0.mk (Kd.R_below (by (with_reducible repeat (first | apply Kd.R_alloc | apply Kd.R_drewN | apply Kd.R_drew)); exact HO_9.out) hb); have n2_ := Aside0.mk (below_step (by repeat (first | (with_reducible first | exact HB.out | apply below_alloc | apply pw_below_drewN | apply below_drew1) | exact HB.out)) hb); clear HO_6; clear HO_9; clear HB; have HO_6 := n0_; have HO_9 := n1_; have HB := n2_; clear n0_ n1_ n2_; (try clear hb); (try clear hb2); (try clear hk); (try clear hi); have p453 : 0 ≤ (x10_1 : Int) := of_decide_eq_true (by first | (with_reducible assumption) | assumption); have q453 : x10_1 < (y438.length : Int) := of_decide_eq_true (by first | (with_reducible assumption) | assumption); obtain ⟨ad453, e453, hx453_0⟩ := Kd.at_int (Kd.R_reads' HO_9.out).2.2 x10_1 p453 q453; obtain rfl : ad442 = ad453 := (by injection e453); replace p453 := eq_true p453; replace q453 := eq_true q453))
                  go_ret
                  exact ⟨by first | rfl | (simp [errW_none, errW_some] <;> rfl) | (simp only [← hji6, ← hji9]; first | rfl | (simp [errW_none, errW_some] <;> rfl)) | (simp [*, errW_none, errW_some] <;> rfl), by repeat (first | (with_reducible first | exact HB.out | apply below_alloc | apply pw_below_drewN | apply below_drew1) | exact HB.out)⟩
                 ·
                  rw [if_neg c40] at H
                  have c40b0 : decide ((rd y438 x10_1) ≤ t451) = false := decide_eq_false c40
                  clear c40
                  have H' := Aside0.mk H
                  clear H
                  go_wp2_with (first | ((with_reducible refine gate_callee (f := 21) rfl ?_); refine goesL_ (some 100) rfl rfl Try.func21 (by kernel_rfl) rfl #[.slice Ao12 t430.length co12, .int .i64 (wrap64 (t443 - 1))] rfl (by (try simp only [List.map_toArray, List.map_cons, List.map_nil]); first | done | rfl | (simp only [List.length_drop, List.length_take]; rfl)) ?_; (with_reducible refine (bracket_Exact.calls kj28 _ _ t430 (wrap64 (t443 - 1)) t451 t452 _ ?side1 ?side2 A36.out).mono ?_); (case side1 => repeat (first | exact (Kd.R_reads' HO_6.out).2.2 | (with_reducible refine Kd.C_alloc ?_ _) | (with_reducible refine Kd.C_drewN ?_ _) | (with_reducible refine Kd.C_drew ?_))); (case side2 => exact (Kd.R_reads' HO_6.out).2.1); rintro e w42 ⟨rfl, hb⟩; refine ⟨_, rfl, ?_⟩; have n0_ := Aside0.mk (Kd.R_below (by (with_reducible repeat (first | apply Kd.R_alloc | apply Kd.R_drewN | apply Kd.R_drew)); exact HO_6.out) hb); have n1_ := Aside0.mk (Kd.R_below (by (with_reducible repeat (first | apply Kd.R_alloc | apply Kd.R_drewN | apply Kd.R_drew)); exact HO_9.out) hb); have n2_ := Aside0.mk (below_step (by repeat (first | (with_reducible first | exact HB.out | apply below_alloc | apply pw_below_drewN | apply below_drew1) | exact HB.out)) hb); clear HO_6; clear HO_9; clear HB; have HO_6 := n0_; have HO_9 := n1_; have HB := n2_; clear n0_ n1_ n2_; (try clear hb); (try clear hb2); (try clear hk); (try clear hi); have p453 : 0 ≤ (x10_1 : Int) := of_decide_eq_true (by first | (with_reducible assumption) | assumption); have q453 : x10_1 < (y438.length : Int) := of_decide_eq_true (by first | (with_reducible assumption) | assumption); obtain ⟨ad453, e453, hx453_0⟩ := Kd.at_int (Kd.R_reads' HO_9.out).2.2 x10_1 p453 q453; obtain rfl : ad442 = ad453 := (by injection e453); replace p453 := eq_true p453; replace q453 := eq_true q453))
                  go_roundg kj28
                  case measure => have := HK1.out; have := HJ20.out; have := HJ28.out; omega
                  case rel => exact ⟨(wrap64 (x10_1 + 1)), (by first | rfl | (simp; done) | (simp [*]; done)), H', ⟨by have := HK1.out; have := HJ20.out; have := HJ28.out; omega⟩, ⟨by (with_reducible repeat (first | apply Kd.R_alloc | apply Kd.R_drewN | apply Kd.R_drew)); exact HO_6.out⟩, ⟨by (with_reducible repeat (first | apply Kd.R_alloc | apply Kd.R_drewN | apply Kd.R_drew)); exact HO_9.out⟩, ⟨by repeat (first | (with_reducible first | exact HB.out | apply below_alloc | apply pw_below_drewN | apply below_drew1) | exact HB.out)⟩⟩
                ·
                 rw [if_neg c39] at H
                 exact absurd H (by simp)
               ·
                rw [if_neg c38] at H
                exact absurd H (by simp)
              ·
               rw [if_neg c37] at H
               have c37b0 : (t452 == 0) = false := beq_eq_false_iff_ne.mpr c37
               have c37b1 : (t452 != 0) = true := bne_iff_ne.mpr c37
               obtain rfl := Option.some.inj H
               go_wp2_with (first | ((with_reducible refine gate_callee (f := 21) rfl ?_); refine goesL_ (some 100) rfl rfl Try.func21 (by kernel_rfl) rfl #[.slice Ao12 t430.length co12, .int .i64 (wrap64 (t443 - 1))] rfl (by (try simp only [List.map_toArray, List.map_cons, List.map_nil]); first | done | rfl | (simp only [List.length_drop, List.length_take]; rfl)) ?_; (with_reducible refine (bracket_Exact.calls kj28 _ _ t430 (wrap64 (t443 - 1)) t451 t452 _ ?side1 ?side2 A36.out).mono ?_); (case side1 => repeat (first | exact (Kd.R_reads' HO_6.out).2.2 | (with_reducible refine Kd.C_alloc ?_ _) | (with_reducible refine Kd.C_drewN ?_ _) | (with_reducible refine Kd.C_drew ?_))); (case side2 => exact (Kd.R_reads' HO_6.out).2.1); rintro e w43 ⟨rfl, hb⟩; refine ⟨_, rfl, ?_⟩; have n0_ := Aside0.mk (Kd.R_below (by (with_reducible repeat (first | apply Kd.R_alloc | apply Kd.R_drewN | apply Kd.R_drew)); exact HO_6.out) hb); have n1_ := Aside0.mk (Kd.R_below (by (with_reducible repeat (first | apply Kd.R_alloc | apply Kd.R_drewN | apply Kd.R_drew)); exact HO_9.out) hb); have n2_ := Aside0.mk (below_step (by repeat (first | (with_reducible first | exact HB.out | apply below_alloc | apply pw_below_drewN | apply below_drew1) | exact HB.out)) hb); clear HO_6; clear HO_9; clear HB; have HO_6 := n0_; have HO_9 := n1_; have HB := n2_; clear n0_ n1_ n2_; (try clear hb); (try clear hb2); (try clear hk); (try clear hi)))
               go_ret
               exact ⟨by first | rfl | (simp [errW_none, errW_some] <;> rfl) | (simp only [← hji6, ← hji9]; first | rfl | (simp [errW_none, errW_some] <;> rfl)) | (simp [*, errW_none, errW_some] <;> rfl), by repeat (first | (with_reducible first | exact HB.out | apply below_alloc | apply pw_below_drewN | apply below_drew1) | exact HB.out)⟩
             ·
              rw [if_neg c35] at H
              have c35b0 : decide (0 < t443) = false := decide_eq_false c35
              clear c35
              have H' := Aside0.mk H
              clear H
              go_wp2
              go_roundg kj28
              case measure => have := HK1.out; have := HJ20.out; have := HJ28.out; omega
              case rel => exact ⟨(wrap64 (x10_1 + 1)), (by first | rfl | (simp; done) | (simp [*]; done)), H', ⟨by have := HK1.out; have := HJ20.out; have := HJ28.out; omega⟩, ⟨by (with_reducible repeat (first | apply Kd.R_alloc | apply Kd.R_drewN | apply Kd.R_drew)); exact HO_6.out⟩, ⟨by (with_reducible repeat (first | apply Kd.R_alloc | apply Kd.R_drewN | apply Kd.R_drew)); exact HO_9.out⟩, ⟨by repeat (first | (with_reducible first | exact HB.out | apply below_alloc | apply pw_below_drewN | apply below_drew1) | exact HB.out)⟩⟩
         ·
          replace c27 := Bool.eq_false_iff.mpr c27
          subst c27
          have H1 : (if t443 = 0 then (payrolllaw29_BracketLeast.l0 kj20 t430 y438 (wrap64 (x10_1 + 1))) else (some false)) = some r := by rw [if_neg (show ¬ (false = true) by decide)] at H; exact H
          clear H
          have H := H1
          clear H1
          by_cases c44 : t443 = 0
          ·
           rw [if_pos c44] at H
           have c44b0 : (t443 == 0) = true := beq_iff_eq.mpr c44
           have c44b1 : (t443 != 0) = false := bne_eq_false_iff_eq.mpr c44
           clear c44
           have H' := Aside0.mk H
           clear H
           go_wp2
           go_roundg kj20
           case measure => have := HK1.out; have := HJ20.out; omega
           case rel => exact ⟨(wrap64 (x10_1 + 1)), (by first | rfl | (simp; done) | (simp [*]; done)), H', ⟨by have := HK1.out; have := HJ20.out; omega⟩, ⟨by (with_reducible repeat (first | apply Kd.R_alloc | apply Kd.R_drewN | apply Kd.R_drew)); exact HO_6.out⟩, ⟨by (with_reducible repeat (first | apply Kd.R_alloc | apply Kd.R_drewN | apply Kd.R_drew)); exact HO_9.out⟩, ⟨by repeat (first | (with_reducible first | exact HB.out | apply below_alloc | apply pw_below_drewN | apply below_drew1) | exact HB.out)⟩⟩
          ·
           rw [if_neg c44] at H
           have c44b0 : (t443 == 0) = false := beq_eq_false_iff_ne.mpr c44
           have c44b1 : (t443 != 0) = true := bne_iff_ne.mpr c44
           obtain rfl := Option.some.inj H
           go_wp2
           go_ret
           exact ⟨by first | rfl | (simp [errW_none, errW_some] <;> rfl) | (simp only [← hji6, ← hji9]; first | rfl | (simp [errW_none, errW_some] <;> rfl)) | (simp [*, errW_none, errW_some] <;> rfl), by repeat (first | (with_reducible first | exact HB.out | apply below_alloc | apply pw_below_drewN | apply below_drew1) | exact HB.out)⟩
     ·
      rw [if_neg c18] at H
      exact absurd H (by simp)
    ·
     rw [if_neg c17] at H
     have c17b0 : decide (x10_1 < (y438.length : Int)) = false := decide_eq_false c17
     clear c17
     replace H := Option.bind_eq_some_iff.mp H
     obtain ⟨t441, A450, H⟩ := H
     replace H : (some t441) = some r := H
     have A45 := Aside0.mk A450
     clear A450
     obtain rfl := Option.some.inj H
     obtain ⟨Ao46, co46, eo46⟩ := Kd.R_slice HO_9.out
     subst eo46
     go_wp2_with (first | ((with_reducible refine gate_callee (f := 12) rfl ?_); refine goesL_ (some 113) rfl rfl Try.func12 (by kernel_rfl) rfl #[] rfl (by (try simp only [List.map_toArray, List.map_cons, List.map_nil]); first | done | rfl | (simp only [List.length_drop, List.length_take]; rfl)) ?_; (with_reducible refine (payrolllaw29_awake.calls k1  t441 _ A45.out).mono ?_); rintro e w47 ⟨rfl, hb⟩; refine ⟨_, rfl, ?_⟩; have n0_ := Aside0.mk (Kd.R_below (by (with_reducible repeat (first | apply Kd.R_alloc | apply Kd.R_drewN | apply Kd.R_drew)); exact HO_6.out) hb); have n1_ := Aside0.mk (Kd.R_below (by (with_reducible repeat (first | apply Kd.R_alloc | apply Kd.R_drewN | apply Kd.R_drew)); exact HO_9.out) hb); have n2_ := Aside0.mk (below_step (by repeat (first | (with_reducible first | exact HB.out | apply below_alloc | apply pw_below_drewN | apply below_drew1) | exact HB.out)) hb); clear HO_6; clear HO_9; clear HB; have HO_6 := n0_; have HO_9 := n1_; have HB := n2_; clear n0_ n1_ n2_; (try clear hb); (try clear hb2); (try clear hk); (try clear hi)))
     go_ret
     exact ⟨by first | rfl | (simp [errW_none, errW_some] <;> rfl) | (simp only [← hji6, ← hji9]; first | rfl | (simp [errW_none, errW_some] <;> rfl)) | (simp [*, errW_none, errW_some] <;> rfl), by repeat (first | (with_reducible first | exact HB.out | apply below_alloc | apply pw_below_drewN | apply below_drew1) | exact HB.out)⟩
 ·
  rw [if_neg c8] at H
  have c8b0 : (t437 == 0) = false := beq_eq_false_iff_ne.mpr c8
  have c8b1 : (t437 != 0) = true := bne_iff_ne.mpr c8
  obtain rfl := Option.some.inj H
  go_enter Try.func9, Try.ntmps9
  go_wp2_with (first | ((with_reducible refine gate_callee (f := 13) rfl ?_); refine goesL_ (some 20) rfl rfl Try.func13 (by kernel_rfl) rfl #[.slice A0 l0.length c0] rfl (by (try simp only [List.map_toArray, List.map_cons, List.map_nil]); first | done | rfl | (simp only [List.length_drop, List.length_take]; rfl)) ?_; (with_reducible refine (paygen_New.calls _ _ l0 t427 t428 w _ ?side1 ?side2 ?side3 A3.out).mono ?_); (case side1 => repeat (first | (with_reducible first | exact HB.out | apply below_alloc | apply pw_below_drewN | apply below_drew1) | exact HB.out)); (case side2 => exact HR0.out); (case side3 => exact HC0.out); rintro e w48 ⟨g429, rfl, hi, hb, hb2⟩; refine ⟨_, rfl, ?_⟩; have n0_ := Aside0.mk (hb); have n1_ := Aside0.mk (hi); clear HB; have HB := n0_; have HI429 := n1_; clear n0_ n1_; (try clear hb); (try clear hb2); (try clear hk); (try clear hi)) | ((with_reducible refine gate_callee (f := 14) rfl ?_); refine goesL_ (some 22) rfl rfl Try.func14 (by kernel_rfl) rfl #[.pointer (some ⟨g429, 0, none⟩), .bool false] rfl (by (try simp only [List.map_toArray, List.map_cons, List.map_nil]); first | done | rfl | (simp only [List.length_drop, List.length_take]; rfl)) ?_; (with_reducible refine (paygen_Deck_Brackets.calls k g429 t427 t428 false t430 t433 w _ ?side1 ?side2 A4.out).mono ?_); (case side1 => repeat (first | (with_reducible first | exact HI429.out | apply IsS56.alloc | apply IsS56.drewN | apply IsS56.drew | apply IsS56.set_1) | exact HI429.out)); (case side2 => repeat (first | (with_reducible first | exact HB.out | apply below_alloc | apply pw_below_drewN | apply below_drew1 | refine below_set ?_ (IsS56.ge HI429.out)) | exact HB.out)); rintro e w49 ⟨v431, rfl, ho0, hi, hb, hk⟩; refine ⟨_, rfl, ?_⟩; have n0_ := Aside0.mk (Kd.R_lower ho0 (below_size (by repeat (first | (with_reducible first | exact HB.out | apply below_alloc | apply pw_below_drewN | apply below_drew1 | refine below_set ?_ (IsS56.ge HI429.out)) | exact HB.out)))); have n1_ := Aside0.mk (hb); have n2_ := Aside0.mk (hi); clear HB; clear HI429; have HO432 := n0_; have HB := n1_; have HI429 := n2_; clear n0_ n1_ n2_; (try clear hb); (try clear hb2); (try clear hk); (try clear hi); (try clear ho0); obtain ⟨Ao50, co50, eo50⟩ := Kd.R_slice HO432.out; subst eo50) | ((with_reducible refine gate_callee (f := 19) rfl ?_); refine goesL_ (some 27) rfl rfl Try.func19 (by kernel_rfl) rfl #[.pointer (some ⟨g429, 0, none⟩), .slice Ao50 t430.length co50] rfl (by (try simp only [List.map_toArray, List.map_cons, List.map_nil]); first | done | rfl | (simp only [List.length_drop, List.length_take]; rfl)) ?_; (with_reducible refine (payrolllaw29_income.calls g429 t427 t433 _ _ t430 t434 t435 w _ ?side1 ?side2 ?side3 ?side4 A5.out).mono ?_); (case side1 => repeat (first | (with_reducible first | exact HI429.out | apply IsS56.alloc | apply IsS56.drewN | apply IsS56.drew | apply IsS56.set_1) | exact HI429.out)); (case side2 => repeat (first | (with_reducible first | exact HB.out | apply below_alloc | apply pw_below_drewN | apply below_drew1 | refine below_set ?_ (IsS56.ge HI429.out)) | exact HB.out)); (case side3 => exact Kd.C_foot_own (IsS56.apart (show IsS56 w _ g429 t427 t433 from by repeat (first | (with_reducible first | exact HI429.out | apply IsS56.alloc | apply IsS56.drewN | apply IsS56.drew | apply IsS56.set_1) | exact HI429.out)) (by (with_reducible repeat (first | apply Kd.R_alloc | apply Kd.R_drewN | apply Kd.R_drew)); exact HO432.out) (by decide)) (fun _ h_ => h_.2)); (case side4 => exact (Kd.R_reads' HO432.out).2.1); rintro e w51 ⟨rfl, hi, hb, hk⟩; refine ⟨_, rfl, ?_⟩; have n0_ := Aside0.mk (Kd.R_mono (Kd.R_keep (IsS56.apart (show IsS56 w _ g429 t427 t433 from by repeat (first | (with_reducible first | exact HI429.out | apply IsS56.alloc | apply IsS56.drewN | apply IsS56.drew | apply IsS56.set_1) | exact HI429.out)) (by (with_reducible repeat (first | apply Kd.R_alloc | apply Kd.R_drewN | apply Kd.R_drew)); exact HO432.out) (by decide)) hk (fun _ h => h.2)) (fun _ h => h.1)); have n1_ := Aside0.mk (hb); have n2_ := Aside0.mk (hi); clear HO432; clear HB; clear HI429; have HO432 := n0_; have HB := n1_; have HI429 := n2_; clear n0_ n1_ n2_; (try clear hb); (try clear hb2); (try clear hk); (try clear hi)) | ((with_reducible refine gate_callee (f := 21) rfl ?_); refine goesL_ (some 29) rfl rfl Try.func21 (by kernel_rfl) rfl #[.slice Ao50 t430.length co50, .int .i64 ji6] rfl (by (try simp only [List.map_toArray, List.map_cons, List.map_nil]); first | done | (simp only [hji6]; rfl) | rfl | (simp only [List.length_drop, List.length_take]; rfl)) ?_; (with_reducible refine (bracket_Exact.calls k _ _ t430 ji6 t436 t437 _ ?side1 ?side2 A7.out).mono ?_); (case side1 => repeat (first | exact (Kd.R_reads' HO432.out).2.2 | (with_reducible refine Kd.C_alloc ?_ _) | (with_reducible refine Kd.C_drewN ?_ _) | (with_reducible refine Kd.C_drew ?_))); (case side2 => exact (Kd.R_reads' HO432.out).2.1); rintro e w52 ⟨rfl, hb⟩; refine ⟨_, rfl, ?_⟩; have n0_ := Aside0.mk (Kd.R_below (by (with_reducible repeat (first | apply Kd.R_alloc | apply Kd.R_drewN | apply Kd.R_drew)); exact HO432.out) hb); have n1_ := Aside0.mk (IsS56.below (by repeat (first | (with_reducible first | exact HI429.out | apply IsS56.alloc | apply IsS56.drewN | apply IsS56.drew | apply IsS56.set_1) | exact HI429.out)) hb); have n2_ := Aside0.mk (below_step (by repeat (first | (with_reducible first | exact HB.out | apply below_alloc | apply pw_below_drewN | apply below_drew1 | refine below_set ?_ (IsS56.ge HI429.out)) | exact HB.out)) hb); clear HO432; clear HI429; clear HB; have HO432 := n0_; have HI429 := n1_; have HB := n2_; clear n0_ n1_ n2_; (try clear hb); (try clear hb2); (try clear hk); (try clear hi)))
  go_ret
  exact ⟨by first | rfl | (simp [errW_none, errW_some] <;> rfl) | (simp only [← hji6]; first | rfl | (simp [errW_none, errW_some] <;> rfl)) | (simp [*, errW_none, errW_some] <;> rfl), by repeat (first | (with_reducible first | exact HB.out | apply below_alloc | apply pw_below_drewN | apply below_drew1 | refine below_set ?_ (IsS56.ge HI429.out)) | exact HB.out)⟩

/-- THE ONE PURE STATEMENT of payrolllaw29_BracketLeast: yours. -/
def payrolllaw29_BracketLeast.Pure : Prop := ∀ (l0 : List Int) (a1 : Int), l0.length ≤ maxLen → l0.length * 8 ≤ 140737488351232 → (∀ x ∈ l0, (Lit.int .i64 x).wf = true) → (Lit.int .i64 a1).wf = true → ∃ k, payrolllaw29_BracketLeast.f k l0 a1 = some true
theorem payrolllaw29_BracketLeast.walk (P : payrolllaw29_BracketLeast.Pure) (a0 : Option Addr) (len0 cap0 : Nat) (z0 : List Int) (a1 : Int) (w : World) (w0 : (a0 = none ∧ len0 = 0 ∧ cap0 = 0 ∧ z0 = []) ∨ ∃ x, a0 = some x ∧ len0 ≤ cap0 ∧ cap0 ≤ maxLen ∧ z0.length = cap0 ∧ (∀ i, i < z0.length → w.cell? (x.add i) = some (.int .i64 (z0.getD i 0))) ∧ ∀ n ∈ z0, (Lit.int .i64 n).wf = true) (y0 : len0 * 8 ≤ 140737488351232) (w1 : (Lit.int .i64 a1).wf = true) :
  Calls Try.prog 9 #[.slice a0 len0 cap0, .int .i64 a1] w fun e w' => e = .returned (.bool true) ∧ Below w.heap.size w w' := by
 obtain ⟨l0, rfl, hr0, hm0, hw0, hc0⟩ := ReadsInt.ofRowC w0
 obtain ⟨k, h⟩ := P l0 a1 hm0 y0 hw0 w1
 refine (payrolllaw29_BracketLeast.calls k _ _ l0 a1 true w (Kd.C_of_reads (d := (0 : Int)) (h1 := fun _ => rfl) hr0) hc0 h).mono ?_
 rintro e w' ⟨rfl, hd⟩
 exact ⟨rfl, hd⟩

end Go.Proofs.Ytafoplpaoahdiaa.P
