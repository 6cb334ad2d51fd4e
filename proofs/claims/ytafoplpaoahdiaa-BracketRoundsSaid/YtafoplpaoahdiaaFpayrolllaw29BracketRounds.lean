/- Proved here: that the Go function payrolllaw29_BracketRounds computes the plain function of that name (the machine side of the laws, reworked from a print; no condition of its own). -/
import Derived.Test.YtafoplpaoahdiaaProg
import Derived.Test.YtafoplpaoahdiaaV1
import Derived.Test.YtafoplpaoahdiaaFPRE0
import Derived.Test.YtafoplpaoahdiaaFbracketExact
import Derived.Test.YtafoplpaoahdiaaFpayrolllaw29awake
import Derived.Test.YtafoplpaoahdiaaFPRE3
import Derived.Test.YtafoplpaoahdiaaFpaygenNew
import Derived.Test.YtafoplpaoahdiaaFpaygenDeckPick
import Derived.Test.YtafoplpaoahdiaaFpaygenDeckBrackets
import Derived.Test.YtafoplpaoahdiaaFpaygenDeckSmall
import Derived.Test.YtafoplpaoahdiaaFpaygenDeckMode
import Derived.Test.YtafoplpaoahdiaaFbracketTax
namespace Go.Proofs.Ytafoplpaoahdiaa.P
open Go.RowKit Go.Proofs.YtafoplpaoahdiaaW.PrintWords Go.Proofs.YtafoplpaoahdiaaW.PrintLast Go.Proofs.YtafoplpaoahdiaaW.PrintMore
attribute [local go_sem] max2_int min2_int max_two min_two max_three min_three max_four min_four   -- for this text's walks alone
set_option linter.unusedVariables false
set_option linter.unusedSimpArgs false

mutual
def payrolllaw29_BracketRounds.j0 : Nat → Int → Int → Int → Bool → Option (Bool)
 | 0, _, _, _, _ => none
 | k + 1, x7, x12, x13, x68 => if x68 = true then (some false) else (if x7 = 0 then (payrolllaw29_BracketRounds.j1 k x12 x13 x7 (x7 == 0)) else (payrolllaw29_BracketRounds.j1 k x12 x13 x7 (x7 == 2)))
def payrolllaw29_BracketRounds.j1 : Nat → Int → Int → Int → Bool → Option (Bool)
 | 0, _, _, _, _ => none
 | k + 1, x12, x13, x69, x70 => if x70 = true then (if x12 ≤ 0 then ((payrolllaw29_awake.f k).bind fun t478 => (some t478)) else (some false)) else (if x69 = 1 then (payrolllaw29_BracketRounds.j2 k x12 x13 (x69 == 1)) else (payrolllaw29_BracketRounds.j2 k x12 x13 (x69 == 3)))
def payrolllaw29_BracketRounds.j2 : Nat → Int → Int → Bool → Option (Bool)
 | 0, _, _, _ => none
 | k + 1, x12, x13, x78 => if x78 = true then (if x12 ≥ 0 then ((payrolllaw29_awake.f k).bind fun t479 => (some t479)) else (some false)) else (if (wrap64 (2 * x12)) ≤ x13 then (if (wrap64 ((-2) * x12)) ≤ x13 then ((payrolllaw29_awake.f k).bind fun t480 => (some t480)) else (some false)) else (some false))
end
def payrolllaw29_BracketRounds.f (k : Nat) (l0 : List Int) : Option (Bool) := (paygen_New.f l0).bind fun bt458 => ((paygen_Deck_Brackets.f k bt458.1 bt458.2 false).bind fun bt461 => ((paygen_Deck_Small.f bt458.1 bt461.2).bind fun bt465 => ((paygen_Deck_Pick.f bt458.1 bt465.2 (([1, 5, 100, 1000] : List Int))).bind fun bt470 => ((paygen_Deck_Mode.f bt458.1 bt470.2).bind fun bt472 => ((bracket_Exact.f k bt461.1 (wrap64 (10 * bt465.1))).bind fun bt474 => ((bracket_Tax.f k bt461.1 (wrap64 (10 * bt465.1)) bt470.1 bt472.1).bind fun bt476 => (if bt474.2 = 0 then (if bt476.2 = 0 then (if bt470.1 = 0 then (none) else (if (Int.tmod bt476.1 bt470.1) = 0 then (if (wrap64 ((wrap64 (bt476.1 * 1000000)) - bt474.1)) ≥ (wrap64 (bt470.1 * 1000000)) then (payrolllaw29_BracketRounds.j0 k bt472.1 (wrap64 ((wrap64 (bt476.1 * 1000000)) - bt474.1)) (wrap64 (bt470.1 * 1000000)) true) else (payrolllaw29_BracketRounds.j0 k bt472.1 (wrap64 ((wrap64 (bt476.1 * 1000000)) - bt474.1)) (wrap64 (bt470.1 * 1000000)) (decide ((wrap64 ((wrap64 (bt476.1 * 1000000)) - bt474.1)) ≤ (wrap64 (-(wrap64 (bt470.1 * 1000000)))))))) else (payrolllaw29_BracketRounds.j0 k bt472.1 (wrap64 ((wrap64 (bt476.1 * 1000000)) - bt474.1)) (wrap64 (bt470.1 * 1000000)) true))) else (payrolllaw29_BracketRounds.j0 k bt472.1 (wrap64 ((wrap64 (bt476.1 * 1000000)) - bt474.1)) (wrap64 (bt470.1 * 1000000)) true)) else (payrolllaw29_BracketRounds.j0 k bt472.1 (wrap64 ((wrap64 (bt476.1 * 1000000)) - bt474.1)) (wrap64 (bt470.1 * 1000000)) true))))))))
theorem payrolllaw29_BracketRounds.mono_l : ∀ k, (∀ y0 y1 y2 y3, LeO (payrolllaw29_BracketRounds.j0 k y0 y1 y2 y3) (payrolllaw29_BracketRounds.j0 (k + 1) y0 y1 y2 y3)) ∧ (∀ y0 y1 y2 y3, LeO (payrolllaw29_BracketRounds.j1 k y0 y1 y2 y3) (payrolllaw29_BracketRounds.j1 (k + 1) y0 y1 y2 y3)) ∧ (∀ y0 y1 y2, LeO (payrolllaw29_BracketRounds.j2 k y0 y1 y2) (payrolllaw29_BracketRounds.j2 (k + 1) y0 y1 y2))
 | 0 => ⟨fun _ _ _ _ r h => by simp [payrolllaw29_BracketRounds.j0] at h, fun _ _ _ _ r h => by simp [payrolllaw29_BracketRounds.j1] at h, fun _ _ _ r h => by simp [payrolllaw29_BracketRounds.j2] at h⟩
 | k + 1 => by
  obtain ⟨ih0, ih1, ih2⟩ := payrolllaw29_BracketRounds.mono_l k
  refine ⟨?_, ?_, ?_⟩
  ·
   intro y0 y1 y2 y3
   unfold payrolllaw29_BracketRounds.j0
   repeat' first
   | (with_reducible exact ih0 _ _ _ _)
   | (with_reducible exact ih1 _ _ _ _)
   | (with_reducible exact ih2 _ _ _)
   | (with_reducible exact bracket_Exact.mono _ _ _)
   | (with_reducible exact bracket_Tax.mono _ _ _ _ _)
   | (with_reducible exact paygen_Deck_Brackets.mono _ _ _ _)
   | (with_reducible exact payrolllaw29_awake.mono _)
   | (with_reducible exact LeO.refl _)
   | (with_reducible exact LeO.none _)
   | (with_reducible refine LeO.ite ?_ ?_)
   | (with_reducible refine LeO.bind ?_ (fun _ => ?_))
   | exact ih0 _ _ _ _
   | exact ih1 _ _ _ _
   | exact ih2 _ _ _
   | exact bracket_Exact.mono _ _ _
   | exact bracket_Tax.mono _ _ _ _ _
   | exact paygen_Deck_Brackets.mono _ _ _ _
   | exact payrolllaw29_awake.mono _
   | exact LeO.none _
   | refine LeO.ite ?_ ?_
   | refine LeO.bind ?_ (fun _ => ?_)
  ·
   intro y0 y1 y2 y3
   unfold payrolllaw29_BracketRounds.j1
   repeat' first
   | (with_reducible exact ih0 _ _ _ _)
   | (with_reducible exact ih1 _ _ _ _)
   | (with_reducible exact ih2 _ _ _)
   | (with_reducible exact bracket_Exact.mono _ _ _)
   | (with_reducible exact bracket_Tax.mono _ _ _ _ _)
   | (with_reducible exact paygen_Deck_Brackets.mono _ _ _ _)
   | (with_reducible exact payrolllaw29_awake.mono _)
   | (with_reducible exact LeO.refl _)
   | (with_reducible exact LeO.none _)
   | (with_reducible refine LeO.ite ?_ ?_)
   | (with_reducible refine LeO.bind ?_ (fun _ => ?_))
   | exact ih0 _ _ _ _
   | exact ih1 _ _ _ _
   | exact ih2 _ _ _
   | exact bracket_Exact.mono _ _ _
   | exact bracket_Tax.mono _ _ _ _ _
   | exact paygen_Deck_Brackets.mono _ _ _ _
   | exact payrolllaw29_awake.mono _
   | exact LeO.none _
   | refine LeO.ite ?_ ?_
   | refine LeO.bind ?_ (fun _ => ?_)
  ·
   intro y0 y1 y2
   unfold payrolllaw29_BracketRounds.j2
   repeat' first
   | (with_reducible exact ih0 _ _ _ _)
   | (with_reducible exact ih1 _ _ _ _)
   | (with_reducible exact ih2 _ _ _)
   | (with_reducible exact bracket_Exact.mono _ _ _)
   | (with_reducible exact bracket_Tax.mono _ _ _ _ _)
   | (with_reducible exact paygen_Deck_Brackets.mono _ _ _ _)
   | (with_reducible exact payrolllaw29_awake.mono _)
   | (with_reducible exact LeO.refl _)
   | (with_reducible exact LeO.none _)
   | (with_reducible refine LeO.ite ?_ ?_)
   | (with_reducible refine LeO.bind ?_ (fun _ => ?_))
   | exact ih0 _ _ _ _
   | exact ih1 _ _ _ _
   | exact ih2 _ _ _
   | exact bracket_Exact.mono _ _ _
   | exact bracket_Tax.mono _ _ _ _ _
   | exact paygen_Deck_Brackets.mono _ _ _ _
   | exact payrolllaw29_awake.mono _
   | exact LeO.none _
   | refine LeO.ite ?_ ?_
   | refine LeO.bind ?_ (fun _ => ?_)
theorem payrolllaw29_BracketRounds.mono : ∀ a0 k, LeO (payrolllaw29_BracketRounds.f k a0) (payrolllaw29_BracketRounds.f (k + 1) a0) := by
 intro a0 k
 obtain ⟨ih0, ih1, ih2⟩ := payrolllaw29_BracketRounds.mono_l k
 unfold payrolllaw29_BracketRounds.f
 repeat' first
   | (with_reducible exact ih0 _ _ _ _)
   | (with_reducible exact ih1 _ _ _ _)
   | (with_reducible exact ih2 _ _ _)
   | (with_reducible exact bracket_Exact.mono _ _ _)
   | (with_reducible exact bracket_Tax.mono _ _ _ _ _)
   | (with_reducible exact paygen_Deck_Brackets.mono _ _ _ _)
   | (with_reducible exact payrolllaw29_awake.mono _)
   | (with_reducible exact LeO.refl _)
   | (with_reducible exact LeO.none _)
   | (with_reducible refine LeO.ite ?_ ?_)
   | (with_reducible refine LeO.bind ?_ (fun _ => ?_))
   | exact ih0 _ _ _ _
   | exact ih1 _ _ _ _
   | exact ih2 _ _ _
   | exact bracket_Exact.mono _ _ _
   | exact bracket_Tax.mono _ _ _ _ _
   | exact paygen_Deck_Brackets.mono _ _ _ _
   | exact payrolllaw29_awake.mono _
   | exact LeO.none _
   | refine LeO.ite ?_ ?_
   | refine LeO.bind ?_ (fun _ => ?_)
set_option maxHeartbeats 8000000 in
set_option maxRecDepth 100000 in
theorem payrolllaw29_BracketRounds.calls (k : Nat) (A0 : Option Addr) (c0 : Nat) (l0 : List Int) (r : Bool) (w : World) (hr0 : Kd.C (Kd.int .i64) w A0 l0.length l0) (hc0 : l0.length ≤ c0) (h : payrolllaw29_BracketRounds.f k l0 = some r) :
  Calls Try.prog 10 #[.slice A0 l0.length c0] w fun e w' => e = .returned (.bool r) ∧ Below w.heap.size w w' := by
 have HR0 := Aside0.mk hr0
 have HC0 := Aside0.mk hc0
 clear hr0 hc0
 have HB := Aside0.mk (Below.refl w.heap.size w)
 have H : ((paygen_New.f l0).bind fun bt458 => ((paygen_Deck_Brackets.f k bt458.1 bt458.2 false).bind fun bt461 => ((paygen_Deck_Small.f bt458.1 bt461.2).bind fun bt465 => ((paygen_Deck_Pick.f bt458.1 bt465.2 (([1, 5, 100, 1000] : List Int))).bind fun bt470 => ((paygen_Deck_Mode.f bt458.1 bt470.2).bind fun bt472 => ((bracket_Exact.f k bt461.1 (wrap64 (10 * bt465.1))).bind fun bt474 => ((bracket_Tax.f k bt461.1 (wrap64 (10 * bt465.1)) bt470.1 bt472.1).bind fun bt476 => (if bt474.2 = 0 then (if bt476.2 = 0 then (if bt470.1 = 0 then (none) else (if (Int.tmod bt476.1 bt470.1) = 0 then (if (wrap64 ((wrap64 (bt476.1 * 1000000)) - bt474.1)) ≥ (wrap64 (bt470.1 * 1000000)) then (payrolllaw29_BracketRounds.j0 k bt472.1 (wrap64 ((wrap64 (bt476.1 * 1000000)) - bt474.1)) (wrap64 (bt470.1 * 1000000)) true) else (payrolllaw29_BracketRounds.j0 k bt472.1 (wrap64 ((wrap64 (bt476.1 * 1000000)) - bt474.1)) (wrap64 (bt470.1 * 1000000)) (decide ((wrap64 ((wrap64 (bt476.1 * 1000000)) - bt474.1)) ≤ (wrap64 (-(wrap64 (bt470.1 * 1000000)))))))) else (payrolllaw29_BracketRounds.j0 k bt472.1 (wrap64 ((wrap64 (bt476.1 * 1000000)) - bt474.1)) (wrap64 (bt470.1 * 1000000)) true))) else (payrolllaw29_BracketRounds.j0 k bt472.1 (wrap64 ((wrap64 (bt476.1 * 1000000)) - bt474.1)) (wrap64 (bt470.1 * 1000000)) true)) else (payrolllaw29_BracketRounds.j0 k bt472.1 (wrap64 ((wrap64 (bt476.1 * 1000000)) - bt474.1)) (wrap64 (bt470.1 * 1000000)) true))))))))) = some r := h
 clear h
 replace H := Option.bind_eq_some_iff.mp H
 obtain ⟨⟨t458, t459⟩, A20, H⟩ := H
 replace H : ((paygen_Deck_Brackets.f k t458 t459 false).bind fun bt461 => ((paygen_Deck_Small.f t458 bt461.2).bind fun bt465 => ((paygen_Deck_Pick.f t458 bt465.2 (([1, 5, 100, 1000] : List Int))).bind fun bt470 => ((paygen_Deck_Mode.f t458 bt470.2).bind fun bt472 => ((bracket_Exact.f k bt461.1 (wrap64 (10 * bt465.1))).bind fun bt474 => ((bracket_Tax.f k bt461.1 (wrap64 (10 * bt465.1)) bt470.1 bt472.1).bind fun bt476 => (if bt474.2 = 0 then (if bt476.2 = 0 then (if bt470.1 = 0 then (none) else (if (Int.tmod bt476.1 bt470.1) = 0 then (if (wrap64 ((wrap64 (bt476.1 * 1000000)) - bt474.1)) ≥ (wrap64 (bt470.1 * 1000000)) then (payrolllaw29_BracketRounds.j0 k bt472.1 (wrap64 ((wrap64 (bt476.1 * 1000000)) - bt474.1)) (wrap64 (bt470.1 * 1000000)) true) else (payrolllaw29_BracketRounds.j0 k bt472.1 (wrap64 ((wrap64 (bt476.1 * 1000000)) - bt474.1)) (wrap64 (bt470.1 * 1000000)) (decide ((wrap64 ((wrap64 (bt476.1 * 1000000)) - bt474.1)) ≤ (wrap64 (-(wrap64 (bt470.1 * 1000000)))))))) else (payrolllaw29_BracketRounds.j0 k bt472.1 (wrap64 ((wrap64 (bt476.1 * 1000000)) - bt474.1)) (wrap64 (bt470.1 * 1000000)) true))) else (payrolllaw29_BracketRounds.j0 k bt472.1 (wrap64 ((wrap64 (bt476.1 * 1000000)) - bt474.1)) (wrap64 (bt470.1 * 1000000)) true)) else (payrolllaw29_BracketRounds.j0 k bt472.1 (wrap64 ((wrap64 (bt476.1 * 1000000)) - bt474.1)) (wrap64 (bt470.1 * 1000000)) true)))))))) = some r := H
 have A2 := Aside0.mk A20
 clear A20
 replace H := Option.bind_eq_some_iff.mp H
 obtain ⟨⟨t461, t464⟩, A30, H⟩ := H
 replace H : ((paygen_Deck_Small.f t458 t464).bind fun bt465 => ((paygen_Deck_Pick.f t458 bt465.2 (([1, 5, 100, 1000] : List Int))).bind fun bt470 => ((paygen_Deck_Mode.f t458 bt470.2).bind fun bt472 => ((bracket_Exact.f k t461 (wrap64 (10 * bt465.1))).bind fun bt474 => ((bracket_Tax.f k t461 (wrap64 (10 * bt465.1)) bt470.1 bt472.1).bind fun bt476 => (if bt474.2 = 0 then (if bt476.2 = 0 then (if bt470.1 = 0 then (none) else (if (Int.tmod bt476.1 bt470.1) = 0 then (if (wrap64 ((wrap64 (bt476.1 * 1000000)) - bt474.1)) ≥ (wrap64 (bt470.1 * 1000000)) then (payrolllaw29_BracketRounds.j0 k bt472.1 (wrap64 ((wrap64 (bt476.1 * 1000000)) - bt474.1)) (wrap64 (bt470.1 * 1000000)) true) else (payrolllaw29_BracketRounds.j0 k bt472.1 (wrap64 ((wrap64 (bt476.1 * 1000000)) - bt474.1)) (wrap64 (bt470.1 * 1000000)) (decide ((wrap64 ((wrap64 (bt476.1 * 1000000)) - bt474.1)) ≤ (wrap64 (-(wrap64 (bt470.1 * 1000000)))))))) else (payrolllaw29_BracketRounds.j0 k bt472.1 (wrap64 ((wrap64 (bt476.1 * 1000000)) - bt474.1)) (wrap64 (bt470.1 * 1000000)) true))) else (payrolllaw29_BracketRounds.j0 k bt472.1 (wrap64 ((wrap64 (bt476.1 * 1000000)) - bt474.1)) (wrap64 (bt470.1 * 1000000)) true)) else (payrolllaw29_BracketRounds.j0 k bt472.1 (wrap64 ((wrap64 (bt476.1 * 1000000)) - bt474.1)) (wrap64 (bt470.1 * 1000000)) true))))))) = some r := H
 have A3 := Aside0.mk A30
 clear A30
 replace H := Option.bind_eq_some_iff.mp H
 obtain ⟨⟨t465, t466⟩, A40, H⟩ := H
 replace H : ((paygen_Deck_Pick.f t458 t466 (([1, 5, 100, 1000] : List Int))).bind fun bt470 => ((paygen_Deck_Mode.f t458 bt470.2).bind fun bt472 => ((bracket_Exact.f k t461 (wrap64 (10 * t465))).bind fun bt474 => ((bracket_Tax.f k t461 (wrap64 (10 * t465)) bt470.1 bt472.1).bind fun bt476 => (if bt474.2 = 0 then (if bt476.2 = 0 then (if bt470.1 = 0 then (none) else (if (Int.tmod bt476.1 bt470.1) = 0 then (if (wrap64 ((wrap64 (bt476.1 * 1000000)) - bt474.1)) ≥ (wrap64 (bt470.1 * 1000000)) then (payrolllaw29_BracketRounds.j0 k bt472.1 (wrap64 ((wrap64 (bt476.1 * 1000000)) - bt474.1)) (wrap64 (bt470.1 * 1000000)) true) else (payrolllaw29_BracketRounds.j0 k bt472.1 (wrap64 ((wrap64 (bt476.1 * 1000000)) - bt474.1)) (wrap64 (bt470.1 * 1000000)) (decide ((wrap64 ((wrap64 (bt476.1 * 1000000)) - bt474.1)) ≤ (wrap64 (-(wrap64 (bt470.1 * 1000000)))))))) else (payrolllaw29_BracketRounds.j0 k bt472.1 (wrap64 ((wrap64 (bt476.1 * 1000000)) - bt474.1)) (wrap64 (bt470.1 * 1000000)) true))) else (payrolllaw29_BracketRounds.j0 k bt472.1 (wrap64 ((wrap64 (bt476.1 * 1000000)) - bt474.1)) (wrap64 (bt470.1 * 1000000)) true)) else (payrolllaw29_BracketRounds.j0 k bt472.1 (wrap64 ((wrap64 (bt476.1 * 1000000)) - bt474.1)) (wrap64 (bt470.1 * 1000000)) true)))))) = some r := H
 have A4 := Aside0.mk A40
 clear A40
 obtain ⟨y467, hy467⟩ : ∃ y_ : List Int, y_ = (([1, 5, 100, 1000] : List Int)) := ⟨_, rfl⟩
 replace H : ((paygen_Deck_Pick.f t458 t466 y467).bind fun bt470 => ((paygen_Deck_Mode.f t458 bt470.2).bind fun bt472 => ((bracket_Exact.f k t461 (wrap64 (10 * t465))).bind fun bt474 => ((bracket_Tax.f k t461 (wrap64 (10 * t465)) bt470.1 bt472.1).bind fun bt476 => (if bt474.2 = 0 then (if bt476.2 = 0 then (if bt470.1 = 0 then (none) else (if (Int.tmod bt476.1 bt470.1) = 0 then (if (wrap64 ((wrap64 (bt476.1 * 1000000)) - bt474.1)) ≥ (wrap64 (bt470.1 * 1000000)) then (payrolllaw29_BracketRounds.j0 k bt472.1 (wrap64 ((wrap64 (bt476.1 * 1000000)) - bt474.1)) (wrap64 (bt470.1 * 1000000)) true) else (payrolllaw29_BracketRounds.j0 k bt472.1 (wrap64 ((wrap64 (bt476.1 * 1000000)) - bt474.1)) (wrap64 (bt470.1 * 1000000)) (decide ((wrap64 ((wrap64 (bt476.1 * 1000000)) - bt474.1)) ≤ (wrap64 (-(wrap64 (bt470.1 * 1000000)))))))) else (payrolllaw29_BracketRounds.j0 k bt472.1 (wrap64 ((wrap64 (bt476.1 * 1000000)) - bt474.1)) (wrap64 (bt470.1 * 1000000)) true))) else (payrolllaw29_BracketRounds.j0 k bt472.1 (wrap64 ((wrap64 (bt476.1 * 1000000)) - bt474.1)) (wrap64 (bt470.1 * 1000000)) true)) else (payrolllaw29_BracketRounds.j0 k bt472.1 (wrap64 ((wrap64 (bt476.1 * 1000000)) - bt474.1)) (wrap64 (bt470.1 * 1000000)) true)))))) = some r := by first | (rw [hy467]; with_reducible exact H) | (have H2_ := (Option.bind_some _ _).symm.trans H; rw [hy467]; with_reducible exact H2_) | (have H2_ := (Option.bind_some _ _).symm.trans H; with_reducible exact H2_) | with_reducible exact H | (rw [hy467]; exact H) | exact H
 have Ny467 := Aside0.mk hy467
 clear hy467
 replace H := Option.bind_eq_some_iff.mp H
 obtain ⟨⟨t470, t471⟩, A50, H⟩ := H
 replace H : ((paygen_Deck_Mode.f t458 t471).bind fun bt472 => ((bracket_Exact.f k t461 (wrap64 (10 * t465))).bind fun bt474 => ((bracket_Tax.f k t461 (wrap64 (10 * t465)) t470 bt472.1).bind fun bt476 => (if bt474.2 = 0 then (if bt476.2 = 0 then (if t470 = 0 then (none) else (if (Int.tmod bt476.1 t470) = 0 then (if (wrap64 ((wrap64 (bt476.1 * 1000000)) - bt474.1)) ≥ (wrap64 (t470 * 1000000)) then (payrolllaw29_BracketRounds.j0 k bt472.1 (wrap64 ((wrap64 (bt476.1 * 1000000)) - bt474.1)) (wrap64 (t470 * 1000000)) true) else (payrolllaw29_BracketRounds.j0 k bt472.1 (wrap64 ((wrap64 (bt476.1 * 1000000)) - bt474.1)) (wrap64 (t470 * 1000000)) (decide ((wrap64 ((wrap64 (bt476.1 * 1000000)) - bt474.1)) ≤ (wrap64 (-(wrap64 (t470 * 1000000)))))))) else (payrolllaw29_BracketRounds.j0 k bt472.1 (wrap64 ((wrap64 (bt476.1 * 1000000)) - bt474.1)) (wrap64 (t470 * 1000000)) true))) else (payrolllaw29_BracketRounds.j0 k bt472.1 (wrap64 ((wrap64 (bt476.1 * 1000000)) - bt474.1)) (wrap64 (t470 * 1000000)) true)) else (payrolllaw29_BracketRounds.j0 k bt472.1 (wrap64 ((wrap64 (bt476.1 * 1000000)) - bt474.1)) (wrap64 (t470 * 1000000)) true))))) = some r := H
 have A5 := Aside0.mk A50
 clear A50
 replace H := Option.bind_eq_some_iff.mp H
 obtain ⟨⟨t472, t473⟩, A60, H⟩ := H
 replace H : ((bracket_Exact.f k t461 (wrap64 (10 * t465))).bind fun bt474 => ((bracket_Tax.f k t461 (wrap64 (10 * t465)) t470 t472).bind fun bt476 => (if bt474.2 = 0 then (if bt476.2 = 0 then (if t470 = 0 then (none) else (if (Int.tmod bt476.1 t470) = 0 then (if (wrap64 ((wrap64 (bt476.1 * 1000000)) - bt474.1)) ≥ (wrap64 (t470 * 1000000)) then (payrolllaw29_BracketRounds.j0 k t472 (wrap64 ((wrap64 (bt476.1 * 1000000)) - bt474.1)) (wrap64 (t470 * 1000000)) true) else (payrolllaw29_BracketRounds.j0 k t472 (wrap64 ((wrap64 (bt476.1 * 1000000)) - bt474.1)) (wrap64 (t470 * 1000000)) (decide ((wrap64 ((wrap64 (bt476.1 * 1000000)) - bt474.1)) ≤ (wrap64 (-(wrap64 (t470 * 1000000)))))))) else (payrolllaw29_BracketRounds.j0 k t472 (wrap64 ((wrap64 (bt476.1 * 1000000)) - bt474.1)) (wrap64 (t470 * 1000000)) true))) else (payrolllaw29_BracketRounds.j0 k t472 (wrap64 ((wrap64 (bt476.1 * 1000000)) - bt474.1)) (wrap64 (t470 * 1000000)) true)) else (payrolllaw29_BracketRounds.j0 k t472 (wrap64 ((wrap64 (bt476.1 * 1000000)) - bt474.1)) (wrap64 (t470 * 1000000)) true)))) = some r := H
 have A6 := Aside0.mk A60
 clear A60
 replace H := Option.bind_eq_some_iff.mp H
 obtain ⟨⟨t474, t475⟩, A70, H⟩ := H
 replace H : ((bracket_Tax.f k t461 (wrap64 (10 * t465)) t470 t472).bind fun bt476 => (if t475 = 0 then (if bt476.2 = 0 then (if t470 = 0 then (none) else (if (Int.tmod bt476.1 t470) = 0 then (if (wrap64 ((wrap64 (bt476.1 * 1000000)) - t474)) ≥ (wrap64 (t470 * 1000000)) then (payrolllaw29_BracketRounds.j0 k t472 (wrap64 ((wrap64 (bt476.1 * 1000000)) - t474)) (wrap64 (t470 * 1000000)) true) else (payrolllaw29_BracketRounds.j0 k t472 (wrap64 ((wrap64 (bt476.1 * 1000000)) - t474)) (wrap64 (t470 * 1000000)) (decide ((wrap64 ((wrap64 (bt476.1 * 1000000)) - t474)) ≤ (wrap64 (-(wrap64 (t470 * 1000000)))))))) else (payrolllaw29_BracketRounds.j0 k t472 (wrap64 ((wrap64 (bt476.1 * 1000000)) - t474)) (wrap64 (t470 * 1000000)) true))) else (payrolllaw29_BracketRounds.j0 k t472 (wrap64 ((wrap64 (bt476.1 * 1000000)) - t474)) (wrap64 (t470 * 1000000)) true)) else (payrolllaw29_BracketRounds.j0 k t472 (wrap64 ((wrap64 (bt476.1 * 1000000)) - t474)) (wrap64 (t470 * 1000000)) true))) = some r := H
 have A7 := Aside0.mk A70
 clear A70
 replace H := Option.bind_eq_some_iff.mp H
 obtain ⟨⟨t476, t477⟩, A80, H⟩ := H
 replace H : (if t475 = 0 then (if t477 = 0 then (if t470 = 0 then (none) else (if (Int.tmod t476 t470) = 0 then (if (wrap64 ((wrap64 (t476 * 1000000)) - t474)) ≥ (wrap64 (t470 * 1000000)) then (payrolllaw29_BracketRounds.j0 k t472 (wrap64 ((wrap64 (t476 * 1000000)) - t474)) (wrap64 (t470 * 1000000)) true) else (payrolllaw29_BracketRounds.j0 k t472 (wrap64 ((wrap64 (t476 * 1000000)) - t474)) (wrap64 (t470 * 1000000)) (decide ((wrap64 ((wrap64 (t476 * 1000000)) - t474)) ≤ (wrap64 (-(wrap64 (t470 * 1000000)))))))) else (payrolllaw29_BracketRounds.j0 k t472 (wrap64 ((wrap64 (t476 * 1000000)) - t474)) (wrap64 (t470 * 1000000)) true))) else (payrolllaw29_BracketRounds.j0 k t472 (wrap64 ((wrap64 (t476 * 1000000)) - t474)) (wrap64 (t470 * 1000000)) true)) else (payrolllaw29_BracketRounds.j0 k t472 (wrap64 ((wrap64 (t476 * 1000000)) - t474)) (wrap64 (t470 * 1000000)) true)) = some r := H
 have A8 := Aside0.mk A80
 clear A80
 have HC9 := Aside0.mk H
 clear H
 go_enter Try.func10, Try.ntmps10
 go_upto_region 7 with (first | ((with_reducible refine gate_callee (f := 13) rfl ?_); refine goesL_ (some 15) rfl rfl Try.func13 (by kernel_rfl) rfl #[.slice A0 l0.length c0] rfl (by (try simp only [List.map_toArray, List.map_cons, List.map_nil]); first | done | rfl | (simp only [List.length_drop, List.length_take]; rfl)) ?_; (with_reducible refine (paygen_New.calls _ _ l0 t458 t459 w _ ?side1 ?side2 ?side3 A2.out).mono ?_); (case side1 => repeat (first | (with_reducible first | exact HB.out | apply below_alloc | apply pw_below_drewN | apply below_drew1) | exact HB.out)); (case side2 => exact HR0.out); (case side3 => exact HC0.out); rintro e w10 ⟨g460, rfl, hi, hb, hb2⟩; refine ⟨_, rfl, ?_⟩; have n0_ := Aside0.mk (hb); have n1_ := Aside0.mk (hi); clear HB; have HB := n0_; have HI460 := n1_; clear n0_ n1_; (try clear hb); (try clear hb2); (try clear hk); (try clear hi)) | ((with_reducible refine gate_callee (f := 14) rfl ?_); refine goesL_ (some 17) rfl rfl Try.func14 (by kernel_rfl) rfl #[.pointer (some ⟨g460, 0, none⟩), .bool false] rfl (by (try simp only [List.map_toArray, List.map_cons, List.map_nil]); first | done | rfl | (simp only [List.length_drop, List.length_take]; rfl)) ?_; (with_reducible refine (paygen_Deck_Brackets.calls k g460 t458 t459 false t461 t464 w _ ?side1 ?side2 A3.out).mono ?_); (case side1 => repeat (first | (with_reducible first | exact HI460.out | apply IsS56.alloc | apply IsS56.drewN | apply IsS56.drew | apply IsS56.set_1) | exact HI460.out)); (case side2 => repeat (first | (with_reducible first | exact HB.out | apply below_alloc | apply pw_below_drewN | apply below_drew1 | refine below_set ?_ (IsS56.ge HI460.out)) | exact HB.out)); rintro e w11 ⟨v462, rfl, ho0, hi, hb, hk⟩; refine ⟨_, rfl, ?_⟩; have n0_ := Aside0.mk (Kd.R_lower ho0 (below_size (by repeat (first | (with_reducible first | exact HB.out | apply below_alloc | apply pw_below_drewN | apply below_drew1 | refine below_set ?_ (IsS56.ge HI460.out)) | exact HB.out)))); have n1_ := Aside0.mk (hb); have n2_ := Aside0.mk (hi); clear HB; clear HI460; have HO463 := n0_; have HB := n1_; have HI460 := n2_; clear n0_ n1_ n2_; (try clear hb); (try clear hb2); (try clear hk); (try clear hi); (try clear ho0)) | ((with_reducible refine gate_callee (f := 24) rfl ?_); refine goesL_ (some 19) rfl rfl Try.func24 (by kernel_rfl) rfl #[.pointer (some ⟨g460, 0, none⟩)] rfl (by (try simp only [List.map_toArray, List.map_cons, List.map_nil]); first | done | rfl | (simp only [List.length_drop, List.length_take]; rfl)) ?_; (with_reducible refine (paygen_Deck_Small.calls g460 t458 t464 t465 t466 w _ ?side1 ?side2 A4.out).mono ?_); (case side1 => repeat (first | (with_reducible first | exact HI460.out | apply IsS56.alloc | apply IsS56.drewN | apply IsS56.drew | apply IsS56.set_1) | exact HI460.out)); (case side2 => repeat (first | (with_reducible first | exact HB.out | apply below_alloc | apply pw_below_drewN | apply below_drew1 | refine below_set ?_ (IsS56.ge HI460.out)) | exact HB.out)); rintro e w12 ⟨rfl, hi, hb, hk⟩; refine ⟨_, rfl, ?_⟩; have n0_ := Aside0.mk (Kd.R_mono (Kd.R_keep (IsS56.apart (show IsS56 w _ g460 t458 t464 from by repeat (first | (with_reducible first | exact HI460.out | apply IsS56.alloc | apply IsS56.drewN | apply IsS56.drew | apply IsS56.set_1) | exact HI460.out)) (by (with_reducible repeat (first | apply Kd.R_alloc | apply Kd.R_drewN | apply Kd.R_drew)); exact HO463.out) (by decide)) hk (fun _ h => h.2)) (fun _ h => h.1)); have n1_ := Aside0.mk (hb); have n2_ := Aside0.mk (hi); clear HO463; clear HB; clear HI460; have HO463 := n0_; have HB := n1_; have HI460 := n2_; clear n0_ n1_ n2_; (try clear hb); (try clear hb2); (try clear hk); (try clear hi)) | ((with_reducible refine gate_dst (N := 22) rfl ?_); refine Kd.R_lit (Kd.int .i64) _ 3 ?hg (N := 22) ?hd (xs := ([1, 5, 100, 1000] : List Int)) (inner := [.int .i64 1, .int .i64 5, .int .i64 100, .int .i64 1000]) (ok := fun _ => True) (okp := fun _ => True) ?hr ?hp (fun _ hk => hk) trivial (Below.refl _ _) (Nat.le_refl _) (by simp) ?_; (case hd => rfl); (case hg => rfl); (case hr => first | (go_simp; done) | (go_simp; rfl)); (case hp => exact (Reps.one (show Kd.M (Kd.int .i64) _ _ _ 1 [.int .i64 1] from rfl) (Reps.one (show Kd.M (Kd.int .i64) _ _ _ 5 [.int .i64 5] from rfl) (Reps.one (show Kd.M (Kd.int .i64) _ _ _ 100 [.int .i64 100] from rfl) (Reps.one (show Kd.M (Kd.int .i64) _ _ _ 1000 [.int .i64 1000] from rfl) (Reps.none _ _)))))); intro v468 w13 ho14 hb hg_ hnew_; clear hg_ hnew_; (first | rw [← Ny467.out] at ho14 | (simp only [Int.reduceToNat] at ho14; rw [← Ny467.out] at ho14)); have n0_ := Aside0.mk (Kd.R_below (by (with_reducible repeat (first | apply Kd.R_alloc | apply Kd.R_drewN | apply Kd.R_drew)); exact HO463.out) hb); have n1_ := Aside0.mk (Kd.R_lower ho14 (below_size (by repeat (first | (with_reducible first | exact HB.out | apply below_alloc | apply pw_below_drewN | apply below_drew1 | refine below_set ?_ (IsS56.ge HI460.out)) | exact HB.out)))); have n2_ := Aside0.mk (IsS56.below (by repeat (first | (with_reducible first | exact HI460.out | apply IsS56.alloc | apply IsS56.drewN | apply IsS56.drew | apply IsS56.set_1) | exact HI460.out)) hb); have n3_ := Aside0.mk (below_step (by repeat (first | (with_reducible first | exact HB.out | apply below_alloc | apply pw_below_drewN | apply below_drew1 | refine below_set ?_ (IsS56.ge HI460.out)) | exact HB.out)) hb); clear HO463; clear HI460; clear HB; have HO463 := n0_; have HO469 := n1_; have HI460 := n2_; have HB := n3_; clear n0_ n1_ n2_ n3_; clear hb ho14; obtain ⟨Ao15, co15, eo15⟩ := Kd.R_slice HO469.out; subst eo15) | ((with_reducible refine gate_callee (f := 30) rfl ?_); refine goesL_ (some 23) rfl rfl Try.func30 (by kernel_rfl) rfl #[.pointer (some ⟨g460, 0, none⟩), .slice Ao15 y467.length co15] rfl (by (try simp only [List.map_toArray, List.map_cons, List.map_nil]); first | done | rfl | (simp only [List.length_drop, List.length_take]; rfl)) ?_; (with_reducible refine (paygen_Deck_Pick.calls g460 t458 t466 _ _ y467 t470 t471 w _ ?side1 ?side2 ?side3 ?side4 ?side5 A5.out).mono ?_); (case side1 => repeat (first | (with_reducible first | exact HI460.out | apply IsS56.alloc | apply IsS56.drewN | apply IsS56.drew | apply IsS56.set_1) | exact HI460.out)); (case side2 => repeat (first | (with_reducible first | exact HB.out | apply below_alloc | apply pw_below_drewN | apply below_drew1 | refine below_set ?_ (IsS56.ge HI460.out)) | exact HB.out)); (case side3 => repeat (first | exact (Kd.R_reads' HO469.out).2.2 | (with_reducible refine Kd.C_alloc ?_ _) | (with_reducible refine Kd.C_drewN ?_ _) | (with_reducible refine Kd.C_drew ?_))); (case side4 => exact (Kd.R_reads' HO469.out).2.1); (case side5 => exact far_slice (IsS56.own_ne HI460.out HO469.out (by decide))); rintro e w16 ⟨rfl, hi, hb, hk⟩; refine ⟨_, rfl, ?_⟩; have n0_ := Aside0.mk (Kd.R_mono (Kd.R_keep (IsS56.apart (show IsS56 w _ g460 t458 t466 from by repeat (first | (with_reducible first | exact HI460.out | apply IsS56.alloc | apply IsS56.drewN | apply IsS56.drew | apply IsS56.set_1) | exact HI460.out)) (by (with_reducible repeat (first | apply Kd.R_alloc | apply Kd.R_drewN | apply Kd.R_drew)); exact HO463.out) (by decide)) hk (fun _ h => h.2)) (fun _ h => h.1)); have n1_ := Aside0.mk (Kd.R_mono (Kd.R_keep (IsS56.apart (show IsS56 w _ g460 t458 t466 from by repeat (first | (with_reducible first | exact HI460.out | apply IsS56.alloc | apply IsS56.drewN | apply IsS56.drew | apply IsS56.set_1) | exact HI460.out)) (by (with_reducible repeat (first | apply Kd.R_alloc | apply Kd.R_drewN | apply Kd.R_drew)); exact HO469.out) (by decide)) hk (fun _ h => h.2)) (fun _ h => h.1)); have n2_ := Aside0.mk (hb); have n3_ := Aside0.mk (hi); clear HO463; clear HO469; clear HB; clear HI460; have HO463 := n0_; have HO469 := n1_; have HB := n2_; have HI460 := n3_; clear n0_ n1_ n2_ n3_; (try clear hb); (try clear hb2); (try clear hk); (try clear hi)) | ((with_reducible refine gate_callee (f := 31) rfl ?_); refine goesL_ (some 25) rfl rfl Try.func31 (by kernel_rfl) rfl #[.pointer (some ⟨g460, 0, none⟩)] rfl (by (try simp only [List.map_toArray, List.map_cons, List.map_nil]); first | done | rfl | (simp only [List.length_drop, List.length_take]; rfl)) ?_; (with_reducible refine (paygen_Deck_Mode.calls g460 t458 t471 t472 t473 w _ ?side1 ?side2 A6.out).mono ?_); (case side1 => repeat (first | (with_reducible first | exact HI460.out | apply IsS56.alloc | apply IsS56.drewN | apply IsS56.drew | apply IsS56.set_1) | exact HI460.out)); (case side2 => repeat (first | (with_reducible first | exact HB.out | apply below_alloc | apply pw_below_drewN | apply below_drew1 | refine below_set ?_ (IsS56.ge HI460.out)) | exact HB.out)); rintro e w17 ⟨rfl, hi, hb, hk⟩; refine ⟨_, rfl, ?_⟩; have n0_ := Aside0.mk (Kd.R_mono (Kd.R_keep (IsS56.apart (show IsS56 w _ g460 t458 t471 from by repeat (first | (with_reducible first | exact HI460.out | apply IsS56.alloc | apply IsS56.drewN | apply IsS56.drew | apply IsS56.set_1) | exact HI460.out)) (by (with_reducible repeat (first | apply Kd.R_alloc | apply Kd.R_drewN | apply Kd.R_drew)); exact HO463.out) (by decide)) hk (fun _ h => h.2)) (fun _ h => h.1)); have n1_ := Aside0.mk (Kd.R_mono (Kd.R_keep (IsS56.apart (show IsS56 w _ g460 t458 t471 from by repeat (first | (with_reducible first | exact HI460.out | apply IsS56.alloc | apply IsS56.drewN | apply IsS56.drew | apply IsS56.set_1) | exact HI460.out)) (by (with_reducible repeat (first | apply Kd.R_alloc | apply Kd.R_drewN | apply Kd.R_drew)); exact HO469.out) (by decide)) hk (fun _ h => h.2)) (fun _ h => h.1)); have n2_ := Aside0.mk (hb); have n3_ := Aside0.mk (hi); clear HO463; clear HO469; clear HB; clear HI460; have HO463 := n0_; have HO469 := n1_; have HB := n2_; have HI460 := n3_; clear n0_ n1_ n2_ n3_; (try clear hb); (try clear hb2); (try clear hk); (try clear hi); obtain ⟨Ao18, co18, eo18⟩ := Kd.R_slice HO463.out; subst eo18) | ((with_reducible refine gate_callee (f := 21) rfl ?_); refine goesL_ (some 29) rfl rfl Try.func21 (by kernel_rfl) rfl #[.slice Ao18 t461.length co18, .int .i64 (wrap64 (10 * t465))] rfl (by (try simp only [List.map_toArray, List.map_cons, List.map_nil]); first | done | rfl | (simp only [List.length_drop, List.length_take]; rfl)) ?_; (with_reducible refine (bracket_Exact.calls k _ _ t461 (wrap64 (10 * t465)) t474 t475 _ ?side1 ?side2 A7.out).mono ?_); (case side1 => repeat (first | exact (Kd.R_reads' HO463.out).2.2 | (with_reducible refine Kd.C_alloc ?_ _) | (with_reducible refine Kd.C_drewN ?_ _) | (with_reducible refine Kd.C_drew ?_))); (case side2 => exact (Kd.R_reads' HO463.out).2.1); rintro e w19 ⟨rfl, hb⟩; refine ⟨_, rfl, ?_⟩; have n0_ := Aside0.mk (Kd.R_below (by (with_reducible repeat (first | apply Kd.R_alloc | apply Kd.R_drewN | apply Kd.R_drew)); exact HO463.out) hb); have n1_ := Aside0.mk (Kd.R_below (by (with_reducible repeat (first | apply Kd.R_alloc | apply Kd.R_drewN | apply Kd.R_drew)); exact HO469.out) hb); have n2_ := Aside0.mk (IsS56.below (by repeat (first | (with_reducible first | exact HI460.out | apply IsS56.alloc | apply IsS56.drewN | apply IsS56.drew | apply IsS56.set_1) | exact HI460.out)) hb); have n3_ := Aside0.mk (below_step (by repeat (first | (with_reducible first | exact HB.out | apply below_alloc | apply pw_below_drewN | apply below_drew1 | refine below_set ?_ (IsS56.ge HI460.out)) | exact HB.out)) hb); clear HO463; clear HO469; clear HI460; clear HB; have HO463 := n0_; have HO469 := n1_; have HI460 := n2_; have HB := n3_; clear n0_ n1_ n2_ n3_; (try clear hb); (try clear hb2); (try clear hk); (try clear hi)) | ((with_reducible refine gate_callee (f := 32) rfl ?_); refine goesL_ (some 37) rfl rfl Try.func32 (by kernel_rfl) rfl #[.slice Ao18 t461.length co18, .int .i64 (wrap64 (10 * t465)), .int .i64 t470, .int .i64 t472] rfl (by (try simp only [List.map_toArray, List.map_cons, List.map_nil]); first | done | rfl | (simp only [List.length_drop, List.length_take]; rfl)) ?_; (with_reducible refine (bracket_Tax.calls k _ _ t461 (wrap64 (10 * t465)) t470 t472 t476 t477 _ ?side1 ?side2 A8.out).mono ?_); (case side1 => repeat (first | exact (Kd.R_reads' HO463.out).2.2 | (with_reducible refine Kd.C_alloc ?_ _) | (with_reducible refine Kd.C_drewN ?_ _) | (with_reducible refine Kd.C_drew ?_))); (case side2 => exact (Kd.R_reads' HO463.out).2.1); rintro e w20 ⟨rfl, hb⟩; refine ⟨_, rfl, ?_⟩; have n0_ := Aside0.mk (Kd.R_below (by (with_reducible repeat (first | apply Kd.R_alloc | apply Kd.R_drewN | apply Kd.R_drew)); exact HO463.out) hb); have n1_ := Aside0.mk (Kd.R_below (by (with_reducible repeat (first | apply Kd.R_alloc | apply Kd.R_drewN | apply Kd.R_drew)); exact HO469.out) hb); have n2_ := Aside0.mk (IsS56.below (by repeat (first | (with_reducible first | exact HI460.out | apply IsS56.alloc | apply IsS56.drewN | apply IsS56.drew | apply IsS56.set_1) | exact HI460.out)) hb); have n3_ := Aside0.mk (below_step (by repeat (first | (with_reducible first | exact HB.out | apply below_alloc | apply pw_below_drewN | apply below_drew1 | refine below_set ?_ (IsS56.ge HI460.out)) | exact HB.out)) hb); clear HO463; clear HO469; clear HI460; clear HB; have HO463 := n0_; have HO469 := n1_; have HI460 := n2_; have HB := n3_; clear n0_ n1_ n2_ n3_; (try clear hb); (try clear hb2); (try clear hk); (try clear hi)))
 (try simp only [Act.put, List.setIfInBounds_toArray, List.set_cons_zero, List.set_cons_succ])
 go_cut [68] (fun v68 wc => ∃ (kq : Nat) (x68_8 : Bool), v68 = .bool x68_8 ∧ Aside0 (payrolllaw29_BracketRounds.j0 kq t472 (wrap64 ((wrap64 (t476 * 1000000)) - t474)) (wrap64 (t470 * 1000000)) x68_8 = some r) ∧ Aside0 (kq ≤ k) ∧ Aside0 (Below w.heap.size w wc))
 case first =>
  have H := HC9.out
  clear HC9
  by_cases c21 : t475 = 0
  ·
   rw [if_pos c21] at H
   have c21b0 : (t475 == 0) = true := beq_iff_eq.mpr c21
   have c21b1 : (t475 != 0) = false := bne_eq_false_iff_eq.mpr c21
   clear c21
   (first | rw [c21b0] | (simp only [i64_w, i32_w]; rw [c21b0]) | skip)
   by_cases c22 : t477 = 0
   ·
    rw [if_pos c22] at H
    have c22b0 : (t477 == 0) = true := beq_iff_eq.mpr c22
    have c22b1 : (t477 != 0) = false := bne_eq_false_iff_eq.mpr c22
    clear c22
    by_cases c23 : t470 = 0
    ·
     rw [if_pos c23] at H
     exact absurd H (by simp)
    ·
     rw [if_neg c23] at H
     have c23b0 : (t470 == 0) = false := beq_eq_false_iff_ne.mpr c23
     have c23b1 : (t470 != 0) = true := bne_iff_ne.mpr c23
     by_cases c24 : (Int.tmod t476 t470) = 0
     ·
      rw [if_pos c24] at H
      have c24b0 : ((Int.tmod t476 t470) == 0) = true := beq_iff_eq.mpr c24
      have c24b1 : ((Int.tmod t476 t470) != 0) = false := bne_eq_false_iff_eq.mpr c24
      clear c24
      by_cases c25 : (wrap64 ((wrap64 (t476 * 1000000)) - t474)) ≥ (wrap64 (t470 * 1000000))
      ·
       rw [if_pos c25] at H
       have c25b0 : decide ((wrap64 (t470 * 1000000)) ≤ (wrap64 ((wrap64 (t476 * 1000000)) - t474))) = true := decide_eq_true c25
       clear c25
       have H' := Aside0.mk H
       clear H
       go_wp2
       go_meet
       case rel => exact ⟨_, (true), (by first | rfl | (simp; done) | (simp [*]; done)), H', ⟨by first | omega | exact Nat.le_refl _⟩, ⟨by repeat (first | (with_reducible first | exact HB.out | apply below_alloc | apply pw_below_drewN | apply below_drew1 | refine below_set ?_ (IsS56.ge HI460.out)) | exact HB.out)⟩⟩
      ·
       rw [if_neg c25] at H
       have c25b0 : decide ((wrap64 (t470 * 1000000)) ≤ (wrap64 ((wrap64 (t476 * 1000000)) - t474))) = false := decide_eq_false c25
       clear c25
       have H' := Aside0.mk H
       clear H
       go_wp2
       go_meet
       case rel => exact ⟨_, (decide ((wrap64 ((wrap64 (t476 * 1000000)) - t474)) ≤ (wrap64 (-(wrap64 (t470 * 1000000)))))), (by first | rfl | (simp; done) | (simp [*]; done)), H', ⟨by first | omega | exact Nat.le_refl _⟩, ⟨by repeat (first | (with_reducible first | exact HB.out | apply below_alloc | apply pw_below_drewN | apply below_drew1 | refine below_set ?_ (IsS56.ge HI460.out)) | exact HB.out)⟩⟩
     ·
      rw [if_neg c24] at H
      have c24b0 : ((Int.tmod t476 t470) == 0) = false := beq_eq_false_iff_ne.mpr c24
      have c24b1 : ((Int.tmod t476 t470) != 0) = true := bne_iff_ne.mpr c24
      have H' := Aside0.mk H
      clear H
      go_wp2
      go_meet
      case rel => exact ⟨_, (true), (by first | rfl | (simp; done) | (simp [*]; done)), H', ⟨by first | omega | exact Nat.le_refl _⟩, ⟨by repeat (first | (with_reducible first | exact HB.out | apply below_alloc | apply pw_below_drewN | apply below_drew1 | refine below_set ?_ (IsS56.ge HI460.out)) | exact HB.out)⟩⟩
   ·
    rw [if_neg c22] at H
    have c22b0 : (t477 == 0) = false := beq_eq_false_iff_ne.mpr c22
    have c22b1 : (t477 != 0) = true := bne_iff_ne.mpr c22
    have H' := Aside0.mk H
    clear H
    go_wp2
    go_meet
    case rel => exact ⟨_, (true), (by first | rfl | (simp; done) | (simp [*]; done)), H', ⟨by first | omega | exact Nat.le_refl _⟩, ⟨by repeat (first | (with_reducible first | exact HB.out | apply below_alloc | apply pw_below_drewN | apply below_drew1 | refine below_set ?_ (IsS56.ge HI460.out)) | exact HB.out)⟩⟩
  ·
   rw [if_neg c21] at H
   have c21b0 : (t475 == 0) = false := beq_eq_false_iff_ne.mpr c21
   have c21b1 : (t475 != 0) = true := bne_iff_ne.mpr c21
   (first | rw [c21b0] | (simp only [i64_w, i32_w]; rw [c21b0]) | skip)
   have H' := Aside0.mk H
   clear H
   go_wp2
   go_meet
   case rel => exact ⟨_, (true), (by first | rfl | (simp; done) | (simp [*]; done)), H', ⟨by first | omega | exact Nat.le_refl _⟩, ⟨by repeat (first | (with_reducible first | exact HB.out | apply below_alloc | apply pw_below_drewN | apply below_drew1 | refine below_set ?_ (IsS56.ge HI460.out)) | exact HB.out)⟩⟩
 case rest =>
  clear HC9
  try clear c1
  try clear c2
  try clear p2
  try clear c3
  try clear p6
  try clear c10
  try clear c13
  try clear c14
  try clear c21
  try clear c21b0
  try clear c21b1
  try clear c22
  try clear c22b0
  try clear c22b1
  try clear c23
  try clear c23b0
  try clear c23b1
  try clear c24
  try clear c24b0
  try clear c24b1
  try clear c25
  try clear c25b0
  obtain ⟨kq, x68_8, rfl, HA, HJ8, HB⟩ := hcut
  cases kq with
  | zero => exact absurd HA.out (by simp [payrolllaw29_BracketRounds.j0])
  | succ kj8 =>
   have H := HA.out
   clear HA
   simp only [payrolllaw29_BracketRounds.j0] at H
   by_cases c26 : x68_8 = true
   ·
    subst c26
    have H1 : (some false) = some r := by rw [if_pos rfl] at H; exact H
    clear H
    have H := H1
    clear H1
    obtain rfl := Option.some.inj H
    go_wp2
    go_ret
    exact ⟨by first | rfl | (simp [errW_none, errW_some] <;> rfl) | (simp [*, errW_none, errW_some] <;> rfl), by repeat (first | (with_reducible first | exact HB.out | apply below_alloc | apply pw_below_drewN | apply below_drew1) | exact HB.out)⟩
   ·
    replace c26 := Bool.eq_false_iff.mpr c26
    subst c26
    have H1 : (if t472 = 0 then (payrolllaw29_BracketRounds.j1 kj8 (wrap64 ((wrap64 (t476 * 1000000)) - t474)) (wrap64 (t470 * 1000000)) t472 (t472 == 0)) else (payrolllaw29_BracketRounds.j1 kj8 (wrap64 ((wrap64 (t476 * 1000000)) - t474)) (wrap64 (t470 * 1000000)) t472 (t472 == 2))) = some r := by rw [if_neg (show ¬ (false = true) by decide)] at H; exact H
    clear H
    have H := H1
    clear H1
    have HC27 := Aside0.mk H
    clear H
    go_upto_if 70 with (fail)
    go_cut [70] (fun v70 wc => ∃ (kq : Nat) (x70_26 : Bool), v70 = .bool x70_26 ∧ Aside0 (payrolllaw29_BracketRounds.j1 kq (wrap64 ((wrap64 (t476 * 1000000)) - t474)) (wrap64 (t470 * 1000000)) t472 x70_26 = some r) ∧ Aside0 (kq ≤ kj8) ∧ Aside0 (Below w.heap.size w wc))
    case first =>
     have H := HC27.out
     clear HC27
     by_cases c28 : t472 = 0
     ·
      rw [if_pos c28] at H
      have c28b0 : (t472 == 0) = true := beq_iff_eq.mpr c28
      have c28b1 : (t472 != 0) = false := bne_eq_false_iff_eq.mpr c28
      clear c28
      (first | rw [c28b0] | (simp only [i64_w, i32_w]; rw [c28b0]) | skip)
      have H' := Aside0.mk H
      clear H
      go_wp2
      go_meet
      case rel => exact ⟨_, ((t472 == 0)), (by first | rfl | (simp; done) | (simp [*]; done)), H', ⟨by have := HJ8.out; first | omega | exact Nat.le_refl _⟩, ⟨by repeat (first | (with_reducible first | exact HB.out | apply below_alloc | apply pw_below_drewN | apply below_drew1) | exact HB.out)⟩⟩
     ·
      rw [if_neg c28] at H
      have c28b0 : (t472 == 0) = false := beq_eq_false_iff_ne.mpr c28
      have c28b1 : (t472 != 0) = true := bne_iff_ne.mpr c28
      (first | rw [c28b0] | (simp only [i64_w, i32_w]; rw [c28b0]) | skip)
      have H' := Aside0.mk H
      clear H
      go_wp2
      go_meet
      case rel => exact ⟨_, ((t472 == 2)), (by first | rfl | (simp; done) | (simp [*]; done)), H', ⟨by have := HJ8.out; first | omega | exact Nat.le_refl _⟩, ⟨by repeat (first | (with_reducible first | exact HB.out | apply below_alloc | apply pw_below_drewN | apply below_drew1) | exact HB.out)⟩⟩
    case rest =>
     clear HC27
     try clear c1
     try clear c2
     try clear p2
     try clear c3
     try clear p6
     try clear c10
     try clear c13
     try clear c14
     try clear c21
     try clear c21b0
     try clear c21b1
     try clear c22
     try clear c22b0
     try clear c22b1
     try clear c23
     try clear c23b0
     try clear c23b1
     try clear c24
     try clear c24b0
     try clear c24b1
     try clear c25
     try clear c25b0
     try clear c26
     try clear c28
     try clear c28b0
     try clear c28b1
     try clear p2
     try clear p6
     obtain ⟨kq, x70_26, rfl, HA, HJ26, HB⟩ := hcut
     cases kq with
     | zero => exact absurd HA.out (by simp [payrolllaw29_BracketRounds.j1])
     | succ kj26 =>
      have H := HA.out
      clear HA
      simp only [payrolllaw29_BracketRounds.j1] at H
      by_cases c29 : x70_26 = true
      ·
       subst c29
       have H1 : (if (wrap64 ((wrap64 (t476 * 1000000)) - t474)) ≤ 0 then ((payrolllaw29_awake.f kj26).bind fun t478 => (some t478)) else (some false)) = some r := by rw [if_pos rfl] at H; exact H
       clear H
       have H := H1
       clear H1
       by_cases c30 : (wrap64 ((wrap64 (t476 * 1000000)) - t474)) ≤ 0
       ·
        rw [if_pos c30] at H
        have c30b0 : decide ((wrap64 ((wrap64 (t476 * 1000000)) - t474)) ≤ 0) = true := decide_eq_true c30
        clear c30
        replace H := Option.bind_eq_some_iff.mp H
        obtain ⟨t478, A310, H⟩ := H
        replace H : (some t478) = some r := H
        have A31 := Aside0.mk A310
        clear A310
        obtain rfl := Option.some.inj H
        go_wp2_with (first | (go_at_call 12; (with_reducible refine (payrolllaw29_awake.calls kj26  t478 _ A31.out).mono ?_); rintro e w32 ⟨rfl, hb⟩; have n0_ := Aside0.mk (below_step (by repeat (first | (with_reducible first | exact HB.out | apply below_alloc | apply pw_below_drewN | apply below_drew1) | exact HB.out)) hb); clear HB; have HB := n0_; clear n0_; (try clear hb); (try clear hb2); (try clear hk); (try clear hi)))
        go_ret
        exact ⟨by first | rfl | (simp [errW_none, errW_some] <;> rfl) | (simp [*, errW_none, errW_some] <;> rfl), by repeat (first | (with_reducible first | exact HB.out | apply below_alloc | apply pw_below_drewN | apply below_drew1) | exact HB.out)⟩
       ·
        rw [if_neg c30] at H
        have c30b0 : decide ((wrap64 ((wrap64 (t476 * 1000000)) - t474)) ≤ 0) = false := decide_eq_false c30
        clear c30
        obtain rfl := Option.some.inj H
        go_wp2
        go_ret
        exact ⟨by first | rfl | (simp [errW_none, errW_some] <;> rfl) | (simp [*, errW_none, errW_some] <;> rfl), by repeat (first | (with_reducible first | exact HB.out | apply below_alloc | apply pw_below_drewN | apply below_drew1) | exact HB.out)⟩
      ·
       replace c29 := Bool.eq_false_iff.mpr c29
       subst c29
       have H1 : (if t472 = 1 then (payrolllaw29_BracketRounds.j2 kj26 (wrap64 ((wrap64 (t476 * 1000000)) - t474)) (wrap64 (t470 * 1000000)) (t472 == 1)) else (payrolllaw29_BracketRounds.j2 kj26 (wrap64 ((wrap64 (t476 * 1000000)) - t474)) (wrap64 (t470 * 1000000)) (t472 == 3))) = some r := by rw [if_neg (show ¬ (false = true) by decide)] at H; exact H
       clear H
       have H := H1
       clear H1
       have HC33 := Aside0.mk H
       clear H
       go_upto_if 78 with (fail)
       go_cut [78] (fun v78 wc => ∃ (kq : Nat) (x78_32 : Bool), v78 = .bool x78_32 ∧ Aside0 (payrolllaw29_BracketRounds.j2 kq (wrap64 ((wrap64 (t476 * 1000000)) - t474)) (wrap64 (t470 * 1000000)) x78_32 = some r) ∧ Aside0 (kq ≤ kj26) ∧ Aside0 (Below w.heap.size w wc))
       case first =>
        have H := HC33.out
        clear HC33
        by_cases c34 : t472 = 1
        ·
         rw [if_pos c34] at H
         have c34b0 : (t472 == 1) = true := beq_iff_eq.mpr c34
         have c34b1 : (t472 != 1) = false := bne_eq_false_iff_eq.mpr c34
         clear c34
         (first | rw [c34b0] | (simp only [i64_w, i32_w]; rw [c34b0]) | skip)
         have H' := Aside0.mk H
         clear H
         go_wp2
         go_meet
         case rel => exact ⟨_, ((t472 == 1)), (by first | rfl | (simp; done) | (simp [*]; done)), H', ⟨by have := HJ8.out; have := HJ26.out; first | omega | exact Nat.le_refl _⟩, ⟨by repeat (first | (with_reducible first | exact HB.out | apply below_alloc | apply pw_below_drewN | apply below_drew1) | exact HB.out)⟩⟩
        ·
         rw [if_neg c34] at H
         have c34b0 : (t472 == 1) = false := beq_eq_false_iff_ne.mpr c34
         have c34b1 : (t472 != 1) = true := bne_iff_ne.mpr c34
         (first | rw [c34b0] | (simp only [i64_w, i32_w]; rw [c34b0]) | skip)
         have H' := Aside0.mk H
         clear H
         go_wp2
         go_meet
         case rel => exact ⟨_, ((t472 == 3)), (by first | rfl | (simp; done) | (simp [*]; done)), H', ⟨by have := HJ8.out; have := HJ26.out; first | omega | exact Nat.le_refl _⟩, ⟨by repeat (first | (with_reducible first | exact HB.out | apply below_alloc | apply pw_below_drewN | apply below_drew1) | exact HB.out)⟩⟩
       case rest =>
        clear HC33
        try clear c1
        try clear c2
        try clear p2
        try clear c3
        try clear p6
        try clear c10
        try clear c13
        try clear c14
        try clear c21
        try clear c21b0
        try clear c21b1
        try clear c22
        try clear c22b0
        try clear c22b1
        try clear c23
        try clear c23b0
        try clear c23b1
        try clear c24
        try clear c24b0
        try clear c24b1
        try clear c25
        try clear c25b0
        try clear c26
        try clear c28
        try clear c28b0
        try clear c28b1
        try clear c29
        try clear c30
        try clear c30b0
        try clear c31
        try clear c32
        try clear c34
        try clear c34b0
        try clear c34b1
        try clear p2
        try clear p6
        obtain ⟨kq, x78_32, rfl, HA, HJ32, HB⟩ := hcut
        cases kq with
        | zero => exact absurd HA.out (by simp [payrolllaw29_BracketRounds.j2])
        | succ kj32 =>
         have H := HA.out
         clear HA
         simp only [payrolllaw29_BracketRounds.j2] at H
         by_cases c35 : x78_32 = true
         ·
          subst c35
          have H1 : (if (wrap64 ((wrap64 (t476 * 1000000)) - t474)) ≥ 0 then ((payrolllaw29_awake.f kj32).bind fun t479 => (some t479)) else (some false)) = some r := by rw [if_pos rfl] at H; exact H
          clear H
          have H := H1
          clear H1
          by_cases c36 : (wrap64 ((wrap64 (t476 * 1000000)) - t474)) ≥ 0
          ·
           rw [if_pos c36] at H
           have c36b0 : decide (0 ≤ (wrap64 ((wrap64 (t476 * 1000000)) - t474))) = true := decide_eq_true c36
           clear c36
           replace H := Option.bind_eq_some_iff.mp H
           obtain ⟨t479, A370, H⟩ := H
           replace H : (some t479) = some r := H
           have A37 := Aside0.mk A370
           clear A370
           obtain rfl := Option.some.inj H
           go_wp2_with (first | (go_at_call 12; (with_reducible refine (payrolllaw29_awake.calls kj32  t479 _ A37.out).mono ?_); rintro e w38 ⟨rfl, hb⟩; have n0_ := Aside0.mk (below_step (by repeat (first | (with_reducible first | exact HB.out | apply below_alloc | apply pw_below_drewN | apply below_drew1) | exact HB.out)) hb); clear HB; have HB := n0_; clear n0_; (try clear hb); (try clear hb2); (try clear hk); (try clear hi)))
           go_ret
           exact ⟨by first | rfl | (simp [errW_none, errW_some] <;> rfl) | (simp [*, errW_none, errW_some] <;> rfl), by repeat (first | (with_reducible first | exact HB.out | apply below_alloc | apply pw_below_drewN | apply below_drew1) | exact HB.out)⟩
          ·
           rw [if_neg c36] at H
           have c36b0 : decide (0 ≤ (wrap64 ((wrap64 (t476 * 1000000)) - t474))) = false := decide_eq_false c36
           clear c36
           obtain rfl := Option.some.inj H
           go_wp2
           go_ret
           exact ⟨by first | rfl | (simp [errW_none, errW_some] <;> rfl) | (simp [*, errW_none, errW_some] <;> rfl), by repeat (first | (with_reducible first | exact HB.out | apply below_alloc | apply pw_below_drewN | apply below_drew1) | exact HB.out)⟩
         ·
          replace c35 := Bool.eq_false_iff.mpr c35
          subst c35
          have H1 : (if (wrap64 (2 * (wrap64 ((wrap64 (t476 * 1000000)) - t474)))) ≤ (wrap64 (t470 * 1000000)) then (if (wrap64 ((-2) * (wrap64 ((wrap64 (t476 * 1000000)) - t474)))) ≤ (wrap64 (t470 * 1000000)) then ((payrolllaw29_awake.f kj32).bind fun t480 => (some t480)) else (some false)) else (some false)) = some r := by rw [if_neg (show ¬ (false = true) by decide)] at H; exact H
          clear H
          have H := H1
          clear H1
          by_cases c39 : (wrap64 (2 * (wrap64 ((wrap64 (t476 * 1000000)) - t474)))) ≤ (wrap64 (t470 * 1000000))
          ·
           rw [if_pos c39] at H
           have c39b0 : decide ((wrap64 (2 * (wrap64 ((wrap64 (t476 * 1000000)) - t474)))) ≤ (wrap64 (t470 * 1000000))) = true := decide_eq_true c39
           clear c39
           by_cases c40 : (wrap64 ((-2) * (wrap64 ((wrap64 (t476 * 1000000)) - t474)))) ≤ (wrap64 (t470 * 1000000))
           ·
            rw [if_pos c40] at H
            have c40b0 : decide ((wrap64 ((-2) * (wrap64 ((wrap64 (t476 * 1000000)) - t474)))) ≤ (wrap64 (t470 * 1000000))) = true := decide_eq_true c40
            clear c40
            replace H := Option.bind_eq_some_iff.mp H
            obtain ⟨t480, A410, H⟩ := H
            replace H : (some t480) = some r := H
            have A41 := Aside0.mk A410
            clear A410
            obtain rfl := Option.some.inj H
            go_wp2_with (first | (go_at_call 12; (with_reducible refine (payrolllaw29_awake.calls kj32  t480 _ A41.out).mono ?_); rintro e w42 ⟨rfl, hb⟩; have n0_ := Aside0.mk (below_step (by repeat (first | (with_reducible first | exact HB.out | apply below_alloc | apply pw_below_drewN | apply below_drew1) | exact HB.out)) hb); clear HB; have HB := n0_; clear n0_; (try clear hb); (try clear hb2); (try clear hk); (try clear hi)))
            go_ret
            exact ⟨by first | rfl | (simp [errW_none, errW_some] <;> rfl) | (simp [*, errW_none, errW_some] <;> rfl), by repeat (first | (with_reducible first | exact HB.out | apply below_alloc | apply pw_below_drewN | apply below_drew1) | exact HB.out)⟩
           ·
            rw [if_neg c40] at H
            have c40b0 : decide ((wrap64 ((-2) * (wrap64 ((wrap64 (t476 * 1000000)) - t474)))) ≤ (wrap64 (t470 * 1000000))) = false := decide_eq_false c40
            clear c40
            obtain rfl := Option.some.inj H
            go_wp2
            go_ret
            exact ⟨by first | rfl | (simp [errW_none, errW_some] <;> rfl) | (simp [*, errW_none, errW_some] <;> rfl), by repeat (first | (with_reducible first | exact HB.out | apply below_alloc | apply pw_below_drewN | apply below_drew1) | exact HB.out)⟩
          ·
           rw [if_neg c39] at H
           have c39b0 : decide ((wrap64 (2 * (wrap64 ((wrap64 (t476 * 1000000)) - t474)))) ≤ (wrap64 (t470 * 1000000))) = false := decide_eq_false c39
           clear c39
           obtain rfl := Option.some.inj H
           go_wp2
           go_ret
           exact ⟨by first | rfl | (simp [errW_none, errW_some] <;> rfl) | (simp [*, errW_none, errW_some] <;> rfl), by repeat (first | (with_reducible first | exact HB.out | apply below_alloc | apply pw_below_drewN | apply below_drew1) | exact HB.out)⟩

/-- THE ONE PURE STATEMENT of payrolllaw29_BracketRounds: yours. -/
def payrolllaw29_BracketRounds.Pure : Prop := ∀ (l0 : List Int), l0.length ≤ maxLen → l0.length * 8 ≤ 140737488351232 → (∀ x ∈ l0, (Lit.int .i64 x).wf = true) → ∃ k, payrolllaw29_BracketRounds.f k l0 = some true
theorem payrolllaw29_BracketRounds.walk (P : payrolllaw29_BracketRounds.Pure) (a0 : Option Addr) (len0 cap0 : Nat) (z0 : List Int) (w : World) (w0 : (a0 = none ∧ len0 = 0 ∧ cap0 = 0 ∧ z0 = []) ∨ ∃ x, a0 = some x ∧ len0 ≤ cap0 ∧ cap0 ≤ maxLen ∧ z0.length = cap0 ∧ (∀ i, i < z0.length → w.cell? (x.add i) = some (.int .i64 (z0.getD i 0))) ∧ ∀ n ∈ z0, (Lit.int .i64 n).wf = true) (y0 : len0 * 8 ≤ 140737488351232) :
  Calls Try.prog 10 #[.slice a0 len0 cap0] w fun e w' => e = .returned (.bool true) ∧ Below w.heap.size w w' := by
 obtain ⟨l0, rfl, hr0, hm0, hw0, hc0⟩ := ReadsInt.ofRowC w0
 obtain ⟨k, h⟩ := P l0 hm0 y0 hw0
 refine (payrolllaw29_BracketRounds.calls k _ _ l0 true w (Kd.C_of_reads (d := (0 : Int)) (h1 := fun _ => rfl) hr0) hc0 h).mono ?_
 rintro e w' ⟨rfl, hd⟩
 exact ⟨rfl, hd⟩

end Go.Proofs.Ytafoplpaoahdiaa.P
