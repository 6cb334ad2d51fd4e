/- Proved here: that the Go function payrolllaw29_BracketTaxes computes the plain function of that name (the machine side of the laws, reworked from a print; no condition of its own). -/
import Derived.Test.YtafoplpaoahdiaaProg
import Derived.Test.YtafoplpaoahdiaaV1
import Derived.Test.YtafoplpaoahdiaaFPRE0
import Derived.Test.YtafoplpaoahdiaaFPRE1
import Derived.Test.YtafoplpaoahdiaaFbracketSplit
import Derived.Test.YtafoplpaoahdiaaFbracketExact
import Derived.Test.YtafoplpaoahdiaaFpayrolllaw29awake
import Derived.Test.YtafoplpaoahdiaaFPRE3
import Derived.Test.YtafoplpaoahdiaaFpaygenNew
import Derived.Test.YtafoplpaoahdiaaFpaygenDeckPick
import Derived.Test.YtafoplpaoahdiaaFpaygenDeckBrackets
import Derived.Test.YtafoplpaoahdiaaFpayrolllaw29income
import Derived.Test.YtafoplpaoahdiaaFbracketMarginal
import Derived.Test.YtafoplpaoahdiaaFpayrollref29Split
import Derived.Test.YtafoplpaoahdiaaFpayrollref29Exact
import Derived.Test.YtafoplpaoahdiaaFpaygenDeckMode
import Derived.Test.YtafoplpaoahdiaaFbracketTax
import Derived.Test.YtafoplpaoahdiaaFpayrolllaw29ints
import Derived.Test.YtafoplpaoahdiaaFpayrollref29Marginal
import Derived.Test.YtafoplpaoahdiaaFpayrollref29Tax
namespace Go.Proofs.Ytafoplpaoahdiaa.P
open Go.RowKit Go.Proofs.YtafoplpaoahdiaaW.PrintWords Go.Proofs.YtafoplpaoahdiaaW.PrintLast Go.Proofs.YtafoplpaoahdiaaW.PrintMore
attribute [local go_sem] max2_int min2_int max_two min_two max_three min_three max_four min_four   -- for this text's walks alone
set_option linter.unusedVariables false
set_option linter.unusedSimpArgs false

mutual
def payrolllaw29_BracketTaxes.l0 : Nat → List (S30) → List Int → List Int → List Int → Int → Option (Bool)
 | 0, _, _, _, _, _ => none
 | k + 1, x10, x11, x12, x13, x14 => if x14 < 2 then (if 0 ≤ x14 then (if x14 < (x11.length : Int) then ((bracket_Split.f k x10 (rd x11 x14)).bind fun bt517 => ((payrollref29_Split.f k x10 (rd x11 x14)).bind fun bt522 => ((bracket_Exact.f k x10 (rd x11 x14)).bind fun bt527 => ((payrollref29_Exact.f k x10 (rd x11 x14)).bind fun bt530 => (if bt517.2 = bt522.2 then ((payrolllaw29_ints.f k bt517.1 bt522.1).bind fun t532 => (if t532 = true then (if bt527.2 = bt530.2 then (payrolllaw29_BracketTaxes.j1 k x10 x11 x12 x13 x14 (bt527.1 != bt530.1)) else (payrolllaw29_BracketTaxes.j1 k x10 x11 x12 x13 x14 true)) else (payrolllaw29_BracketTaxes.j1 k x10 x11 x12 x13 x14 true))) else (payrolllaw29_BracketTaxes.j1 k x10 x11 x12 x13 x14 true)))))) else (none)) else (none)) else ((payrolllaw29_awake.f k).bind fun t515 => (some t515))
def payrolllaw29_BracketTaxes.j1 : Nat → List (S30) → List Int → List Int → List Int → Int → Bool → Option (Bool)
 | 0, _, _, _, _, _, _ => none
 | k + 1, x10, x11, x12, x13, x14, x107 => if x107 = true then (some false) else (if 0 ≤ x14 then (if x14 < (x11.length : Int) then ((bracket_Marginal.f k x10 (rd x11 x14)).bind fun bt534 => ((payrollref29_Marginal.f k x10 (rd x11 x14)).bind fun bt537 => (if x14 < (x12.length : Int) then (if x14 < (x13.length : Int) then ((bracket_Tax.f k x10 (rd x11 x14) (rd x12 x14) (rd x13 x14)).bind fun bt542 => ((payrollref29_Tax.f k x10 (rd x11 x14) (rd x12 x14) (rd x13 x14)).bind fun bt547 => (if bt534.2 = bt537.2 then (if bt534.1 = bt537.1 then (if bt542.2 = bt547.2 then (if bt542.1 = bt547.1 then (payrolllaw29_BracketTaxes.l0 k x10 x11 x12 x13 (wrap64 (x14 + 1))) else (some false)) else (some false)) else (some false)) else (some false)))) else (none)) else (none)))) else (none)) else (none))
end
def payrolllaw29_BracketTaxes.f (k : Nat) (l0 : List Int) (a1 : Int) (a2 : Int) (a3 : Int) : Option (Bool) := (paygen_New.f l0).bind fun bt490 => ((paygen_Deck_Brackets.f k bt490.1 bt490.2 false).bind fun bt493 => ((payrolllaw29_income.f bt490.1 bt493.2 bt493.1).bind fun bt497 => ((paygen_Deck_Pick.f bt490.1 bt497.2 (([1, 100, 10, 1000000, 7] : List Int))).bind fun bt505 => ((paygen_Deck_Mode.f bt490.1 bt505.2).bind fun bt510 => (payrolllaw29_BracketTaxes.l0 k bt493.1 (([bt497.1, a1] : List Int)) (([bt505.1, a2] : List Int)) (([bt510.1, a3] : List Int)) 0)))))
theorem payrolllaw29_BracketTaxes.mono_l : ∀ k, (∀ y0 y1 y2 y3 y4, LeO (payrolllaw29_BracketTaxes.l0 k y0 y1 y2 y3 y4) (payrolllaw29_BracketTaxes.l0 (k + 1) y0 y1 y2 y3 y4)) ∧ (∀ y0 y1 y2 y3 y4 y5, LeO (payrolllaw29_BracketTaxes.j1 k y0 y1 y2 y3 y4 y5) (payrolllaw29_BracketTaxes.j1 (k + 1) y0 y1 y2 y3 y4 y5))
 | 0 => ⟨fun _ _ _ _ _ r h => by simp [payrolllaw29_BracketTaxes.l0] at h, fun _ _ _ _ _ _ r h => by simp [payrolllaw29_BracketTaxes.j1] at h⟩
 | k + 1 => by
  obtain ⟨ih0, ih1⟩ := payrolllaw29_BracketTaxes.mono_l k
  refine ⟨?_, ?_⟩
  ·
   intro y0 y1 y2 y3 y4
   unfold payrolllaw29_BracketTaxes.l0
   repeat' first
   | (with_reducible exact ih0 _ _ _ _ _)
   | (with_reducible exact ih1 _ _ _ _ _ _)
   | (with_reducible exact bracket_Exact.mono _ _ _)
   | (with_reducible exact bracket_Marginal.mono _ _ _)
   | (with_reducible exact bracket_Split.mono _ _ _)
   | (with_reducible exact bracket_Tax.mono _ _ _ _ _)
   | (with_reducible exact paygen_Deck_Brackets.mono _ _ _ _)
   | (with_reducible exact payrolllaw29_awake.mono _)
   | (with_reducible exact payrolllaw29_ints.mono _ _ _)
   | (with_reducible exact payrollref29_Exact.mono _ _ _)
   | (with_reducible exact payrollref29_Marginal.mono _ _ _)
   | (with_reducible exact payrollref29_Split.mono _ _ _)
   | (with_reducible exact payrollref29_Tax.mono _ _ _ _ _)
   | (with_reducible exact LeO.refl _)
   | (with_reducible exact LeO.none _)
   | (with_reducible refine LeO.ite ?_ ?_)
   | (with_reducible refine LeO.bind ?_ (fun _ => ?_))
   | exact ih0 _ _ _ _ _
   | exact ih1 _ _ _ _ _ _
   | exact bracket_Exact.mono _ _ _
   | exact bracket_Marginal.mono _ _ _
   | exact bracket_Split.mono _ _ _
   | exact bracket_Tax.mono _ _ _ _ _
   | exact paygen_Deck_Brackets.mono _ _ _ _
   | exact payrolllaw29_awake.mono _
   | exact payrolllaw29_ints.mono _ _ _
   | exact payrollref29_Exact.mono _ _ _
   | exact payrollref29_Marginal.mono _ _ _
   | exact payrollref29_Split.mono _ _ _
   | exact payrollref29_Tax.mono _ _ _ _ _
   | exact LeO.none _
   | refine LeO.ite ?_ ?_
   | refine LeO.bind ?_ (fun _ => ?_)
  ·
   intro y0 y1 y2 y3 y4 y5
   unfold payrolllaw29_BracketTaxes.j1
   repeat' first
   | (with_reducible exact ih0 _ _ _ _ _)
   | (with_reducible exact ih1 _ _ _ _ _ _)
   | (with_reducible exact bracket_Exact.mono _ _ _)
   | (with_reducible exact bracket_Marginal.mono _ _ _)
   | (with_reducible exact bracket_Split.mono _ _ _)
   | (with_reducible exact bracket_Tax.mono _ _ _ _ _)
   | (with_reducible exact paygen_Deck_Brackets.mono _ _ _ _)
   | (with_reducible exact payrolllaw29_awake.mono _)
   | (with_reducible exact payrolllaw29_ints.mono _ _ _)
   | (with_reducible exact payrollref29_Exact.mono _ _ _)
   | (with_reducible exact payrollref29_Marginal.mono _ _ _)
   | (with_reducible exact payrollref29_Split.mono _ _ _)
   | (with_reducible exact payrollref29_Tax.mono _ _ _ _ _)
   | (with_reducible exact LeO.refl _)
   | (with_reducible exact LeO.none _)
   | (with_reducible refine LeO.ite ?_ ?_)
   | (with_reducible refine LeO.bind ?_ (fun _ => ?_))
   | exact ih0 _ _ _ _ _
   | exact ih1 _ _ _ _ _ _
   | exact bracket_Exact.mono _ _ _
   | exact bracket_Marginal.mono _ _ _
   | exact bracket_Split.mono _ _ _
   | exact bracket_Tax.mono _ _ _ _ _
   | exact paygen_Deck_Brackets.mono _ _ _ _
   | exact payrolllaw29_awake.mono _
   | exact payrolllaw29_ints.mono _ _ _
   | exact payrollref29_Exact.mono _ _ _
   | exact payrollref29_Marginal.mono _ _ _
   | exact payrollref29_Split.mono _ _ _
   | exact payrollref29_Tax.mono _ _ _ _ _
   | exact LeO.none _
   | refine LeO.ite ?_ ?_
   | refine LeO.bind ?_ (fun _ => ?_)
theorem payrolllaw29_BracketTaxes.mono : ∀ a0 a1 a2 a3 k, LeO (payrolllaw29_BracketTaxes.f k a0 a1 a2 a3) (payrolllaw29_BracketTaxes.f (k + 1) a0 a1 a2 a3) := by
 intro a0 a1 a2 a3 k
 obtain ⟨ih0, ih1⟩ := payrolllaw29_BracketTaxes.mono_l k
 unfold payrolllaw29_BracketTaxes.f
 repeat' first
   | (with_reducible exact ih0 _ _ _ _ _)
   | (with_reducible exact ih1 _ _ _ _ _ _)
   | (with_reducible exact bracket_Exact.mono _ _ _)
   | (with_reducible exact bracket_Marginal.mono _ _ _)
   | (with_reducible exact bracket_Split.mono _ _ _)
   | (with_reducible exact bracket_Tax.mono _ _ _ _ _)
   | (with_reducible exact paygen_Deck_Brackets.mono _ _ _ _)
   | (with_reducible exact payrolllaw29_awake.mono _)
   | (with_reducible exact payrolllaw29_ints.mono _ _ _)
   | (with_reducible exact payrollref29_Exact.mono _ _ _)
   | (with_reducible exact payrollref29_Marginal.mono _ _ _)
   | (with_reducible exact payrollref29_Split.mono _ _ _)
   | (with_reducible exact payrollref29_Tax.mono _ _ _ _ _)
   | (with_reducible exact LeO.refl _)
   | (with_reducible exact LeO.none _)
   | (with_reducible refine LeO.ite ?_ ?_)
   | (with_reducible refine LeO.bind ?_ (fun _ => ?_))
   | exact ih0 _ _ _ _ _
   | exact ih1 _ _ _ _ _ _
   | exact bracket_Exact.mono _ _ _
   | exact bracket_Marginal.mono _ _ _
   | exact bracket_Split.mono _ _ _
   | exact bracket_Tax.mono _ _ _ _ _
   | exact paygen_Deck_Brackets.mono _ _ _ _
   | exact payrolllaw29_awake.mono _
   | exact payrolllaw29_ints.mono _ _ _
   | exact payrollref29_Exact.mono _ _ _
   | exact payrollref29_Marginal.mono _ _ _
   | exact payrollref29_Split.mono _ _ _
   | exact payrollref29_Tax.mono _ _ _ _ _
   | exact LeO.none _
   | refine LeO.ite ?_ ?_
   | refine LeO.bind ?_ (fun _ => ?_)
def payrolllaw29_BracketTaxes.T16 : Bool × List (List Nat × List Nat) := (true, [([], []), ([], []), ([], []), ([1, 2], [1, 2]), ([3], [3]), ([], []), ([], []), ([5, 6], [5, 6]), ([7], [7]), ([], []), ([], []), ([9, 10], [9, 10]), ([11], [11]), ([0, 4, 8, 12], [0, 4, 8, 12]), ([13], [13]), ([14], [14]), ([14], [14]), ([15, 13, 0, 1, 2, 3, 4, 5, 6, 7, 8, 9, 10, 11, 12, 13, 14, 15], [15]), ([16, 17, 0, 1, 2, 3, 4, 5, 6, 7, 8, 9, 10, 11, 12, 13, 14, 15, 16, 17], [16])])
def payrolllaw29_BracketTaxes.B16 : List Nat := [0, 0, 0, 6, 14, 0, 0, 96, 224, 0, 0, 1536, 3584, 8191, 16383, 32767, 32767, 65535, 262143]
theorem payrolllaw29_BracketTaxes.tab16 : rtab .any (opsOf Try.f11 16) = payrolllaw29_BracketTaxes.T16 := by kernel_rfl
theorem payrolllaw29_BracketTaxes.bits16 : waitsOk payrolllaw29_BracketTaxes.T16.2 payrolllaw29_BracketTaxes.B16 = true := by kernel_rfl
def payrolllaw29_BracketTaxes.T17 : Bool × List (List Nat × List Nat) := (true, [([], []), ([], []), ([], []), ([1, 2], [1, 2]), ([3], [3]), ([], []), ([], []), ([5, 6], [5, 6]), ([7], [7]), ([], []), ([], []), ([9, 10], [9, 10]), ([11], [11]), ([0, 4, 8, 12], [0, 4, 8, 12]), ([13], [13]), ([14], [14]), ([14], [14]), ([15, 13, 0, 1, 2, 3, 4, 5, 6, 7, 8, 9, 10, 11, 12, 13, 14, 15], [15]), ([16, 17, 0, 1, 2, 3, 4, 5, 6, 7, 8, 9, 10, 11, 12, 13, 14, 15, 16, 17], [16])])
def payrolllaw29_BracketTaxes.B17 : List Nat := [0, 0, 0, 6, 14, 0, 0, 96, 224, 0, 0, 1536, 3584, 8191, 16383, 32767, 32767, 65535, 262143]
theorem payrolllaw29_BracketTaxes.tab17 : rtab .any (opsOf Try.f11 17) = payrolllaw29_BracketTaxes.T17 := by kernel_rfl
theorem payrolllaw29_BracketTaxes.bits17 : waitsOk payrolllaw29_BracketTaxes.T17.2 payrolllaw29_BracketTaxes.B17 = true := by kernel_rfl
set_option maxHeartbeats 8000000 in
set_option maxRecDepth 100000 in
theorem payrolllaw29_BracketTaxes.calls (k : Nat) (A0 : Option Addr) (c0 : Nat) (l0 : List Int) (a1 : Int) (a2 : Int) (a3 : Int) (r : Bool) (w : World) (hr0 : Kd.C (Kd.int .i64) w A0 l0.length l0) (hc0 : l0.length ≤ c0) (h : payrolllaw29_BracketTaxes.f k l0 a1 a2 a3 = some r) :
  Calls Try.prog 11 #[.slice A0 l0.length c0, .int .i64 a1, .int .i64 a2, .int .i64 a3] w fun e w' => e = .returned (.bool r) ∧ Below w.heap.size w w' := by
 have HR0 := Aside0.mk hr0
 have HC0 := Aside0.mk hc0
 clear hr0 hc0
 have HB := Aside0.mk (Below.refl w.heap.size w)
 have H : ((paygen_New.f l0).bind fun bt490 => ((paygen_Deck_Brackets.f k bt490.1 bt490.2 false).bind fun bt493 => ((payrolllaw29_income.f bt490.1 bt493.2 bt493.1).bind fun bt497 => ((paygen_Deck_Pick.f bt490.1 bt497.2 (([1, 100, 10, 1000000, 7] : List Int))).bind fun bt505 => ((paygen_Deck_Mode.f bt490.1 bt505.2).bind fun bt510 => (payrolllaw29_BracketTaxes.l0 k bt493.1 (([bt497.1, a1] : List Int)) (([bt505.1, a2] : List Int)) (([bt510.1, a3] : List Int)) 0)))))) = some r := h
 clear h
 replace H := Option.bind_eq_some_iff.mp H
 obtain ⟨⟨t490, t491⟩, A50, H⟩ := H
 replace H : ((paygen_Deck_Brackets.f k t490 t491 false).bind fun bt493 => ((payrolllaw29_income.f t490 bt493.2 bt493.1).bind fun bt497 => ((paygen_Deck_Pick.f t490 bt497.2 (([1, 100, 10, 1000000, 7] : List Int))).bind fun bt505 => ((paygen_Deck_Mode.f t490 bt505.2).bind fun bt510 => (payrolllaw29_BracketTaxes.l0 k bt493.1 (([bt497.1, a1] : List Int)) (([bt505.1, a2] : List Int)) (([bt510.1, a3] : List Int)) 0))))) = some r := H
 have A5 := Aside0.mk A50
 clear A50
 replace H := Option.bind_eq_some_iff.mp H
 obtain ⟨⟨t493, t496⟩, A60, H⟩ := H
 replace H : ((payrolllaw29_income.f t490 t496 t493).bind fun bt497 => ((paygen_Deck_Pick.f t490 bt497.2 (([1, 100, 10, 1000000, 7] : List Int))).bind fun bt505 => ((paygen_Deck_Mode.f t490 bt505.2).bind fun bt510 => (payrolllaw29_BracketTaxes.l0 k t493 (([bt497.1, a1] : List Int)) (([bt505.1, a2] : List Int)) (([bt510.1, a3] : List Int)) 0)))) = some r := H
 have A6 := Aside0.mk A60
 clear A60
 replace H := Option.bind_eq_some_iff.mp H
 obtain ⟨⟨t497, t498⟩, A70, H⟩ := H
 replace H : ((paygen_Deck_Pick.f t490 t498 (([1, 100, 10, 1000000, 7] : List Int))).bind fun bt505 => ((paygen_Deck_Mode.f t490 bt505.2).bind fun bt510 => (payrolllaw29_BracketTaxes.l0 k t493 (([t497, a1] : List Int)) (([bt505.1, a2] : List Int)) (([bt510.1, a3] : List Int)) 0))) = some r := H
 have A7 := Aside0.mk A70
 clear A70
 obtain ⟨y499, hy499⟩ : ∃ y_ : List Int, y_ = (([t497, a1] : List Int)) := ⟨_, rfl⟩
 replace H : ((paygen_Deck_Pick.f t490 t498 (([1, 100, 10, 1000000, 7] : List Int))).bind fun bt505 => ((paygen_Deck_Mode.f t490 bt505.2).bind fun bt510 => (payrolllaw29_BracketTaxes.l0 k t493 y499 (([bt505.1, a2] : List Int)) (([bt510.1, a3] : List Int)) 0))) = some r := by first | (rw [hy499]; with_reducible exact H) | (have H2_ := (Option.bind_some _ _).symm.trans H; rw [hy499]; with_reducible exact H2_) | (have H2_ := (Option.bind_some _ _).symm.trans H; with_reducible exact H2_) | with_reducible exact H | (rw [hy499]; exact H) | exact H
 have Ny499 := Aside0.mk hy499
 clear hy499
 obtain ⟨y502, hy502⟩ : ∃ y_ : List Int, y_ = (([1, 100, 10, 1000000, 7] : List Int)) := ⟨_, rfl⟩
 replace H : ((paygen_Deck_Pick.f t490 t498 y502).bind fun bt505 => ((paygen_Deck_Mode.f t490 bt505.2).bind fun bt510 => (payrolllaw29_BracketTaxes.l0 k t493 y499 (([bt505.1, a2] : List Int)) (([bt510.1, a3] : List Int)) 0))) = some r := by first | (rw [hy502]; with_reducible exact H) | (have H2_ := (Option.bind_some _ _).symm.trans H; rw [hy502]; with_reducible exact H2_) | (have H2_ := (Option.bind_some _ _).symm.trans H; with_reducible exact H2_) | with_reducible exact H | (rw [hy502]; exact H) | exact H
 have Ny502 := Aside0.mk hy502
 clear hy502
 replace H := Option.bind_eq_some_iff.mp H
 obtain ⟨⟨t505, t506⟩, A80, H⟩ := H
 replace H : ((paygen_Deck_Mode.f t490 t506).bind fun bt510 => (payrolllaw29_BracketTaxes.l0 k t493 y499 (([t505, a2] : List Int)) (([bt510.1, a3] : List Int)) 0)) = some r := H
 have A8 := Aside0.mk A80
 clear A80
 obtain ⟨y507, hy507⟩ : ∃ y_ : List Int, y_ = (([t505, a2] : List Int)) := ⟨_, rfl⟩
 replace H : ((paygen_Deck_Mode.f t490 t506).bind fun bt510 => (payrolllaw29_BracketTaxes.l0 k t493 y499 y507 (([bt510.1, a3] : List Int)) 0)) = some r := by first | (rw [hy507]; with_reducible exact H) | (have H2_ := (Option.bind_some _ _).symm.trans H; rw [hy507]; with_reducible exact H2_) | (have H2_ := (Option.bind_some _ _).symm.trans H; with_reducible exact H2_) | with_reducible exact H | (rw [hy507]; exact H) | exact H
 have Ny507 := Aside0.mk hy507
 clear hy507
 replace H := Option.bind_eq_some_iff.mp H
 obtain ⟨⟨t510, t511⟩, A90, H⟩ := H
 replace H : (payrolllaw29_BracketTaxes.l0 k t493 y499 y507 (([t510, a3] : List Int)) 0) = some r := H
 have A9 := Aside0.mk A90
 clear A90
 obtain ⟨y512, hy512⟩ : ∃ y_ : List Int, y_ = (([t510, a3] : List Int)) := ⟨_, rfl⟩
 replace H : (payrolllaw29_BracketTaxes.l0 k t493 y499 y507 y512 0) = some r := by first | (rw [hy512]; with_reducible exact H) | (have H2_ := (Option.bind_some _ _).symm.trans H; rw [hy512]; with_reducible exact H2_) | (have H2_ := (Option.bind_some _ _).symm.trans H; with_reducible exact H2_) | with_reducible exact H | (rw [hy512]; exact H) | exact H
 have Ny512 := Aside0.mk hy512
 clear hy512
 have H' := Aside0.mk H
 clear H
 go_enter Try.func11, Try.ntmps11
 go_wp2_with (first | ((with_reducible refine gate_callee (f := 13) rfl ?_); refine goesL_ (some 32) rfl rfl Try.func13 (by kernel_rfl) rfl #[.slice A0 l0.length c0] rfl (by (try simp only [List.map_toArray, List.map_cons, List.map_nil]); first | done | rfl | (simp only [List.length_drop, List.length_take]; rfl)) ?_; (with_reducible refine (paygen_New.calls _ _ l0 t490 t491 w _ ?side1 ?side2 ?side3 A5.out).mono ?_); (case side1 => repeat (first | (with_reducible first | exact HB.out | apply below_alloc | apply pw_below_drewN | apply below_drew1) | exact HB.out)); (case side2 => exact HR0.out); (case side3 => exact HC0.out); rintro e w10 ⟨g492, rfl, hi, hb, hb2⟩; refine ⟨_, rfl, ?_⟩; have n0_ := Aside0.mk (hb); have n1_ := Aside0.mk (hi); clear HB; have HB := n0_; have HI492 := n1_; clear n0_ n1_; (try clear hb); (try clear hb2); (try clear hk); (try clear hi)) | ((with_reducible refine gate_callee (f := 14) rfl ?_); refine goesL_ (some 34) rfl rfl Try.func14 (by kernel_rfl) rfl #[.pointer (some ⟨g492, 0, none⟩), .bool false] rfl (by (try simp only [List.map_toArray, List.map_cons, List.map_nil]); first | done | rfl | (simp only [List.length_drop, List.length_take]; rfl)) ?_; (with_reducible refine (paygen_Deck_Brackets.calls k g492 t490 t491 false t493 t496 w _ ?side1 ?side2 A6.out).mono ?_); (case side1 => repeat (first | (with_reducible first | exact HI492.out | apply IsS56.alloc | apply IsS56.drewN | apply IsS56.drew | apply IsS56.set_1) | exact HI492.out)); (case side2 => repeat (first | (with_reducible first | exact HB.out | apply below_alloc | apply pw_below_drewN | apply below_drew1 | refine below_set ?_ (IsS56.ge HI492.out)) | exact HB.out)); rintro e w11 ⟨v494, rfl, ho0, hi, hb, hk⟩; refine ⟨_, rfl, ?_⟩; have n0_ := Aside0.mk (Kd.R_lower ho0 (below_size (by repeat (first | (with_reducible first | exact HB.out | apply below_alloc | apply pw_below_drewN | apply below_drew1 | refine below_set ?_ (IsS56.ge HI492.out)) | exact HB.out)))); have n1_ := Aside0.mk (hb); have n2_ := Aside0.mk (hi); clear HB; clear HI492; have HO495 := n0_; have HB := n1_; have HI492 := n2_; clear n0_ n1_ n2_; (try clear hb); (try clear hb2); (try clear hk); (try clear hi); (try clear ho0); obtain ⟨Ao12, co12, eo12⟩ := Kd.R_slice HO495.out; subst eo12) | ((with_reducible refine gate_callee (f := 19) rfl ?_); refine goesL_ (some 37) rfl rfl Try.func19 (by kernel_rfl) rfl #[.pointer (some ⟨g492, 0, none⟩), .slice Ao12 t493.length co12] rfl (by (try simp only [List.map_toArray, List.map_cons, List.map_nil]); first | done | rfl | (simp only [List.length_drop, List.length_take]; rfl)) ?_; (with_reducible refine (payrolllaw29_income.calls g492 t490 t496 _ _ t493 t497 t498 w _ ?side1 ?side2 ?side3 ?side4 A7.out).mono ?_); (case side1 => repeat (first | (with_reducible first | exact HI492.out | apply IsS56.alloc | apply IsS56.drewN | apply IsS56.drew | apply IsS56.set_1) | exact HI492.out)); (case side2 => repeat (first | (with_reducible first | exact HB.out | apply below_alloc | apply pw_below_drewN | apply below_drew1 | refine below_set ?_ (IsS56.ge HI492.out)) | exact HB.out)); (case side3 => exact Kd.C_foot_own (IsS56.apart (show IsS56 w _ g492 t490 t496 from by repeat (first | (with_reducible first | exact HI492.out | apply IsS56.alloc | apply IsS56.drewN | apply IsS56.drew | apply IsS56.set_1) | exact HI492.out)) (by (with_reducible repeat (first | apply Kd.R_alloc | apply Kd.R_drewN | apply Kd.R_drew)); exact HO495.out) (by decide)) (fun _ h_ => h_.2)); (case side4 => exact (Kd.R_reads' HO495.out).2.1); rintro e w13 ⟨rfl, hi, hb, hk⟩; refine ⟨_, rfl, ?_⟩; have n0_ := Aside0.mk (Kd.R_mono (Kd.R_keep (IsS56.apart (show IsS56 w _ g492 t490 t496 from by repeat (first | (with_reducible first | exact HI492.out | apply IsS56.alloc | apply IsS56.drewN | apply IsS56.drew | apply IsS56.set_1) | exact HI492.out)) (by (with_reducible repeat (first | apply Kd.R_alloc | apply Kd.R_drewN | apply Kd.R_drew)); exact HO495.out) (by decide)) hk (fun _ h => h.2)) (fun _ h => h.1)); have n1_ := Aside0.mk (hb); have n2_ := Aside0.mk (hi); clear HO495; clear HB; clear HI492; have HO495 := n0_; have HB := n1_; have HI492 := n2_; clear n0_ n1_ n2_; (try clear hb); (try clear hb2); (try clear hk); (try clear hi)) | ((with_reducible refine gate_dst (N := 39) rfl ?_); refine Kd.R_lit (Kd.int .i64) _ 3 ?hg (N := 39) ?hd (xs := ([t497, a1] : List Int)) (inner := [.int .i64 t497, .int .i64 a1]) (ok := fun _ => True) (okp := fun _ => True) ?hr ?hp (fun _ hk => hk) trivial (Below.refl _ _) (Nat.le_refl _) (by simp) ?_; (case hd => rfl); (case hg => rfl); (case hr => first | (go_simp; done) | (go_simp; rfl)); (case hp => exact (Reps.one (show Kd.M (Kd.int .i64) _ _ _ t497 [.int .i64 t497] from rfl) (Reps.one (show Kd.M (Kd.int .i64) _ _ _ a1 [.int .i64 a1] from rfl) (Reps.none _ _)))); intro v500 w14 ho15 hb hg_ hnew_; clear hg_ hnew_; (first | rw [← Ny499.out] at ho15 | (simp only [Int.reduceToNat] at ho15; rw [← Ny499.out] at ho15)); have n0_ := Aside0.mk (Kd.R_below (by (with_reducible repeat (first | apply Kd.R_alloc | apply Kd.R_drewN | apply Kd.R_drew)); exact HO495.out) hb); have n1_ := Aside0.mk (Kd.R_lower ho15 (below_size (by repeat (first | (with_reducible first | exact HB.out | apply below_alloc | apply pw_below_drewN | apply below_drew1 | refine below_set ?_ (IsS56.ge HI492.out)) | exact HB.out)))); have n2_ := Aside0.mk (IsS56.below (by repeat (first | (with_reducible first | exact HI492.out | apply IsS56.alloc | apply IsS56.drewN | apply IsS56.drew | apply IsS56.set_1) | exact HI492.out)) hb); have n3_ := Aside0.mk (below_step (by repeat (first | (with_reducible first | exact HB.out | apply below_alloc | apply pw_below_drewN | apply below_drew1 | refine below_set ?_ (IsS56.ge HI492.out)) | exact HB.out)) hb); clear HO495; clear HI492; clear HB; have HO495 := n0_; have HO501 := n1_; have HI492 := n2_; have HB := n3_; clear n0_ n1_ n2_ n3_; clear hb ho15) | ((with_reducible refine gate_dst (N := 41) rfl ?_); refine Kd.R_lit (Kd.int .i64) _ 3 ?hg (N := 41) ?hd (xs := ([1, 100, 10, 1000000, 7] : List Int)) (inner := [.int .i64 1, .int .i64 100, .int .i64 10, .int .i64 1000000, .int .i64 7]) (ok := fun _ => True) (okp := fun _ => True) ?hr ?hp (fun _ hk => hk) trivial (Below.refl _ _) (Nat.le_refl _) (by simp) ?_; (case hd => rfl); (case hg => rfl); (case hr => first | (go_simp; done) | (go_simp; rfl)); (case hp => exact (Reps.one (show Kd.M (Kd.int .i64) _ _ _ 1 [.int .i64 1] from rfl) (Reps.one (show Kd.M (Kd.int .i64) _ _ _ 100 [.int .i64 100] from rfl) (Reps.one (show Kd.M (Kd.int .i64) _ _ _ 10 [.int .i64 10] from rfl) (Reps.one (show Kd.M (Kd.int .i64) _ _ _ 1000000 [.int .i64 1000000] from rfl) (Reps.one (show Kd.M (Kd.int .i64) _ _ _ 7 [.int .i64 7] from rfl) (Reps.none _ _))))))); intro v503 w16 ho17 hb hg_ hnew_; clear hg_ hnew_; (first | rw [← Ny502.out] at ho17 | (simp only [Int.reduceToNat] at ho17; rw [← Ny502.out] at ho17)); have n0_ := Aside0.mk (Kd.R_below (by (with_reducible repeat (first | apply Kd.R_alloc | apply Kd.R_drewN | apply Kd.R_drew)); exact HO495.out) hb); have n1_ := Aside0.mk (Kd.R_elder' (by (with_reducible repeat (first | apply Kd.R_alloc | apply Kd.R_drewN | apply Kd.R_drew)); exact HO501.out) (Kd.R_base ho17) hb); have n2_ := Aside0.mk (Kd.R_lower (Kd.R_new' ho17 (Kd.R_lt (by (with_reducible repeat (first | apply Kd.R_alloc | apply Kd.R_drewN | apply Kd.R_drew)); exact HO501.out))) (below_size (by repeat (first | (with_reducible first | exact HB.out | apply below_alloc | apply pw_below_drewN | apply below_drew1 | refine below_set ?_ (IsS56.ge HI492.out)) | exact HB.out)))); have n3_ := Aside0.mk (IsS56.below (by repeat (first | (with_reducible first | exact HI492.out | apply IsS56.alloc | apply IsS56.drewN | apply IsS56.drew | apply IsS56.set_1) | exact HI492.out)) hb); have n4_ := Aside0.mk (below_step (by repeat (first | (with_reducible first | exact HB.out | apply below_alloc | apply pw_below_drewN | apply below_drew1 | refine below_set ?_ (IsS56.ge HI492.out)) | exact HB.out)) hb); clear HO495; clear HO501; clear HI492; clear HB; have HO495 := n0_; have HO501 := n1_; have HO504 := n2_; have HI492 := n3_; have HB := n4_; clear n0_ n1_ n2_ n3_ n4_; clear hb ho17; obtain ⟨Ao18, co18, eo18⟩ := Kd.R_slice HO504.out; subst eo18) | ((with_reducible refine gate_callee (f := 30) rfl ?_); refine goesL_ (some 42) rfl rfl Try.func30 (by kernel_rfl) rfl #[.pointer (some ⟨g492, 0, none⟩), .slice Ao18 y502.length co18] rfl (by (try simp only [List.map_toArray, List.map_cons, List.map_nil]); first | done | rfl | (simp only [List.length_drop, List.length_take]; rfl)) ?_; (with_reducible refine (paygen_Deck_Pick.calls g492 t490 t498 _ _ y502 t505 t506 w _ ?side1 ?side2 ?side3 ?side4 ?side5 A8.out).mono ?_); (case side1 => repeat (first | (with_reducible first | exact HI492.out | apply IsS56.alloc | apply IsS56.drewN | apply IsS56.drew | apply IsS56.set_1) | exact HI492.out)); (case side2 => repeat (first | (with_reducible first | exact HB.out | apply below_alloc | apply pw_below_drewN | apply below_drew1 | refine below_set ?_ (IsS56.ge HI492.out)) | exact HB.out)); (case side3 => repeat (first | exact (Kd.R_reads' HO504.out).2.2 | (with_reducible refine Kd.C_alloc ?_ _) | (with_reducible refine Kd.C_drewN ?_ _) | (with_reducible refine Kd.C_drew ?_))); (case side4 => exact (Kd.R_reads' HO504.out).2.1); (case side5 => exact far_slice (IsS56.own_ne HI492.out HO504.out (by decide))); rintro e w19 ⟨rfl, hi, hb, hk⟩; refine ⟨_, rfl, ?_⟩; have n0_ := Aside0.mk (Kd.R_mono (Kd.R_keep (IsS56.apart (show IsS56 w _ g492 t490 t498 from by repeat (first | (with_reducible first | exact HI492.out | apply IsS56.alloc | apply IsS56.drewN | apply IsS56.drew | apply IsS56.set_1) | exact HI492.out)) (by (with_reducible repeat (first | apply Kd.R_alloc | apply Kd.R_drewN | apply Kd.R_drew)); exact HO495.out) (by decide)) hk (fun _ h => h.2)) (fun _ h => h.1)); have n1_ := Aside0.mk (Kd.R_mono (Kd.R_keep (IsS56.apart (show IsS56 w _ g492 t490 t498 from by repeat (first | (with_reducible first | exact HI492.out | apply IsS56.alloc | apply IsS56.drewN | apply IsS56.drew | apply IsS56.set_1) | exact HI492.out)) (by (with_reducible repeat (first | apply Kd.R_alloc | apply Kd.R_drewN | apply Kd.R_drew)); exact HO501.out) (by decide)) hk (fun _ h => h.2)) (fun _ h => h.1)); have n2_ := Aside0.mk (Kd.R_mono (Kd.R_keep (IsS56.apart (show IsS56 w _ g492 t490 t498 from by repeat (first | (with_reducible first | exact HI492.out | apply IsS56.alloc | apply IsS56.drewN | apply IsS56.drew | apply IsS56.set_1) | exact HI492.out)) (by (with_reducible repeat (first | apply Kd.R_alloc | apply Kd.R_drewN | apply Kd.R_drew)); exact HO504.out) (by decide)) hk (fun _ h => h.2)) (fun _ h => h.1)); have n3_ := Aside0.mk (hb); have n4_ := Aside0.mk (hi); clear HO495; clear HO501; clear HO504; clear HB; clear HI492; have HO495 := n0_; have HO501 := n1_; have HO504 := n2_; have HB := n3_; have HI492 := n4_; clear n0_ n1_ n2_ n3_ n4_; (try clear hb); (try clear hb2); (try clear hk); (try clear hi)) | ((with_reducible refine gate_dst (N := 44) rfl ?_); refine Kd.R_lit (Kd.int .i64) _ 3 ?hg (N := 44) ?hd (xs := ([t505, a2] : List Int)) (inner := [.int .i64 t505, .int .i64 a2]) (ok := fun _ => True) (okp := fun _ => True) ?hr ?hp (fun _ hk => hk) trivial (Below.refl _ _) (Nat.le_refl _) (by simp) ?_; (case hd => rfl); (case hg => rfl); (case hr => first | (go_simp; done) | (go_simp; rfl)); (case hp => exact (Reps.one (show Kd.M (Kd.int .i64) _ _ _ t505 [.int .i64 t505] from rfl) (Reps.one (show Kd.M (Kd.int .i64) _ _ _ a2 [.int .i64 a2] from rfl) (Reps.none _ _)))); intro v508 w20 ho21 hb hg_ hnew_; clear hg_ hnew_; (first | rw [← Ny507.out] at ho21 | (simp only [Int.reduceToNat] at ho21; rw [← Ny507.out] at ho21)); have n0_ := Aside0.mk (Kd.R_below (by (with_reducible repeat (first | apply Kd.R_alloc | apply Kd.R_drewN | apply Kd.R_drew)); exact HO495.out) hb); have n1_ := Aside0.mk (Kd.R_elder' (by (with_reducible repeat (first | apply Kd.R_alloc | apply Kd.R_drewN | apply Kd.R_drew)); exact HO501.out) (Kd.R_base ho21) hb); have n2_ := Aside0.mk (Kd.R_elder' (by (with_reducible repeat (first | apply Kd.R_alloc | apply Kd.R_drewN | apply Kd.R_drew)); exact HO504.out) (Kd.R_base ho21) hb); have n3_ := Aside0.mk (Kd.R_lower (Kd.R_new' (Kd.R_new' ho21 (Kd.R_lt (by (with_reducible repeat (first | apply Kd.R_alloc | apply Kd.R_drewN | apply Kd.R_drew)); exact HO501.out))) (Kd.R_lt (by (with_reducible repeat (first | apply Kd.R_alloc | apply Kd.R_drewN | apply Kd.R_drew)); exact HO504.out))) (below_size (by repeat (first | (with_reducible first | exact HB.out | apply below_alloc | apply pw_below_drewN | apply below_drew1 | refine below_set ?_ (IsS56.ge HI492.out)) | exact HB.out)))); have n4_ := Aside0.mk (IsS56.below (by repeat (first | (with_reducible first | exact HI492.out | apply IsS56.alloc | apply IsS56.drewN | apply IsS56.drew | apply IsS56.set_1) | exact HI492.out)) hb); have n5_ := Aside0.mk (below_step (by repeat (first | (with_reducible first | exact HB.out | apply below_alloc | apply pw_below_drewN | apply below_drew1 | refine below_set ?_ (IsS56.ge HI492.out)) | exact HB.out)) hb); clear HO495; clear HO501; clear HO504; clear HI492; clear HB; have HO495 := n0_; have HO501 := n1_; have HO504 := n2_; have HO509 := n3_; have HI492 := n4_; have HB := n5_; clear n0_ n1_ n2_ n3_ n4_ n5_; clear hb ho21) | ((with_reducible refine gate_callee (f := 31) rfl ?_); refine goesL_ (some 46) rfl rfl Try.func31 (by kernel_rfl) rfl #[.pointer (some ⟨g492, 0, none⟩)] rfl (by (try simp only [List.map_toArray, List.map_cons, List.map_nil]); first | done | rfl | (simp only [List.length_drop, List.length_take]; rfl)) ?_; (with_reducible refine (paygen_Deck_Mode.calls g492 t490 t506 t510 t511 w _ ?side1 ?side2 A9.out).mono ?_); (case side1 => repeat (first | (with_reducible first | exact HI492.out | apply IsS56.alloc | apply IsS56.drewN | apply IsS56.drew | apply IsS56.set_1) | exact HI492.out)); (case side2 => repeat (first | (with_reducible first | exact HB.out | apply below_alloc | apply pw_below_drewN | apply below_drew1 | refine below_set ?_ (IsS56.ge HI492.out)) | exact HB.out)); rintro e w22 ⟨rfl, hi, hb, hk⟩; refine ⟨_, rfl, ?_⟩; have n0_ := Aside0.mk (Kd.R_mono (Kd.R_keep (IsS56.apart (show IsS56 w _ g492 t490 t506 from by repeat (first | (with_reducible first | exact HI492.out | apply IsS56.alloc | apply IsS56.drewN | apply IsS56.drew | apply IsS56.set_1) | exact HI492.out)) (by (with_reducible repeat (first | apply Kd.R_alloc | apply Kd.R_drewN | apply Kd.R_drew)); exact HO495.out) (by decide)) hk (fun _ h => h.2)) (fun _ h => h.1)); have n1_ := Aside0.mk (Kd.R_mono (Kd.R_keep (IsS56.apart (show IsS56 w _ g492 t490 t506 from by repeat (first | (with_reducible first | exact HI492.out | apply IsS56.alloc | apply IsS56.drewN | apply IsS56.drew | apply IsS56.set_1) | exact HI492.out)) (by (with_reducible repeat (first | apply Kd.R_alloc | apply Kd.R_drewN | apply Kd.R_drew)); exact HO501.out) (by decide)) hk (fun _ h => h.2)) (fun _ h => h.1)); have n2_ := Aside0.mk (Kd.R_mono (Kd.R_keep (IsS56.apart (show IsS56 w _ g492 t490 t506 from by repeat (first | (with_reducible first | exact HI492.out | apply IsS56.alloc | apply IsS56.drewN | apply IsS56.drew | apply IsS56.set_1) | exact HI492.out)) (by (with_reducible repeat (first | apply Kd.R_alloc | apply Kd.R_drewN | apply Kd.R_drew)); exact HO504.out) (by decide)) hk (fun _ h => h.2)) (fun _ h => h.1)); have n3_ := Aside0.mk (Kd.R_mono (Kd.R_keep (IsS56.apart (show IsS56 w _ g492 t490 t506 from by repeat (first | (with_reducible first | exact HI492.out | apply IsS56.alloc | apply IsS56.drewN | apply IsS56.drew | apply IsS56.set_1) | exact HI492.out)) (by (with_reducible repeat (first | apply Kd.R_alloc | apply Kd.R_drewN | apply Kd.R_drew)); exact HO509.out) (by decide)) hk (fun _ h => h.2)) (fun _ h => h.1)); have n4_ := Aside0.mk (hb); have n5_ := Aside0.mk (hi); clear HO495; clear HO501; clear HO504; clear HO509; clear HB; clear HI492; have HO495 := n0_; have HO501 := n1_; have HO504 := n2_; have HO509 := n3_; have HB := n4_; have HI492 := n5_; clear n0_ n1_ n2_ n3_ n4_ n5_; (try clear hb); (try clear hb2); (try clear hk); (try clear hi)) | ((with_reducible refine gate_dst (N := 48) rfl ?_); refine Kd.R_lit (Kd.int .i64) _ 3 ?hg (N := 48) ?hd (xs := ([t510, a3] : List Int)) (inner := [.int .i64 t510, .int .i64 a3]) (ok := fun _ => True) (okp := fun _ => True) ?hr ?hp (fun _ hk => hk) trivial (Below.refl _ _) (Nat.le_refl _) (by simp) ?_; (case hd => rfl); (case hg => rfl); (case hr => first | (go_simp; done) | (go_simp; rfl)); (case hp => exact (Reps.one (show Kd.M (Kd.int .i64) _ _ _ t510 [.int .i64 t510] from rfl) (Reps.one (show Kd.M (Kd.int .i64) _ _ _ a3 [.int .i64 a3] from rfl) (Reps.none _ _)))); intro v513 w23 ho24 hb hg_ hnew_; clear hg_ hnew_; (first | rw [← Ny512.out] at ho24 | (simp only [Int.reduceToNat] at ho24; rw [← Ny512.out] at ho24)); have n0_ := Aside0.mk (Kd.R_below (by (with_reducible repeat (first | apply Kd.R_alloc | apply Kd.R_drewN | apply Kd.R_drew)); exact HO495.out) hb); have n1_ := Aside0.mk (Kd.R_elder' (by (with_reducible repeat (first | apply Kd.R_alloc | apply Kd.R_drewN | apply Kd.R_drew)); exact HO501.out) (Kd.R_base ho24) hb); have n2_ := Aside0.mk (Kd.R_elder' (by (with_reducible repeat (first | apply Kd.R_alloc | apply Kd.R_drewN | apply Kd.R_drew)); exact HO504.out) (Kd.R_base ho24) hb); have n3_ := Aside0.mk (Kd.R_elder' (by (with_reducible repeat (first | apply Kd.R_alloc | apply Kd.R_drewN | apply Kd.R_drew)); exact HO509.out) (Kd.R_base ho24) hb); have n4_ := Aside0.mk (Kd.R_lower (Kd.R_new' (Kd.R_new' (Kd.R_new' ho24 (Kd.R_lt (by (with_reducible repeat (first | apply Kd.R_alloc | apply Kd.R_drewN | apply Kd.R_drew)); exact HO501.out))) (Kd.R_lt (by (with_reducible repeat (first | apply Kd.R_alloc | apply Kd.R_drewN | apply Kd.R_drew)); exact HO504.out))) (Kd.R_lt (by (with_reducible repeat (first | apply Kd.R_alloc | apply Kd.R_drewN | apply Kd.R_drew)); exact HO509.out))) (below_size (by repeat (first | (with_reducible first | exact HB.out | apply below_alloc | apply pw_below_drewN | apply below_drew1 | refine below_set ?_ (IsS56.ge HI492.out)) | exact HB.out)))); have n5_ := Aside0.mk (IsS56.below (by repeat (first | (with_reducible first | exact HI492.out | apply IsS56.alloc | apply IsS56.drewN | apply IsS56.drew | apply IsS56.set_1) | exact HI492.out)) hb); have n6_ := Aside0.mk (below_step (by repeat (first | (with_reducible first | exact HB.out | apply below_alloc | apply pw_below_drewN | apply below_drew1 | refine below_set ?_ (IsS56.ge HI492.out)) | exact HB.out)) hb); clear HO495; clear HO501; clear HO504; clear HO509; clear HI492; clear HB; have HO495 := n0_; have HO501 := n1_; have HO504 := n2_; have HO509 := n3_; have HO514 := n4_; have HI492 := n5_; have HB := n6_; clear n0_ n1_ n2_ n3_ n4_ n5_ n6_; clear hb ho24))
 go_loopg [14] k (fun kq v14 w' => ∃ (x14_1 : Int), v14 = .int .i64 x14_1 ∧ Aside0 (payrolllaw29_BracketTaxes.l0 kq t493 y499 y507 y512 x14_1 = some r) ∧ Aside0 (kq ≤ k) ∧ Aside0 (Kd.R k30 30 w' w.heap.size (fun _ => True) (.slice Ao12 t493.length co12) t493) ∧ Aside0 (Kd.R (Kd.int .i64) 3 w' w.heap.size (fun k_ => some k_ ≠ (v508 : Value).ownBlock ∧ some k_ ≠ (v513 : Value).ownBlock) v500 y499) ∧ Aside0 (Kd.R (Kd.int .i64) 3 w' w.heap.size (fun k_ => some k_ ≠ (v500 : Value).ownBlock ∧ some k_ ≠ (v513 : Value).ownBlock) v508 y507) ∧ Aside0 (Kd.R (Kd.int .i64) 3 w' w.heap.size (fun k_ => some k_ ≠ (v500 : Value).ownBlock ∧ some k_ ≠ (v508 : Value).ownBlock) v513 y512) ∧ Aside0 (Below w.heap.size w w'))
 case atStart => exact ⟨(0), (by first | rfl | (simp; done) | (simp [*]; done)), H', ⟨Nat.le_refl _⟩, ⟨by (with_reducible repeat (first | apply Kd.R_alloc | apply Kd.R_drewN | apply Kd.R_drew)); exact HO495.out⟩, ⟨by (with_reducible repeat (first | apply Kd.R_alloc | apply Kd.R_drewN | apply Kd.R_drew)); exact Kd.R_mono HO501.out (fun _ hk => ⟨hk.1.2, hk.2⟩)⟩, ⟨by (with_reducible repeat (first | apply Kd.R_alloc | apply Kd.R_drewN | apply Kd.R_drew)); exact Kd.R_mono HO509.out (fun _ hk => ⟨hk.1.1.2, hk.2⟩)⟩, ⟨by (with_reducible repeat (first | apply Kd.R_alloc | apply Kd.R_drewN | apply Kd.R_drew)); exact Kd.R_mono HO514.out (fun _ hk => ⟨hk.1.1.2, hk.2⟩)⟩, ⟨by repeat (first | (with_reducible first | exact HB.out | apply below_alloc | apply pw_below_drewN | apply below_drew1 | refine below_set ?_ (IsS56.ge HI492.out)) | exact HB.out)⟩⟩
 case round =>
  clear H'
  try clear c1
  try clear p2
  try clear c3
  try clear c11
  try clear c13
  try clear c14
  try clear c19
  obtain ⟨x14_1, rfl, HA, HK1, HO_10, HO_11, HO_12, HO_13, HB⟩ := hrel
  cases gk with
  | zero => exact absurd HA.out (by simp [payrolllaw29_BracketTaxes.l0])
  | succ k1 =>
   have H := HA.out
   clear HA
   simp only [payrolllaw29_BracketTaxes.l0] at H
   by_cases c25 : x14_1 < 2
   ·
    rw [if_pos c25] at H
    have c25b0 : decide (x14_1 < 2) = true := decide_eq_true c25
    clear c25
    by_cases c26 : 0 ≤ x14_1
    ·
     rw [if_pos c26] at H
     have c26b0 : decide (0 ≤ x14_1) = true := decide_eq_true c26
     clear c26
     by_cases c27 : x14_1 < (y499.length : Int)
     ·
      rw [if_pos c27] at H
      have c27b0 : decide (x14_1 < (y499.length : Int)) = true := decide_eq_true c27
      clear c27
      replace H := Option.bind_eq_some_iff.mp H
      obtain ⟨⟨t517, t518⟩, A280, H⟩ := H
      replace H : ((payrollref29_Split.f k1 t493 (rd y499 x14_1)).bind fun bt522 => ((bracket_Exact.f k1 t493 (rd y499 x14_1)).bind fun bt527 => ((payrollref29_Exact.f k1 t493 (rd y499 x14_1)).bind fun bt530 => (if t518 = bt522.2 then ((payrolllaw29_ints.f k1 t517 bt522.1).bind fun t532 => (if t532 = true then (if bt527.2 = bt530.2 then (payrolllaw29_BracketTaxes.j1 k1 t493 y499 y507 y512 x14_1 (bt527.1 != bt530.1)) else (payrolllaw29_BracketTaxes.j1 k1 t493 y499 y507 y512 x14_1 true)) else (payrolllaw29_BracketTaxes.j1 k1 t493 y499 y507 y512 x14_1 true))) else (payrolllaw29_BracketTaxes.j1 k1 t493 y499 y507 y512 x14_1 true))))) = some r := H
      have A28 := Aside0.mk A280
      clear A280
      replace H := Option.bind_eq_some_iff.mp H
      obtain ⟨⟨t522, t523⟩, A290, H⟩ := H
      replace H : ((bracket_Exact.f k1 t493 (rd y499 x14_1)).bind fun bt527 => ((payrollref29_Exact.f k1 t493 (rd y499 x14_1)).bind fun bt530 => (if t518 = t523 then ((payrolllaw29_ints.f k1 t517 t522).bind fun t532 => (if t532 = true then (if bt527.2 = bt530.2 then (payrolllaw29_BracketTaxes.j1 k1 t493 y499 y507 y512 x14_1 (bt527.1 != bt530.1)) else (payrolllaw29_BracketTaxes.j1 k1 t493 y499 y507 y512 x14_1 true)) else (payrolllaw29_BracketTaxes.j1 k1 t493 y499 y507 y512 x14_1 true))) else (payrolllaw29_BracketTaxes.j1 k1 t493 y499 y507 y512 x14_1 true)))) = some r := H
      have A29 := Aside0.mk A290
      clear A290
      replace H := Option.bind_eq_some_iff.mp H
      obtain ⟨⟨t527, t528⟩, A300, H⟩ := H
      replace H : ((payrollref29_Exact.f k1 t493 (rd y499 x14_1)).bind fun bt530 => (if t518 = t523 then ((payrolllaw29_ints.f k1 t517 t522).bind fun t532 => (if t532 = true then (if t528 = bt530.2 then (payrolllaw29_BracketTaxes.j1 k1 t493 y499 y507 y512 x14_1 (t527 != bt530.1)) else (payrolllaw29_BracketTaxes.j1 k1 t493 y499 y507 y512 x14_1 true)) else (payrolllaw29_BracketTaxes.j1 k1 t493 y499 y507 y512 x14_1 true))) else (payrolllaw29_BracketTaxes.j1 k1 t493 y499 y507 y512 x14_1 true))) = some r := H
      have A30 := Aside0.mk A300
      clear A300
      replace H := Option.bind_eq_some_iff.mp H
      obtain ⟨⟨t530, t531⟩, A310, H⟩ := H
      replace H : (if t518 = t523 then ((payrolllaw29_ints.f k1 t517 t522).bind fun t532 => (if t532 = true then (if t528 = t531 then (payrolllaw29_BracketTaxes.j1 k1 t493 y499 y507 y512 x14_1 (t527 != t530)) else (payrolllaw29_BracketTaxes.j1 k1 t493 y499 y507 y512 x14_1 true)) else (payrolllaw29_BracketTaxes.j1 k1 t493 y499 y507 y512 x14_1 true))) else (payrolllaw29_BracketTaxes.j1 k1 t493 y499 y507 y512 x14_1 true)) = some r := H
      have A31 := Aside0.mk A310
      clear A310
      have HC32 := Aside0.mk H
      clear H
      obtain ⟨Ao33, co33, eo33⟩ := Kd.R_slice HO_11.out
      subst eo33
      have p516 : 0 ≤ (x14_1 : Int) := of_decide_eq_true (by first | (with_reducible assumption) | assumption)
      have q516 : x14_1 < (y499.length : Int) := of_decide_eq_true (by first | (with_reducible assumption) | assumption)
      obtain ⟨ad516, e516, hx516_0⟩ := Kd.at_int (Kd.R_reads' HO_11.out).2.2 x14_1 p516 q516
      cases e516
      replace p516 := eq_true p516
      replace q516 := eq_true q516
      go_upto_region 12 with (first | ((with_reducible refine gate_callee (f := 20) rfl ?_); refine goesL_ (some 59) rfl rfl Try.func20 (by kernel_rfl) rfl #[.slice Ao12 t493.length co12, .int .i64 (rd y499 x14_1)] rfl (by (try simp only [List.map_toArray, List.map_cons, List.map_nil]); first | done | rfl | (simp only [List.length_drop, List.length_take]; rfl)) ?_; (with_reducible refine (bracket_Split.calls k1 _ _ t493 (rd y499 x14_1) t517 t518 _ ?side1 ?side2 A28.out).mono ?_); (case side1 => repeat (first | exact (Kd.R_reads' HO_10.out).2.2 | (with_reducible refine Kd.C_alloc ?_ _) | (with_reducible refine Kd.C_drewN ?_ _) | (with_reducible refine Kd.C_drew ?_))); (case side2 => exact (Kd.R_reads' HO_10.out).2.1); rintro e w34 ⟨v519, rfl, ho0, hb⟩; refine ⟨_, rfl, ?_⟩; have n0_ := Aside0.mk (Kd.R_below (by (with_reducible repeat (first | apply Kd.R_alloc | apply Kd.R_drewN | apply Kd.R_drew)); exact HO_10.out) hb); have n1_ := Aside0.mk (Kd.R_elder' (by (with_reducible repeat (first | apply Kd.R_alloc | apply Kd.R_drewN | apply Kd.R_drew)); exact HO_11.out) (Kd.R_base ho0) hb); have n2_ := Aside0.mk (Kd.R_elder' (by (with_reducible repeat (first | apply Kd.R_alloc | apply Kd.R_drewN | apply Kd.R_drew)); exact HO_12.out) (Kd.R_base ho0) hb); have n3_ := Aside0.mk (Kd.R_elder' (by (with_reducible repeat (first | apply Kd.R_alloc | apply Kd.R_drewN | apply Kd.R_drew)); exact HO_13.out) (Kd.R_base ho0) hb); have n4_ := Aside0.mk (Kd.R_lower (Kd.R_new' (Kd.R_new' (Kd.R_new' ho0 (Kd.R_lt (by (with_reducible repeat (first | apply Kd.R_alloc | apply Kd.R_drewN | apply Kd.R_drew)); exact HO_11.out))) (Kd.R_lt (by (with_reducible repeat (first | apply Kd.R_alloc | apply Kd.R_drewN | apply Kd.R_drew)); exact HO_12.out))) (Kd.R_lt (by (with_reducible repeat (first | apply Kd.R_alloc | apply Kd.R_drewN | apply Kd.R_drew)); exact HO_13.out))) (below_size (by repeat (first | (with_reducible first | exact HB.out | apply below_alloc | apply pw_below_drewN | apply below_drew1) | exact HB.out)))); have n5_ := Aside0.mk (below_step (by repeat (first | (with_reducible first | exact HB.out | apply below_alloc | apply pw_below_drewN | apply below_drew1) | exact HB.out)) hb); clear HO_10; clear HO_11; clear HO_12; clear HO_13; clear HB; have HO_10 := n0_; have HO_11 := n1_; have HO_12 := n2_; have HO_13 := n3_; have HO520 := n4_; have HB := n5_; clear n0_ n1_ n2_ n3_ n4_ n5_; (try clear hb); (try clear hb2); (try clear hk); (try clear hi); (try clear ho0); have p521 : 0 ≤ (x14_1 : Int) := of_decide_eq_true (by first | (with_reducible assumption) | assumption); have q521 : x14_1 < (y499.length : Int) := of_decide_eq_true (by first | (with_reducible assumption) | assumption); obtain ⟨ad521, e521, hx521_0⟩ := Kd.at_int (Kd.R_reads' HO_11.out).2.2 x14_1 p521 q521; obtain rfl : ad516 = ad521 := (by injection e521); replace p521 := eq_true p521; replace q521 := eq_true q521) | ((with_reducible refine gate_callee (f := 33) rfl ?_); refine goesL_ (some 68) rfl rfl Try.func33 (by kernel_rfl) rfl #[.slice Ao12 t493.length co12, .int .i64 (rd y499 x14_1)] rfl (by (try simp only [List.map_toArray, List.map_cons, List.map_nil]); first | done | rfl | (simp only [List.length_drop, List.length_take]; rfl)) ?_; (with_reducible refine (payrollref29_Split.calls k1 _ _ t493 (rd y499 x14_1) t522 t523 _ ?side1 ?side2 A29.out).mono ?_); (case side1 => repeat (first | exact (Kd.R_reads' HO_10.out).2.2 | (with_reducible refine Kd.C_alloc ?_ _) | (with_reducible refine Kd.C_drewN ?_ _) | (with_reducible refine Kd.C_drew ?_))); (case side2 => exact (Kd.R_reads' HO_10.out).2.1); rintro e w35 ⟨v524, rfl, ho0, hb⟩; refine ⟨_, rfl, ?_⟩; have n0_ := Aside0.mk (Kd.R_below (by (with_reducible repeat (first | apply Kd.R_alloc | apply Kd.R_drewN | apply Kd.R_drew)); exact HO_10.out) hb); have n1_ := Aside0.mk (Kd.R_elder' (by (with_reducible repeat (first | apply Kd.R_alloc | apply Kd.R_drewN | apply Kd.R_drew)); exact HO_11.out) (Kd.R_base ho0) hb); have n2_ := Aside0.mk (Kd.R_elder' (by (with_reducible repeat (first | apply Kd.R_alloc | apply Kd.R_drewN | apply Kd.R_drew)); exact HO_12.out) (Kd.R_base ho0) hb); have n3_ := Aside0.mk (Kd.R_elder' (by (with_reducible repeat (first | apply Kd.R_alloc | apply Kd.R_drewN | apply Kd.R_drew)); exact HO_13.out) (Kd.R_base ho0) hb); have n4_ := Aside0.mk (Kd.R_elder' (by (with_reducible repeat (first | apply Kd.R_alloc | apply Kd.R_drewN | apply Kd.R_drew)); exact HO520.out) (Kd.R_base ho0) hb); have n5_ := Aside0.mk (Kd.R_lower (Kd.R_new' (Kd.R_new' (Kd.R_new' (Kd.R_new' ho0 (Kd.R_lt (by (with_reducible repeat (first | apply Kd.R_alloc | apply Kd.R_drewN | apply Kd.R_drew)); exact HO_11.out))) (Kd.R_lt (by (with_reducible repeat (first | apply Kd.R_alloc | apply Kd.R_drewN | apply Kd.R_drew)); exact HO_12.out))) (Kd.R_lt (by (with_reducible repeat (first | apply Kd.R_alloc | apply Kd.R_drewN | apply Kd.R_drew)); exact HO_13.out))) (Kd.R_lt (by (with_reducible repeat (first | apply Kd.R_alloc | apply Kd.R_drewN | apply Kd.R_drew)); exact HO520.out))) (below_size (by repeat (first | (with_reducible first | exact HB.out | apply below_alloc | apply pw_below_drewN | apply below_drew1) | exact HB.out)))); have n6_ := Aside0.mk (below_step (by repeat (first | (with_reducible first | exact HB.out | apply below_alloc | apply pw_below_drewN | apply below_drew1) | exact HB.out)) hb); clear HO_10; clear HO_11; clear HO_12; clear HO_13; clear HO520; clear HB; have HO_10 := n0_; have HO_11 := n1_; have HO_12 := n2_; have HO_13 := n3_; have HO520 := n4_; have HO525 := n5_; have HB := n6_; clear n0_ n1_ n2_ n3_ n4_ n5_ n6_; (try clear hb); (try clear hb2); (try clear hk); (try clear hi); (try clear ho0); have p526 : 0 ≤ (x14_1 : Int) := of_decide_eq_true (by first | (with_reducible assumption) | assumption); have q526 : x14_1 < (y499.length : Int) := of_decide_eq_true (by first | (with_reducible assumption) | assumption); obtain ⟨ad526, e526, hx526_0⟩ := Kd.at_int (Kd.R_reads' HO_11.out).2.2 x14_1 p526 q526; obtain rfl : ad516 = ad526 := (by injection e526); replace p526 := eq_true p526; replace q526 := eq_true q526) | ((with_reducible refine gate_callee (f := 21) rfl ?_); refine goesL_ (some 77) rfl rfl Try.func21 (by kernel_rfl) rfl #[.slice Ao12 t493.length co12, .int .i64 (rd y499 x14_1)] rfl (by (try simp only [List.map_toArray, List.map_cons, List.map_nil]); first | done | rfl | (simp only [List.length_drop, List.length_take]; rfl)) ?_; (with_reducible refine (bracket_Exact.calls k1 _ _ t493 (rd y499 x14_1) t527 t528 _ ?side1 ?side2 A30.out).mono ?_); (case side1 => repeat (first | exact (Kd.R_reads' HO_10.out).2.2 | (with_reducible refine Kd.C_alloc ?_ _) | (with_reducible refine Kd.C_drewN ?_ _) | (with_reducible refine Kd.C_drew ?_))); (case side2 => exact (Kd.R_reads' HO_10.out).2.1); rintro e w36 ⟨rfl, hb⟩; refine ⟨_, rfl, ?_⟩; have n0_ := Aside0.mk (Kd.R_below (by (with_reducible repeat (first | apply Kd.R_alloc | apply Kd.R_drewN | apply Kd.R_drew)); exact HO_10.out) hb); have n1_ := Aside0.mk (Kd.R_below (by (with_reducible repeat (first | apply Kd.R_alloc | apply Kd.R_drewN | apply Kd.R_drew)); exact HO_11.out) hb); have n2_ := Aside0.mk (Kd.R_below (by (with_reducible repeat (first | apply Kd.R_alloc | apply Kd.R_drewN | apply Kd.R_drew)); exact HO_12.out) hb); have n3_ := Aside0.mk (Kd.R_below (by (with_reducible repeat (first | apply Kd.R_alloc | apply Kd.R_drewN | apply Kd.R_drew)); exact HO_13.out) hb); have n4_ := Aside0.mk (Kd.R_below (by (with_reducible repeat (first | apply Kd.R_alloc | apply Kd.R_drewN | apply Kd.R_drew)); exact HO520.out) hb); have n5_ := Aside0.mk (Kd.R_below (by (with_reducible repeat (first | apply Kd.R_alloc | apply Kd.R_drewN | apply Kd.R_drew)); exact HO525.out) hb); have n6_ := Aside0.mk (below_step (by repeat (first | (with_reducible first | exact HB.out | apply below_alloc | apply pw_below_drewN | apply below_drew1) | exact HB.out)) hb); clear HO_10; clear HO_11; clear HO_12; clear HO_13; clear HO520; clear HO525; clear HB; have HO_10 := n0_; have HO_11 := n1_; have HO_12 := n2_; have HO_13 := n3_; have HO520 := n4_; have HO525 := n5_; have HB := n6_; clear n0_ n1_ n2_ n3_ n4_ n5_ n6_; (try clear hb); (try clear hb2); (try clear hk); (try clear hi); have p529 : 0 ≤ (x14_1 : Int) := of_decide_eq_true (by first | (with_reducible assumption) | assumption); have q529 : x14_1 < (y499.length : Int) := of_decide_eq_true (by first | (with_reducible assumption) | assumption); obtain ⟨ad529, e529, hx529_0⟩ := Kd.at_int (Kd.R_reads' HO_11.out).2.2 x14_1 p529 q529; obtain rfl : ad516 = ad529 := (by injection e529); replace p529 := eq_true p529; replace q529 := eq_true q529) | ((with_reducible refine gate_callee (f := 26) rfl ?_); refine goesL_ (some 86) rfl rfl Try.func26 (by kernel_rfl) rfl #[.slice Ao12 t493.length co12, .int .i64 (rd y499 x14_1)] rfl (by (try simp only [List.map_toArray, List.map_cons, List.map_nil]); first | done | rfl | (simp only [List.length_drop, List.length_take]; rfl)) ?_; (with_reducible refine (payrollref29_Exact.calls k1 _ _ t493 (rd y499 x14_1) t530 t531 _ ?side1 ?side2 A31.out).mono ?_); (case side1 => repeat (first | exact (Kd.R_reads' HO_10.out).2.2 | (with_reducible refine Kd.C_alloc ?_ _) | (with_reducible refine Kd.C_drewN ?_ _) | (with_reducible refine Kd.C_drew ?_))); (case side2 => exact (Kd.R_reads' HO_10.out).2.1); rintro e w37 ⟨rfl, hb⟩; refine ⟨_, rfl, ?_⟩; have n0_ := Aside0.mk (Kd.R_below (by (with_reducible repeat (first | apply Kd.R_alloc | apply Kd.R_drewN | apply Kd.R_drew)); exact HO_10.out) hb); have n1_ := Aside0.mk (Kd.R_below (by (with_reducible repeat (first | apply Kd.R_alloc | apply Kd.R_drewN | apply Kd.R_drew)); exact HO_11.out) hb); have n2_ := Aside0.mk (Kd.R_below (by (with_reducible repeat (first | apply Kd.R_alloc | apply Kd.R_drewN | apply Kd.R_drew)); exact HO_12.out) hb); have n3_ := Aside0.mk (Kd.R_below (by (with_reducible repeat (first | apply Kd.R_alloc | apply Kd.R_drewN | apply Kd.R_drew)); exact HO_13.out) hb); have n4_ := Aside0.mk (Kd.R_below (by (with_reducible repeat (first | apply Kd.R_alloc | apply Kd.R_drewN | apply Kd.R_drew)); exact HO520.out) hb); have n5_ := Aside0.mk (Kd.R_below (by (with_reducible repeat (first | apply Kd.R_alloc | apply Kd.R_drewN | apply Kd.R_drew)); exact HO525.out) hb); have n6_ := Aside0.mk (below_step (by repeat (first | (with_reducible first | exact HB.out | apply below_alloc | apply pw_below_drewN | apply below_drew1) | exact HB.out)) hb); clear HO_10; clear HO_11; clear HO_12; clear HO_13; clear HO520; clear HO525; clear HB; have HO_10 := n0_; have HO_11 := n1_; have HO_12 := n2_; have HO_13 := n3_; have HO520 := n4_; have HO525 := n5_; have HB := n6_; clear n0_ n1_ n2_ n3_ n4_ n5_ n6_; (try clear hb); (try clear hb2); (try clear hk); (try clear hi)))
      (try simp only [Act.put, List.setIfInBounds_toArray, List.set_cons_zero, List.set_cons_succ])
      go_cut [107] (fun v107 wc => ∃ (kq : Nat) (x107_31 : Bool), v107 = .bool x107_31 ∧ Aside0 (payrolllaw29_BracketTaxes.j1 kq t493 y499 y507 y512 x14_1 x107_31 = some r) ∧ Aside0 (kq ≤ k1) ∧ Aside0 (Kd.R k30 30 wc w.heap.size (fun _ => True) (.slice Ao12 t493.length co12) t493) ∧ Aside0 (Kd.R (Kd.int .i64) 3 wc w.heap.size (fun k_ => some k_ ≠ (v508 : Value).ownBlock ∧ some k_ ≠ (v513 : Value).ownBlock) (.slice (some ad516) y499.length co33) y499) ∧ Aside0 (Kd.R (Kd.int .i64) 3 wc w.heap.size (fun k_ => some k_ ≠ ((.slice (some ad516) y499.length co33) : Value).ownBlock ∧ some k_ ≠ (v513 : Value).ownBlock) v508 y507) ∧ Aside0 (Kd.R (Kd.int .i64) 3 wc w.heap.size (fun k_ => some k_ ≠ ((.slice (some ad516) y499.length co33) : Value).ownBlock ∧ some k_ ≠ (v508 : Value).ownBlock) v513 y512) ∧ Aside0 (Below w.heap.size w wc))
      case first =>
       have H := HC32.out
       clear HC32
       by_cases c38 : t518 = t523
       ·
        rw [if_pos c38] at H
        have c38b0 : (t518 == t523) = true := beq_iff_eq.mpr c38
        have c38b1 : (t518 != t523) = false := bne_eq_false_iff_eq.mpr c38
        clear c38
        (first | rw [c38b0] | (simp only [i64_w, i32_w]; rw [c38b0]) | skip)
        replace H := Option.bind_eq_some_iff.mp H
        obtain ⟨t532, A390, H⟩ := H
        replace H : (if t532 = true then (if t528 = t531 then (payrolllaw29_BracketTaxes.j1 k1 t493 y499 y507 y512 x14_1 (t527 != t530)) else (payrolllaw29_BracketTaxes.j1 k1 t493 y499 y507 y512 x14_1 true)) else (payrolllaw29_BracketTaxes.j1 k1 t493 y499 y507 y512 x14_1 true)) = some r := H
        have A39 := Aside0.mk A390
        clear A390
        by_cases c40 : t532 = true
        ·
         subst c40
         have H1 : (if t528 = t531 then (payrolllaw29_BracketTaxes.j1 k1 t493 y499 y507 y512 x14_1 (t527 != t530)) else (payrolllaw29_BracketTaxes.j1 k1 t493 y499 y507 y512 x14_1 true)) = some r := by rw [if_pos rfl] at H; exact H
         clear H
         have H := H1
         clear H1
         by_cases c41 : t528 = t531
         ·
          rw [if_pos c41] at H
          have c41b0 : (t528 == t531) = true := beq_iff_eq.mpr c41
          have c41b1 : (t528 != t531) = false := bne_eq_false_iff_eq.mpr c41
          clear c41
          have H' := Aside0.mk H
          clear H
          obtain ⟨Ao42, co42, eo42⟩ := Kd.R_slice HO520.out
          subst eo42
          obtain ⟨Ao43, co43, eo43⟩ := Kd.R_slice HO525.out
          subst eo43
          go_wp2_with (first | (go_at_call 34; (with_reducible refine (payrolllaw29_ints.calls k1 _ _ t517 _ _ t522 true _ ?side1 ?side2 ?side3 ?side4 A39.out).mono ?_); (case side1 => repeat (first | exact (Kd.R_reads' HO520.out).2.2 | (with_reducible refine Kd.C_alloc ?_ _) | (with_reducible refine Kd.C_drewN ?_ _) | (with_reducible refine Kd.C_drew ?_))); (case side2 => exact (Kd.R_reads' HO520.out).2.1); (case side3 => repeat (first | exact (Kd.R_reads' HO525.out).2.2 | (with_reducible refine Kd.C_alloc ?_ _) | (with_reducible refine Kd.C_drewN ?_ _) | (with_reducible refine Kd.C_drew ?_))); (case side4 => exact (Kd.R_reads' HO525.out).2.1); rintro e w' ⟨rfl, ⟨nd, rfl⟩⟩))
          go_meet
          case rel => exact ⟨_, ((t527 != t530)), (by first | rfl | (simp; done) | (simp [*]; done)), H', ⟨by have := HK1.out; first | omega | exact Nat.le_refl _⟩, ⟨by (with_reducible repeat (first | apply Kd.R_alloc | apply Kd.R_drewN | apply Kd.R_drew)); exact HO_10.out⟩, ⟨by (with_reducible repeat (first | apply Kd.R_alloc | apply Kd.R_drewN | apply Kd.R_drew)); exact Kd.R_mono HO_11.out (fun _ hk => ⟨hk.1.1.1, hk.1.1.2⟩)⟩, ⟨by (with_reducible repeat (first | apply Kd.R_alloc | apply Kd.R_drewN | apply Kd.R_drew)); exact Kd.R_mono HO_12.out (fun _ hk => ⟨hk.1.1.1, hk.1.1.2⟩)⟩, ⟨by (with_reducible repeat (first | apply Kd.R_alloc | apply Kd.R_drewN | apply Kd.R_drew)); exact Kd.R_mono HO_13.out (fun _ hk => ⟨hk.1.1.1, hk.1.1.2⟩)⟩, ⟨by repeat (first | (with_reducible first | exact HB.out | apply below_alloc | apply pw_below_drewN | apply below_drew1) | exact HB.out)⟩⟩
         ·
          rw [if_neg c41] at H
          have c41b0 : (t528 == t531) = false := beq_eq_false_iff_ne.mpr c41
          have c41b1 : (t528 != t531) = true := bne_iff_ne.mpr c41
          have H' := Aside0.mk H
          clear H
          obtain ⟨Ao44, co44, eo44⟩ := Kd.R_slice HO520.out
          subst eo44
          obtain ⟨Ao45, co45, eo45⟩ := Kd.R_slice HO525.out
          subst eo45
          go_wp2_with (first | (go_at_call 34; (with_reducible refine (payrolllaw29_ints.calls k1 _ _ t517 _ _ t522 true _ ?side1 ?side2 ?side3 ?side4 A39.out).mono ?_); (case side1 => repeat (first | exact (Kd.R_reads' HO520.out).2.2 | (with_reducible refine Kd.C_alloc ?_ _) | (with_reducible refine Kd.C_drewN ?_ _) | (with_reducible refine Kd.C_drew ?_))); (case side2 => exact (Kd.R_reads' HO520.out).2.1); (case side3 => repeat (first | exact (Kd.R_reads' HO525.out).2.2 | (with_reducible refine Kd.C_alloc ?_ _) | (with_reducible refine Kd.C_drewN ?_ _) | (with_reducible refine Kd.C_drew ?_))); (case side4 => exact (Kd.R_reads' HO525.out).2.1); rintro e w' ⟨rfl, ⟨nd, rfl⟩⟩))
          go_meet
          case rel => exact ⟨_, (true), (by first | rfl | (simp; done) | (simp [*]; done)), H', ⟨by have := HK1.out; first | omega | exact Nat.le_refl _⟩, ⟨by (with_reducible repeat (first | apply Kd.R_alloc | apply Kd.R_drewN | apply Kd.R_drew)); exact HO_10.out⟩, ⟨by (with_reducible repeat (first | apply Kd.R_alloc | apply Kd.R_drewN | apply Kd.R_drew)); exact Kd.R_mono HO_11.out (fun _ hk => ⟨hk.1.1.1, hk.1.1.2⟩)⟩, ⟨by (with_reducible repeat (first | apply Kd.R_alloc | apply Kd.R_drewN | apply Kd.R_drew)); exact Kd.R_mono HO_12.out (fun _ hk => ⟨hk.1.1.1, hk.1.1.2⟩)⟩, ⟨by (with_reducible repeat (first | apply Kd.R_alloc | apply Kd.R_drewN | apply Kd.R_drew)); exact Kd.R_mono HO_13.out (fun _ hk => ⟨hk.1.1.1, hk.1.1.2⟩)⟩, ⟨by repeat (first | (with_reducible first | exact HB.out | apply below_alloc | apply pw_below_drewN | apply below_drew1) | exact HB.out)⟩⟩
        ·
         replace c40 := Bool.eq_false_iff.mpr c40
         subst c40
         have H1 : (payrolllaw29_BracketTaxes.j1 k1 t493 y499 y507 y512 x14_1 true) = some r := by rw [if_neg (show ¬ (false = true) by decide)] at H; exact H
         clear H
         have H := H1
         clear H1
         have H' := Aside0.mk H
         clear H
         obtain ⟨Ao46, co46, eo46⟩ := Kd.R_slice HO520.out
         subst eo46
         obtain ⟨Ao47, co47, eo47⟩ := Kd.R_slice HO525.out
         subst eo47
         go_wp2_with (first | (go_at_call 34; (with_reducible refine (payrolllaw29_ints.calls k1 _ _ t517 _ _ t522 false _ ?side1 ?side2 ?side3 ?side4 A39.out).mono ?_); (case side1 => repeat (first | exact (Kd.R_reads' HO520.out).2.2 | (with_reducible refine Kd.C_alloc ?_ _) | (with_reducible refine Kd.C_drewN ?_ _) | (with_reducible refine Kd.C_drew ?_))); (case side2 => exact (Kd.R_reads' HO520.out).2.1); (case side3 => repeat (first | exact (Kd.R_reads' HO525.out).2.2 | (with_reducible refine Kd.C_alloc ?_ _) | (with_reducible refine Kd.C_drewN ?_ _) | (with_reducible refine Kd.C_drew ?_))); (case side4 => exact (Kd.R_reads' HO525.out).2.1); rintro e w' ⟨rfl, ⟨nd, rfl⟩⟩))
         go_meet
         case rel => exact ⟨_, (true), (by first | rfl | (simp; done) | (simp [*]; done)), H', ⟨by have := HK1.out; first | omega | exact Nat.le_refl _⟩, ⟨by (with_reducible repeat (first | apply Kd.R_alloc | apply Kd.R_drewN | apply Kd.R_drew)); exact HO_10.out⟩, ⟨by (with_reducible repeat (first | apply Kd.R_alloc | apply Kd.R_drewN | apply Kd.R_drew)); exact Kd.R_mono HO_11.out (fun _ hk => ⟨hk.1.1.1, hk.1.1.2⟩)⟩, ⟨by (with_reducible repeat (first | apply Kd.R_alloc | apply Kd.R_drewN | apply Kd.R_drew)); exact Kd.R_mono HO_12.out (fun _ hk => ⟨hk.1.1.1, hk.1.1.2⟩)⟩, ⟨by (with_reducible repeat (first | apply Kd.R_alloc | apply Kd.R_drewN | apply Kd.R_drew)); exact Kd.R_mono HO_13.out (fun _ hk => ⟨hk.1.1.1, hk.1.1.2⟩)⟩, ⟨by repeat (first | (with_reducible first | exact HB.out | apply below_alloc | apply pw_below_drewN | apply below_drew1) | exact HB.out)⟩⟩
       ·
        rw [if_neg c38] at H
        have c38b0 : (t518 == t523) = false := beq_eq_false_iff_ne.mpr c38
        have c38b1 : (t518 != t523) = true := bne_iff_ne.mpr c38
        (first | rw [c38b0] | (simp only [i64_w, i32_w]; rw [c38b0]) | skip)
        have H' := Aside0.mk H
        clear H
        go_wp2
        go_meet
        case rel => exact ⟨_, (true), (by first | rfl | (simp; done) | (simp [*]; done)), H', ⟨by have := HK1.out; first | omega | exact Nat.le_refl _⟩, ⟨by (with_reducible repeat (first | apply Kd.R_alloc | apply Kd.R_drewN | apply Kd.R_drew)); exact HO_10.out⟩, ⟨by (with_reducible repeat (first | apply Kd.R_alloc | apply Kd.R_drewN | apply Kd.R_drew)); exact Kd.R_mono HO_11.out (fun _ hk => ⟨hk.1.1.1, hk.1.1.2⟩)⟩, ⟨by (with_reducible repeat (first | apply Kd.R_alloc | apply Kd.R_drewN | apply Kd.R_drew)); exact Kd.R_mono HO_12.out (fun _ hk => ⟨hk.1.1.1, hk.1.1.2⟩)⟩, ⟨by (with_reducible repeat (first | apply Kd.R_alloc | apply Kd.R_drewN | apply Kd.R_drew)); exact Kd.R_mono HO_13.out (fun _ hk => ⟨hk.1.1.1, hk.1.1.2⟩)⟩, ⟨by repeat (first | (with_reducible first | exact HB.out | apply below_alloc | apply pw_below_drewN | apply below_drew1) | exact HB.out)⟩⟩
      case rest =>
       clear HC32
       try clear c1
       try clear c2
       try clear p2
       try clear c3
       try clear c4
       try clear p5
       try clear q5
       try clear hx5
       try clear c11
       try clear c13
       try clear c14
       try clear c19
       try clear c20
       try clear c21
       try clear c25
       try clear c25b0
       try clear c26
       try clear c26b0
       try clear c27
       try clear c27b0
       try clear c30
       try clear c31
       try clear c33
       try clear c38
       try clear c38b0
       try clear c38b1
       try clear c40
       try clear c41
       try clear c41b0
       try clear c41b1
       try clear hx516_0
       try clear hx521_0
       try clear hx526_0
       try clear hx529_0
       try clear p2
       try clear p516
       try clear p521
       try clear p526
       try clear p529
       try clear q516
       try clear q521
       try clear q526
       try clear q529
       obtain ⟨kq, x107_31, rfl, HA, HJ31, HO_10, HO_11, HO_12, HO_13, HB⟩ := hcut
       cases kq with
       | zero => exact absurd HA.out (by simp [payrolllaw29_BracketTaxes.j1])
       | succ kj31 =>
        have H := HA.out
        clear HA
        simp only [payrolllaw29_BracketTaxes.j1] at H
        by_cases c48 : x107_31 = true
        ·
         subst c48
         have H1 : (some false) = some r := by rw [if_pos rfl] at H; exact H
         clear H
         have H := H1
         clear H1
         obtain rfl := Option.some.inj H
         go_wp2
         go_ret
         exact ⟨by first | rfl | (simp [errW_none, errW_some] <;> rfl) | (simp [*, errW_none, errW_some] <;> rfl), by repeat (first | (with_reducible first | exact HB.out | apply below_alloc | apply pw_below_drewN | apply below_drew1) | exact HB.out)⟩
        ·
         replace c48 := Bool.eq_false_iff.mpr c48
         subst c48
         have H1 : (if 0 ≤ x14_1 then (if x14_1 < (y499.length : Int) then ((bracket_Marginal.f kj31 t493 (rd y499 x14_1)).bind fun bt534 => ((payrollref29_Marginal.f kj31 t493 (rd y499 x14_1)).bind fun bt537 => (if x14_1 < (y507.length : Int) then (if x14_1 < (y512.length : Int) then ((bracket_Tax.f kj31 t493 (rd y499 x14_1) (rd y507 x14_1) (rd y512 x14_1)).bind fun bt542 => ((payrollref29_Tax.f kj31 t493 (rd y499 x14_1) (rd y507 x14_1) (rd y512 x14_1)).bind fun bt547 => (if bt534.2 = bt537.2 then (if bt534.1 = bt537.1 then (if bt542.2 = bt547.2 then (if bt542.1 = bt547.1 then (payrolllaw29_BracketTaxes.l0 kj31 t493 y499 y507 y512 (wrap64 (x14_1 + 1))) else (some false)) else (some false)) else (some false)) else (some false)))) else (none)) else (none)))) else (none)) else (none)) = some r := by rw [if_neg (show ¬ (false = true) by decide)] at H; exact H
         clear H
         have H := H1
         clear H1
         by_cases c49 : 0 ≤ x14_1
         ·
          rw [if_pos c49] at H
          have c49b0 : decide (0 ≤ x14_1) = true := decide_eq_true c49
          clear c49
          by_cases c50 : x14_1 < (y499.length : Int)
          ·
           rw [if_pos c50] at H
           have c50b0 : decide (x14_1 < (y499.length : Int)) = true := decide_eq_true c50
           clear c50
           replace H := Option.bind_eq_some_iff.mp H
           obtain ⟨⟨t534, t535⟩, A510, H⟩ := H
           replace H : ((payrollref29_Marginal.f kj31 t493 (rd y499 x14_1)).bind fun bt537 => (if x14_1 < (y507.length : Int) then (if x14_1 < (y512.length : Int) then ((bracket_Tax.f kj31 t493 (rd y499 x14_1) (rd y507 x14_1) (rd y512 x14_1)).bind fun bt542 => ((payrollref29_Tax.f kj31 t493 (rd y499 x14_1) (rd y507 x14_1) (rd y512 x14_1)).bind fun bt547 => (if t535 = bt537.2 then (if t534 = bt537.1 then (if bt542.2 = bt547.2 then (if bt542.1 = bt547.1 then (payrolllaw29_BracketTaxes.l0 kj31 t493 y499 y507 y512 (wrap64 (x14_1 + 1))) else (some false)) else (some false)) else (some false)) else (some false)))) else (none)) else (none))) = some r := H
           have A51 := Aside0.mk A510
           clear A510
           replace H := Option.bind_eq_some_iff.mp H
           obtain ⟨⟨t537, t538⟩, A520, H⟩ := H
           replace H : (if x14_1 < (y507.length : Int) then (if x14_1 < (y512.length : Int) then ((bracket_Tax.f kj31 t493 (rd y499 x14_1) (rd y507 x14_1) (rd y512 x14_1)).bind fun bt542 => ((payrollref29_Tax.f kj31 t493 (rd y499 x14_1) (rd y507 x14_1) (rd y512 x14_1)).bind fun bt547 => (if t535 = t538 then (if t534 = t537 then (if bt542.2 = bt547.2 then (if bt542.1 = bt547.1 then (payrolllaw29_BracketTaxes.l0 kj31 t493 y499 y507 y512 (wrap64 (x14_1 + 1))) else (some false)) else (some false)) else (some false)) else (some false)))) else (none)) else (none)) = some r := H
           have A52 := Aside0.mk A520
           clear A520
           by_cases c53 : x14_1 < (y507.length : Int)
           ·
            rw [if_pos c53] at H
            have c53b0 : decide (x14_1 < (y507.length : Int)) = true := decide_eq_true c53
            clear c53
            by_cases c54 : x14_1 < (y512.length : Int)
            ·
             rw [if_pos c54] at H
             have c54b0 : decide (x14_1 < (y512.length : Int)) = true := decide_eq_true c54
             clear c54
             replace H := Option.bind_eq_some_iff.mp H
             obtain ⟨⟨t542, t543⟩, A550, H⟩ := H
             replace H : ((payrollref29_Tax.f kj31 t493 (rd y499 x14_1) (rd y507 x14_1) (rd y512 x14_1)).bind fun bt547 => (if t535 = t538 then (if t534 = t537 then (if t543 = bt547.2 then (if t542 = bt547.1 then (payrolllaw29_BracketTaxes.l0 kj31 t493 y499 y507 y512 (wrap64 (x14_1 + 1))) else (some false)) else (some false)) else (some false)) else (some false))) = some r := H
             have A55 := Aside0.mk A550
             clear A550
             replace H := Option.bind_eq_some_iff.mp H
             obtain ⟨⟨t547, t548⟩, A560, H⟩ := H
             replace H : (if t535 = t538 then (if t534 = t537 then (if t543 = t548 then (if t542 = t547 then (payrolllaw29_BracketTaxes.l0 kj31 t493 y499 y507 y512 (wrap64 (x14_1 + 1))) else (some false)) else (some false)) else (some false)) else (some false)) = some r := H
             have A56 := Aside0.mk A560
             clear A560
             by_cases c57 : t535 = t538
             ·
              rw [if_pos c57] at H
              have c57b0 : (t535 == t538) = true := beq_iff_eq.mpr c57
              have c57b1 : (t535 != t538) = false := bne_eq_false_iff_eq.mpr c57
              clear c57
              by_cases c58 : t534 = t537
              ·
               rw [if_pos c58] at H
               have c58b0 : (t534 == t537) = true := beq_iff_eq.mpr c58
               have c58b1 : (t534 != t537) = false := bne_eq_false_iff_eq.mpr c58
               clear c58
               by_cases c59 : t543 = t548
               ·
                rw [if_pos c59] at H
                have c59b0 : (t543 == t548) = true := beq_iff_eq.mpr c59
                have c59b1 : (t543 != t548) = false := bne_eq_false_iff_eq.mpr c59
                clear c59
                by_cases c60 : t542 = t547
                ·
                 rw [if_pos c60] at H
                 have c60b0 : (t542 == t547) = true := beq_iff_eq.mpr c60
                 have c60b1 : (t542 != t547) = false := bne_eq_false_iff_eq.mpr c60
                 clear c60
                 have H' := Aside0.mk H
                 clear H
                 have p533 : 0 ≤ (x14_1 : Int) := of_decide_eq_true (by first | (with_reducible assumption) | assumption)
                 have q533 : x14_1 < (y499.length : Int) := of_decide_eq_true (by first | (with_reducible assumption) | assumption)
                 obtain ⟨ad533, e533, hx533_0⟩ := Kd.at_int (Kd.R_reads' HO_11.out).2.2 x14_1 p533 q533
                 obtain rfl : ad516 = ad533 := (by injection e533)
                 replace p533 := eq_true p533
                 replace q533 := eq_true q533
                 try go_wp2_with (first | ((with_reducible refine gate_callee (f := 25) rfl ?_); refine goesL_ (some 114) rfl rfl Try.func25 (by kernel_rfl) rfl #[.slice Ao12 t493.length co12, .int .i64 (rd y499 x14_1)] rfl (by (try simp only [List.map_toArray, List.map_cons, List.map_nil]); first | done | rfl | (simp only [List.length_drop, List.length_take]; rfl)) ?_; (with_reducible refine (bracket_Marginal.calls kj31 _ _ t493 (rd y499 x14_1) t534 t535 _ ?side1 ?side2 A51.out).mono ?_); (case side1 => repeat (first | exact (Kd.R_reads' HO_10.out).2.2 | (with_reducible refine Kd.C_alloc ?_ _) | (with_reducible refine Kd.C_drewN ?_ _) | (with_reducible refine Kd.C_drew ?_))); (case side2 => exact (Kd.R_reads' HO_10.out).2.1); rintro e w61 ⟨rfl, hb⟩; refine ⟨_, rfl, ?_⟩; have n0_ := Aside0.mk (Kd.R_below (by (with_reducible repeat (first | apply Kd.R_alloc | apply Kd.R_drewN | apply Kd.R_drew)); exact HO_10.out) hb); have n1_ := Aside0.mk (Kd.R_below (by (with_reducible repeat (first | apply Kd.R_alloc | apply Kd.R_drewN | apply Kd.R_drew)); exact HO_11.out) hb); have n2_ := Aside0.mk (Kd.R_below (by (with_reducible repeat (first | apply Kd.R_alloc | apply Kd.R_drewN | apply Kd.R_drew)); exact HO_12.out) hb); have n3_ := Aside0.mk (Kd.R_below (by (with_reducible repeat (first | apply Kd.R_alloc | apply Kd.R_drewN | apply Kd.R_drew)); exact HO_13.out) hb); have n4_ := Aside0.mk (below_step (by repeat (first | (with_reducible first | exact HB.out | apply below_alloc | apply pw_below_drewN | apply below_drew1) | exact HB.out)) hb); clear HO_10; clear HO_11; clear HO_12; clear HO_13; clear HB; have HO_10 := n0_; have HO_11 := n1_; have HO_12 := n2_; have HO_13 := n3_; have HB := n4_; clear n0_ n1_ n2_ n3_ n4_; (try clear hb); (try clear hb2); (try clear hk); (try clear hi); have p536 : 0 ≤ (x14_1 : Int) := of_decide_eq_true (by first | (with_reducible assumption) | assumption); have q536 : x14_1 < (y499.length : Int) := of_decide_eq_true (by first | (with_reducible assumption) | assumption); obtain ⟨ad536, e536, hx536_0⟩ := Kd.at_int (Kd.R_reads' HO_11.out).2.2 x14_1 p536 q536; obtain rfl : ad516 = ad536 := (by injection e536); replace p536 := eq_true p536; replace q536 := eq_true q536) | ((with_reducible refine gate_callee (f := 35) rfl ?_); refine goesL_ (some 123) rfl rfl Try.func35 (by kernel_rfl) rfl #[.slice Ao12 t493.length co12, .int .i64 (rd y499 x14_1)] rfl (by (try simp only [List.map_toArray, List.map_cons, List.map_nil]); first | done | rfl | (simp only [List.length_drop, List.length_take]; rfl)) ?_; (with_reducible refine (payrollref29_Marginal.calls kj31 _ _ t493 (rd y499 x14_1) t537 t538 _ ?side1 ?side2 A52.out).mono ?_); (case side1 => repeat (first | exact (Kd.R_reads' HO_10.out).2.2 | (with_reducible refine Kd.C_alloc ?_ _) | (with_reducible refine Kd.C_drewN ?_ _) | (with_reducible refine Kd.C_drew ?_))); (case side2 => exact (Kd.R_reads' HO_10.out).2.1); rintro e w' ⟨rfl, ⟨nd, rfl⟩⟩; refine ⟨_, rfl, ?_⟩))
                 (try (rw [drewN_self w61]; generalize hq_ : World.drewN w61 _ = w61; have n0_ : Aside0 (Kd.R k30 30 w61 w.heap.size (fun _ => True) (.slice Ao12 t493.length co12) t493) := ⟨by rw [← hq_]; exact (by (with_reducible repeat (first | apply Kd.R_alloc | apply Kd.R_drewN | apply Kd.R_drew)); exact HO_10.out)⟩; have n1_ : Aside0 (Kd.R (Kd.int .i64) 3 w61 w.heap.size (fun k_ => some k_ ≠ (v508 : Value).ownBlock ∧ some k_ ≠ (v513 : Value).ownBlock) (.slice (some ad516) y499.length co33) y499) := ⟨by rw [← hq_]; exact (by (with_reducible repeat (first | apply Kd.R_alloc | apply Kd.R_drewN | apply Kd.R_drew)); exact HO_11.out)⟩; have n2_ : Aside0 (Kd.R (Kd.int .i64) 3 w61 w.heap.size (fun k_ => some k_ ≠ (.slice (some ad516) y499.length co33 : Value).ownBlock ∧ some k_ ≠ (v513 : Value).ownBlock) v508 y507) := ⟨by rw [← hq_]; exact (by (with_reducible repeat (first | apply Kd.R_alloc | apply Kd.R_drewN | apply Kd.R_drew)); exact HO_12.out)⟩; have n3_ : Aside0 (Kd.R (Kd.int .i64) 3 w61 w.heap.size (fun k_ => some k_ ≠ (.slice (some ad516) y499.length co33 : Value).ownBlock ∧ some k_ ≠ (v508 : Value).ownBlock) v513 y512) := ⟨by rw [← hq_]; exact (by (with_reducible repeat (first | apply Kd.R_alloc | apply Kd.R_drewN | apply Kd.R_drew)); exact HO_13.out)⟩; have n4_ : Aside0 (Below w.heap.size w w61) := ⟨by rw [← hq_]; exact (by repeat (first | (with_reducible first | exact HB.out | apply below_alloc | apply pw_below_drewN | apply below_drew1) | exact HB.out))⟩; clear HO_10 HO_11 HO_12 HO_13 HB hq_; have HO_10 := n0_; have HO_11 := n1_; have HO_12 := n2_; have HO_13 := n3_; have HB := n4_; clear n0_ n1_ n2_ n3_ n4_))
                 have n0_ := Aside0.mk (Kd.R_drew HO_10.out)
                 have n1_ := Aside0.mk (Kd.R_drew HO_11.out)
                 have n2_ := Aside0.mk (Kd.R_drew HO_12.out)
                 have n3_ := Aside0.mk (Kd.R_drew HO_13.out)
                 have n4_ := Aside0.mk (below_drew1 HB.out)
                 clear HO_10
                 clear HO_11
                 clear HO_12
                 clear HO_13
                 clear HB
                 have HO_10 := n0_
                 have HO_11 := n1_
                 have HO_12 := n2_
                 have HO_13 := n3_
                 have HB := n4_
                 clear n0_ n1_ n2_ n3_ n4_
                 have p539 : 0 ≤ (x14_1 : Int) := of_decide_eq_true (by first | (with_reducible assumption) | assumption)
                 have q539 : x14_1 < (y499.length : Int) := of_decide_eq_true (by first | (with_reducible assumption) | assumption)
                 obtain ⟨ad539, e539, hx539_0⟩ := Kd.at_int (Kd.R_reads' HO_11.out).2.2 x14_1 p539 q539
                 obtain rfl : ad516 = ad539 := (by injection e539)
                 replace p539 := eq_true p539
                 replace q539 := eq_true q539
                 obtain ⟨Ao63, co63, eo63⟩ := Kd.R_slice HO_12.out
                 (first | subst eo63 | (injection eo63 with f1_ f2_ f3_; have f4_ := f1_.symm; have f5_ := f3_.symm; clear f1_ f2_ f3_; subst f4_; subst f5_))
                 have p540 : 0 ≤ (x14_1 : Int) := of_decide_eq_true (by first | (with_reducible assumption) | assumption)
                 have q540 : x14_1 < (y507.length : Int) := of_decide_eq_true (by first | (with_reducible assumption) | assumption)
                 obtain ⟨ad540, e540, hx540_0⟩ := Kd.at_int (Kd.R_reads' HO_12.out).2.2 x14_1 p540 q540
                 cases e540
                 replace p540 := eq_true p540
                 replace q540 := eq_true q540
                 obtain ⟨Ao64, co64, eo64⟩ := Kd.R_slice HO_13.out
                 (first | subst eo64 | (injection eo64 with f1_ f2_ f3_; have f4_ := f1_.symm; have f5_ := f3_.symm; clear f1_ f2_ f3_; subst f4_; subst f5_))
                 have p541 : 0 ≤ (x14_1 : Int) := of_decide_eq_true (by first | (with_reducible assumption) | assumption)
                 have q541 : x14_1 < (y512.length : Int) := of_decide_eq_true (by first | (with_reducible assumption) | assumption)
                 obtain ⟨ad541, e541, hx541_0⟩ := Kd.at_int (Kd.R_reads' HO_13.out).2.2 x14_1 p541 q541
                 cases e541
                 replace p541 := eq_true p541
                 replace q541 := eq_true q541
                 refine start_ (n := 19) (S := fun w' => w'.cell? (ad516.add (x14_1).toNat) = some (.int .i64 (rd y499 x14_1)) ∧ w'.cell? (ad540.add (x14_1).toNat) = some (.int .i64 (rd y507 x14_1)) ∧ w'.cell? (ad541.add (x14_1).toNat) = some (.int .i64 (rd y512 x14_1))) (ds := []) #[false, false, false, false, false, false, false, false, false, false, false, false, false, false, false, false, false, false, false] (by kernel_rfl) rfl rfl ⟨hx539_0, hx540_0, hx541_0⟩ (fun hHeld => ?_); refine with_tabW payrolllaw29_BracketTaxes.tab16 payrolllaw29_BracketTaxes.bits16 (fun HT_ HW_ => ?_)
                 generalize w61.drew = w62 at HO_10 HO_11 HO_12 HO_13 HB hx539_0 hx540_0 hx541_0 hHeld ⊢
                 refine pure_ (i := 0) (N := some 127) (v := ?_) (a' := ?_) #[true, false, false, false, false, false, false, false, false, false, false, false, false, false, false, false, false, false, false] rfl rfl (any_of HT_.out (by kernel_rfl)) (fun _ _ _ h => h) (Or.inl ⟨by rfl, ?_⟩) ?_ ?_
                 rotate_left
                 ·
                  intro w'
                  go_simp
                  with_reducible rfl
                 rotate_left
                 ·
                  simp only [Act.put, List.setIfInBounds_toArray, List.set_cons_zero, List.set_cons_succ, i64_w, i32_w]
                  rfl
                 refine pure_ (i := 1) (N := some 128) (v := ?_) (a' := ?_) #[true, true, false, false, false, false, false, false, false, false, false, false, false, false, false, false, false, false, false] rfl rfl (any_of HT_.out (by kernel_rfl)) (fun _ _ _ h => h) (Or.inl ⟨by rfl, ?_⟩) ?_ ?_
                 rotate_left
                 ·
                  intro w'
                  go_simp
                  with_reducible rfl
                 rotate_left
                 ·
                  simp only [Act.put, List.setIfInBounds_toArray, List.set_cons_zero, List.set_cons_succ, i64_w, i32_w]
                  rfl
                 refine pure_ (i := 2) (N := some 129) (v := ?_) (a' := ?_) #[true, true, true, false, false, false, false, false, false, false, false, false, false, false, false, false, false, false, false] rfl rfl (any_of HT_.out (by kernel_rfl)) (fun _ _ _ h => h) (Or.inl ⟨by rfl, ?_⟩) ?_ ?_
                 rotate_left
                 ·
                  intro w'
                  go_simp
                  with_reducible rfl
                 rotate_left
                 ·
                  simp only [Act.put, List.setIfInBounds_toArray, List.set_cons_zero, List.set_cons_succ, i64_w, i32_w]
                  rfl
                 refine pure_ (i := 3) (N := some 130) (v := ?_) (a' := ?_) #[true, true, true, true, false, false, false, false, false, false, false, false, false, false, false, false, false, false, false] rfl rfl (any_of HT_.out (by kernel_rfl)) (fun _ _ _ h => h) (Or.inl ⟨by rfl, ?_⟩) ?_ ?_
                 rotate_left
                 ·
                  intro w'
                  go_simp
                  with_reducible rfl
                 rotate_left
                 ·
                  simp only [Act.put, List.setIfInBounds_toArray, List.set_cons_zero, List.set_cons_succ, i64_w, i32_w]
                  rfl
                 refine pure_ (i := 5) (N := some 132) (v := ?_) (a' := ?_) #[true, true, true, true, false, true, false, false, false, false, false, false, false, false, false, false, false, false, false] rfl rfl (any_of HT_.out (by kernel_rfl)) (fun _ _ _ h => h) (Or.inl ⟨by rfl, ?_⟩) ?_ ?_
                 rotate_left
                 ·
                  intro w'
                  go_simp
                  with_reducible rfl
                 rotate_left
                 ·
                  simp only [Act.put, List.setIfInBounds_toArray, List.set_cons_zero, List.set_cons_succ, i64_w, i32_w]
                  rfl
                 refine pure_ (i := 6) (N := some 133) (v := ?_) (a' := ?_) #[true, true, true, true, false, true, true, false, false, false, false, false, false, false, false, false, false, false, false] rfl rfl (any_of HT_.out (by kernel_rfl)) (fun _ _ _ h => h) (Or.inl ⟨by rfl, ?_⟩) ?_ ?_
                 rotate_left
                 ·
                  intro w'
                  go_simp
                  with_reducible rfl
                 rotate_left
                 ·
                  simp only [Act.put, List.setIfInBounds_toArray, List.set_cons_zero, List.set_cons_succ, i64_w, i32_w]
                  rfl
                 refine pure_ (i := 7) (N := some 134) (v := ?_) (a' := ?_) #[true, true, true, true, false, true, true, true, false, false, false, false, false, false, false, false, false, false, false] rfl rfl (any_of HT_.out (by kernel_rfl)) (fun _ _ _ h => h) (Or.inl ⟨by rfl, ?_⟩) ?_ ?_
                 rotate_left
                 ·
                  intro w'
                  go_simp
                  with_reducible rfl
                 rotate_left
                 ·
                  simp only [Act.put, List.setIfInBounds_toArray, List.set_cons_zero, List.set_cons_succ, i64_w, i32_w]
                  rfl
                 refine pure_ (i := 9) (N := some 136) (v := ?_) (a' := ?_) #[true, true, true, true, false, true, true, true, false, true, false, false, false, false, false, false, false, false, false] rfl rfl (any_of HT_.out (by kernel_rfl)) (fun _ _ _ h => h) (Or.inl ⟨by rfl, ?_⟩) ?_ ?_
                 rotate_left
                 ·
                  intro w'
                  go_simp
                  with_reducible rfl
                 rotate_left
                 ·
                  simp only [Act.put, List.setIfInBounds_toArray, List.set_cons_zero, List.set_cons_succ, i64_w, i32_w]
                  rfl
                 refine pure_ (i := 10) (N := some 137) (v := ?_) (a' := ?_) #[true, true, true, true, false, true, true, true, false, true, true, false, false, false, false, false, false, false, false] rfl rfl (any_of HT_.out (by kernel_rfl)) (fun _ _ _ h => h) (Or.inl ⟨by rfl, ?_⟩) ?_ ?_
                 rotate_left
                 ·
                  intro w'
                  go_simp
                  with_reducible rfl
                 rotate_left
                 ·
                  simp only [Act.put, List.setIfInBounds_toArray, List.set_cons_zero, List.set_cons_succ, i64_w, i32_w]
                  rfl
                 refine pure_ (i := 11) (N := some 138) (v := ?_) (a' := ?_) #[true, true, true, true, false, true, true, true, false, true, true, true, false, false, false, false, false, false, false] rfl rfl (any_of HT_.out (by kernel_rfl)) (fun _ _ _ h => h) (Or.inl ⟨by rfl, ?_⟩) ?_ ?_
                 rotate_left
                 ·
                  intro w'
                  go_simp
                  with_reducible rfl
                 rotate_left
                 ·
                  simp only [Act.put, List.setIfInBounds_toArray, List.set_cons_zero, List.set_cons_succ, i64_w, i32_w]
                  rfl
                 refine take_ (i := 4) (N := some 131) (v := ?_) (a' := ?_) #[true, true, true, true, true, true, true, true, false, true, true, true, false, false, false, false, false, false, false] rfl rfl (take_ofW HT_.out HW_.out (by kernel_rfl)) (fun _ _ _ h => h) (Or.inl ⟨by rfl, ?_⟩) hHeld ?_ ?_
                 rotate_left
                 ·
                  rintro w' ⟨s0, s1, s2⟩
                  go_simp
                  with_reducible rfl
                 rotate_left
                 ·
                  simp only [Act.put, List.setIfInBounds_toArray, List.set_cons_zero, List.set_cons_succ, i64_w, i32_w]
                  rfl
                 refine take_ (i := 8) (N := some 135) (v := ?_) (a' := ?_) #[true, true, true, true, true, true, true, true, true, true, true, true, false, false, false, false, false, false, false] rfl rfl (take_ofW HT_.out HW_.out (by kernel_rfl)) (fun _ _ _ h => h) (Or.inl ⟨by rfl, ?_⟩) hHeld ?_ ?_
                 rotate_left
                 ·
                  rintro w' ⟨s0, s1, s2⟩
                  go_simp
                  with_reducible rfl
                 rotate_left
                 ·
                  simp only [Act.put, List.setIfInBounds_toArray, List.set_cons_zero, List.set_cons_succ, i64_w, i32_w]
                  rfl
                 refine take_ (i := 12) (N := some 139) (v := ?_) (a' := ?_) #[true, true, true, true, true, true, true, true, true, true, true, true, true, false, false, false, false, false, false] rfl rfl (take_ofW HT_.out HW_.out (by kernel_rfl)) (fun _ _ _ h => h) (Or.inl ⟨by rfl, ?_⟩) hHeld ?_ ?_
                 rotate_left
                 ·
                  rintro w' ⟨s0, s1, s2⟩
                  go_simp
                  with_reducible rfl
                 rotate_left
                 ·
                  simp only [Act.put, List.setIfInBounds_toArray, List.set_cons_zero, List.set_cons_succ, i64_w, i32_w]
                  rfl
                 refine one_ (i := 13) (N := some 140) #[true, true, true, true, true, true, true, true, true, true, true, true, true, true, false, false, false, false, false] rfl rfl (one_of HT_.out (by kernel_rfl)) (by decide) (fun K hK => ?_)
                 refine goes_ Try.func32 (by kernel_rfl) rfl #[.slice Ao12 t493.length co12, .int .i64 (rd y499 x14_1), .int .i64 (rd y507 x14_1), .int .i64 (rd y512 x14_1)] (by rfl) rfl rfl (by (try simp only [List.map_toArray, List.map_cons, List.map_nil]); first | done | rfl | (simp only [List.length_drop, List.length_take]; rfl)) ?_
                 with_reducible refine (bracket_Tax.calls kj31 _ _ t493 (rd y499 x14_1) (rd y507 x14_1) (rd y512 x14_1) t542 t543 _ ?side1 ?side2 A55.out).mono ?_
                 (case side1 => repeat (first | exact (Kd.R_reads' HO_10.out).2.2 | (with_reducible refine Kd.C_alloc ?_ _) | (with_reducible refine Kd.C_drewN ?_ _) | (with_reducible refine Kd.C_drew ?_)))
                 (case side2 => exact (Kd.R_reads' HO_10.out).2.1)
                 rintro e w65 ⟨rfl, hb⟩
                 have HS0_ := (hb.cell (World.block_lt_of_cell? _ _ (hHeld.1))).trans (hHeld.1)
                 have HS1_ := (hb.cell (World.block_lt_of_cell? _ _ (hHeld.2.1))).trans (hHeld.2.1)
                 have HS2_ := (hb.cell (World.block_lt_of_cell? _ _ (hHeld.2.2))).trans (hHeld.2.2)
                 refine ⟨_, rfl, ?_⟩
                 have n0_ := Aside0.mk (Kd.R_below (by (with_reducible repeat (first | apply Kd.R_alloc | apply Kd.R_drewN | apply Kd.R_drew)); exact HO_10.out) hb)
                 have n1_ := Aside0.mk (Kd.R_below (by (with_reducible repeat (first | apply Kd.R_alloc | apply Kd.R_drewN | apply Kd.R_drew)); exact HO_11.out) hb)
                 have n2_ := Aside0.mk (Kd.R_below (by (with_reducible repeat (first | apply Kd.R_alloc | apply Kd.R_drewN | apply Kd.R_drew)); exact HO_12.out) hb)
                 have n3_ := Aside0.mk (Kd.R_below (by (with_reducible repeat (first | apply Kd.R_alloc | apply Kd.R_drewN | apply Kd.R_drew)); exact HO_13.out) hb)
                 have n4_ := Aside0.mk (below_step (by repeat (first | (with_reducible first | exact HB.out | apply below_alloc | apply pw_below_drewN | apply below_drew1) | exact HB.out)) hb)
                 clear HO_10
                 clear HO_11
                 clear HO_12
                 clear HO_13
                 clear HB
                 have HO_10 := n0_
                 have HO_11 := n1_
                 have HO_12 := n2_
                 have HO_13 := n3_
                 have HB := n4_
                 clear n0_ n1_ n2_ n3_ n4_
                 (try clear hb)
                 (try clear hb2)
                 (try clear hk)
                 (try clear hi)
                 refine hK.out _ _ ⟨HS0_, HS1_, HS2_⟩ (fun hHeld => ?_)
                 clear hK K
                 refine norm_ (a' := ?_) ?_ ?_
                 rotate_left
                 ·
                  show Act.put _ (some 140) _ = _
                  simp only [Act.put, List.setIfInBounds_toArray, List.set_cons_zero, List.set_cons_succ, i64_w, i32_w]
                  rfl
                 refine pure_ (i := 14) (N := some 126) (v := ?_) (a' := ?_) #[true, true, true, true, true, true, true, true, true, true, true, true, true, true, true, false, false, false, false] rfl rfl (any_of HT_.out (by kernel_rfl)) (fun _ _ _ h => h) (Or.inl ⟨by rfl, ?_⟩) ?_ ?_
                 rotate_left
                 ·
                  intro w'
                  go_simp
                  with_reducible rfl
                 rotate_left
                 ·
                  simp only [Act.put, List.setIfInBounds_toArray, List.set_cons_zero, List.set_cons_succ, i64_w, i32_w]
                  rfl
                 refine pure_ (i := 15) (N := some 141) (v := ?_) (a' := ?_) #[true, true, true, true, true, true, true, true, true, true, true, true, true, true, true, true, false, false, false] rfl rfl (any_of HT_.out (by kernel_rfl)) (fun _ _ _ h => h) (Or.inl ⟨by rfl, ?_⟩) ?_ ?_
                 rotate_left
                 ·
                  intro w'
                  go_simp
                  with_reducible rfl
                 rotate_left
                 ·
                  simp only [Act.put, List.setIfInBounds_toArray, List.set_cons_zero, List.set_cons_succ, i64_w, i32_w]
                  rfl
                 refine pure_ (i := 16) (N := some 142) (v := ?_) (a' := ?_) #[true, true, true, true, true, true, true, true, true, true, true, true, true, true, true, true, true, false, false] rfl rfl (any_of HT_.out (by kernel_rfl)) (fun _ _ _ h => h) (Or.inl ⟨by rfl, ?_⟩) ?_ ?_
                 rotate_left
                 ·
                  intro w'
                  go_simp
                  with_reducible rfl
                 rotate_left
                 ·
                  simp only [Act.put, List.setIfInBounds_toArray, List.set_cons_zero, List.set_cons_succ, i64_w, i32_w]
                  rfl
                 refine pure_ (i := 17) (N := some 27) (v := ?_) (a' := ?_) #[true, true, true, true, true, true, true, true, true, true, true, true, true, true, true, true, true, true, false] rfl rfl (any_of HT_.out (by kernel_rfl)) (fun _ _ _ h => h) (Or.inl ⟨by rfl, ?_⟩) ?_ ?_
                 rotate_left
                 ·
                  intro w'
                  go_simp
                  with_reducible rfl
                 rotate_left
                 ·
                  simp only [Act.put, List.setIfInBounds_toArray, List.set_cons_zero, List.set_cons_succ, i64_w, i32_w]
                  rfl
                 refine pure_ (i := 18) (N := some 28) (v := ?_) (a' := ?_) #[true, true, true, true, true, true, true, true, true, true, true, true, true, true, true, true, true, true, true] rfl rfl (any_of HT_.out (by kernel_rfl)) (fun _ _ _ h => h) (Or.inl ⟨by rfl, ?_⟩) ?_ ?_
                 rotate_left
                 ·
                  intro w'
                  go_simp
                  with_reducible rfl
                 rotate_left
                 ·
                  simp only [Act.put, List.setIfInBounds_toArray, List.set_cons_zero, List.set_cons_succ, i64_w, i32_w]
                  rfl
                 refine done_ (done_of HT_.out (by kernel_rfl)) ?_
                 try go_wp2
                 have n0_ := Aside0.mk (Kd.R_drew HO_10.out)
                 have n1_ := Aside0.mk (Kd.R_drew HO_11.out)
                 have n2_ := Aside0.mk (Kd.R_drew HO_12.out)
                 have n3_ := Aside0.mk (Kd.R_drew HO_13.out)
                 have n4_ := Aside0.mk (below_drew1 HB.out)
                 clear HO_10
                 clear HO_11
                 clear HO_12
                 clear HO_13
                 clear HB
                 have HO_10 := n0_
                 have HO_11 := n1_
                 have HO_12 := n2_
                 have HO_13 := n3_
                 have HB := n4_
                 clear n0_ n1_ n2_ n3_ n4_
                 have p544 : 0 ≤ (x14_1 : Int) := of_decide_eq_true (by first | (with_reducible assumption) | assumption)
                 have q544 : x14_1 < (y499.length : Int) := of_decide_eq_true (by first | (with_reducible assumption) | assumption)
                 obtain ⟨ad544, e544, hx544_0⟩ := Kd.at_int (Kd.R_reads' HO_11.out).2.2 x14_1 p544 q544
                 obtain rfl : ad516 = ad544 := (by injection e544)
                 replace p544 := eq_true p544
                 replace q544 := eq_true q544
                 have p545 : 0 ≤ (x14_1 : Int) := of_decide_eq_true (by first | (with_reducible assumption) | assumption)
                 have q545 : x14_1 < (y507.length : Int) := of_decide_eq_true (by first | (with_reducible assumption) | assumption)
                 obtain ⟨ad545, e545, hx545_0⟩ := Kd.at_int (Kd.R_reads' HO_12.out).2.2 x14_1 p545 q545
                 obtain rfl : ad540 = ad545 := (by injection e545)
                 replace p545 := eq_true p545
                 replace q545 := eq_true q545
                 have p546 : 0 ≤ (x14_1 : Int) := of_decide_eq_true (by first | (with_reducible assumption) | assumption)
                 have q546 : x14_1 < (y512.length : Int) := of_decide_eq_true (by first | (with_reducible assumption) | assumption)
                 obtain ⟨ad546, e546, hx546_0⟩ := Kd.at_int (Kd.R_reads' HO_13.out).2.2 x14_1 p546 q546
                 obtain rfl : ad541 = ad546 := (by injection e546)
                 replace p546 := eq_true p546
                 replace q546 := eq_true q546
                 refine start_ (n := 19) (S := fun w' => w'.cell? (ad516.add (x14_1).toNat) = some (.int .i64 (rd y499 x14_1)) ∧ w'.cell? (ad540.add (x14_1).toNat) = some (.int .i64 (rd y507 x14_1)) ∧ w'.cell? (ad541.add (x14_1).toNat) = some (.int .i64 (rd y512 x14_1))) (ds := []) #[false, false, false, false, false, false, false, false, false, false, false, false, false, false, false, false, false, false, false] (by kernel_rfl) rfl rfl ⟨hx544_0, hx545_0, hx546_0⟩ (fun hHeld => ?_); refine with_tabW payrolllaw29_BracketTaxes.tab17 payrolllaw29_BracketTaxes.bits17 (fun HT_ HW_ => ?_)
                 generalize w65.drew = w66 at HO_10 HO_11 HO_12 HO_13 HB hx544_0 hx545_0 hx546_0 hHeld ⊢
                 refine pure_ (i := 0) (N := some 144) (v := ?_) (a' := ?_) #[true, false, false, false, false, false, false, false, false, false, false, false, false, false, false, false, false, false, false] rfl rfl (any_of HT_.out (by kernel_rfl)) (fun _ _ _ h => h) (Or.inl ⟨by rfl, ?_⟩) ?_ ?_
                 rotate_left
                 ·
                  intro w'
                  go_simp
                  with_reducible rfl
                 rotate_left
                 ·
                  simp only [Act.put, List.setIfInBounds_toArray, List.set_cons_zero, List.set_cons_succ, i64_w, i32_w]
                  rfl
                 refine pure_ (i := 1) (N := some 145) (v := ?_) (a' := ?_) #[true, true, false, false, false, false, false, false, false, false, false, false, false, false, false, false, false, false, false] rfl rfl (any_of HT_.out (by kernel_rfl)) (fun _ _ _ h => h) (Or.inl ⟨by rfl, ?_⟩) ?_ ?_
                 rotate_left
                 ·
                  intro w'
                  go_simp
                  with_reducible rfl
                 rotate_left
                 ·
                  simp only [Act.put, List.setIfInBounds_toArray, List.set_cons_zero, List.set_cons_succ, i64_w, i32_w]
                  rfl
                 refine pure_ (i := 2) (N := some 146) (v := ?_) (a' := ?_) #[true, true, true, false, false, false, false, false, false, false, false, false, false, false, false, false, false, false, false] rfl rfl (any_of HT_.out (by kernel_rfl)) (fun _ _ _ h => h) (Or.inl ⟨by rfl, ?_⟩) ?_ ?_
                 rotate_left
                 ·
                  intro w'
                  go_simp
                  with_reducible rfl
                 rotate_left
                 ·
                  simp only [Act.put, List.setIfInBounds_toArray, List.set_cons_zero, List.set_cons_succ, i64_w, i32_w]
                  rfl
                 refine pure_ (i := 3) (N := some 147) (v := ?_) (a' := ?_) #[true, true, true, true, false, false, false, false, false, false, false, false, false, false, false, false, false, false, false] rfl rfl (any_of HT_.out (by kernel_rfl)) (fun _ _ _ h => h) (Or.inl ⟨by rfl, ?_⟩) ?_ ?_
                 rotate_left
                 ·
                  intro w'
                  go_simp
                  with_reducible rfl
                 rotate_left
                 ·
                  simp only [Act.put, List.setIfInBounds_toArray, List.set_cons_zero, List.set_cons_succ, i64_w, i32_w]
                  rfl
                 refine pure_ (i := 5) (N := some 149) (v := ?_) (a' := ?_) #[true, true, true, true, false, true, false, false, false, false, false, false, false, false, false, false, false, false, false] rfl rfl (any_of HT_.out (by kernel_rfl)) (fun _ _ _ h => h) (Or.inl ⟨by rfl, ?_⟩) ?_ ?_
                 rotate_left
                 ·
                  intro w'
                  go_simp
                  with_reducible rfl
                 rotate_left
                 ·
                  simp only [Act.put, List.setIfInBounds_toArray, List.set_cons_zero, List.set_cons_succ, i64_w, i32_w]
                  rfl
                 refine pure_ (i := 6) (N := some 150) (v := ?_) (a' := ?_) #[true, true, true, true, false, true, true, false, false, false, false, false, false, false, false, false, false, false, false] rfl rfl (any_of HT_.out (by kernel_rfl)) (fun _ _ _ h => h) (Or.inl ⟨by rfl, ?_⟩) ?_ ?_
                 rotate_left
                 ·
                  intro w'
                  go_simp
                  with_reducible rfl
                 rotate_left
                 ·
                  simp only [Act.put, List.setIfInBounds_toArray, List.set_cons_zero, List.set_cons_succ, i64_w, i32_w]
                  rfl
                 refine pure_ (i := 7) (N := some 151) (v := ?_) (a' := ?_) #[true, true, true, true, false, true, true, true, false, false, false, false, false, false, false, false, false, false, false] rfl rfl (any_of HT_.out (by kernel_rfl)) (fun _ _ _ h => h) (Or.inl ⟨by rfl, ?_⟩) ?_ ?_
                 rotate_left
                 ·
                  intro w'
                  go_simp
                  with_reducible rfl
                 rotate_left
                 ·
                  simp only [Act.put, List.setIfInBounds_toArray, List.set_cons_zero, List.set_cons_succ, i64_w, i32_w]
                  rfl
                 refine pure_ (i := 9) (N := some 153) (v := ?_) (a' := ?_) #[true, true, true, true, false, true, true, true, false, true, false, false, false, false, false, false, false, false, false] rfl rfl (any_of HT_.out (by kernel_rfl)) (fun _ _ _ h => h) (Or.inl ⟨by rfl, ?_⟩) ?_ ?_
                 rotate_left
                 ·
                  intro w'
                  go_simp
                  with_reducible rfl
                 rotate_left
                 ·
                  simp only [Act.put, List.setIfInBounds_toArray, List.set_cons_zero, List.set_cons_succ, i64_w, i32_w]
                  rfl
                 refine pure_ (i := 10) (N := some 154) (v := ?_) (a' := ?_) #[true, true, true, true, false, true, true, true, false, true, true, false, false, false, false, false, false, false, false] rfl rfl (any_of HT_.out (by kernel_rfl)) (fun _ _ _ h => h) (Or.inl ⟨by rfl, ?_⟩) ?_ ?_
                 rotate_left
                 ·
                  intro w'
                  go_simp
                  with_reducible rfl
                 rotate_left
                 ·
                  simp only [Act.put, List.setIfInBounds_toArray, List.set_cons_zero, List.set_cons_succ, i64_w, i32_w]
                  rfl
                 refine pure_ (i := 11) (N := some 155) (v := ?_) (a' := ?_) #[true, true, true, true, false, true, true, true, false, true, true, true, false, false, false, false, false, false, false] rfl rfl (any_of HT_.out (by kernel_rfl)) (fun _ _ _ h => h) (Or.inl ⟨by rfl, ?_⟩) ?_ ?_
                 rotate_left
                 ·
                  intro w'
                  go_simp
                  with_reducible rfl
                 rotate_left
                 ·
                  simp only [Act.put, List.setIfInBounds_toArray, List.set_cons_zero, List.set_cons_succ, i64_w, i32_w]
                  rfl
                 refine take_ (i := 4) (N := some 148) (v := ?_) (a' := ?_) #[true, true, true, true, true, true, true, true, false, true, true, true, false, false, false, false, false, false, false] rfl rfl (take_ofW HT_.out HW_.out (by kernel_rfl)) (fun _ _ _ h => h) (Or.inl ⟨by rfl, ?_⟩) hHeld ?_ ?_
                 rotate_left
                 ·
                  rintro w' ⟨s0, s1, s2⟩
                  go_simp
                  with_reducible rfl
                 rotate_left
                 ·
                  simp only [Act.put, List.setIfInBounds_toArray, List.set_cons_zero, List.set_cons_succ, i64_w, i32_w]
                  rfl
                 refine take_ (i := 8) (N := some 152) (v := ?_) (a' := ?_) #[true, true, true, true, true, true, true, true, true, true, true, true, false, false, false, false, false, false, false] rfl rfl (take_ofW HT_.out HW_.out (by kernel_rfl)) (fun _ _ _ h => h) (Or.inl ⟨by rfl, ?_⟩) hHeld ?_ ?_
                 rotate_left
                 ·
                  rintro w' ⟨s0, s1, s2⟩
                  go_simp
                  with_reducible rfl
                 rotate_left
                 ·
                  simp only [Act.put, List.setIfInBounds_toArray, List.set_cons_zero, List.set_cons_succ, i64_w, i32_w]
                  rfl
                 refine take_ (i := 12) (N := some 156) (v := ?_) (a' := ?_) #[true, true, true, true, true, true, true, true, true, true, true, true, true, false, false, false, false, false, false] rfl rfl (take_ofW HT_.out HW_.out (by kernel_rfl)) (fun _ _ _ h => h) (Or.inl ⟨by rfl, ?_⟩) hHeld ?_ ?_
                 rotate_left
                 ·
                  rintro w' ⟨s0, s1, s2⟩
                  go_simp
                  with_reducible rfl
                 rotate_left
                 ·
                  simp only [Act.put, List.setIfInBounds_toArray, List.set_cons_zero, List.set_cons_succ, i64_w, i32_w]
                  rfl
                 refine one_ (i := 13) (N := some 157) #[true, true, true, true, true, true, true, true, true, true, true, true, true, true, false, false, false, false, false] rfl rfl (one_of HT_.out (by kernel_rfl)) (by decide) (fun K hK => ?_)
                 refine goes_ Try.func36 (by kernel_rfl) rfl #[.slice Ao12 t493.length co12, .int .i64 (rd y499 x14_1), .int .i64 (rd y507 x14_1), .int .i64 (rd y512 x14_1)] (by rfl) rfl rfl (by (try simp only [List.map_toArray, List.map_cons, List.map_nil]); first | done | rfl | (simp only [List.length_drop, List.length_take]; rfl)) ?_
                 with_reducible refine (payrollref29_Tax.calls kj31 _ _ t493 (rd y499 x14_1) (rd y507 x14_1) (rd y512 x14_1) t547 t548 _ ?side1 ?side2 A56.out).mono ?_
                 (case side1 => repeat (first | exact (Kd.R_reads' HO_10.out).2.2 | (with_reducible refine Kd.C_alloc ?_ _) | (with_reducible refine Kd.C_drewN ?_ _) | (with_reducible refine Kd.C_drew ?_)))
                 (case side2 => exact (Kd.R_reads' HO_10.out).2.1)
                 rintro e w67 ⟨rfl, hb⟩
                 have HS0_ := (hb.cell (World.block_lt_of_cell? _ _ (hHeld.1))).trans (hHeld.1)
                 have HS1_ := (hb.cell (World.block_lt_of_cell? _ _ (hHeld.2.1))).trans (hHeld.2.1)
                 have HS2_ := (hb.cell (World.block_lt_of_cell? _ _ (hHeld.2.2))).trans (hHeld.2.2)
                 refine ⟨_, rfl, ?_⟩
                 have n0_ := Aside0.mk (Kd.R_below (by (with_reducible repeat (first | apply Kd.R_alloc | apply Kd.R_drewN | apply Kd.R_drew)); exact HO_10.out) hb)
                 have n1_ := Aside0.mk (Kd.R_below (by (with_reducible repeat (first | apply Kd.R_alloc | apply Kd.R_drewN | apply Kd.R_drew)); exact HO_11.out) hb)
                 have n2_ := Aside0.mk (Kd.R_below (by (with_reducible repeat (first | apply Kd.R_alloc | apply Kd.R_drewN | apply Kd.R_drew)); exact HO_12.out) hb)
                 have n3_ := Aside0.mk (Kd.R_below (by (with_reducible repeat (first | apply Kd.R_alloc | apply Kd.R_drewN | apply Kd.R_drew)); exact HO_13.out) hb)
                 have n4_ := Aside0.mk (below_step (by repeat (first | (with_reducible first | exact HB.out | apply below_alloc | apply pw_below_drewN | apply below_drew1) | exact HB.out)) hb)
                 clear HO_10
                 clear HO_11
                 clear HO_12
                 clear HO_13
                 clear HB
                 have HO_10 := n0_
                 have HO_11 := n1_
                 have HO_12 := n2_
                 have HO_13 := n3_
                 have HB := n4_
                 clear n0_ n1_ n2_ n3_ n4_
                 (try clear hb)
                 (try clear hb2)
                 (try clear hk)
                 (try clear hi)
                 refine hK.out _ _ ⟨HS0_, HS1_, HS2_⟩ (fun hHeld => ?_)
                 clear hK K
                 refine norm_ (a' := ?_) ?_ ?_
                 rotate_left
                 ·
                  show Act.put _ (some 157) _ = _
                  simp only [Act.put, List.setIfInBounds_toArray, List.set_cons_zero, List.set_cons_succ, i64_w, i32_w]
                  rfl
                 refine pure_ (i := 14) (N := some 143) (v := ?_) (a' := ?_) #[true, true, true, true, true, true, true, true, true, true, true, true, true, true, true, false, false, false, false] rfl rfl (any_of HT_.out (by kernel_rfl)) (fun _ _ _ h => h) (Or.inl ⟨by rfl, ?_⟩) ?_ ?_
                 rotate_left
                 ·
                  intro w'
                  go_simp
                  with_reducible rfl
                 rotate_left
                 ·
                  simp only [Act.put, List.setIfInBounds_toArray, List.set_cons_zero, List.set_cons_succ, i64_w, i32_w]
                  rfl
                 refine pure_ (i := 15) (N := some 158) (v := ?_) (a' := ?_) #[true, true, true, true, true, true, true, true, true, true, true, true, true, true, true, true, false, false, false] rfl rfl (any_of HT_.out (by kernel_rfl)) (fun _ _ _ h => h) (Or.inl ⟨by rfl, ?_⟩) ?_ ?_
                 rotate_left
                 ·
                  intro w'
                  go_simp
                  with_reducible rfl
                 rotate_left
                 ·
                  simp only [Act.put, List.setIfInBounds_toArray, List.set_cons_zero, List.set_cons_succ, i64_w, i32_w]
                  rfl
                 refine pure_ (i := 16) (N := some 159) (v := ?_) (a' := ?_) #[true, true, true, true, true, true, true, true, true, true, true, true, true, true, true, true, true, false, false] rfl rfl (any_of HT_.out (by kernel_rfl)) (fun _ _ _ h => h) (Or.inl ⟨by rfl, ?_⟩) ?_ ?_
                 rotate_left
                 ·
                  intro w'
                  go_simp
                  with_reducible rfl
                 rotate_left
                 ·
                  simp only [Act.put, List.setIfInBounds_toArray, List.set_cons_zero, List.set_cons_succ, i64_w, i32_w]
                  rfl
                 refine pure_ (i := 17) (N := some 29) (v := ?_) (a' := ?_) #[true, true, true, true, true, true, true, true, true, true, true, true, true, true, true, true, true, true, false] rfl rfl (any_of HT_.out (by kernel_rfl)) (fun _ _ _ h => h) (Or.inl ⟨by rfl, ?_⟩) ?_ ?_
                 rotate_left
                 ·
                  intro w'
                  go_simp
                  with_reducible rfl
                 rotate_left
                 ·
                  simp only [Act.put, List.setIfInBounds_toArray, List.set_cons_zero, List.set_cons_succ, i64_w, i32_w]
                  rfl
                 refine pure_ (i := 18) (N := some 30) (v := ?_) (a' := ?_) #[true, true, true, true, true, true, true, true, true, true, true, true, true, true, true, true, true, true, true] rfl rfl (any_of HT_.out (by kernel_rfl)) (fun _ _ _ h => h) (Or.inl ⟨by rfl, ?_⟩) ?_ ?_
                 rotate_left
                 ·
                  intro w'
                  go_simp
                  with_reducible rfl
                 rotate_left
                 ·
                  simp only [Act.put, List.setIfInBounds_toArray, List.set_cons_zero, List.set_cons_succ, i64_w, i32_w]
                  rfl
                 refine done_ (done_of HT_.out (by kernel_rfl)) ?_
                 try go_wp2
                 go_roundg kj31
                 case measure => have := HK1.out; have := HJ31.out; omega
                 case rel => exact ⟨(wrap64 (x14_1 + 1)), (by first | rfl | (simp; done) | (simp [*]; done)), H', ⟨by have := HK1.out; have := HJ31.out; omega⟩, ⟨by (with_reducible repeat (first | apply Kd.R_alloc | apply Kd.R_drewN | apply Kd.R_drew)); exact HO_10.out⟩, ⟨by (with_reducible repeat (first | apply Kd.R_alloc | apply Kd.R_drewN | apply Kd.R_drew)); exact HO_11.out⟩, ⟨by (with_reducible repeat (first | apply Kd.R_alloc | apply Kd.R_drewN | apply Kd.R_drew)); exact HO_12.out⟩, ⟨by (with_reducible repeat (first | apply Kd.R_alloc | apply Kd.R_drewN | apply Kd.R_drew)); exact HO_13.out⟩, ⟨by repeat (first | (with_reducible first | exact HB.out | apply below_alloc | apply pw_below_drewN | apply below_drew1) | exact HB.out)⟩⟩
                ·
                 rw [if_neg c60] at H
                 have c60b0 : (t542 == t547) = false := beq_eq_false_iff_ne.mpr c60
                 have c60b1 : (t542 != t547) = true := bne_iff_ne.mpr c60
                 obtain rfl := Option.some.inj H
                 have p533 : 0 ≤ (x14_1 : Int) := of_decide_eq_true (by first | (with_reducible assumption) | assumption)
                 have q533 : x14_1 < (y499.length : Int) := of_decide_eq_true (by first | (with_reducible assumption) | assumption)
                 obtain ⟨ad533, e533, hx533_0⟩ := Kd.at_int (Kd.R_reads' HO_11.out).2.2 x14_1 p533 q533
                 obtain rfl : ad516 = ad533 := (by injection e533)
                 replace p533 := eq_true p533
                 replace q533 := eq_true q533
                 try go_wp2_with (first | ((with_reducible refine gate_callee (f := 25) rfl ?_); refine goesL_ (some 114) rfl rfl Try.func25 (by kernel_rfl) rfl #[.slice Ao12 t493.length co12, .int .i64 (rd y499 x14_1)] rfl (by (try simp only [List.map_toArray, List.map_cons, List.map_nil]); first | done | rfl | (simp only [List.length_drop, List.length_take]; rfl)) ?_; (with_reducible refine (bracket_Marginal.calls kj31 _ _ t493 (rd y499 x14_1) t534 t535 _ ?side1 ?side2 A51.out).mono ?_); (case side1 => repeat (first | exact (Kd.R_reads' HO_10.out).2.2 | (with_reducible refine Kd.C_alloc ?_ _) | (with_reducible refine Kd.C_drewN ?_ _) | (with_reducible refine Kd.C_drew ?_))); (case side2 => exact (Kd.R_reads' HO_10.out).2.1); rintro e w68 ⟨rfl, hb⟩; refine ⟨_, rfl, ?_⟩; have n0_ := Aside0.mk (Kd.R_below (by (with_reducible repeat (first | apply Kd.R_alloc | apply Kd.R_drewN | apply Kd.R_drew)); exact HO_10.out) hb); have n1_ := Aside0.mk (Kd.R_below (by (with_reducible repeat (first | apply Kd.R_alloc | apply Kd.R_drewN | apply Kd.R_drew)); exact HO_11.out) hb); have n2_ := Aside0.mk (Kd.R_below (by (with_reducible repeat (first | apply Kd.R_alloc | apply Kd.R_drewN | apply Kd.R_drew)); exact HO_12.out) hb); have n3_ := Aside0.mk (Kd.R_below (by (with_reducible repeat (first | apply Kd.R_alloc | apply Kd.R_drewN | apply Kd.R_drew)); exact HO_13.out) hb); have n4_ := Aside0.mk (below_step (by repeat (first | (with_reducible first | exact HB.out | apply below_alloc | apply pw_below_drewN | apply below_drew1) | exact HB.out)) hb); clear HO_10; clear HO_11; clear HO_12; clear HO_13; clear HB; have HO_10 := n0_; have HO_11 := n1_; have HO_12 := n2_; have HO_13 := n3_; have HB := n4_; clear n0_ n1_ n2_ n3_ n4_; (try clear hb); (try clear hb2); (try clear hk); (try clear hi); have p536 : 0 ≤ (x14_1 : Int) := of_decide_eq_true (by first | (with_reducible assumption) | assumption); have q536 : x14_1 < (y499.length : Int) := of_decide_eq_true (by first | (with_reducible assumption) | assumption); obtain ⟨ad536, e536, hx536_0⟩ := Kd.at_int (Kd.R_reads' HO_11.out).2.2 x14_1 p536 q536; obtain rfl : ad516 = ad536 := (by injection e536); replace p536 := eq_true p536; replace q536 := eq_true q536) | ((with_reducible refine gate_callee (f := 35) rfl ?_); refine goesL_ (some 123) rfl rfl Try.func35 (by kernel_rfl) rfl #[.slice Ao12 t493.length co12, .int .i64 (rd y499 x14_1)] rfl (by (try simp only [List.map_toArray, List.map_cons, List.map_nil]); first | done | rfl | (simp only [List.length_drop, List.length_take]; rfl)) ?_; (with_reducible refine (payrollref29_Marginal.calls kj31 _ _ t493 (rd y499 x14_1) t537 t538 _ ?side1 ?side2 A52.out).mono ?_); (case side1 => repeat (first | exact (Kd.R_reads' HO_10.out).2.2 | (with_reducible refine Kd.C_alloc ?_ _) | (with_reducible refine Kd.C_drewN ?_ _) | (with_reducible refine Kd.C_drew ?_))); (case side2 => exact (Kd.R_reads' HO_10.out).2.1); rintro e w' ⟨rfl, ⟨nd, rfl⟩⟩; refine ⟨_, rfl, ?_⟩))
                 (try (rw [drewN_self w68]; generalize hq_ : World.drewN w68 _ = w68; have n0_ : Aside0 (Kd.R k30 30 w68 w.heap.size (fun _ => True) (.slice Ao12 t493.length co12) t493) := ⟨by rw [← hq_]; exact (by (with_reducible repeat (first | apply Kd.R_alloc | apply Kd.R_drewN | apply Kd.R_drew)); exact HO_10.out)⟩; have n1_ : Aside0 (Kd.R (Kd.int .i64) 3 w68 w.heap.size (fun k_ => some k_ ≠ (v508 : Value).ownBlock ∧ some k_ ≠ (v513 : Value).ownBlock) (.slice (some ad516) y499.length co33) y499) := ⟨by rw [← hq_]; exact (by (with_reducible repeat (first | apply Kd.R_alloc | apply Kd.R_drewN | apply Kd.R_drew)); exact HO_11.out)⟩; have n2_ : Aside0 (Kd.R (Kd.int .i64) 3 w68 w.heap.size (fun k_ => some k_ ≠ (.slice (some ad516) y499.length co33 : Value).ownBlock ∧ some k_ ≠ (v513 : Value).ownBlock) v508 y507) := ⟨by rw [← hq_]; exact (by (with_reducible repeat (first | apply Kd.R_alloc | apply Kd.R_drewN | apply Kd.R_drew)); exact HO_12.out)⟩; have n3_ : Aside0 (Kd.R (Kd.int .i64) 3 w68 w.heap.size (fun k_ => some k_ ≠ (.slice (some ad516) y499.length co33 : Value).ownBlock ∧ some k_ ≠ (v508 : Value).ownBlock) v513 y512) := ⟨by rw [← hq_]; exact (by (with_reducible repeat (first | apply Kd.R_alloc | apply Kd.R_drewN | apply Kd.R_drew)); exact HO_13.out)⟩; have n4_ : Aside0 (Below w.heap.size w w68) := ⟨by rw [← hq_]; exact (by repeat (first | (with_reducible first | exact HB.out | apply below_alloc | apply pw_below_drewN | apply below_drew1) | exact HB.out))⟩; clear HO_10 HO_11 HO_12 HO_13 HB hq_; have HO_10 := n0_; have HO_11 := n1_; have HO_12 := n2_; have HO_13 := n3_; have HB := n4_; clear n0_ n1_ n2_ n3_ n4_))
                 have n0_ := Aside0.mk (Kd.R_drew HO_10.out)
                 have n1_ := Aside0.mk (Kd.R_drew HO_11.out)
                 have n2_ := Aside0.mk (Kd.R_drew HO_12.out)
                 have n3_ := Aside0.mk (Kd.R_drew HO_13.out)
                 have n4_ := Aside0.mk (below_drew1 HB.out)
                 clear HO_10
                 clear HO_11
                 clear HO_12
                 clear HO_13
                 clear HB
                 have HO_10 := n0_
                 have HO_11 := n1_
                 have HO_12 := n2_
                 have HO_13 := n3_
                 have HB := n4_
                 clear n0_ n1_ n2_ n3_ n4_
                 have p539 : 0 ≤ (x14_1 : Int) := of_decide_eq_true (by first | (with_reducible assumption) | assumption)
                 have q539 : x14_1 < (y499.length : Int) := of_decide_eq_true (by first | (with_reducible assumption) | assumption)
                 obtain ⟨ad539, e539, hx539_0⟩ := Kd.at_int (Kd.R_reads' HO_11.out).2.2 x14_1 p539 q539
                 obtain rfl : ad516 = ad539 := (by injection e539)
                 replace p539 := eq_true p539
                 replace q539 := eq_true q539
                 obtain ⟨Ao70, co70, eo70⟩ := Kd.R_slice HO_12.out
                 (first | subst eo70 | (injection eo70 with f1_ f2_ f3_; have f4_ := f1_.symm; have f5_ := f3_.symm; clear f1_ f2_ f3_; subst f4_; subst f5_))
                 have p540 : 0 ≤ (x14_1 : Int) := of_decide_eq_true (by first | (with_reducible assumption) | assumption)
                 have q540 : x14_1 < (y507.length : Int) := of_decide_eq_true (by first | (with_reducible assumption) | assumption)
                 obtain ⟨ad540, e540, hx540_0⟩ := Kd.at_int (Kd.R_reads' HO_12.out).2.2 x14_1 p540 q540
                 cases e540
                 replace p540 := eq_true p540
                 replace q540 := eq_true q540
                 obtain ⟨Ao71, co71, eo71⟩ := Kd.R_slice HO_13.out
                 (first | subst eo71 | (injection eo71 with f1_ f2_ f3_; have f4_ := f1_.symm; have f5_ := f3_.symm; clear f1_ f2_ f3_; subst f4_; subst f5_))
                 have p541 : 0 ≤ (x14_1 : Int) := of_decide_eq_true (by first | (with_reducible assumption) | assumption)
                 have q541 : x14_1 < (y512.length : Int) := of_decide_eq_true (by first | (with_reducible assumption) | assumption)
                 obtain ⟨ad541, e541, hx541_0⟩ := Kd.at_int (Kd.R_reads' HO_13.out).2.2 x14_1 p541 q541
                 cases e541
                 replace p541 := eq_true p541
                 replace q541 := eq_true q541
                 refine start_ (n := 19) (S := fun w' => w'.cell? (ad516.add (x14_1).toNat) = some (.int .i64 (rd y499 x14_1)) ∧ w'.cell? (ad540.add (x14_1).toNat) = some (.int .i64 (rd y507 x14_1)) ∧ w'.cell? (ad541.add (x14_1).toNat) = some (.int .i64 (rd y512 x14_1))) (ds := []) #[false, false, false, false, false, false, false, false, false, false, false, false, false, false, false, false, false, false, false] (by kernel_rfl) rfl rfl ⟨hx539_0, hx540_0, hx541_0⟩ (fun hHeld => ?_); refine with_tabW payrolllaw29_BracketTaxes.tab16 payrolllaw29_BracketTaxes.bits16 (fun HT_ HW_ => ?_)
                 generalize w68.drew = w69 at HO_10 HO_11 HO_12 HO_13 HB hx539_0 hx540_0 hx541_0 hHeld ⊢
                 refine pure_ (i := 0) (N := some 127) (v := ?_) (a' := ?_) #[true, false, false, false, false, false, false, false, false, false, false, false, false, false, false, false, false, false, false] rfl rfl (any_of HT_.out (by kernel_rfl)) (fun _ _ _ h => h) (Or.inl ⟨by rfl, ?_⟩) ?_ ?_
                 rotate_left
                 ·
                  intro w'
                  go_simp
                  with_reducible rfl
                 rotate_left
                 ·
                  simp only [Act.put, List.setIfInBounds_toArray, List.set_cons_zero, List.set_cons_succ, i64_w, i32_w]
                  rfl
                 refine pure_ (i := 1) (N := some 128) (v := ?_) (a' := ?_) #[true, true, false, false, false, false, false, false, false, false, false, false, false, false, false, false, false, false, false] rfl rfl (any_of HT_.out (by kernel_rfl)) (fun _ _ _ h => h) (Or.inl ⟨by rfl, ?_⟩) ?_ ?_
                 rotate_left
                 ·
                  intro w'
                  go_simp
                  with_reducible rfl
                 rotate_left
                 ·
                  simp only [Act.put, List.setIfInBounds_toArray, List.set_cons_zero, List.set_cons_succ, i64_w, i32_w]
                  rfl
                 refine pure_ (i := 2) (N := some 129) (v := ?_) (a' := ?_) #[true, true, true, false, false, false, false, false, false, false, false, false, false, false, false, false, false, false, false] rfl rfl (any_of HT_.out (by kernel_rfl)) (fun _ _ _ h => h) (Or.inl ⟨by rfl, ?_⟩) ?_ ?_
                 rotate_left
                 ·
                  intro w'
                  go_simp
                  with_reducible rfl
                 rotate_left
                 ·
                  simp only [Act.put, List.setIfInBounds_toArray, List.set_cons_zero, List.set_cons_succ, i64_w, i32_w]
                  rfl
                 refine pure_ (i := 3) (N := some 130) (v := ?_) (a' := ?_) #[true, true, true, true, false, false, false, false, false, false, false, false, false, false, false, false, false, false, false] rfl rfl (any_of HT_.out (by kernel_rfl)) (fun _ _ _ h => h) (Or.inl ⟨by rfl, ?_⟩) ?_ ?_
                 rotate_left
                 ·
                  intro w'
                  go_simp
                  with_reducible rfl
                 rotate_left
                 ·
                  simp only [Act.put, List.setIfInBounds_toArray, List.set_cons_zero, List.set_cons_succ, i64_w, i32_w]
                  rfl
                 refine pure_ (i := 5) (N := some 132) (v := ?_) (a' := ?_) #[true, true, true, true, false, true, false, false, false, false, false, false, false, false, false, false, false, false, false] rfl rfl (any_of HT_.out (by kernel_rfl)) (fun _ _ _ h => h) (Or.inl ⟨by rfl, ?_⟩) ?_ ?_
                 rotate_left
                 ·
                  intro w'
                  go_simp
                  with_reducible rfl
                 rotate_left
                 ·
                  simp only [Act.put, List.setIfInBounds_toArray, List.set_cons_zero, List.set_cons_succ, i64_w, i32_w]
                  rfl
                 refine pure_ (i := 6) (N := some 133) (v := ?_) (a' := ?_) #[true, true, true, true, false, true, true, false, false, false, false, false, false, false, false, false, false, false, false] rfl rfl (any_of HT_.out (by kernel_rfl)) (fun _ _ _ h => h) (Or.inl ⟨by rfl, ?_⟩) ?_ ?_
                 rotate_left
                 ·
                  intro w'
                  go_simp
                  with_reducible rfl
                 rotate_left
                 ·
                  simp only [Act.put, List.setIfInBounds_toArray, List.set_cons_zero, List.set_cons_succ, i64_w, i32_w]
                  rfl
                 refine pure_ (i := 7) (N := some 134) (v := ?_) (a' := ?_) #[true, true, true, true, false, true, true, true, false, false, false, false, false, false, false, false, false, false, false] rfl rfl (any_of HT_.out (by kernel_rfl)) (fun _ _ _ h => h) (Or.inl ⟨by rfl, ?_⟩) ?_ ?_
                 rotate_left
                 ·
                  intro w'
                  go_simp
                  with_reducible rfl
                 rotate_left
                 ·
                  simp only [Act.put, List.setIfInBounds_toArray, List.set_cons_zero, List.set_cons_succ, i64_w, i32_w]
                  rfl
                 refine pure_ (i := 9) (N := some 136) (v := ?_) (a' := ?_) #[true, true, true, true, false, true, true, true, false, true, false, false, false, false, false, false, false, false, false] rfl rfl (any_of HT_.out (by kernel_rfl)) (fun _ _ _ h => h) (Or.inl ⟨by rfl, ?_⟩) ?_ ?_
                 rotate_left
                 ·
                  intro w'
                  go_simp
                  with_reducible rfl
                 rotate_left
                 ·
                  simp only [Act.put, List.setIfInBounds_toArray, List.set_cons_zero, List.set_cons_succ, i64_w, i32_w]
                  rfl
                 refine pure_ (i := 10) (N := some 137) (v := ?_) (a' := ?_) #[true, true, true, true, false, true, true, true, false, true, true, false, false, false, false, false, false, false, false] rfl rfl (any_of HT_.out (by kernel_rfl)) (fun _ _ _ h => h) (Or.inl ⟨by rfl, ?_⟩) ?_ ?_
                 rotate_left
                 ·
                  intro w'
                  go_simp
                  with_reducible rfl
                 rotate_left
                 ·
                  simp only [Act.put, List.setIfInBounds_toArray, List.set_cons_zero, List.set_cons_succ, i64_w, i32_w]
                  rfl
                 refine pure_ (i := 11) (N := some 138) (v := ?_) (a' := ?_) #[true, true, true, true, false, true, true, true, false, true, true, true, false, false, false, false, false, false, false] rfl rfl (any_of HT_.out (by kernel_rfl)) (fun _ _ _ h => h) (Or.inl ⟨by rfl, ?_⟩) ?_ ?_
                 rotate_left
                 ·
                  intro w'
                  go_simp
                  with_reducible rfl
                 rotate_left
                 ·
                  simp only [Act.put, List.setIfInBounds_toArray, List.set_cons_zero, List.set_cons_succ, i64_w, i32_w]
                  rfl
                 refine take_ (i := 4) (N := some 131) (v := ?_) (a' := ?_) #[true, true, true, true, true, true, true, true, false, true, true, true, false, false, false, false, false, false, false] rfl rfl (take_ofW HT_.out HW_.out (by kernel_rfl)) (fun _ _ _ h => h) (Or.inl ⟨by rfl, ?_⟩) hHeld ?_ ?_
                 rotate_left
                 ·
                  rintro w' ⟨s0, s1, s2⟩
                  go_simp
                  with_reducible rfl
                 rotate_left
                 ·
                  simp only [Act.put, List.setIfInBounds_toArray, List.set_cons_zero, List.set_cons_succ, i64_w, i32_w]
                  rfl
                 refine take_ (i := 8) (N := some 135) (v := ?_) (a' := ?_) #[true, true, true, true, true, true, true, true, true, true, true, true, false, false, false, false, false, false, false] rfl rfl (take_ofW HT_.out HW_.out (by kernel_rfl)) (fun _ _ _ h => h) (Or.inl ⟨by rfl, ?_⟩) hHeld ?_ ?_
                 rotate_left
                 ·
                  rintro w' ⟨s0, s1, s2⟩
                  go_simp
                  with_reducible rfl
                 rotate_left
                 ·
                  simp only [Act.put, List.setIfInBounds_toArray, List.set_cons_zero, List.set_cons_succ, i64_w, i32_w]
                  rfl
                 refine take_ (i := 12) (N := some 139) (v := ?_) (a' := ?_) #[true, true, true, true, true, true, true, true, true, true, true, true, true, false, false, false, false, false, false] rfl rfl (take_ofW HT_.out HW_.out (by kernel_rfl)) (fun _ _ _ h => h) (Or.inl ⟨by rfl, ?_⟩) hHeld ?_ ?_
                 rotate_left
                 ·
                  rintro w' ⟨s0, s1, s2⟩
                  go_simp
                  with_reducible rfl
                 rotate_left
                 ·
                  simp only [Act.put, List.setIfInBounds_toArray, List.set_cons_zero, List.set_cons_succ, i64_w, i32_w]
                  rfl
                 refine one_ (i := 13) (N := some 140) #[true, true, true, true, true, true, true, true, true, true, true, true, true, true, false, false, false, false, false] rfl rfl (one_of HT_.out (by kernel_rfl)) (by decide) (fun K hK => ?_)
                 refine goes_ Try.func32 (by kernel_rfl) rfl #[.slice Ao12 t493.length co12, .int .i64 (rd y499 x14_1), .int .i64 (rd y507 x14_1), .int .i64 (rd y512 x14_1)] (by rfl) rfl rfl (by (try simp only [List.map_toArray, List.map_cons, List.map_nil]); first | done | rfl | (simp only [List.length_drop, List.length_take]; rfl)) ?_
                 with_reducible refine (bracket_Tax.calls kj31 _ _ t493 (rd y499 x14_1) (rd y507 x14_1) (rd y512 x14_1) t542 t543 _ ?side1 ?side2 A55.out).mono ?_
                 (case side1 => repeat (first | exact (Kd.R_reads' HO_10.out).2.2 | (with_reducible refine Kd.C_alloc ?_ _) | (with_reducible refine Kd.C_drewN ?_ _) | (with_reducible refine Kd.C_drew ?_)))
                 (case side2 => exact (Kd.R_reads' HO_10.out).2.1)
                 rintro e w72 ⟨rfl, hb⟩
                 have HS0_ := (hb.cell (World.block_lt_of_cell? _ _ (hHeld.1))).trans (hHeld.1)
                 have HS1_ := (hb.cell (World.block_lt_of_cell? _ _ (hHeld.2.1))).trans (hHeld.2.1)
                 have HS2_ := (hb.cell (World.block_lt_of_cell? _ _ (hHeld.2.2))).trans (hHeld.2.2)
                 refine ⟨_, rfl, ?_⟩
                 have n0_ := Aside0.mk (Kd.R_below (by (with_reducible repeat (first | apply Kd.R_alloc | apply Kd.R_drewN | apply Kd.R_drew)); exact HO_10.out) hb)
                 have n1_ := Aside0.mk (Kd.R_below (by (with_reducible repeat (first | apply Kd.R_alloc | apply Kd.R_drewN | apply Kd.R_drew)); exact HO_11.out) hb)
                 have n2_ := Aside0.mk (Kd.R_below (by (with_reducible repeat (first | apply Kd.R_alloc | apply Kd.R_drewN | apply Kd.R_drew)); exact HO_12.out) hb)
                 have n3_ := Aside0.mk (Kd.R_below (by (with_reducible repeat (first | apply Kd.R_alloc | apply Kd.R_drewN | apply Kd.R_drew)); exact HO_13.out) hb)
                 have n4_ := Aside0.mk (below_step (by repeat (first | (with_reducible first | exact HB.out | apply below_alloc | apply pw_below_drewN | apply below_drew1) | exact HB.out)) hb)
                 clear HO_10
                 clear HO_11
                 clear HO_12
                 clear HO_13
                 clear HB
                 have HO_10 := n0_
                 have HO_11 := n1_
                 have HO_12 := n2_
                 have HO_13 := n3_
                 have HB := n4_
                 clear n0_ n1_ n2_ n3_ n4_
                 (try clear hb)
                 (try clear hb2)
                 (try clear hk)
                 (try clear hi)
                 refine hK.out _ _ ⟨HS0_, HS1_, HS2_⟩ (fun hHeld => ?_)
                 clear hK K
                 refine norm_ (a' := ?_) ?_ ?_
                 rotate_left
                 ·
                  show Act.put _ (some 140) _ = _
                  simp only [Act.put, List.setIfInBounds_toArray, List.set_cons_zero, List.set_cons_succ, i64_w, i32_w]
                  rfl
                 refine pure_ (i := 14) (N := some 126) (v := ?_) (a' := ?_) #[true, true, true, true, true, true, true, true, true, true, true, true, true, true, true, false, false, false, false] rfl rfl (any_of HT_.out (by kernel_rfl)) (fun _ _ _ h => h) (Or.inl ⟨by rfl, ?_⟩) ?_ ?_
                 rotate_left
                 ·
                  intro w'
                  go_simp
                  with_reducible rfl
                 rotate_left
                 ·
                  simp only [Act.put, List.setIfInBounds_toArray, List.set_cons_zero, List.set_cons_succ, i64_w, i32_w]
                  rfl
                 refine pure_ (i := 15) (N := some 141) (v := ?_) (a' := ?_) #[true, true, true, true, true, true, true, true, true, true, true, true, true, true, true, true, false, false, false] rfl rfl (any_of HT_.out (by kernel_rfl)) (fun _ _ _ h => h) (Or.inl ⟨by rfl, ?_⟩) ?_ ?_
                 rotate_left
                 ·
                  intro w'
                  go_simp
                  with_reducible rfl
                 rotate_left
                 ·
                  simp only [Act.put, List.setIfInBounds_toArray, List.set_cons_zero, List.set_cons_succ, i64_w, i32_w]
                  rfl
                 refine pure_ (i := 16) (N := some 142) (v := ?_) (a' := ?_) #[true, true, true, true, true, true, true, true, true, true, true, true, true, true, true, true, true, false, false] rfl rfl (any_of HT_.out (by kernel_rfl)) (fun _ _ _ h => h) (Or.inl ⟨by rfl, ?_⟩) ?_ ?_
                 rotate_left
                 ·
                  intro w'
                  go_simp
                  with_reducible rfl
                 rotate_left
                 ·
                  simp only [Act.put, List.setIfInBounds_toArray, List.set_cons_zero, List.set_cons_succ, i64_w, i32_w]
                  rfl
                 refine pure_ (i := 17) (N := some 27) (v := ?_) (a' := ?_) #[true, true, true, true, true, true, true, true, true, true, true, true, true, true, true, true, true, true, false] rfl rfl (any_of HT_.out (by kernel_rfl)) (fun _ _ _ h => h) (Or.inl ⟨by rfl, ?_⟩) ?_ ?_
                 rotate_left
                 ·
                  intro w'
                  go_simp
                  with_reducible rfl
                 rotate_left
                 ·
                  simp only [Act.put, List.setIfInBounds_toArray, List.set_cons_zero, List.set_cons_succ, i64_w, i32_w]
                  rfl
                 refine pure_ (i := 18) (N := some 28) (v := ?_) (a' := ?_) #[true, true, true, true, true, true, true, true, true, true, true, true, true, true, true, true, true, true, true] rfl rfl (any_of HT_.out (by kernel_rfl)) (fun _ _ _ h => h) (Or.inl ⟨by rfl, ?_⟩) ?_ ?_
                 rotate_left
                 ·
                  intro w'
                  go_simp
                  with_reducible rfl
                 rotate_left
                 ·
                  simp only [Act.put, List.setIfInBounds_toArray, List.set_cons_zero, List.set_cons_succ, i64_w, i32_w]
                  rfl
                 refine done_ (done_of HT_.out (by kernel_rfl)) ?_
                 try go_wp2
                 have n0_ := Aside0.mk (Kd.R_drew HO_10.out)
                 have n1_ := Aside0.mk (Kd.R_drew HO_11.out)
                 have n2_ := Aside0.mk (Kd.R_drew HO_12.out)
                 have n3_ := Aside0.mk (Kd.R_drew HO_13.out)
                 have n4_ := Aside0.mk (below_drew1 HB.out)
                 clear HO_10
                 clear HO_11
                 clear HO_12
                 clear HO_13
                 clear HB
                 have HO_10 := n0_
                 have HO_11 := n1_
                 have HO_12 := n2_
                 have HO_13 := n3_
                 have HB := n4_
                 clear n0_ n1_ n2_ n3_ n4_
                 have p544 : 0 ≤ (x14_1 : Int) := of_decide_eq_true (by first | (with_reducible assumption) | assumption)
                 have q544 : x14_1 < (y499.length : Int) := of_decide_eq_true (by first | (with_reducible assumption) | assumption)
                 obtain ⟨ad544, e544, hx544_0⟩ := Kd.at_int (Kd.R_reads' HO_11.out).2.2 x14_1 p544 q544
                 obtain rfl : ad516 = ad544 := (by injection e544)
                 replace p544 := eq_true p544
                 replace q544 := eq_true q544
                 have p545 : 0 ≤ (x14_1 : Int) := of_decide_eq_true (by first | (with_reducible assumption) | assumption)
                 have q545 : x14_1 < (y507.length : Int) := of_decide_eq_true (by first | (with_reducible assumption) | assumption)
                 obtain ⟨ad545, e545, hx545_0⟩ := Kd.at_int (Kd.R_reads' HO_12.out).2.2 x14_1 p545 q545
                 obtain rfl : ad540 = ad545 := (by injection e545)
                 replace p545 := eq_true p545
                 replace q545 := eq_true q545
                 have p546 : 0 ≤ (x14_1 : Int) := of_decide_eq_true (by first | (with_reducible assumption) | assumption)
                 have q546 : x14_1 < (y512.length : Int) := of_decide_eq_true (by first | (with_reducible assumption) | assumption)
                 obtain ⟨ad546, e546, hx546_0⟩ := Kd.at_int (Kd.R_reads' HO_13.out).2.2 x14_1 p546 q546
                 obtain rfl : ad541 = ad546 := (by injection e546)
                 replace p546 := eq_true p546
                 replace q546 := eq_true q546
                 refine start_ (n := 19) (S := fun w' => w'.cell? (ad516.add (x14_1).toNat) = some (.int .i64 (rd y499 x14_1)) ∧ w'.cell? (ad540.add (x14_1).toNat) = some (.int .i64 (rd y507 x14_1)) ∧ w'.cell? (ad541.add (x14_1).toNat) = some (.int .i64 (rd y512 x14_1))) (ds := []) #[false, false, false, false, false, false, false, false, false, false, false, false, false, false, false, false, false, false, false] (by kernel_rfl) rfl rfl ⟨hx544_0, hx545_0, hx546_0⟩ (fun hHeld => ?_); refine with_tabW payrolllaw29_BracketTaxes.tab17 payrolllaw29_BracketTaxes.bits17 (fun HT_ HW_ => ?_)
                 generalize w72.drew = w73 at HO_10 HO_11 HO_12 HO_13 HB hx544_0 hx545_0 hx546_0 hHeld ⊢
                 refine pure_ (i := 0) (N := some 144) (v := ?_) (a' := ?_) #[true, false, false, false, false, false, false, false, false, false, false, false, false, false, false, false, false, false, false] rfl rfl (any_of HT_.out (by kernel_rfl)) (fun _ _ _ h => h) (Or.inl ⟨by rfl, ?_⟩) ?_ ?_
                 rotate_left
                 ·
                  intro w'
                  go_simp
                  with_reducible rfl
                 rotate_left
                 ·
                  simp only [Act.put, List.setIfInBounds_toArray, List.set_cons_zero, List.set_cons_succ, i64_w, i32_w]
                  rfl
                 refine pure_ (i := 1) (N := some 145) (v := ?_) (a' := ?_) #[true, true, false, false, false, false, false, false, false, false, false, false, false, false, false, false, false, false, false] rfl rfl (any_of HT_.out (by kernel_rfl)) (fun _ _ _ h => h) (Or.inl ⟨by rfl, ?_⟩) ?_ ?_
                 rotate_left
                 ·
                  intro w'
                  go_simp
                  with_reducible rfl
                 rotate_left
                 ·
                  simp only [Act.put, List.setIfInBounds_toArray, List.set_cons_zero, List.set_cons_succ, i64_w, i32_w]
                  rfl
                 refine pure_ (i := 2) (N := some 146) (v := ?_) (a' := ?_) #[true, true, true, false, false, false, false, false, false, false, false, false, false, false, false, false, false, false, false] rfl rfl (any_of HT_.out (by kernel_rfl)) (fun _ _ _ h => h) (Or.inl ⟨by rfl, ?_⟩) ?_ ?_
                 rotate_left
                 ·
                  intro w'
                  go_simp
                  with_reducible rfl
                 rotate_left
                 ·
                  simp only [Act.put, List.setIfInBounds_toArray, List.set_cons_zero, List.set_cons_succ, i64_w, i32_w]
                  rfl
                 refine pure_ (i := 3) (N := some 147) (v := ?_) (a' := ?_) #[true, true, true, true, false, false, false, false, false, false, false, false, false, false, false, false, false, false, false] rfl rfl (any_of HT_.out (by kernel_rfl)) (fun _ _ _ h => h) (Or.inl ⟨by rfl, ?_⟩) ?_ ?_
                 rotate_left
                 ·
                  intro w'
                  go_simp
                  with_reducible rfl
                 rotate_left
                 ·
                  simp only [Act.put, List.setIfInBounds_toArray, List.set_cons_zero, List.set_cons_succ, i64_w, i32_w]
                  rfl
                 refine pure_ (i := 5) (N := some 149) (v := ?_) (a' := ?_) #[true, true, true, true, false, true, false, false, false, false, false, false, false, false, false, false, false, false, false] rfl rfl (any_of HT_.out (by kernel_rfl)) (fun _ _ _ h => h) (Or.inl ⟨by rfl, ?_⟩) ?_ ?_
                 rotate_left
                 ·
                  intro w'
                  go_simp
                  with_reducible rfl
                 rotate_left
                 ·
                  simp only [Act.put, List.setIfInBounds_toArray, List.set_cons_zero, List.set_cons_succ, i64_w, i32_w]
                  rfl
                 refine pure_ (i := 6) (N := some 150) (v := ?_) (a' := ?_) #[true, true, true, true, false, true, true, false, false, false, false, false, false, false, false, false, false, false, false] rfl rfl (any_of HT_.out (by kernel_rfl)) (fun _ _ _ h => h) (Or.inl ⟨by rfl, ?_⟩) ?_ ?_
                 rotate_left
                 ·
                  intro w'
                  go_simp
                  with_reducible rfl
                 rotate_left
                 ·
                  simp only [Act.put, List.setIfInBounds_toArray, List.set_cons_zero, List.set_cons_succ, i64_w, i32_w]
                  rfl
                 refine pure_ (i := 7) (N := some 151) (v := ?_) (a' := ?_) #[true, true, true, true, false, true, true, true, false, false, false, false, false, false, false, false, false, false, false] rfl rfl (any_of HT_.out (by kernel_rfl)) (fun _ _ _ h => h) (Or.inl ⟨by rfl, ?_⟩) ?_ ?_
                 rotate_left
                 ·
                  intro w'
                  go_simp
                  with_reducible rfl
                 rotate_left
                 ·
                  simp only [Act.put, List.setIfInBounds_toArray, List.set_cons_zero, List.set_cons_succ, i64_w, i32_w]
                  rfl
                 refine pure_ (i := 9) (N := some 153) (v := ?_) (a' := ?_) #[true, true, true, true, false, true, true, true, false, true, false, false, false, false, false, false, false, false, false] rfl rfl (any_of HT_.out (by kernel_rfl)) (fun _ _ _ h => h) (Or.inl ⟨by rfl, ?_⟩) ?_ ?_
                 rotate_left
                 ·
                  intro w'
                  go_simp
                  with_reducible rfl
                 rotate_left
                 ·
                  simp only [Act.put, List.setIfInBounds_toArray, List.set_cons_zero, List.set_cons_succ, i64_w, i32_w]
                  rfl
                 refine pure_ (i := 10) (N := some 154) (v := ?_) (a' := ?_) #[true, true, true, true, false, true, true, true, false, true, true, false, false, false, false, false, false, false, false] rfl rfl (any_of HT_.out (by kernel_rfl)) (fun _ _ _ h => h) (Or.inl ⟨by rfl, ?_⟩) ?_ ?_
                 rotate_left
                 ·
                  intro w'
                  go_simp
                  with_reducible rfl
                 rotate_left
                 ·
                  simp only [Act.put, List.setIfInBounds_toArray, List.set_cons_zero, List.set_cons_succ, i64_w, i32_w]
                  rfl
                 refine pure_ (i := 11) (N := some 155) (v := ?_) (a' := ?_) #[true, true, true, true, false, true, true, true, false, true, true, true, false, false, false, false, false, false, false] rfl rfl (any_of HT_.out (by kernel_rfl)) (fun _ _ _ h => h) (Or.inl ⟨by rfl, ?_⟩) ?_ ?_
                 rotate_left
                 ·
                  intro w'
                  go_simp
                  with_reducible rfl
                 rotate_left
                 ·
                  simp only [Act.put, List.setIfInBounds_toArray, List.set_cons_zero, List.set_cons_succ, i64_w, i32_w]
                  rfl
                 refine take_ (i := 4) (N := some 148) (v := ?_) (a' := ?_) #[true, true, true, true, true, true, true, true, false, true, true, true, false, false, false, false, false, false, false] rfl rfl (take_ofW HT_.out HW_.out (by kernel_rfl)) (fun _ _ _ h => h) (Or.inl ⟨by rfl, ?_⟩) hHeld ?_ ?_
                 rotate_left
                 ·
                  rintro w' ⟨s0, s1, s2⟩
                  go_simp
                  with_reducible rfl
                 rotate_left
                 ·
                  simp only [Act.put, List.setIfInBounds_toArray, List.set_cons_zero, List.set_cons_succ, i64_w, i32_w]
                  rfl
                 refine take_ (i := 8) (N := some 152) (v := ?_) (a' := ?_) #[true, true, true, true, true, true, true, true, true, true, true, true, false, false, false, false, false, false, false] rfl rfl (take_ofW HT_.out HW_.out (by kernel_rfl)) (fun _ _ _ h => h) (Or.inl ⟨by rfl, ?_⟩) hHeld ?_ ?_
                 rotate_left
                 ·
                  rintro w' ⟨s0, s1, s2⟩
                  go_simp
                  with_reducible rfl
                 rotate_left
                 ·
                  simp only [Act.put, List.setIfInBounds_toArray, List.set_cons_zero, List.set_cons_succ, i64_w, i32_w]
                  rfl
                 refine take_ (i := 12) (N := some 156) (v := ?_) (a' := ?_) #[true, true, true, true, true, true, true, true, true, true, true, true, true, false, false, false, false, false, false] rfl rfl (take_ofW HT_.out HW_.out (by kernel_rfl)) (fun _ _ _ h => h) (Or.inl ⟨by rfl, ?_⟩) hHeld ?_ ?_
                 rotate_left
                 ·
                  rintro w' ⟨s0, s1, s2⟩
                  go_simp
                  with_reducible rfl
                 rotate_left
                 ·
                  simp only [Act.put, List.setIfInBounds_toArray, List.set_cons_zero, List.set_cons_succ, i64_w, i32_w]
                  rfl
                 refine one_ (i := 13) (N := some 157) #[true, true, true, true, true, true, true, true, true, true, true, true, true, true, false, false, false, false, false] rfl rfl (one_of HT_.out (by kernel_rfl)) (by decide) (fun K hK => ?_)
                 refine goes_ Try.func36 (by kernel_rfl) rfl #[.slice Ao12 t493.length co12, .int .i64 (rd y499 x14_1), .int .i64 (rd y507 x14_1), .int .i64 (rd y512 x14_1)] (by rfl) rfl rfl (by (try simp only [List.map_toArray, List.map_cons, List.map_nil]); first | done | rfl | (simp only [List.length_drop, List.length_take]; rfl)) ?_
                 with_reducible refine (payrollref29_Tax.calls kj31 _ _ t493 (rd y499 x14_1) (rd y507 x14_1) (rd y512 x14_1) t547 t548 _ ?side1 ?side2 A56.out).mono ?_
                 (case side1 => repeat (first | exact (Kd.R_reads' HO_10.out).2.2 | (with_reducible refine Kd.C_alloc ?_ _) | (with_reducible refine Kd.C_drewN ?_ _) | (with_reducible refine Kd.C_drew ?_)))
                 (case side2 => exact (Kd.R_reads' HO_10.out).2.1)
                 rintro e w74 ⟨rfl, hb⟩
                 have HS0_ := (hb.cell (World.block_lt_of_cell? _ _ (hHeld.1))).trans (hHeld.1)
                 have HS1_ := (hb.cell (World.block_lt_of_cell? _ _ (hHeld.2.1))).trans (hHeld.2.1)
                 have HS2_ := (hb.cell (World.block_lt_of_cell? _ _ (hHeld.2.2))).trans (hHeld.2.2)
                 refine ⟨_, rfl, ?_⟩
                 have n0_ := Aside0.mk (Kd.R_below (by (with_reducible repeat (first | apply Kd.R_alloc | apply Kd.R_drewN | apply Kd.R_drew)); exact HO_10.out) hb)
                 have n1_ := Aside0.mk (Kd.R_below (by (with_reducible repeat (first | apply Kd.R_alloc | apply Kd.R_drewN | apply Kd.R_drew)); exact HO_11.out) hb)
                 have n2_ := Aside0.mk (Kd.R_below (by (with_reducible repeat (first | apply Kd.R_alloc | apply Kd.R_drewN | apply Kd.R_drew)); exact HO_12.out) hb)
                 have n3_ := Aside0.mk (Kd.R_below (by (with_reducible repeat (first | apply Kd.R_alloc | apply Kd.R_drewN | apply Kd.R_drew)); exact HO_13.out) hb)
                 have n4_ := Aside0.mk (below_step (by repeat (first | (with_reducible first | exact HB.out | apply below_alloc | apply pw_below_drewN | apply below_drew1) | exact HB.out)) hb)
                 clear HO_10
                 clear HO_11
                 clear HO_12
                 clear HO_13
                 clear HB
                 have HO_10 := n0_
                 have HO_11 := n1_
                 have HO_12 := n2_
                 have HO_13 := n3_
                 have HB := n4_
                 clear n0_ n1_ n2_ n3_ n4_
                 (try clear hb)
                 (try clear hb2)
                 (try clear hk)
                 (try clear hi)
                 refine hK.out _ _ ⟨HS0_, HS1_, HS2_⟩ (fun hHeld => ?_)
                 clear hK K
                 refine norm_ (a' := ?_) ?_ ?_
                 rotate_left
                 ·
                  show Act.put _ (some 157) _ = _
                  simp only [Act.put, List.setIfInBounds_toArray, List.set_cons_zero, List.set_cons_succ, i64_w, i32_w]
                  rfl
                 refine pure_ (i := 14) (N := some 143) (v := ?_) (a' := ?_) #[true, true, true, true, true, true, true, true, true, true, true, true, true, true, true, false, false, false, false] rfl rfl (any_of HT_.out (by kernel_rfl)) (fun _ _ _ h => h) (Or.inl ⟨by rfl, ?_⟩) ?_ ?_
                 rotate_left
                 ·
                  intro w'
                  go_simp
                  with_reducible rfl
                 rotate_left
                 ·
                  simp only [Act.put, List.setIfInBounds_toArray, List.set_cons_zero, List.set_cons_succ, i64_w, i32_w]
                  rfl
                 refine pure_ (i := 15) (N := some 158) (v := ?_) (a' := ?_) #[true, true, true, true, true, true, true, true, true, true, true, true, true, true, true, true, false, false, false] rfl rfl (any_of HT_.out (by kernel_rfl)) (fun _ _ _ h => h) (Or.inl ⟨by rfl, ?_⟩) ?_ ?_
                 rotate_left
                 ·
                  intro w'
                  go_simp
                  with_reducible rfl
                 rotate_left
                 ·
                  simp only [Act.put, List.setIfInBounds_toArray, List.set_cons_zero, List.set_cons_succ, i64_w, i32_w]
                  rfl
                 refine pure_ (i := 16) (N := some 159) (v := ?_) (a' := ?_) #[true, true, true, true, true, true, true, true, true, true, true, true, true, true, true, true, true, false, false] rfl rfl (any_of HT_.out (by kernel_rfl)) (fun _ _ _ h => h) (Or.inl ⟨by rfl, ?_⟩) ?_ ?_
                 rotate_left
                 ·
                  intro w'
                  go_simp
                  with_reducible rfl
                 rotate_left
                 ·
                  simp only [Act.put, List.setIfInBounds_toArray, List.set_cons_zero, List.set_cons_succ, i64_w, i32_w]
                  rfl
                 refine pure_ (i := 17) (N := some 29) (v := ?_) (a' := ?_) #[true, true, true, true, true, true, true, true, true, true, true, true, true, true, true, true, true, true, false] rfl rfl (any_of HT_.out (by kernel_rfl)) (fun _ _ _ h => h) (Or.inl ⟨by rfl, ?_⟩) ?_ ?_
                 rotate_left
                 ·
                  intro w'
                  go_simp
                  with_reducible rfl
                 rotate_left
                 ·
                  simp only [Act.put, List.setIfInBounds_toArray, List.set_cons_zero, List.set_cons_succ, i64_w, i32_w]
                  rfl
                 refine pure_ (i := 18) (N := some 30) (v := ?_) (a' := ?_) #[true, true, true, true, true, true, true, true, true, true, true, true, true, true, true, true, true, true, true] rfl rfl (any_of HT_.out (by kernel_rfl)) (fun _ _ _ h => h) (Or.inl ⟨by rfl, ?_⟩) ?_ ?_
                 rotate_left
                 ·
                  intro w'
                  go_simp
                  with_reducible rfl
                 rotate_left
                 ·
                  simp only [Act.put, List.setIfInBounds_toArray, List.set_cons_zero, List.set_cons_succ, i64_w, i32_w]
                  rfl
                 refine done_ (done_of HT_.out (by kernel_rfl)) ?_
                 try go_wp2
                 go_ret
                 exact ⟨by first | rfl | (simp [errW_none, errW_some] <;> rfl) | (simp [*, errW_none, errW_some] <;> rfl), by repeat (first | (with_reducible first | exact HB.out | apply below_alloc | apply pw_below_drewN | apply below_drew1) | exact HB.out)⟩
               ·
                rw [if_neg c59] at H
                have c59b0 : (t543 == t548) = false := beq_eq_false_iff_ne.mpr c59
                have c59b1 : (t543 != t548) = true := bne_iff_ne.mpr c59
                obtain rfl := Option.some.inj H
                have p533 : 0 ≤ (x14_1 : Int) := of_decide_eq_true (by first | (with_reducible assumption) | assumption)
                have q533 : x14_1 < (y499.length : Int) := of_decide_eq_true (by first | (with_reducible assumption) | assumption)
                obtain ⟨ad533, e533, hx533_0⟩ := Kd.at_int (Kd.R_reads' HO_11.out).2.2 x14_1 p533 q533
                obtain rfl : ad516 = ad533 := (by injection e533)
                replace p533 := eq_true p533
                replace q533 := eq_true q533
                try go_wp2_with (first | ((with_reducible refine gate_callee (f := 25) rfl ?_); refine goesL_ (some 114) rfl rfl Try.func25 (by kernel_rfl) rfl #[.slice Ao12 t493.length co12, .int .i64 (rd y499 x14_1)] rfl (by (try simp only [List.map_toArray, List.map_cons, List.map_nil]); first | done | rfl | (simp only [List.length_drop, List.length_take]; rfl)) ?_; (with_reducible refine (bracket_Marginal.calls kj31 _ _ t493 (rd y499 x14_1) t534 t535 _ ?side1 ?side2 A51.out).mono ?_); (case side1 => repeat (first | exact (Kd.R_reads' HO_10.out).2.2 | (with_reducible refine Kd.C_alloc ?_ _) | (with_reducible refine Kd.C_drewN ?_ _) | (with_reducible refine Kd.C_drew ?_))); (case side2 => exact (Kd.R_reads' HO_10.out).2.1); rintro e w75 ⟨rfl, hb⟩; refine ⟨_, rfl, ?_⟩; have n0_ := Aside0.mk (Kd.R_below (by (with_reducible repeat (first | apply Kd.R_alloc | apply Kd.R_drewN | apply Kd.R_drew)); exact HO_10.out) hb); have n1_ := Aside0.mk (Kd.R_below (by (with_reducible repeat (first | apply Kd.R_alloc | apply Kd.R_drewN | apply Kd.R_drew)); exact HO_11.out) hb); have n2_ := Aside0.mk (Kd.R_below (by (with_reducible repeat (first | apply Kd.R_alloc | apply Kd.R_drewN | apply Kd.R_drew)); exact HO_12.out) hb); have n3_ := Aside0.mk (Kd.R_below (by (with_reducible repeat (first | apply Kd.R_alloc | apply Kd.R_drewN | apply Kd.R_drew)); exact HO_13.out) hb); have n4_ := Aside0.mk (below_step (by repeat (first | (with_reducible first | exact HB.out | apply below_alloc | apply pw_below_drewN | apply below_drew1) | exact HB.out)) hb); clear HO_10; clear HO_11; clear HO_12; clear HO_13; clear HB; have HO_10 := n0_; have HO_11 := n1_; have HO_12 := n2_; have HO_13 := n3_; have HB := n4_; clear n0_ n1_ n2_ n3_ n4_; (try clear hb); (try clear hb2); (try clear hk); (try clear hi); have p536 : 0 ≤ (x14_1 : Int) := of_decide_eq_true (by first | (with_reducible assumption) | assumption); have q536 : x14_1 < (y499.length : Int) := of_decide_eq_true (by first | (with_reducible assumption) | assumption); obtain ⟨ad536, e536, hx536_0⟩ := Kd.at_int (Kd.R_reads' HO_11.out).2.2 x14_1 p536 q536; obtain rfl : ad516 = ad536 := (by injection e536); replace p536 := eq_true p536; replace q536 := eq_true q536) | ((with_reducible refine gate_callee (f := 35) rfl ?_); refine goesL_ (some 123) rfl rfl Try.func35 (by kernel_rfl) rfl #[.slice Ao12 t493.length co12, .int .i64 (rd y499 x14_1)] rfl (by (try simp only [List.map_toArray, List.map_cons, List.map_nil]); first | done | rfl | (simp only [List.length_drop, List.length_take]; rfl)) ?_; (with_reducible refine (payrollref29_Marginal.calls kj31 _ _ t493 (rd y499 x14_1) t537 t538 _ ?side1 ?side2 A52.out).mono ?_); (case side1 => repeat (first | exact (Kd.R_reads' HO_10.out).2.2 | (with_reducible refine Kd.C_alloc ?_ _) | (with_reducible refine Kd.C_drewN ?_ _) | (with_reducible refine Kd.C_drew ?_))); (case side2 => exact (Kd.R_reads' HO_10.out).2.1); rintro e w' ⟨rfl, ⟨nd, rfl⟩⟩; refine ⟨_, rfl, ?_⟩))
                (try (rw [drewN_self w75]; generalize hq_ : World.drewN w75 _ = w75; have n0_ : Aside0 (Kd.R k30 30 w75 w.heap.size (fun _ => True) (.slice Ao12 t493.length co12) t493) := ⟨by rw [← hq_]; exact (by (with_reducible repeat (first | apply Kd.R_alloc | apply Kd.R_drewN | apply Kd.R_drew)); exact HO_10.out)⟩; have n1_ : Aside0 (Kd.R (Kd.int .i64) 3 w75 w.heap.size (fun k_ => some k_ ≠ (v508 : Value).ownBlock ∧ some k_ ≠ (v513 : Value).ownBlock) (.slice (some ad516) y499.length co33) y499) := ⟨by rw [← hq_]; exact (by (with_reducible repeat (first | apply Kd.R_alloc | apply Kd.R_drewN | apply Kd.R_drew)); exact HO_11.out)⟩; have n2_ : Aside0 (Kd.R (Kd.int .i64) 3 w75 w.heap.size (fun k_ => some k_ ≠ (.slice (some ad516) y499.length co33 : Value).ownBlock ∧ some k_ ≠ (v513 : Value).ownBlock) v508 y507) := ⟨by rw [← hq_]; exact (by (with_reducible repeat (first | apply Kd.R_alloc | apply Kd.R_drewN | apply Kd.R_drew)); exact HO_12.out)⟩; have n3_ : Aside0 (Kd.R (Kd.int .i64) 3 w75 w.heap.size (fun k_ => some k_ ≠ (.slice (some ad516) y499.length co33 : Value).ownBlock ∧ some k_ ≠ (v508 : Value).ownBlock) v513 y512) := ⟨by rw [← hq_]; exact (by (with_reducible repeat (first | apply Kd.R_alloc | apply Kd.R_drewN | apply Kd.R_drew)); exact HO_13.out)⟩; have n4_ : Aside0 (Below w.heap.size w w75) := ⟨by rw [← hq_]; exact (by repeat (first | (with_reducible first | exact HB.out | apply below_alloc | apply pw_below_drewN | apply below_drew1) | exact HB.out))⟩; clear HO_10 HO_11 HO_12 HO_13 HB hq_; have HO_10 := n0_; have HO_11 := n1_; have HO_12 := n2_; have HO_13 := n3_; have HB := n4_; clear n0_ n1_ n2_ n3_ n4_))
                have n0_ := Aside0.mk (Kd.R_drew HO_10.out)
                have n1_ := Aside0.mk (Kd.R_drew HO_11.out)
                have n2_ := Aside0.mk (Kd.R_drew HO_12.out)
                have n3_ := Aside0.mk (Kd.R_drew HO_13.out)
                have n4_ := Aside0.mk (below_drew1 HB.out)
                clear HO_10
                clear HO_11
                clear HO_12
                clear HO_13
                clear HB
                have HO_10 := n0_
                have HO_11 := n1_
                have HO_12 := n2_
                have HO_13 := n3_
                have HB := n4_
                clear n0_ n1_ n2_ n3_ n4_
                have p539 : 0 ≤ (x14_1 : Int) := of_decide_eq_true (by first | (with_reducible assumption) | assumption)
                have q539 : x14_1 < (y499.length : Int) := of_decide_eq_true (by first | (with_reducible assumption) | assumption)
                obtain ⟨ad539, e539, hx539_0⟩ := Kd.at_int (Kd.R_reads' HO_11.out).2.2 x14_1 p539 q539
                obtain rfl : ad516 = ad539 := (by injection e539)
                replace p539 := eq_true p539
                replace q539 := eq_true q539
                obtain ⟨Ao77, co77, eo77⟩ := Kd.R_slice HO_12.out
                (first | subst eo77 | (injection eo77 with f1_ f2_ f3_; have f4_ := f1_.symm; have f5_ := f3_.symm; clear f1_ f2_ f3_; subst f4_; subst f5_))
                have p540 : 0 ≤ (x14_1 : Int) := of_decide_eq_true (by first | (with_reducible assumption) | assumption)
                have q540 : x14_1 < (y507.length : Int) := of_decide_eq_true (by first | (with_reducible assumption) | assumption)
                obtain ⟨ad540, e540, hx540_0⟩ := Kd.at_int (Kd.R_reads' HO_12.out).2.2 x14_1 p540 q540
                cases e540
                replace p540 := eq_true p540
                replace q540 := eq_true q540
                obtain ⟨Ao78, co78, eo78⟩ := Kd.R_slice HO_13.out
                (first | subst eo78 | (injection eo78 with f1_ f2_ f3_; have f4_ := f1_.symm; have f5_ := f3_.symm; clear f1_ f2_ f3_; subst f4_; subst f5_))
                have p541 : 0 ≤ (x14_1 : Int) := of_decide_eq_true (by first | (with_reducible assumption) | assumption)
                have q541 : x14_1 < (y512.length : Int) := of_decide_eq_true (by first | (with_reducible assumption) | assumption)
                obtain ⟨ad541, e541, hx541_0⟩ := Kd.at_int (Kd.R_reads' HO_13.out).2.2 x14_1 p541 q541
                cases e541
                replace p541 := eq_true p541
                replace q541 := eq_true q541
                refine start_ (n := 19) (S := fun w' => w'.cell? (ad516.add (x14_1).toNat) = some (.int .i64 (rd y499 x14_1)) ∧ w'.cell? (ad540.add (x14_1).toNat) = some (.int .i64 (rd y507 x14_1)) ∧ w'.cell? (ad541.add (x14_1).toNat) = some (.int .i64 (rd y512 x14_1))) (ds := []) #[false, false, false, false, false, false, false, false, false, false, false, false, false, false, false, false, false, false, false] (by kernel_rfl) rfl rfl ⟨hx539_0, hx540_0, hx541_0⟩ (fun hHeld => ?_); refine with_tabW payrolllaw29_BracketTaxes.tab16 payrolllaw29_BracketTaxes.bits16 (fun HT_ HW_ => ?_)
                generalize w75.drew = w76 at HO_10 HO_11 HO_12 HO_13 HB hx539_0 hx540_0 hx541_0 hHeld ⊢
                refine pure_ (i := 0) (N := some 127) (v := ?_) (a' := ?_) #[true, false, false, false, false, false, false, false, false, false, false, false, false, false, false, false, false, false, false] rfl rfl (any_of HT_.out (by kernel_rfl)) (fun _ _ _ h => h) (Or.inl ⟨by rfl, ?_⟩) ?_ ?_
                rotate_left
                ·
                 intro w'
                 go_simp
                 with_reducible rfl
                rotate_left
                ·
                 simp only [Act.put, List.setIfInBounds_toArray, List.set_cons_zero, List.set_cons_succ, i64_w, i32_w]
                 rfl
                refine pure_ (i := 1) (N := some 128) (v := ?_) (a' := ?_) #[true, true, false, false, false, false, false, false, false, false, false, false, false, false, false, false, false, false, false] rfl rfl (any_of HT_.out (by kernel_rfl)) (fun _ _ _ h => h) (Or.inl ⟨by rfl, ?_⟩) ?_ ?_
                rotate_left
                ·
                 intro w'
                 go_simp
                 with_reducible rfl
                rotate_left
                ·
                 simp only [Act.put, List.setIfInBounds_toArray, List.set_cons_zero, List.set_cons_succ, i64_w, i32_w]
                 rfl
                refine pure_ (i := 2) (N := some 129) (v := ?_) (a' := ?_) #[true, true, true, false, false, false, false, false, false, false, false, false, false, false, false, false, false, false, false] rfl rfl (any_of HT_.out (by kernel_rfl)) (fun _ _ _ h => h) (Or.inl ⟨by rfl, ?_⟩) ?_ ?_
                rotate_left
                ·
                 intro w'
                 go_simp
                 with_reducible rfl
                rotate_left
                ·
                 simp only [Act.put, List.setIfInBounds_toArray, List.set_cons_zero, List.set_cons_succ, i64_w, i32_w]
                 rfl
                refine pure_ (i := 3) (N := some 130) (v := ?_) (a' := ?_) #[true, true, true, true, false, false, false, false, false, false, false, false, false, false, false, false, false, false, false] rfl rfl (any_of HT_.out (by kernel_rfl)) (fun _ _ _ h => h) (Or.inl ⟨by rfl, ?_⟩) ?_ ?_
                rotate_left
                ·
                 intro w'
                 go_simp
                 with_reducible rfl
                rotate_left
                ·
                 simp only [Act.put, List.setIfInBounds_toArray, List.set_cons_zero, List.set_cons_succ, i64_w, i32_w]
                 rfl
                refine pure_ (i := 5) (N := some 132) (v := ?_) (a' := ?_) #[true, true, true, true, false, true, false, false, false, false, false, false, false, false, false, false, false, false, false] rfl rfl (any_of HT_.out (by kernel_rfl)) (fun _ _ _ h => h) (Or.inl ⟨by rfl, ?_⟩) ?_ ?_
                rotate_left
                ·
                 intro w'
                 go_simp
                 with_reducible rfl
                rotate_left
                ·
                 simp only [Act.put, List.setIfInBounds_toArray, List.set_cons_zero, List.set_cons_succ, i64_w, i32_w]
                 rfl
                refine pure_ (i := 6) (N := some 133) (v := ?_) (a' := ?_) #[true, true, true, true, false, true, true, false, false, false, false, false, false, false, false, false, false, false, false] rfl rfl (any_of HT_.out (by kernel_rfl)) (fun _ _ _ h => h) (Or.inl ⟨by rfl, ?_⟩) ?_ ?_
                rotate_left
                ·
                 intro w'
                 go_simp
                 with_reducible rfl
                rotate_left
                ·
                 simp only [Act.put, List.setIfInBounds_toArray, List.set_cons_zero, List.set_cons_succ, i64_w, i32_w]
                 rfl
                refine pure_ (i := 7) (N := some 134) (v := ?_) (a' := ?_) #[true, true, true, true, false, true, true, true, false, false, false, false, false, false, false, false, false, false, false] rfl rfl (any_of HT_.out (by kernel_rfl)) (fun _ _ _ h => h) (Or.inl ⟨by rfl, ?_⟩) ?_ ?_
                rotate_left
                ·
                 intro w'
                 go_simp
                 with_reducible rfl
                rotate_left
                ·
                 simp only [Act.put, List.setIfInBounds_toArray, List.set_cons_zero, List.set_cons_succ, i64_w, i32_w]
                 rfl
                refine pure_ (i := 9) (N := some 136) (v := ?_) (a' := ?_) #[true, true, true, true, false, true, true, true, false, true, false, false, false, false, false, false, false, false, false] rfl rfl (any_of HT_.out (by kernel_rfl)) (fun _ _ _ h => h) (Or.inl ⟨by rfl, ?_⟩) ?_ ?_
                rotate_left
                ·
                 intro w'
                 go_simp
                 with_reducible rfl
                rotate_left
                ·
                 simp only [Act.put, List.setIfInBounds_toArray, List.set_cons_zero, List.set_cons_succ, i64_w, i32_w]
                 rfl
                refine pure_ (i := 10) (N := some 137) (v := ?_) (a' := ?_) #[true, true, true, true, false, true, true, true, false, true, true, false, false, false, false, false, false, false, false] rfl rfl (any_of HT_.out (by kernel_rfl)) (fun _ _ _ h => h) (Or.inl ⟨by rfl, ?_⟩) ?_ ?_
                rotate_left
                ·
                 intro w'
                 go_simp
                 with_reducible rfl
                rotate_left
                ·
                 simp only [Act.put, List.setIfInBounds_toArray, List.set_cons_zero, List.set_cons_succ, i64_w, i32_w]
                 rfl
                refine pure_ (i := 11) (N := some 138) (v := ?_) (a' := ?_) #[true, true, true, true, false, true, true, true, false, true, true, true, false, false, false, false, false, false, false] rfl rfl (any_of HT_.out (by kernel_rfl)) (fun _ _ _ h => h) (Or.inl ⟨by rfl, ?_⟩) ?_ ?_
                rotate_left
                ·
                 intro w'
                 go_simp
                 with_reducible rfl
                rotate_left
                ·
                 simp only [Act.put, List.setIfInBounds_toArray, List.set_cons_zero, List.set_cons_succ, i64_w, i32_w]
                 rfl
                refine take_ (i := 4) (N := some 131) (v := ?_) (a' := ?_) #[true, true, true, true, true, true, true, true, false, true, true, true, false, false, false, false, false, false, false] rfl rfl (take_ofW HT_.out HW_.out (by kernel_rfl)) (fun _ _ _ h => h) (Or.inl ⟨by rfl, ?_⟩) hHeld ?_ ?_
                rotate_left
                ·
                 rintro w' ⟨s0, s1, s2⟩
                 go_simp
                 with_reducible rfl
                rotate_left
                ·
                 simp only [Act.put, List.setIfInBounds_toArray, List.set_cons_zero, List.set_cons_succ, i64_w, i32_w]
                 rfl
                refine take_ (i := 8) (N := some 135) (v := ?_) (a' := ?_) #[true, true, true, true, true, true, true, true, true, true, true, true, false, false, false, false, false, false, false] rfl rfl (take_ofW HT_.out HW_.out (by kernel_rfl)) (fun _ _ _ h => h) (Or.inl ⟨by rfl, ?_⟩) hHeld ?_ ?_
                rotate_left
                ·
                 rintro w' ⟨s0, s1, s2⟩
                 go_simp
                 with_reducible rfl
                rotate_left
                ·
                 simp only [Act.put, List.setIfInBounds_toArray, List.set_cons_zero, List.set_cons_succ, i64_w, i32_w]
                 rfl
                refine take_ (i := 12) (N := some 139) (v := ?_) (a' := ?_) #[true, true, true, true, true, true, true, true, true, true, true, true, true, false, false, false, false, false, false] rfl rfl (take_ofW HT_.out HW_.out (by kernel_rfl)) (fun _ _ _ h => h) (Or.inl ⟨by rfl, ?_⟩) hHeld ?_ ?_
                rotate_left
                ·
                 rintro w' ⟨s0, s1, s2⟩
                 go_simp
                 with_reducible rfl
                rotate_left
                ·
                 simp only [Act.put, List.setIfInBounds_toArray, List.set_cons_zero, List.set_cons_succ, i64_w, i32_w]
                 rfl
                refine one_ (i := 13) (N := some 140) #[true, true, true, true, true, true, true, true, true, true, true, true, true, true, false, false, false, false, false] rfl rfl (one_of HT_.out (by kernel_rfl)) (by decide) (fun K hK => ?_)
                refine goes_ Try.func32 (by kernel_rfl) rfl #[.slice Ao12 t493.length co12, .int .i64 (rd y499 x14_1), .int .i64 (rd y507 x14_1), .int .i64 (rd y512 x14_1)] (by rfl) rfl rfl (by (try simp only [List.map_toArray, List.map_cons, List.map_nil]); first | done | rfl | (simp only [List.length_drop, List.length_take]; rfl)) ?_
                with_reducible refine (bracket_Tax.calls kj31 _ _ t493 (rd y499 x14_1) (rd y507 x14_1) (rd y512 x14_1) t542 t543 _ ?side1 ?side2 A55.out).mono ?_
                (case side1 => repeat (first | exact (Kd.R_reads' HO_10.out).2.2 | (with_reducible refine Kd.C_alloc ?_ _) | (with_reducible refine Kd.C_drewN ?_ _) | (with_reducible refine Kd.C_drew ?_)))
                (case side2 => exact (Kd.R_reads' HO_10.out).2.1)
                rintro e w79 ⟨rfl, hb⟩
                have HS0_ := (hb.cell (World.block_lt_of_cell? _ _ (hHeld.1))).trans (hHeld.1)
                have HS1_ := (hb.cell (World.block_lt_of_cell? _ _ (hHeld.2.1))).trans (hHeld.2.1)
                have HS2_ := (hb.cell (World.block_lt_of_cell? _ _ (hHeld.2.2))).trans (hHeld.2.2)
                refine ⟨_, rfl, ?_⟩
                have n0_ := Aside0.mk (Kd.R_below (by (with_reducible repeat (first | apply Kd.R_alloc | apply Kd.R_drewN | apply Kd.R_drew)); exact HO_10.out) hb)
                have n1_ := Aside0.mk (Kd.R_below (by (with_reducible repeat (first | apply Kd.R_alloc | apply Kd.R_drewN | apply Kd.R_drew)); exact HO_11.out) hb)
                have n2_ := Aside0.mk (Kd.R_below (by (with_reducible repeat (first | apply Kd.R_alloc | apply Kd.R_drewN | apply Kd.R_drew)); exact HO_12.out) hb)
                have n3_ := Aside0.mk (Kd.R_below (by (with_reducible repeat (first | apply Kd.R_alloc | apply Kd.R_drewN | apply Kd.R_drew)); exact HO_13.out) hb)
                have n4_ := Aside0.mk (below_step (by repeat (first | (with_reducible first | exact HB.out | apply below_alloc | apply pw_below_drewN | apply below_drew1) | exact HB.out)) hb)
                clear HO_10
                clear HO_11
                clear HO_12
                clear HO_13
                clear HB
                have HO_10 := n0_
                have HO_11 := n1_
                have HO_12 := n2_
                have HO_13 := n3_
                have HB := n4_
                clear n0_ n1_ n2_ n3_ n4_
                (try clear hb)
                (try clear hb2)
                (try clear hk)
                (try clear hi)
                refine hK.out _ _ ⟨HS0_, HS1_, HS2_⟩ (fun hHeld => ?_)
                clear hK K
                refine norm_ (a' := ?_) ?_ ?_
                rotate_left
                ·
                 show Act.put _ (some 140) _ = _
                 simp only [Act.put, List.setIfInBounds_toArray, List.set_cons_zero, List.set_cons_succ, i64_w, i32_w]
                 rfl
                refine pure_ (i := 14) (N := some 126) (v := ?_) (a' := ?_) #[true, true, true, true, true, true, true, true, true, true, true, true, true, true, true, false, false, false, false] rfl rfl (any_of HT_.out (by kernel_rfl)) (fun _ _ _ h => h) (Or.inl ⟨by rfl, ?_⟩) ?_ ?_
                rotate_left
                ·
                 intro w'
                 go_simp
                 with_reducible rfl
                rotate_left
                ·
                 simp only [Act.put, List.setIfInBounds_toArray, List.set_cons_zero, List.set_cons_succ, i64_w, i32_w]
                 rfl
                refine pure_ (i := 15) (N := some 141) (v := ?_) (a' := ?_) #[true, true, true, true, true, true, true, true, true, true, true, true, true, true, true, true, false, false, false] rfl rfl (any_of HT_.out (by kernel_rfl)) (fun _ _ _ h => h) (Or.inl ⟨by rfl, ?_⟩) ?_ ?_
                rotate_left
                ·
                 intro w'
                 go_simp
                 with_reducible rfl
                rotate_left
                ·
                 simp only [Act.put, List.setIfInBounds_toArray, List.set_cons_zero, List.set_cons_succ, i64_w, i32_w]
                 rfl
                refine pure_ (i := 16) (N := some 142) (v := ?_) (a' := ?_) #[true, true, true, true, true, true, true, true, true, true, true, true, true, true, true, true, true, false, false] rfl rfl (any_of HT_.out (by kernel_rfl)) (fun _ _ _ h => h) (Or.inl ⟨by rfl, ?_⟩) ?_ ?_
                rotate_left
                ·
                 intro w'
                 go_simp
                 with_reducible rfl
                rotate_left
                ·
                 simp only [Act.put, List.setIfInBounds_toArray, List.set_cons_zero, List.set_cons_succ, i64_w, i32_w]
                 rfl
                refine pure_ (i := 17) (N := some 27) (v := ?_) (a' := ?_) #[true, true, true, true, true, true, true, true, true, true, true, true, true, true, true, true, true, true, false] rfl rfl (any_of HT_.out (by kernel_rfl)) (fun _ _ _ h => h) (Or.inl ⟨by rfl, ?_⟩) ?_ ?_
                rotate_left
                ·
                 intro w'
                 go_simp
                 with_reducible rfl
                rotate_left
                ·
                 simp only [Act.put, List.setIfInBounds_toArray, List.set_cons_zero, List.set_cons_succ, i64_w, i32_w]
                 rfl
                refine pure_ (i := 18) (N := some 28) (v := ?_) (a' := ?_) #[true, true, true, true, true, true, true, true, true, true, true, true, true, true, true, true, true, true, true] rfl rfl (any_of HT_.out (by kernel_rfl)) (fun _ _ _ h => h) (Or.inl ⟨by rfl, ?_⟩) ?_ ?_
                rotate_left
                ·
                 intro w'
                 go_simp
                 with_reducible rfl
                rotate_left
                ·
                 simp only [Act.put, List.setIfInBounds_toArray, List.set_cons_zero, List.set_cons_succ, i64_w, i32_w]
                 rfl
                refine done_ (done_of HT_.out (by kernel_rfl)) ?_
                try go_wp2
                have n0_ := Aside0.mk (Kd.R_drew HO_10.out)
                have n1_ := Aside0.mk (Kd.R_drew HO_11.out)
                have n2_ := Aside0.mk (Kd.R_drew HO_12.out)
                have n3_ := Aside0.mk (Kd.R_drew HO_13.out)
                have n4_ := Aside0.mk (below_drew1 HB.out)
                clear HO_10
                clear HO_11
                clear HO_12
                clear HO_13
                clear HB
                have HO_10 := n0_
                have HO_11 := n1_
                have HO_12 := n2_
                have HO_13 := n3_
                have HB := n4_
                clear n0_ n1_ n2_ n3_ n4_
                have p544 : 0 ≤ (x14_1 : Int) := of_decide_eq_true (by first | (with_reducible assumption) | assumption)
                have q544 : x14_1 < (y499.length : Int) := of_decide_eq_true (by first | (with_reducible assumption) | assumption)
                obtain ⟨ad544, e544, hx544_0⟩ := Kd.at_int (Kd.R_reads' HO_11.out).2.2 x14_1 p544 q544
                obtain rfl : ad516 = ad544 := (by injection e544)
                replace p544 := eq_true p544
                replace q544 := eq_true q544
                have p545 : 0 ≤ (x14_1 : Int) := of_decide_eq_true (by first | (with_reducible assumption) | assumption)
                have q545 : x14_1 < (y507.length : Int) := of_decide_eq_true (by first | (with_reducible assumption) | assumption)
                obtain ⟨ad545, e545, hx545_0⟩ := Kd.at_int (Kd.R_reads' HO_12.out).2.2 x14_1 p545 q545
                obtain rfl : ad540 = ad545 := (by injection e545)
                replace p545 := eq_true p545
                replace q545 := eq_true q545
                have p546 : 0 ≤ (x14_1 : Int) := of_decide_eq_true (by first | (with_reducible assumption) | assumption)
                have q546 : x14_1 < (y512.length : Int) := of_decide_eq_true (by first | (with_reducible assumption) | assumption)
                obtain ⟨ad546, e546, hx546_0⟩ := Kd.at_int (Kd.R_reads' HO_13.out).2.2 x14_1 p546 q546
                obtain rfl : ad541 = ad546 := (by injection e546)
                replace p546 := eq_true p546
                replace q546 := eq_true q546
                refine start_ (n := 19) (S := fun w' => w'.cell? (ad516.add (x14_1).toNat) = some (.int .i64 (rd y499 x14_1)) ∧ w'.cell? (ad540.add (x14_1).toNat) = some (.int .i64 (rd y507 x14_1)) ∧ w'.cell? (ad541.add (x14_1).toNat) = some (.int .i64 (rd y512 x14_1))) (ds := []) #[false, false, false, false, false, false, false, false, false, false, false, false, false, false, false, false, false, false, false] (by kernel_rfl) rfl rfl ⟨hx544_0, hx545_0, hx546_0⟩ (fun hHeld => ?_); refine with_tabW payrolllaw29_BracketTaxes.tab17 payrolllaw29_BracketTaxes.bits17 (fun HT_ HW_ => ?_)
                generalize w79.drew = w80 at HO_10 HO_11 HO_12 HO_13 HB hx544_0 hx545_0 hx546_0 hHeld ⊢
                refine pure_ (i := 0) (N := some 144) (v := ?_) (a' := ?_) #[true, false, false, false, false, false, false, false, false, false, false, false, false, false, false, false, false, false, false] rfl rfl (any_of HT_.out (by kernel_rfl)) (fun _ _ _ h => h) (Or.inl ⟨by rfl, ?_⟩) ?_ ?_
                rotate_left
                ·
                 intro w'
                 go_simp
                 with_reducible rfl
                rotate_left
                ·
                 simp only [Act.put, List.setIfInBounds_toArray, List.set_cons_zero, List.set_cons_succ, i64_w, i32_w]
                 rfl
                refine pure_ (i := 1) (N := some 145) (v := ?_) (a' := ?_) #[true, true, false, false, false, false, false, false, false, false, false, false, false, false, false, false, false, false, false] rfl rfl (any_of HT_.out (by kernel_rfl)) (fun _ _ _ h => h) (Or.inl ⟨by rfl, ?_⟩) ?_ ?_
                rotate_left
                ·
                 intro w'
                 go_simp
                 with_reducible rfl
                rotate_left
                ·
                 simp only [Act.put, List.setIfInBounds_toArray, List.set_cons_zero, List.set_cons_succ, i64_w, i32_w]
                 rfl
                refine pure_ (i := 2) (N := some 146) (v := ?_) (a' := ?_) #[true, true, true, false, false, false, false, false, false, false, false, false, false, false, false, false, false, false, false] rfl rfl (any_of HT_.out (by kernel_rfl)) (fun _ _ _ h => h) (Or.inl ⟨by rfl, ?_⟩) ?_ ?_
                rotate_left
                ·
                 intro w'
                 go_simp
                 with_reducible rfl
                rotate_left
                ·
                 simp only [Act.put, List.setIfInBounds_toArray, List.set_cons_zero, List.set_cons_succ, i64_w, i32_w]
                 rfl
                refine pure_ (i := 3) (N := some 147) (v := ?_) (a' := ?_) #[true, true, true, true, false, false, false, false, false, false, false, false, false, false, false, false, false, false, false] rfl rfl (any_of HT_.out (by kernel_rfl)) (fun _ _ _ h => h) (Or.inl ⟨by rfl, ?_⟩) ?_ ?_
                rotate_left
                ·
                 intro w'
                 go_simp
                 with_reducible rfl
                rotate_left
                ·
                 simp only [Act.put, List.setIfInBounds_toArray, List.set_cons_zero, List.set_cons_succ, i64_w, i32_w]
                 rfl
                refine pure_ (i := 5) (N := some 149) (v := ?_) (a' := ?_) #[true, true, true, true, false, true, false, false, false, false, false, false, false, false, false, false, false, false, false] rfl rfl (any_of HT_.out (by kernel_rfl)) (fun _ _ _ h => h) (Or.inl ⟨by rfl, ?_⟩) ?_ ?_
                rotate_left
                ·
                 intro w'
                 go_simp
                 with_reducible rfl
                rotate_left
                ·
                 simp only [Act.put, List.setIfInBounds_toArray, List.set_cons_zero, List.set_cons_succ, i64_w, i32_w]
                 rfl
                refine pure_ (i := 6) (N := some 150) (v := ?_) (a' := ?_) #[true, true, true, true, false, true, true, false, false, false, false, false, false, false, false, false, false, false, false] rfl rfl (any_of HT_.out (by kernel_rfl)) (fun _ _ _ h => h) (Or.inl ⟨by rfl, ?_⟩) ?_ ?_
                rotate_left
                ·
                 intro w'
                 go_simp
                 with_reducible rfl
                rotate_left
                ·
                 simp only [Act.put, List.setIfInBounds_toArray, List.set_cons_zero, List.set_cons_succ, i64_w, i32_w]
                 rfl
                refine pure_ (i := 7) (N := some 151) (v := ?_) (a' := ?_) #[true, true, true, true, false, true, true, true, false, false, false, false, false, false, false, false, false, false, false] rfl rfl (any_of HT_.out (by kernel_rfl)) (fun _ _ _ h => h) (Or.inl ⟨by rfl, ?_⟩) ?_ ?_
                rotate_left
                ·
                 intro w'
                 go_simp
                 with_reducible rfl
                rotate_left
                ·
                 simp only [Act.put, List.setIfInBounds_toArray, List.set_cons_zero, List.set_cons_succ, i64_w, i32_w]
                 rfl
                refine pure_ (i := 9) (N := some 153) (v := ?_) (a' := ?_) #[true, true, true, true, false, true, true, true, false, true, false, false, false, false, false, false, false, false, false] rfl rfl (any_of HT_.out (by kernel_rfl)) (fun _ _ _ h => h) (Or.inl ⟨by rfl, ?_⟩) ?_ ?_
                rotate_left
                ·
                 intro w'
                 go_simp
                 with_reducible rfl
                rotate_left
                ·
                 simp only [Act.put, List.setIfInBounds_toArray, List.set_cons_zero, List.set_cons_succ, i64_w, i32_w]
                 rfl
                refine pure_ (i := 10) (N := some 154) (v := ?_) (a' := ?_) #[true, true, true, true, false, true, true, true, false, true, true, false, false, false, false, false, false, false, false] rfl rfl (any_of HT_.out (by kernel_rfl)) (fun _ _ _ h => h) (Or.inl ⟨by rfl, ?_⟩) ?_ ?_
                rotate_left
                ·
                 intro w'
                 go_simp
                 with_reducible rfl
                rotate_left
                ·
                 simp only [Act.put, List.setIfInBounds_toArray, List.set_cons_zero, List.set_cons_succ, i64_w, i32_w]
                 rfl
                refine pure_ (i := 11) (N := some 155) (v := ?_) (a' := ?_) #[true, true, true, true, false, true, true, true, false, true, true, true, false, false, false, false, false, false, false] rfl rfl (any_of HT_.out (by kernel_rfl)) (fun _ _ _ h => h) (Or.inl ⟨by rfl, ?_⟩) ?_ ?_
                rotate_left
                ·
                 intro w'
                 go_simp
                 with_reducible rfl
                rotate_left
                ·
                 simp only [Act.put, List.setIfInBounds_toArray, List.set_cons_zero, List.set_cons_succ, i64_w, i32_w]
                 rfl
                refine take_ (i := 4) (N := some 148) (v := ?_) (a' := ?_) #[true, true, true, true, true, true, true, true, false, true, true, true, false, false, false, false, false, false, false] rfl rfl (take_ofW HT_.out HW_.out (by kernel_rfl)) (fun _ _ _ h => h) (Or.inl ⟨by rfl, ?_⟩) hHeld ?_ ?_
                rotate_left
                ·
                 rintro w' ⟨s0, s1, s2⟩
                 go_simp
                 with_reducible rfl
                rotate_left
                ·
                 simp only [Act.put, List.setIfInBounds_toArray, List.set_cons_zero, List.set_cons_succ, i64_w, i32_w]
                 rfl
                refine take_ (i := 8) (N := some 152) (v := ?_) (a' := ?_) #[true, true, true, true, true, true, true, true, true, true, true, true, false, false, false, false, false, false, false] rfl rfl (take_ofW HT_.out HW_.out (by kernel_rfl)) (fun _ _ _ h => h) (Or.inl ⟨by rfl, ?_⟩) hHeld ?_ ?_
                rotate_left
                ·
                 rintro w' ⟨s0, s1, s2⟩
                 go_simp
                 with_reducible rfl
                rotate_left
                ·
                 simp only [Act.put, List.setIfInBounds_toArray, List.set_cons_zero, List.set_cons_succ, i64_w, i32_w]
                 rfl
                refine take_ (i := 12) (N := some 156) (v := ?_) (a' := ?_) #[true, true, true, true, true, true, true, true, true, true, true, true, true, false, false, false, false, false, false] rfl rfl (take_ofW HT_.out HW_.out (by kernel_rfl)) (fun _ _ _ h => h) (Or.inl ⟨by rfl, ?_⟩) hHeld ?_ ?_
                rotate_left
                ·
                 rintro w' ⟨s0, s1, s2⟩
                 go_simp
                 with_reducible rfl
                rotate_left
                ·
                 simp only [Act.put, List.setIfInBounds_toArray, List.set_cons_zero, List.set_cons_succ, i64_w, i32_w]
                 rfl
                refine one_ (i := 13) (N := some 157) #[true, true, true, true, true, true, true, true, true, true, true, true, true, true, false, false, false, false, false] rfl rfl (one_of HT_.out (by kernel_rfl)) (by decide) (fun K hK => ?_)
                refine goes_ Try.func36 (by kernel_rfl) rfl #[.slice Ao12 t493.length co12, .int .i64 (rd y499 x14_1), .int .i64 (rd y507 x14_1), .int .i64 (rd y512 x14_1)] (by rfl) rfl rfl (by (try simp only [List.map_toArray, List.map_cons, List.map_nil]); first | done | rfl | (simp only [List.length_drop, List.length_take]; rfl)) ?_
                with_reducible refine (payrollref29_Tax.calls kj31 _ _ t493 (rd y499 x14_1) (rd y507 x14_1) (rd y512 x14_1) t547 t548 _ ?side1 ?side2 A56.out).mono ?_
                (case side1 => repeat (first | exact (Kd.R_reads' HO_10.out).2.2 | (with_reducible refine Kd.C_alloc ?_ _) | (with_reducible refine Kd.C_drewN ?_ _) | (with_reducible refine Kd.C_drew ?_)))
                (case side2 => exact (Kd.R_reads' HO_10.out).2.1)
                rintro e w81 ⟨rfl, hb⟩
                have HS0_ := (hb.cell (World.block_lt_of_cell? _ _ (hHeld.1))).trans (hHeld.1)
                have HS1_ := (hb.cell (World.block_lt_of_cell? _ _ (hHeld.2.1))).trans (hHeld.2.1)
                have HS2_ := (hb.cell (World.block_lt_of_cell? _ _ (hHeld.2.2))).trans (hHeld.2.2)
                refine ⟨_, rfl, ?_⟩
                have n0_ := Aside0.mk (Kd.R_below (by (with_reducible repeat (first | apply Kd.R_alloc | apply Kd.R_drewN | apply Kd.R_drew)); exact HO_10.out) hb)
                have n1_ := Aside0.mk (Kd.R_below (by (with_reducible repeat (first | apply Kd.R_alloc | apply Kd.R_drewN | apply Kd.R_drew)); exact HO_11.out) hb)
                have n2_ := Aside0.mk (Kd.R_below (by (with_reducible repeat (first | apply Kd.R_alloc | apply Kd.R_drewN | apply Kd.R_drew)); exact HO_12.out) hb)
                have n3_ := Aside0.mk (Kd.R_below (by (with_reducible repeat (first | apply Kd.R_alloc | apply Kd.R_drewN | apply Kd.R_drew)); exact HO_13.out) hb)
                have n4_ := Aside0.mk (below_step (by repeat (first | (with_reducible first | exact HB.out | apply below_alloc | apply pw_below_drewN | apply below_drew1) | exact HB.out)) hb)
                clear HO_10
                clear HO_11
                clear HO_12
                clear HO_13
                clear HB
                have HO_10 := n0_
                have HO_11 := n1_
                have HO_12 := n2_
                have HO_13 := n3_
                have HB := n4_
                clear n0_ n1_ n2_ n3_ n4_
                (try clear hb)
                (try clear hb2)
                (try clear hk)
                (try clear hi)
                refine hK.out _ _ ⟨HS0_, HS1_, HS2_⟩ (fun hHeld => ?_)
                clear hK K
                refine norm_ (a' := ?_) ?_ ?_
                rotate_left
                ·
                 show Act.put _ (some 157) _ = _
                 simp only [Act.put, List.setIfInBounds_toArray, List.set_cons_zero, List.set_cons_succ, i64_w, i32_w]
                 rfl
                refine pure_ (i := 14) (N := some 143) (v := ?_) (a' := ?_) #[true, true, true, true, true, true, true, true, true, true, true, true, true, true, true, false, false, false, false] rfl rfl (any_of HT_.out (by kernel_rfl)) (fun _ _ _ h => h) (Or.inl ⟨by rfl, ?_⟩) ?_ ?_
                rotate_left
                ·
                 intro w'
                 go_simp
                 with_reducible rfl
                rotate_left
                ·
                 simp only [Act.put, List.setIfInBounds_toArray, List.set_cons_zero, List.set_cons_succ, i64_w, i32_w]
                 rfl
                refine pure_ (i := 15) (N := some 158) (v := ?_) (a' := ?_) #[true, true, true, true, true, true, true, true, true, true, true, true, true, true, true, true, false, false, false] rfl rfl (any_of HT_.out (by kernel_rfl)) (fun _ _ _ h => h) (Or.inl ⟨by rfl, ?_⟩) ?_ ?_
                rotate_left
                ·
                 intro w'
                 go_simp
                 with_reducible rfl
                rotate_left
                ·
                 simp only [Act.put, List.setIfInBounds_toArray, List.set_cons_zero, List.set_cons_succ, i64_w, i32_w]
                 rfl
                refine pure_ (i := 16) (N := some 159) (v := ?_) (a' := ?_) #[true, true, true, true, true, true, true, true, true, true, true, true, true, true, true, true, true, false, false] rfl rfl (any_of HT_.out (by kernel_rfl)) (fun _ _ _ h => h) (Or.inl ⟨by rfl, ?_⟩) ?_ ?_
                rotate_left
                ·
                 intro w'
                 go_simp
                 with_reducible rfl
                rotate_left
                ·
                 simp only [Act.put, List.setIfInBounds_toArray, List.set_cons_zero, List.set_cons_succ, i64_w, i32_w]
                 rfl
                refine pure_ (i := 17) (N := some 29) (v := ?_) (a' := ?_) #[true, true, true, true, true, true, true, true, true, true, true, true, true, true, true, true, true, true, false] rfl rfl (any_of HT_.out (by kernel_rfl)) (fun _ _ _ h => h) (Or.inl ⟨by rfl, ?_⟩) ?_ ?_
                rotate_left
                ·
                 intro w'
                 go_simp
                 with_reducible rfl
                rotate_left
                ·
                 simp only [Act.put, List.setIfInBounds_toArray, List.set_cons_zero, List.set_cons_succ, i64_w, i32_w]
                 rfl
                refine pure_ (i := 18) (N := some 30) (v := ?_) (a' := ?_) #[true, true, true, true, true, true, true, true, true, true, true, true, true, true, true, true, true, true, true] rfl rfl (any_of HT_.out (by kernel_rfl)) (fun _ _ _ h => h) (Or.inl ⟨by rfl, ?_⟩) ?_ ?_
                rotate_left
                ·
                 intro w'
                 go_simp
                 with_reducible rfl
                rotate_left
                ·
                 simp only [Act.put, List.setIfInBounds_toArray, List.set_cons_zero, List.set_cons_succ, i64_w, i32_w]
                 rfl
                refine done_ (done_of HT_.out (by kernel_rfl)) ?_
                try go_wp2
                go_ret
                exact ⟨by first | rfl | (simp [errW_none, errW_some] <;> rfl) | (simp [*, errW_none, errW_some] <;> rfl), by repeat (first | (with_reducible first | exact HB.out | apply below_alloc | apply pw_below_drewN | apply below_drew1) | exact HB.out)⟩
              ·
               rw [if_neg c58] at H
               have c58b0 : (t534 == t537) = false := beq_eq_false_iff_ne.mpr c58
               have c58b1 : (t534 != t537) = true := bne_iff_ne.mpr c58
               obtain rfl := Option.some.inj H
               have p533 : 0 ≤ (x14_1 : Int) := of_decide_eq_true (by first | (with_reducible assumption) | assumption)
               have q533 : x14_1 < (y499.length : Int) := of_decide_eq_true (by first | (with_reducible assumption) | assumption)
               obtain ⟨ad533, e533, hx533_0⟩ := Kd.at_int (Kd.R_reads' HO_11.out).2.2 x14_1 p533 q533
               obtain rfl : ad516 = ad533 := (by injection e533)
               replace p533 := eq_true p533
               replace q533 := eq_true q533
               try go_wp2_with (first | ((with_reducible refine gate_callee (f := 25) rfl ?_); refine goesL_ (some 114) rfl rfl Try.func25 (by kernel_rfl) rfl #[.slice Ao12 t493.length co12, .int .i64 (rd y499 x14_1)] rfl (by (try simp only [List.map_toArray, List.map_cons, List.map_nil]); first | done | rfl | (simp only [List.length_drop, List.length_take]; rfl)) ?_; (with_reducible refine (bracket_Marginal.calls kj31 _ _ t493 (rd y499 x14_1) t534 t535 _ ?side1 ?side2 A51.out).mono ?_); (case side1 => repeat (first | exact (Kd.R_reads' HO_10.out).2.2 | (with_reducible refine Kd.C_alloc ?_ _) | (with_reducible refine Kd.C_drewN ?_ _) | (with_reducible refine Kd.C_drew ?_))); (case side2 => exact (Kd.R_reads' HO_10.out).2.1); rintro e w82 ⟨rfl, hb⟩; refine ⟨_, rfl, ?_⟩; have n0_ := Aside0.mk (Kd.R_below (by (with_reducible repeat (first | apply Kd.R_alloc | apply Kd.R_drewN | apply Kd.R_drew)); exact HO_10.out) hb); have n1_ := Aside0.mk (Kd.R_below (by (with_reducible repeat (first | apply Kd.R_alloc | apply Kd.R_drewN | apply Kd.R_drew)); exact HO_11.out) hb); have n2_ := Aside0.mk (Kd.R_below (by (with_reducible repeat (first | apply Kd.R_alloc | apply Kd.R_drewN | apply Kd.R_drew)); exact HO_12.out) hb); have n3_ := Aside0.mk (Kd.R_below (by (with_reducible repeat (first | apply Kd.R_alloc | apply Kd.R_drewN | apply Kd.R_drew)); exact HO_13.out) hb); have n4_ := Aside0.mk (below_step (by repeat (first | (with_reducible first | exact HB.out | apply below_alloc | apply pw_below_drewN | apply below_drew1) | exact HB.out)) hb); clear HO_10; clear HO_11; clear HO_12; clear HO_13; clear HB; have HO_10 := n0_; have HO_11 := n1_; have HO_12 := n2_; have HO_13 := n3_; have HB := n4_; clear n0_ n1_ n2_ n3_ n4_; (try clear hb); (try clear hb2); (try clear hk); (try clear hi); have p536 : 0 ≤ (x14_1 : Int) := of_decide_eq_true (by first | (with_reducible assumption) | assumption); have q536 : x14_1 < (y499.length : Int) := of_decide_eq_true (by first | (with_reducible assumption) | assumption); obtain ⟨ad536, e536, hx536_0⟩ := Kd.at_int (Kd.R_reads' HO_11.out).2.2 x14_1 p536 q536; obtain rfl : ad516 = ad536 := (by injection e536); replace p536 := eq_true p536; replace q536 := eq_true q536) | ((with_reducible refine gate_callee (f := 35) rfl ?_); refine goesL_ (some 123) rfl rfl Try.func35 (by kernel_rfl) rfl #[.slice Ao12 t493.length co12, .int .i64 (rd y499 x14_1)] rfl (by (try simp only [List.map_toArray, List.map_cons, List.map_nil]); first | done | rfl | (simp only [List.length_drop, List.length_take]; rfl)) ?_; (with_reducible refine (payrollref29_Marginal.calls kj31 _ _ t493 (rd y499 x14_1) t537 t538 _ ?side1 ?side2 A52.out).mono ?_); (case side1 => repeat (first | exact (Kd.R_reads' HO_10.out).2.2 | (with_reducible refine Kd.C_alloc ?_ _) | (with_reducible refine Kd.C_drewN ?_ _) | (with_reducible refine Kd.C_drew ?_))); (case side2 => exact (Kd.R_reads' HO_10.out).2.1); rintro e w' ⟨rfl, ⟨nd, rfl⟩⟩; refine ⟨_, rfl, ?_⟩))
               (try (rw [drewN_self w82]; generalize hq_ : World.drewN w82 _ = w82; have n0_ : Aside0 (Kd.R k30 30 w82 w.heap.size (fun _ => True) (.slice Ao12 t493.length co12) t493) := ⟨by rw [← hq_]; exact (by (with_reducible repeat (first | apply Kd.R_alloc | apply Kd.R_drewN | apply Kd.R_drew)); exact HO_10.out)⟩; have n1_ : Aside0 (Kd.R (Kd.int .i64) 3 w82 w.heap.size (fun k_ => some k_ ≠ (v508 : Value).ownBlock ∧ some k_ ≠ (v513 : Value).ownBlock) (.slice (some ad516) y499.length co33) y499) := ⟨by rw [← hq_]; exact (by (with_reducible repeat (first | apply Kd.R_alloc | apply Kd.R_drewN | apply Kd.R_drew)); exact HO_11.out)⟩; have n2_ : Aside0 (Kd.R (Kd.int .i64) 3 w82 w.heap.size (fun k_ => some k_ ≠ (.slice (some ad516) y499.length co33 : Value).ownBlock ∧ some k_ ≠ (v513 : Value).ownBlock) v508 y507) := ⟨by rw [← hq_]; exact (by (with_reducible repeat (first | apply Kd.R_alloc | apply Kd.R_drewN | apply Kd.R_drew)); exact HO_12.out)⟩; have n3_ : Aside0 (Kd.R (Kd.int .i64) 3 w82 w.heap.size (fun k_ => some k_ ≠ (.slice (some ad516) y499.length co33 : Value).ownBlock ∧ some k_ ≠ (v508 : Value).ownBlock) v513 y512) := ⟨by rw [← hq_]; exact (by (with_reducible repeat (first | apply Kd.R_alloc | apply Kd.R_drewN | apply Kd.R_drew)); exact HO_13.out)⟩; have n4_ : Aside0 (Below w.heap.size w w82) := ⟨by rw [← hq_]; exact (by repeat (first | (with_reducible first | exact HB.out | apply below_alloc | apply pw_below_drewN | apply below_drew1) | exact HB.out))⟩; clear HO_10 HO_11 HO_12 HO_13 HB hq_; have HO_10 := n0_; have HO_11 := n1_; have HO_12 := n2_; have HO_13 := n3_; have HB := n4_; clear n0_ n1_ n2_ n3_ n4_))
               have n0_ := Aside0.mk (Kd.R_drew HO_10.out)
               have n1_ := Aside0.mk (Kd.R_drew HO_11.out)
               have n2_ := Aside0.mk (Kd.R_drew HO_12.out)
               have n3_ := Aside0.mk (Kd.R_drew HO_13.out)
               have n4_ := Aside0.mk (below_drew1 HB.out)
               clear HO_10
               clear HO_11
               clear HO_12
               clear HO_13
               clear HB
               have HO_10 := n0_
               have HO_11 := n1_
               have HO_12 := n2_
               have HO_13 := n3_
               have HB := n4_
               clear n0_ n1_ n2_ n3_ n4_
               have p539 : 0 ≤ (x14_1 : Int) := of_decide_eq_true (by first | (with_reducible assumption) | assumption)
               have q539 : x14_1 < (y499.length : Int) := of_decide_eq_true (by first | (with_reducible assumption) | assumption)
               obtain ⟨ad539, e539, hx539_0⟩ := Kd.at_int (Kd.R_reads' HO_11.out).2.2 x14_1 p539 q539
               obtain rfl : ad516 = ad539 := (by injection e539)
               replace p539 := eq_true p539
               replace q539 := eq_true q539
               obtain ⟨Ao84, co84, eo84⟩ := Kd.R_slice HO_12.out
               (first | subst eo84 | (injection eo84 with f1_ f2_ f3_; have f4_ := f1_.symm; have f5_ := f3_.symm; clear f1_ f2_ f3_; subst f4_; subst f5_))
               have p540 : 0 ≤ (x14_1 : Int) := of_decide_eq_true (by first | (with_reducible assumption) | assumption)
               have q540 : x14_1 < (y507.length : Int) := of_decide_eq_true (by first | (with_reducible assumption) | assumption)
               obtain ⟨ad540, e540, hx540_0⟩ := Kd.at_int (Kd.R_reads' HO_12.out).2.2 x14_1 p540 q540
               cases e540
               replace p540 := eq_true p540
               replace q540 := eq_true q540
               obtain ⟨Ao85, co85, eo85⟩ := Kd.R_slice HO_13.out
               (first | subst eo85 | (injection eo85 with f1_ f2_ f3_; have f4_ := f1_.symm; have f5_ := f3_.symm; clear f1_ f2_ f3_; subst f4_; subst f5_))
               have p541 : 0 ≤ (x14_1 : Int) := of_decide_eq_true (by first | (with_reducible assumption) | assumption)
               have q541 : x14_1 < (y512.length : Int) := of_decide_eq_true (by first | (with_reducible assumption) | assumption)
               obtain ⟨ad541, e541, hx541_0⟩ := Kd.at_int (Kd.R_reads' HO_13.out).2.2 x14_1 p541 q541
               cases e541
               replace p541 := eq_true p541
               replace q541 := eq_true q541
               refine start_ (n := 19) (S := fun w' => w'.cell? (ad516.add (x14_1).toNat) = some (.int .i64 (rd y499 x14_1)) ∧ w'.cell? (ad540.add (x14_1).toNat) = some (.int .i64 (rd y507 x14_1)) ∧ w'.cell? (ad541.add (x14_1).toNat) = some (.int .i64 (rd y512 x14_1))) (ds := []) #[false, false, false, false, false, false, false, false, false, false, false, false, false, false, false, false, false, false, false] (by kernel_rfl) rfl rfl ⟨hx539_0, hx540_0, hx541_0⟩ (fun hHeld => ?_); refine with_tabW payrolllaw29_BracketTaxes.tab16 payrolllaw29_BracketTaxes.bits16 (fun HT_ HW_ => ?_)
               generalize w82.drew = w83 at HO_10 HO_11 HO_12 HO_13 HB hx539_0 hx540_0 hx541_0 hHeld ⊢
               refine pure_ (i := 0) (N := some 127) (v := ?_) (a' := ?_) #[true, false, false, false, false, false, false, false, false, false, false, false, false, false, false, false, false, false, false] rfl rfl (any_of HT_.out (by kernel_rfl)) (fun _ _ _ h => h) (Or.inl ⟨by rfl, ?_⟩) ?_ ?_
               rotate_left
               ·
                intro w'
                go_simp
                with_reducible rfl
               rotate_left
               ·
                simp only [Act.put, List.setIfInBounds_toArray, List.set_cons_zero, List.set_cons_succ, i64_w, i32_w]
                rfl
               refine pure_ (i := 1) (N := some 128) (v := ?_) (a' := ?_) #[true, true, false, false, false, false, false, false, false, false, false, false, false, false, false, false, false, false, false] rfl rfl (any_of HT_.out (by kernel_rfl)) (fun _ _ _ h => h) (Or.inl ⟨by rfl, ?_⟩) ?_ ?_
               rotate_left
               ·
                intro w'
                go_simp
                with_reducible rfl
               rotate_left
               ·
                simp only [Act.put, List.setIfInBounds_toArray, List.set_cons_zero, List.set_cons_succ, i64_w, i32_w]
                rfl
               refine pure_ (i := 2) (N := some 129) (v := ?_) (a' := ?_) #[true, true, true, false, false, false, false, false, false, false, false, false, false, false, false, false, false, false, false] rfl rfl (any_of HT_.out (by kernel_rfl)) (fun _ _ _ h => h) (Or.inl ⟨by rfl, ?_⟩) ?_ ?_
               rotate_left
               ·
                intro w'
                go_simp
                with_reducible rfl
               rotate_left
               ·
                simp only [Act.put, List.setIfInBounds_toArray, List.set_cons_zero, List.set_cons_succ, i64_w, i32_w]
                rfl
               refine pure_ (i := 3) (N := some 130) (v := ?_) (a' := ?_) #[true, true, true, true, false, false, false, false, false, false, false, false, false, false, false, false, false, false, false] rfl rfl (any_of HT_.out (by kernel_rfl)) (fun _ _ _ h => h) (Or.inl ⟨by rfl, ?_⟩) ?_ ?_
               rotate_left
               ·
                intro w'
                go_simp
                with_reducible rfl
               rotate_left
               ·
                simp only [Act.put, List.setIfInBounds_toArray, List.set_cons_zero, List.set_cons_succ, i64_w, i32_w]
                rfl
               refine pure_ (i := 5) (N := some 132) (v := ?_) (a' := ?_) #[true, true, true, true, false, true, false, false, false, false, false, false, false, false, false, false, false, false, false] rfl rfl (any_of HT_.out (by kernel_rfl)) (fun _ _ _ h => h) (Or.inl ⟨by rfl, ?_⟩) ?_ ?_
               rotate_left
               ·
                intro w'
                go_simp
                with_reducible rfl
               rotate_left
               ·
                simp only [Act.put, List.setIfInBounds_toArray, List.set_cons_zero, List.set_cons_succ, i64_w, i32_w]
                rfl
               refine pure_ (i := 6) (N := some 133) (v := ?_) (a' := ?_) #[true, true, true, true, false, true, true, false, false, false, false, false, false, false, false, false, false, false, false] rfl rfl (any_of HT_.out (by kernel_rfl)) (fun _ _ _ h => h) (Or.inl ⟨by rfl, ?_⟩) ?_ ?_
               rotate_left
               ·
                intro w'
                go_simp
                with_reducible rfl
               rotate_left
               ·
                simp only [Act.put, List.setIfInBounds_toArray, List.set_cons_zero, List.set_cons_succ, i64_w, i32_w]
                rfl
               refine pure_ (i := 7) (N := some 134) (v := ?_) (a' := ?_) #[true, true, true, true, false, true, true, true, false, false, false, false, false, false, false, false, false, false, false] rfl rfl (any_of HT_.out (by kernel_rfl)) (fun _ _ _ h => h) (Or.inl ⟨by rfl, ?_⟩) ?_ ?_
               rotate_left
               ·
                intro w'
                go_simp
                with_reducible rfl
               rotate_left
               ·
                simp only [Act.put, List.setIfInBounds_toArray, List.set_cons_zero, List.set_cons_succ, i64_w, i32_w]
                rfl
               refine pure_ (i := 9) (N := some 136) (v := ?_) (a' := ?_) #[true, true, true, true, false, true, true, true, false, true, false, false, false, false, false, false, false, false, false] rfl rfl (any_of HT_.out (by kernel_rfl)) (fun _ _ _ h => h) (Or.inl ⟨by rfl, ?_⟩) ?_ ?_
               rotate_left
               ·
                intro w'
                go_simp
                with_reducible rfl
               rotate_left
               ·
                simp only [Act.put, List.setIfInBounds_toArray, List.set_cons_zero, List.set_cons_succ, i64_w, i32_w]
                rfl
               refine pure_ (i := 10) (N := some 137) (v := ?_) (a' := ?_) #[true, true, true, true, false, true, true, true, false, true, true, false, false, false, false, false, false, false, false] rfl rfl (any_of HT_.out (by kernel_rfl)) (fun _ _ _ h => h) (Or.inl ⟨by rfl, ?_⟩) ?_ ?_
               rotate_left
               ·
                intro w'
                go_simp
                with_reducible rfl
               rotate_left
               ·
                simp only [Act.put, List.setIfInBounds_toArray, List.set_cons_zero, List.set_cons_succ, i64_w, i32_w]
                rfl
               refine pure_ (i := 11) (N := some 138) (v := ?_) (a' := ?_) #[true, true, true, true, false, true, true, true, false, true, true, true, false, false, false, false, false, false, false] rfl rfl (any_of HT_.out (by kernel_rfl)) (fun _ _ _ h => h) (Or.inl ⟨by rfl, ?_⟩) ?_ ?_
               rotate_left
               ·
                intro w'
                go_simp
                with_reducible rfl
               rotate_left
               ·
                simp only [Act.put, List.setIfInBounds_toArray, List.set_cons_zero, List.set_cons_succ, i64_w, i32_w]
                rfl
               refine take_ (i := 4) (N := some 131) (v := ?_) (a' := ?_) #[true, true, true, true, true, true, true, true, false, true, true, true, false, false, false, false, false, false, false] rfl rfl (take_ofW HT_.out HW_.out (by kernel_rfl)) (fun _ _ _ h => h) (Or.inl ⟨by rfl, ?_⟩) hHeld ?_ ?_
               rotate_left
               ·
                rintro w' ⟨s0, s1, s2⟩
                go_simp
                with_reducible rfl
               rotate_left
               ·
                simp only [Act.put, List.setIfInBounds_toArray, List.set_cons_zero, List.set_cons_succ, i64_w, i32_w]
                rfl
               refine take_ (i := 8) (N := some 135) (v := ?_) (a' := ?_) #[true, true, true, true, true, true, true, true, true, true, true, true, false, false, false, false, false, false, false] rfl rfl (take_ofW HT_.out HW_.out (by kernel_rfl)) (fun _ _ _ h => h) (Or.inl ⟨by rfl, ?_⟩) hHeld ?_ ?_
               rotate_left
               ·
                rintro w' ⟨s0, s1, s2⟩
                go_simp
                with_reducible rfl
               rotate_left
               ·
                simp only [Act.put, List.setIfInBounds_toArray, List.set_cons_zero, List.set_cons_succ, i64_w, i32_w]
                rfl
               refine take_ (i := 12) (N := some 139) (v := ?_) (a' := ?_) #[true, true, true, true, true, true, true, true, true, true, true, true, true, false, false, false, false, false, false] rfl rfl (take_ofW HT_.out HW_.out (by kernel_rfl)) (fun _ _ _ h => h) (Or.inl ⟨by rfl, ?_⟩) hHeld ?_ ?_
               rotate_left
               ·
                rintro w' ⟨s0, s1, s2⟩
                go_simp
                with_reducible rfl
               rotate_left
               ·
                simp only [Act.put, List.setIfInBounds_toArray, List.set_cons_zero, List.set_cons_succ, i64_w, i32_w]
                rfl
               refine one_ (i := 13) (N := some 140) #[true, true, true, true, true, true, true, true, true, true, true, true, true, true, false, false, false, false, false] rfl rfl (one_of HT_.out (by kernel_rfl)) (by decide) (fun K hK => ?_)
               refine goes_ Try.func32 (by kernel_rfl) rfl #[.slice Ao12 t493.length co12, .int .i64 (rd y499 x14_1), .int .i64 (rd y507 x14_1), .int .i64 (rd y512 x14_1)] (by rfl) rfl rfl (by (try simp only [List.map_toArray, List.map_cons, List.map_nil]); first | done | rfl | (simp only [List.length_drop, List.length_take]; rfl)) ?_
               with_reducible refine (bracket_Tax.calls kj31 _ _ t493 (rd y499 x14_1) (rd y507 x14_1) (rd y512 x14_1) t542 t543 _ ?side1 ?side2 A55.out).mono ?_
               (case side1 => repeat (first | exact (Kd.R_reads' HO_10.out).2.2 | (with_reducible refine Kd.C_alloc ?_ _) | (with_reducible refine Kd.C_drewN ?_ _) | (with_reducible refine Kd.C_drew ?_)))
               (case side2 => exact (Kd.R_reads' HO_10.out).2.1)
               rintro e w86 ⟨rfl, hb⟩
               have HS0_ := (hb.cell (World.block_lt_of_cell? _ _ (hHeld.1))).trans (hHeld.1)
               have HS1_ := (hb.cell (World.block_lt_of_cell? _ _ (hHeld.2.1))).trans (hHeld.2.1)
               have HS2_ := (hb.cell (World.block_lt_of_cell? _ _ (hHeld.2.2))).trans (hHeld.2.2)
               refine ⟨_, rfl, ?_⟩
               have n0_ := Aside0.mk (Kd.R_below (by (with_reducible repeat (first | apply Kd.R_alloc | apply Kd.R_drewN | apply Kd.R_drew)); exact HO_10.out) hb)
               have n1_ := Aside0.mk (Kd.R_below (by (with_reducible repeat (first | apply Kd.R_alloc | apply Kd.R_drewN | apply Kd.R_drew)); exact HO_11.out) hb)
               have n2_ := Aside0.mk (Kd.R_below (by (with_reducible repeat (first | apply Kd.R_alloc | apply Kd.R_drewN | apply Kd.R_drew)); exact HO_12.out) hb)
               have n3_ := Aside0.mk (Kd.R_below (by (with_reducible repeat (first | apply Kd.R_alloc | apply Kd.R_drewN | apply Kd.R_drew)); exact HO_13.out) hb)
               have n4_ := Aside0.mk (below_step (by repeat (first | (with_reducible first | exact HB.out | apply below_alloc | apply pw_below_drewN | apply below_drew1) | exact HB.out)) hb)
               clear HO_10
               clear HO_11
               clear HO_12
               clear HO_13
               clear HB
               have HO_10 := n0_
               have HO_11 := n1_
               have HO_12 := n2_
               have HO_13 := n3_
               have HB := n4_
               clear n0_ n1_ n2_ n3_ n4_
               (try clear hb)
               (try clear hb2)
               (try clear hk)
               (try clear hi)
               refine hK.out _ _ ⟨HS0_, HS1_, HS2_⟩ (fun hHeld => ?_)
               clear hK K
               refine norm_ (a' := ?_) ?_ ?_
               rotate_left
               ·
                show Act.put _ (some 140) _ = _
                simp only [Act.put, List.setIfInBounds_toArray, List.set_cons_zero, List.set_cons_succ, i64_w, i32_w]
                rfl
               refine pure_ (i := 14) (N := some 126) (v := ?_) (a' := ?_) #[true, true, true, true, true, true, true, true, true, true, true, true, true, true, true, false, false, false, false] rfl rfl (any_of HT_.out (by kernel_rfl)) (fun _ _ _ h => h) (Or.inl ⟨by rfl, ?_⟩) ?_ ?_
               rotate_left
               ·
                intro w'
                go_simp
                with_reducible rfl
               rotate_left
               ·
                simp only [Act.put, List.setIfInBounds_toArray, List.set_cons_zero, List.set_cons_succ, i64_w, i32_w]
                rfl
               refine pure_ (i := 15) (N := some 141) (v := ?_) (a' := ?_) #[true, true, true, true, true, true, true, true, true, true, true, true, true, true, true, true, false, false, false] rfl rfl (any_of HT_.out (by kernel_rfl)) (fun _ _ _ h => h) (Or.inl ⟨by rfl, ?_⟩) ?_ ?_
               rotate_left
               ·
                intro w'
                go_simp
                with_reducible rfl
               rotate_left
               ·
                simp only [Act.put, List.setIfInBounds_toArray, List.set_cons_zero, List.set_cons_succ, i64_w, i32_w]
                rfl
               refine pure_ (i := 16) (N := some 142) (v := ?_) (a' := ?_) #[true, true, true, true, true, true, true, true, true, true, true, true, true, true, true, true, true, false, false] rfl rfl (any_of HT_.out (by kernel_rfl)) (fun _ _ _ h => h) (Or.inl ⟨by rfl, ?_⟩) ?_ ?_
               rotate_left
               ·
                intro w'
                go_simp
                with_reducible rfl
               rotate_left
               ·
                simp only [Act.put, List.setIfInBounds_toArray, List.set_cons_zero, List.set_cons_succ, i64_w, i32_w]
                rfl
               refine pure_ (i := 17) (N := some 27) (v := ?_) (a' := ?_) #[true, true, true, true, true, true, true, true, true, true, true, true, true, true, true, true, true, true, false] rfl rfl (any_of HT_.out (by kernel_rfl)) (fun _ _ _ h => h) (Or.inl ⟨by rfl, ?_⟩) ?_ ?_
               rotate_left
               ·
                intro w'
                go_simp
                with_reducible rfl
               rotate_left
               ·
                simp only [Act.put, List.setIfInBounds_toArray, List.set_cons_zero, List.set_cons_succ, i64_w, i32_w]
                rfl
               refine pure_ (i := 18) (N := some 28) (v := ?_) (a' := ?_) #[true, true, true, true, true, true, true, true, true, true, true, true, true, true, true, true, true, true, true] rfl rfl (any_of HT_.out (by kernel_rfl)) (fun _ _ _ h => h) (Or.inl ⟨by rfl, ?_⟩) ?_ ?_
               rotate_left
               ·
                intro w'
                go_simp
                with_reducible rfl
               rotate_left
               ·
                simp only [Act.put, List.setIfInBounds_toArray, List.set_cons_zero, List.set_cons_succ, i64_w, i32_w]
                rfl
               refine done_ (done_of HT_.out (by kernel_rfl)) ?_
               try go_wp2
               have n0_ := Aside0.mk (Kd.R_drew HO_10.out)
               have n1_ := Aside0.mk (Kd.R_drew HO_11.out)
               have n2_ := Aside0.mk (Kd.R_drew HO_12.out)
               have n3_ := Aside0.mk (Kd.R_drew HO_13.out)
               have n4_ := Aside0.mk (below_drew1 HB.out)
               clear HO_10
               clear HO_11
               clear HO_12
               clear HO_13
               clear HB
               have HO_10 := n0_
               have HO_11 := n1_
               have HO_12 := n2_
               have HO_13 := n3_
               have HB := n4_
               clear n0_ n1_ n2_ n3_ n4_
               have p544 : 0 ≤ (x14_1 : Int) := of_decide_eq_true (by first | (with_reducible assumption) | assumption)
               have q544 : x14_1 < (y499.length : Int) := of_decide_eq_true (by first | (with_reducible assumption) | assumption)
               obtain ⟨ad544, e544, hx544_0⟩ := Kd.at_int (Kd.R_reads' HO_11.out).2.2 x14_1 p544 q544
               obtain rfl : ad516 = ad544 := (by injection e544)
               replace p544 := eq_true p544
               replace q544 := eq_true q544
               have p545 : 0 ≤ (x14_1 : Int) := of_decide_eq_true (by first | (with_reducible assumption) | assumption)
               have q545 : x14_1 < (y507.length : Int) := of_decide_eq_true (by first | (with_reducible assumption) | assumption)
               obtain ⟨ad545, e545, hx545_0⟩ := Kd.at_int (Kd.R_reads' HO_12.out).2.2 x14_1 p545 q545
               obtain rfl : ad540 = ad545 := (by injection e545)
               replace p545 := eq_true p545
               replace q545 := eq_true q545
               have p546 : 0 ≤ (x14_1 : Int) := of_decide_eq_true (by first | (with_reducible assumption) | assumption)
               have q546 : x14_1 < (y512.length : Int) := of_decide_eq_true (by first | (with_reducible assumption) | assumption)
               obtain ⟨ad546, e546, hx546_0⟩ := Kd.at_int (Kd.R_reads' HO_13.out).2.2 x14_1 p546 q546
               obtain rfl : ad541 = ad546 := (by injection e546)
               replace p546 := eq_true p546
               replace q546 := eq_true q546
               refine start_ (n := 19) (S := fun w' => w'.cell? (ad516.add (x14_1).toNat) = some (.int .i64 (rd y499 x14_1)) ∧ w'.cell? (ad540.add (x14_1).toNat) = some (.int .i64 (rd y507 x14_1)) ∧ w'.cell? (ad541.add (x14_1).toNat) = some (.int .i64 (rd y512 x14_1))) (ds := []) #[false, false, false, false, false, false, false, false, false, false, false, false, false, false, false, false, false, false, false] (by kernel_rfl) rfl rfl ⟨hx544_0, hx545_0, hx546_0⟩ (fun hHeld => ?_); refine with_tabW payrolllaw29_BracketTaxes.tab17 payrolllaw29_BracketTaxes.bits17 (fun HT_ HW_ => ?_)
               generalize w86.drew = w87 at HO_10 HO_11 HO_12 HO_13 HB hx544_0 hx545_0 hx546_0 hHeld ⊢
               refine pure_ (i := 0) (N := some 144) (v := ?_) (a' := ?_) #[true, false, false, false, false, false, false, false, false, false, false, false, false, false, false, false, false, false, false] rfl rfl (any_of HT_.out (by kernel_rfl)) (fun _ _ _ h => h) (Or.inl ⟨by rfl, ?_⟩) ?_ ?_
               rotate_left
               ·
                intro w'
                go_simp
                with_reducible rfl
               rotate_left
               ·
                simp only [Act.put, List.setIfInBounds_toArray, List.set_cons_zero, List.set_cons_succ, i64_w, i32_w]
                rfl
               refine pure_ (i := 1) (N := some 145) (v := ?_) (a' := ?_) #[true, true, false, false, false, false, false, false, false, false, false, false, false, false, false, false, false, false, false] rfl rfl (any_of HT_.out (by kernel_rfl)) (fun _ _ _ h => h) (Or.inl ⟨by rfl, ?_⟩) ?_ ?_
               rotate_left
               ·
                intro w'
                go_simp
                with_reducible rfl
               rotate_left
               ·
                simp only [Act.put, List.setIfInBounds_toArray, List.set_cons_zero, List.set_cons_succ, i64_w, i32_w]
                rfl
               refine pure_ (i := 2) (N := some 146) (v := ?_) (a' := ?_) #[true, true, true, false, false, false, false, false, false, false, false, false, false, false, false, false, false, false, false] rfl rfl (any_of HT_.out (by kernel_rfl)) (fun _ _ _ h => h) (Or.inl ⟨by rfl, ?_⟩) ?_ ?_
               rotate_left
               ·
                intro w'
                go_simp
                with_reducible rfl
               rotate_left
               ·
                simp only [Act.put, List.setIfInBounds_toArray, List.set_cons_zero, List.set_cons_succ, i64_w, i32_w]
                rfl
               refine pure_ (i := 3) (N := some 147) (v := ?_) (a' := ?_) #[true, true, true, true, false, false, false, false, false, false, false, false, false, false, false, false, false, false, false] rfl rfl (any_of HT_.out (by kernel_rfl)) (fun _ _ _ h => h) (Or.inl ⟨by rfl, ?_⟩) ?_ ?_
               rotate_left
               ·
                intro w'
                go_simp
                with_reducible rfl
               rotate_left
               ·
                simp only [Act.put, List.setIfInBounds_toArray, List.set_cons_zero, List.set_cons_succ, i64_w, i32_w]
                rfl
               refine pure_ (i := 5) (N := some 149) (v := ?_) (a' := ?_) #[true, true, true, true, false, true, false, false, false, false, false, false, false, false, false, false, false, false, false] rfl rfl (any_of HT_.out (by kernel_rfl)) (fun _ _ _ h => h) (Or.inl ⟨by rfl, ?_⟩) ?_ ?_
               rotate_left
               ·
                intro w'
                go_simp
                with_reducible rfl
               rotate_left
               ·
                simp only [Act.put, List.setIfInBounds_toArray, List.set_cons_zero, List.set_cons_succ, i64_w, i32_w]
                rfl
               refine pure_ (i := 6) (N := some 150) (v := ?_) (a' := ?_) #[true, true, true, true, false, true, true, false, false, false, false, false, false, false, false, false, false, false, false] rfl rfl (any_of HT_.out (by kernel_rfl)) (fun _ _ _ h => h) (Or.inl ⟨by rfl, ?_⟩) ?_ ?_
               rotate_left
               ·
                intro w'
                go_simp
                with_reducible rfl
               rotate_left
               ·
                simp only [Act.put, List.setIfInBounds_toArray, List.set_cons_zero, List.set_cons_succ, i64_w, i32_w]
                rfl
               refine pure_ (i := 7) (N := some 151) (v := ?_) (a' := ?_) #[true, true, true, true, false, true, true, true, false, false, false, false, false, false, false, false, false, false, false] rfl rfl (any_of HT_.out (by kernel_rfl)) (fun _ _ _ h => h) (Or.inl ⟨by rfl, ?_⟩) ?_ ?_
               rotate_left
               ·
                intro w'
                go_simp
                with_reducible rfl
               rotate_left
               ·
                simp only [Act.put, List.setIfInBounds_toArray, List.set_cons_zero, List.set_cons_succ, i64_w, i32_w]
                rfl
               refine pure_ (i := 9) (N := some 153) (v := ?_) (a' := ?_) #[true, true, true, true, false, true, true, true, false, true, false, false, false, false, false, false, false, false, false] rfl rfl (any_of HT_.out (by kernel_rfl)) (fun _ _ _ h => h) (Or.inl ⟨by rfl, ?_⟩) ?_ ?_
               rotate_left
               ·
                intro w'
                go_simp
                with_reducible rfl
               rotate_left
               ·
                simp only [Act.put, List.setIfInBounds_toArray, List.set_cons_zero, List.set_cons_succ, i64_w, i32_w]
                rfl
               refine pure_ (i := 10) (N := some 154) (v := ?_) (a' := ?_) #[true, true, true, true, false, true, true, true, false, true, true, false, false, false, false, false, false, false, false] rfl rfl (any_of HT_.out (by kernel_rfl)) (fun _ _ _ h => h) (Or.inl ⟨by rfl, ?_⟩) ?_ ?_
               rotate_left
               ·
                intro w'
                go_simp
                with_reducible rfl
               rotate_left
               ·
                simp only [Act.put, List.setIfInBounds_toArray, List.set_cons_zero, List.set_cons_succ, i64_w, i32_w]
                rfl
               refine pure_ (i := 11) (N := some 155) (v := ?_) (a' := ?_) #[true, true, true, true, false, true, true, true, false, true, true, true, false, false, false, false, false, false, false] rfl rfl (any_of HT_.out (by kernel_rfl)) (fun _ _ _ h => h) (Or.inl ⟨by rfl, ?_⟩) ?_ ?_
               rotate_left
               ·
                intro w'
                go_simp
                with_reducible rfl
               rotate_left
               ·
                simp only [Act.put, List.setIfInBounds_toArray, List.set_cons_zero, List.set_cons_succ, i64_w, i32_w]
                rfl
               refine take_ (i := 4) (N := some 148) (v := ?_) (a' := ?_) #[true, true, true, true, true, true, true, true, false, true, true, true, false, false, false, false, false, false, false] rfl rfl (take_ofW HT_.out HW_.out (by kernel_rfl)) (fun _ _ _ h => h) (Or.inl ⟨by rfl, ?_⟩) hHeld ?_ ?_
               rotate_left
               ·
                rintro w' ⟨s0, s1, s2⟩
                go_simp
                with_reducible rfl
               rotate_left
               ·
                simp only [Act.put, List.setIfInBounds_toArray, List.set_cons_zero, List.set_cons_succ, i64_w, i32_w]
                rfl
               refine take_ (i := 8) (N := some 152) (v := ?_) (a' := ?_) #[true, true, true, true, true, true, true, true, true, true, true, true, false, false, false, false, false, false, false] rfl rfl (take_ofW HT_.out HW_.out (by kernel_rfl)) (fun _ _ _ h => h) (Or.inl ⟨by rfl, ?_⟩) hHeld ?_ ?_
               rotate_left
               ·
                rintro w' ⟨s0, s1, s2⟩
                go_simp
                with_reducible rfl
               rotate_left
               ·
                simp only [Act.put, List.setIfInBounds_toArray, List.set_cons_zero, List.set_cons_succ, i64_w, i32_w]
                rfl
               refine take_ (i := 12) (N := some 156) (v := ?_) (a' := ?_) #[true, true, true, true, true, true, true, true, true, true, true, true, true, false, false, false, false, false, false] rfl rfl (take_ofW HT_.out HW_.out (by kernel_rfl)) (fun _ _ _ h => h) (Or.inl ⟨by rfl, ?_⟩) hHeld ?_ ?_
               rotate_left
               ·
                rintro w' ⟨s0, s1, s2⟩
                go_simp
                with_reducible rfl
               rotate_left
               ·
                simp only [Act.put, List.setIfInBounds_toArray, List.set_cons_zero, List.set_cons_succ, i64_w, i32_w]
                rfl
               refine one_ (i := 13) (N := some 157) #[true, true, true, true, true, true, true, true, true, true, true, true, true, true, false, false, false, false, false] rfl rfl (one_of HT_.out (by kernel_rfl)) (by decide) (fun K hK => ?_)
               refine goes_ Try.func36 (by kernel_rfl) rfl #[.slice Ao12 t493.length co12, .int .i64 (rd y499 x14_1), .int .i64 (rd y507 x14_1), .int .i64 (rd y512 x14_1)] (by rfl) rfl rfl (by (try simp only [List.map_toArray, List.map_cons, List.map_nil]); first | done | rfl | (simp only [List.length_drop, List.length_take]; rfl)) ?_
               with_reducible refine (payrollref29_Tax.calls kj31 _ _ t493 (rd y499 x14_1) (rd y507 x14_1) (rd y512 x14_1) t547 t548 _ ?side1 ?side2 A56.out).mono ?_
               (case side1 => repeat (first | exact (Kd.R_reads' HO_10.out).2.2 | (with_reducible refine Kd.C_alloc ?_ _) | (with_reducible refine Kd.C_drewN ?_ _) | (with_reducible refine Kd.C_drew ?_)))
               (case side2 => exact (Kd.R_reads' HO_10.out).2.1)
               rintro e w88 ⟨rfl, hb⟩
               have HS0_ := (hb.cell (World.block_lt_of_cell? _ _ (hHeld.1))).trans (hHeld.1)
               have HS1_ := (hb.cell (World.block_lt_of_cell? _ _ (hHeld.2.1))).trans (hHeld.2.1)
               have HS2_ := (hb.cell (World.block_lt_of_cell? _ _ (hHeld.2.2))).trans (hHeld.2.2)
               refine ⟨_, rfl, ?_⟩
               have n0_ := Aside0.mk (Kd.R_below (by (with_reducible repeat (first | apply Kd.R_alloc | apply Kd.R_drewN | apply Kd.R_drew)); exact HO_10.out) hb)
               have n1_ := Aside0.mk (Kd.R_below (by (with_reducible repeat (first | apply Kd.R_alloc | apply Kd.R_drewN | apply Kd.R_drew)); exact HO_11.out) hb)
               have n2_ := Aside0.mk (Kd.R_below (by (with_reducible repeat (first | apply Kd.R_alloc | apply Kd.R_drewN | apply Kd.R_drew)); exact HO_12.out) hb)
               have n3_ := Aside0.mk (Kd.R_below (by (with_reducible repeat (first | apply Kd.R_alloc | apply Kd.R_drewN | apply Kd.R_drew)); exact HO_13.out) hb)
               have n4_ := Aside0.mk (below_step (by repeat (first | (with_reducible first | exact HB.out | apply below_alloc | apply pw_below_drewN | apply below_drew1) | exact HB.out)) hb)
               clear HO_10
               clear HO_11
               clear HO_12
               clear HO_13
               clear HB
               have HO_10 := n0_
               have HO_11 := n1_
               have HO_12 := n2_
               have HO_13 := n3_
               have HB := n4_
               clear n0_ n1_ n2_ n3_ n4_
               (try clear hb)
               (try clear hb2)
               (try clear hk)
               (try clear hi)
               refine hK.out _ _ ⟨HS0_, HS1_, HS2_⟩ (fun hHeld => ?_)
               clear hK K
               refine norm_ (a' := ?_) ?_ ?_
               rotate_left
               ·
                show Act.put _ (some 157) _ = _
                simp only [Act.put, List.setIfInBounds_toArray, List.set_cons_zero, List.set_cons_succ, i64_w, i32_w]
                rfl
               refine pure_ (i := 14) (N := some 143) (v := ?_) (a' := ?_) #[true, true, true, true, true, true, true, true, true, true, true, true, true, true, true, false, false, false, false] rfl rfl (any_of HT_.out (by kernel_rfl)) (fun _ _ _ h => h) (Or.inl ⟨by rfl, ?_⟩) ?_ ?_
               rotate_left
               ·
                intro w'
                go_simp
                with_reducible rfl
               rotate_left
               ·
                simp only [Act.put, List.setIfInBounds_toArray, List.set_cons_zero, List.set_cons_succ, i64_w, i32_w]
                rfl
               refine pure_ (i := 15) (N := some 158) (v := ?_) (a' := ?_) #[true, true, true, true, true, true, true, true, true, true, true, true, true, true, true, true, false, false, false] rfl rfl (any_of HT_.out (by kernel_rfl)) (fun _ _ _ h => h) (Or.inl ⟨by rfl, ?_⟩) ?_ ?_
               rotate_left
               ·
                intro w'
                go_simp
                with_reducible rfl
               rotate_left
               ·
                simp only [Act.put, List.setIfInBounds_toArray, List.set_cons_zero, List.set_cons_succ, i64_w, i32_w]
                rfl
               refine pure_ (i := 16) (N := some 159) (v := ?_) (a' := ?_) #[true, true, true, true, true, true, true, true, true, true, true, true, true, true, true, true, true, false, false] rfl rfl (any_of HT_.out (by kernel_rfl)) (fun _ _ _ h => h) (Or.inl ⟨by rfl, ?_⟩) ?_ ?_
               rotate_left
               ·
                intro w'
                go_simp
                with_reducible rfl
               rotate_left
               ·
                simp only [Act.put, List.setIfInBounds_toArray, List.set_cons_zero, List.set_cons_succ, i64_w, i32_w]
                rfl
               refine pure_ (i := 17) (N := some 29) (v := ?_) (a' := ?_) #[true, true, true, true, true, true, true, true, true, true, true, true, true, true, true, true, true, true, false] rfl rfl (any_of HT_.out (by kernel_rfl)) (fun _ _ _ h => h) (Or.inl ⟨by rfl, ?_⟩) ?_ ?_
               rotate_left
               ·
                intro w'
                go_simp
                with_reducible rfl
               rotate_left
               ·
                simp only [Act.put, List.setIfInBounds_toArray, List.set_cons_zero, List.set_cons_succ, i64_w, i32_w]
                rfl
               refine pure_ (i := 18) (N := some 30) (v := ?_) (a' := ?_) #[true, true, true, true, true, true, true, true, true, true, true, true, true, true, true, true, true, true, true] rfl rfl (any_of HT_.out (by kernel_rfl)) (fun _ _ _ h => h) (Or.inl ⟨by rfl, ?_⟩) ?_ ?_
               rotate_left
               ·
                intro w'
                go_simp
                with_reducible rfl
               rotate_left
               ·
                simp only [Act.put, List.setIfInBounds_toArray, List.set_cons_zero, List.set_cons_succ, i64_w, i32_w]
                rfl
               refine done_ (done_of HT_.out (by kernel_rfl)) ?_
               try go_wp2
               go_ret
               exact ⟨by first | rfl | (simp [errW_none, errW_some] <;> rfl) | (simp [*, errW_none, errW_some] <;> rfl), by repeat (first | (with_reducible first | exact HB.out | apply below_alloc | apply pw_below_drewN | apply below_drew1) | exact HB.out)⟩
             ·
              rw [if_neg c57] at H
              have c57b0 : (t535 == t538) = false := beq_eq_false_iff_ne.mpr c57
              have c57b1 : (t535 != t538) = true := bne_iff_ne.mpr c57
              obtain rfl := Option.some.inj H
              have p533 : 0 ≤ (x14_1 : Int) := of_decide_eq_true (by first | (with_reducible assumption) | assumption)
              have q533 : x14_1 < (y499.length : Int) := of_decide_eq_true (by first | (with_reducible assumption) | assumption)
              obtain ⟨ad533, e533, hx533_0⟩ := Kd.at_int (Kd.R_reads' HO_11.out).2.2 x14_1 p533 q533
              obtain rfl : ad516 = ad533 := (by injection e533)
              replace p533 := eq_true p533
              replace q533 := eq_true q533
              try go_wp2_with (first | ((with_reducible refine gate_callee (f := 25) rfl ?_); refine goesL_ (some 114) rfl rfl Try.func25 (by kernel_rfl) rfl #[.slice Ao12 t493.length co12, .int .i64 (rd y499 x14_1)] rfl (by (try simp only [List.map_toArray, List.map_cons, List.map_nil]); first | done | rfl | (simp only [List.length_drop, List.length_take]; rfl)) ?_; (with_reducible refine (bracket_Marginal.calls kj31 _ _ t493 (rd y499 x14_1) t534 t535 _ ?side1 ?side2 A51.out).mono ?_); (case side1 => repeat (first | exact (Kd.R_reads' HO_10.out).2.2 | (with_reducible refine Kd.C_alloc ?_ _) | (with_reducible refine Kd.C_drewN ?_ _) | (with_reducible refine Kd.C_drew ?_))); (case side2 => exact (Kd.R_reads' HO_10.out).2.1); rintro e w89 ⟨rfl, hb⟩; refine ⟨_, rfl, ?_⟩; have n0_ := Aside0.mk (Kd.R_below (by (with_reducible repeat (first | apply Kd.R_alloc | apply Kd.R_drewN | apply Kd.R_drew)); exact HO_10.out) hb); have n1_ := Aside0.mk (Kd.R_below (by (with_reducible repeat (first | apply Kd.R_alloc | apply Kd.R_drewN | apply Kd.R_drew)); exact HO_11.out) hb); have n2_ := Aside0.mk (Kd.R_below (by (with_reducible repeat (first | apply Kd.R_alloc | apply Kd.R_drewN | apply Kd.R_drew)); exact HO_12.out) hb); have n3_ := Aside0.mk (Kd.R_below (by (with_reducible repeat (first | apply Kd.R_alloc | apply Kd.R_drewN | apply Kd.R_drew)); exact HO_13.out) hb); have n4_ := Aside0.mk (below_step (by repeat (first | (with_reducible first | exact HB.out | apply below_alloc | apply pw_below_drewN | apply below_drew1) | exact HB.out)) hb); clear HO_10; clear HO_11; clear HO_12; clear HO_13; clear HB; have HO_10 := n0_; have HO_11 := n1_; have HO_12 := n2_; have HO_13 := n3_; have HB := n4_; clear n0_ n1_ n2_ n3_ n4_; (try clear hb); (try clear hb2); (try clear hk); (try clear hi); have p536 : 0 ≤ (x14_1 : Int) := of_decide_eq_true (by first | (with_reducible assumption) | assumption); have q536 : x14_1 < (y499.length : Int) := of_decide_eq_true (by first | (with_reducible assumption) | assumption); obtain ⟨ad536, e536, hx536_0⟩ := Kd.at_int (Kd.R_reads' HO_11.out).2.2 x14_1 p536 q536; obtain rfl : ad516 = ad536 := (by injection e536); replace p536 := eq_true p536; replace q536 := eq_true q536) | ((with_reducible refine gate_callee (f := 35) rfl ?_); refine goesL_ (some 123) rfl rfl Try.func35 (by kernel_rfl) rfl #[.slice Ao12 t493.length co12, .int .i64 (rd y499 x14_1)] rfl (by (try simp only [List.map_toArray, List.map_cons, List.map_nil]); first | done | rfl | (simp only [List.length_drop, List.length_take]; rfl)) ?_; (with_reducible refine (payrollref29_Marginal.calls kj31 _ _ t493 (rd y499 x14_1) t537 t538 _ ?side1 ?side2 A52.out).mono ?_); (case side1 => repeat (first | exact (Kd.R_reads' HO_10.out).2.2 | (with_reducible refine Kd.C_alloc ?_ _) | (with_reducible refine Kd.C_drewN ?_ _) | (with_reducible refine Kd.C_drew ?_))); (case side2 => exact (Kd.R_reads' HO_10.out).2.1); rintro e w' ⟨rfl, ⟨nd, rfl⟩⟩; refine ⟨_, rfl, ?_⟩))
              (try (rw [drewN_self w89]; generalize hq_ : World.drewN w89 _ = w89; have n0_ : Aside0 (Kd.R k30 30 w89 w.heap.size (fun _ => True) (.slice Ao12 t493.length co12) t493) := ⟨by rw [← hq_]; exact (by (with_reducible repeat (first | apply Kd.R_alloc | apply Kd.R_drewN | apply Kd.R_drew)); exact HO_10.out)⟩; have n1_ : Aside0 (Kd.R (Kd.int .i64) 3 w89 w.heap.size (fun k_ => some k_ ≠ (v508 : Value).ownBlock ∧ some k_ ≠ (v513 : Value).ownBlock) (.slice (some ad516) y499.length co33) y499) := ⟨by rw [← hq_]; exact (by (with_reducible repeat (first | apply Kd.R_alloc | apply Kd.R_drewN | apply Kd.R_drew)); exact HO_11.out)⟩; have n2_ : Aside0 (Kd.R (Kd.int .i64) 3 w89 w.heap.size (fun k_ => some k_ ≠ (.slice (some ad516) y499.length co33 : Value).ownBlock ∧ some k_ ≠ (v513 : Value).ownBlock) v508 y507) := ⟨by rw [← hq_]; exact (by (with_reducible repeat (first | apply Kd.R_alloc | apply Kd.R_drewN | apply Kd.R_drew)); exact HO_12.out)⟩; have n3_ : Aside0 (Kd.R (Kd.int .i64) 3 w89 w.heap.size (fun k_ => some k_ ≠ (.slice (some ad516) y499.length co33 : Value).ownBlock ∧ some k_ ≠ (v508 : Value).ownBlock) v513 y512) := ⟨by rw [← hq_]; exact (by (with_reducible repeat (first | apply Kd.R_alloc | apply Kd.R_drewN | apply Kd.R_drew)); exact HO_13.out)⟩; have n4_ : Aside0 (Below w.heap.size w w89) := ⟨by rw [← hq_]; exact (by repeat (first | (with_reducible first | exact HB.out | apply below_alloc | apply pw_below_drewN | apply below_drew1) | exact HB.out))⟩; clear HO_10 HO_11 HO_12 HO_13 HB hq_; have HO_10 := n0_; have HO_11 := n1_; have HO_12 := n2_; have HO_13 := n3_; have HB := n4_; clear n0_ n1_ n2_ n3_ n4_))
              have n0_ := Aside0.mk (Kd.R_drew HO_10.out)
              have n1_ := Aside0.mk (Kd.R_drew HO_11.out)
              have n2_ := Aside0.mk (Kd.R_drew HO_12.out)
              have n3_ := Aside0.mk (Kd.R_drew HO_13.out)
              have n4_ := Aside0.mk (below_drew1 HB.out)
              clear HO_10
              clear HO_11
              clear HO_12
              clear HO_13
              clear HB
              have HO_10 := n0_
              have HO_11 := n1_
              have HO_12 := n2_
              have HO_13 := n3_
              have HB := n4_
              clear n0_ n1_ n2_ n3_ n4_
              have p539 : 0 ≤ (x14_1 : Int) := of_decide_eq_true (by first | (with_reducible assumption) | assumption)
              have q539 : x14_1 < (y499.length : Int) := of_decide_eq_true (by first | (with_reducible assumption) | assumption)
              obtain ⟨ad539, e539, hx539_0⟩ := Kd.at_int (Kd.R_reads' HO_11.out).2.2 x14_1 p539 q539
              obtain rfl : ad516 = ad539 := (by injection e539)
              replace p539 := eq_true p539
              replace q539 := eq_true q539
              obtain ⟨Ao91, co91, eo91⟩ := Kd.R_slice HO_12.out
              (first | subst eo91 | (injection eo91 with f1_ f2_ f3_; have f4_ := f1_.symm; have f5_ := f3_.symm; clear f1_ f2_ f3_; subst f4_; subst f5_))
              have p540 : 0 ≤ (x14_1 : Int) := of_decide_eq_true (by first | (with_reducible assumption) | assumption)
              have q540 : x14_1 < (y507.length : Int) := of_decide_eq_true (by first | (with_reducible assumption) | assumption)
              obtain ⟨ad540, e540, hx540_0⟩ := Kd.at_int (Kd.R_reads' HO_12.out).2.2 x14_1 p540 q540
              cases e540
              replace p540 := eq_true p540
              replace q540 := eq_true q540
              obtain ⟨Ao92, co92, eo92⟩ := Kd.R_slice HO_13.out
              (first | subst eo92 | (injection eo92 with f1_ f2_ f3_; have f4_ := f1_.symm; have f5_ := f3_.symm; clear f1_ f2_ f3_; subst f4_; subst f5_))
              have p541 : 0 ≤ (x14_1 : Int) := of_decide_eq_true (by first | (with_reducible assumption) | assumption)
              have q541 : x14_1 < (y512.length : Int) := of_decide_eq_true (by first | (with_reducible assumption) | assumption)
              obtain ⟨ad541, e541, hx541_0⟩ := Kd.at_int (Kd.R_reads' HO_13.out).2.2 x14_1 p541 q541
              cases e541
              replace p541 := eq_true p541
              replace q541 := eq_true q541
              refine start_ (n := 19) (S := fun w' => w'.cell? (ad516.add (x14_1).toNat) = some (.int .i64 (rd y499 x14_1)) ∧ w'.cell? (ad540.add (x14_1).toNat) = some (.int .i64 (rd y507 x14_1)) ∧ w'.cell? (ad541.add (x14_1).toNat) = some (.int .i64 (rd y512 x14_1))) (ds := []) #[false, false, false, false, false, false, false, false, false, false, false, false, false, false, false, false, false, false, false] (by kernel_rfl) rfl rfl ⟨hx539_0, hx540_0, hx541_0⟩ (fun hHeld => ?_); refine with_tabW payrolllaw29_BracketTaxes.tab16 payrolllaw29_BracketTaxes.bits16 (fun HT_ HW_ => ?_)
              generalize w89.drew = w90 at HO_10 HO_11 HO_12 HO_13 HB hx539_0 hx540_0 hx541_0 hHeld ⊢
              refine pure_ (i := 0) (N := some 127) (v := ?_) (a' := ?_) #[true, false, false, false, false, false, false, false, false, false, false, false, false, false, false, false, false, false, false] rfl rfl (any_of HT_.out (by kernel_rfl)) (fun _ _ _ h => h) (Or.inl ⟨by rfl, ?_⟩) ?_ ?_
              rotate_left
              ·
               intro w'
               go_simp
               with_reducible rfl
              rotate_left
              ·
               simp only [Act.put, List.setIfInBounds_toArray, List.set_cons_zero, List.set_cons_succ, i64_w, i32_w]
               rfl
              refine pure_ (i := 1) (N := some 128) (v := ?_) (a' := ?_) #[true, true, false, false, false, false, false, false, false, false, false, false, false, false, false, false, false, false, false] rfl rfl (any_of HT_.out (by kernel_rfl)) (fun _ _ _ h => h) (Or.inl ⟨by rfl, ?_⟩) ?_ ?_
              rotate_left
              ·
               intro w'
               go_simp
               with_reducible rfl
              rotate_left
              ·
               simp only [Act.put, List.setIfInBounds_toArray, List.set_cons_zero, List.set_cons_succ, i64_w, i32_w]
               rfl
              refine pure_ (i := 2) (N := some 129) (v := ?_) (a' := ?_) #[true, true, true, false, false, false, false, false, false, false, false, false, false, false, false, false, false, false, false] rfl rfl (any_of HT_.out (by kernel_rfl)) (fun _ _ _ h => h) (Or.inl ⟨by rfl, ?_⟩) ?_ ?_
              rotate_left
              ·
               intro w'
               go_simp
               with_reducible rfl
              rotate_left
              ·
               simp only [Act.put, List.setIfInBounds_toArray, List.set_cons_zero, List.set_cons_succ, i64_w, i32_w]
               rfl
              refine pure_ (i := 3) (N := some 130) (v := ?_) (a' := ?_) #[true, true, true, true, false, false, false, false, false, false, false, false, false, false, false, false, false, false, false] rfl rfl (any_of HT_.out (by kernel_rfl)) (fun _ _ _ h => h) (Or.inl ⟨by rfl, ?_⟩) ?_ ?_
              rotate_left
              ·
               intro w'
               go_simp
               with_reducible rfl
              rotate_left
              ·
               simp only [Act.put, List.setIfInBounds_toArray, List.set_cons_zero, List.set_cons_succ, i64_w, i32_w]
               rfl
              refine pure_ (i := 5) (N := some 132) (v := ?_) (a' := ?_) #[true, true, true, true, false, true, false, false, false, false, false, false, false, false, false, false, false, false, false] rfl rfl (any_of HT_.out (by kernel_rfl)) (fun _ _ _ h => h) (Or.inl ⟨by rfl, ?_⟩) ?_ ?_
              rotate_left
              ·
               intro w'
               go_simp
               with_reducible rfl
              rotate_left
              ·
               simp only [Act.put, List.setIfInBounds_toArray, List.set_cons_zero, List.set_cons_succ, i64_w, i32_w]
               rfl
              refine pure_ (i := 6) (N := some 133) (v := ?_) (a' := ?_) #[true, true, true, true, false, true, true, false, false, false, false, false, false, false, false, false, false, false, false] rfl rfl (any_of HT_.out (by kernel_rfl)) (fun _ _ _ h => h) (Or.inl ⟨by rfl, ?_⟩) ?_ ?_
              rotate_left
              ·
               intro w'
               go_simp
               with_reducible rfl
              rotate_left
              ·
               simp only [Act.put, List.setIfInBounds_toArray, List.set_cons_zero, List.set_cons_succ, i64_w, i32_w]
               rfl
              refine pure_ (i := 7) (N := some 134) (v := ?_) (a' := ?_) #[true, true, true, true, false, true, true, true, false, false, false, false, false, false, false, false, false, false, false] rfl rfl (any_of HT_.out (by kernel_rfl)) (fun _ _ _ h => h) (Or.inl ⟨by rfl, ?_⟩) ?_ ?_
              rotate_left
              ·
               intro w'
               go_simp
               with_reducible rfl
              rotate_left
              ·
               simp only [Act.put, List.setIfInBounds_toArray, List.set_cons_zero, List.set_cons_succ, i64_w, i32_w]
               rfl
              refine pure_ (i := 9) (N := some 136) (v := ?_) (a' := ?_) #[true, true, true, true, false, true, true, true, false, true, false, false, false, false, false, false, false, false, false] rfl rfl (any_of HT_.out (by kernel_rfl)) (fun _ _ _ h => h) (Or.inl ⟨by rfl, ?_⟩) ?_ ?_
              rotate_left
              ·
               intro w'
               go_simp
               with_reducible rfl
              rotate_left
              ·
               simp only [Act.put, List.setIfInBounds_toArray, List.set_cons_zero, List.set_cons_succ, i64_w, i32_w]
               rfl
              refine pure_ (i := 10) (N := some 137) (v := ?_) (a' := ?_) #[true, true, true, true, false, true, true, true, false, true, true, false, false, false, false, false, false, false, false] rfl rfl (any_of HT_.out (by kernel_rfl)) (fun _ _ _ h => h) (Or.inl ⟨by rfl, ?_⟩) ?_ ?_
              rotate_left
              ·
               intro w'
               go_simp
               with_reducible rfl
              rotate_left
              ·
               simp only [Act.put, List.setIfInBounds_toArray, List.set_cons_zero, List.set_cons_succ, i64_w, i32_w]
               rfl
              refine pure_ (i := 11) (N := some 138) (v := ?_) (a' := ?_) #[true, true, true, true, false, true, true, true, false, true, true, true, false, false, false, false, false, false, false] rfl rfl (any_of HT_.out (by kernel_rfl)) (fun _ _ _ h => h) (Or.inl ⟨by rfl, ?_⟩) ?_ ?_
              rotate_left
              ·
               intro w'
               go_simp
               with_reducible rfl
              rotate_left
              ·
               simp only [Act.put, List.setIfInBounds_toArray, List.set_cons_zero, List.set_cons_succ, i64_w, i32_w]
               rfl
              refine take_ (i := 4) (N := some 131) (v := ?_) (a' := ?_) #[true, true, true, true, true, true, true, true, false, true, true, true, false, false, false, false, false, false, false] rfl rfl (take_ofW HT_.out HW_.out (by kernel_rfl)) (fun _ _ _ h => h) (Or.inl ⟨by rfl, ?_⟩) hHeld ?_ ?_
              rotate_left
              ·
               rintro w' ⟨s0, s1, s2⟩
               go_simp
               with_reducible rfl
              rotate_left
              ·
               simp only [Act.put, List.setIfInBounds_toArray, List.set_cons_zero, List.set_cons_succ, i64_w, i32_w]
               rfl
              refine take_ (i := 8) (N := some 135) (v := ?_) (a' := ?_) #[true, true, true, true, true, true, true, true, true, true, true, true, false, false, false, false, false, false, false] rfl rfl (take_ofW HT_.out HW_.out (by kernel_rfl)) (fun _ _ _ h => h) (Or.inl ⟨by rfl, ?_⟩) hHeld ?_ ?_
              rotate_left
              ·
               rintro w' ⟨s0, s1, s2⟩
               go_simp
               with_reducible rfl
              rotate_left
              ·
               simp only [Act.put, List.setIfInBounds_toArray, List.set_cons_zero, List.set_cons_succ, i64_w, i32_w]
               rfl
              refine take_ (i := 12) (N := some 139) (v := ?_) (a' := ?_) #[true, true, true, true, true, true, true, true, true, true, true, true, true, false, false, false, false, false, false] rfl rfl (take_ofW HT_.out HW_.out (by kernel_rfl)) (fun _ _ _ h => h) (Or.inl ⟨by rfl, ?_⟩) hHeld ?_ ?_
              rotate_left
              ·
               rintro w' ⟨s0, s1, s2⟩
               go_simp
               with_reducible rfl
              rotate_left
              ·
               simp only [Act.put, List.setIfInBounds_toArray, List.set_cons_zero, List.set_cons_succ, i64_w, i32_w]
               rfl
              refine one_ (i := 13) (N := some 140) #[true, true, true, true, true, true, true, true, true, true, true, true, true, true, false, false, false, false, false] rfl rfl (one_of HT_.out (by kernel_rfl)) (by decide) (fun K hK => ?_)
              refine goes_ Try.func32 (by kernel_rfl) rfl #[.slice Ao12 t493.length co12, .int .i64 (rd y499 x14_1), .int .i64 (rd y507 x14_1), .int .i64 (rd y512 x14_1)] (by rfl) rfl rfl (by (try simp only [List.map_toArray, List.map_cons, List.map_nil]); first | done | rfl | (simp only [List.length_drop, List.length_take]; rfl)) ?_
              with_reducible refine (bracket_Tax.calls kj31 _ _ t493 (rd y499 x14_1) (rd y507 x14_1) (rd y512 x14_1) t542 t543 _ ?side1 ?side2 A55.out).mono ?_
              (case side1 => repeat (first | exact (Kd.R_reads' HO_10.out).2.2 | (with_reducible refine Kd.C_alloc ?_ _) | (with_reducible refine Kd.C_drewN ?_ _) | (with_reducible refine Kd.C_drew ?_)))
              (case side2 => exact (Kd.R_reads' HO_10.out).2.1)
              rintro e w93 ⟨rfl, hb⟩
              have HS0_ := (hb.cell (World.block_lt_of_cell? _ _ (hHeld.1))).trans (hHeld.1)
              have HS1_ := (hb.cell (World.block_lt_of_cell? _ _ (hHeld.2.1))).trans (hHeld.2.1)
              have HS2_ := (hb.cell (World.block_lt_of_cell? _ _ (hHeld.2.2))).trans (hHeld.2.2)
              refine ⟨_, rfl, ?_⟩
              have n0_ := Aside0.mk (Kd.R_below (by (with_reducible repeat (first | apply Kd.R_alloc | apply Kd.R_drewN | apply Kd.R_drew)); exact HO_10.out) hb)
              have n1_ := Aside0.mk (Kd.R_below (by (with_reducible repeat (first | apply Kd.R_alloc | apply Kd.R_drewN | apply Kd.R_drew)); exact HO_11.out) hb)
              have n2_ := Aside0.mk (Kd.R_below (by (with_reducible repeat (first | apply Kd.R_alloc | apply Kd.R_drewN | apply Kd.R_drew)); exact HO_12.out) hb)
              have n3_ := Aside0.mk (Kd.R_below (by (with_reducible repeat (first | apply Kd.R_alloc | apply Kd.R_drewN | apply Kd.R_drew)); exact HO_13.out) hb)
              have n4_ := Aside0.mk (below_step (by repeat (first | (with_reducible first | exact HB.out | apply below_alloc | apply pw_below_drewN | apply below_drew1) | exact HB.out)) hb)
              clear HO_10
              clear HO_11
              clear HO_12
              clear HO_13
              clear HB
              have HO_10 := n0_
              have HO_11 := n1_
              have HO_12 := n2_
              have HO_13 := n3_
              have HB := n4_
              clear n0_ n1_ n2_ n3_ n4_
              (try clear hb)
              (try clear hb2)
              (try clear hk)
              (try clear hi)
              refine hK.out _ _ ⟨HS0_, HS1_, HS2_⟩ (fun hHeld => ?_)
              clear hK K
              refine norm_ (a' := ?_) ?_ ?_
              rotate_left
              ·
               show Act.put _ (some 140) _ = _
               simp only [Act.put, List.setIfInBounds_toArray, List.set_cons_zero, List.set_cons_succ, i64_w, i32_w]
               rfl
              refine pure_ (i := 14) (N := some 126) (v := ?_) (a' := ?_) #[true, true, true, true, true, true, true, true, true, true, true, true, true, true, true, false, false, false, false] rfl rfl (any_of HT_.out (by kernel_rfl)) (fun _ _ _ h => h) (Or.inl ⟨by rfl, ?_⟩) ?_ ?_
              rotate_left
              ·
               intro w'
               go_simp
               with_reducible rfl
              rotate_left
              ·
               simp only [Act.put, List.setIfInBounds_toArray, List.set_cons_zero, List.set_cons_succ, i64_w, i32_w]
               rfl
              refine pure_ (i := 15) (N := some 141) (v := ?_) (a' := ?_) #[true, true, true, true, true, true, true, true, true, true, true, true, true, true, true, true, false, false, false] rfl rfl (any_of HT_.out (by kernel_rfl)) (fun _ _ _ h => h) (Or.inl ⟨by rfl, ?_⟩) ?_ ?_
              rotate_left
              ·
               intro w'
               go_simp
               with_reducible rfl
              rotate_left
              ·
               simp only [Act.put, List.setIfInBounds_toArray, List.set_cons_zero, List.set_cons_succ, i64_w, i32_w]
               rfl
              refine pure_ (i := 16) (N := some 142) (v := ?_) (a' := ?_) #[true, true, true, true, true, true, true, true, true, true, true, true, true, true, true, true, true, false, false] rfl rfl (any_of HT_.out (by kernel_rfl)) (fun _ _ _ h => h) (Or.inl ⟨by rfl, ?_⟩) ?_ ?_
              rotate_left
              ·
               intro w'
               go_simp
               with_reducible rfl
              rotate_left
              ·
               simp only [Act.put, List.setIfInBounds_toArray, List.set_cons_zero, List.set_cons_succ, i64_w, i32_w]
               rfl
              refine pure_ (i := 17) (N := some 27) (v := ?_) (a' := ?_) #[true, true, true, true, true, true, true, true, true, true, true, true, true, true, true, true, true, true, false] rfl rfl (any_of HT_.out (by kernel_rfl)) (fun _ _ _ h => h) (Or.inl ⟨by rfl, ?_⟩) ?_ ?_
              rotate_left
              ·
               intro w'
               go_simp
               with_reducible rfl
              rotate_left
              ·
               simp only [Act.put, List.setIfInBounds_toArray, List.set_cons_zero, List.set_cons_succ, i64_w, i32_w]
               rfl
              refine pure_ (i := 18) (N := some 28) (v := ?_) (a' := ?_) #[true, true, true, true, true, true, true, true, true, true, true, true, true, true, true, true, true, true, true] rfl rfl (any_of HT_.out (by kernel_rfl)) (fun _ _ _ h => h) (Or.inl ⟨by rfl, ?_⟩) ?_ ?_
              rotate_left
              ·
               intro w'
               go_simp
               with_reducible rfl
              rotate_left
              ·
               simp only [Act.put, List.setIfInBounds_toArray, List.set_cons_zero, List.set_cons_succ, i64_w, i32_w]
               rfl
              refine done_ (done_of HT_.out (by kernel_rfl)) ?_
              try go_wp2
              have n0_ := Aside0.mk (Kd.R_drew HO_10.out)
              have n1_ := Aside0.mk (Kd.R_drew HO_11.out)
              have n2_ := Aside0.mk (Kd.R_drew HO_12.out)
              have n3_ := Aside0.mk (Kd.R_drew HO_13.out)
              have n4_ := Aside0.mk (below_drew1 HB.out)
              clear HO_10
              clear HO_11
              clear HO_12
              clear HO_13
              clear HB
              have HO_10 := n0_
              have HO_11 := n1_
              have HO_12 := n2_
              have HO_13 := n3_
              have HB := n4_
              clear n0_ n1_ n2_ n3_ n4_
              have p544 : 0 ≤ (x14_1 : Int) := of_decide_eq_true (by first | (with_reducible assumption) | assumption)
              have q544 : x14_1 < (y499.length : Int) := of_decide_eq_true (by first | (with_reducible assumption) | assumption)
              obtain ⟨ad544, e544, hx544_0⟩ := Kd.at_int (Kd.R_reads' HO_11.out).2.2 x14_1 p544 q544
              obtain rfl : ad516 = ad544 := (by injection e544)
              replace p544 := eq_true p544
              replace q544 := eq_true q544
              have p545 : 0 ≤ (x14_1 : Int) := of_decide_eq_true (by first | (with_reducible assumption) | assumption)
              have q545 : x14_1 < (y507.length : Int) := of_decide_eq_true (by first | (with_reducible assumption) | assumption)
              obtain ⟨ad545, e545, hx545_0⟩ := Kd.at_int (Kd.R_reads' HO_12.out).2.2 x14_1 p545 q545
              obtain rfl : ad540 = ad545 := (by injection e545)
              replace p545 := eq_true p545
              replace q545 := eq_true q545
              have p546 : 0 ≤ (x14_1 : Int) := of_decide_eq_true (by first | (with_reducible assumption) | assumption)
              have q546 : x14_1 < (y512.length : Int) := of_decide_eq_true (by first | (with_reducible assumption) | assumption)
              obtain ⟨ad546, e546, hx546_0⟩ := Kd.at_int (Kd.R_reads' HO_13.out).2.2 x14_1 p546 q546
              obtain rfl : ad541 = ad546 := (by injection e546)
              replace p546 := eq_true p546
              replace q546 := eq_true q546
              refine start_ (n := 19) (S := fun w' => w'.cell? (ad516.add (x14_1).toNat) = some (.int .i64 (rd y499 x14_1)) ∧ w'.cell? (ad540.add (x14_1).toNat) = some (.int .i64 (rd y507 x14_1)) ∧ w'.cell? (ad541.add (x14_1).toNat) = some (.int .i64 (rd y512 x14_1))) (ds := []) #[false, false, false, false, false, false, false, false, false, false, false, false, false, false, false, false, false, false, false] (by kernel_rfl) rfl rfl ⟨hx544_0, hx545_0, hx546_0⟩ (fun hHeld => ?_); refine with_tabW payrolllaw29_BracketTaxes.tab17 payrolllaw29_BracketTaxes.bits17 (fun HT_ HW_ => ?_)
              generalize w93.drew = w94 at HO_10 HO_11 HO_12 HO_13 HB hx544_0 hx545_0 hx546_0 hHeld ⊢
              refine pure_ (i := 0) (N := some 144) (v := ?_) (a' := ?_) #[true, false, false, false, false, false, false, false, false, false, false, false, false, false, false, false, false, false, false] rfl rfl (any_of HT_.out (by kernel_rfl)) (fun _ _ _ h => h) (Or.inl ⟨by rfl, ?_⟩) ?_ ?_
              rotate_left
              ·
               intro w'
               go_simp
               with_reducible rfl
              rotate_left
              ·
               simp only [Act.put, List.setIfInBounds_toArray, List.set_cons_zero, List.set_cons_succ, i64_w, i32_w]
               rfl
              refine pure_ (i := 1) (N := some 145) (v := ?_) (a' := ?_) #[true, true, false, false, false, false, false, false, false, false, false, false, false, false, false, false, false, false, false] rfl rfl (any_of HT_.out (by kernel_rfl)) (fun _ _ _ h => h) (Or.inl ⟨by rfl, ?_⟩) ?_ ?_
              rotate_left
              ·
               intro w'
               go_simp
               with_reducible rfl
              rotate_left
              ·
               simp only [Act.put, List.setIfInBounds_toArray, List.set_cons_zero, List.set_cons_succ, i64_w, i32_w]
               rfl
              refine pure_ (i := 2) (N := some 146) (v := ?_) (a' := ?_) #[true, true, true, false, false, false, false, false, false, false, false, false, false, false, false, false, false, false, false] rfl rfl (any_of HT_.out (by kernel_rfl)) (fun _ _ _ h => h) (Or.inl ⟨by rfl, ?_⟩) ?_ ?_
              rotate_left
              ·
               intro w'
               go_simp
               with_reducible rfl
              rotate_left
              ·
               simp only [Act.put, List.setIfInBounds_toArray, List.set_cons_zero, List.set_cons_succ, i64_w, i32_w]
               rfl
              refine pure_ (i := 3) (N := some 147) (v := ?_) (a' := ?_) #[true, true, true, true, false, false, false, false, false, false, false, false, false, false, false, false, false, false, false] rfl rfl (any_of HT_.out (by kernel_rfl)) (fun _ _ _ h => h) (Or.inl ⟨by rfl, ?_⟩) ?_ ?_
              rotate_left
              ·
               intro w'
               go_simp
               with_reducible rfl
              rotate_left
              ·
               simp only [Act.put, List.setIfInBounds_toArray, List.set_cons_zero, List.set_cons_succ, i64_w, i32_w]
               rfl
              refine pure_ (i := 5) (N := some 149) (v := ?_) (a' := ?_) #[true, true, true, true, false, true, false, false, false, false, false, false, false, false, false, false, false, false, false] rfl rfl (any_of HT_.out (by kernel_rfl)) (fun _ _ _ h => h) (Or.inl ⟨by rfl, ?_⟩) ?_ ?_
              rotate_left
              ·
               intro w'
               go_simp
               with_reducible rfl
              rotate_left
              ·
               simp only [Act.put, List.setIfInBounds_toArray, List.set_cons_zero, List.set_cons_succ, i64_w, i32_w]
               rfl
              refine pure_ (i := 6) (N := some 150) (v := ?_) (a' := ?_) #[true, true, true, true, false, true, true, false, false, false, false, false, false, false, false, false, false, false, false] rfl rfl (any_of HT_.out (by kernel_rfl)) (fun _ _ _ h => h) (Or.inl ⟨by rfl, ?_⟩) ?_ ?_
              rotate_left
              ·
               intro w'
               go_simp
               with_reducible rfl
              rotate_left
              ·
               simp only [Act.put, List.setIfInBounds_toArray, List.set_cons_zero, List.set_cons_succ, i64_w, i32_w]
               rfl
              refine pure_ (i := 7) (N := some 151) (v := ?_) (a' := ?_) #[true, true, true, true, false, true, true, true, false, false, false, false, false, false, false, false, false, false, false] rfl rfl (any_of HT_.out (by kernel_rfl)) (fun _ _ _ h => h) (Or.inl ⟨by rfl, ?_⟩) ?_ ?_
              rotate_left
              ·
               intro w'
               go_simp
               with_reducible rfl
              rotate_left
              ·
               simp only [Act.put, List.setIfInBounds_toArray, List.set_cons_zero, List.set_cons_succ, i64_w, i32_w]
               rfl
              refine pure_ (i := 9) (N := some 153) (v := ?_) (a' := ?_) #[true, true, true, true, false, true, true, true, false, true, false, false, false, false, false, false, false, false, false] rfl rfl (any_of HT_.out (by kernel_rfl)) (fun _ _ _ h => h) (Or.inl ⟨by rfl, ?_⟩) ?_ ?_
              rotate_left
              ·
               intro w'
               go_simp
               with_reducible rfl
              rotate_left
              ·
               simp only [Act.put, List.setIfInBounds_toArray, List.set_cons_zero, List.set_cons_succ, i64_w, i32_w]
               rfl
              refine pure_ (i := 10) (N := some 154) (v := ?_) (a' := ?_) #[true, true, true, true, false, true, true, true, false, true, true, false, false, false, false, false, false, false, false] rfl rfl (any_of HT_.out (by kernel_rfl)) (fun _ _ _ h => h) (Or.inl ⟨by rfl, ?_⟩) ?_ ?_
              rotate_left
              ·
               intro w'
               go_simp
               with_reducible rfl
              rotate_left
              ·
               simp only [Act.put, List.setIfInBounds_toArray, List.set_cons_zero, List.set_cons_succ, i64_w, i32_w]
               rfl
              refine pure_ (i := 11) (N := some 155) (v := ?_) (a' := ?_) #[true, true, true, true, false, true, true, true, false, true, true, true, false, false, false, false, false, false, false] rfl rfl (any_of HT_.out (by kernel_rfl)) (fun _ _ _ h => h) (Or.inl ⟨by rfl, ?_⟩) ?_ ?_
              rotate_left
              ·
               intro w'
               go_simp
               with_reducible rfl
              rotate_left
              ·
               simp only [Act.put, List.setIfInBounds_toArray, List.set_cons_zero, List.set_cons_succ, i64_w, i32_w]
               rfl
              refine take_ (i := 4) (N := some 148) (v := ?_) (a' := ?_) #[true, true, true, true, true, true, true, true, false, true, true, true, false, false, false, false, false, false, false] rfl rfl (take_ofW HT_.out HW_.out (by kernel_rfl)) (fun _ _ _ h => h) (Or.inl ⟨by rfl, ?_⟩) hHeld ?_ ?_
              rotate_left
              ·
               rintro w' ⟨s0, s1, s2⟩
               go_simp
               with_reducible rfl
              rotate_left
              ·
               simp only [Act.put, List.setIfInBounds_toArray, List.set_cons_zero, List.set_cons_succ, i64_w, i32_w]
               rfl
              refine take_ (i := 8) (N := some 152) (v := ?_) (a' := ?_) #[true, true, true, true, true, true, true, true, true, true, true, true, false, false, false, false, false, false, false] rfl rfl (take_ofW HT_.out HW_.out (by kernel_rfl)) (fun _ _ _ h => h) (Or.inl ⟨by rfl, ?_⟩) hHeld ?_ ?_
              rotate_left
              ·
               rintro w' ⟨s0, s1, s2⟩
               go_simp
               with_reducible rfl
              rotate_left
              ·
               simp only [Act.put, List.setIfInBounds_toArray, List.set_cons_zero, List.set_cons_succ, i64_w, i32_w]
               rfl
              refine take_ (i := 12) (N := some 156) (v := ?_) (a' := ?_) #[true, true, true, true, true, true, true, true, true, true, true, true, true, false, false, false, false, false, false] rfl rfl (take_ofW HT_.out HW_.out (by kernel_rfl)) (fun _ _ _ h => h) (Or.inl ⟨by rfl, ?_⟩) hHeld ?_ ?_
              rotate_left
              ·
               rintro w' ⟨s0, s1, s2⟩
               go_simp
               with_reducible rfl
              rotate_left
              ·
               simp only [Act.put, List.setIfInBounds_toArray, List.set_cons_zero, List.set_cons_succ, i64_w, i32_w]
               rfl
              refine one_ (i := 13) (N := some 157) #[true, true, true, true, true, true, true, true, true, true, true, true, true, true, false, false, false, false, false] rfl rfl (one_of HT_.out (by kernel_rfl)) (by decide) (fun K hK => ?_)
              refine goes_ Try.func36 (by kernel_rfl) rfl #[.slice Ao12 t493.length co12, .int .i64 (rd y499 x14_1), .int .i64 (rd y507 x14_1), .int .i64 (rd y512 x14_1)] (by rfl) rfl rfl (by (try simp only [List.map_toArray, List.map_cons, List.map_nil]); first | done | rfl | (simp only [List.length_drop, List.length_take]; rfl)) ?_
              with_reducible refine (payrollref29_Tax.calls kj31 _ _ t493 (rd y499 x14_1) (rd y507 x14_1) (rd y512 x14_1) t547 t548 _ ?side1 ?side2 A56.out).mono ?_
              (case side1 => repeat (first | exact (Kd.R_reads' HO_10.out).2.2 | (with_reducible refine Kd.C_alloc ?_ _) | (with_reducible refine Kd.C_drewN ?_ _) | (with_reducible refine Kd.C_drew ?_)))
              (case side2 => exact (Kd.R_reads' HO_10.out).2.1)
              rintro e w95 ⟨rfl, hb⟩
              have HS0_ := (hb.cell (World.block_lt_of_cell? _ _ (hHeld.1))).trans (hHeld.1)
              have HS1_ := (hb.cell (World.block_lt_of_cell? _ _ (hHeld.2.1))).trans (hHeld.2.1)
              have HS2_ := (hb.cell (World.block_lt_of_cell? _ _ (hHeld.2.2))).trans (hHeld.2.2)
              refine ⟨_, rfl, ?_⟩
              have n0_ := Aside0.mk (Kd.R_below (by (with_reducible repeat (first | apply Kd.R_alloc | apply Kd.R_drewN | apply Kd.R_drew)); exact HO_10.out) hb)
              have n1_ := Aside0.mk (Kd.R_below (by (with_reducible repeat (first | apply Kd.R_alloc | apply Kd.R_drewN | apply Kd.R_drew)); exact HO_11.out) hb)
              have n2_ := Aside0.mk (Kd.R_below (by (with_reducible repeat (first | apply Kd.R_alloc | apply Kd.R_drewN | apply Kd.R_drew)); exact HO_12.out) hb)
              have n3_ := Aside0.mk (Kd.R_below (by (with_reducible repeat (first | apply Kd.R_alloc | apply Kd.R_drewN | apply Kd.R_drew)); exact HO_13.out) hb)
              have n4_ := Aside0.mk (below_step (by repeat (first | (with_reducible first | exact HB.out | apply below_alloc | apply pw_below_drewN | apply below_drew1) | exact HB.out)) hb)
              clear HO_10
              clear HO_11
              clear HO_12
              clear HO_13
              clear HB
              have HO_10 := n0_
              have HO_11 := n1_
              have HO_12 := n2_
              have HO_13 := n3_
              have HB := n4_
              clear n0_ n1_ n2_ n3_ n4_
              (try clear hb)
              (try clear hb2)
              (try clear hk)
              (try clear hi)
              refine hK.out _ _ ⟨HS0_, HS1_, HS2_⟩ (fun hHeld => ?_)
              clear hK K
              refine norm_ (a' := ?_) ?_ ?_
              rotate_left
              ·
               show Act.put _ (some 157) _ = _
               simp only [Act.put, List.setIfInBounds_toArray, List.set_cons_zero, List.set_cons_succ, i64_w, i32_w]
               rfl
              refine pure_ (i := 14) (N := some 143) (v := ?_) (a' := ?_) #[true, true, true, true, true, true, true, true, true, true, true, true, true, true, true, false, false, false, false] rfl rfl (any_of HT_.out (by kernel_rfl)) (fun _ _ _ h => h) (Or.inl ⟨by rfl, ?_⟩) ?_ ?_
              rotate_left
              ·
               intro w'
               go_simp
               with_reducible rfl
              rotate_left
              ·
               simp only [Act.put, List.setIfInBounds_toArray, List.set_cons_zero, List.set_cons_succ, i64_w, i32_w]
               rfl
              refine pure_ (i := 15) (N := some 158) (v := ?_) (a' := ?_) #[true, true, true, true, true, true, true, true, true, true, true, true, true, true, true, true, false, false, false] rfl rfl (any_of HT_.out (by kernel_rfl)) (fun _ _ _ h => h) (Or.inl ⟨by rfl, ?_⟩) ?_ ?_
              rotate_left
              ·
               intro w'
               go_simp
               with_reducible rfl
              rotate_left
              ·
               simp only [Act.put, List.setIfInBounds_toArray, List.set_cons_zero, List.set_cons_succ, i64_w, i32_w]
               rfl
              refine pure_ (i := 16) (N := some 159) (v := ?_) (a' := ?_) #[true, true, true, true, true, true, true, true, true, true, true, true, true, true, true, true, true, false, false] rfl rfl (any_of HT_.out (by kernel_rfl)) (fun _ _ _ h => h) (Or.inl ⟨by rfl, ?_⟩) ?_ ?_
              rotate_left
              ·
               intro w'
               go_simp
               with_reducible rfl
              rotate_left
              ·
               simp only [Act.put, List.setIfInBounds_toArray, List.set_cons_zero, List.set_cons_succ, i64_w, i32_w]
               rfl
              refine pure_ (i := 17) (N := some 29) (v := ?_) (a' := ?_) #[true, true, true, true, true, true, true, true, true, true, true, true, true, true, true, true, true, true, false] rfl rfl (any_of HT_.out (by kernel_rfl)) (fun _ _ _ h => h) (Or.inl ⟨by rfl, ?_⟩) ?_ ?_
              rotate_left
              ·
               intro w'
               go_simp
               with_reducible rfl
              rotate_left
              ·
               simp only [Act.put, List.setIfInBounds_toArray, List.set_cons_zero, List.set_cons_succ, i64_w, i32_w]
               rfl
              refine pure_ (i := 18) (N := some 30) (v := ?_) (a' := ?_) #[true, true, true, true, true, true, true, true, true, true, true, true, true, true, true, true, true, true, true] rfl rfl (any_of HT_.out (by kernel_rfl)) (fun _ _ _ h => h) (Or.inl ⟨by rfl, ?_⟩) ?_ ?_
              rotate_left
              ·
               intro w'
               go_simp
               with_reducible rfl
              rotate_left
              ·
               simp only [Act.put, List.setIfInBounds_toArray, List.set_cons_zero, List.set_cons_succ, i64_w, i32_w]
               rfl
              refine done_ (done_of HT_.out (by kernel_rfl)) ?_
              try go_wp2
              go_ret
              exact ⟨by first | rfl | (simp [errW_none, errW_some] <;> rfl) | (simp [*, errW_none, errW_some] <;> rfl), by repeat (first | (with_reducible first | exact HB.out | apply below_alloc | apply pw_below_drewN | apply below_drew1) | exact HB.out)⟩
            ·
             rw [if_neg c54] at H
             exact absurd H (by simp)
           ·
            rw [if_neg c53] at H
            exact absurd H (by simp)
          ·
           rw [if_neg c50] at H
           exact absurd H (by simp)
         ·
          rw [if_neg c49] at H
          exact absurd H (by simp)
     ·
      rw [if_neg c27] at H
      exact absurd H (by simp)
    ·
     rw [if_neg c26] at H
     exact absurd H (by simp)
   ·
    rw [if_neg c25] at H
    have c25b0 : decide (x14_1 < 2) = false := decide_eq_false c25
    clear c25
    replace H := Option.bind_eq_some_iff.mp H
    obtain ⟨t515, A960, H⟩ := H
    replace H : (some t515) = some r := H
    have A96 := Aside0.mk A960
    clear A960
    obtain rfl := Option.some.inj H
    go_wp2_with (first | ((with_reducible refine gate_callee (f := 12) rfl ?_); refine goesL_ (some 178) rfl rfl Try.func12 (by kernel_rfl) rfl #[] rfl (by (try simp only [List.map_toArray, List.map_cons, List.map_nil]); first | done | rfl | (simp only [List.length_drop, List.length_take]; rfl)) ?_; (with_reducible refine (payrolllaw29_awake.calls k1  t515 _ A96.out).mono ?_); rintro e w97 ⟨rfl, hb⟩; refine ⟨_, rfl, ?_⟩; have n0_ := Aside0.mk (Kd.R_below (by (with_reducible repeat (first | apply Kd.R_alloc | apply Kd.R_drewN | apply Kd.R_drew)); exact HO_10.out) hb); have n1_ := Aside0.mk (Kd.R_below (by (with_reducible repeat (first | apply Kd.R_alloc | apply Kd.R_drewN | apply Kd.R_drew)); exact HO_11.out) hb); have n2_ := Aside0.mk (Kd.R_below (by (with_reducible repeat (first | apply Kd.R_alloc | apply Kd.R_drewN | apply Kd.R_drew)); exact HO_12.out) hb); have n3_ := Aside0.mk (Kd.R_below (by (with_reducible repeat (first | apply Kd.R_alloc | apply Kd.R_drewN | apply Kd.R_drew)); exact HO_13.out) hb); have n4_ := Aside0.mk (below_step (by repeat (first | (with_reducible first | exact HB.out | apply below_alloc | apply pw_below_drewN | apply below_drew1) | exact HB.out)) hb); clear HO_10; clear HO_11; clear HO_12; clear HO_13; clear HB; have HO_10 := n0_; have HO_11 := n1_; have HO_12 := n2_; have HO_13 := n3_; have HB := n4_; clear n0_ n1_ n2_ n3_ n4_; (try clear hb); (try clear hb2); (try clear hk); (try clear hi)))
    go_ret
    exact ⟨by first | rfl | (simp [errW_none, errW_some] <;> rfl) | (simp [*, errW_none, errW_some] <;> rfl), by repeat (first | (with_reducible first | exact HB.out | apply below_alloc | apply pw_below_drewN | apply below_drew1) | exact HB.out)⟩

/-- THE ONE PURE STATEMENT of payrolllaw29_BracketTaxes: yours. -/
def payrolllaw29_BracketTaxes.Pure : Prop := ∀ (l0 : List Int) (a1 : Int) (a2 : Int) (a3 : Int), l0.length ≤ maxLen → l0.length * 8 ≤ 140737488351232 → (∀ x ∈ l0, (Lit.int .i64 x).wf = true) → (Lit.int .i64 a1).wf = true → (Lit.int .i64 a2).wf = true → (Lit.int .i64 a3).wf = true → ∃ k, payrolllaw29_BracketTaxes.f k l0 a1 a2 a3 = some true
theorem payrolllaw29_BracketTaxes.walk (P : payrolllaw29_BracketTaxes.Pure) (a0 : Option Addr) (len0 cap0 : Nat) (z0 : List Int) (a1 : Int) (a2 : Int) (a3 : Int) (w : World) (w0 : (a0 = none ∧ len0 = 0 ∧ cap0 = 0 ∧ z0 = []) ∨ ∃ x, a0 = some x ∧ len0 ≤ cap0 ∧ cap0 ≤ maxLen ∧ z0.length = cap0 ∧ (∀ i, i < z0.length → w.cell? (x.add i) = some (.int .i64 (z0.getD i 0))) ∧ ∀ n ∈ z0, (Lit.int .i64 n).wf = true) (y0 : len0 * 8 ≤ 140737488351232) (w1 : (Lit.int .i64 a1).wf = true) (w2 : (Lit.int .i64 a2).wf = true) (w3 : (Lit.int .i64 a3).wf = true) :
  Calls Try.prog 11 #[.slice a0 len0 cap0, .int .i64 a1, .int .i64 a2, .int .i64 a3] w fun e w' => e = .returned (.bool true) ∧ Below w.heap.size w w' := by
 obtain ⟨l0, rfl, hr0, hm0, hw0, hc0⟩ := ReadsInt.ofRowC w0
 obtain ⟨k, h⟩ := P l0 a1 a2 a3 hm0 y0 hw0 w1 w2 w3
 refine (payrolllaw29_BracketTaxes.calls k _ _ l0 a1 a2 a3 true w (Kd.C_of_reads (d := (0 : Int)) (h1 := fun _ => rfl) hr0) hc0 h).mono ?_
 rintro e w' ⟨rfl, hd⟩
 exact ⟨rfl, hd⟩

end Go.Proofs.Ytafoplpaoahdiaa.P
