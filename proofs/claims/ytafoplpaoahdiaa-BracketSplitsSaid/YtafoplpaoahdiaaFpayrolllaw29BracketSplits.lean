/- Proved here: that the Go function payrolllaw29_BracketSplits computes the plain function of that name (the machine side of the laws, reworked from a print; no condition of its own). -/
import Derived.Test.YtafoplpaoahdiaaProg
import Derived.Test.YtafoplpaoahdiaaV1
import Derived.Test.YtafoplpaoahdiaaFPRE0
import Derived.Test.YtafoplpaoahdiaaFPRE1
import Derived.Test.YtafoplpaoahdiaaFPRE2
import Derived.Test.YtafoplpaoahdiaaFbracketSplit
import Derived.Test.YtafoplpaoahdiaaFbracketExact
import Derived.Test.YtafoplpaoahdiaaFpayrolllaw29awake
import Derived.Test.YtafoplpaoahdiaaFPRE3
import Derived.Test.YtafoplpaoahdiaaFpaygenNew
import Derived.Test.YtafoplpaoahdiaaFpaygenDeckBrackets
import Derived.Test.YtafoplpaoahdiaaFpayrolllaw29income
namespace Go.Proofs.Ytafoplpaoahdiaa.P
open Go.RowKit Go.Proofs.YtafoplpaoahdiaaW.PrintWords Go.Proofs.YtafoplpaoahdiaaW.PrintLast Go.Proofs.YtafoplpaoahdiaaW.PrintMore
attribute [local go_sem] max2_int min2_int max_two min_two max_three min_three max_four min_four   -- for this text's walks alone
set_option linter.unusedVariables false
set_option linter.unusedSimpArgs false

attribute [local go_sem high] eqA30
mutual
def payrolllaw29_BracketSplits.j0 : Nat → List (S30) → Int → List Int → Int → Bool → Option (Bool)
 | 0, _, _, _, _, _ => none
 | k + 1, x4, x5, x6, x8, x44 => if x44 = true then (some false) else (payrolllaw29_BracketSplits.l0 k x4 x5 x6 x8 0 0 0)
def payrolllaw29_BracketSplits.l0 : Nat → List (S30) → Int → List Int → Int → Int → Int → Int → Option (Bool)
 | 0, _, _, _, _, _, _, _ => none
 | k + 1, x4, x5, x6, x8, x10, x11, x12 => if x12 < (x6.length : Int) then (if 0 ≤ x12 then (if x12 < (x4.length : Int) then (if (wrap64 (x12 + 1)) < (x6.length : Int) then (if 0 ≤ (wrap64 (x12 + 1)) then (if (rd x6 (wrap64 (x12 + 1))) > 0 then (if (wrap64 (x12 + 1)) < (x4.length : Int) then (if (rd x6 x12) = (wrap64 (((rd_T30 x4 (wrap64 (x12 + 1))).f0) - ((rd_T30 x4 x12).f0))) then (if (rd x6 x12) < 0 then (some false) else (payrolllaw29_BracketSplits.l0 k x4 x5 x6 x8 (wrap64 (x10 + (rd x6 x12))) (wrap64 (x11 + (wrap64 ((rd x6 x12) * ((rd_T30 x4 x12).f1))))) (wrap64 (x12 + 1)))) else (some false)) else (none)) else (if (rd x6 x12) < 0 then (some false) else (payrolllaw29_BracketSplits.l0 k x4 x5 x6 x8 (wrap64 (x10 + (rd x6 x12))) (wrap64 (x11 + (wrap64 ((rd x6 x12) * ((rd_T30 x4 x12).f1))))) (wrap64 (x12 + 1))))) else (none)) else (if (rd x6 x12) < 0 then (some false) else (payrolllaw29_BracketSplits.l0 k x4 x5 x6 x8 (wrap64 (x10 + (rd x6 x12))) (wrap64 (x11 + (wrap64 ((rd x6 x12) * ((rd_T30 x4 x12).f1))))) (wrap64 (x12 + 1))))) else (none)) else (none)) else (if x10 = x5 then (if x11 = x8 then ((payrolllaw29_awake.f k).bind fun t297 => (some t297)) else (some false)) else (some false))
end
def payrolllaw29_BracketSplits.f (k : Nat) (l0 : List Int) : Option (Bool) := (paygen_New.f l0).bind fun bt272 => ((paygen_Deck_Brackets.f k bt272.1 bt272.2 false).bind fun bt275 => ((payrolllaw29_income.f bt272.1 bt275.2 bt275.1).bind fun bt279 => ((bracket_Split.f k bt275.1 bt279.1).bind fun bt281 => ((bracket_Exact.f k bt275.1 bt279.1).bind fun bt285 => (if bt281.2 = 0 then (if bt285.2 = 0 then (payrolllaw29_BracketSplits.j0 k bt275.1 bt279.1 bt281.1 bt285.1 ((bt281.1.length : Int) != (bt275.1.length : Int))) else (payrolllaw29_BracketSplits.j0 k bt275.1 bt279.1 bt281.1 bt285.1 true)) else (payrolllaw29_BracketSplits.j0 k bt275.1 bt279.1 bt281.1 bt285.1 true))))))
theorem payrolllaw29_BracketSplits.mono_l : ∀ k, (∀ y0 y1 y2 y3 y4, LeO (payrolllaw29_BracketSplits.j0 k y0 y1 y2 y3 y4) (payrolllaw29_BracketSplits.j0 (k + 1) y0 y1 y2 y3 y4)) ∧ (∀ y0 y1 y2 y3 y4 y5 y6, LeO (payrolllaw29_BracketSplits.l0 k y0 y1 y2 y3 y4 y5 y6) (payrolllaw29_BracketSplits.l0 (k + 1) y0 y1 y2 y3 y4 y5 y6))
 | 0 => ⟨fun _ _ _ _ _ r h => by simp [payrolllaw29_BracketSplits.j0] at h, fun _ _ _ _ _ _ _ r h => by simp [payrolllaw29_BracketSplits.l0] at h⟩
 | k + 1 => by
  obtain ⟨ih0, ih1⟩ := payrolllaw29_BracketSplits.mono_l k
  refine ⟨?_, ?_⟩
  ·
   intro y0 y1 y2 y3 y4
   unfold payrolllaw29_BracketSplits.j0
   repeat' first
   | (with_reducible exact ih0 _ _ _ _ _)
   | (with_reducible exact ih1 _ _ _ _ _ _ _)
   | (with_reducible exact bracket_Exact.mono _ _ _)
   | (with_reducible exact bracket_Split.mono _ _ _)
   | (with_reducible exact paygen_Deck_Brackets.mono _ _ _ _)
   | (with_reducible exact payrolllaw29_awake.mono _)
   | (with_reducible exact LeO.refl _)
   | (with_reducible exact LeO.none _)
   | (with_reducible refine LeO.ite ?_ ?_)
   | (with_reducible refine LeO.bind ?_ (fun _ => ?_))
   | exact ih0 _ _ _ _ _
   | exact ih1 _ _ _ _ _ _ _
   | exact bracket_Exact.mono _ _ _
   | exact bracket_Split.mono _ _ _
   | exact paygen_Deck_Brackets.mono _ _ _ _
   | exact payrolllaw29_awake.mono _
   | exact LeO.none _
   | refine LeO.ite ?_ ?_
   | refine LeO.bind ?_ (fun _ => ?_)
  ·
   intro y0 y1 y2 y3 y4 y5 y6
   unfold payrolllaw29_BracketSplits.l0
   repeat' first
   | (with_reducible exact ih0 _ _ _ _ _)
   | (with_reducible exact ih1 _ _ _ _ _ _ _)
   | (with_reducible exact bracket_Exact.mono _ _ _)
   | (with_reducible exact bracket_Split.mono _ _ _)
   | (with_reducible exact paygen_Deck_Brackets.mono _ _ _ _)
   | (with_reducible exact payrolllaw29_awake.mono _)
   | (with_reducible exact LeO.refl _)
   | (with_reducible exact LeO.none _)
   | (with_reducible refine LeO.ite ?_ ?_)
   | (with_reducible refine LeO.bind ?_ (fun _ => ?_))
   | exact ih0 _ _ _ _ _
   | exact ih1 _ _ _ _ _ _ _
   | exact bracket_Exact.mono _ _ _
   | exact bracket_Split.mono _ _ _
   | exact paygen_Deck_Brackets.mono _ _ _ _
   | exact payrolllaw29_awake.mono _
   | exact LeO.none _
   | refine LeO.ite ?_ ?_
   | refine LeO.bind ?_ (fun _ => ?_)
theorem payrolllaw29_BracketSplits.mono : ∀ a0 k, LeO (payrolllaw29_BracketSplits.f k a0) (payrolllaw29_BracketSplits.f (k + 1) a0) := by
 intro a0 k
 obtain ⟨ih0, ih1⟩ := payrolllaw29_BracketSplits.mono_l k
 unfold payrolllaw29_BracketSplits.f
 repeat' first
   | (with_reducible exact ih0 _ _ _ _ _)
   | (with_reducible exact ih1 _ _ _ _ _ _ _)
   | (with_reducible exact bracket_Exact.mono _ _ _)
   | (with_reducible exact bracket_Split.mono _ _ _)
   | (with_reducible exact paygen_Deck_Brackets.mono _ _ _ _)
   | (with_reducible exact payrolllaw29_awake.mono _)
   | (with_reducible exact LeO.refl _)
   | (with_reducible exact LeO.none _)
   | (with_reducible refine LeO.ite ?_ ?_)
   | (with_reducible refine LeO.bind ?_ (fun _ => ?_))
   | exact ih0 _ _ _ _ _
   | exact ih1 _ _ _ _ _ _ _
   | exact bracket_Exact.mono _ _ _
   | exact bracket_Split.mono _ _ _
   | exact paygen_Deck_Brackets.mono _ _ _ _
   | exact payrolllaw29_awake.mono _
   | exact LeO.none _
   | refine LeO.ite ?_ ?_
   | refine LeO.bind ?_ (fun _ => ?_)
set_option maxHeartbeats 8000000 in
set_option maxRecDepth 100000 in
theorem payrolllaw29_BracketSplits.calls (k : Nat) (A0 : Option Addr) (c0 : Nat) (l0 : List Int) (r : Bool) (w : World) (hr0 : Kd.C (Kd.int .i64) w A0 l0.length l0) (hc0 : l0.length ≤ c0) (h : payrolllaw29_BracketSplits.f k l0 = some r) :
  Calls Try.prog 4 #[.slice A0 l0.length c0] w fun e w' => e = .returned (.bool r) ∧ Below w.heap.size w w' := by
 have HR0 := Aside0.mk hr0
 have HC0 := Aside0.mk hc0
 clear hr0 hc0
 have HB := Aside0.mk (Below.refl w.heap.size w)
 have H : ((paygen_New.f l0).bind fun bt272 => ((paygen_Deck_Brackets.f k bt272.1 bt272.2 false).bind fun bt275 => ((payrolllaw29_income.f bt272.1 bt275.2 bt275.1).bind fun bt279 => ((bracket_Split.f k bt275.1 bt279.1).bind fun bt281 => ((bracket_Exact.f k bt275.1 bt279.1).bind fun bt285 => (if bt281.2 = 0 then (if bt285.2 = 0 then (payrolllaw29_BracketSplits.j0 k bt275.1 bt279.1 bt281.1 bt285.1 ((bt281.1.length : Int) != (bt275.1.length : Int))) else (payrolllaw29_BracketSplits.j0 k bt275.1 bt279.1 bt281.1 bt285.1 true)) else (payrolllaw29_BracketSplits.j0 k bt275.1 bt279.1 bt281.1 bt285.1 true))))))) = some r := h
 clear h
 replace H := Option.bind_eq_some_iff.mp H
 obtain ⟨⟨t272, t273⟩, A20, H⟩ := H
 replace H : ((paygen_Deck_Brackets.f k t272 t273 false).bind fun bt275 => ((payrolllaw29_income.f t272 bt275.2 bt275.1).bind fun bt279 => ((bracket_Split.f k bt275.1 bt279.1).bind fun bt281 => ((bracket_Exact.f k bt275.1 bt279.1).bind fun bt285 => (if bt281.2 = 0 then (if bt285.2 = 0 then (payrolllaw29_BracketSplits.j0 k bt275.1 bt279.1 bt281.1 bt285.1 ((bt281.1.length : Int) != (bt275.1.length : Int))) else (payrolllaw29_BracketSplits.j0 k bt275.1 bt279.1 bt281.1 bt285.1 true)) else (payrolllaw29_BracketSplits.j0 k bt275.1 bt279.1 bt281.1 bt285.1 true)))))) = some r := H
 have A2 := Aside0.mk A20
 clear A20
 replace H := Option.bind_eq_some_iff.mp H
 obtain ⟨⟨t275, t278⟩, A30, H⟩ := H
 replace H : ((payrolllaw29_income.f t272 t278 t275).bind fun bt279 => ((bracket_Split.f k t275 bt279.1).bind fun bt281 => ((bracket_Exact.f k t275 bt279.1).bind fun bt285 => (if bt281.2 = 0 then (if bt285.2 = 0 then (payrolllaw29_BracketSplits.j0 k t275 bt279.1 bt281.1 bt285.1 ((bt281.1.length : Int) != (t275.length : Int))) else (payrolllaw29_BracketSplits.j0 k t275 bt279.1 bt281.1 bt285.1 true)) else (payrolllaw29_BracketSplits.j0 k t275 bt279.1 bt281.1 bt285.1 true))))) = some r := H
 have A3 := Aside0.mk A30
 clear A30
 replace H := Option.bind_eq_some_iff.mp H
 obtain ⟨⟨t279, t280⟩, A40, H⟩ := H
 replace H : ((bracket_Split.f k t275 t279).bind fun bt281 => ((bracket_Exact.f k t275 t279).bind fun bt285 => (if bt281.2 = 0 then (if bt285.2 = 0 then (payrolllaw29_BracketSplits.j0 k t275 t279 bt281.1 bt285.1 ((bt281.1.length : Int) != (t275.length : Int))) else (payrolllaw29_BracketSplits.j0 k t275 t279 bt281.1 bt285.1 true)) else (payrolllaw29_BracketSplits.j0 k t275 t279 bt281.1 bt285.1 true)))) = some r := H
 have A4 := Aside0.mk A40
 clear A40
 replace H := Option.bind_eq_some_iff.mp H
 obtain ⟨⟨t281, t282⟩, A50, H⟩ := H
 replace H : ((bracket_Exact.f k t275 t279).bind fun bt285 => (if t282 = 0 then (if bt285.2 = 0 then (payrolllaw29_BracketSplits.j0 k t275 t279 t281 bt285.1 ((t281.length : Int) != (t275.length : Int))) else (payrolllaw29_BracketSplits.j0 k t275 t279 t281 bt285.1 true)) else (payrolllaw29_BracketSplits.j0 k t275 t279 t281 bt285.1 true))) = some r := H
 have A5 := Aside0.mk A50
 clear A50
 replace H := Option.bind_eq_some_iff.mp H
 obtain ⟨⟨t285, t286⟩, A60, H⟩ := H
 replace H : (if t282 = 0 then (if t286 = 0 then (payrolllaw29_BracketSplits.j0 k t275 t279 t281 t285 ((t281.length : Int) != (t275.length : Int))) else (payrolllaw29_BracketSplits.j0 k t275 t279 t281 t285 true)) else (payrolllaw29_BracketSplits.j0 k t275 t279 t281 t285 true)) = some r := H
 have A6 := Aside0.mk A60
 clear A60
 have HC7 := Aside0.mk H
 clear H
 go_enter Try.func4, Try.ntmps4
 go_upto_region 6 with (first | (go_at_call 13; (with_reducible refine (paygen_New.calls _ _ l0 t272 t273 w _ ?side1 ?side2 ?side3 A2.out).mono ?_); (case side1 => repeat (first | (with_reducible first | exact HB.out | apply below_alloc | apply pw_below_drewN | apply below_drew1) | exact HB.out)); (case side2 => exact HR0.out); (case side3 => exact HC0.out); rintro e w8 ⟨g274, rfl, hi, hb, hb2⟩; have n0_ := Aside0.mk (hb); have n1_ := Aside0.mk (hi); clear HB; have HB := n0_; have HI274 := n1_; clear n0_ n1_; (try clear hb); (try clear hb2); (try clear hk); (try clear hi)) | (go_at_call 14; (with_reducible refine (paygen_Deck_Brackets.calls k g274 t272 t273 false t275 t278 w _ ?side1 ?side2 A3.out).mono ?_); (case side1 => repeat (first | (with_reducible first | exact HI274.out | apply IsS56.alloc | apply IsS56.drewN | apply IsS56.drew | apply IsS56.set_1) | exact HI274.out)); (case side2 => repeat (first | (with_reducible first | exact HB.out | apply below_alloc | apply pw_below_drewN | apply below_drew1 | refine below_set ?_ (IsS56.ge HI274.out)) | exact HB.out)); rintro e w9 ⟨v276, rfl, ho0, hi, hb, hk⟩; have n0_ := Aside0.mk (Kd.R_lower ho0 (below_size (by repeat (first | (with_reducible first | exact HB.out | apply below_alloc | apply pw_below_drewN | apply below_drew1 | refine below_set ?_ (IsS56.ge HI274.out)) | exact HB.out)))); have n1_ := Aside0.mk (hb); have n2_ := Aside0.mk (hi); clear HB; clear HI274; have HO277 := n0_; have HB := n1_; have HI274 := n2_; clear n0_ n1_ n2_; (try clear hb); (try clear hb2); (try clear hk); (try clear hi); (try clear ho0); obtain ⟨Ao10, co10, eo10⟩ := Kd.R_slice HO277.out; subst eo10) | (go_at_call 19; (with_reducible refine (payrolllaw29_income.calls g274 t272 t278 _ _ t275 t279 t280 w _ ?side1 ?side2 ?side3 ?side4 A4.out).mono ?_); (case side1 => repeat (first | (with_reducible first | exact HI274.out | apply IsS56.alloc | apply IsS56.drewN | apply IsS56.drew | apply IsS56.set_1) | exact HI274.out)); (case side2 => repeat (first | (with_reducible first | exact HB.out | apply below_alloc | apply pw_below_drewN | apply below_drew1 | refine below_set ?_ (IsS56.ge HI274.out)) | exact HB.out)); (case side3 => exact Kd.C_foot_own (IsS56.apart (show IsS56 w _ g274 t272 t278 from by repeat (first | (with_reducible first | exact HI274.out | apply IsS56.alloc | apply IsS56.drewN | apply IsS56.drew | apply IsS56.set_1) | exact HI274.out)) (by (with_reducible repeat (first | apply Kd.R_alloc | apply Kd.R_drewN | apply Kd.R_drew)); exact HO277.out) (by decide)) (fun _ h_ => h_.2)); (case side4 => exact (Kd.R_reads' HO277.out).2.1); rintro e w11 ⟨rfl, hi, hb, hk⟩; have n0_ := Aside0.mk (Kd.R_mono (Kd.R_keep (IsS56.apart (show IsS56 w _ g274 t272 t278 from by repeat (first | (with_reducible first | exact HI274.out | apply IsS56.alloc | apply IsS56.drewN | apply IsS56.drew | apply IsS56.set_1) | exact HI274.out)) (by (with_reducible repeat (first | apply Kd.R_alloc | apply Kd.R_drewN | apply Kd.R_drew)); exact HO277.out) (by decide)) hk (fun _ h => h.2)) (fun _ h => h.1)); have n1_ := Aside0.mk (hb); have n2_ := Aside0.mk (hi); clear HO277; clear HB; clear HI274; have HO277 := n0_; have HB := n1_; have HI274 := n2_; clear n0_ n1_ n2_; (try clear hb); (try clear hb2); (try clear hk); (try clear hi)) | (go_at_call 20; (with_reducible refine (bracket_Split.calls k _ _ t275 t279 t281 t282 _ ?side1 ?side2 A5.out).mono ?_); (case side1 => repeat (first | exact (Kd.R_reads' HO277.out).2.2 | (with_reducible refine Kd.C_alloc ?_ _) | (with_reducible refine Kd.C_drewN ?_ _) | (with_reducible refine Kd.C_drew ?_))); (case side2 => exact (Kd.R_reads' HO277.out).2.1); rintro e w12 ⟨v283, rfl, ho0, hb⟩; have n0_ := Aside0.mk (Kd.R_below (by (with_reducible repeat (first | apply Kd.R_alloc | apply Kd.R_drewN | apply Kd.R_drew)); exact HO277.out) hb); have n1_ := Aside0.mk (Kd.R_lower ho0 (below_size (by repeat (first | (with_reducible first | exact HB.out | apply below_alloc | apply pw_below_drewN | apply below_drew1 | refine below_set ?_ (IsS56.ge HI274.out)) | exact HB.out)))); have n2_ := Aside0.mk (IsS56.below (by repeat (first | (with_reducible first | exact HI274.out | apply IsS56.alloc | apply IsS56.drewN | apply IsS56.drew | apply IsS56.set_1) | exact HI274.out)) hb); have n3_ := Aside0.mk (below_step (by repeat (first | (with_reducible first | exact HB.out | apply below_alloc | apply pw_below_drewN | apply below_drew1 | refine below_set ?_ (IsS56.ge HI274.out)) | exact HB.out)) hb); clear HO277; clear HI274; clear HB; have HO277 := n0_; have HO284 := n1_; have HI274 := n2_; have HB := n3_; clear n0_ n1_ n2_ n3_; (try clear hb); (try clear hb2); (try clear hk); (try clear hi); (try clear ho0)) | (go_at_call 21; (with_reducible refine (bracket_Exact.calls k _ _ t275 t279 t285 t286 _ ?side1 ?side2 A6.out).mono ?_); (case side1 => repeat (first | exact (Kd.R_reads' HO277.out).2.2 | (with_reducible refine Kd.C_alloc ?_ _) | (with_reducible refine Kd.C_drewN ?_ _) | (with_reducible refine Kd.C_drew ?_))); (case side2 => exact (Kd.R_reads' HO277.out).2.1); rintro e w13 ⟨rfl, hb⟩; have n0_ := Aside0.mk (Kd.R_below (by (with_reducible repeat (first | apply Kd.R_alloc | apply Kd.R_drewN | apply Kd.R_drew)); exact HO277.out) hb); have n1_ := Aside0.mk (Kd.R_below (by (with_reducible repeat (first | apply Kd.R_alloc | apply Kd.R_drewN | apply Kd.R_drew)); exact HO284.out) hb); have n2_ := Aside0.mk (IsS56.below (by repeat (first | (with_reducible first | exact HI274.out | apply IsS56.alloc | apply IsS56.drewN | apply IsS56.drew | apply IsS56.set_1) | exact HI274.out)) hb); have n3_ := Aside0.mk (below_step (by repeat (first | (with_reducible first | exact HB.out | apply below_alloc | apply pw_below_drewN | apply below_drew1 | refine below_set ?_ (IsS56.ge HI274.out)) | exact HB.out)) hb); clear HO277; clear HO284; clear HI274; clear HB; have HO277 := n0_; have HO284 := n1_; have HI274 := n2_; have HB := n3_; clear n0_ n1_ n2_ n3_; (try clear hb); (try clear hb2); (try clear hk); (try clear hi)))
 repeat (go_quiet (first | (go_at_call 13; (with_reducible refine (paygen_New.calls _ _ l0 t272 t273 w _ ?side1 ?side2 ?side3 A2.out).mono ?_); (case side1 => repeat (first | (with_reducible first | exact HB.out | apply below_alloc | apply pw_below_drewN | apply below_drew1) | exact HB.out)); (case side2 => exact HR0.out); (case side3 => exact HC0.out); rintro e w8 ⟨g274, rfl, hi, hb, hb2⟩; have n0_ := Aside0.mk (hb); have n1_ := Aside0.mk (hi); clear HB; have HB := n0_; have HI274 := n1_; clear n0_ n1_; (try clear hb); (try clear hb2); (try clear hk); (try clear hi)) | (go_at_call 14; (with_reducible refine (paygen_Deck_Brackets.calls k g274 t272 t273 false t275 t278 w _ ?side1 ?side2 A3.out).mono ?_); (case side1 => repeat (first | (with_reducible first | exact HI274.out | apply IsS56.alloc | apply IsS56.drewN | apply IsS56.drew | apply IsS56.set_1) | exact HI274.out)); (case side2 => repeat (first | (with_reducible first | exact HB.out | apply below_alloc | apply pw_below_drewN | apply below_drew1 | refine below_set ?_ (IsS56.ge HI274.out)) | exact HB.out)); rintro e w9 ⟨v276, rfl, ho0, hi, hb, hk⟩; have n0_ := Aside0.mk (Kd.R_lower ho0 (below_size (by repeat (first | (with_reducible first | exact HB.out | apply below_alloc | apply pw_below_drewN | apply below_drew1 | refine below_set ?_ (IsS56.ge HI274.out)) | exact HB.out)))); have n1_ := Aside0.mk (hb); have n2_ := Aside0.mk (hi); clear HB; clear HI274; have HO277 := n0_; have HB := n1_; have HI274 := n2_; clear n0_ n1_ n2_; (try clear hb); (try clear hb2); (try clear hk); (try clear hi); (try clear ho0); obtain ⟨Ao10, co10, eo10⟩ := Kd.R_slice HO277.out; subst eo10) | (go_at_call 19; (with_reducible refine (payrolllaw29_income.calls g274 t272 t278 _ _ t275 t279 t280 w _ ?side1 ?side2 ?side3 ?side4 A4.out).mono ?_); (case side1 => repeat (first | (with_reducible first | exact HI274.out | apply IsS56.alloc | apply IsS56.drewN | apply IsS56.drew | apply IsS56.set_1) | exact HI274.out)); (case side2 => repeat (first | (with_reducible first | exact HB.out | apply below_alloc | apply pw_below_drewN | apply below_drew1 | refine below_set ?_ (IsS56.ge HI274.out)) | exact HB.out)); (case side3 => exact Kd.C_foot_own (IsS56.apart (show IsS56 w _ g274 t272 t278 from by repeat (first | (with_reducible first | exact HI274.out | apply IsS56.alloc | apply IsS56.drewN | apply IsS56.drew | apply IsS56.set_1) | exact HI274.out)) (by (with_reducible repeat (first | apply Kd.R_alloc | apply Kd.R_drewN | apply Kd.R_drew)); exact HO277.out) (by decide)) (fun _ h_ => h_.2)); (case side4 => exact (Kd.R_reads' HO277.out).2.1); rintro e w11 ⟨rfl, hi, hb, hk⟩; have n0_ := Aside0.mk (Kd.R_mono (Kd.R_keep (IsS56.apart (show IsS56 w _ g274 t272 t278 from by repeat (first | (with_reducible first | exact HI274.out | apply IsS56.alloc | apply IsS56.drewN | apply IsS56.drew | apply IsS56.set_1) | exact HI274.out)) (by (with_reducible repeat (first | apply Kd.R_alloc | apply Kd.R_drewN | apply Kd.R_drew)); exact HO277.out) (by decide)) hk (fun _ h => h.2)) (fun _ h => h.1)); have n1_ := Aside0.mk (hb); have n2_ := Aside0.mk (hi); clear HO277; clear HB; clear HI274; have HO277 := n0_; have HB := n1_; have HI274 := n2_; clear n0_ n1_ n2_; (try clear hb); (try clear hb2); (try clear hk); (try clear hi)) | (go_at_call 20; (with_reducible refine (bracket_Split.calls k _ _ t275 t279 t281 t282 _ ?side1 ?side2 A5.out).mono ?_); (case side1 => repeat (first | exact (Kd.R_reads' HO277.out).2.2 | (with_reducible refine Kd.C_alloc ?_ _) | (with_reducible refine Kd.C_drewN ?_ _) | (with_reducible refine Kd.C_drew ?_))); (case side2 => exact (Kd.R_reads' HO277.out).2.1); rintro e w12 ⟨v283, rfl, ho0, hb⟩; have n0_ := Aside0.mk (Kd.R_below (by (with_reducible repeat (first | apply Kd.R_alloc | apply Kd.R_drewN | apply Kd.R_drew)); exact HO277.out) hb); have n1_ := Aside0.mk (Kd.R_lower ho0 (below_size (by repeat (first | (with_reducible first | exact HB.out | apply below_alloc | apply pw_below_drewN | apply below_drew1 | refine below_set ?_ (IsS56.ge HI274.out)) | exact HB.out)))); have n2_ := Aside0.mk (IsS56.below (by repeat (first | (with_reducible first | exact HI274.out | apply IsS56.alloc | apply IsS56.drewN | apply IsS56.drew | apply IsS56.set_1) | exact HI274.out)) hb); have n3_ := Aside0.mk (below_step (by repeat (first | (with_reducible first | exact HB.out | apply below_alloc | apply pw_below_drewN | apply below_drew1 | refine below_set ?_ (IsS56.ge HI274.out)) | exact HB.out)) hb); clear HO277; clear HI274; clear HB; have HO277 := n0_; have HO284 := n1_; have HI274 := n2_; have HB := n3_; clear n0_ n1_ n2_ n3_; (try clear hb); (try clear hb2); (try clear hk); (try clear hi); (try clear ho0)) | (go_at_call 21; (with_reducible refine (bracket_Exact.calls k _ _ t275 t279 t285 t286 _ ?side1 ?side2 A6.out).mono ?_); (case side1 => repeat (first | exact (Kd.R_reads' HO277.out).2.2 | (with_reducible refine Kd.C_alloc ?_ _) | (with_reducible refine Kd.C_drewN ?_ _) | (with_reducible refine Kd.C_drew ?_))); (case side2 => exact (Kd.R_reads' HO277.out).2.1); rintro e w13 ⟨rfl, hb⟩; have n0_ := Aside0.mk (Kd.R_below (by (with_reducible repeat (first | apply Kd.R_alloc | apply Kd.R_drewN | apply Kd.R_drew)); exact HO277.out) hb); have n1_ := Aside0.mk (Kd.R_below (by (with_reducible repeat (first | apply Kd.R_alloc | apply Kd.R_drewN | apply Kd.R_drew)); exact HO284.out) hb); have n2_ := Aside0.mk (IsS56.below (by repeat (first | (with_reducible first | exact HI274.out | apply IsS56.alloc | apply IsS56.drewN | apply IsS56.drew | apply IsS56.set_1) | exact HI274.out)) hb); have n3_ := Aside0.mk (below_step (by repeat (first | (with_reducible first | exact HB.out | apply below_alloc | apply pw_below_drewN | apply below_drew1 | refine below_set ?_ (IsS56.ge HI274.out)) | exact HB.out)) hb); clear HO277; clear HO284; clear HI274; clear HB; have HO277 := n0_; have HO284 := n1_; have HI274 := n2_; have HB := n3_; clear n0_ n1_ n2_ n3_; (try clear hb); (try clear hb2); (try clear hk); (try clear hi))); go_upto_region 6 with (first | (go_at_call 13; (with_reducible refine (paygen_New.calls _ _ l0 t272 t273 w _ ?side1 ?side2 ?side3 A2.out).mono ?_); (case side1 => repeat (first | (with_reducible first | exact HB.out | apply below_alloc | apply pw_below_drewN | apply below_drew1) | exact HB.out)); (case side2 => exact HR0.out); (case side3 => exact HC0.out); rintro e w8 ⟨g274, rfl, hi, hb, hb2⟩; have n0_ := Aside0.mk (hb); have n1_ := Aside0.mk (hi); clear HB; have HB := n0_; have HI274 := n1_; clear n0_ n1_; (try clear hb); (try clear hb2); (try clear hk); (try clear hi)) | (go_at_call 14; (with_reducible refine (paygen_Deck_Brackets.calls k g274 t272 t273 false t275 t278 w _ ?side1 ?side2 A3.out).mono ?_); (case side1 => repeat (first | (with_reducible first | exact HI274.out | apply IsS56.alloc | apply IsS56.drewN | apply IsS56.drew | apply IsS56.set_1) | exact HI274.out)); (case side2 => repeat (first | (with_reducible first | exact HB.out | apply below_alloc | apply pw_below_drewN | apply below_drew1 | refine below_set ?_ (IsS56.ge HI274.out)) | exact HB.out)); rintro e w9 ⟨v276, rfl, ho0, hi, hb, hk⟩; have n0_ := Aside0.mk (Kd.R_lower ho0 (below_size (by repeat (first | (with_reducible first | exact HB.out | apply below_alloc | apply pw_below_drewN | apply below_drew1 | refine below_set ?_ (IsS56.ge HI274.out)) | exact HB.out)))); have n1_ := Aside0.mk (hb); have n2_ := Aside0.mk (hi); clear HB; clear HI274; have HO277 := n0_; have HB := n1_; have HI274 := n2_; clear n0_ n1_ n2_; (try clear hb); (try clear hb2); (try clear hk); (try clear hi); (try clear ho0); obtain ⟨Ao10, co10, eo10⟩ := Kd.R_slice HO277.out; subst eo10) | (go_at_call 19; (with_reducible refine (payrolllaw29_income.calls g274 t272 t278 _ _ t275 t279 t280 w _ ?side1 ?side2 ?side3 ?side4 A4.out).mono ?_); (case side1 => repeat (first | (with_reducible first | exact HI274.out | apply IsS56.alloc | apply IsS56.drewN | apply IsS56.drew | apply IsS56.set_1) | exact HI274.out)); (case side2 => repeat (first | (with_reducible first | exact HB.out | apply below_alloc | apply pw_below_drewN | apply below_drew1 | refine below_set ?_ (IsS56.ge HI274.out)) | exact HB.out)); (case side3 => exact Kd.C_foot_own (IsS56.apart (show IsS56 w _ g274 t272 t278 from by repeat (first | (with_reducible first | exact HI274.out | apply IsS56.alloc | apply IsS56.drewN | apply IsS56.drew | apply IsS56.set_1) | exact HI274.out)) (by (with_reducible repeat (first | apply Kd.R_alloc | apply Kd.R_drewN | apply Kd.R_drew)); exact HO277.out) (by decide)) (fun _ h_ => h_.2)); (case side4 => exact (Kd.R_reads' HO277.out).2.1); rintro e w11 ⟨rfl, hi, hb, hk⟩; have n0_ := Aside0.mk (Kd.R_mono (Kd.R_keep (IsS56.apart (show IsS56 w _ g274 t272 t278 from by repeat (first | (with_reducible first | exact HI274.out | apply IsS56.alloc | apply IsS56.drewN | apply IsS56.drew | apply IsS56.set_1) | exact HI274.out)) (by (with_reducible repeat (first | apply Kd.R_alloc | apply Kd.R_drewN | apply Kd.R_drew)); exact HO277.out) (by decide)) hk (fun _ h => h.2)) (fun _ h => h.1)); have n1_ := Aside0.mk (hb); have n2_ := Aside0.mk (hi); clear HO277; clear HB; clear HI274; have HO277 := n0_; have HB := n1_; have HI274 := n2_; clear n0_ n1_ n2_; (try clear hb); (try clear hb2); (try clear hk); (try clear hi)) | (go_at_call 20; (with_reducible refine (bracket_Split.calls k _ _ t275 t279 t281 t282 _ ?side1 ?side2 A5.out).mono ?_); (case side1 => repeat (first | exact (Kd.R_reads' HO277.out).2.2 | (with_reducible refine Kd.C_alloc ?_ _) | (with_reducible refine Kd.C_drewN ?_ _) | (with_reducible refine Kd.C_drew ?_))); (case side2 => exact (Kd.R_reads' HO277.out).2.1); rintro e w12 ⟨v283, rfl, ho0, hb⟩; have n0_ := Aside0.mk (Kd.R_below (by (with_reducible repeat (first | apply Kd.R_alloc | apply Kd.R_drewN | apply Kd.R_drew)); exact HO277.out) hb); have n1_ := Aside0.mk (Kd.R_lower ho0 (below_size (by repeat (first | (with_reducible first | exact HB.out | apply below_alloc | apply pw_below_drewN | apply below_drew1 | refine below_set ?_ (IsS56.ge HI274.out)) | exact HB.out)))); have n2_ := Aside0.mk (IsS56.below (by repeat (first | (with_reducible first | exact HI274.out | apply IsS56.alloc | apply IsS56.drewN | apply IsS56.drew | apply IsS56.set_1) | exact HI274.out)) hb); have n3_ := Aside0.mk (below_step (by repeat (first | (with_reducible first | exact HB.out | apply below_alloc | apply pw_below_drewN | apply below_drew1 | refine below_set ?_ (IsS56.ge HI274.out)) | exact HB.out)) hb); clear HO277; clear HI274; clear HB; have HO277 := n0_; have HO284 := n1_; have HI274 := n2_; have HB := n3_; clear n0_ n1_ n2_ n3_; (try clear hb); (try clear hb2); (try clear hk); (try clear hi); (try clear ho0)) | (go_at_call 21; (with_reducible refine (bracket_Exact.calls k _ _ t275 t279 t285 t286 _ ?side1 ?side2 A6.out).mono ?_); (case side1 => repeat (first | exact (Kd.R_reads' HO277.out).2.2 | (with_reducible refine Kd.C_alloc ?_ _) | (with_reducible refine Kd.C_drewN ?_ _) | (with_reducible refine Kd.C_drew ?_))); (case side2 => exact (Kd.R_reads' HO277.out).2.1); rintro e w13 ⟨rfl, hb⟩; have n0_ := Aside0.mk (Kd.R_below (by (with_reducible repeat (first | apply Kd.R_alloc | apply Kd.R_drewN | apply Kd.R_drew)); exact HO277.out) hb); have n1_ := Aside0.mk (Kd.R_below (by (with_reducible repeat (first | apply Kd.R_alloc | apply Kd.R_drewN | apply Kd.R_drew)); exact HO284.out) hb); have n2_ := Aside0.mk (IsS56.below (by repeat (first | (with_reducible first | exact HI274.out | apply IsS56.alloc | apply IsS56.drewN | apply IsS56.drew | apply IsS56.set_1) | exact HI274.out)) hb); have n3_ := Aside0.mk (below_step (by repeat (first | (with_reducible first | exact HB.out | apply below_alloc | apply pw_below_drewN | apply below_drew1 | refine below_set ?_ (IsS56.ge HI274.out)) | exact HB.out)) hb); clear HO277; clear HO284; clear HI274; clear HB; have HO277 := n0_; have HO284 := n1_; have HI274 := n2_; have HB := n3_; clear n0_ n1_ n2_ n3_; (try clear hb); (try clear hb2); (try clear hk); (try clear hi))))
 (try simp only [Act.put, List.setIfInBounds_toArray, List.set_cons_zero, List.set_cons_succ])
 go_cut [44] (fun v44 wc => ∃ (kq : Nat) (x44_6 : Bool), v44 = .bool x44_6 ∧ Aside0 (payrolllaw29_BracketSplits.j0 kq t275 t279 t281 t285 x44_6 = some r) ∧ Aside0 (kq ≤ k) ∧ Aside0 (Kd.R k30 30 wc w.heap.size (fun _ => True) (.slice Ao10 t275.length co10) t275) ∧ Aside0 (Kd.R (Kd.int .i64) 3 wc w.heap.size (fun _ => True) v283 t281) ∧ Aside0 (Below w.heap.size w wc))
 case first =>
  have H := HC7.out
  clear HC7
  by_cases c14 : t282 = 0
  ·
   rw [if_pos c14] at H
   have c14b0 : (t282 == 0) = true := beq_iff_eq.mpr c14
   have c14b1 : (t282 != 0) = false := bne_eq_false_iff_eq.mpr c14
   clear c14
   (first | rw [c14b0] | (simp only [i64_w, i32_w]; rw [c14b0]) | skip)
   by_cases c15 : t286 = 0
   ·
    rw [if_pos c15] at H
    have c15b0 : (t286 == 0) = true := beq_iff_eq.mpr c15
    have c15b1 : (t286 != 0) = false := bne_eq_false_iff_eq.mpr c15
    clear c15
    have H' := Aside0.mk H
    clear H
    obtain ⟨Ao16, co16, eo16⟩ := Kd.R_slice HO284.out
    subst eo16
    go_wp2
    repeat (go_quiet (fail); try go_wp2)
    go_meet
    case rel => exact ⟨_, (((t281.length : Int) != (t275.length : Int))), (by first | rfl | (simp; done) | (simp [*]; done)), H', ⟨by first | omega | exact Nat.le_refl _⟩, ⟨by (with_reducible repeat (first | apply Kd.R_alloc | apply Kd.R_drewN | apply Kd.R_drew)); exact HO277.out⟩, ⟨by (with_reducible repeat (first | apply Kd.R_alloc | apply Kd.R_drewN | apply Kd.R_drew)); exact HO284.out⟩, ⟨by repeat (first | (with_reducible first | exact HB.out | apply below_alloc | apply pw_below_drewN | apply below_drew1 | refine below_set ?_ (IsS56.ge HI274.out)) | exact HB.out)⟩⟩
   ·
    rw [if_neg c15] at H
    have c15b0 : (t286 == 0) = false := beq_eq_false_iff_ne.mpr c15
    have c15b1 : (t286 != 0) = true := bne_iff_ne.mpr c15
    have H' := Aside0.mk H
    clear H
    go_wp2
    repeat (go_quiet (fail); try go_wp2)
    go_meet
    case rel => exact ⟨_, (true), (by first | rfl | (simp; done) | (simp [*]; done)), H', ⟨by first | omega | exact Nat.le_refl _⟩, ⟨by (with_reducible repeat (first | apply Kd.R_alloc | apply Kd.R_drewN | apply Kd.R_drew)); exact HO277.out⟩, ⟨by (with_reducible repeat (first | apply Kd.R_alloc | apply Kd.R_drewN | apply Kd.R_drew)); exact HO284.out⟩, ⟨by repeat (first | (with_reducible first | exact HB.out | apply below_alloc | apply pw_below_drewN | apply below_drew1 | refine below_set ?_ (IsS56.ge HI274.out)) | exact HB.out)⟩⟩
  ·
   rw [if_neg c14] at H
   have c14b0 : (t282 == 0) = false := beq_eq_false_iff_ne.mpr c14
   have c14b1 : (t282 != 0) = true := bne_iff_ne.mpr c14
   (first | rw [c14b0] | (simp only [i64_w, i32_w]; rw [c14b0]) | skip)
   have H' := Aside0.mk H
   clear H
   go_wp2
   repeat (go_quiet (fail); try go_wp2)
   go_meet
   case rel => exact ⟨_, (true), (by first | rfl | (simp; done) | (simp [*]; done)), H', ⟨by first | omega | exact Nat.le_refl _⟩, ⟨by (with_reducible repeat (first | apply Kd.R_alloc | apply Kd.R_drewN | apply Kd.R_drew)); exact HO277.out⟩, ⟨by (with_reducible repeat (first | apply Kd.R_alloc | apply Kd.R_drewN | apply Kd.R_drew)); exact HO284.out⟩, ⟨by repeat (first | (with_reducible first | exact HB.out | apply below_alloc | apply pw_below_drewN | apply below_drew1 | refine below_set ?_ (IsS56.ge HI274.out)) | exact HB.out)⟩⟩
 case rest =>
  clear HC7
  try clear c1
  try clear p2
  try clear c4
  try clear c14
  try clear c14b0
  try clear c14b1
  try clear c15
  try clear c15b0
  try clear c15b1
  obtain ⟨kq, x44_6, rfl, HA, HJ6, HO_4, HO_6, HB⟩ := hcut
  cases kq with
  | zero => exact absurd HA.out (by simp [payrolllaw29_BracketSplits.j0])
  | succ kj6 =>
   have H := HA.out
   clear HA
   simp only [payrolllaw29_BracketSplits.j0] at H
   by_cases c17 : x44_6 = true
   ·
    subst c17
    have H1 : (some false) = some r := by rw [if_pos rfl] at H; exact H
    clear H
    have H := H1
    clear H1
    obtain rfl := Option.some.inj H
    go_wp2
    repeat (go_quiet (fail); try go_wp2)
    go_ret
    exact ⟨by first | rfl | (simp [errW_none, errW_some] <;> rfl) | (simp [*, errW_none, errW_some] <;> rfl), by repeat (first | (with_reducible first | exact HB.out | apply below_alloc | apply pw_below_drewN | apply below_drew1) | exact HB.out)⟩
   ·
    replace c17 := Bool.eq_false_iff.mpr c17
    subst c17
    have H1 : (payrolllaw29_BracketSplits.l0 kj6 t275 t279 t281 t285 0 0 0) = some r := by rw [if_neg (show ¬ (false = true) by decide)] at H; exact H
    clear H
    have H := H1
    clear H1
    have H' := Aside0.mk H
    clear H
    go_wp2
    repeat (go_quiet (fail); try go_wp2)
    go_loopg [10, 11, 12] kj6 (fun kq v10 v11 v12 w' => ∃ (x10_2 : Int) (x11_2 : Int) (x12_2 : Int), v10 = .int .i64 x10_2 ∧ v11 = .int .i64 x11_2 ∧ v12 = .int .i64 x12_2 ∧ Aside0 (payrolllaw29_BracketSplits.l0 kq t275 t279 t281 t285 x10_2 x11_2 x12_2 = some r) ∧ Aside0 (kq ≤ kj6) ∧ Aside0 (Kd.R k30 30 w' w.heap.size (fun _ => True) (.slice Ao10 t275.length co10) t275) ∧ Aside0 (Kd.R (Kd.int .i64) 3 w' w.heap.size (fun _ => True) v283 t281) ∧ Aside0 (Below w.heap.size w w'))
    case atStart => exact ⟨(0), (0), (0), (by first | rfl | (simp; done) | (simp [*]; done)), (by first | rfl | (simp; done) | (simp [*]; done)), (by first | rfl | (simp; done) | (simp [*]; done)), H', ⟨Nat.le_refl _⟩, ⟨by (with_reducible repeat (first | apply Kd.R_alloc | apply Kd.R_drewN | apply Kd.R_drew)); exact HO_4.out⟩, ⟨by (with_reducible repeat (first | apply Kd.R_alloc | apply Kd.R_drewN | apply Kd.R_drew)); exact HO_6.out⟩, ⟨by repeat (first | (with_reducible first | exact HB.out | apply below_alloc | apply pw_below_drewN | apply below_drew1) | exact HB.out)⟩⟩
    case round =>
     clear H'
     try clear c1
     try clear p2
     try clear c4
     try clear c14
     try clear c14b0
     try clear c14b1
     try clear c15
     try clear c15b0
     try clear c15b1
     try clear c17
     try clear p2
     obtain ⟨x10_2, x11_2, x12_2, rfl, rfl, rfl, HA, HK2, HO_4, HO_6, HB⟩ := hrel
     cases gk with
     | zero => exact absurd HA.out (by simp [payrolllaw29_BracketSplits.l0])
     | succ k2 =>
      have H := HA.out
      clear HA
      simp only [payrolllaw29_BracketSplits.l0] at H
      by_cases c18 : x12_2 < (t281.length : Int)
      ·
       rw [if_pos c18] at H
       have c18b0 : decide (x12_2 < (t281.length : Int)) = true := decide_eq_true c18
       clear c18
       by_cases c19 : 0 ≤ x12_2
       ·
        rw [if_pos c19] at H
        have c19b0 : decide (0 ≤ x12_2) = true := decide_eq_true c19
        clear c19
        by_cases c20 : x12_2 < (t275.length : Int)
        ·
         rw [if_pos c20] at H
         have c20b0 : decide (x12_2 < (t275.length : Int)) = true := decide_eq_true c20
         clear c20
         by_cases c21 : (wrap64 (x12_2 + 1)) < (t281.length : Int)
         ·
          rw [if_pos c21] at H
          have c21b0 : decide ((wrap64 (x12_2 + 1)) < (t281.length : Int)) = true := decide_eq_true c21
          clear c21
          obtain ⟨ji22, hji22⟩ : ∃ j_ : Int, (wrap64 (x12_2 + 1)) = j_ := ⟨_, rfl⟩
          replace H : (if 0 ≤ (ji22) then (if (rd t281 (ji22)) > 0 then (if (ji22) < (t275.length : Int) then (if (rd t281 x12_2) = (wrap64 (((rd_T30 t275 (ji22)).f0) - ((rd_T30 t275 x12_2).f0))) then (if (rd t281 x12_2) < 0 then (some false) else (payrolllaw29_BracketSplits.l0 k2 t275 t279 t281 t285 (wrap64 (x10_2 + (rd t281 x12_2))) (wrap64 (x11_2 + (wrap64 ((rd t281 x12_2) * ((rd_T30 t275 x12_2).f1))))) ji22)) else (some false)) else (none)) else (if (rd t281 x12_2) < 0 then (some false) else (payrolllaw29_BracketSplits.l0 k2 t275 t279 t281 t285 (wrap64 (x10_2 + (rd t281 x12_2))) (wrap64 (x11_2 + (wrap64 ((rd t281 x12_2) * ((rd_T30 t275 x12_2).f1))))) ji22))) else (none)) = some r := by first | (rw [hji22] at H; exact H) | (simp only [hji22] at H ⊢; exact H)
          (try rw [hji22] at c21b0)
          have hji22w : (IntKind.i64.wrap (x12_2 + 1)) = ji22 := (i64_w _).trans hji22
          by_cases c23 : 0 ≤ (ji22)
          ·
           rw [if_pos c23] at H
           have c23b0 : decide (0 ≤ (ji22)) = true := decide_eq_true c23
           clear c23
           by_cases c24 : (rd t281 (ji22)) > 0
           ·
            rw [if_pos c24] at H
            have c24b0 : decide (0 < (rd t281 (ji22))) = true := decide_eq_true c24
            clear c24
            by_cases c25 : (ji22) < (t275.length : Int)
            ·
             rw [if_pos c25] at H
             have c25b0 : decide ((ji22) < (t275.length : Int)) = true := decide_eq_true c25
             clear c25
             by_cases c26 : (rd t281 x12_2) = (wrap64 (((rd_T30 t275 (ji22)).f0) - ((rd_T30 t275 x12_2).f0)))
             ·
              rw [if_pos c26] at H
              have c26b0 : ((rd t281 x12_2) == (wrap64 (((rd_T30 t275 (ji22)).f0) - ((rd_T30 t275 x12_2).f0)))) = true := beq_iff_eq.mpr c26
              have c26b1 : ((rd t281 x12_2) != (wrap64 (((rd_T30 t275 (ji22)).f0) - ((rd_T30 t275 x12_2).f0)))) = false := bne_eq_false_iff_eq.mpr c26
              clear c26
              by_cases c27 : (rd t281 x12_2) < 0
              ·
               rw [if_pos c27] at H
               have c27b0 : decide ((rd t281 x12_2) < 0) = true := decide_eq_true c27
               clear c27
               obtain rfl := Option.some.inj H
               obtain ⟨Ao28, co28, eo28⟩ := Kd.R_slice HO_6.out
               subst eo28
               have p287 : 0 ≤ (x12_2 : Int) := of_decide_eq_true (by first | (with_reducible assumption) | assumption)
               have q287 : x12_2 < (t281.length : Int) := of_decide_eq_true (by first | (with_reducible assumption) | assumption)
               obtain ⟨ad287, e287, hx287_0⟩ := Kd.at_int (Kd.R_reads' HO_6.out).2.2 x12_2 p287 q287
               cases e287
               replace p287 := eq_true p287
               replace q287 := eq_true q287
               have p288 : 0 ≤ (x12_2 : Int) := of_decide_eq_true (by first | (with_reducible assumption) | assumption)
               have q288 : x12_2 < (t281.length : Int) := of_decide_eq_true (by first | (with_reducible assumption) | assumption)
               obtain ⟨ad288, e288, hx288_0⟩ := Kd.at_int (Kd.R_reads' HO_6.out).2.2 x12_2 p288 q288
               obtain rfl : ad287 = ad288 := (by injection e288)
               replace p288 := eq_true p288
               replace q288 := eq_true q288
               have p289 : 0 ≤ (x12_2 : Int) := of_decide_eq_true (by first | (with_reducible assumption) | assumption)
               have q289 : x12_2 < (t275.length : Int) := of_decide_eq_true (by first | (with_reducible assumption) | assumption)
               obtain ⟨ad289, e289, hx289_0, hx289_1⟩ := at_T30 (Kd.R_reads' HO_4.out).2.2 x12_2 p289 q289
               cases e289
               replace p289 := eq_true p289
               replace q289 := eq_true q289
               have p290 : 0 ≤ ((ji22) : Int) := of_decide_eq_true (by first | (with_reducible assumption) | assumption)
               have q290 : (ji22) < (t281.length : Int) := of_decide_eq_true (by first | (with_reducible assumption) | assumption)
               obtain ⟨ad290, e290, hx290_0⟩ := Kd.at_int (Kd.R_reads' HO_6.out).2.2 (ji22) p290 q290
               obtain rfl : ad287 = ad290 := (by injection e290)
               replace p290 := eq_true p290
               replace q290 := eq_true q290
               have p291 : 0 ≤ (x12_2 : Int) := of_decide_eq_true (by first | (with_reducible assumption) | assumption)
               have q291 : x12_2 < (t281.length : Int) := of_decide_eq_true (by first | (with_reducible assumption) | assumption)
               obtain ⟨ad291, e291, hx291_0⟩ := Kd.at_int (Kd.R_reads' HO_6.out).2.2 x12_2 p291 q291
               obtain rfl : ad287 = ad291 := (by injection e291)
               replace p291 := eq_true p291
               replace q291 := eq_true q291
               have p292 : 0 ≤ ((ji22) : Int) := of_decide_eq_true (by first | (with_reducible assumption) | assumption)
               have q292 : (ji22) < (t275.length : Int) := of_decide_eq_true (by first | (with_reducible assumption) | assumption)
               obtain ⟨ad292, e292, hx292_0, hx292_1⟩ := at_T30 (Kd.R_reads' HO_4.out).2.2 (ji22) p292 q292
               obtain rfl : ad289 = ad292 := (by injection e292)
               replace p292 := eq_true p292
               replace q292 := eq_true q292
               have p293 : 0 ≤ (x12_2 : Int) := of_decide_eq_true (by first | (with_reducible assumption) | assumption)
               have q293 : x12_2 < (t275.length : Int) := of_decide_eq_true (by first | (with_reducible assumption) | assumption)
               obtain ⟨ad293, e293, hx293_0, hx293_1⟩ := at_T30 (Kd.R_reads' HO_4.out).2.2 x12_2 p293 q293
               obtain rfl : ad289 = ad293 := (by injection e293)
               replace p293 := eq_true p293
               replace q293 := eq_true q293
               have p294 : 0 ≤ (x12_2 : Int) := of_decide_eq_true (by first | (with_reducible assumption) | assumption)
               have q294 : x12_2 < (t281.length : Int) := of_decide_eq_true (by first | (with_reducible assumption) | assumption)
               obtain ⟨ad294, e294, hx294_0⟩ := Kd.at_int (Kd.R_reads' HO_6.out).2.2 x12_2 p294 q294
               obtain rfl : ad287 = ad294 := (by injection e294)
               replace p294 := eq_true p294
               replace q294 := eq_true q294
               go_wp2
               repeat (go_quiet (fail); try go_wp2)
               go_ret
               exact ⟨by first | rfl | (simp [errW_none, errW_some] <;> rfl) | (simp only [← hji22]; first | rfl | (simp [errW_none, errW_some] <;> rfl)) | (simp [*, errW_none, errW_some] <;> rfl), by repeat (first | (with_reducible first | exact HB.out | apply below_alloc | apply pw_below_drewN | apply below_drew1) | exact HB.out)⟩
              ·
               rw [if_neg c27] at H
               have c27b0 : decide ((rd t281 x12_2) < 0) = false := decide_eq_false c27
               clear c27
               have H' := Aside0.mk H
               clear H
               obtain ⟨Ao29, co29, eo29⟩ := Kd.R_slice HO_6.out
               subst eo29
               have p287 : 0 ≤ (x12_2 : Int) := of_decide_eq_true (by first | (with_reducible assumption) | assumption)
               have q287 : x12_2 < (t281.length : Int) := of_decide_eq_true (by first | (with_reducible assumption) | assumption)
               obtain ⟨ad287, e287, hx287_0⟩ := Kd.at_int (Kd.R_reads' HO_6.out).2.2 x12_2 p287 q287
               cases e287
               replace p287 := eq_true p287
               replace q287 := eq_true q287
               have p288 : 0 ≤ (x12_2 : Int) := of_decide_eq_true (by first | (with_reducible assumption) | assumption)
               have q288 : x12_2 < (t281.length : Int) := of_decide_eq_true (by first | (with_reducible assumption) | assumption)
               obtain ⟨ad288, e288, hx288_0⟩ := Kd.at_int (Kd.R_reads' HO_6.out).2.2 x12_2 p288 q288
               obtain rfl : ad287 = ad288 := (by injection e288)
               replace p288 := eq_true p288
               replace q288 := eq_true q288
               have p289 : 0 ≤ (x12_2 : Int) := of_decide_eq_true (by first | (with_reducible assumption) | assumption)
               have q289 : x12_2 < (t275.length : Int) := of_decide_eq_true (by first | (with_reducible assumption) | assumption)
               obtain ⟨ad289, e289, hx289_0, hx289_1⟩ := at_T30 (Kd.R_reads' HO_4.out).2.2 x12_2 p289 q289
               cases e289
               replace p289 := eq_true p289
               replace q289 := eq_true q289
               have p290 : 0 ≤ ((ji22) : Int) := of_decide_eq_true (by first | (with_reducible assumption) | assumption)
               have q290 : (ji22) < (t281.length : Int) := of_decide_eq_true (by first | (with_reducible assumption) | assumption)
               obtain ⟨ad290, e290, hx290_0⟩ := Kd.at_int (Kd.R_reads' HO_6.out).2.2 (ji22) p290 q290
               obtain rfl : ad287 = ad290 := (by injection e290)
               replace p290 := eq_true p290
               replace q290 := eq_true q290
               have p291 : 0 ≤ (x12_2 : Int) := of_decide_eq_true (by first | (with_reducible assumption) | assumption)
               have q291 : x12_2 < (t281.length : Int) := of_decide_eq_true (by first | (with_reducible assumption) | assumption)
               obtain ⟨ad291, e291, hx291_0⟩ := Kd.at_int (Kd.R_reads' HO_6.out).2.2 x12_2 p291 q291
               obtain rfl : ad287 = ad291 := (by injection e291)
               replace p291 := eq_true p291
               replace q291 := eq_true q291
               have p292 : 0 ≤ ((ji22) : Int) := of_decide_eq_true (by first | (with_reducible assumption) | assumption)
               have q292 : (ji22) < (t275.length : Int) := of_decide_eq_true (by first | (with_reducible assumption) | assumption)
               obtain ⟨ad292, e292, hx292_0, hx292_1⟩ := at_T30 (Kd.R_reads' HO_4.out).2.2 (ji22) p292 q292
               obtain rfl : ad289 = ad292 := (by injection e292)
               replace p292 := eq_true p292
               replace q292 := eq_true q292
               have p293 : 0 ≤ (x12_2 : Int) := of_decide_eq_true (by first | (with_reducible assumption) | assumption)
               have q293 : x12_2 < (t275.length : Int) := of_decide_eq_true (by first | (with_reducible assumption) | assumption)
               obtain ⟨ad293, e293, hx293_0, hx293_1⟩ := at_T30 (Kd.R_reads' HO_4.out).2.2 x12_2 p293 q293
               obtain rfl : ad289 = ad293 := (by injection e293)
               replace p293 := eq_true p293
               replace q293 := eq_true q293
               have p294 : 0 ≤ (x12_2 : Int) := of_decide_eq_true (by first | (with_reducible assumption) | assumption)
               have q294 : x12_2 < (t281.length : Int) := of_decide_eq_true (by first | (with_reducible assumption) | assumption)
               obtain ⟨ad294, e294, hx294_0⟩ := Kd.at_int (Kd.R_reads' HO_6.out).2.2 x12_2 p294 q294
               obtain rfl : ad287 = ad294 := (by injection e294)
               replace p294 := eq_true p294
               replace q294 := eq_true q294
               go_wp2
               repeat (go_quiet (fail); try go_wp2)
               go_roundg k2
               case measure => have := HJ6.out; have := HK2.out; omega
               case rel => exact ⟨(wrap64 (x10_2 + (rd t281 x12_2))), (wrap64 (x11_2 + (wrap64 ((rd t281 x12_2) * ((rd_T30 t275 x12_2).f1))))), (ji22), (by first | rfl | (simp; done) | (simp [*]; done)), (by first | rfl | (simp; done) | (simp [*]; done)), (by first | rfl | (simp; done) | (simp only [← hji22] <;> (first | rfl | simp)) | (simp [*]; done)), H', ⟨by have := HJ6.out; have := HK2.out; omega⟩, ⟨by (with_reducible repeat (first | apply Kd.R_alloc | apply Kd.R_drewN | apply Kd.R_drew)); exact HO_4.out⟩, ⟨by (with_reducible repeat (first | apply Kd.R_alloc | apply Kd.R_drewN | apply Kd.R_drew)); exact HO_6.out⟩, ⟨by repeat (first | (with_reducible first | exact HB.out | apply below_alloc | apply pw_below_drewN | apply below_drew1) | exact HB.out)⟩⟩
             ·
              rw [if_neg c26] at H
              have c26b0 : ((rd t281 x12_2) == (wrap64 (((rd_T30 t275 (ji22)).f0) - ((rd_T30 t275 x12_2).f0)))) = false := beq_eq_false_iff_ne.mpr c26
              have c26b1 : ((rd t281 x12_2) != (wrap64 (((rd_T30 t275 (ji22)).f0) - ((rd_T30 t275 x12_2).f0)))) = true := bne_iff_ne.mpr c26
              obtain rfl := Option.some.inj H
              obtain ⟨Ao30, co30, eo30⟩ := Kd.R_slice HO_6.out
              subst eo30
              have p287 : 0 ≤ (x12_2 : Int) := of_decide_eq_true (by first | (with_reducible assumption) | assumption)
              have q287 : x12_2 < (t281.length : Int) := of_decide_eq_true (by first | (with_reducible assumption) | assumption)
              obtain ⟨ad287, e287, hx287_0⟩ := Kd.at_int (Kd.R_reads' HO_6.out).2.2 x12_2 p287 q287
              cases e287
              replace p287 := eq_true p287
              replace q287 := eq_true q287
              have p288 : 0 ≤ (x12_2 : Int) := of_decide_eq_true (by first | (with_reducible assumption) | assumption)
              have q288 : x12_2 < (t281.length : Int) := of_decide_eq_true (by first | (with_reducible assumption) | assumption)
              obtain ⟨ad288, e288, hx288_0⟩ := Kd.at_int (Kd.R_reads' HO_6.out).2.2 x12_2 p288 q288
              obtain rfl : ad287 = ad288 := (by injection e288)
              replace p288 := eq_true p288
              replace q288 := eq_true q288
              have p289 : 0 ≤ (x12_2 : Int) := of_decide_eq_true (by first | (with_reducible assumption) | assumption)
              have q289 : x12_2 < (t275.length : Int) := of_decide_eq_true (by first | (with_reducible assumption) | assumption)
              obtain ⟨ad289, e289, hx289_0, hx289_1⟩ := at_T30 (Kd.R_reads' HO_4.out).2.2 x12_2 p289 q289
              cases e289
              replace p289 := eq_true p289
              replace q289 := eq_true q289
              have p290 : 0 ≤ ((ji22) : Int) := of_decide_eq_true (by first | (with_reducible assumption) | assumption)
              have q290 : (ji22) < (t281.length : Int) := of_decide_eq_true (by first | (with_reducible assumption) | assumption)
              obtain ⟨ad290, e290, hx290_0⟩ := Kd.at_int (Kd.R_reads' HO_6.out).2.2 (ji22) p290 q290
              obtain rfl : ad287 = ad290 := (by injection e290)
              replace p290 := eq_true p290
              replace q290 := eq_true q290
              have p291 : 0 ≤ (x12_2 : Int) := of_decide_eq_true (by first | (with_reducible assumption) | assumption)
              have q291 : x12_2 < (t281.length : Int) := of_decide_eq_true (by first | (with_reducible assumption) | assumption)
              obtain ⟨ad291, e291, hx291_0⟩ := Kd.at_int (Kd.R_reads' HO_6.out).2.2 x12_2 p291 q291
              obtain rfl : ad287 = ad291 := (by injection e291)
              replace p291 := eq_true p291
              replace q291 := eq_true q291
              have p292 : 0 ≤ ((ji22) : Int) := of_decide_eq_true (by first | (with_reducible assumption) | assumption)
              have q292 : (ji22) < (t275.length : Int) := of_decide_eq_true (by first | (with_reducible assumption) | assumption)
              obtain ⟨ad292, e292, hx292_0, hx292_1⟩ := at_T30 (Kd.R_reads' HO_4.out).2.2 (ji22) p292 q292
              obtain rfl : ad289 = ad292 := (by injection e292)
              replace p292 := eq_true p292
              replace q292 := eq_true q292
              have p293 : 0 ≤ (x12_2 : Int) := of_decide_eq_true (by first | (with_reducible assumption) | assumption)
              have q293 : x12_2 < (t275.length : Int) := of_decide_eq_true (by first | (with_reducible assumption) | assumption)
              obtain ⟨ad293, e293, hx293_0, hx293_1⟩ := at_T30 (Kd.R_reads' HO_4.out).2.2 x12_2 p293 q293
              obtain rfl : ad289 = ad293 := (by injection e293)
              replace p293 := eq_true p293
              replace q293 := eq_true q293
              go_wp2
              repeat (go_quiet (fail); try go_wp2)
              go_ret
              exact ⟨by first | rfl | (simp [errW_none, errW_some] <;> rfl) | (simp only [← hji22]; first | rfl | (simp [errW_none, errW_some] <;> rfl)) | (simp [*, errW_none, errW_some] <;> rfl), by repeat (first | (with_reducible first | exact HB.out | apply below_alloc | apply pw_below_drewN | apply below_drew1) | exact HB.out)⟩
            ·
             rw [if_neg c25] at H
             exact absurd H (by simp)
           ·
            rw [if_neg c24] at H
            have c24b0 : decide (0 < (rd t281 (ji22))) = false := decide_eq_false c24
            clear c24
            by_cases c31 : (rd t281 x12_2) < 0
            ·
             rw [if_pos c31] at H
             have c31b0 : decide ((rd t281 x12_2) < 0) = true := decide_eq_true c31
             clear c31
             obtain rfl := Option.some.inj H
             obtain ⟨Ao32, co32, eo32⟩ := Kd.R_slice HO_6.out
             subst eo32
             have p287 : 0 ≤ (x12_2 : Int) := of_decide_eq_true (by first | (with_reducible assumption) | assumption)
             have q287 : x12_2 < (t281.length : Int) := of_decide_eq_true (by first | (with_reducible assumption) | assumption)
             obtain ⟨ad287, e287, hx287_0⟩ := Kd.at_int (Kd.R_reads' HO_6.out).2.2 x12_2 p287 q287
             cases e287
             replace p287 := eq_true p287
             replace q287 := eq_true q287
             have p288 : 0 ≤ (x12_2 : Int) := of_decide_eq_true (by first | (with_reducible assumption) | assumption)
             have q288 : x12_2 < (t281.length : Int) := of_decide_eq_true (by first | (with_reducible assumption) | assumption)
             obtain ⟨ad288, e288, hx288_0⟩ := Kd.at_int (Kd.R_reads' HO_6.out).2.2 x12_2 p288 q288
             obtain rfl : ad287 = ad288 := (by injection e288)
             replace p288 := eq_true p288
             replace q288 := eq_true q288
             have p289 : 0 ≤ (x12_2 : Int) := of_decide_eq_true (by first | (with_reducible assumption) | assumption)
             have q289 : x12_2 < (t275.length : Int) := of_decide_eq_true (by first | (with_reducible assumption) | assumption)
             obtain ⟨ad289, e289, hx289_0, hx289_1⟩ := at_T30 (Kd.R_reads' HO_4.out).2.2 x12_2 p289 q289
             cases e289
             replace p289 := eq_true p289
             replace q289 := eq_true q289
             have p290 : 0 ≤ ((ji22) : Int) := of_decide_eq_true (by first | (with_reducible assumption) | assumption)
             have q290 : (ji22) < (t281.length : Int) := of_decide_eq_true (by first | (with_reducible assumption) | assumption)
             obtain ⟨ad290, e290, hx290_0⟩ := Kd.at_int (Kd.R_reads' HO_6.out).2.2 (ji22) p290 q290
             obtain rfl : ad287 = ad290 := (by injection e290)
             replace p290 := eq_true p290
             replace q290 := eq_true q290
             have p295 : 0 ≤ (x12_2 : Int) := of_decide_eq_true (by first | (with_reducible assumption) | assumption)
             have q295 : x12_2 < (t281.length : Int) := of_decide_eq_true (by first | (with_reducible assumption) | assumption)
             obtain ⟨ad295, e295, hx295_0⟩ := Kd.at_int (Kd.R_reads' HO_6.out).2.2 x12_2 p295 q295
             obtain rfl : ad287 = ad295 := (by injection e295)
             replace p295 := eq_true p295
             replace q295 := eq_true q295
             go_wp2
             repeat (go_quiet (fail); try go_wp2)
             go_ret
             exact ⟨by first | rfl | (simp [errW_none, errW_some] <;> rfl) | (simp only [← hji22]; first | rfl | (simp [errW_none, errW_some] <;> rfl)) | (simp [*, errW_none, errW_some] <;> rfl), by repeat (first | (with_reducible first | exact HB.out | apply below_alloc | apply pw_below_drewN | apply below_drew1) | exact HB.out)⟩
            ·
             rw [if_neg c31] at H
             have c31b0 : decide ((rd t281 x12_2) < 0) = false := decide_eq_false c31
             clear c31
             have H' := Aside0.mk H
             clear H
             obtain ⟨Ao33, co33, eo33⟩ := Kd.R_slice HO_6.out
             subst eo33
             have p287 : 0 ≤ (x12_2 : Int) := of_decide_eq_true (by first | (with_reducible assumption) | assumption)
             have q287 : x12_2 < (t281.length : Int) := of_decide_eq_true (by first | (with_reducible assumption) | assumption)
             obtain ⟨ad287, e287, hx287_0⟩ := Kd.at_int (Kd.R_reads' HO_6.out).2.2 x12_2 p287 q287
             cases e287
             replace p287 := eq_true p287
             replace q287 := eq_true q287
             have p288 : 0 ≤ (x12_2 : Int) := of_decide_eq_true (by first | (with_reducible assumption) | assumption)
             have q288 : x12_2 < (t281.length : Int) := of_decide_eq_true (by first | (with_reducible assumption) | assumption)
             obtain ⟨ad288, e288, hx288_0⟩ := Kd.at_int (Kd.R_reads' HO_6.out).2.2 x12_2 p288 q288
             obtain rfl : ad287 = ad288 := (by injection e288)
             replace p288 := eq_true p288
             replace q288 := eq_true q288
             have p289 : 0 ≤ (x12_2 : Int) := of_decide_eq_true (by first | (with_reducible assumption) | assumption)
             have q289 : x12_2 < (t275.length : Int) := of_decide_eq_true (by first | (with_reducible assumption) | assumption)
             obtain ⟨ad289, e289, hx289_0, hx289_1⟩ := at_T30 (Kd.R_reads' HO_4.out).2.2 x12_2 p289 q289
             cases e289
             replace p289 := eq_true p289
             replace q289 := eq_true q289
             have p290 : 0 ≤ ((ji22) : Int) := of_decide_eq_true (by first | (with_reducible assumption) | assumption)
             have q290 : (ji22) < (t281.length : Int) := of_decide_eq_true (by first | (with_reducible assumption) | assumption)
             obtain ⟨ad290, e290, hx290_0⟩ := Kd.at_int (Kd.R_reads' HO_6.out).2.2 (ji22) p290 q290
             obtain rfl : ad287 = ad290 := (by injection e290)
             replace p290 := eq_true p290
             replace q290 := eq_true q290
             have p295 : 0 ≤ (x12_2 : Int) := of_decide_eq_true (by first | (with_reducible assumption) | assumption)
             have q295 : x12_2 < (t281.length : Int) := of_decide_eq_true (by first | (with_reducible assumption) | assumption)
             obtain ⟨ad295, e295, hx295_0⟩ := Kd.at_int (Kd.R_reads' HO_6.out).2.2 x12_2 p295 q295
             obtain rfl : ad287 = ad295 := (by injection e295)
             replace p295 := eq_true p295
             replace q295 := eq_true q295
             go_wp2
             repeat (go_quiet (fail); try go_wp2)
             go_roundg k2
             case measure => have := HJ6.out; have := HK2.out; omega
             case rel => exact ⟨(wrap64 (x10_2 + (rd t281 x12_2))), (wrap64 (x11_2 + (wrap64 ((rd t281 x12_2) * ((rd_T30 t275 x12_2).f1))))), (ji22), (by first | rfl | (simp; done) | (simp [*]; done)), (by first | rfl | (simp; done) | (simp [*]; done)), (by first | rfl | (simp; done) | (simp only [← hji22] <;> (first | rfl | simp)) | (simp [*]; done)), H', ⟨by have := HJ6.out; have := HK2.out; omega⟩, ⟨by (with_reducible repeat (first | apply Kd.R_alloc | apply Kd.R_drewN | apply Kd.R_drew)); exact HO_4.out⟩, ⟨by (with_reducible repeat (first | apply Kd.R_alloc | apply Kd.R_drewN | apply Kd.R_drew)); exact HO_6.out⟩, ⟨by repeat (first | (with_reducible first | exact HB.out | apply below_alloc | apply pw_below_drewN | apply below_drew1) | exact HB.out)⟩⟩
          ·
           rw [if_neg c23] at H
           exact absurd H (by simp)
         ·
          rw [if_neg c21] at H
          have c21b0 : decide ((wrap64 (x12_2 + 1)) < (t281.length : Int)) = false := decide_eq_false c21
          clear c21
          by_cases c34 : (rd t281 x12_2) < 0
          ·
           rw [if_pos c34] at H
           have c34b0 : decide ((rd t281 x12_2) < 0) = true := decide_eq_true c34
           clear c34
           obtain rfl := Option.some.inj H
           obtain ⟨Ao35, co35, eo35⟩ := Kd.R_slice HO_6.out
           subst eo35
           have p287 : 0 ≤ (x12_2 : Int) := of_decide_eq_true (by first | (with_reducible assumption) | assumption)
           have q287 : x12_2 < (t281.length : Int) := of_decide_eq_true (by first | (with_reducible assumption) | assumption)
           obtain ⟨ad287, e287, hx287_0⟩ := Kd.at_int (Kd.R_reads' HO_6.out).2.2 x12_2 p287 q287
           cases e287
           replace p287 := eq_true p287
           replace q287 := eq_true q287
           have p288 : 0 ≤ (x12_2 : Int) := of_decide_eq_true (by first | (with_reducible assumption) | assumption)
           have q288 : x12_2 < (t281.length : Int) := of_decide_eq_true (by first | (with_reducible assumption) | assumption)
           obtain ⟨ad288, e288, hx288_0⟩ := Kd.at_int (Kd.R_reads' HO_6.out).2.2 x12_2 p288 q288
           obtain rfl : ad287 = ad288 := (by injection e288)
           replace p288 := eq_true p288
           replace q288 := eq_true q288
           have p289 : 0 ≤ (x12_2 : Int) := of_decide_eq_true (by first | (with_reducible assumption) | assumption)
           have q289 : x12_2 < (t275.length : Int) := of_decide_eq_true (by first | (with_reducible assumption) | assumption)
           obtain ⟨ad289, e289, hx289_0, hx289_1⟩ := at_T30 (Kd.R_reads' HO_4.out).2.2 x12_2 p289 q289
           cases e289
           replace p289 := eq_true p289
           replace q289 := eq_true q289
           have p296 : 0 ≤ (x12_2 : Int) := of_decide_eq_true (by first | (with_reducible assumption) | assumption)
           have q296 : x12_2 < (t281.length : Int) := of_decide_eq_true (by first | (with_reducible assumption) | assumption)
           obtain ⟨ad296, e296, hx296_0⟩ := Kd.at_int (Kd.R_reads' HO_6.out).2.2 x12_2 p296 q296
           obtain rfl : ad287 = ad296 := (by injection e296)
           replace p296 := eq_true p296
           replace q296 := eq_true q296
           go_wp2
           repeat (go_quiet (fail); try go_wp2)
           go_ret
           exact ⟨by first | rfl | (simp [errW_none, errW_some] <;> rfl) | (simp [*, errW_none, errW_some] <;> rfl), by repeat (first | (with_reducible first | exact HB.out | apply below_alloc | apply pw_below_drewN | apply below_drew1) | exact HB.out)⟩
          ·
           rw [if_neg c34] at H
           have c34b0 : decide ((rd t281 x12_2) < 0) = false := decide_eq_false c34
           clear c34
           have H' := Aside0.mk H
           clear H
           obtain ⟨Ao36, co36, eo36⟩ := Kd.R_slice HO_6.out
           subst eo36
           have p287 : 0 ≤ (x12_2 : Int) := of_decide_eq_true (by first | (with_reducible assumption) | assumption)
           have q287 : x12_2 < (t281.length : Int) := of_decide_eq_true (by first | (with_reducible assumption) | assumption)
           obtain ⟨ad287, e287, hx287_0⟩ := Kd.at_int (Kd.R_reads' HO_6.out).2.2 x12_2 p287 q287
           cases e287
           replace p287 := eq_true p287
           replace q287 := eq_true q287
           have p288 : 0 ≤ (x12_2 : Int) := of_decide_eq_true (by first | (with_reducible assumption) | assumption)
           have q288 : x12_2 < (t281.length : Int) := of_decide_eq_true (by first | (with_reducible assumption) | assumption)
           obtain ⟨ad288, e288, hx288_0⟩ := Kd.at_int (Kd.R_reads' HO_6.out).2.2 x12_2 p288 q288
           obtain rfl : ad287 = ad288 := (by injection e288)
           replace p288 := eq_true p288
           replace q288 := eq_true q288
           have p289 : 0 ≤ (x12_2 : Int) := of_decide_eq_true (by first | (with_reducible assumption) | assumption)
           have q289 : x12_2 < (t275.length : Int) := of_decide_eq_true (by first | (with_reducible assumption) | assumption)
           obtain ⟨ad289, e289, hx289_0, hx289_1⟩ := at_T30 (Kd.R_reads' HO_4.out).2.2 x12_2 p289 q289
           cases e289
           replace p289 := eq_true p289
           replace q289 := eq_true q289
           have p296 : 0 ≤ (x12_2 : Int) := of_decide_eq_true (by first | (with_reducible assumption) | assumption)
           have q296 : x12_2 < (t281.length : Int) := of_decide_eq_true (by first | (with_reducible assumption) | assumption)
           obtain ⟨ad296, e296, hx296_0⟩ := Kd.at_int (Kd.R_reads' HO_6.out).2.2 x12_2 p296 q296
           obtain rfl : ad287 = ad296 := (by injection e296)
           replace p296 := eq_true p296
           replace q296 := eq_true q296
           go_wp2
           repeat (go_quiet (fail); try go_wp2)
           go_roundg k2
           case measure => have := HJ6.out; have := HK2.out; omega
           case rel => exact ⟨(wrap64 (x10_2 + (rd t281 x12_2))), (wrap64 (x11_2 + (wrap64 ((rd t281 x12_2) * ((rd_T30 t275 x12_2).f1))))), (wrap64 (x12_2 + 1)), (by first | rfl | (simp; done) | (simp [*]; done)), (by first | rfl | (simp; done) | (simp [*]; done)), (by first | rfl | (simp; done) | (simp [*]; done)), H', ⟨by have := HJ6.out; have := HK2.out; omega⟩, ⟨by (with_reducible repeat (first | apply Kd.R_alloc | apply Kd.R_drewN | apply Kd.R_drew)); exact HO_4.out⟩, ⟨by (with_reducible repeat (first | apply Kd.R_alloc | apply Kd.R_drewN | apply Kd.R_drew)); exact HO_6.out⟩, ⟨by repeat (first | (with_reducible first | exact HB.out | apply below_alloc | apply pw_below_drewN | apply below_drew1) | exact HB.out)⟩⟩
        ·
         rw [if_neg c20] at H
         exact absurd H (by simp)
       ·
        rw [if_neg c19] at H
        exact absurd H (by simp)
      ·
       rw [if_neg c18] at H
       have c18b0 : decide (x12_2 < (t281.length : Int)) = false := decide_eq_false c18
       clear c18
       by_cases c37 : x10_2 = t279
       ·
        rw [if_pos c37] at H
        have c37b0 : (x10_2 == t279) = true := beq_iff_eq.mpr c37
        have c37b1 : (x10_2 != t279) = false := bne_eq_false_iff_eq.mpr c37
        clear c37
        by_cases c38 : x11_2 = t285
        ·
         rw [if_pos c38] at H
         have c38b0 : (x11_2 == t285) = true := beq_iff_eq.mpr c38
         have c38b1 : (x11_2 != t285) = false := bne_eq_false_iff_eq.mpr c38
         clear c38
         replace H := Option.bind_eq_some_iff.mp H
         obtain ⟨t297, A390, H⟩ := H
         replace H : (some t297) = some r := H
         have A39 := Aside0.mk A390
         clear A390
         obtain rfl := Option.some.inj H
         obtain ⟨Ao40, co40, eo40⟩ := Kd.R_slice HO_6.out
         subst eo40
         go_wp2_with (first | (go_at_call 12; (with_reducible refine (payrolllaw29_awake.calls k2  t297 _ A39.out).mono ?_); rintro e w41 ⟨rfl, hb⟩; have n0_ := Aside0.mk (Kd.R_below (by (with_reducible repeat (first | apply Kd.R_alloc | apply Kd.R_drewN | apply Kd.R_drew)); exact HO_4.out) hb); have n1_ := Aside0.mk (Kd.R_below (by (with_reducible repeat (first | apply Kd.R_alloc | apply Kd.R_drewN | apply Kd.R_drew)); exact HO_6.out) hb); have n2_ := Aside0.mk (below_step (by repeat (first | (with_reducible first | exact HB.out | apply below_alloc | apply pw_below_drewN | apply below_drew1) | exact HB.out)) hb); clear HO_4; clear HO_6; clear HB; have HO_4 := n0_; have HO_6 := n1_; have HB := n2_; clear n0_ n1_ n2_; (try clear hb); (try clear hb2); (try clear hk); (try clear hi)))
         repeat (go_quiet (first | (go_at_call 12; (with_reducible refine (payrolllaw29_awake.calls k2  t297 _ A39.out).mono ?_); rintro e w41 ⟨rfl, hb⟩; have n0_ := Aside0.mk (Kd.R_below (by (with_reducible repeat (first | apply Kd.R_alloc | apply Kd.R_drewN | apply Kd.R_drew)); exact HO_4.out) hb); have n1_ := Aside0.mk (Kd.R_below (by (with_reducible repeat (first | apply Kd.R_alloc | apply Kd.R_drewN | apply Kd.R_drew)); exact HO_6.out) hb); have n2_ := Aside0.mk (below_step (by repeat (first | (with_reducible first | exact HB.out | apply below_alloc | apply pw_below_drewN | apply below_drew1) | exact HB.out)) hb); clear HO_4; clear HO_6; clear HB; have HO_4 := n0_; have HO_6 := n1_; have HB := n2_; clear n0_ n1_ n2_; (try clear hb); (try clear hb2); (try clear hk); (try clear hi))); try go_wp2_with (first | (go_at_call 12; (with_reducible refine (payrolllaw29_awake.calls k2  t297 _ A39.out).mono ?_); rintro e w41 ⟨rfl, hb⟩; have n0_ := Aside0.mk (Kd.R_below (by (with_reducible repeat (first | apply Kd.R_alloc | apply Kd.R_drewN | apply Kd.R_drew)); exact HO_4.out) hb); have n1_ := Aside0.mk (Kd.R_below (by (with_reducible repeat (first | apply Kd.R_alloc | apply Kd.R_drewN | apply Kd.R_drew)); exact HO_6.out) hb); have n2_ := Aside0.mk (below_step (by repeat (first | (with_reducible first | exact HB.out | apply below_alloc | apply pw_below_drewN | apply below_drew1) | exact HB.out)) hb); clear HO_4; clear HO_6; clear HB; have HO_4 := n0_; have HO_6 := n1_; have HB := n2_; clear n0_ n1_ n2_; (try clear hb); (try clear hb2); (try clear hk); (try clear hi))))
         go_ret
         exact ⟨by first | rfl | (simp [errW_none, errW_some] <;> rfl) | (simp [*, errW_none, errW_some] <;> rfl), by repeat (first | (with_reducible first | exact HB.out | apply below_alloc | apply pw_below_drewN | apply below_drew1) | exact HB.out)⟩
        ·
         rw [if_neg c38] at H
         have c38b0 : (x11_2 == t285) = false := beq_eq_false_iff_ne.mpr c38
         have c38b1 : (x11_2 != t285) = true := bne_iff_ne.mpr c38
         obtain rfl := Option.some.inj H
         obtain ⟨Ao42, co42, eo42⟩ := Kd.R_slice HO_6.out
         subst eo42
         go_wp2
         repeat (go_quiet (fail); try go_wp2)
         go_ret
         exact ⟨by first | rfl | (simp [errW_none, errW_some] <;> rfl) | (simp [*, errW_none, errW_some] <;> rfl), by repeat (first | (with_reducible first | exact HB.out | apply below_alloc | apply pw_below_drewN | apply below_drew1) | exact HB.out)⟩
       ·
        rw [if_neg c37] at H
        have c37b0 : (x10_2 == t279) = false := beq_eq_false_iff_ne.mpr c37
        have c37b1 : (x10_2 != t279) = true := bne_iff_ne.mpr c37
        obtain rfl := Option.some.inj H
        obtain ⟨Ao43, co43, eo43⟩ := Kd.R_slice HO_6.out
        subst eo43
        go_wp2
        repeat (go_quiet (fail); try go_wp2)
        go_ret
        exact ⟨by first | rfl | (simp [errW_none, errW_some] <;> rfl) | (simp [*, errW_none, errW_some] <;> rfl), by repeat (first | (with_reducible first | exact HB.out | apply below_alloc | apply pw_below_drewN | apply below_drew1) | exact HB.out)⟩

/-- THE ONE PURE STATEMENT of payrolllaw29_BracketSplits: yours. -/
def payrolllaw29_BracketSplits.Pure : Prop := ∀ (l0 : List Int), l0.length ≤ maxLen → l0.length * 8 ≤ 140737488351232 → (∀ x ∈ l0, (Lit.int .i64 x).wf = true) → ∃ k, payrolllaw29_BracketSplits.f k l0 = some true
theorem payrolllaw29_BracketSplits.walk (P : payrolllaw29_BracketSplits.Pure) (a0 : Option Addr) (len0 cap0 : Nat) (z0 : List Int) (w : World) (w0 : (a0 = none ∧ len0 = 0 ∧ cap0 = 0 ∧ z0 = []) ∨ ∃ x, a0 = some x ∧ len0 ≤ cap0 ∧ cap0 ≤ maxLen ∧ z0.length = cap0 ∧ (∀ i, i < z0.length → w.cell? (x.add i) = some (.int .i64 (z0.getD i 0))) ∧ ∀ n ∈ z0, (Lit.int .i64 n).wf = true) (y0 : len0 * 8 ≤ 140737488351232) :
  Calls Try.prog 4 #[.slice a0 len0 cap0] w fun e w' => e = .returned (.bool true) ∧ Below w.heap.size w w' := by
 obtain ⟨l0, rfl, hr0, hm0, hw0, hc0⟩ := ReadsInt.ofRowC w0
 obtain ⟨k, h⟩ := P l0 hm0 y0 hw0
 refine (payrolllaw29_BracketSplits.calls k _ _ l0 true w (Kd.C_of_reads (d := (0 : Int)) (h1 := fun _ => rfl) hr0) hc0 h).mono ?_
 rintro e w' ⟨rfl, hd⟩
 exact ⟨rfl, hd⟩

end Go.Proofs.Ytafoplpaoahdiaa.P
