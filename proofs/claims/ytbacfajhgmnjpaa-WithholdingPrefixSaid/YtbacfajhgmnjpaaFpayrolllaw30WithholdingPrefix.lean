/- Proved here: that the Go function payrolllaw30_WithholdingPrefix computes the plain function of that name (the machine side of the laws, reworked from a print; no condition of its own). -/
import Derived.Test.YtbacfajhgmnjpaaProg
import Derived.Test.YtbacfajhgmnjpaaV1
import Derived.Test.YtbacfajhgmnjpaaV2
import Derived.Test.YtbacfajhgmnjpaaFPRE
import Derived.Test.YtbacfajhgmnjpaaFwithholdingDue
import Derived.Test.YtbacfajhgmnjpaaFwithholdingCumulative
import Derived.Test.YtbacfajhgmnjpaaFwithholdingYear
import Derived.Test.YtbacfajhgmnjpaaFpayrolllaw30awake
import Derived.Test.YtbacfajhgmnjpaaFpaygen
import Derived.Test.YtbacfajhgmnjpaaFpaygenDeckTariff3
import Derived.Test.YtbacfajhgmnjpaaFpaygenDeckBases
namespace Go.Proofs.Ytbacfajhgmnjpaa.P
open Go.RowKit Go.Proofs.YtbacfajhgmnjpaaW.PrintWords Go.Proofs.YtbacfajhgmnjpaaW.PrintLast Go.Proofs.YtbacfajhgmnjpaaW.PrintMore
attribute [local go_sem] max2_int min2_int max_two min_two max_three min_three max_four min_four   -- for this text's walks alone
set_option linter.unusedVariables false
set_option linter.unusedSimpArgs false

mutual
def payrolllaw30_WithholdingPrefix.j0 : Nat → Int → List Int → List Int → Bool → Int → List (S58) → Int → Int → Int → Int → List (S80) → Option (Bool)
 | 0, _, _, _, _, _, _, _, _, _, _, _ => none
 | k + 1, x5, x6, x7, x40, x755000, x755001, x755002, x755003, x755004, x755005, x755006 => if x40 = true then (some false) else (payrolllaw30_WithholdingPrefix.l0 k x5 x6 x7 0 0 0 x755000 x755001 x755002 x755003 x755004 x755005 x755006)
def payrolllaw30_WithholdingPrefix.l0 : Nat → Int → List Int → List Int → Int → Int → Int → Int → List (S58) → Int → Int → Int → Int → List (S80) → Option (Bool)
 | 0, _, _, _, _, _, _, _, _, _, _, _, _, _ => none
 | k + 1, x5, x6, x7, x9, x10, x11, x755000, x755001, x755002, x755003, x755004, x755005, x755006 => if x11 < x5 then (if 0 ≤ x11 then (if x11 < (x6.length : Int) then (if x11 < (x7.length : Int) then ((withholding_Due.f k x755000 x755001 x755002 x755003 x755004 x755005 x755006 x5 (wrap64 (x11 + 1)) (wrap64 (x9 + (rd x6 x11)))).bind fun bt771 => ((withholding_Cumulative.f k x755000 x755001 x755002 x755003 x755004 x755005 x755006 x5 (wrap64 (x11 + 1)) (wrap64 (x9 + (rd x6 x11))) 0).bind fun bt773 => (if bt771.2 = 0 then (if bt773.2 = 0 then (if bt771.1 = (wrap64 (x10 + (rd x7 x11))) then (if bt773.1 = bt771.1 then (payrolllaw30_WithholdingPrefix.l0 k x5 x6 x7 (wrap64 (x9 + (rd x6 x11))) (wrap64 (x10 + (rd x7 x11))) (wrap64 (x11 + 1)) x755000 x755001 x755002 x755003 x755004 x755005 x755006) else (some false)) else (some false)) else (some false)) else (some false)))) else (none)) else (none)) else (none)) else ((payrolllaw30_awake.f k).bind fun t768 => (some t768))
end
def payrolllaw30_WithholdingPrefix.f (k : Nat) (l0 : List Int) : Option (Bool) := (paygen_New.f l0).bind fun bt739 => ((paygen_Deck_Tariff.f k bt739.1 bt739.2 3).bind fun bt742 => ((paygen_Deck_Pick.f bt739.1 bt742.2.2.2.2.2.2.2 (([12, 5] : List Int))).bind fun bt758 => ((paygen_Deck_Bases.f k bt739.1 bt758.2 bt758.1).bind fun bt760 => ((withholding_Year.f k bt742.1 bt742.2.1 bt742.2.2.1 bt742.2.2.2.1 bt742.2.2.2.2.1 bt742.2.2.2.2.2.1 bt742.2.2.2.2.2.2.1 bt758.1 bt760.1).bind fun bt764 => (if bt764.2 = 0 then (payrolllaw30_WithholdingPrefix.j0 k bt758.1 bt760.1 bt764.1 ((bt764.1.length : Int) != bt758.1) bt742.1 bt742.2.1 bt742.2.2.1 bt742.2.2.2.1 bt742.2.2.2.2.1 bt742.2.2.2.2.2.1 bt742.2.2.2.2.2.2.1) else (payrolllaw30_WithholdingPrefix.j0 k bt758.1 bt760.1 bt764.1 true bt742.1 bt742.2.1 bt742.2.2.1 bt742.2.2.2.1 bt742.2.2.2.2.1 bt742.2.2.2.2.2.1 bt742.2.2.2.2.2.2.1))))))
theorem payrolllaw30_WithholdingPrefix.mono_l : ∀ k, (∀ y0 y1 y2 y3 y4 y5 y6 y7 y8 y9 y10, LeO (payrolllaw30_WithholdingPrefix.j0 k y0 y1 y2 y3 y4 y5 y6 y7 y8 y9 y10) (payrolllaw30_WithholdingPrefix.j0 (k + 1) y0 y1 y2 y3 y4 y5 y6 y7 y8 y9 y10)) ∧ (∀ y0 y1 y2 y3 y4 y5 y6 y7 y8 y9 y10 y11 y12, LeO (payrolllaw30_WithholdingPrefix.l0 k y0 y1 y2 y3 y4 y5 y6 y7 y8 y9 y10 y11 y12) (payrolllaw30_WithholdingPrefix.l0 (k + 1) y0 y1 y2 y3 y4 y5 y6 y7 y8 y9 y10 y11 y12))
 | 0 => ⟨fun _ _ _ _ _ _ _ _ _ _ _ r h => by simp [payrolllaw30_WithholdingPrefix.j0] at h, fun _ _ _ _ _ _ _ _ _ _ _ _ _ r h => by simp [payrolllaw30_WithholdingPrefix.l0] at h⟩
 | k + 1 => by
  obtain ⟨ih0, ih1⟩ := payrolllaw30_WithholdingPrefix.mono_l k
  refine ⟨?_, ?_⟩
  ·
   intro y0 y1 y2 y3 y4 y5 y6 y7 y8 y9 y10
   unfold payrolllaw30_WithholdingPrefix.j0
   repeat' first
   | (with_reducible exact ih0 _ _ _ _ _ _ _ _ _ _ _)
   | (with_reducible exact ih1 _ _ _ _ _ _ _ _ _ _ _ _ _)
   | (with_reducible exact paygen_Deck_Bases.mono _ _ _ _)
   | (with_reducible exact paygen_Deck_Tariff.mono _ _ _ _)
   | (with_reducible exact payrolllaw30_awake.mono _)
   | (with_reducible exact withholding_Cumulative.mono _ _ _ _ _ _ _ _ _ _ _ _)
   | (with_reducible exact withholding_Due.mono _ _ _ _ _ _ _ _ _ _ _)
   | (with_reducible exact withholding_Year.mono _ _ _ _ _ _ _ _ _ _)
   | (with_reducible exact LeO.refl _)
   | (with_reducible exact LeO.none _)
   | (with_reducible refine LeO.ite ?_ ?_)
   | (with_reducible refine LeO.bind ?_ (fun _ => ?_))
   | exact ih0 _ _ _ _ _ _ _ _ _ _ _
   | exact ih1 _ _ _ _ _ _ _ _ _ _ _ _ _
   | exact paygen_Deck_Bases.mono _ _ _ _
   | exact paygen_Deck_Tariff.mono _ _ _ _
   | exact payrolllaw30_awake.mono _
   | exact withholding_Cumulative.mono _ _ _ _ _ _ _ _ _ _ _ _
   | exact withholding_Due.mono _ _ _ _ _ _ _ _ _ _ _
   | exact withholding_Year.mono _ _ _ _ _ _ _ _ _ _
   | exact LeO.none _
   | refine LeO.ite ?_ ?_
   | refine LeO.bind ?_ (fun _ => ?_)
  ·
   intro y0 y1 y2 y3 y4 y5 y6 y7 y8 y9 y10 y11 y12
   unfold payrolllaw30_WithholdingPrefix.l0
   repeat' first
   | (with_reducible exact ih0 _ _ _ _ _ _ _ _ _ _ _)
   | (with_reducible exact ih1 _ _ _ _ _ _ _ _ _ _ _ _ _)
   | (with_reducible exact paygen_Deck_Bases.mono _ _ _ _)
   | (with_reducible exact paygen_Deck_Tariff.mono _ _ _ _)
   | (with_reducible exact payrolllaw30_awake.mono _)
   | (with_reducible exact withholding_Cumulative.mono _ _ _ _ _ _ _ _ _ _ _ _)
   | (with_reducible exact withholding_Due.mono _ _ _ _ _ _ _ _ _ _ _)
   | (with_reducible exact withholding_Year.mono _ _ _ _ _ _ _ _ _ _)
   | (with_reducible exact LeO.refl _)
   | (with_reducible exact LeO.none _)
   | (with_reducible refine LeO.ite ?_ ?_)
   | (with_reducible refine LeO.bind ?_ (fun _ => ?_))
   | exact ih0 _ _ _ _ _ _ _ _ _ _ _
   | exact ih1 _ _ _ _ _ _ _ _ _ _ _ _ _
   | exact paygen_Deck_Bases.mono _ _ _ _
   | exact paygen_Deck_Tariff.mono _ _ _ _
   | exact payrolllaw30_awake.mono _
   | exact withholding_Cumulative.mono _ _ _ _ _ _ _ _ _ _ _ _
   | exact withholding_Due.mono _ _ _ _ _ _ _ _ _ _ _
   | exact withholding_Year.mono _ _ _ _ _ _ _ _ _ _
   | exact LeO.none _
   | refine LeO.ite ?_ ?_
   | refine LeO.bind ?_ (fun _ => ?_)
theorem payrolllaw30_WithholdingPrefix.mono : ∀ a0 k, LeO (payrolllaw30_WithholdingPrefix.f k a0) (payrolllaw30_WithholdingPrefix.f (k + 1) a0) := by
 intro a0 k
 obtain ⟨ih0, ih1⟩ := payrolllaw30_WithholdingPrefix.mono_l k
 unfold payrolllaw30_WithholdingPrefix.f
 repeat' first
   | (with_reducible exact ih0 _ _ _ _ _ _ _ _ _ _ _)
   | (with_reducible exact ih1 _ _ _ _ _ _ _ _ _ _ _ _ _)
   | (with_reducible exact paygen_Deck_Bases.mono _ _ _ _)
   | (with_reducible exact paygen_Deck_Tariff.mono _ _ _ _)
   | (with_reducible exact payrolllaw30_awake.mono _)
   | (with_reducible exact withholding_Cumulative.mono _ _ _ _ _ _ _ _ _ _ _ _)
   | (with_reducible exact withholding_Due.mono _ _ _ _ _ _ _ _ _ _ _)
   | (with_reducible exact withholding_Year.mono _ _ _ _ _ _ _ _ _ _)
   | (with_reducible exact LeO.refl _)
   | (with_reducible exact LeO.none _)
   | (with_reducible refine LeO.ite ?_ ?_)
   | (with_reducible refine LeO.bind ?_ (fun _ => ?_))
   | exact ih0 _ _ _ _ _ _ _ _ _ _ _
   | exact ih1 _ _ _ _ _ _ _ _ _ _ _ _ _
   | exact paygen_Deck_Bases.mono _ _ _ _
   | exact paygen_Deck_Tariff.mono _ _ _ _
   | exact payrolllaw30_awake.mono _
   | exact withholding_Cumulative.mono _ _ _ _ _ _ _ _ _ _ _ _
   | exact withholding_Due.mono _ _ _ _ _ _ _ _ _ _ _
   | exact withholding_Year.mono _ _ _ _ _ _ _ _ _ _
   | exact LeO.none _
   | refine LeO.ite ?_ ?_
   | refine LeO.bind ?_ (fun _ => ?_)
set_option maxHeartbeats 8000000 in
set_option maxRecDepth 100000 in
theorem payrolllaw30_WithholdingPrefix.calls (k : Nat) (A0 : Option Addr) (c0 : Nat) (l0 : List Int) (r : Bool) (w : World) (hr0 : Kd.C (Kd.int .i64) w A0 l0.length l0) (hc0 : l0.length ≤ c0) (h : payrolllaw30_WithholdingPrefix.f k l0 = some r) :
  Calls Try.prog 8 #[.slice A0 l0.length c0] w fun e w' => e = .returned (.bool r) ∧ Below w.heap.size w w' := by
 have hu33 := Try.underlying33
 have HR0 := Aside0.mk hr0
 have HC0 := Aside0.mk hc0
 clear hr0 hc0
 have HB := Aside0.mk (Below.refl w.heap.size w)
 have H : ((paygen_New.f l0).bind fun bt739 => ((paygen_Deck_Tariff.f k bt739.1 bt739.2 3).bind fun bt742 => ((paygen_Deck_Pick.f bt739.1 bt742.2.2.2.2.2.2.2 (([12, 5] : List Int))).bind fun bt758 => ((paygen_Deck_Bases.f k bt739.1 bt758.2 bt758.1).bind fun bt760 => ((withholding_Year.f k bt742.1 bt742.2.1 bt742.2.2.1 bt742.2.2.2.1 bt742.2.2.2.2.1 bt742.2.2.2.2.2.1 bt742.2.2.2.2.2.2.1 bt758.1 bt760.1).bind fun bt764 => (if bt764.2 = 0 then (payrolllaw30_WithholdingPrefix.j0 k bt758.1 bt760.1 bt764.1 ((bt764.1.length : Int) != bt758.1) bt742.1 bt742.2.1 bt742.2.2.1 bt742.2.2.2.1 bt742.2.2.2.2.1 bt742.2.2.2.2.2.1 bt742.2.2.2.2.2.2.1) else (payrolllaw30_WithholdingPrefix.j0 k bt758.1 bt760.1 bt764.1 true bt742.1 bt742.2.1 bt742.2.2.1 bt742.2.2.2.1 bt742.2.2.2.2.1 bt742.2.2.2.2.2.1 bt742.2.2.2.2.2.2.1))))))) = some r := h
 clear h
 replace H := Option.bind_eq_some_iff.mp H
 obtain ⟨⟨t739, t740⟩, A20, H⟩ := H
 try dsimp only at H
 have A2 := Aside0.mk A20
 clear A20
 replace H := Option.bind_eq_some_iff.mp H
 obtain ⟨⟨t742, t743, t746, t747, t748, t749, t750, t753⟩, A30, H⟩ := H
 try dsimp only at H
 have A3 := Aside0.mk A30
 clear A30
 obtain ⟨y755, hy755⟩ : ∃ y_ : List Int, y_ = (([12, 5] : List Int)) := ⟨_, rfl⟩
 replace H : ((paygen_Deck_Pick.f t739 t753 y755).bind fun bt758 => ((paygen_Deck_Bases.f k t739 bt758.2 bt758.1).bind fun bt760 => ((withholding_Year.f k t742 t743 t746 t747 t748 t749 t750 bt758.1 bt760.1).bind fun bt764 => (if bt764.2 = 0 then (payrolllaw30_WithholdingPrefix.j0 k bt758.1 bt760.1 bt764.1 ((bt764.1.length : Int) != bt758.1) t742 t743 t746 t747 t748 t749 t750) else (payrolllaw30_WithholdingPrefix.j0 k bt758.1 bt760.1 bt764.1 true t742 t743 t746 t747 t748 t749 t750))))) = some r := by first | (rw [hy755]; with_reducible exact H) | (have H2_ := (Option.bind_some _ _).symm.trans H; rw [hy755]; with_reducible exact H2_) | (have H2_ := (Option.bind_some _ _).symm.trans H; with_reducible exact H2_) | with_reducible exact H | (rw [hy755]; exact H) | exact H
 have Ny755 := Aside0.mk hy755
 clear hy755
 replace H := Option.bind_eq_some_iff.mp H
 obtain ⟨⟨t758, t759⟩, A40, H⟩ := H
 try dsimp only at H
 have A4 := Aside0.mk A40
 clear A40
 replace H := Option.bind_eq_some_iff.mp H
 obtain ⟨⟨t760, t763⟩, A50, H⟩ := H
 try dsimp only at H
 have A5 := Aside0.mk A50
 clear A50
 replace H := Option.bind_eq_some_iff.mp H
 obtain ⟨⟨t764, t767⟩, A60, H⟩ := H
 try dsimp only at H
 have A6 := Aside0.mk A60
 clear A60
 have HC7 := Aside0.mk H
 clear H
 go_enter Try.func8, Try.ntmps8
 go_upto_region 6 with (first | (go_at_call 13; (with_reducible refine (paygen_New.calls _ _ l0 t739 t740 w _ ?side1 ?side2 ?side3 A2.out).mono ?_); (case side1 => exact q1); (case side2 => exact HR0.out); (case side3 => exact HC0.out); rintro e w8 ⟨g741, rfl, hi, hb, hb2⟩; have n0_ := Aside0.mk (hb); have n1_ := Aside0.mk (hi); clear HB; have HB := n0_; have HI741 := n1_; clear n0_ n1_; (try clear hb); (try clear hb2); (try clear hk); (try clear hi)) | (go_at_call 14; (with_reducible refine (paygen_Deck_Tariff.calls k g741 t739 t740 3 t742 t743 t746 t747 t748 t749 t750 t753 w _ ?side1 ?side2 A3.out).mono ?_); (case side1 => exact (by repeat (first | (with_reducible first | exact HI741.out | apply IsS63.alloc | apply IsS63.drewN | apply IsS63.drew | apply IsS63.set_1) | exact HI741.out))); (case side2 => exact q101); rintro e w9 ⟨v744, v751, rfl, ho0, ho1, hi, hb, hk⟩; have n0_ := Aside0.mk (Kd.R_lower ho0 (below_size q101)); have n1_ := Aside0.mk (Kd.R_lower ho1 (below_size q101)); have n2_ := Aside0.mk (hb); have n3_ := Aside0.mk (hi); clear HB; clear HI741; have HO745 := n0_; have HO752 := n1_; have HB := n2_; have HI741 := n3_; clear n0_ n1_ n2_ n3_; (try clear hb); (try clear hb2); (try clear hk); (try clear hi); (try clear ho0); (try clear ho1)) | ((with_reducible refine gate_dst (N := 4) rfl ?_); (try (refine gate_guard (by rfl) ?_; dsimp only)); refine box_event ?hg (N := 4) ?hd (cs := #[.int .i64 0, .slice none 0 0, .int .i64 0, .int .i64 0, .int .i64 0, .int .i64 0, .slice none 0 0]) (t := 33) ?hr ?_; (case hd => rfl); (case hg => rfl); (case hr => first | (go_simp; done) | (go_simp; rfl)); intro gb754 hg w10 hbox hb; have n0_ := Aside0.mk (Kd.R_below (by (with_reducible repeat (first | apply Kd.R_alloc | apply Kd.R_drewN | apply Kd.R_drew)); exact HO745.out) hb); have n1_ := Aside0.mk (Kd.R_below (by (with_reducible repeat (first | apply Kd.R_alloc | apply Kd.R_drewN | apply Kd.R_drew)); exact HO752.out) hb); have n2_ := Aside0.mk (IsS63.below (by repeat (first | (with_reducible first | exact HI741.out | apply IsS63.alloc | apply IsS63.drewN | apply IsS63.drew | apply IsS63.set_1) | exact HI741.out)) hb); have n3_ := Aside0.mk (below_step q101 hb); have n4_ := Aside0.mk (hbox); have n5_ := Aside0.mk ((by rw [hg]; exact (below_size q101) : w.heap.size ≤ gb754)); have n6_ := Aside0.mk ((by rw [hg]; exact (below_size q101) : w.heap.size ≤ gb754)); have n7_ := Aside0.mk ((by rw [hg]; exact Nat.ne_of_lt (IsS63.lt (show IsS63 w _ g741 t739 t753 from by repeat (first | (with_reducible first | exact HI741.out | apply IsS63.alloc | apply IsS63.drewN | apply IsS63.drew | apply IsS63.set_1) | exact HI741.out))) : g741 ≠ gb754)); have n8_ := Aside0.mk ((by rw [hg]; exact Nat.ne_of_gt (IsS63.lt (show IsS63 w _ g741 t739 t753 from by repeat (first | (with_reducible first | exact HI741.out | apply IsS63.alloc | apply IsS63.drewN | apply IsS63.drew | apply IsS63.set_1) | exact HI741.out))) : gb754 ≠ g741)); clear HO745; clear HO752; clear HI741; clear HB; have HO745 := n0_; have HO752 := n1_; have HI741 := n2_; have HB := n3_; have BK754 := n4_; have GW754 := n5_; have GE754 := n6_; have NB741_754 := n7_; have NB754_741 := n8_; clear n0_ n1_ n2_ n3_ n4_ n5_ n6_ n7_ n8_; clear hb hbox hg; have hnb11 := NB754_741.out; have hnc11 := NB741_754.out; have hcz12_0 : w10.cell? ⟨gb754, 0, none⟩ = some (.int .i64 0) := (blk_cell BK754.out 0).trans rfl; have hcz12_1 : w10.cell? ⟨gb754, 1, none⟩ = some (.slice none 0 0) := (blk_cell BK754.out 1).trans rfl; have hcz12_2 : w10.cell? ⟨gb754, 2, none⟩ = some (.int .i64 0) := (blk_cell BK754.out 2).trans rfl; have hcz12_3 : w10.cell? ⟨gb754, 3, none⟩ = some (.int .i64 0) := (blk_cell BK754.out 3).trans rfl; have hcz12_4 : w10.cell? ⟨gb754, 4, none⟩ = some (.int .i64 0) := (blk_cell BK754.out 4).trans rfl; have hcz12_5 : w10.cell? ⟨gb754, 5, none⟩ = some (.int .i64 0) := (blk_cell BK754.out 5).trans rfl; have hcz12_6 : w10.cell? ⟨gb754, 6, none⟩ = some (.slice none 0 0) := (blk_cell BK754.out 6).trans rfl; have hfz12_0 := blk_frozen BK754.out 0; have hfz12_1 := blk_frozen BK754.out 1; have hfz12_2 := blk_frozen BK754.out 2; have hfz12_3 := blk_frozen BK754.out 3; have hfz12_4 := blk_frozen BK754.out 4; have hfz12_5 := blk_frozen BK754.out 5; have hfz12_6 := blk_frozen BK754.out 6; obtain ⟨Ao13, co13, eo13⟩ := Kd.R_slice HO745.out; subst eo13; obtain ⟨Ao14, co14, eo14⟩ := Kd.R_slice HO752.out; subst eo14) | ((with_reducible refine gate_dst (N := 21) rfl ?_); (try (refine gate_guard (by rfl) ?_; dsimp only)); refine Kd.R_lit (Kd.int .i64) _ 3 ?hg (N := 21) ?hd (xs := ([12, 5] : List Int)) (inner := [.int .i64 12, .int .i64 5]) (ok := fun _ => True) (okp := fun _ => True) ?hr ?hp (fun _ hk => hk) trivial (Below.refl _ _) (Nat.le_refl _) (by simp) ?_; (case hd => rfl); (case hg => rfl); (case hr => first | (go_simp; done) | (go_simp; rfl)); (case hp => exact (Reps.one (show Kd.M (Kd.int .i64) _ _ _ 12 [.int .i64 12] from rfl) (Reps.one (show Kd.M (Kd.int .i64) _ _ _ 5 [.int .i64 5] from rfl) (Reps.none _ _)))); intro v756 w15 ho16 hb hg_ hnew_; clear hg_ hnew_; (first | rw [← Ny755.out] at ho16 | (simp only [Int.reduceToNat] at ho16; rw [← Ny755.out] at ho16)); have n0_ := Aside0.mk (Kd.R_below (by (with_reducible repeat (first | apply Kd.R_alloc | apply Kd.R_drewN | apply Kd.R_drew)); exact (Kd.R_mono (Kd.R_far (p := ⟨gb754, 6, none⟩) (Kd.R_far (p := ⟨gb754, 5, none⟩) (Kd.R_far (p := ⟨gb754, 4, none⟩) (Kd.R_far (p := ⟨gb754, 3, none⟩) (Kd.R_far (p := ⟨gb754, 2, none⟩) (Kd.R_far (p := ⟨gb754, 1, none⟩) (Kd.R_far (p := ⟨gb754, 0, none⟩) (Kd.R_types HO745.out BK754.out (by decide)) (fun _ hk => hk.2) (.int .i64 t742)) (fun _ hk => hk.2) (.slice Ao13 t743.length co13)) (fun _ hk => hk.2) (.int .i64 t746)) (fun _ hk => hk.2) (.int .i64 t747)) (fun _ hk => hk.2) (.int .i64 t748)) (fun _ hk => hk.2) (.int .i64 t749)) (fun _ hk => hk.2) (.slice Ao14 t750.length co14)) (fun _ h_ => h_.1))) hb); have n1_ := Aside0.mk (Kd.R_below (by (with_reducible repeat (first | apply Kd.R_alloc | apply Kd.R_drewN | apply Kd.R_drew)); exact (Kd.R_mono (Kd.R_far (p := ⟨gb754, 6, none⟩) (Kd.R_far (p := ⟨gb754, 5, none⟩) (Kd.R_far (p := ⟨gb754, 4, none⟩) (Kd.R_far (p := ⟨gb754, 3, none⟩) (Kd.R_far (p := ⟨gb754, 2, none⟩) (Kd.R_far (p := ⟨gb754, 1, none⟩) (Kd.R_far (p := ⟨gb754, 0, none⟩) (Kd.R_types HO752.out BK754.out (by decide)) (fun _ hk => hk.2) (.int .i64 t742)) (fun _ hk => hk.2) (.slice Ao13 t743.length co13)) (fun _ hk => hk.2) (.int .i64 t746)) (fun _ hk => hk.2) (.int .i64 t747)) (fun _ hk => hk.2) (.int .i64 t748)) (fun _ hk => hk.2) (.int .i64 t749)) (fun _ hk => hk.2) (.slice Ao14 t750.length co14)) (fun _ h_ => h_.1))) hb); have n2_ := Aside0.mk (Kd.R_lower ho16 (below_size q73)); have n3_ := Aside0.mk (IsS63.below (show IsS63 w (((((((w10.setCell ⟨gb754, 0, none⟩ (.int .i64 t742)).setCell ⟨gb754, 1, none⟩ (.slice Ao13 t743.length co13)).setCell ⟨gb754, 2, none⟩ (.int .i64 t746)).setCell ⟨gb754, 3, none⟩ (.int .i64 t747)).setCell ⟨gb754, 4, none⟩ (.int .i64 t748)).setCell ⟨gb754, 5, none⟩ (.int .i64 t749)).setCell ⟨gb754, 6, none⟩ (.slice Ao14 t750.length co14)) g741 t739 t753 from by repeat (first | (with_reducible first | exact HI741.out | apply IsS63.alloc | apply IsS63.drewN | apply IsS63.drew | apply IsS63.set_1 | refine IsS63.far ?_ NB741_754.out _) | exact HI741.out)) hb); have n4_ := Aside0.mk (blk_below (g := gb754) (o := .cells #[.int .i64 t742, .slice Ao13 t743.length co13, .int .i64 t746, .int .i64 t747, .int .i64 t748, .int .i64 t749, .slice Ao14 t750.length co14] 33 (0, 0)) (by (with_reducible repeat (first | refine blk_drewN ?_ _ | refine blk_drew ?_ | refine blk_alloc ?_ _)); refine blk_put (cs := #[.int .i64 t742, .slice Ao13 t743.length co13, .int .i64 t746, .int .i64 t747, .int .i64 t748, .int .i64 t749, .slice none 0 0]) ?_ 6 _ rfl; (with_reducible repeat (first | refine blk_drewN ?_ _ | refine blk_drew ?_ | refine blk_alloc ?_ _)); refine blk_put (cs := #[.int .i64 t742, .slice Ao13 t743.length co13, .int .i64 t746, .int .i64 t747, .int .i64 t748, .int .i64 0, .slice none 0 0]) ?_ 5 _ rfl; (with_reducible repeat (first | refine blk_drewN ?_ _ | refine blk_drew ?_ | refine blk_alloc ?_ _)); refine blk_put (cs := #[.int .i64 t742, .slice Ao13 t743.length co13, .int .i64 t746, .int .i64 t747, .int .i64 0, .int .i64 0, .slice none 0 0]) ?_ 4 _ rfl; (with_reducible repeat (first | refine blk_drewN ?_ _ | refine blk_drew ?_ | refine blk_alloc ?_ _)); refine blk_put (cs := #[.int .i64 t742, .slice Ao13 t743.length co13, .int .i64 t746, .int .i64 0, .int .i64 0, .int .i64 0, .slice none 0 0]) ?_ 3 _ rfl; (with_reducible repeat (first | refine blk_drewN ?_ _ | refine blk_drew ?_ | refine blk_alloc ?_ _)); refine blk_put (cs := #[.int .i64 t742, .slice Ao13 t743.length co13, .int .i64 0, .int .i64 0, .int .i64 0, .int .i64 0, .slice none 0 0]) ?_ 2 _ rfl; (with_reducible repeat (first | refine blk_drewN ?_ _ | refine blk_drew ?_ | refine blk_alloc ?_ _)); refine blk_put (cs := #[.int .i64 t742, .slice none 0 0, .int .i64 0, .int .i64 0, .int .i64 0, .int .i64 0, .slice none 0 0]) ?_ 1 _ rfl; (with_reducible repeat (first | refine blk_drewN ?_ _ | refine blk_drew ?_ | refine blk_alloc ?_ _)); refine blk_put (cs := #[.int .i64 0, .slice none 0 0, .int .i64 0, .int .i64 0, .int .i64 0, .int .i64 0, .slice none 0 0]) ?_ 0 _ rfl; (with_reducible repeat (first | refine blk_drewN ?_ _ | refine blk_drew ?_ | refine blk_alloc ?_ _)); exact BK754.out) hb); have n5_ := Aside0.mk (below_step q73 hb); clear HO745; clear HO752; clear HI741; clear BK754; clear HB; have HO745 := n0_; have HO752 := n1_; have HO757 := n2_; have HI741 := n3_; have BK754 := n4_; have HB := n5_; clear n0_ n1_ n2_ n3_ n4_ n5_; clear hb ho16; obtain ⟨Ao17, co17, eo17⟩ := Kd.R_slice HO757.out; subst eo17) | (go_at_call 15; (with_reducible refine (paygen_Deck_Pick.calls g741 t739 t753 _ _ y755 t758 t759 w _ ?side1 ?side2 ?side3 ?side4 ?side5 A4.out).mono ?_); (case side1 => exact (by repeat (first | (with_reducible first | exact HI741.out | apply IsS63.alloc | apply IsS63.drewN | apply IsS63.drew | apply IsS63.set_1 | refine IsS63.far ?_ NB741_754.out _) | exact HI741.out))); (case side2 => exact q73); (case side3 => exact (by repeat (first | exact (Kd.R_reads' HO757.out).2.2 | (with_reducible refine Kd.C_alloc ?_ _) | (with_reducible refine Kd.C_drewN ?_ _) | (with_reducible refine Kd.C_drew ?_)))); (case side4 => exact (Kd.R_reads' HO757.out).2.1); (case side5 => exact far_slice (IsS63.own_ne HI741.out HO757.out (by decide))); rintro e w18 ⟨rfl, hi, hb, hk⟩; have n0_ := Aside0.mk (Kd.R_mono (Kd.R_keep (IsS63.apart (show IsS63 w _ g741 t739 t753 from by repeat (first | (with_reducible first | exact HI741.out | apply IsS63.alloc | apply IsS63.drewN | apply IsS63.drew | apply IsS63.set_1 | refine IsS63.far ?_ NB741_754.out _) | exact HI741.out)) (by (with_reducible repeat (first | apply Kd.R_alloc | apply Kd.R_drewN | apply Kd.R_drew)); exact HO745.out) (by decide)) hk (fun _ h => h.2)) (fun _ h => h.1)); have n1_ := Aside0.mk (Kd.R_mono (Kd.R_keep (IsS63.apart (show IsS63 w _ g741 t739 t753 from by repeat (first | (with_reducible first | exact HI741.out | apply IsS63.alloc | apply IsS63.drewN | apply IsS63.drew | apply IsS63.set_1 | refine IsS63.far ?_ NB741_754.out _) | exact HI741.out)) (by (with_reducible repeat (first | apply Kd.R_alloc | apply Kd.R_drewN | apply Kd.R_drew)); exact HO752.out) (by decide)) hk (fun _ h => h.2)) (fun _ h => h.1)); have n2_ := Aside0.mk (KeepBut.blk hk (g' := gb754) (o := .cells #[.int .i64 t742, .slice Ao13 t743.length co13, .int .i64 t746, .int .i64 t747, .int .i64 t748, .int .i64 t749, .slice Ao14 t750.length co14] 33 (0, 0)) q64 NB754_741.out (by simp)); have n3_ := Aside0.mk (Kd.R_mono (Kd.R_keep (IsS63.apart (show IsS63 w _ g741 t739 t753 from by repeat (first | (with_reducible first | exact HI741.out | apply IsS63.alloc | apply IsS63.drewN | apply IsS63.drew | apply IsS63.set_1 | refine IsS63.far ?_ NB741_754.out _) | exact HI741.out)) (by (with_reducible repeat (first | apply Kd.R_alloc | apply Kd.R_drewN | apply Kd.R_drew)); exact HO757.out) (by decide)) hk (fun _ h => h.2)) (fun _ h => h.1)); have n4_ := Aside0.mk (hb); have n5_ := Aside0.mk (hi); clear HO745; clear HO752; clear BK754; clear HO757; clear HB; clear HI741; have HO745 := n0_; have HO752 := n1_; have BK754 := n2_; have HO757 := n3_; have HB := n4_; have HI741 := n5_; clear n0_ n1_ n2_ n3_ n4_ n5_; (try clear hb); (try clear hb2); (try clear hk); (try clear hi)) | (go_at_call 30; (with_reducible refine (paygen_Deck_Bases.calls k g741 t739 t759 t758 t760 t763 w _ ?side1 ?side2 A5.out).mono ?_); (case side1 => exact (by repeat (first | (with_reducible first | exact HI741.out | apply IsS63.alloc | apply IsS63.drewN | apply IsS63.drew | apply IsS63.set_1 | refine IsS63.far ?_ NB741_754.out _) | exact HI741.out))); (case side2 => exact q73); rintro e w19 ⟨v761, rfl, ho0, hi, hb, hk⟩; have n0_ := Aside0.mk (Kd.R_mono (Kd.R_keep (IsS63.apart (show IsS63 w _ g741 t739 t759 from by repeat (first | (with_reducible first | exact HI741.out | apply IsS63.alloc | apply IsS63.drewN | apply IsS63.drew | apply IsS63.set_1 | refine IsS63.far ?_ NB741_754.out _) | exact HI741.out)) (by (with_reducible repeat (first | apply Kd.R_alloc | apply Kd.R_drewN | apply Kd.R_drew)); exact HO745.out) (by decide)) hk (fun _ h => h.2)) (fun _ h => h.1)); have n1_ := Aside0.mk (Kd.R_mono (Kd.R_keep (IsS63.apart (show IsS63 w _ g741 t739 t759 from by repeat (first | (with_reducible first | exact HI741.out | apply IsS63.alloc | apply IsS63.drewN | apply IsS63.drew | apply IsS63.set_1 | refine IsS63.far ?_ NB741_754.out _) | exact HI741.out)) (by (with_reducible repeat (first | apply Kd.R_alloc | apply Kd.R_drewN | apply Kd.R_drew)); exact HO752.out) (by decide)) hk (fun _ h => h.2)) (fun _ h => h.1)); have n2_ := Aside0.mk (KeepBut.blk hk (g' := gb754) (o := .cells #[.int .i64 t742, .slice Ao13 t743.length co13, .int .i64 t746, .int .i64 t747, .int .i64 t748, .int .i64 t749, .slice Ao14 t750.length co14] 33 (0, 0)) q64 NB754_741.out (by simp)); have n3_ := Aside0.mk (Kd.R_mono (Kd.R_told (Kd.R_oldK (IsS63.apart (show IsS63 w _ g741 t739 t759 from by repeat (first | (with_reducible first | exact HI741.out | apply IsS63.alloc | apply IsS63.drewN | apply IsS63.drew | apply IsS63.set_1 | refine IsS63.far ?_ NB741_754.out _) | exact HI741.out)) (by (with_reducible repeat (first | apply Kd.R_alloc | apply Kd.R_drewN | apply Kd.R_drew)); exact HO757.out) (by decide)) hk) (Kd.R_base ho0)) (fun _ h_ => h_.1)); have n4_ := Aside0.mk (Kd.R_lower (Kd.R_new' ho0 (Kd.R_lt (by (with_reducible repeat (first | apply Kd.R_alloc | apply Kd.R_drewN | apply Kd.R_drew)); exact HO757.out))) (below_size q73)); have n5_ := Aside0.mk (hb); have n6_ := Aside0.mk (hi); clear HO745; clear HO752; clear BK754; clear HO757; clear HB; clear HI741; have HO745 := n0_; have HO752 := n1_; have BK754 := n2_; have HO757 := n3_; have HO762 := n4_; have HB := n5_; have HI741 := n6_; clear n0_ n1_ n2_ n3_ n4_ n5_ n6_; (try clear hb); (try clear hb2); (try clear hk); (try clear hi); (try clear ho0); have hcz20_0 : w19.cell? ⟨gb754, 0, none⟩ = some (.int .i64 t742) := (blk_cell BK754.out 0).trans rfl; have hcz20_1 : w19.cell? ⟨gb754, 1, none⟩ = some (.slice Ao13 t743.length co13) := (blk_cell BK754.out 1).trans rfl; have hcz20_2 : w19.cell? ⟨gb754, 2, none⟩ = some (.int .i64 t746) := (blk_cell BK754.out 2).trans rfl; have hcz20_3 : w19.cell? ⟨gb754, 3, none⟩ = some (.int .i64 t747) := (blk_cell BK754.out 3).trans rfl; have hcz20_4 : w19.cell? ⟨gb754, 4, none⟩ = some (.int .i64 t748) := (blk_cell BK754.out 4).trans rfl; have hcz20_5 : w19.cell? ⟨gb754, 5, none⟩ = some (.int .i64 t749) := (blk_cell BK754.out 5).trans rfl; have hcz20_6 : w19.cell? ⟨gb754, 6, none⟩ = some (.slice Ao14 t750.length co14) := (blk_cell BK754.out 6).trans rfl; have hfz20_0 := blk_frozen BK754.out 0; have hfz20_1 := blk_frozen BK754.out 1; have hfz20_2 := blk_frozen BK754.out 2; have hfz20_3 := blk_frozen BK754.out 3; have hfz20_4 := blk_frozen BK754.out 4; have hfz20_5 := blk_frozen BK754.out 5; have hfz20_6 := blk_frozen BK754.out 6; obtain ⟨Ao21, co21, eo21⟩ := Kd.R_slice HO762.out; subst eo21) | (go_at_call 31; (with_reducible refine (withholding_Year.calls k t742 _ _ t743 t746 t747 t748 t749 _ _ t750 t758 _ _ t760 t764 t767 _ ?side1 ?side2 ?side3 ?side4 ?side5 ?side6 A6.out).mono ?_); (case side1 => exact (by repeat (first | exact (Kd.R_reads' HO745.out).2.2 | (with_reducible refine Kd.C_alloc ?_ _) | (with_reducible refine Kd.C_drewN ?_ _) | (with_reducible refine Kd.C_drew ?_)))); (case side2 => exact (Kd.R_reads' HO745.out).2.1); (case side3 => exact (by repeat (first | exact (Kd.R_reads' HO752.out).2.2 | (with_reducible refine Kd.C_alloc ?_ _) | (with_reducible refine Kd.C_drewN ?_ _) | (with_reducible refine Kd.C_drew ?_)))); (case side4 => exact (Kd.R_reads' HO752.out).2.1); (case side5 => exact (by repeat (first | exact (Kd.R_reads' HO762.out).2.2 | (with_reducible refine Kd.C_alloc ?_ _) | (with_reducible refine Kd.C_drewN ?_ _) | (with_reducible refine Kd.C_drew ?_)))); (case side6 => exact (Kd.R_reads' HO762.out).2.1); rintro e w22 ⟨v765, rfl, ho0, hb⟩; have n0_ := Aside0.mk (Kd.R_below (by (with_reducible repeat (first | apply Kd.R_alloc | apply Kd.R_drewN | apply Kd.R_drew)); exact HO745.out) hb); have n1_ := Aside0.mk (Kd.R_below (by (with_reducible repeat (first | apply Kd.R_alloc | apply Kd.R_drewN | apply Kd.R_drew)); exact HO752.out) hb); have n2_ := Aside0.mk (Kd.R_elder' (by (with_reducible repeat (first | apply Kd.R_alloc | apply Kd.R_drewN | apply Kd.R_drew)); exact HO757.out) (Kd.R_base ho0) hb); have n3_ := Aside0.mk (Kd.R_elder' (by (with_reducible repeat (first | apply Kd.R_alloc | apply Kd.R_drewN | apply Kd.R_drew)); exact HO762.out) (Kd.R_base ho0) hb); have n4_ := Aside0.mk (Kd.R_lower (Kd.R_new' (Kd.R_new' ho0 (Kd.R_lt (by (with_reducible repeat (first | apply Kd.R_alloc | apply Kd.R_drewN | apply Kd.R_drew)); exact HO757.out))) (Kd.R_lt (by (with_reducible repeat (first | apply Kd.R_alloc | apply Kd.R_drewN | apply Kd.R_drew)); exact HO762.out))) (below_size q73)); have n5_ := Aside0.mk (IsS63.below (by repeat (first | (with_reducible first | exact HI741.out | apply IsS63.alloc | apply IsS63.drewN | apply IsS63.drew | apply IsS63.set_1 | refine IsS63.far ?_ NB741_754.out _) | exact HI741.out)) hb); have n6_ := Aside0.mk (blk_below (g := gb754) (o := .cells #[.int .i64 t742, .slice Ao13 t743.length co13, .int .i64 t746, .int .i64 t747, .int .i64 t748, .int .i64 t749, .slice Ao14 t750.length co14] 33 (0, 0)) q64 hb); have n7_ := Aside0.mk (below_step q73 hb); clear HO745; clear HO752; clear HO757; clear HO762; clear HI741; clear BK754; clear HB; have HO745 := n0_; have HO752 := n1_; have HO757 := n2_; have HO762 := n3_; have HO766 := n4_; have HI741 := n5_; have BK754 := n6_; have HB := n7_; clear n0_ n1_ n2_ n3_ n4_ n5_ n6_ n7_; (try clear hb); (try clear hb2); (try clear hk); (try clear hi); (try clear ho0)))
 repeat (go_quiet (first | fail); go_upto_region 6 with (first | fail))
 (try simp only [Act.put, List.setIfInBounds_toArray, List.set_cons_zero, List.set_cons_succ])
 go_cut [40] (fun v40 wc => ∃ (kq : Nat) (x40_6 : Bool), v40 = .bool x40_6 ∧ Aside0 (payrolllaw30_WithholdingPrefix.j0 kq t758 t760 t764 x40_6 t742 t743 t746 t747 t748 t749 t750 = some r) ∧ Aside0 (kq ≤ k) ∧ Aside0 (Kd.R (Kd.int .i64) 3 wc w.heap.size (fun k_ => some k_ ≠ (v765 : Value).ownBlock) (.slice Ao21 t760.length co21) t760) ∧ Aside0 (Kd.R (Kd.int .i64) 3 wc w.heap.size (fun k_ => some k_ ≠ ((.slice Ao21 t760.length co21) : Value).ownBlock) v765 t764) ∧ Aside0 (Kd.R k58 58 wc w.heap.size (fun _ => True) (.slice Ao13 t743.length co13) t743) ∧ Aside0 (Kd.R k80 80 wc w.heap.size (fun _ => True) (.slice Ao14 t750.length co14) t750) ∧ Aside0 (wc.heap[gb754]? = some (.cells #[.int .i64 t742, (.slice Ao13 t743.length co13), .int .i64 t746, .int .i64 t747, .int .i64 t748, .int .i64 t749, (.slice Ao14 t750.length co14)] 33 (0, 0))) ∧ Aside0 (Below w.heap.size w wc))
 case first =>
  have H := HC7.out
  clear HC7
  by_cases c23 : t767 = 0
  ·
   rw [if_pos c23] at H
   have c23b0 : (t767 == 0) = true := beq_iff_eq.mpr c23
   have c23b1 : (t767 != 0) = false := bne_eq_false_iff_eq.mpr c23
   clear c23
   (first | rw [c23b0] | (simp only [i64_w, i32_w]; rw [c23b0]) | skip)
   have H' := Aside0.mk H
   clear H
   obtain ⟨Ao24, co24, eo24⟩ := Kd.R_slice HO766.out
   subst eo24
   go_wp2
   repeat (go_quiet (fail); try go_wp2)
   go_meet
   case rel => exact ⟨_, (((t764.length : Int) != t758)), q13, H', ⟨by first | omega | exact Nat.le_refl _⟩, ⟨by (with_reducible repeat (first | apply Kd.R_alloc | apply Kd.R_drewN | apply Kd.R_drew)); exact Kd.R_mono HO762.out (fun _ hk => hk.2)⟩, ⟨by (with_reducible repeat (first | apply Kd.R_alloc | apply Kd.R_drewN | apply Kd.R_drew)); exact Kd.R_mono HO766.out (fun _ hk => hk.2)⟩, ⟨by (with_reducible repeat (first | apply Kd.R_alloc | apply Kd.R_drewN | apply Kd.R_drew)); exact HO745.out⟩, ⟨by (with_reducible repeat (first | apply Kd.R_alloc | apply Kd.R_drewN | apply Kd.R_drew)); exact HO752.out⟩, ⟨by (with_reducible repeat (first | refine blk_drewN ?_ _ | refine blk_drew ?_ | refine blk_alloc ?_ _)); exact BK754.out⟩, ⟨by repeat (first | (with_reducible first | exact HB.out | apply below_alloc | apply pw_below_drewN | apply below_drew1 | refine below_set ?_ (IsS63.ge HI741.out) | refine below_set ?_ GE754.out) | exact HB.out)⟩⟩
  ·
   rw [if_neg c23] at H
   have c23b0 : (t767 == 0) = false := beq_eq_false_iff_ne.mpr c23
   have c23b1 : (t767 != 0) = true := bne_iff_ne.mpr c23
   (first | rw [c23b0] | (simp only [i64_w, i32_w]; rw [c23b0]) | skip)
   have H' := Aside0.mk H
   clear H
   go_wp2
   repeat (go_quiet (fail); try go_wp2)
   go_meet
   case rel => exact ⟨_, (true), q13, H', ⟨by first | omega | exact Nat.le_refl _⟩, ⟨by (with_reducible repeat (first | apply Kd.R_alloc | apply Kd.R_drewN | apply Kd.R_drew)); exact Kd.R_mono HO762.out (fun _ hk => hk.2)⟩, ⟨by (with_reducible repeat (first | apply Kd.R_alloc | apply Kd.R_drewN | apply Kd.R_drew)); exact Kd.R_mono HO766.out (fun _ hk => hk.2)⟩, ⟨by (with_reducible repeat (first | apply Kd.R_alloc | apply Kd.R_drewN | apply Kd.R_drew)); exact HO745.out⟩, ⟨by (with_reducible repeat (first | apply Kd.R_alloc | apply Kd.R_drewN | apply Kd.R_drew)); exact HO752.out⟩, ⟨by (with_reducible repeat (first | refine blk_drewN ?_ _ | refine blk_drew ?_ | refine blk_alloc ?_ _)); exact BK754.out⟩, ⟨by repeat (first | (with_reducible first | exact HB.out | apply below_alloc | apply pw_below_drewN | apply below_drew1 | refine below_set ?_ (IsS63.ge HI741.out) | refine below_set ?_ GE754.out) | exact HB.out)⟩⟩
 case rest =>
  clear HC7
  try clear c1
  try clear c2
  try clear p2
  try clear c8
  try clear c11
  try clear c23
  try clear c23b0
  try clear c23b1
  try clear hcz12_0
  try clear hcz12_1
  try clear hcz12_2
  try clear hcz12_3
  try clear hcz12_4
  try clear hcz12_5
  try clear hcz12_6
  try clear hcz20_0
  try clear hcz20_1
  try clear hcz20_2
  try clear hcz20_3
  try clear hcz20_4
  try clear hcz20_5
  try clear hcz20_6
  try clear hfz12_0
  try clear hfz12_1
  try clear hfz12_2
  try clear hfz12_3
  try clear hfz12_4
  try clear hfz12_5
  try clear hfz12_6
  try clear hfz20_0
  try clear hfz20_1
  try clear hfz20_2
  try clear hfz20_3
  try clear hfz20_4
  try clear hfz20_5
  try clear hfz20_6
  obtain ⟨kq, x40_6, rfl, HA, HJ6, HO_6, HO_7, HO_755001, HO_755006, BK754, HB⟩ := hcut
  cases kq with
  | zero => exact absurd HA.out (by simp [payrolllaw30_WithholdingPrefix.j0])
  | succ kj6 =>
   have H := HA.out
   clear HA
   simp only [payrolllaw30_WithholdingPrefix.j0] at H
   by_cases c25 : x40_6 = true
   ·
    subst c25
    have H1 : (some false) = some r := by rw [if_pos rfl] at H; exact H
    clear H
    have H := H1
    clear H1
    obtain rfl := Option.some.inj H
    go_wp2
    repeat (go_quiet (fail); try go_wp2)
    go_ret
    exact ⟨by first | rfl | (simp [errW_none, errW_some] <;> rfl) | (simp [*, errW_none, errW_some] <;> rfl), by repeat (first | (with_reducible first | exact HB.out | apply below_alloc | apply pw_below_drewN | apply below_drew1 | refine below_set ?_ GE754.out) | exact HB.out)⟩
   ·
    replace c25 := Bool.eq_false_iff.mpr c25
    subst c25
    have H1 : (payrolllaw30_WithholdingPrefix.l0 kj6 t758 t760 t764 0 0 0 t742 t743 t746 t747 t748 t749 t750) = some r := by rw [if_neg (show ¬ (false = true) by decide)] at H; exact H
    clear H
    have H := H1
    clear H1
    have H' := Aside0.mk H
    clear H
    go_wp2
    repeat (go_quiet (fail); try go_wp2)
    go_loopg [9, 10, 11] kj6 (fun kq v9 v10 v11 w' => ∃ (x9_2 : Int) (x10_2 : Int) (x11_2 : Int), v9 = .int .i64 x9_2 ∧ v10 = .int .i64 x10_2 ∧ v11 = .int .i64 x11_2 ∧ Aside0 (payrolllaw30_WithholdingPrefix.l0 kq t758 t760 t764 x9_2 x10_2 x11_2 t742 t743 t746 t747 t748 t749 t750 = some r) ∧ Aside0 (kq ≤ kj6) ∧ Aside0 (Kd.R (Kd.int .i64) 3 w' w.heap.size (fun k_ => some k_ ≠ (v765 : Value).ownBlock) (.slice Ao21 t760.length co21) t760) ∧ Aside0 (Kd.R (Kd.int .i64) 3 w' w.heap.size (fun k_ => some k_ ≠ ((.slice Ao21 t760.length co21) : Value).ownBlock) v765 t764) ∧ Aside0 (Kd.R k58 58 w' w.heap.size (fun _ => True) (.slice Ao13 t743.length co13) t743) ∧ Aside0 (Kd.R k80 80 w' w.heap.size (fun _ => True) (.slice Ao14 t750.length co14) t750) ∧ Aside0 (w'.heap[gb754]? = some (.cells #[.int .i64 t742, (.slice Ao13 t743.length co13), .int .i64 t746, .int .i64 t747, .int .i64 t748, .int .i64 t749, (.slice Ao14 t750.length co14)] 33 (0, 0))) ∧ Aside0 (Below w.heap.size w w'))
    case atStart => exact ⟨(0), (0), (0), q13, q13, q13, H', ⟨Nat.le_refl _⟩, ⟨by (with_reducible repeat (first | apply Kd.R_alloc | apply Kd.R_drewN | apply Kd.R_drew)); exact HO_6.out⟩, ⟨by (with_reducible repeat (first | apply Kd.R_alloc | apply Kd.R_drewN | apply Kd.R_drew)); exact HO_7.out⟩, ⟨by (with_reducible repeat (first | apply Kd.R_alloc | apply Kd.R_drewN | apply Kd.R_drew)); exact HO_755001.out⟩, ⟨by (with_reducible repeat (first | apply Kd.R_alloc | apply Kd.R_drewN | apply Kd.R_drew)); exact HO_755006.out⟩, ⟨by (with_reducible repeat (first | refine blk_drewN ?_ _ | refine blk_drew ?_ | refine blk_alloc ?_ _)); exact BK754.out⟩, ⟨by repeat (first | (with_reducible first | exact HB.out | apply below_alloc | apply pw_below_drewN | apply below_drew1 | refine below_set ?_ GE754.out) | exact HB.out)⟩⟩
    case round =>
     clear H'
     try clear c1
     try clear c2
     try clear p2
     try clear c8
     try clear c11
     try clear c23
     try clear c23b0
     try clear c23b1
     try clear c25
     try clear hcz12_0
     try clear hcz12_1
     try clear hcz12_2
     try clear hcz12_3
     try clear hcz12_4
     try clear hcz12_5
     try clear hcz12_6
     try clear hcz20_0
     try clear hcz20_1
     try clear hcz20_2
     try clear hcz20_3
     try clear hcz20_4
     try clear hcz20_5
     try clear hcz20_6
     try clear hfz12_0
     try clear hfz12_1
     try clear hfz12_2
     try clear hfz12_3
     try clear hfz12_4
     try clear hfz12_5
     try clear hfz12_6
     try clear hfz20_0
     try clear hfz20_1
     try clear hfz20_2
     try clear hfz20_3
     try clear hfz20_4
     try clear hfz20_5
     try clear hfz20_6
     try clear p2
     obtain ⟨x9_2, x10_2, x11_2, rfl, rfl, rfl, HA, HK2, HO_6, HO_7, HO_755001, HO_755006, BK754, HB⟩ := hrel
     cases gk with
     | zero => exact absurd HA.out (by simp [payrolllaw30_WithholdingPrefix.l0])
     | succ k2 =>
      have H := HA.out
      clear HA
      simp only [payrolllaw30_WithholdingPrefix.l0] at H
      by_cases c26 : x11_2 < t758
      ·
       rw [if_pos c26] at H
       have c26b0 : decide (x11_2 < t758) = true := decide_eq_true c26
       clear c26
       by_cases c27 : 0 ≤ x11_2
       ·
        rw [if_pos c27] at H
        have c27b0 : decide (0 ≤ x11_2) = true := decide_eq_true c27
        clear c27
        by_cases c28 : x11_2 < (t760.length : Int)
        ·
         rw [if_pos c28] at H
         have c28b0 : decide (x11_2 < (t760.length : Int)) = true := decide_eq_true c28
         clear c28
         by_cases c29 : x11_2 < (t764.length : Int)
         ·
          rw [if_pos c29] at H
          have c29b0 : decide (x11_2 < (t764.length : Int)) = true := decide_eq_true c29
          clear c29
          replace H := Option.bind_eq_some_iff.mp H
          obtain ⟨⟨t771, t772⟩, A300, H⟩ := H
          try dsimp only at H
          have A30 := Aside0.mk A300
          clear A300
          replace H := Option.bind_eq_some_iff.mp H
          obtain ⟨⟨t773, t774⟩, A310, H⟩ := H
          try dsimp only at H
          have A31 := Aside0.mk A310
          clear A310
          by_cases c32 : t772 = 0
          ·
           rw [if_pos c32] at H
           have c32b0 : (t772 == 0) = true := beq_iff_eq.mpr c32
           have c32b1 : (t772 != 0) = false := bne_eq_false_iff_eq.mpr c32
           clear c32
           by_cases c33 : t774 = 0
           ·
            rw [if_pos c33] at H
            have c33b0 : (t774 == 0) = true := beq_iff_eq.mpr c33
            have c33b1 : (t774 != 0) = false := bne_eq_false_iff_eq.mpr c33
            clear c33
            by_cases c34 : t771 = (wrap64 (x10_2 + (rd t764 x11_2)))
            ·
             rw [if_pos c34] at H
             have c34b0 : (t771 == (wrap64 (x10_2 + (rd t764 x11_2)))) = true := beq_iff_eq.mpr c34
             have c34b1 : (t771 != (wrap64 (x10_2 + (rd t764 x11_2)))) = false := bne_eq_false_iff_eq.mpr c34
             clear c34
             by_cases c35 : t773 = t771
             ·
              rw [if_pos c35] at H
              have c35b0 : (t773 == t771) = true := beq_iff_eq.mpr c35
              have c35b1 : (t773 != t771) = false := bne_eq_false_iff_eq.mpr c35
              clear c35
              have H' := Aside0.mk H
              clear H
              have p769 : 0 ≤ (x11_2 : Int) := of_decide_eq_true q2
              have q769 : x11_2 < (t760.length : Int) := of_decide_eq_true q2
              obtain ⟨ad769, e769, hx769_0⟩ := Kd.at_int (Kd.R_reads' HO_6.out).2.2 x11_2 p769 q769
              cases e769
              replace p769 := eq_true p769
              replace q769 := eq_true q769
              obtain ⟨Ao36, co36, eo36⟩ := Kd.R_slice HO_7.out
              subst eo36
              have p770 : 0 ≤ (x11_2 : Int) := of_decide_eq_true q2
              have q770 : x11_2 < (t764.length : Int) := of_decide_eq_true q2
              obtain ⟨ad770, e770, hx770_0⟩ := Kd.at_int (Kd.R_reads' HO_7.out).2.2 x11_2 p770 q770
              cases e770
              replace p770 := eq_true p770
              replace q770 := eq_true q770
              have hcz37_0 : wr.cell? ⟨gb754, 0, none⟩ = some (.int .i64 t742) := (blk_cell BK754.out 0).trans rfl
              have hcz37_1 : wr.cell? ⟨gb754, 1, none⟩ = some (.slice Ao13 t743.length co13) := (blk_cell BK754.out 1).trans rfl
              have hcz37_2 : wr.cell? ⟨gb754, 2, none⟩ = some (.int .i64 t746) := (blk_cell BK754.out 2).trans rfl
              have hcz37_3 : wr.cell? ⟨gb754, 3, none⟩ = some (.int .i64 t747) := (blk_cell BK754.out 3).trans rfl
              have hcz37_4 : wr.cell? ⟨gb754, 4, none⟩ = some (.int .i64 t748) := (blk_cell BK754.out 4).trans rfl
              have hcz37_5 : wr.cell? ⟨gb754, 5, none⟩ = some (.int .i64 t749) := (blk_cell BK754.out 5).trans rfl
              have hcz37_6 : wr.cell? ⟨gb754, 6, none⟩ = some (.slice Ao14 t750.length co14) := (blk_cell BK754.out 6).trans rfl
              have hfz37_0 := blk_frozen BK754.out 0
              have hfz37_1 := blk_frozen BK754.out 1
              have hfz37_2 := blk_frozen BK754.out 2
              have hfz37_3 := blk_frozen BK754.out 3
              have hfz37_4 := blk_frozen BK754.out 4
              have hfz37_5 := blk_frozen BK754.out 5
              have hfz37_6 := blk_frozen BK754.out 6
              go_wp2_with (first | fail)
              repeat (go_quiet (first | fail); try go_wp2_with (first | (go_at_call 26; (with_reducible refine (withholding_Due.calls k2 t742 _ _ t743 t746 t747 t748 t749 _ _ t750 t758 (wrap64 (x11_2 + 1)) (wrap64 (x9_2 + (rd t760 x11_2))) t771 t772 _ ?side1 ?side2 ?side3 ?side4 A30.out).mono ?_); (case side1 => exact q62); (case side2 => exact (Kd.R_reads' HO_755001.out).2.1); (case side3 => exact q63); (case side4 => exact (Kd.R_reads' HO_755006.out).2.1); rintro e w38 ⟨rfl, hb⟩; have n0_ := Aside0.mk (Kd.R_below q59 hb); have n1_ := Aside0.mk (Kd.R_below q92 hb); have n2_ := Aside0.mk (Kd.R_below q78 hb); have n3_ := Aside0.mk (Kd.R_below q79 hb); have n4_ := Aside0.mk (blk_below (g := gb754) (o := .cells #[.int .i64 t742, .slice Ao13 t743.length co13, .int .i64 t746, .int .i64 t747, .int .i64 t748, .int .i64 t749, .slice Ao14 t750.length co14] 33 (0, 0)) q64 hb); have n5_ := Aside0.mk (below_step q60 hb); clear HO_6; clear HO_7; clear HO_755001; clear HO_755006; clear BK754; clear HB; have HO_6 := n0_; have HO_7 := n1_; have HO_755001 := n2_; have HO_755006 := n3_; have BK754 := n4_; have HB := n5_; clear n0_ n1_ n2_ n3_ n4_ n5_; (try clear hb); (try clear hb2); (try clear hk); (try clear hi); have hcz39_0 : w38.cell? ⟨gb754, 0, none⟩ = some (.int .i64 t742) := (blk_cell BK754.out 0).trans rfl; have hcz39_1 : w38.cell? ⟨gb754, 1, none⟩ = some (.slice Ao13 t743.length co13) := (blk_cell BK754.out 1).trans rfl; have hcz39_2 : w38.cell? ⟨gb754, 2, none⟩ = some (.int .i64 t746) := (blk_cell BK754.out 2).trans rfl; have hcz39_3 : w38.cell? ⟨gb754, 3, none⟩ = some (.int .i64 t747) := (blk_cell BK754.out 3).trans rfl; have hcz39_4 : w38.cell? ⟨gb754, 4, none⟩ = some (.int .i64 t748) := (blk_cell BK754.out 4).trans rfl; have hcz39_5 : w38.cell? ⟨gb754, 5, none⟩ = some (.int .i64 t749) := (blk_cell BK754.out 5).trans rfl; have hcz39_6 : w38.cell? ⟨gb754, 6, none⟩ = some (.slice Ao14 t750.length co14) := (blk_cell BK754.out 6).trans rfl; have hfz39_0 := blk_frozen BK754.out 0; have hfz39_1 := blk_frozen BK754.out 1; have hfz39_2 := blk_frozen BK754.out 2; have hfz39_3 := blk_frozen BK754.out 3; have hfz39_4 := blk_frozen BK754.out 4; have hfz39_5 := blk_frozen BK754.out 5; have hfz39_6 := blk_frozen BK754.out 6) | (go_at_call 28; (with_reducible refine (withholding_Cumulative.calls k2 t742 _ _ t743 t746 t747 t748 t749 _ _ t750 t758 (wrap64 (x11_2 + 1)) (wrap64 (x9_2 + (rd t760 x11_2))) 0 t773 t774 _ ?side1 ?side2 ?side3 ?side4 A31.out).mono ?_); (case side1 => exact q62); (case side2 => exact (Kd.R_reads' HO_755001.out).2.1); (case side3 => exact q63); (case side4 => exact (Kd.R_reads' HO_755006.out).2.1); rintro e w40 ⟨rfl, hb⟩; have n0_ := Aside0.mk (Kd.R_below q59 hb); have n1_ := Aside0.mk (Kd.R_below q92 hb); have n2_ := Aside0.mk (Kd.R_below q78 hb); have n3_ := Aside0.mk (Kd.R_below q79 hb); have n4_ := Aside0.mk (blk_below (g := gb754) (o := .cells #[.int .i64 t742, .slice Ao13 t743.length co13, .int .i64 t746, .int .i64 t747, .int .i64 t748, .int .i64 t749, .slice Ao14 t750.length co14] 33 (0, 0)) q64 hb); have n5_ := Aside0.mk (below_step q60 hb); clear HO_6; clear HO_7; clear HO_755001; clear HO_755006; clear BK754; clear HB; have HO_6 := n0_; have HO_7 := n1_; have HO_755001 := n2_; have HO_755006 := n3_; have BK754 := n4_; have HB := n5_; clear n0_ n1_ n2_ n3_ n4_ n5_; (try clear hb); (try clear hb2); (try clear hk); (try clear hi))))
              go_roundg k2
              case measure => have := HJ6.out; have := HK2.out; omega
              case rel => exact ⟨(wrap64 (x9_2 + (rd t760 x11_2))), (wrap64 (x10_2 + (rd t764 x11_2))), (wrap64 (x11_2 + 1)), q13, q13, q13, H', ⟨by have := HJ6.out; have := HK2.out; omega⟩, ⟨by (with_reducible repeat (first | apply Kd.R_alloc | apply Kd.R_drewN | apply Kd.R_drew)); exact HO_6.out⟩, ⟨by (with_reducible repeat (first | apply Kd.R_alloc | apply Kd.R_drewN | apply Kd.R_drew)); exact HO_7.out⟩, ⟨by (with_reducible repeat (first | apply Kd.R_alloc | apply Kd.R_drewN | apply Kd.R_drew)); exact HO_755001.out⟩, ⟨by (with_reducible repeat (first | apply Kd.R_alloc | apply Kd.R_drewN | apply Kd.R_drew)); exact HO_755006.out⟩, ⟨by (with_reducible repeat (first | refine blk_drewN ?_ _ | refine blk_drew ?_ | refine blk_alloc ?_ _)); exact BK754.out⟩, ⟨by repeat (first | (with_reducible first | exact HB.out | apply below_alloc | apply pw_below_drewN | apply below_drew1 | refine below_set ?_ GE754.out) | exact HB.out)⟩⟩
             ·
              rw [if_neg c35] at H
              have c35b0 : (t773 == t771) = false := beq_eq_false_iff_ne.mpr c35
              have c35b1 : (t773 != t771) = true := bne_iff_ne.mpr c35
              obtain rfl := Option.some.inj H
              have p769 : 0 ≤ (x11_2 : Int) := of_decide_eq_true q2
              have q769 : x11_2 < (t760.length : Int) := of_decide_eq_true q2
              obtain ⟨ad769, e769, hx769_0⟩ := Kd.at_int (Kd.R_reads' HO_6.out).2.2 x11_2 p769 q769
              cases e769
              replace p769 := eq_true p769
              replace q769 := eq_true q769
              obtain ⟨Ao41, co41, eo41⟩ := Kd.R_slice HO_7.out
              subst eo41
              have p770 : 0 ≤ (x11_2 : Int) := of_decide_eq_true q2
              have q770 : x11_2 < (t764.length : Int) := of_decide_eq_true q2
              obtain ⟨ad770, e770, hx770_0⟩ := Kd.at_int (Kd.R_reads' HO_7.out).2.2 x11_2 p770 q770
              cases e770
              replace p770 := eq_true p770
              replace q770 := eq_true q770
              have hcz42_0 : wr.cell? ⟨gb754, 0, none⟩ = some (.int .i64 t742) := (blk_cell BK754.out 0).trans rfl
              have hcz42_1 : wr.cell? ⟨gb754, 1, none⟩ = some (.slice Ao13 t743.length co13) := (blk_cell BK754.out 1).trans rfl
              have hcz42_2 : wr.cell? ⟨gb754, 2, none⟩ = some (.int .i64 t746) := (blk_cell BK754.out 2).trans rfl
              have hcz42_3 : wr.cell? ⟨gb754, 3, none⟩ = some (.int .i64 t747) := (blk_cell BK754.out 3).trans rfl
              have hcz42_4 : wr.cell? ⟨gb754, 4, none⟩ = some (.int .i64 t748) := (blk_cell BK754.out 4).trans rfl
              have hcz42_5 : wr.cell? ⟨gb754, 5, none⟩ = some (.int .i64 t749) := (blk_cell BK754.out 5).trans rfl
              have hcz42_6 : wr.cell? ⟨gb754, 6, none⟩ = some (.slice Ao14 t750.length co14) := (blk_cell BK754.out 6).trans rfl
              have hfz42_0 := blk_frozen BK754.out 0
              have hfz42_1 := blk_frozen BK754.out 1
              have hfz42_2 := blk_frozen BK754.out 2
              have hfz42_3 := blk_frozen BK754.out 3
              have hfz42_4 := blk_frozen BK754.out 4
              have hfz42_5 := blk_frozen BK754.out 5
              have hfz42_6 := blk_frozen BK754.out 6
              go_wp2_with (first | fail)
              repeat (go_quiet (first | fail); try go_wp2_with (first | (go_at_call 26; (with_reducible refine (withholding_Due.calls k2 t742 _ _ t743 t746 t747 t748 t749 _ _ t750 t758 (wrap64 (x11_2 + 1)) (wrap64 (x9_2 + (rd t760 x11_2))) t771 t772 _ ?side1 ?side2 ?side3 ?side4 A30.out).mono ?_); (case side1 => exact q62); (case side2 => exact (Kd.R_reads' HO_755001.out).2.1); (case side3 => exact q63); (case side4 => exact (Kd.R_reads' HO_755006.out).2.1); rintro e w43 ⟨rfl, hb⟩; have n0_ := Aside0.mk (Kd.R_below q59 hb); have n1_ := Aside0.mk (Kd.R_below q92 hb); have n2_ := Aside0.mk (Kd.R_below q78 hb); have n3_ := Aside0.mk (Kd.R_below q79 hb); have n4_ := Aside0.mk (blk_below (g := gb754) (o := .cells #[.int .i64 t742, .slice Ao13 t743.length co13, .int .i64 t746, .int .i64 t747, .int .i64 t748, .int .i64 t749, .slice Ao14 t750.length co14] 33 (0, 0)) q64 hb); have n5_ := Aside0.mk (below_step q60 hb); clear HO_6; clear HO_7; clear HO_755001; clear HO_755006; clear BK754; clear HB; have HO_6 := n0_; have HO_7 := n1_; have HO_755001 := n2_; have HO_755006 := n3_; have BK754 := n4_; have HB := n5_; clear n0_ n1_ n2_ n3_ n4_ n5_; (try clear hb); (try clear hb2); (try clear hk); (try clear hi); have hcz44_0 : w43.cell? ⟨gb754, 0, none⟩ = some (.int .i64 t742) := (blk_cell BK754.out 0).trans rfl; have hcz44_1 : w43.cell? ⟨gb754, 1, none⟩ = some (.slice Ao13 t743.length co13) := (blk_cell BK754.out 1).trans rfl; have hcz44_2 : w43.cell? ⟨gb754, 2, none⟩ = some (.int .i64 t746) := (blk_cell BK754.out 2).trans rfl; have hcz44_3 : w43.cell? ⟨gb754, 3, none⟩ = some (.int .i64 t747) := (blk_cell BK754.out 3).trans rfl; have hcz44_4 : w43.cell? ⟨gb754, 4, none⟩ = some (.int .i64 t748) := (blk_cell BK754.out 4).trans rfl; have hcz44_5 : w43.cell? ⟨gb754, 5, none⟩ = some (.int .i64 t749) := (blk_cell BK754.out 5).trans rfl; have hcz44_6 : w43.cell? ⟨gb754, 6, none⟩ = some (.slice Ao14 t750.length co14) := (blk_cell BK754.out 6).trans rfl; have hfz44_0 := blk_frozen BK754.out 0; have hfz44_1 := blk_frozen BK754.out 1; have hfz44_2 := blk_frozen BK754.out 2; have hfz44_3 := blk_frozen BK754.out 3; have hfz44_4 := blk_frozen BK754.out 4; have hfz44_5 := blk_frozen BK754.out 5; have hfz44_6 := blk_frozen BK754.out 6) | (go_at_call 28; (with_reducible refine (withholding_Cumulative.calls k2 t742 _ _ t743 t746 t747 t748 t749 _ _ t750 t758 (wrap64 (x11_2 + 1)) (wrap64 (x9_2 + (rd t760 x11_2))) 0 t773 t774 _ ?side1 ?side2 ?side3 ?side4 A31.out).mono ?_); (case side1 => exact q62); (case side2 => exact (Kd.R_reads' HO_755001.out).2.1); (case side3 => exact q63); (case side4 => exact (Kd.R_reads' HO_755006.out).2.1); rintro e w45 ⟨rfl, hb⟩; have n0_ := Aside0.mk (Kd.R_below q59 hb); have n1_ := Aside0.mk (Kd.R_below q92 hb); have n2_ := Aside0.mk (Kd.R_below q78 hb); have n3_ := Aside0.mk (Kd.R_below q79 hb); have n4_ := Aside0.mk (blk_below (g := gb754) (o := .cells #[.int .i64 t742, .slice Ao13 t743.length co13, .int .i64 t746, .int .i64 t747, .int .i64 t748, .int .i64 t749, .slice Ao14 t750.length co14] 33 (0, 0)) q64 hb); have n5_ := Aside0.mk (below_step q60 hb); clear HO_6; clear HO_7; clear HO_755001; clear HO_755006; clear BK754; clear HB; have HO_6 := n0_; have HO_7 := n1_; have HO_755001 := n2_; have HO_755006 := n3_; have BK754 := n4_; have HB := n5_; clear n0_ n1_ n2_ n3_ n4_ n5_; (try clear hb); (try clear hb2); (try clear hk); (try clear hi))))
              go_ret
              exact ⟨by first | rfl | (simp [errW_none, errW_some] <;> rfl) | (simp [*, errW_none, errW_some] <;> rfl), by repeat (first | (with_reducible first | exact HB.out | apply below_alloc | apply pw_below_drewN | apply below_drew1 | refine below_set ?_ GE754.out) | exact HB.out)⟩
            ·
             rw [if_neg c34] at H
             have c34b0 : (t771 == (wrap64 (x10_2 + (rd t764 x11_2)))) = false := beq_eq_false_iff_ne.mpr c34
             have c34b1 : (t771 != (wrap64 (x10_2 + (rd t764 x11_2)))) = true := bne_iff_ne.mpr c34
             obtain rfl := Option.some.inj H
             have p769 : 0 ≤ (x11_2 : Int) := of_decide_eq_true q2
             have q769 : x11_2 < (t760.length : Int) := of_decide_eq_true q2
             obtain ⟨ad769, e769, hx769_0⟩ := Kd.at_int (Kd.R_reads' HO_6.out).2.2 x11_2 p769 q769
             cases e769
             replace p769 := eq_true p769
             replace q769 := eq_true q769
             obtain ⟨Ao46, co46, eo46⟩ := Kd.R_slice HO_7.out
             subst eo46
             have p770 : 0 ≤ (x11_2 : Int) := of_decide_eq_true q2
             have q770 : x11_2 < (t764.length : Int) := of_decide_eq_true q2
             obtain ⟨ad770, e770, hx770_0⟩ := Kd.at_int (Kd.R_reads' HO_7.out).2.2 x11_2 p770 q770
             cases e770
             replace p770 := eq_true p770
             replace q770 := eq_true q770
             have hcz47_0 : wr.cell? ⟨gb754, 0, none⟩ = some (.int .i64 t742) := (blk_cell BK754.out 0).trans rfl
             have hcz47_1 : wr.cell? ⟨gb754, 1, none⟩ = some (.slice Ao13 t743.length co13) := (blk_cell BK754.out 1).trans rfl
             have hcz47_2 : wr.cell? ⟨gb754, 2, none⟩ = some (.int .i64 t746) := (blk_cell BK754.out 2).trans rfl
             have hcz47_3 : wr.cell? ⟨gb754, 3, none⟩ = some (.int .i64 t747) := (blk_cell BK754.out 3).trans rfl
             have hcz47_4 : wr.cell? ⟨gb754, 4, none⟩ = some (.int .i64 t748) := (blk_cell BK754.out 4).trans rfl
             have hcz47_5 : wr.cell? ⟨gb754, 5, none⟩ = some (.int .i64 t749) := (blk_cell BK754.out 5).trans rfl
             have hcz47_6 : wr.cell? ⟨gb754, 6, none⟩ = some (.slice Ao14 t750.length co14) := (blk_cell BK754.out 6).trans rfl
             have hfz47_0 := blk_frozen BK754.out 0
             have hfz47_1 := blk_frozen BK754.out 1
             have hfz47_2 := blk_frozen BK754.out 2
             have hfz47_3 := blk_frozen BK754.out 3
             have hfz47_4 := blk_frozen BK754.out 4
             have hfz47_5 := blk_frozen BK754.out 5
             have hfz47_6 := blk_frozen BK754.out 6
             go_wp2_with (first | fail)
             repeat (go_quiet (first | fail); try go_wp2_with (first | (go_at_call 26; (with_reducible refine (withholding_Due.calls k2 t742 _ _ t743 t746 t747 t748 t749 _ _ t750 t758 (wrap64 (x11_2 + 1)) (wrap64 (x9_2 + (rd t760 x11_2))) t771 t772 _ ?side1 ?side2 ?side3 ?side4 A30.out).mono ?_); (case side1 => exact q62); (case side2 => exact (Kd.R_reads' HO_755001.out).2.1); (case side3 => exact q63); (case side4 => exact (Kd.R_reads' HO_755006.out).2.1); rintro e w48 ⟨rfl, hb⟩; have n0_ := Aside0.mk (Kd.R_below q59 hb); have n1_ := Aside0.mk (Kd.R_below q92 hb); have n2_ := Aside0.mk (Kd.R_below q78 hb); have n3_ := Aside0.mk (Kd.R_below q79 hb); have n4_ := Aside0.mk (blk_below (g := gb754) (o := .cells #[.int .i64 t742, .slice Ao13 t743.length co13, .int .i64 t746, .int .i64 t747, .int .i64 t748, .int .i64 t749, .slice Ao14 t750.length co14] 33 (0, 0)) q64 hb); have n5_ := Aside0.mk (below_step q60 hb); clear HO_6; clear HO_7; clear HO_755001; clear HO_755006; clear BK754; clear HB; have HO_6 := n0_; have HO_7 := n1_; have HO_755001 := n2_; have HO_755006 := n3_; have BK754 := n4_; have HB := n5_; clear n0_ n1_ n2_ n3_ n4_ n5_; (try clear hb); (try clear hb2); (try clear hk); (try clear hi); have hcz49_0 : w48.cell? ⟨gb754, 0, none⟩ = some (.int .i64 t742) := (blk_cell BK754.out 0).trans rfl; have hcz49_1 : w48.cell? ⟨gb754, 1, none⟩ = some (.slice Ao13 t743.length co13) := (blk_cell BK754.out 1).trans rfl; have hcz49_2 : w48.cell? ⟨gb754, 2, none⟩ = some (.int .i64 t746) := (blk_cell BK754.out 2).trans rfl; have hcz49_3 : w48.cell? ⟨gb754, 3, none⟩ = some (.int .i64 t747) := (blk_cell BK754.out 3).trans rfl; have hcz49_4 : w48.cell? ⟨gb754, 4, none⟩ = some (.int .i64 t748) := (blk_cell BK754.out 4).trans rfl; have hcz49_5 : w48.cell? ⟨gb754, 5, none⟩ = some (.int .i64 t749) := (blk_cell BK754.out 5).trans rfl; have hcz49_6 : w48.cell? ⟨gb754, 6, none⟩ = some (.slice Ao14 t750.length co14) := (blk_cell BK754.out 6).trans rfl; have hfz49_0 := blk_frozen BK754.out 0; have hfz49_1 := blk_frozen BK754.out 1; have hfz49_2 := blk_frozen BK754.out 2; have hfz49_3 := blk_frozen BK754.out 3; have hfz49_4 := blk_frozen BK754.out 4; have hfz49_5 := blk_frozen BK754.out 5; have hfz49_6 := blk_frozen BK754.out 6) | (go_at_call 28; (with_reducible refine (withholding_Cumulative.calls k2 t742 _ _ t743 t746 t747 t748 t749 _ _ t750 t758 (wrap64 (x11_2 + 1)) (wrap64 (x9_2 + (rd t760 x11_2))) 0 t773 t774 _ ?side1 ?side2 ?side3 ?side4 A31.out).mono ?_); (case side1 => exact q62); (case side2 => exact (Kd.R_reads' HO_755001.out).2.1); (case side3 => exact q63); (case side4 => exact (Kd.R_reads' HO_755006.out).2.1); rintro e w50 ⟨rfl, hb⟩; have n0_ := Aside0.mk (Kd.R_below q59 hb); have n1_ := Aside0.mk (Kd.R_below q92 hb); have n2_ := Aside0.mk (Kd.R_below q78 hb); have n3_ := Aside0.mk (Kd.R_below q79 hb); have n4_ := Aside0.mk (blk_below (g := gb754) (o := .cells #[.int .i64 t742, .slice Ao13 t743.length co13, .int .i64 t746, .int .i64 t747, .int .i64 t748, .int .i64 t749, .slice Ao14 t750.length co14] 33 (0, 0)) q64 hb); have n5_ := Aside0.mk (below_step q60 hb); clear HO_6; clear HO_7; clear HO_755001; clear HO_755006; clear BK754; clear HB; have HO_6 := n0_; have HO_7 := n1_; have HO_755001 := n2_; have HO_755006 := n3_; have BK754 := n4_; have HB := n5_; clear n0_ n1_ n2_ n3_ n4_ n5_; (try clear hb); (try clear hb2); (try clear hk); (try clear hi))))
             go_ret
             exact ⟨by first | rfl | (simp [errW_none, errW_some] <;> rfl) | (simp [*, errW_none, errW_some] <;> rfl), by repeat (first | (with_reducible first | exact HB.out | apply below_alloc | apply pw_below_drewN | apply below_drew1 | refine below_set ?_ GE754.out) | exact HB.out)⟩
           ·
            rw [if_neg c33] at H
            have c33b0 : (t774 == 0) = false := beq_eq_false_iff_ne.mpr c33
            have c33b1 : (t774 != 0) = true := bne_iff_ne.mpr c33
            obtain rfl := Option.some.inj H
            have p769 : 0 ≤ (x11_2 : Int) := of_decide_eq_true q2
            have q769 : x11_2 < (t760.length : Int) := of_decide_eq_true q2
            obtain ⟨ad769, e769, hx769_0⟩ := Kd.at_int (Kd.R_reads' HO_6.out).2.2 x11_2 p769 q769
            cases e769
            replace p769 := eq_true p769
            replace q769 := eq_true q769
            obtain ⟨Ao51, co51, eo51⟩ := Kd.R_slice HO_7.out
            subst eo51
            have p770 : 0 ≤ (x11_2 : Int) := of_decide_eq_true q2
            have q770 : x11_2 < (t764.length : Int) := of_decide_eq_true q2
            obtain ⟨ad770, e770, hx770_0⟩ := Kd.at_int (Kd.R_reads' HO_7.out).2.2 x11_2 p770 q770
            cases e770
            replace p770 := eq_true p770
            replace q770 := eq_true q770
            have hcz52_0 : wr.cell? ⟨gb754, 0, none⟩ = some (.int .i64 t742) := (blk_cell BK754.out 0).trans rfl
            have hcz52_1 : wr.cell? ⟨gb754, 1, none⟩ = some (.slice Ao13 t743.length co13) := (blk_cell BK754.out 1).trans rfl
            have hcz52_2 : wr.cell? ⟨gb754, 2, none⟩ = some (.int .i64 t746) := (blk_cell BK754.out 2).trans rfl
            have hcz52_3 : wr.cell? ⟨gb754, 3, none⟩ = some (.int .i64 t747) := (blk_cell BK754.out 3).trans rfl
            have hcz52_4 : wr.cell? ⟨gb754, 4, none⟩ = some (.int .i64 t748) := (blk_cell BK754.out 4).trans rfl
            have hcz52_5 : wr.cell? ⟨gb754, 5, none⟩ = some (.int .i64 t749) := (blk_cell BK754.out 5).trans rfl
            have hcz52_6 : wr.cell? ⟨gb754, 6, none⟩ = some (.slice Ao14 t750.length co14) := (blk_cell BK754.out 6).trans rfl
            have hfz52_0 := blk_frozen BK754.out 0
            have hfz52_1 := blk_frozen BK754.out 1
            have hfz52_2 := blk_frozen BK754.out 2
            have hfz52_3 := blk_frozen BK754.out 3
            have hfz52_4 := blk_frozen BK754.out 4
            have hfz52_5 := blk_frozen BK754.out 5
            have hfz52_6 := blk_frozen BK754.out 6
            go_wp2_with (first | fail)
            repeat (go_quiet (first | fail); try go_wp2_with (first | (go_at_call 26; (with_reducible refine (withholding_Due.calls k2 t742 _ _ t743 t746 t747 t748 t749 _ _ t750 t758 (wrap64 (x11_2 + 1)) (wrap64 (x9_2 + (rd t760 x11_2))) t771 t772 _ ?side1 ?side2 ?side3 ?side4 A30.out).mono ?_); (case side1 => exact q62); (case side2 => exact (Kd.R_reads' HO_755001.out).2.1); (case side3 => exact q63); (case side4 => exact (Kd.R_reads' HO_755006.out).2.1); rintro e w53 ⟨rfl, hb⟩; have n0_ := Aside0.mk (Kd.R_below q59 hb); have n1_ := Aside0.mk (Kd.R_below q92 hb); have n2_ := Aside0.mk (Kd.R_below q78 hb); have n3_ := Aside0.mk (Kd.R_below q79 hb); have n4_ := Aside0.mk (blk_below (g := gb754) (o := .cells #[.int .i64 t742, .slice Ao13 t743.length co13, .int .i64 t746, .int .i64 t747, .int .i64 t748, .int .i64 t749, .slice Ao14 t750.length co14] 33 (0, 0)) q64 hb); have n5_ := Aside0.mk (below_step q60 hb); clear HO_6; clear HO_7; clear HO_755001; clear HO_755006; clear BK754; clear HB; have HO_6 := n0_; have HO_7 := n1_; have HO_755001 := n2_; have HO_755006 := n3_; have BK754 := n4_; have HB := n5_; clear n0_ n1_ n2_ n3_ n4_ n5_; (try clear hb); (try clear hb2); (try clear hk); (try clear hi); have hcz54_0 : w53.cell? ⟨gb754, 0, none⟩ = some (.int .i64 t742) := (blk_cell BK754.out 0).trans rfl; have hcz54_1 : w53.cell? ⟨gb754, 1, none⟩ = some (.slice Ao13 t743.length co13) := (blk_cell BK754.out 1).trans rfl; have hcz54_2 : w53.cell? ⟨gb754, 2, none⟩ = some (.int .i64 t746) := (blk_cell BK754.out 2).trans rfl; have hcz54_3 : w53.cell? ⟨gb754, 3, none⟩ = some (.int .i64 t747) := (blk_cell BK754.out 3).trans rfl; have hcz54_4 : w53.cell? ⟨gb754, 4, none⟩ = some (.int .i64 t748) := (blk_cell BK754.out 4).trans rfl; have hcz54_5 : w53.cell? ⟨gb754, 5, none⟩ = some (.int .i64 t749) := (blk_cell BK754.out 5).trans rfl; have hcz54_6 : w53.cell? ⟨gb754, 6, none⟩ = some (.slice Ao14 t750.length co14) := (blk_cell BK754.out 6).trans rfl; have hfz54_0 := blk_frozen BK754.out 0; have hfz54_1 := blk_frozen BK754.out 1; have hfz54_2 := blk_frozen BK754.out 2; have hfz54_3 := blk_frozen BK754.out 3; have hfz54_4 := blk_frozen BK754.out 4; have hfz54_5 := blk_frozen BK754.out 5; have hfz54_6 := blk_frozen BK754.out 6) | (go_at_call 28; (with_reducible refine (withholding_Cumulative.calls k2 t742 _ _ t743 t746 t747 t748 t749 _ _ t750 t758 (wrap64 (x11_2 + 1)) (wrap64 (x9_2 + (rd t760 x11_2))) 0 t773 t774 _ ?side1 ?side2 ?side3 ?side4 A31.out).mono ?_); (case side1 => exact q62); (case side2 => exact (Kd.R_reads' HO_755001.out).2.1); (case side3 => exact q63); (case side4 => exact (Kd.R_reads' HO_755006.out).2.1); rintro e w55 ⟨rfl, hb⟩; have n0_ := Aside0.mk (Kd.R_below q59 hb); have n1_ := Aside0.mk (Kd.R_below q92 hb); have n2_ := Aside0.mk (Kd.R_below q78 hb); have n3_ := Aside0.mk (Kd.R_below q79 hb); have n4_ := Aside0.mk (blk_below (g := gb754) (o := .cells #[.int .i64 t742, .slice Ao13 t743.length co13, .int .i64 t746, .int .i64 t747, .int .i64 t748, .int .i64 t749, .slice Ao14 t750.length co14] 33 (0, 0)) q64 hb); have n5_ := Aside0.mk (below_step q60 hb); clear HO_6; clear HO_7; clear HO_755001; clear HO_755006; clear BK754; clear HB; have HO_6 := n0_; have HO_7 := n1_; have HO_755001 := n2_; have HO_755006 := n3_; have BK754 := n4_; have HB := n5_; clear n0_ n1_ n2_ n3_ n4_ n5_; (try clear hb); (try clear hb2); (try clear hk); (try clear hi))))
            go_ret
            exact ⟨by first | rfl | (simp [errW_none, errW_some] <;> rfl) | (simp [*, errW_none, errW_some] <;> rfl), by repeat (first | (with_reducible first | exact HB.out | apply below_alloc | apply pw_below_drewN | apply below_drew1 | refine below_set ?_ GE754.out) | exact HB.out)⟩
          ·
           rw [if_neg c32] at H
           have c32b0 : (t772 == 0) = false := beq_eq_false_iff_ne.mpr c32
           have c32b1 : (t772 != 0) = true := bne_iff_ne.mpr c32
           obtain rfl := Option.some.inj H
           have p769 : 0 ≤ (x11_2 : Int) := of_decide_eq_true q2
           have q769 : x11_2 < (t760.length : Int) := of_decide_eq_true q2
           obtain ⟨ad769, e769, hx769_0⟩ := Kd.at_int (Kd.R_reads' HO_6.out).2.2 x11_2 p769 q769
           cases e769
           replace p769 := eq_true p769
           replace q769 := eq_true q769
           obtain ⟨Ao56, co56, eo56⟩ := Kd.R_slice HO_7.out
           subst eo56
           have p770 : 0 ≤ (x11_2 : Int) := of_decide_eq_true q2
           have q770 : x11_2 < (t764.length : Int) := of_decide_eq_true q2
           obtain ⟨ad770, e770, hx770_0⟩ := Kd.at_int (Kd.R_reads' HO_7.out).2.2 x11_2 p770 q770
           cases e770
           replace p770 := eq_true p770
           replace q770 := eq_true q770
           have hcz57_0 : wr.cell? ⟨gb754, 0, none⟩ = some (.int .i64 t742) := (blk_cell BK754.out 0).trans rfl
           have hcz57_1 : wr.cell? ⟨gb754, 1, none⟩ = some (.slice Ao13 t743.length co13) := (blk_cell BK754.out 1).trans rfl
           have hcz57_2 : wr.cell? ⟨gb754, 2, none⟩ = some (.int .i64 t746) := (blk_cell BK754.out 2).trans rfl
           have hcz57_3 : wr.cell? ⟨gb754, 3, none⟩ = some (.int .i64 t747) := (blk_cell BK754.out 3).trans rfl
           have hcz57_4 : wr.cell? ⟨gb754, 4, none⟩ = some (.int .i64 t748) := (blk_cell BK754.out 4).trans rfl
           have hcz57_5 : wr.cell? ⟨gb754, 5, none⟩ = some (.int .i64 t749) := (blk_cell BK754.out 5).trans rfl
           have hcz57_6 : wr.cell? ⟨gb754, 6, none⟩ = some (.slice Ao14 t750.length co14) := (blk_cell BK754.out 6).trans rfl
           have hfz57_0 := blk_frozen BK754.out 0
           have hfz57_1 := blk_frozen BK754.out 1
           have hfz57_2 := blk_frozen BK754.out 2
           have hfz57_3 := blk_frozen BK754.out 3
           have hfz57_4 := blk_frozen BK754.out 4
           have hfz57_5 := blk_frozen BK754.out 5
           have hfz57_6 := blk_frozen BK754.out 6
           go_wp2_with (first | fail)
           repeat (go_quiet (first | fail); try go_wp2_with (first | (go_at_call 26; (with_reducible refine (withholding_Due.calls k2 t742 _ _ t743 t746 t747 t748 t749 _ _ t750 t758 (wrap64 (x11_2 + 1)) (wrap64 (x9_2 + (rd t760 x11_2))) t771 t772 _ ?side1 ?side2 ?side3 ?side4 A30.out).mono ?_); (case side1 => exact q62); (case side2 => exact (Kd.R_reads' HO_755001.out).2.1); (case side3 => exact q63); (case side4 => exact (Kd.R_reads' HO_755006.out).2.1); rintro e w58 ⟨rfl, hb⟩; have n0_ := Aside0.mk (Kd.R_below q59 hb); have n1_ := Aside0.mk (Kd.R_below q92 hb); have n2_ := Aside0.mk (Kd.R_below q78 hb); have n3_ := Aside0.mk (Kd.R_below q79 hb); have n4_ := Aside0.mk (blk_below (g := gb754) (o := .cells #[.int .i64 t742, .slice Ao13 t743.length co13, .int .i64 t746, .int .i64 t747, .int .i64 t748, .int .i64 t749, .slice Ao14 t750.length co14] 33 (0, 0)) q64 hb); have n5_ := Aside0.mk (below_step q60 hb); clear HO_6; clear HO_7; clear HO_755001; clear HO_755006; clear BK754; clear HB; have HO_6 := n0_; have HO_7 := n1_; have HO_755001 := n2_; have HO_755006 := n3_; have BK754 := n4_; have HB := n5_; clear n0_ n1_ n2_ n3_ n4_ n5_; (try clear hb); (try clear hb2); (try clear hk); (try clear hi); have hcz59_0 : w58.cell? ⟨gb754, 0, none⟩ = some (.int .i64 t742) := (blk_cell BK754.out 0).trans rfl; have hcz59_1 : w58.cell? ⟨gb754, 1, none⟩ = some (.slice Ao13 t743.length co13) := (blk_cell BK754.out 1).trans rfl; have hcz59_2 : w58.cell? ⟨gb754, 2, none⟩ = some (.int .i64 t746) := (blk_cell BK754.out 2).trans rfl; have hcz59_3 : w58.cell? ⟨gb754, 3, none⟩ = some (.int .i64 t747) := (blk_cell BK754.out 3).trans rfl; have hcz59_4 : w58.cell? ⟨gb754, 4, none⟩ = some (.int .i64 t748) := (blk_cell BK754.out 4).trans rfl; have hcz59_5 : w58.cell? ⟨gb754, 5, none⟩ = some (.int .i64 t749) := (blk_cell BK754.out 5).trans rfl; have hcz59_6 : w58.cell? ⟨gb754, 6, none⟩ = some (.slice Ao14 t750.length co14) := (blk_cell BK754.out 6).trans rfl; have hfz59_0 := blk_frozen BK754.out 0; have hfz59_1 := blk_frozen BK754.out 1; have hfz59_2 := blk_frozen BK754.out 2; have hfz59_3 := blk_frozen BK754.out 3; have hfz59_4 := blk_frozen BK754.out 4; have hfz59_5 := blk_frozen BK754.out 5; have hfz59_6 := blk_frozen BK754.out 6) | (go_at_call 28; (with_reducible refine (withholding_Cumulative.calls k2 t742 _ _ t743 t746 t747 t748 t749 _ _ t750 t758 (wrap64 (x11_2 + 1)) (wrap64 (x9_2 + (rd t760 x11_2))) 0 t773 t774 _ ?side1 ?side2 ?side3 ?side4 A31.out).mono ?_); (case side1 => exact q62); (case side2 => exact (Kd.R_reads' HO_755001.out).2.1); (case side3 => exact q63); (case side4 => exact (Kd.R_reads' HO_755006.out).2.1); rintro e w60 ⟨rfl, hb⟩; have n0_ := Aside0.mk (Kd.R_below q59 hb); have n1_ := Aside0.mk (Kd.R_below q92 hb); have n2_ := Aside0.mk (Kd.R_below q78 hb); have n3_ := Aside0.mk (Kd.R_below q79 hb); have n4_ := Aside0.mk (blk_below (g := gb754) (o := .cells #[.int .i64 t742, .slice Ao13 t743.length co13, .int .i64 t746, .int .i64 t747, .int .i64 t748, .int .i64 t749, .slice Ao14 t750.length co14] 33 (0, 0)) q64 hb); have n5_ := Aside0.mk (below_step q60 hb); clear HO_6; clear HO_7; clear HO_755001; clear HO_755006; clear BK754; clear HB; have HO_6 := n0_; have HO_7 := n1_; have HO_755001 := n2_; have HO_755006 := n3_; have BK754 := n4_; have HB := n5_; clear n0_ n1_ n2_ n3_ n4_ n5_; (try clear hb); (try clear hb2); (try clear hk); (try clear hi))))
           go_ret
           exact ⟨by first | rfl | (simp [errW_none, errW_some] <;> rfl) | (simp [*, errW_none, errW_some] <;> rfl), by repeat (first | (with_reducible first | exact HB.out | apply below_alloc | apply pw_below_drewN | apply below_drew1 | refine below_set ?_ GE754.out) | exact HB.out)⟩
         ·
          rw [if_neg c29] at H
          exact absurd H (by simp)
        ·
         rw [if_neg c28] at H
         exact absurd H (by simp)
       ·
        rw [if_neg c27] at H
        exact absurd H (by simp)
      ·
       rw [if_neg c26] at H
       have c26b0 : decide (x11_2 < t758) = false := decide_eq_false c26
       clear c26
       replace H := Option.bind_eq_some_iff.mp H
       obtain ⟨t768, A610, H⟩ := H
       replace H : (some t768) = some r := H
       have A61 := Aside0.mk A610
       clear A610
       obtain rfl := Option.some.inj H
       go_wp2_with (first | (go_at_call 12; (with_reducible refine (payrolllaw30_awake.calls k2  t768 _ A61.out).mono ?_); rintro e w62 ⟨rfl, hb⟩; have n0_ := Aside0.mk (Kd.R_below q59 hb); have n1_ := Aside0.mk (Kd.R_below q92 hb); have n2_ := Aside0.mk (Kd.R_below q78 hb); have n3_ := Aside0.mk (Kd.R_below q79 hb); have n4_ := Aside0.mk (blk_below (g := gb754) (o := .cells #[.int .i64 t742, .slice Ao13 t743.length co13, .int .i64 t746, .int .i64 t747, .int .i64 t748, .int .i64 t749, .slice Ao14 t750.length co14] 33 (0, 0)) q64 hb); have n5_ := Aside0.mk (below_step q60 hb); clear HO_6; clear HO_7; clear HO_755001; clear HO_755006; clear BK754; clear HB; have HO_6 := n0_; have HO_7 := n1_; have HO_755001 := n2_; have HO_755006 := n3_; have BK754 := n4_; have HB := n5_; clear n0_ n1_ n2_ n3_ n4_ n5_; (try clear hb); (try clear hb2); (try clear hk); (try clear hi)))
       repeat (go_quiet (first | fail); try go_wp2_with (first | fail))
       go_ret
       exact ⟨by first | rfl | (simp [errW_none, errW_some] <;> rfl) | (simp [*, errW_none, errW_some] <;> rfl), by repeat (first | (with_reducible first | exact HB.out | apply below_alloc | apply pw_below_drewN | apply below_drew1 | refine below_set ?_ GE754.out) | exact HB.out)⟩

/-- THE ONE PURE STATEMENT of payrolllaw30_WithholdingPrefix: yours. -/
def payrolllaw30_WithholdingPrefix.Pure : Prop := ∀ (l0 : List Int), l0.length ≤ maxLen → l0.length * 8 ≤ 140737488351232 → (∀ x ∈ l0, (Lit.int .i64 x).wf = true) → ∃ k, payrolllaw30_WithholdingPrefix.f k l0 = some true
theorem payrolllaw30_WithholdingPrefix.walk (P : payrolllaw30_WithholdingPrefix.Pure) (a0 : Option Addr) (len0 cap0 : Nat) (z0 : List Int) (w : World) (w0 : (a0 = none ∧ len0 = 0 ∧ cap0 = 0 ∧ z0 = []) ∨ ∃ x, a0 = some x ∧ len0 ≤ cap0 ∧ cap0 ≤ maxLen ∧ z0.length = cap0 ∧ (∀ i, i < z0.length → w.cell? (x.add i) = some (.int .i64 (z0.getD i 0))) ∧ ∀ n ∈ z0, (Lit.int .i64 n).wf = true) (y0 : len0 * 8 ≤ 140737488351232) :
  Calls Try.prog 8 #[.slice a0 len0 cap0] w fun e w' => e = .returned (.bool true) ∧ Below w.heap.size w w' := by
 obtain ⟨l0, rfl, hr0, hm0, hw0, hc0⟩ := ReadsInt.ofRowC w0
 obtain ⟨k, h⟩ := P l0 hm0 y0 hw0
 refine (payrolllaw30_WithholdingPrefix.calls k _ _ l0 true w (Kd.C_of_reads (d := (0 : Int)) (h1 := fun _ => rfl) hr0) hc0 h).mono ?_
 rintro e w' ⟨rfl, hd⟩
 exact ⟨rfl, hd⟩

end Go.Proofs.Ytbacfajhgmnjpaa.P
