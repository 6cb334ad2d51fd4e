/- Proved here: that the Go function payrolllaw30_WithholdingEven computes the plain function of that name (the machine side of the laws, reworked from a print; no condition of its own). -/
import Derived.Test.YtbacfajhgmnjpaaProg
import Derived.Test.YtbacfajhgmnjpaaV1
import Derived.Test.YtbacfajhgmnjpaaV2
import Derived.Test.YtbacfajhgmnjpaaFPRE
import Derived.Test.YtbacfajhgmnjpaaFwithholdingYear
import Derived.Test.YtbacfajhgmnjpaaFpayrolllaw30plain
import Derived.Test.YtbacfajhgmnjpaaFpayrolllaw30awake
import Derived.Test.YtbacfajhgmnjpaaFpaygen
namespace Go.Proofs.Ytbacfajhgmnjpaa.P
open Go.RowKit Go.Proofs.YtbacfajhgmnjpaaW.PrintWords Go.Proofs.YtbacfajhgmnjpaaW.PrintLast Go.Proofs.YtbacfajhgmnjpaaW.PrintMore
attribute [local go_sem] max2_int min2_int max_two min_two max_three min_three max_four min_four   -- for this text's walks alone
set_option linter.unusedVariables false
set_option linter.unusedSimpArgs false

mutual
def payrolllaw30_WithholdingEven.l0 : Nat → Int → List Int → Int → Int → List (S58) → Int → Int → Int → Int → List (S80) → Option (Bool)
 | 0, _, _, _, _, _, _, _, _, _, _ => none
 | k + 1, x8, x9, x10, x826000, x826001, x826002, x826003, x826004, x826005, x826006 => if x10 < 12 then (if x9.length < 17592186044416 then (payrolllaw30_WithholdingEven.l0 k x8 (x9 ++ [x8]) (wrap64 (x10 + 1)) x826000 x826001 x826002 x826003 x826004 x826005 x826006) else (none)) else ((withholding_Year.f k x826000 x826001 x826002 x826003 x826004 x826005 x826006 12 x9).bind fun bt835 => (if bt835.2 = 0 then (payrolllaw30_WithholdingEven.j1 k bt835.1 ((bt835.1.length : Int) != 12)) else (payrolllaw30_WithholdingEven.j1 k bt835.1 true)))
def payrolllaw30_WithholdingEven.j1 : Nat → List Int → Bool → Option (Bool)
 | 0, _, _ => none
 | k + 1, x11, x48 => if x48 = true then (some false) else (payrolllaw30_WithholdingEven.l1 k x11 0)
def payrolllaw30_WithholdingEven.l1 : Nat → List Int → Int → Option (Bool)
 | 0, _, _ => none
 | k + 1, x11, x13 => if x13 < 12 then (if 0 ≤ x13 then (if x13 < (x11.length : Int) then (if 0 < (x11.length : Int) then (if (rd x11 x13) = (rd x11 0) then (payrolllaw30_WithholdingEven.l1 k x11 (wrap64 (x13 + 1))) else (some false)) else (none)) else (none)) else (none)) else ((payrolllaw30_awake.f k).bind fun t841 => (some t841))
end
def payrolllaw30_WithholdingEven.f (k : Nat) (a0 : Int) (a1 : Int) (a2 : Int) : Option (Bool) := (payrolllaw30_plain.f 3).bind fun bt814 => ((paygen_Mod.f a0 10000).bind fun t826 => ((paygen_Mod.f a1 1000).bind fun t827 => ((paygen_Mod.f a2 101).bind fun t828 => (payrolllaw30_WithholdingEven.l0 k (wrap64 (100 * t826)) ([] : List Int) 0 bt814.1 (([(⟨0, wrap64 (10000 * t828)⟩ : S58)] : List (S58))) (wrap64 (1200 * t827)) bt814.2.2.2.1 bt814.2.2.2.2.1 bt814.2.2.2.2.2.1 bt814.2.2.2.2.2.2))))
theorem payrolllaw30_WithholdingEven.mono_l : ∀ k, (∀ y0 y1 y2 y3 y4 y5 y6 y7 y8 y9, LeO (payrolllaw30_WithholdingEven.l0 k y0 y1 y2 y3 y4 y5 y6 y7 y8 y9) (payrolllaw30_WithholdingEven.l0 (k + 1) y0 y1 y2 y3 y4 y5 y6 y7 y8 y9)) ∧ (∀ y0 y1, LeO (payrolllaw30_WithholdingEven.j1 k y0 y1) (payrolllaw30_WithholdingEven.j1 (k + 1) y0 y1)) ∧ (∀ y0 y1, LeO (payrolllaw30_WithholdingEven.l1 k y0 y1) (payrolllaw30_WithholdingEven.l1 (k + 1) y0 y1))
 | 0 => ⟨fun _ _ _ _ _ _ _ _ _ _ r h => by simp [payrolllaw30_WithholdingEven.l0] at h, fun _ _ r h => by simp [payrolllaw30_WithholdingEven.j1] at h, fun _ _ r h => by simp [payrolllaw30_WithholdingEven.l1] at h⟩
 | k + 1 => by
  obtain ⟨ih0, ih1, ih2⟩ := payrolllaw30_WithholdingEven.mono_l k
  refine ⟨?_, ?_, ?_⟩
  ·
   intro y0 y1 y2 y3 y4 y5 y6 y7 y8 y9
   unfold payrolllaw30_WithholdingEven.l0
   repeat' first
   | (with_reducible exact ih0 _ _ _ _ _ _ _ _ _ _)
   | (with_reducible exact ih1 _ _)
   | (with_reducible exact ih2 _ _)
   | (with_reducible exact payrolllaw30_awake.mono _)
   | (with_reducible exact withholding_Year.mono _ _ _ _ _ _ _ _ _ _)
   | (with_reducible exact LeO.refl _)
   | (with_reducible exact LeO.none _)
   | (with_reducible refine LeO.ite ?_ ?_)
   | (with_reducible refine LeO.bind ?_ (fun _ => ?_))
   | exact ih0 _ _ _ _ _ _ _ _ _ _
   | exact ih1 _ _
   | exact ih2 _ _
   | exact payrolllaw30_awake.mono _
   | exact withholding_Year.mono _ _ _ _ _ _ _ _ _ _
   | exact LeO.none _
   | refine LeO.ite ?_ ?_
   | refine LeO.bind ?_ (fun _ => ?_)
  ·
   intro y0 y1
   unfold payrolllaw30_WithholdingEven.j1
   repeat' first
   | (with_reducible exact ih0 _ _ _ _ _ _ _ _ _ _)
   | (with_reducible exact ih1 _ _)
   | (with_reducible exact ih2 _ _)
   | (with_reducible exact payrolllaw30_awake.mono _)
   | (with_reducible exact withholding_Year.mono _ _ _ _ _ _ _ _ _ _)
   | (with_reducible exact LeO.refl _)
   | (with_reducible exact LeO.none _)
   | (with_reducible refine LeO.ite ?_ ?_)
   | (with_reducible refine LeO.bind ?_ (fun _ => ?_))
   | exact ih0 _ _ _ _ _ _ _ _ _ _
   | exact ih1 _ _
   | exact ih2 _ _
   | exact payrolllaw30_awake.mono _
   | exact withholding_Year.mono _ _ _ _ _ _ _ _ _ _
   | exact LeO.none _
   | refine LeO.ite ?_ ?_
   | refine LeO.bind ?_ (fun _ => ?_)
  ·
   intro y0 y1
   unfold payrolllaw30_WithholdingEven.l1
   repeat' first
   | (with_reducible exact ih0 _ _ _ _ _ _ _ _ _ _)
   | (with_reducible exact ih1 _ _)
   | (with_reducible exact ih2 _ _)
   | (with_reducible exact payrolllaw30_awake.mono _)
   | (with_reducible exact withholding_Year.mono _ _ _ _ _ _ _ _ _ _)
   | (with_reducible exact LeO.refl _)
   | (with_reducible exact LeO.none _)
   | (with_reducible refine LeO.ite ?_ ?_)
   | (with_reducible refine LeO.bind ?_ (fun _ => ?_))
   | exact ih0 _ _ _ _ _ _ _ _ _ _
   | exact ih1 _ _
   | exact ih2 _ _
   | exact payrolllaw30_awake.mono _
   | exact withholding_Year.mono _ _ _ _ _ _ _ _ _ _
   | exact LeO.none _
   | refine LeO.ite ?_ ?_
   | refine LeO.bind ?_ (fun _ => ?_)
theorem payrolllaw30_WithholdingEven.mono : ∀ a0 a1 a2 k, LeO (payrolllaw30_WithholdingEven.f k a0 a1 a2) (payrolllaw30_WithholdingEven.f (k + 1) a0 a1 a2) := by
 intro a0 a1 a2 k
 obtain ⟨ih0, ih1, ih2⟩ := payrolllaw30_WithholdingEven.mono_l k
 unfold payrolllaw30_WithholdingEven.f
 repeat' first
   | (with_reducible exact ih0 _ _ _ _ _ _ _ _ _ _)
   | (with_reducible exact ih1 _ _)
   | (with_reducible exact ih2 _ _)
   | (with_reducible exact payrolllaw30_awake.mono _)
   | (with_reducible exact withholding_Year.mono _ _ _ _ _ _ _ _ _ _)
   | (with_reducible exact LeO.refl _)
   | (with_reducible exact LeO.none _)
   | (with_reducible refine LeO.ite ?_ ?_)
   | (with_reducible refine LeO.bind ?_ (fun _ => ?_))
   | exact ih0 _ _ _ _ _ _ _ _ _ _
   | exact ih1 _ _
   | exact ih2 _ _
   | exact payrolllaw30_awake.mono _
   | exact withholding_Year.mono _ _ _ _ _ _ _ _ _ _
   | exact LeO.none _
   | refine LeO.ite ?_ ?_
   | refine LeO.bind ?_ (fun _ => ?_)
set_option maxHeartbeats 8000000 in
set_option maxRecDepth 100000 in
theorem payrolllaw30_WithholdingEven.calls (k : Nat) (a0 : Int) (a1 : Int) (a2 : Int) (r : Bool) (w : World) (h : payrolllaw30_WithholdingEven.f k a0 a1 a2 = some r) (hT : r = true) :
  Calls Try.prog 10 #[.int .i64 a0, .int .i64 a1, .int .i64 a2] w fun e w' => e = .returned (.bool r) ∧ Below w.heap.size w w' := by
 have HT := Aside0.mk hT
 clear hT
 have hu33 := Try.underlying33
 have hu58 := Try.underlying58
 have HB := Aside0.mk (Below.refl w.heap.size w)
 have H : ((payrolllaw30_plain.f 3).bind fun bt814 => ((paygen_Mod.f a0 10000).bind fun t826 => ((paygen_Mod.f a1 1000).bind fun t827 => ((paygen_Mod.f a2 101).bind fun t828 => (payrolllaw30_WithholdingEven.l0 k (wrap64 (100 * t826)) ([] : List Int) 0 bt814.1 (([(⟨0, wrap64 (10000 * t828)⟩ : S58)] : List (S58))) (wrap64 (1200 * t827)) bt814.2.2.2.1 bt814.2.2.2.2.1 bt814.2.2.2.2.2.1 bt814.2.2.2.2.2.2))))) = some r := h
 clear h
 replace H := Option.bind_eq_some_iff.mp H
 obtain ⟨⟨t814, t815, t818, t819, t820, t821, t822⟩, A40, H⟩ := H
 try dsimp only at H
 have A4 := Aside0.mk A40
 clear A40
 replace H := Option.bind_eq_some_iff.mp H
 obtain ⟨t826, A50, H⟩ := H
 try dsimp only at H
 have A5 := Aside0.mk A50
 clear A50
 replace H := Option.bind_eq_some_iff.mp H
 obtain ⟨t827, A60, H⟩ := H
 try dsimp only at H
 have A6 := Aside0.mk A60
 clear A60
 replace H := Option.bind_eq_some_iff.mp H
 obtain ⟨t828, A70, H⟩ := H
 try dsimp only at H
 have A7 := Aside0.mk A70
 clear A70
 obtain ⟨y829, hy829⟩ : ∃ y_ : List (S58), y_ = (([(⟨0, wrap64 (10000 * t828)⟩ : S58)] : List (S58))) := ⟨_, rfl⟩
 replace H : (payrolllaw30_WithholdingEven.l0 k (wrap64 (100 * t826)) ([] : List Int) 0 t814 y829 (wrap64 (1200 * t827)) t819 t820 t821 t822) = some r := by first | (rw [hy829]; with_reducible exact H) | (have H2_ := (Option.bind_some _ _).symm.trans H; rw [hy829]; with_reducible exact H2_) | (have H2_ := (Option.bind_some _ _).symm.trans H; with_reducible exact H2_) | with_reducible exact H | (rw [hy829]; exact H) | exact H
 have Ny829 := Aside0.mk hy829
 clear hy829
 have H' := Aside0.mk H
 clear H
 go_enter Try.func10, Try.ntmps10
 go_wp2_with (first | ((with_reducible refine gate_callee (f := 35) rfl ?_); refine goesL_ (some 14) rfl rfl Try.func35 (by kernel_rfl) rfl #[.int .i64 3] rfl q1 ?_; (with_reducible refine (payrolllaw30_plain.calls 3 t814 t815 t818 t819 t820 t821 t822 _ A4.out).mono ?_); rintro e w8 ⟨v816, v823, rfl, ho0, ho1, hb⟩; refine ⟨_, rfl, ?_⟩; have n0_ := Aside0.mk (Kd.R_lower ho0 (below_size q0)); have n1_ := Aside0.mk (Kd.R_lower ho1 (below_size q0)); have n2_ := Aside0.mk (below_step q0 hb); clear HB; have HO817 := n0_; have HO824 := n1_; have HB := n2_; clear n0_ n1_ n2_; (try clear hb); (try clear ho0); (try clear ho1)) | ((with_reducible refine gate_dst (N := 7) rfl ?_); (try (refine gate_guard (by rfl) ?_; dsimp only)); refine box_event ?hg (N := 7) ?hd (cs := #[.int .i64 0, .slice none 0 0, .int .i64 0, .int .i64 0, .int .i64 0, .int .i64 0, .slice none 0 0]) (t := 33) ?hr ?_; (case hd => rfl); (case hg => rfl); (case hr => first | (go_simp; done) | (go_simp; rfl)); intro gb825 hg w9 hbox hb; have n0_ := Aside0.mk (Kd.R_below (by (with_reducible repeat (first | apply Kd.R_alloc | apply Kd.R_drewN | apply Kd.R_drew)); exact HO817.out) hb); have n1_ := Aside0.mk (Kd.R_below (by (with_reducible repeat (first | apply Kd.R_alloc | apply Kd.R_drewN | apply Kd.R_drew)); exact HO824.out) hb); have n2_ := Aside0.mk (below_step q0 hb); have n3_ := Aside0.mk (hbox); have n4_ := Aside0.mk ((by rw [hg]; exact (below_size q0) : w.heap.size ≤ gb825)); have n5_ := Aside0.mk ((by rw [hg]; exact (below_size q0) : w.heap.size ≤ gb825)); clear HO817; clear HO824; clear HB; have HO817 := n0_; have HO824 := n1_; have HB := n2_; have BK825 := n3_; have GW825 := n4_; have GE825 := n5_; clear n0_ n1_ n2_ n3_ n4_ n5_; clear hb hbox hg; have hcz10_0 : w9.cell? ⟨gb825, 0, none⟩ = some (.int .i64 0) := (blk_cell BK825.out 0).trans rfl; have hcz10_1 : w9.cell? ⟨gb825, 1, none⟩ = some (.slice none 0 0) := (blk_cell BK825.out 1).trans rfl; have hcz10_2 : w9.cell? ⟨gb825, 2, none⟩ = some (.int .i64 0) := (blk_cell BK825.out 2).trans rfl; have hcz10_3 : w9.cell? ⟨gb825, 3, none⟩ = some (.int .i64 0) := (blk_cell BK825.out 3).trans rfl; have hcz10_4 : w9.cell? ⟨gb825, 4, none⟩ = some (.int .i64 0) := (blk_cell BK825.out 4).trans rfl; have hcz10_5 : w9.cell? ⟨gb825, 5, none⟩ = some (.int .i64 0) := (blk_cell BK825.out 5).trans rfl; have hcz10_6 : w9.cell? ⟨gb825, 6, none⟩ = some (.slice none 0 0) := (blk_cell BK825.out 6).trans rfl; have hfz10_0 := blk_frozen BK825.out 0; have hfz10_1 := blk_frozen BK825.out 1; have hfz10_2 := blk_frozen BK825.out 2; have hfz10_3 := blk_frozen BK825.out 3; have hfz10_4 := blk_frozen BK825.out 4; have hfz10_5 := blk_frozen BK825.out 5; have hfz10_6 := blk_frozen BK825.out 6; obtain ⟨Ao11, co11, eo11⟩ := Kd.R_slice HO817.out; subst eo11; obtain ⟨Ao12, co12, eo12⟩ := Kd.R_slice HO824.out; subst eo12) | ((with_reducible refine gate_store (t := 33) (p := 7) rfl ?_); refine fillL_ (g := gb825) #[.int .i64 t814, .slice Ao11 t815.length co11, .int .i64 t818, .int .i64 t819, .int .i64 t820, .int .i64 t821, .slice Ao12 t822.length co12] rfl rfl rfl rfl rfl (by rfl) BK825.out rfl (by kernel_rfl) (by rfl) ?_; intro w11 hbk hg; have n0_ := Aside0.mk (Kd.R_mono (Kd.R_grown (Kd.R_types HO817.out BK825.out (by decide)) hg (fun _ hk e_ => hk.2 (by injection e_))) (fun _ hk => hk.1)); have n1_ := Aside0.mk (Kd.R_mono (Kd.R_grown (Kd.R_types HO824.out BK825.out (by decide)) hg (fun _ hk e_ => hk.2 (by injection e_))) (fun _ hk => hk.1)); have n2_ := Aside0.mk (hbk); have n3_ := Aside0.mk (HB.out.grown hg (below_size HB.out) (fun k_ hk_ => by injection hk_ with hk_; rw [← hk_]; exact GE825.out)); clear HO817 HO824 BK825 HB; have HO817 := n0_; have HO824 := n1_; have BK825 := n2_; have HB := n3_; clear n0_ n1_ n2_ n3_; clear hbk hg) | ((with_reducible refine gate_callee (f := 34) rfl ?_); refine goesL_ (some 16) rfl rfl Try.func34 (by kernel_rfl) rfl #[.int .i64 a0, .int .i64 10000] rfl q1 ?_; (with_reducible refine (paygen_Mod.calls a0 10000 t826 _ A5.out).mono ?_); rintro e w' ⟨rfl, ⟨nd, rfl⟩⟩; refine ⟨_, rfl, ?_⟩; have n0_ := Aside0.mk (Kd.R_drewN HO817.out nd); have n1_ := Aside0.mk (Kd.R_drewN HO824.out nd); have n2_ := Aside0.mk (blk_drewN BK825.out nd); have n3_ := Aside0.mk (pw_below_drewN HB.out nd); clear HO817 HO824 BK825 HB; have HO817 := n0_; have HO824 := n1_; have BK825 := n2_; have HB := n3_; clear n0_ n1_ n2_ n3_; generalize World.drewN w11 nd = w12 at HO817 HO824 BK825 HB ⊢; clear nd) | ((with_reducible refine gate_callee (f := 34) rfl ?_); refine goesL_ (some 19) rfl rfl Try.func34 (by kernel_rfl) rfl #[.int .i64 a1, .int .i64 1000] rfl q1 ?_; (with_reducible refine (paygen_Mod.calls a1 1000 t827 _ A6.out).mono ?_); rintro e w' ⟨rfl, ⟨nd, rfl⟩⟩; refine ⟨_, rfl, ?_⟩; have n0_ := Aside0.mk (Kd.R_drewN HO817.out nd); have n1_ := Aside0.mk (Kd.R_drewN HO824.out nd); have n2_ := Aside0.mk (blk_drewN BK825.out nd); have n3_ := Aside0.mk (pw_below_drewN HB.out nd); clear HO817 HO824 BK825 HB; have HO817 := n0_; have HO824 := n1_; have BK825 := n2_; have HB := n3_; clear n0_ n1_ n2_ n3_; generalize World.drewN w12 nd = w13 at HO817 HO824 BK825 HB ⊢; clear nd) | ((with_reducible refine gate_store (t := 3) (p := 21) rfl ?_); have hcs_ := blk_cell BK825.out 2; have hfs_ := blk_frozen BK825.out 2; refine store_event (t := 3) (p := 21) (v := ?vo_w14) (w1 := w13.setCell ⟨gb825, 2, none⟩ (.int .i64 (wrap64 (1200 * t827)))) ?hg ?ho ?hn ?hr ?_; (case ho => rfl); (case hg => rfl); (case hn => rfl); (case hr => first | (go_simp; done) | (go_simp; rfl)); intro w14 hw; have n0_ := Aside0.mk ((by rw [hw]; exact Kd.R_mono (Kd.R_far (p := ⟨gb825, 2, none⟩) (Kd.R_types HO817.out BK825.out (by decide)) (fun _ hk => hk.2) (.int .i64 (wrap64 (1200 * t827)))) (fun _ hk => hk.1) : Kd.R k58 58 w14 w.heap.size _ _ t815)); have n1_ := Aside0.mk ((by rw [hw]; exact Kd.R_mono (Kd.R_far (p := ⟨gb825, 2, none⟩) (Kd.R_types HO824.out BK825.out (by decide)) (fun _ hk => hk.2) (.int .i64 (wrap64 (1200 * t827)))) (fun _ hk => hk.1) : Kd.R k80 80 w14 w.heap.size _ _ t822)); have n2_ := Aside0.mk ((by rw [hw]; exact blk_put BK825.out 2 _ rfl : w14.heap[gb825]? = some (.cells #[.int .i64 t814, .slice Ao11 t815.length co11, .int .i64 (wrap64 (1200 * t827)), .int .i64 t819, .int .i64 t820, .int .i64 t821, .slice Ao12 t822.length co12] 33 (0, 0)))); have n3_ := Aside0.mk ((by rw [hw]; exact below_set HB.out GE825.out : Below w.heap.size w w14)); clear HO817 HO824 BK825 HB; have HO817 := n0_; have HO824 := n1_; have BK825 := n2_; have HB := n3_; clear n0_ n1_ n2_ n3_; clear hw hcs_ hfs_) | ((with_reducible refine gate_callee (f := 34) rfl ?_); refine goesL_ (some 23) rfl rfl Try.func34 (by kernel_rfl) rfl #[.int .i64 a2, .int .i64 101] rfl q1 ?_; (with_reducible refine (paygen_Mod.calls a2 101 t828 _ A7.out).mono ?_); rintro e w' ⟨rfl, ⟨nd, rfl⟩⟩; refine ⟨_, rfl, ?_⟩; have n0_ := Aside0.mk (Kd.R_drewN HO817.out nd); have n1_ := Aside0.mk (Kd.R_drewN HO824.out nd); have n2_ := Aside0.mk (blk_drewN BK825.out nd); have n3_ := Aside0.mk (pw_below_drewN HB.out nd); clear HO817 HO824 BK825 HB; have HO817 := n0_; have HO824 := n1_; have BK825 := n2_; have HB := n3_; clear n0_ n1_ n2_ n3_; generalize World.drewN w14 nd = w15 at HO817 HO824 BK825 HB ⊢; clear nd) | ((with_reducible refine gate_dst (N := 26) rfl ?_); refine Kd.R_lit k58 _ 58 ?hg (N := 26) ?hd (xs := ([(⟨0, wrap64 (10000 * t828)⟩ : S58)] : List (S58))) (inner := [.int .i64 0, .int .i64 (wrap64 (10000 * t828))]) (ok := fun _ => True) (okp := fun _ => True) ?hr ?hp (fun _ hk => hk) trivial (Below.refl _ _) (Nat.le_refl _) (by simp) ?_; (case hd => rfl); (case hg => rfl); (case hr => first | (go_simp; done) | (go_simp; rfl)); (case hp => exact (Reps.c2 (show Kd.M k58 _ _ _ (⟨0, wrap64 (10000 * t828)⟩ : S58) [.int .i64 0, .int .i64 (wrap64 (10000 * t828))] from (k58_mkM _ _ _ (⟨0, wrap64 (10000 * t828)⟩ : S58) )) (Reps.none _ _))); intro v830 w16 ho14 hb hg_ hnew_; clear hg_ hnew_; (first | rw [← Ny829.out] at ho14 | (simp only [Int.reduceToNat] at ho14; rw [← Ny829.out] at ho14)); have n0_ := Aside0.mk (Kd.R_below HO824.out hb); have n1_ := Aside0.mk (Kd.R_lower ho14 (below_size HB.out)); have n2_ := Aside0.mk (blk_below BK825.out hb); have n3_ := Aside0.mk (below_step HB.out hb); clear HO824 BK825 HB; have HO824 := n0_; have HO831 := n1_; have BK825 := n2_; have HB := n3_; clear n0_ n1_ n2_ n3_; clear HO817 hb ho14; obtain ⟨Ao15, co15, eo15⟩ := Kd.R_slice HO831.out; subst eo15) | ((with_reducible refine gate_store (t := 30) (p := 27) rfl ?_); have hcs_ := blk_cell BK825.out 1; have hfs_ := blk_frozen BK825.out 1; refine store_event (t := 30) (p := 27) (v := ?vo_w17) (w1 := w16.setCell ⟨gb825, 1, none⟩ (.slice Ao15 y829.length co15)) ?hg ?ho ?hn ?hr ?_; (case ho => rfl); (case hg => rfl); (case hn => rfl); (case hr => first | (go_simp; done) | (go_simp; rfl)); intro w17 hw; have n0_ := Aside0.mk ((by rw [hw]; exact Kd.R_mono (Kd.R_far (p := ⟨gb825, 1, none⟩) (Kd.R_types HO824.out BK825.out (by decide)) (fun _ hk => hk.2) (.slice Ao15 y829.length co15)) (fun _ hk => hk.1) : Kd.R k80 80 w17 w.heap.size _ _ t822)); have n1_ := Aside0.mk ((by rw [hw]; exact Kd.R_mono (Kd.R_far (p := ⟨gb825, 1, none⟩) (Kd.R_types HO831.out BK825.out (by decide)) (fun _ hk => hk.2) (.slice Ao15 y829.length co15)) (fun _ hk => hk.1) : Kd.R k58 58 w17 w.heap.size _ _ y829)); have n2_ := Aside0.mk ((by rw [hw]; exact blk_put BK825.out 1 _ rfl : w17.heap[gb825]? = some (.cells #[.int .i64 t814, .slice Ao15 y829.length co15, .int .i64 (wrap64 (1200 * t827)), .int .i64 t819, .int .i64 t820, .int .i64 t821, .slice Ao12 t822.length co12] 33 (0, 0)))); have n3_ := Aside0.mk ((by rw [hw]; exact below_set HB.out GE825.out : Below w.heap.size w w17)); clear HO824 HO831 BK825 HB; have HO824 := n0_; have HO831 := n1_; have BK825 := n2_; have HB := n3_; clear n0_ n1_ n2_ n3_; clear hw hcs_ hfs_))
 go_loopg [9, 10] k (fun kq v9 v10 w' => ∃ (x9_1 : List Int) (x10_1 : Int), v10 = .int .i64 x10_1 ∧ Aside0 (payrolllaw30_WithholdingEven.l0 kq (wrap64 (100 * t826)) x9_1 x10_1 t814 y829 (wrap64 (1200 * t827)) t819 t820 t821 t822 = some r) ∧ Aside0 (kq ≤ k) ∧ Aside0 (Kd.R (Kd.int .i64) 3 w' w.heap.size (fun _ => True) v9 x9_1) ∧ Aside0 (Kd.R k58 58 w' w.heap.size (fun _ => True) (.slice Ao15 y829.length co15) y829) ∧ Aside0 (Kd.R k80 80 w' w.heap.size (fun _ => True) (.slice Ao12 t822.length co12) t822) ∧ Aside0 (w'.heap[gb825]? = some (.cells #[.int .i64 t814, (.slice Ao15 y829.length co15), .int .i64 (wrap64 (1200 * t827)), .int .i64 t819, .int .i64 t820, .int .i64 t821, (.slice Ao12 t822.length co12)] 33 (0, 0))) ∧ Aside0 (Below w.heap.size w w'))
 case atStart => exact ⟨(([] : List Int)), (0), q26, H', ⟨Nat.le_refl _⟩, ⟨Kd.R_nil _ _ _ _ _⟩, ⟨Kd.R_mono HO831.out (fun _ _ => trivial)⟩, ⟨Kd.R_mono HO824.out (fun _ _ => trivial)⟩, ⟨BK825.out⟩, ⟨HB.out⟩⟩
 case round =>
  clear H'
  try clear c1
  try clear c2
  try clear p2
  try clear p6
  try clear c10
  try clear hcz10_0
  try clear hcz10_1
  try clear hcz10_2
  try clear hcz10_3
  try clear hcz10_4
  try clear hcz10_5
  try clear hcz10_6
  try clear hcz16_0
  try clear hcz16_1
  try clear hcz16_2
  try clear hcz16_3
  try clear hcz16_4
  try clear hcz16_5
  try clear hcz16_6
  try clear hfz10_0
  try clear hfz10_1
  try clear hfz10_2
  try clear hfz10_3
  try clear hfz10_4
  try clear hfz10_5
  try clear hfz10_6
  try clear hfz16_0
  try clear hfz16_1
  try clear hfz16_2
  try clear hfz16_3
  try clear hfz16_4
  try clear hfz16_5
  try clear hfz16_6
  obtain ⟨x9_1, x10_1, rfl, HA, HK1, HO_9, HO_826001, HO_826006, BK825, HB⟩ := hrel
  cases gk with
  | zero => exact absurd HA.out (by simp [payrolllaw30_WithholdingEven.l0])
  | succ k1 =>
   have H := HA.out
   clear HA
   simp only [payrolllaw30_WithholdingEven.l0] at H
   by_cases c17 : x10_1 < 12
   ·
    rw [if_pos c17] at H
    have c17b0 : decide (x10_1 < 12) = true := decide_eq_true c17
    clear c17
    by_cases c18 : x9_1.length < 17592186044416
    ·
     rw [if_pos c18] at H
     have LMc18 := Aside0.mk c18
     clear c18
     obtain ⟨y832, hy832⟩ : ∃ y_ : List Int, y_ = (x9_1 ++ [(wrap64 (100 * t826))]) := ⟨_, rfl⟩
     replace H : (payrolllaw30_WithholdingEven.l0 k1 (wrap64 (100 * t826)) y832 (wrap64 (x10_1 + 1)) t814 y829 (wrap64 (1200 * t827)) t819 t820 t821 t822) = some r := by first | (rw [hy832]; with_reducible exact H) | (have H2_ := (Option.bind_some _ _).symm.trans H; rw [hy832]; with_reducible exact H2_) | (have H2_ := (Option.bind_some _ _).symm.trans H; with_reducible exact H2_) | with_reducible exact H | (rw [hy832]; exact H) | exact H
     have Ny832 := Aside0.mk hy832
     clear hy832
     have H' := Aside0.mk H
     clear H
     go_wp2_with (first | ((with_reducible refine gate_builtin (b := .append) (xs := #[.tmp 32, .tmp 34]) rfl ?_); (try (refine gate_guard (by rfl) ?_; dsimp only)); at_builtin; refine Kd.R_append (Kd.int .i64) (w0 := w) w.heap.size rfl (.tmp 32) (.tmp 34) 22 3 (.int .i64 0) 8 rfl Try.underlying22 info3 rfl (by decide) (by omega) u9 x9_1 (wrap64 (100 * t826)) [.int .i64 (wrap64 (100 * t826))] (fun _ => True) (fun _ => False) rfl rfl ?aP (fun _ hk => hk.elim) ?aF ?aO ?aB ?aS ?aL ?_; (case aP => exact rfl); (case aB => exact q32); (case aF => exact (fun _ _ => trivial)); (case aO => exact q60); (case aS => exact (below_size q32)); (case aL => have := LMc18.out; omega); intro v833 w19 ho hb hg hat; rw [← Ny832.out] at ho; have n0_ := Aside0.mk (Kd.R_over' q89 (Kd.R_typed q60) (by decide) hg); have n1_ := Aside0.mk (Kd.R_over' q90 (Kd.R_typed q60) (by decide) hg); have n2_ := Aside0.mk (blk_grown (g := gb825) (o := .cells #[.int .i64 t814, .slice Ao15 y829.length co15, .int .i64 (wrap64 (1200 * t827)), .int .i64 t819, .int .i64 t820, .int .i64 t821, .slice Ao12 t822.length co12] 33 (0, 0)) q83 hg (Kd.R_ne HO_9.out BK825.out (by decide))); have n3_ := Aside0.mk (hb); have n4_ := Aside0.mk (ho); clear HO_826001; clear HO_826006; clear BK825; clear HB; clear HO_9; have HO_826001 := n0_; have HO_826006 := n1_; have BK825 := n2_; have HB := n3_; have HO834 := n4_; clear n0_ n1_ n2_ n3_ n4_; clear ho hb hg hat))
     repeat (go_quiet (first | ((with_reducible refine gate_builtin (b := .append) (xs := #[.tmp 32, .tmp 34]) rfl ?_); (try (refine gate_guard (by rfl) ?_; dsimp only)); at_builtin; refine Kd.R_append (Kd.int .i64) (w0 := w) w.heap.size rfl (.tmp 32) (.tmp 34) 22 3 (.int .i64 0) 8 rfl Try.underlying22 info3 rfl (by decide) (by omega) u9 x9_1 (wrap64 (100 * t826)) [.int .i64 (wrap64 (100 * t826))] (fun _ => True) (fun _ => False) rfl rfl ?aP (fun _ hk => hk.elim) ?aF ?aO ?aB ?aS ?aL ?_; (case aP => exact rfl); (case aB => exact q32); (case aF => exact (fun _ _ => trivial)); (case aO => exact q60); (case aS => exact (below_size q32)); (case aL => have := LMc18.out; omega); intro v833 w19 ho hb hg hat; rw [← Ny832.out] at ho; have n0_ := Aside0.mk (Kd.R_over' q89 (Kd.R_typed q60) (by decide) hg); have n1_ := Aside0.mk (Kd.R_over' q90 (Kd.R_typed q60) (by decide) hg); have n2_ := Aside0.mk (blk_grown (g := gb825) (o := .cells #[.int .i64 t814, .slice Ao15 y829.length co15, .int .i64 (wrap64 (1200 * t827)), .int .i64 t819, .int .i64 t820, .int .i64 t821, .slice Ao12 t822.length co12] 33 (0, 0)) q83 hg (Kd.R_ne HO_9.out BK825.out (by decide))); have n3_ := Aside0.mk (hb); have n4_ := Aside0.mk (ho); clear HO_826001; clear HO_826006; clear BK825; clear HB; clear HO_9; have HO_826001 := n0_; have HO_826006 := n1_; have BK825 := n2_; have HB := n3_; have HO834 := n4_; clear n0_ n1_ n2_ n3_ n4_; clear ho hb hg hat)); try go_wp2_with (first | ((with_reducible refine gate_builtin (b := .append) (xs := #[.tmp 32, .tmp 34]) rfl ?_); (try (refine gate_guard (by rfl) ?_; dsimp only)); at_builtin; refine Kd.R_append (Kd.int .i64) (w0 := w) w.heap.size rfl (.tmp 32) (.tmp 34) 22 3 (.int .i64 0) 8 rfl Try.underlying22 info3 rfl (by decide) (by omega) u9 x9_1 (wrap64 (100 * t826)) [.int .i64 (wrap64 (100 * t826))] (fun _ => True) (fun _ => False) rfl rfl ?aP (fun _ hk => hk.elim) ?aF ?aO ?aB ?aS ?aL ?_; (case aP => exact rfl); (case aB => exact q32); (case aF => exact (fun _ _ => trivial)); (case aO => exact q60); (case aS => exact (below_size q32)); (case aL => have := LMc18.out; omega); intro v833 w19 ho hb hg hat; rw [← Ny832.out] at ho; have n0_ := Aside0.mk (Kd.R_over' q89 (Kd.R_typed q60) (by decide) hg); have n1_ := Aside0.mk (Kd.R_over' q90 (Kd.R_typed q60) (by decide) hg); have n2_ := Aside0.mk (blk_grown (g := gb825) (o := .cells #[.int .i64 t814, .slice Ao15 y829.length co15, .int .i64 (wrap64 (1200 * t827)), .int .i64 t819, .int .i64 t820, .int .i64 t821, .slice Ao12 t822.length co12] 33 (0, 0)) q83 hg (Kd.R_ne HO_9.out BK825.out (by decide))); have n3_ := Aside0.mk (hb); have n4_ := Aside0.mk (ho); clear HO_826001; clear HO_826006; clear BK825; clear HB; clear HO_9; have HO_826001 := n0_; have HO_826006 := n1_; have BK825 := n2_; have HB := n3_; have HO834 := n4_; clear n0_ n1_ n2_ n3_ n4_; clear ho hb hg hat)))
     go_roundg k1
     case measure => have := HK1.out; omega
     case rel => exact ⟨(y832), (wrap64 (x10_1 + 1)), q26, H', ⟨by have := HK1.out; omega⟩, ⟨(by (with_reducible repeat (first | apply Kd.R_alloc | apply Kd.R_drewN | apply Kd.R_drew)); exact HO834.out)⟩, ⟨q89⟩, ⟨q90⟩, ⟨q83⟩, ⟨q32⟩⟩
    ·
     rw [if_neg c18] at H
     exact absurd H (by simp)
   ·
    rw [if_neg c17] at H
    have c17b0 : decide (x10_1 < 12) = false := decide_eq_false c17
    clear c17
    replace H := Option.bind_eq_some_iff.mp H
    obtain ⟨⟨t835, t838⟩, A200, H⟩ := H
    try dsimp only at H
    have A20 := Aside0.mk A200
    clear A200
    have HC21 := Aside0.mk H
    clear H
    have hcz22_0 : wr.cell? ⟨gb825, 0, none⟩ = some (.int .i64 t814) := (blk_cell BK825.out 0).trans rfl
    have hcz22_1 : wr.cell? ⟨gb825, 1, none⟩ = some (.slice Ao15 y829.length co15) := (blk_cell BK825.out 1).trans rfl
    have hcz22_2 : wr.cell? ⟨gb825, 2, none⟩ = some (.int .i64 (wrap64 (1200 * t827))) := (blk_cell BK825.out 2).trans rfl
    have hcz22_3 : wr.cell? ⟨gb825, 3, none⟩ = some (.int .i64 t819) := (blk_cell BK825.out 3).trans rfl
    have hcz22_4 : wr.cell? ⟨gb825, 4, none⟩ = some (.int .i64 t820) := (blk_cell BK825.out 4).trans rfl
    have hcz22_5 : wr.cell? ⟨gb825, 5, none⟩ = some (.int .i64 t821) := (blk_cell BK825.out 5).trans rfl
    have hcz22_6 : wr.cell? ⟨gb825, 6, none⟩ = some (.slice Ao12 t822.length co12) := (blk_cell BK825.out 6).trans rfl
    have hfz22_0 := blk_frozen BK825.out 0
    have hfz22_1 := blk_frozen BK825.out 1
    have hfz22_2 := blk_frozen BK825.out 2
    have hfz22_3 := blk_frozen BK825.out 3
    have hfz22_4 := blk_frozen BK825.out 4
    have hfz22_5 := blk_frozen BK825.out 5
    have hfz22_6 := blk_frozen BK825.out 6
    obtain ⟨Ao23, co23, eo23⟩ := Kd.R_slice HO_9.out
    subst eo23
    go_upto_region 11 with (first | (go_at_call 31; (with_reducible refine (withholding_Year.calls k1 t814 _ _ y829 (wrap64 (1200 * t827)) t819 t820 t821 _ _ t822 12 _ _ x9_1 t835 t838 _ ?side1 ?side2 ?side3 ?side4 ?side5 ?side6 A20.out).mono ?_); (case side1 => exact (by repeat (first | exact (Kd.R_reads' HO_826001.out).2.2 | (with_reducible refine Kd.C_alloc ?_ _) | (with_reducible refine Kd.C_drewN ?_ _) | (with_reducible refine Kd.C_drew ?_)))); (case side2 => exact (Kd.R_reads' HO_826001.out).2.1); (case side3 => exact (by repeat (first | exact (Kd.R_reads' HO_826006.out).2.2 | (with_reducible refine Kd.C_alloc ?_ _) | (with_reducible refine Kd.C_drewN ?_ _) | (with_reducible refine Kd.C_drew ?_)))); (case side4 => exact (Kd.R_reads' HO_826006.out).2.1); (case side5 => exact (by repeat (first | exact (Kd.R_reads' HO_9.out).2.2 | (with_reducible refine Kd.C_alloc ?_ _) | (with_reducible refine Kd.C_drewN ?_ _) | (with_reducible refine Kd.C_drew ?_)))); (case side6 => exact (Kd.R_reads' HO_9.out).2.1); rintro e w24 ⟨v836, rfl, ho0, hb⟩; have n0_ := Aside0.mk (Kd.R_elder' q60 (Kd.R_base ho0) hb); have n1_ := Aside0.mk (Kd.R_below q89 hb); have n2_ := Aside0.mk (Kd.R_below q90 hb); have n3_ := Aside0.mk (Kd.R_lower (Kd.R_new' ho0 (Kd.R_lt q60)) (below_size q32)); have n4_ := Aside0.mk (blk_below (g := gb825) (o := .cells #[.int .i64 t814, .slice Ao15 y829.length co15, .int .i64 (wrap64 (1200 * t827)), .int .i64 t819, .int .i64 t820, .int .i64 t821, .slice Ao12 t822.length co12] 33 (0, 0)) q83 hb); have n5_ := Aside0.mk (below_step q32 hb); clear HO_9; clear HO_826001; clear HO_826006; clear BK825; clear HB; have HO_9 := n0_; have HO_826001 := n1_; have HO_826006 := n2_; have HO837 := n3_; have BK825 := n4_; have HB := n5_; clear n0_ n1_ n2_ n3_ n4_ n5_; (try clear hb); (try clear hb2); (try clear hk); (try clear hi); (try clear ho0)))
    repeat (go_quiet (first | (go_at_call 31; (with_reducible refine (withholding_Year.calls k1 t814 _ _ y829 (wrap64 (1200 * t827)) t819 t820 t821 _ _ t822 12 _ _ x9_1 t835 t838 _ ?side1 ?side2 ?side3 ?side4 ?side5 ?side6 A20.out).mono ?_); (case side1 => exact (by repeat (first | exact (Kd.R_reads' HO_826001.out).2.2 | (with_reducible refine Kd.C_alloc ?_ _) | (with_reducible refine Kd.C_drewN ?_ _) | (with_reducible refine Kd.C_drew ?_)))); (case side2 => exact (Kd.R_reads' HO_826001.out).2.1); (case side3 => exact (by repeat (first | exact (Kd.R_reads' HO_826006.out).2.2 | (with_reducible refine Kd.C_alloc ?_ _) | (with_reducible refine Kd.C_drewN ?_ _) | (with_reducible refine Kd.C_drew ?_)))); (case side4 => exact (Kd.R_reads' HO_826006.out).2.1); (case side5 => exact (by repeat (first | exact (Kd.R_reads' HO_9.out).2.2 | (with_reducible refine Kd.C_alloc ?_ _) | (with_reducible refine Kd.C_drewN ?_ _) | (with_reducible refine Kd.C_drew ?_)))); (case side6 => exact (Kd.R_reads' HO_9.out).2.1); rintro e w24 ⟨v836, rfl, ho0, hb⟩; have n0_ := Aside0.mk (Kd.R_elder' q60 (Kd.R_base ho0) hb); have n1_ := Aside0.mk (Kd.R_below q89 hb); have n2_ := Aside0.mk (Kd.R_below q90 hb); have n3_ := Aside0.mk (Kd.R_lower (Kd.R_new' ho0 (Kd.R_lt q60)) (below_size q32)); have n4_ := Aside0.mk (blk_below (g := gb825) (o := .cells #[.int .i64 t814, .slice Ao15 y829.length co15, .int .i64 (wrap64 (1200 * t827)), .int .i64 t819, .int .i64 t820, .int .i64 t821, .slice Ao12 t822.length co12] 33 (0, 0)) q83 hb); have n5_ := Aside0.mk (below_step q32 hb); clear HO_9; clear HO_826001; clear HO_826006; clear BK825; clear HB; have HO_9 := n0_; have HO_826001 := n1_; have HO_826006 := n2_; have HO837 := n3_; have BK825 := n4_; have HB := n5_; clear n0_ n1_ n2_ n3_ n4_ n5_; (try clear hb); (try clear hb2); (try clear hk); (try clear hi); (try clear ho0))); go_upto_region 11 with (first | (go_at_call 31; (with_reducible refine (withholding_Year.calls k1 t814 _ _ y829 (wrap64 (1200 * t827)) t819 t820 t821 _ _ t822 12 _ _ x9_1 t835 t838 _ ?side1 ?side2 ?side3 ?side4 ?side5 ?side6 A20.out).mono ?_); (case side1 => exact (by repeat (first | exact (Kd.R_reads' HO_826001.out).2.2 | (with_reducible refine Kd.C_alloc ?_ _) | (with_reducible refine Kd.C_drewN ?_ _) | (with_reducible refine Kd.C_drew ?_)))); (case side2 => exact (Kd.R_reads' HO_826001.out).2.1); (case side3 => exact (by repeat (first | exact (Kd.R_reads' HO_826006.out).2.2 | (with_reducible refine Kd.C_alloc ?_ _) | (with_reducible refine Kd.C_drewN ?_ _) | (with_reducible refine Kd.C_drew ?_)))); (case side4 => exact (Kd.R_reads' HO_826006.out).2.1); (case side5 => exact (by repeat (first | exact (Kd.R_reads' HO_9.out).2.2 | (with_reducible refine Kd.C_alloc ?_ _) | (with_reducible refine Kd.C_drewN ?_ _) | (with_reducible refine Kd.C_drew ?_)))); (case side6 => exact (Kd.R_reads' HO_9.out).2.1); rintro e w24 ⟨v836, rfl, ho0, hb⟩; have n0_ := Aside0.mk (Kd.R_elder' q60 (Kd.R_base ho0) hb); have n1_ := Aside0.mk (Kd.R_below q89 hb); have n2_ := Aside0.mk (Kd.R_below q90 hb); have n3_ := Aside0.mk (Kd.R_lower (Kd.R_new' ho0 (Kd.R_lt q60)) (below_size q32)); have n4_ := Aside0.mk (blk_below (g := gb825) (o := .cells #[.int .i64 t814, .slice Ao15 y829.length co15, .int .i64 (wrap64 (1200 * t827)), .int .i64 t819, .int .i64 t820, .int .i64 t821, .slice Ao12 t822.length co12] 33 (0, 0)) q83 hb); have n5_ := Aside0.mk (below_step q32 hb); clear HO_9; clear HO_826001; clear HO_826006; clear BK825; clear HB; have HO_9 := n0_; have HO_826001 := n1_; have HO_826006 := n2_; have HO837 := n3_; have BK825 := n4_; have HB := n5_; clear n0_ n1_ n2_ n3_ n4_ n5_; (try clear hb); (try clear hb2); (try clear hk); (try clear hi); (try clear ho0))))
    (try simp only [Act.put, List.setIfInBounds_toArray, List.set_cons_zero, List.set_cons_succ])
    go_cut [48] (fun v48 wc => ∃ (kq : Nat) (x48_20 : Bool), v48 = .bool x48_20 ∧ Aside0 (payrolllaw30_WithholdingEven.j1 kq t835 x48_20 = some r) ∧ Aside0 (kq ≤ k1) ∧ Aside0 (Kd.R (Kd.int .i64) 3 wc w.heap.size (fun _ => True) v836 t835) ∧ Aside0 (Kd.R k58 58 wc w.heap.size (fun _ => True) (.slice Ao15 y829.length co15) y829) ∧ Aside0 (Kd.R k80 80 wc w.heap.size (fun _ => True) (.slice Ao12 t822.length co12) t822) ∧ Aside0 (wc.heap[gb825]? = some (.cells #[.int .i64 t814, (.slice Ao15 y829.length co15), .int .i64 (wrap64 (1200 * t827)), .int .i64 t819, .int .i64 t820, .int .i64 t821, (.slice Ao12 t822.length co12)] 33 (0, 0))) ∧ Aside0 (Below w.heap.size w wc))
    case first =>
     have H := HC21.out
     clear HC21
     by_cases c25 : t838 = 0
     ·
      rw [if_pos c25] at H
      have c25b0 : (t838 == 0) = true := beq_iff_eq.mpr c25
      have c25b1 : (t838 != 0) = false := bne_eq_false_iff_eq.mpr c25
      clear c25
      (first | rw [c25b0] | (simp only [i64_w, i32_w]; rw [c25b0]) | skip)
      have H' := Aside0.mk H
      clear H
      obtain ⟨Ao26, co26, eo26⟩ := Kd.R_slice HO837.out
      subst eo26
      go_wp2
      repeat (go_quiet (fail); try go_wp2)
      go_meet
      case rel => exact ⟨_, (((t835.length : Int) != 12)), q26, H', ⟨by have := HK1.out; first | omega | exact Nat.le_refl _⟩, ⟨by (with_reducible repeat (first | apply Kd.R_alloc | apply Kd.R_drewN | apply Kd.R_drew)); exact Kd.R_mono HO837.out (fun _ hk => trivial)⟩, ⟨q89⟩, ⟨q90⟩, ⟨q83⟩, ⟨q32⟩⟩
     ·
      rw [if_neg c25] at H
      have c25b0 : (t838 == 0) = false := beq_eq_false_iff_ne.mpr c25
      have c25b1 : (t838 != 0) = true := bne_iff_ne.mpr c25
      (first | rw [c25b0] | (simp only [i64_w, i32_w]; rw [c25b0]) | skip)
      have H' := Aside0.mk H
      clear H
      go_wp2
      repeat (go_quiet (fail); try go_wp2)
      go_meet
      case rel => exact ⟨_, (true), q26, H', ⟨by have := HK1.out; first | omega | exact Nat.le_refl _⟩, ⟨by (with_reducible repeat (first | apply Kd.R_alloc | apply Kd.R_drewN | apply Kd.R_drew)); exact Kd.R_mono HO837.out (fun _ hk => trivial)⟩, ⟨q89⟩, ⟨q90⟩, ⟨q83⟩, ⟨q32⟩⟩
    case rest =>
     clear HC21
     try clear c1
     try clear c2
     try clear p2
     try clear p6
     try clear c10
     try clear c17
     try clear c17b0
     try clear c18
     try clear c25
     try clear c25b0
     try clear c25b1
     try clear hcz10_0
     try clear hcz10_1
     try clear hcz10_2
     try clear hcz10_3
     try clear hcz10_4
     try clear hcz10_5
     try clear hcz10_6
     try clear hcz16_0
     try clear hcz16_1
     try clear hcz16_2
     try clear hcz16_3
     try clear hcz16_4
     try clear hcz16_5
     try clear hcz16_6
     try clear hcz22_0
     try clear hcz22_1
     try clear hcz22_2
     try clear hcz22_3
     try clear hcz22_4
     try clear hcz22_5
     try clear hcz22_6
     try clear hfz10_0
     try clear hfz10_1
     try clear hfz10_2
     try clear hfz10_3
     try clear hfz10_4
     try clear hfz10_5
     try clear hfz10_6
     try clear hfz16_0
     try clear hfz16_1
     try clear hfz16_2
     try clear hfz16_3
     try clear hfz16_4
     try clear hfz16_5
     try clear hfz16_6
     try clear hfz22_0
     try clear hfz22_1
     try clear hfz22_2
     try clear hfz22_3
     try clear hfz22_4
     try clear hfz22_5
     try clear hfz22_6
     try clear p2
     try clear p6
     obtain ⟨kq, x48_20, rfl, HA, HJ20, HO_11, HO_826001, HO_826006, BK825, HB⟩ := hcut
     cases kq with
     | zero => exact absurd HA.out (by simp [payrolllaw30_WithholdingEven.j1])
     | succ kj20 =>
      have H := HA.out
      clear HA
      simp only [payrolllaw30_WithholdingEven.j1] at H
      by_cases c27 : x48_20 = true
      ·
       subst c27
       have H1 : (some false) = some r := by rw [if_pos rfl] at H; exact H
       clear H
       have H := H1
       clear H1
       obtain rfl := Option.some.inj H
       go_wp2
       repeat (go_quiet (fail); try go_wp2)
       go_ret
       exact ⟨by first | rfl | (simp [errW_none, errW_some] <;> rfl) | (simp [*, errW_none, errW_some] <;> rfl), q32⟩
      ·
       replace c27 := Bool.eq_false_iff.mpr c27
       subst c27
       have H1 : (payrolllaw30_WithholdingEven.l1 kj20 t835 0) = some r := by rw [if_neg (show ¬ (false = true) by decide)] at H; exact H
       clear H
       have H := H1
       clear H1
       have H' := Aside0.mk H
       clear H
       go_wp2
       repeat (go_quiet (fail); try go_wp2)
       go_loopg [13] kj20 (fun kq v13 w' => ∃ (x13_3 : Int), v13 = .int .i64 x13_3 ∧ Aside0 (payrolllaw30_WithholdingEven.l1 kq t835 x13_3 = some r) ∧ Aside0 (kq ≤ kj20) ∧ Aside0 (Kd.R (Kd.int .i64) 3 w' w.heap.size (fun _ => True) v836 t835) ∧ Aside0 (Kd.R k58 58 w' w.heap.size (fun _ => True) (.slice Ao15 y829.length co15) y829) ∧ Aside0 (Kd.R k80 80 w' w.heap.size (fun _ => True) (.slice Ao12 t822.length co12) t822) ∧ Aside0 (w'.heap[gb825]? = some (.cells #[.int .i64 t814, (.slice Ao15 y829.length co15), .int .i64 (wrap64 (1200 * t827)), .int .i64 t819, .int .i64 t820, .int .i64 t821, (.slice Ao12 t822.length co12)] 33 (0, 0))) ∧ Aside0 (Below w.heap.size w w'))
       case atStart => exact ⟨(0), q26, H', ⟨Nat.le_refl _⟩, ⟨q129⟩, ⟨q89⟩, ⟨q90⟩, ⟨q83⟩, ⟨q32⟩⟩
       case round =>
        clear H'
        try clear c1
        try clear c2
        try clear p2
        try clear p6
        try clear c10
        try clear c17
        try clear c17b0
        try clear c18
        try clear c25
        try clear c25b0
        try clear c25b1
        try clear c27
        try clear hcz10_0
        try clear hcz10_1
        try clear hcz10_2
        try clear hcz10_3
        try clear hcz10_4
        try clear hcz10_5
        try clear hcz10_6
        try clear hcz16_0
        try clear hcz16_1
        try clear hcz16_2
        try clear hcz16_3
        try clear hcz16_4
        try clear hcz16_5
        try clear hcz16_6
        try clear hcz22_0
        try clear hcz22_1
        try clear hcz22_2
        try clear hcz22_3
        try clear hcz22_4
        try clear hcz22_5
        try clear hcz22_6
        try clear hfz10_0
        try clear hfz10_1
        try clear hfz10_2
        try clear hfz10_3
        try clear hfz10_4
        try clear hfz10_5
        try clear hfz10_6
        try clear hfz16_0
        try clear hfz16_1
        try clear hfz16_2
        try clear hfz16_3
        try clear hfz16_4
        try clear hfz16_5
        try clear hfz16_6
        try clear hfz22_0
        try clear hfz22_1
        try clear hfz22_2
        try clear hfz22_3
        try clear hfz22_4
        try clear hfz22_5
        try clear hfz22_6
        try clear p2
        try clear p6
        obtain ⟨x13_3, rfl, HA, HK3, HO_11, HO_826001, HO_826006, BK825, HB⟩ := hrel
        cases gk with
        | zero => exact absurd HA.out (by simp [payrolllaw30_WithholdingEven.l1])
        | succ k3 =>
         have H := HA.out
         clear HA
         simp only [payrolllaw30_WithholdingEven.l1] at H
         by_cases c28 : x13_3 < 12
         ·
          rw [if_pos c28] at H
          have c28b0 : decide (x13_3 < 12) = true := decide_eq_true c28
          clear c28
          by_cases c29 : 0 ≤ x13_3
          ·
           rw [if_pos c29] at H
           have c29b0 : decide (0 ≤ x13_3) = true := decide_eq_true c29
           clear c29
           by_cases c30 : x13_3 < (t835.length : Int)
           ·
            rw [if_pos c30] at H
            have c30b0 : decide (x13_3 < (t835.length : Int)) = true := decide_eq_true c30
            clear c30
            by_cases c31 : 0 < (t835.length : Int)
            ·
             rw [if_pos c31] at H
             have c31b0 : decide (0 < (t835.length : Int)) = true := decide_eq_true c31
             have c31b1 : decide (0 < t835.length) = true := decide_eq_true (by omega)
             clear c31
             by_cases c32 : (rd t835 x13_3) = (rd t835 0)
             ·
              rw [if_pos c32] at H
              have c32b0 : ((rd t835 x13_3) == (rd t835 0)) = true := beq_iff_eq.mpr c32
              have c32b1 : ((rd t835 x13_3) != (rd t835 0)) = false := bne_eq_false_iff_eq.mpr c32
              clear c32
              have H' := Aside0.mk H
              clear H
              obtain ⟨Ao33, co33, eo33⟩ := Kd.R_slice HO_11.out
              subst eo33
              have p839 : 0 ≤ (x13_3 : Int) := of_decide_eq_true q6
              have q839 : x13_3 < (t835.length : Int) := of_decide_eq_true q6
              obtain ⟨ad839, e839, hx839_0⟩ := Kd.at_int (Kd.R_reads' HO_11.out).2.2 x13_3 p839 q839
              cases e839
              replace p839 := eq_true p839
              replace q839 := eq_true q839
              have p840 : 0 ≤ (0 : Int) := (by omega)
              have q840 : 0 < (t835.length : Int) := of_decide_eq_true q6
              obtain ⟨ad840, e840, hx840_0⟩ := Kd.at_int (Kd.R_reads' HO_11.out).2.2 0 p840 q840
              obtain rfl : ad839 = ad840 := (by injection e840)
              have qi840 : (0 < t835.length) = True := eq_true (by omega)
              (try rw [show ((0 : Int)).toNat = 0 from rfl] at hx840_0)
              (try rw [Addr.add_zero'] at hx840_0)
              replace p840 := eq_true p840
              replace q840 := eq_true q840
              go_wp2
              repeat (go_quiet (fail); try go_wp2)
              go_roundg k3
              case measure => have := HK1.out; have := HJ20.out; have := HK3.out; omega
              case rel => exact ⟨(wrap64 (x13_3 + 1)), q26, H', ⟨by have := HK1.out; have := HJ20.out; have := HK3.out; omega⟩, ⟨q129⟩, ⟨q89⟩, ⟨q90⟩, ⟨q83⟩, ⟨q32⟩⟩
             ·
              rw [if_neg c32] at H
              have c32b0 : ((rd t835 x13_3) == (rd t835 0)) = false := beq_eq_false_iff_ne.mpr c32
              have c32b1 : ((rd t835 x13_3) != (rd t835 0)) = true := bne_iff_ne.mpr c32
              exact absurd (Option.some.inj H) (by rw [HT.out]; decide)
            ·
             rw [if_neg c31] at H
             exact absurd H (by simp)
           ·
            rw [if_neg c30] at H
            exact absurd H (by simp)
          ·
           rw [if_neg c29] at H
           exact absurd H (by simp)
         ·
          rw [if_neg c28] at H
          have c28b0 : decide (x13_3 < 12) = false := decide_eq_false c28
          clear c28
          replace H := Option.bind_eq_some_iff.mp H
          obtain ⟨t841, A350, H⟩ := H
          replace H : (some t841) = some r := H
          have A35 := Aside0.mk A350
          clear A350
          obtain rfl := Option.some.inj H
          exact (by go_wp2_with (first | (go_at_call 12; (with_reducible refine (payrolllaw30_awake.calls k3  t841 _ A35.out).mono ?_); rintro e w_1 ⟨rfl, hb⟩; have n0_ := Aside0.mk (Kd.R_below q129 hb); have n1_ := Aside0.mk (Kd.R_below q89 hb); have n2_ := Aside0.mk (Kd.R_below q90 hb); have n3_ := Aside0.mk (blk_below (g := gb825) (o := .cells #[.int .i64 t814, .slice Ao15 y829.length co15, .int .i64 (wrap64 (1200 * t827)), .int .i64 t819, .int .i64 t820, .int .i64 t821, .slice Ao12 t822.length co12] 33 (0, 0)) q83 hb); have n4_ := Aside0.mk (below_step q32 hb); clear HO_11; clear HO_826001; clear HO_826006; clear BK825; clear HB; have HO_11 := n0_; have HO_826001 := n1_; have HO_826006 := n2_; have BK825 := n3_; have HB := n4_; clear n0_ n1_ n2_ n3_ n4_; (try clear hb); (try clear hb2); (try clear hk); (try clear hi))); (repeat (go_quiet (first | (go_at_call 12; (with_reducible refine (payrolllaw30_awake.calls k3  t841 _ A35.out).mono ?_); rintro e w_1 ⟨rfl, hb⟩; have n0_ := Aside0.mk (Kd.R_below q129 hb); have n1_ := Aside0.mk (Kd.R_below q89 hb); have n2_ := Aside0.mk (Kd.R_below q90 hb); have n3_ := Aside0.mk (blk_below (g := gb825) (o := .cells #[.int .i64 t814, .slice Ao15 y829.length co15, .int .i64 (wrap64 (1200 * t827)), .int .i64 t819, .int .i64 t820, .int .i64 t821, .slice Ao12 t822.length co12] 33 (0, 0)) q83 hb); have n4_ := Aside0.mk (below_step q32 hb); clear HO_11; clear HO_826001; clear HO_826006; clear BK825; clear HB; have HO_11 := n0_; have HO_826001 := n1_; have HO_826006 := n2_; have BK825 := n3_; have HB := n4_; clear n0_ n1_ n2_ n3_ n4_; (try clear hb); (try clear hb2); (try clear hk); (try clear hi))); try go_wp2_with (first | (go_at_call 12; (with_reducible refine (payrolllaw30_awake.calls k3  t841 _ A35.out).mono ?_); rintro e w_1 ⟨rfl, hb⟩; have n0_ := Aside0.mk (Kd.R_below q129 hb); have n1_ := Aside0.mk (Kd.R_below q89 hb); have n2_ := Aside0.mk (Kd.R_below q90 hb); have n3_ := Aside0.mk (blk_below (g := gb825) (o := .cells #[.int .i64 t814, .slice Ao15 y829.length co15, .int .i64 (wrap64 (1200 * t827)), .int .i64 t819, .int .i64 t820, .int .i64 t821, .slice Ao12 t822.length co12] 33 (0, 0)) q83 hb); have n4_ := Aside0.mk (below_step q32 hb); clear HO_11; clear HO_826001; clear HO_826006; clear BK825; clear HB; have HO_11 := n0_; have HO_826001 := n1_; have HO_826006 := n2_; have BK825 := n3_; have HB := n4_; clear n0_ n1_ n2_ n3_ n4_; (try clear hb); (try clear hb2); (try clear hk); (try clear hi))))); go_ret; exact ⟨by first | rfl | (simp [errW_none, errW_some] <;> rfl) | (simp [*, errW_none, errW_some] <;> rfl), q32⟩)

/-- THE ONE PURE STATEMENT of payrolllaw30_WithholdingEven: yours. -/
def payrolllaw30_WithholdingEven.Pure : Prop := ∀ (a0 : Int) (a1 : Int) (a2 : Int), (Lit.int .i64 a0).wf = true → (Lit.int .i64 a1).wf = true → (Lit.int .i64 a2).wf = true → ∃ k, payrolllaw30_WithholdingEven.f k a0 a1 a2 = some true
theorem payrolllaw30_WithholdingEven.walk (P : payrolllaw30_WithholdingEven.Pure) (a0 : Int) (a1 : Int) (a2 : Int) (w : World) (w0 : (Lit.int .i64 a0).wf = true) (w1 : (Lit.int .i64 a1).wf = true) (w2 : (Lit.int .i64 a2).wf = true) :
  Calls Try.prog 10 #[.int .i64 a0, .int .i64 a1, .int .i64 a2] w fun e w' => e = .returned (.bool true) ∧ Below w.heap.size w w' := by
 obtain ⟨k, h⟩ := P a0 a1 a2 w0 w1 w2
 refine (payrolllaw30_WithholdingEven.calls k a0 a1 a2 true w h rfl).mono ?_
 rintro e w' ⟨rfl, hd⟩
 exact ⟨rfl, hd⟩

end Go.Proofs.Ytbacfajhgmnjpaa.P
