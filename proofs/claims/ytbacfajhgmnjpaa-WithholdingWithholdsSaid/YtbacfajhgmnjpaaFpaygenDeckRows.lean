/- Proved here: that the Go function paygen_Deck_Rows computes the plain function of that name (the machine side of the laws, reworked from a print; no condition of its own). -/
import Derived.Test.YtbacfajhgmnjpaaProg
import Derived.Test.YtbacfajhgmnjpaaV1
import Derived.Test.YtbacfajhgmnjpaaV2
import Derived.Test.YtbacfajhgmnjpaaV3
import Derived.Test.YtbacfajhgmnjpaaFPRE
import Derived.Test.YtbacfajhgmnjpaaFpaygen
namespace Go.Proofs.Ytbacfajhgmnjpaa.P
open Go.RowKit Go.Proofs.YtbacfajhgmnjpaaW.PrintWords Go.Proofs.YtbacfajhgmnjpaaW.PrintLast Go.Proofs.YtbacfajhgmnjpaaW.PrintMore
attribute [local go_sem] max2_int min2_int max_two min_two max_three min_three max_four min_four   -- for this text's walks alone
set_option linter.unusedVariables false
set_option linter.unusedSimpArgs false

def paygen_Deck_Rows.l0 : Nat → List (S80) → Int → List Int → Int → Option ((List (S80)) × Int)
 | 0, _, _, _, _ => none
 | k + 1, x3, x4, x1000, x1001 => if x4 > 0 then (if 0 ≤ (wrap64 ((x3.length : Int) - 1)) then (if (wrap64 ((x3.length : Int) - 1)) < (x3.length : Int) then ((paygen_Deck_Next.f x1000 x1001 100000).bind fun bt290 => ((paygen_Deck_Next.f x1000 bt290.2 20000).bind fun bt292 => (if x3.length < 8796093022208 then (paygen_Deck_Rows.l0 k (x3 ++ [(⟨wrap64 ((wrap64 (((rd_T80 x3 (wrap64 ((x3.length : Int) - 1))).f0) + 1)) + bt290.1), wrap64 (((rd_T80 x3 (wrap64 ((x3.length : Int) - 1))).f1) + bt292.1)⟩ : S80)]) (wrap64 (x4 - 1)) x1000 bt292.2) else (none)))) else (none)) else (none)) else (some (x3, x1001))
def paygen_Deck_Rows.f (k : Nat) (s0_0 : List Int) (s0_1 : Int) : Option ((List (S80)) × Int) := (paygen_Deck_Pick.f s0_0 s0_1 (([0, 0, 100] : List Int))).bind fun bt281 => ((paygen_Deck_Next.f s0_0 bt281.2 5).bind fun bt286 => (paygen_Deck_Rows.l0 k (([(⟨0, bt281.1⟩ : S80)] : List (S80))) bt286.1 s0_0 bt286.2))
def paygen_Deck_Rows.T6 : Bool × List (List Nat × List Nat) := (true, [([], []), ([], []), ([1], [1]), ([2], [2]), ([], []), ([4], [4]), ([3, 5], [3, 5]), ([], []), ([7], [7]), ([], []), ([9, 5], [9]), ([8, 10], [8, 10]), ([6, 11], [6, 11]), ([12], [12]), ([0, 13, 10], [0, 13]), ([14, 14, 0, 1, 2, 3, 4, 5, 6, 7, 8, 9, 10, 11, 12, 13, 14], [0, 14])])
def paygen_Deck_Rows.B6 : List Nat := [0, 0, 2, 6, 0, 16, 62, 0, 128, 0, 560, 1968, 4094, 8190, 16383, 32767]
theorem paygen_Deck_Rows.tab6 : rtab .any (opsOf Try.f38 6) = paygen_Deck_Rows.T6 := by kernel_rfl
theorem paygen_Deck_Rows.bits6 : waitsOk paygen_Deck_Rows.T6.2 paygen_Deck_Rows.B6 = true := by kernel_rfl
set_option maxHeartbeats 8000000 in
set_option maxRecDepth 100000 in
theorem paygen_Deck_Rows.calls (k : Nat) (g : Nat) (s0_0 : List Int) (s0_1 : Int) (r1 : List (S80)) (r2 : Int) (w0 w : World) (hI : IsS63 w0 w g s0_0 s0_1) (hB : Below w0.heap.size w0 w) (h : paygen_Deck_Rows.f k s0_0 s0_1 = some (r1, r2)) :
  Calls Try.prog 38 #[.pointer (some ⟨g, 0, none⟩)] w fun e w' => ∃ v0_ : Value, e = .returned (v0_) ∧ Kd.R k80 80 w' w.heap.size (fun _ => True) v0_ r1 ∧ IsS63 w0 w' g s0_0 r2 ∧ Below w0.heap.size w0 w' ∧ KeepBut w w' g none := by
 have hu80 := Try.underlying80
 have HI0 := Aside0.mk hI
 have HK := Aside0.mk (KeepBut.refl w g none)
 have HL := Aside0.mk hB.size
 clear hI
 have HW0 := Aside0.mk hB.size
 have HB := Aside0.mk hB
 clear hB
 have H : ((paygen_Deck_Pick.f s0_0 s0_1 (([0, 0, 100] : List Int))).bind fun bt281 => ((paygen_Deck_Next.f s0_0 bt281.2 5).bind fun bt286 => (paygen_Deck_Rows.l0 k (([(⟨0, bt281.1⟩ : S80)] : List (S80))) bt286.1 s0_0 bt286.2))) = some (r1, r2) := h
 clear h
 obtain ⟨y278, hy278⟩ : ∃ y_ : List Int, y_ = (([0, 0, 100] : List Int)) := ⟨_, rfl⟩
 replace H : ((paygen_Deck_Pick.f s0_0 s0_1 y278).bind fun bt281 => ((paygen_Deck_Next.f s0_0 bt281.2 5).bind fun bt286 => (paygen_Deck_Rows.l0 k (([(⟨0, bt281.1⟩ : S80)] : List (S80))) bt286.1 s0_0 bt286.2))) = some (r1, r2) := by first | (rw [hy278]; with_reducible exact H) | (have H2_ := (Option.bind_some _ _).symm.trans H; rw [hy278]; with_reducible exact H2_) | (have H2_ := (Option.bind_some _ _).symm.trans H; with_reducible exact H2_) | with_reducible exact H | (rw [hy278]; exact H) | exact H
 have Ny278 := Aside0.mk hy278
 clear hy278
 replace H := Option.bind_eq_some_iff.mp H
 obtain ⟨⟨t281, t282⟩, A20, H⟩ := H
 try dsimp only at H
 have A2 := Aside0.mk A20
 clear A20
 obtain ⟨y283, hy283⟩ : ∃ y_ : List (S80), y_ = (([(⟨0, t281⟩ : S80)] : List (S80))) := ⟨_, rfl⟩
 replace H : ((paygen_Deck_Next.f s0_0 t282 5).bind fun bt286 => (paygen_Deck_Rows.l0 k y283 bt286.1 s0_0 bt286.2)) = some (r1, r2) := by first | (rw [hy283]; with_reducible exact H) | (have H2_ := (Option.bind_some _ _).symm.trans H; rw [hy283]; with_reducible exact H2_) | (have H2_ := (Option.bind_some _ _).symm.trans H; with_reducible exact H2_) | with_reducible exact H | (rw [hy283]; exact H) | exact H
 have Ny283 := Aside0.mk hy283
 clear hy283
 replace H := Option.bind_eq_some_iff.mp H
 obtain ⟨⟨t286, t287⟩, A30, H⟩ := H
 try dsimp only at H
 have A3 := Aside0.mk A30
 clear A30
 have H' := Aside0.mk H
 clear H
 go_enter Try.func38, Try.ntmps38
 go_wp2_with (first | ((with_reducible refine gate_dst (N := 7) rfl ?_); refine Kd.R_lit (Kd.int .i64) _ 3 ?hg (N := 7) ?hd (xs := ([0, 0, 100] : List Int)) (inner := [.int .i64 0, .int .i64 0, .int .i64 100]) (ok := fun _ => True) (okp := fun _ => True) ?hr ?hp (fun _ hk => hk) trivial (Below.refl _ _) (Nat.le_refl _) (by simp) ?_; (case hd => rfl); (case hg => rfl); (case hr => first | (go_simp; done) | (go_simp; rfl)); (case hp => exact (Reps.one (show Kd.M (Kd.int .i64) _ _ _ 0 [.int .i64 0] from rfl) (Reps.one (show Kd.M (Kd.int .i64) _ _ _ 0 [.int .i64 0] from rfl) (Reps.one (show Kd.M (Kd.int .i64) _ _ _ 100 [.int .i64 100] from rfl) (Reps.none _ _))))); intro v279 w4 ho5 hb hg_ hnew_; clear hg_ hnew_; (first | rw [← Ny278.out] at ho5 | (simp only [Int.reduceToNat] at ho5; rw [← Ny278.out] at ho5)); have n0_ := Aside0.mk (Kd.R_lower ho5 (keep_size (w := w) (g := g) (row := none) q5)); have n1_ := Aside0.mk (IsS63.below q3 hb); have n2_ := Aside0.mk (KeepBut.trans q5 (KeepBut.of_below hb g none) (.inl rfl)); have n3_ := Aside0.mk (below_step q7 hb); clear HI0; clear HK; clear HB; have HO280 := n0_; have HI0 := n1_; have HK := n2_; have HB := n3_; clear n0_ n1_ n2_ n3_; clear hb ho5; obtain ⟨Ao6, co6, eo6⟩ := Kd.R_slice HO280.out; subst eo6) | ((with_reducible refine gate_callee (f := 15) rfl ?_); refine goesL_ (some 8) rfl rfl Try.func15 (by kernel_rfl) rfl #[.pointer (some ⟨g, 0, none⟩), .slice Ao6 y278.length co6] rfl q1 ?_; (with_reducible refine (paygen_Deck_Pick.calls g s0_0 s0_1 _ _ y278 t281 t282 w0 _ ?side1 ?side2 ?side3 ?side4 ?side5 A2.out).mono ?_); (case side1 => exact q3); (case side2 => exact q7); (case side3 => exact (by repeat (first | exact (Kd.R_reads' HO280.out).2.2 | (with_reducible refine Kd.C_alloc ?_ _) | (with_reducible refine Kd.C_drewN ?_ _) | (with_reducible refine Kd.C_drew ?_)))); (case side4 => exact (Kd.R_reads' HO280.out).2.1); (case side5 => exact far_slice (IsS63.own_ne HI0.out HO280.out (by decide))); rintro e w7 ⟨rfl, hi, hb, hk⟩; refine ⟨_, rfl, ?_⟩; have n0_ := Aside0.mk (Kd.R_mono (Kd.R_keep (IsS63.apart (show IsS63 w0 _ g s0_0 s0_1 from q3) (by (with_reducible repeat (first | apply Kd.R_alloc | apply Kd.R_drewN | apply Kd.R_drew)); exact HO280.out) (by decide)) hk (fun _ h => h.2)) (fun _ h => h.1)); have n1_ := Aside0.mk (KeepBut.trans q5 hk (.inl rfl)); have n2_ := Aside0.mk (hb); have n3_ := Aside0.mk (hi); clear HO280; clear HK; clear HB; clear HI0; have HO280 := n0_; have HK := n1_; have HB := n2_; have HI0 := n3_; clear n0_ n1_ n2_ n3_; (try clear hb); (try clear hb2); (try clear hk); (try clear hi)) | ((with_reducible refine gate_dst (N := 10) rfl ?_); refine Kd.R_lit k80 _ 80 ?hg (N := 10) ?hd (xs := ([(⟨0, t281⟩ : S80)] : List (S80))) (inner := [.int .i64 0, .int .i64 t281]) (ok := fun _ => True) (okp := fun _ => True) ?hr ?hp (fun _ hk => hk) trivial (Below.refl _ _) (Nat.le_refl _) (by simp) ?_; (case hd => rfl); (case hg => rfl); (case hr => first | (go_simp; done) | (go_simp; rfl)); (case hp => exact (Reps.c2 (show Kd.M k80 _ _ _ (⟨0, t281⟩ : S80) [.int .i64 0, .int .i64 t281] from (k80_mkM _ _ _ (⟨0, t281⟩ : S80) )) (Reps.none _ _))); intro v284 w8 ho9 hb hg_ hnew_; clear hg_ hnew_; (first | rw [← Ny283.out] at ho9 | (simp only [Int.reduceToNat] at ho9; rw [← Ny283.out] at ho9)); have n0_ := Aside0.mk (Kd.R_below (by (with_reducible repeat (first | apply Kd.R_alloc | apply Kd.R_drewN | apply Kd.R_drew)); exact HO280.out) hb); have n1_ := Aside0.mk (Kd.R_lower ho9 (keep_size (w := w) (g := g) (row := none) q5)); have n2_ := Aside0.mk (IsS63.below q3 hb); have n3_ := Aside0.mk (KeepBut.trans q5 (KeepBut.of_below hb g none) (.inl rfl)); have n4_ := Aside0.mk (below_step q7 hb); clear HO280; clear HI0; clear HK; clear HB; have HO280 := n0_; have HO285 := n1_; have HI0 := n2_; have HK := n3_; have HB := n4_; clear n0_ n1_ n2_ n3_ n4_; clear hb ho9) | ((with_reducible refine gate_callee (f := 17) rfl ?_); refine goesL_ (some 12) rfl rfl Try.func17 (by kernel_rfl) rfl #[.pointer (some ⟨g, 0, none⟩), .int .i64 5] rfl q1 ?_; (with_reducible refine (paygen_Deck_Next.calls g s0_0 t282 5 t286 t287 w0 _ ?side1 ?side2 A3.out).mono ?_); (case side1 => exact q3); (case side2 => exact q7); rintro e w10 ⟨rfl, hi, hb, hk⟩; refine ⟨_, rfl, ?_⟩; have n0_ := Aside0.mk (Kd.R_mono (Kd.R_keep (IsS63.apart (show IsS63 w0 _ g s0_0 t282 from q3) (by (with_reducible repeat (first | apply Kd.R_alloc | apply Kd.R_drewN | apply Kd.R_drew)); exact HO280.out) (by decide)) hk (fun _ h => h.2)) (fun _ h => h.1)); have n1_ := Aside0.mk (Kd.R_mono (Kd.R_keep (IsS63.apart (show IsS63 w0 _ g s0_0 t282 from q3) (by (with_reducible repeat (first | apply Kd.R_alloc | apply Kd.R_drewN | apply Kd.R_drew)); exact HO285.out) (by decide)) hk (fun _ h => h.2)) (fun _ h => h.1)); have n2_ := Aside0.mk (KeepBut.trans q5 hk (.inl rfl)); have n3_ := Aside0.mk (hb); have n4_ := Aside0.mk (hi); clear HO280; clear HO285; clear HK; clear HB; clear HI0; have HO280 := n0_; have HO285 := n1_; have HK := n2_; have HB := n3_; have HI0 := n4_; clear n0_ n1_ n2_ n3_ n4_; (try clear hb); (try clear hb2); (try clear hk); (try clear hi)))
 go_loopg [3, 4] k (fun kq v3 v4 w' => ∃ (x3_1 : List (S80)) (x4_1 : Int) (x1001_1 : Int), v4 = .int .i64 x4_1 ∧ Aside0 (paygen_Deck_Rows.l0 kq x3_1 x4_1 s0_0 x1001_1 = some (r1, r2)) ∧ Aside0 (kq ≤ k) ∧ Aside0 (Kd.R k80 80 w' w.heap.size (fun _ => True) v3 x3_1) ∧ Aside0 (IsS63 w0 w' g s0_0 x1001_1) ∧ Aside0 (KeepBut w w' g none) ∧ Aside0 (Below w0.heap.size w0 w'))
 case atStart => exact ⟨(y283), (t286), (t287), q26, H', ⟨Nat.le_refl _⟩, ⟨(by (with_reducible repeat (first | apply Kd.R_alloc | apply Kd.R_drewN | apply Kd.R_drew)); exact HO285.out)⟩, ⟨q3⟩, ⟨q5⟩, ⟨q7⟩⟩
 case round =>
  clear H'
  try clear c1
  try clear c2
  try clear p2
  try clear c3
  obtain ⟨x3_1, x4_1, x1001_1, rfl, HA, HK1, HO_3, HI0, HK, HB⟩ := hrel
  cases gk with
  | zero => exact absurd HA.out (by simp [paygen_Deck_Rows.l0])
  | succ k1 =>
   have H := HA.out
   clear HA
   simp only [paygen_Deck_Rows.l0] at H
   by_cases c11 : x4_1 > 0
   ·
    rw [if_pos c11] at H
    have c11b0 : decide (0 < x4_1) = true := decide_eq_true c11
    clear c11
    obtain ⟨ji12, hji12⟩ : ∃ j_ : Int, (wrap64 ((x3_1.length : Int) - 1)) = j_ := ⟨_, rfl⟩
    replace H : (if 0 ≤ (ji12) then (if (ji12) < (x3_1.length : Int) then ((paygen_Deck_Next.f s0_0 x1001_1 100000).bind fun bt290 => ((paygen_Deck_Next.f s0_0 bt290.2 20000).bind fun bt292 => (if x3_1.length < 8796093022208 then (paygen_Deck_Rows.l0 k1 (x3_1 ++ [(⟨wrap64 ((wrap64 (((rd_T80 x3_1 (ji12)).f0) + 1)) + bt290.1), wrap64 (((rd_T80 x3_1 (ji12)).f1) + bt292.1)⟩ : S80)]) (wrap64 (x4_1 - 1)) s0_0 bt292.2) else (none)))) else (none)) else (none)) = some (r1, r2) := by first | (rw [hji12] at H; exact H) | (simp only [hji12] at H ⊢; exact H)
    have hji12w : (IntKind.i64.wrap ((x3_1.length : Int) - 1)) = ji12 := (i64_w _).trans hji12
    by_cases c13 : 0 ≤ (ji12)
    ·
     rw [if_pos c13] at H
     have c13b0 : decide (0 ≤ (ji12)) = true := decide_eq_true c13
     clear c13
     by_cases c14 : (ji12) < (x3_1.length : Int)
     ·
      rw [if_pos c14] at H
      have c14b0 : decide ((ji12) < (x3_1.length : Int)) = true := decide_eq_true c14
      clear c14
      replace H := Option.bind_eq_some_iff.mp H
      obtain ⟨⟨t290, t291⟩, A150, H⟩ := H
      try dsimp only at H
      have A15 := Aside0.mk A150
      clear A150
      replace H := Option.bind_eq_some_iff.mp H
      obtain ⟨⟨t292, t293⟩, A160, H⟩ := H
      try dsimp only at H
      have A16 := Aside0.mk A160
      clear A160
      by_cases c17 : x3_1.length < 8796093022208
      ·
       rw [if_pos c17] at H
       have LMc17 := Aside0.mk c17
       clear c17
       obtain ⟨y294, hy294⟩ : ∃ y_ : List (S80), y_ = (x3_1 ++ [(⟨wrap64 ((wrap64 (((rd_T80 x3_1 (ji12)).f0) + 1)) + t290), wrap64 (((rd_T80 x3_1 (ji12)).f1) + t292)⟩ : S80)]) := ⟨_, rfl⟩
       replace H : (paygen_Deck_Rows.l0 k1 y294 (wrap64 (x4_1 - 1)) s0_0 t293) = some (r1, r2) := by first | (rw [hy294]; with_reducible exact H) | (have H2_ := (Option.bind_some _ _).symm.trans H; rw [hy294]; with_reducible exact H2_) | (have H2_ := (Option.bind_some _ _).symm.trans H; with_reducible exact H2_) | with_reducible exact H | (rw [hy294]; exact H) | exact H
       have Ny294 := Aside0.mk hy294
       clear hy294
       have H' := Aside0.mk H
       clear H
       obtain ⟨Ao18, co18, eo18⟩ := Kd.R_slice HO_3.out
       subst eo18
       have p288 : 0 ≤ ((ji12) : Int) := of_decide_eq_true q6
       have q288 : (ji12) < (x3_1.length : Int) := of_decide_eq_true q6
       obtain ⟨ad288, e288, hx288_0, hx288_1⟩ := at_T80 (Kd.R_reads' HO_3.out).2.2 (ji12) p288 q288
       cases e288
       replace p288 := eq_true p288
       replace q288 := eq_true q288
       try go_wp2_with (first | ((with_reducible refine gate_dst (N := 5) rfl ?_); refine box_event ?hg (N := 5) ?hd (cs := #[.int .i64 0, .int .i64 0]) (t := 80) ?hr ?_; (case hd => rfl); (case hg => rfl); (case hr => first | (go_simp; done) | (go_simp; rfl)); intro gb289 hg w19 hbox hb; have n0_ := Aside0.mk (Kd.R_below (Kd.R_elderB q15 gb289 (Nat.le_of_eq hg.symm)) hb); have n1_ := Aside0.mk (IsS63.below q3 hb); have n2_ := Aside0.mk (KeepBut.trans q5 (KeepBut.of_below hb g none) (.inl rfl)); have n3_ := Aside0.mk (below_step q7 hb); have n4_ := Aside0.mk (hbox); have n5_ := Aside0.mk ((by rw [hg]; exact (keep_size (w := w) (g := g) (row := none) q5) : w.heap.size ≤ gb289)); have n6_ := Aside0.mk ((Nat.le_trans HW0.out (by rw [hg]; exact (keep_size (w := w) (g := g) (row := none) q5) : w.heap.size ≤ gb289) : w0.heap.size ≤ gb289)); have n7_ := Aside0.mk ((by rw [hg]; exact Nat.ne_of_lt (IsS63.lt (show IsS63 w0 _ g s0_0 x1001_1 from q3)) : g ≠ gb289)); have n8_ := Aside0.mk ((by rw [hg]; exact Nat.ne_of_gt (IsS63.lt (show IsS63 w0 _ g s0_0 x1001_1 from q3)) : gb289 ≠ g)); clear HO_3; clear HI0; clear HK; clear HB; have HO_3 := n0_; have HI0 := n1_; have HK := n2_; have HB := n3_; have BK289 := n4_; have GW289 := n5_; have GE289 := n6_; have NB0_289 := n7_; have NB289_0 := n8_; clear n0_ n1_ n2_ n3_ n4_ n5_ n6_ n7_ n8_; clear hb hbox hg; have hnb20 := NB289_0.out; have hnc20 := NB0_289.out; obtain ⟨hcz21_0, hcz21_1, hfz21_0, hfz21_1⟩ := blk2 BK289.out))
       have n0_ : Aside0 (Kd.R k80 80 ((w19.setCell ⟨gb289, 0, none⟩ (.int .i64 ((rd_T80 x3_1 (ji12)).f0))).setCell ⟨gb289, 1, none⟩ (.int .i64 ((rd_T80 x3_1 (ji12)).f1))) w.heap.size (fun k_ => k_ ≠ gb289) (.slice (some ad288) x3_1.length co18) x3_1) := ⟨by (with_reducible repeat (first | apply Kd.R_alloc | apply Kd.R_drewN | apply Kd.R_drew)); exact Kd.R_mono (Kd.R_far (p := ⟨gb289, 1, none⟩) (Kd.R_far (p := ⟨gb289, 0, none⟩) (Kd.R_mono HO_3.out (fun k_ hk => (⟨hk, hk.2⟩ : _ ∧ k_ ≠ gb289))) (fun _ hk => hk.2) (.int .i64 ((rd_T80 x3_1 (ji12)).f0))) (fun _ hk => hk.2) (.int .i64 ((rd_T80 x3_1 (ji12)).f1))) (fun _ hk => hk.1.2)⟩
       have n1_ : Aside0 (((w19.setCell ⟨gb289, 0, none⟩ (.int .i64 ((rd_T80 x3_1 (ji12)).f0))).setCell ⟨gb289, 1, none⟩ (.int .i64 ((rd_T80 x3_1 (ji12)).f1))).heap[gb289]? = some (.cells #[.int .i64 ((rd_T80 x3_1 (ji12)).f0), .int .i64 ((rd_T80 x3_1 (ji12)).f1)] 80 (0, 0))) := ⟨by (with_reducible repeat (first | refine blk_drewN ?_ _ | refine blk_drew ?_ | refine blk_alloc ?_ _)); refine blk_put (cs := #[.int .i64 ((rd_T80 x3_1 (ji12)).f0), .int .i64 0]) ?_ 1 _ rfl; (with_reducible repeat (first | refine blk_drewN ?_ _ | refine blk_drew ?_ | refine blk_alloc ?_ _)); refine blk_put (cs := #[.int .i64 0, .int .i64 0]) ?_ 0 _ rfl; (with_reducible repeat (first | refine blk_drewN ?_ _ | refine blk_drew ?_ | refine blk_alloc ?_ _)); exact BK289.out⟩
       have n2_ : Aside0 (IsS63 w0 ((w19.setCell ⟨gb289, 0, none⟩ (.int .i64 ((rd_T80 x3_1 (ji12)).f0))).setCell ⟨gb289, 1, none⟩ (.int .i64 ((rd_T80 x3_1 (ji12)).f1))) g s0_0 x1001_1) := ⟨q106⟩
       have n3_ : Aside0 (KeepBut w ((w19.setCell ⟨gb289, 0, none⟩ (.int .i64 ((rd_T80 x3_1 (ji12)).f0))).setCell ⟨gb289, 1, none⟩ (.int .i64 ((rd_T80 x3_1 (ji12)).f1))) g none) := ⟨q121⟩
       have n4_ : Aside0 (Below w0.heap.size w0 ((w19.setCell ⟨gb289, 0, none⟩ (.int .i64 ((rd_T80 x3_1 (ji12)).f0))).setCell ⟨gb289, 1, none⟩ (.int .i64 ((rd_T80 x3_1 (ji12)).f1)))) := ⟨q132⟩
       (try clear HO_3)
       (try clear BK289)
       (try clear HI0)
       (try clear HK)
       (try clear HB)
       generalize ((w19.setCell ⟨gb289, 0, none⟩ (.int .i64 ((rd_T80 x3_1 (ji12)).f0))).setCell ⟨gb289, 1, none⟩ (.int .i64 ((rd_T80 x3_1 (ji12)).f1))) = w22 at n0_ n1_ n2_ n3_ n4_ ⊢
       have HO_3 := n0_
       have BK289 := n1_
       have HI0 := n2_
       have HK := n3_
       have HB := n4_
       clear n0_ n1_ n2_ n3_ n4_
       have n0_ := Aside0.mk (Kd.R_drew HO_3.out)
       have n1_ := Aside0.mk (blk_drew BK289.out)
       have n2_ := Aside0.mk (IsS63.drew HI0.out)
       have n3_ := Aside0.mk (keep_drew HK.out)
       have n4_ := Aside0.mk (below_drew1 HB.out)
       clear HO_3
       clear BK289
       clear HI0
       clear HK
       clear HB
       have HO_3 := n0_
       have BK289 := n1_
       have HI0 := n2_
       have HK := n3_
       have HB := n4_
       clear n0_ n1_ n2_ n3_ n4_
       refine start_ (n := 16) (S := fun w' => w'.cell? ⟨gb289, 0, none⟩ = some (.int .i64 ((rd_T80 x3_1 (ji12)).f0)) ∧ w'.cell? ⟨gb289, 1, none⟩ = some (.int .i64 ((rd_T80 x3_1 (ji12)).f1))) (ds := []) #[false, false, false, false, false, false, false, false, false, false, false, false, false, false, false, false] (by kernel_rfl) rfl rfl ⟨(blk_cell BK289.out 0).trans rfl, (blk_cell BK289.out 1).trans rfl⟩ (fun hHeld => ?_); refine with_tabW paygen_Deck_Rows.tab6 paygen_Deck_Rows.bits6 (fun HT_ HW_ => ?_)
       generalize w22.drew = w23 at HO_3 BK289 HI0 HK HB hHeld ⊢
       refine pv_ (i := 0) (N := some 23) #[true, false, false, false, false, false, false, false, false, false, false, false, false, false, false, false] (h := ?_)
       refine pv_ (i := 1) (N := some 24) #[true, true, false, false, false, false, false, false, false, false, false, false, false, false, false, false] (h := ?_)
       refine pv_ (i := 4) (N := some 27) #[true, true, false, false, true, false, false, false, false, false, false, false, false, false, false, false] (h := ?_)
       refine pv_ (i := 7) (N := some 30) #[true, true, false, false, true, false, false, true, false, false, false, false, false, false, false, false] (h := ?_)
       refine pv_ (i := 9) (N := some 32) #[true, true, false, false, true, false, false, true, false, true, false, false, false, false, false, false] (h := ?_)
       refine take_ (i := 2) (N := some 25) (v := ?_) (a' := ?_) #[true, true, true, false, true, false, false, true, false, true, false, false, false, false, false, false] rfl rfl (take_ofW HT_.out HW_.out (by kernel_rfl)) (fun _ _ _ h => h) (Or.inl ⟨by rfl, ?_⟩) hHeld ?_ ?_
       rotate_left
       ·
        rintro w' ⟨s0, s1⟩
        go_simp
        with_reducible rfl
       rotate_left
       ·
        simp only [Act.put, List.setIfInBounds_toArray, List.set_cons_zero, List.set_cons_succ, i64_w, i32_w]
        rfl
       refine pv_ (i := 3) (N := some 26) #[true, true, true, true, true, false, false, true, false, true, false, false, false, false, false, false] (h := ?_)
       refine take_ (i := 8) (N := some 31) (v := ?_) (a' := ?_) #[true, true, true, true, true, false, false, true, true, true, false, false, false, false, false, false] rfl rfl (take_ofW HT_.out HW_.out (by kernel_rfl)) (fun _ _ _ h => h) (Or.inl ⟨by rfl, ?_⟩) hHeld ?_ ?_
       rotate_left
       ·
        rintro w' ⟨s0, s1⟩
        go_simp
        with_reducible rfl
       rotate_left
       ·
        simp only [Act.put, List.setIfInBounds_toArray, List.set_cons_zero, List.set_cons_succ, i64_w, i32_w]
        rfl
       refine one_ (i := 5) (N := some 28) #[true, true, true, true, true, true, false, true, true, true, false, false, false, false, false, false] rfl rfl (one_of HT_.out (by kernel_rfl)) (by decide) (fun K hK => ?_)
       refine goes_ Try.func17 (by kernel_rfl) rfl #[.pointer (some ⟨g, 0, none⟩), .int .i64 100000] (by rfl) rfl rfl q1 ?_
       with_reducible refine (paygen_Deck_Next.calls g s0_0 x1001_1 100000 t290 t291 w0 _ ?side1 ?side2 A15.out).mono ?_
       (case side1 => exact q106)
       (case side2 => exact q132)
       rintro e w24 ⟨rfl, hi, hb, hk⟩
       refine ⟨_, rfl, ?_⟩
       have n0_ := Aside0.mk (Kd.R_mono (Kd.R_keep (IsS63.apart (show IsS63 w0 _ g s0_0 x1001_1 from q106) q15 (by decide)) hk (fun _ h => h.2)) (fun _ h => h.1))
       have n1_ := Aside0.mk (KeepBut.blk hk BK289.out NB289_0.out (by simp))
       have n2_ := Aside0.mk (KeepBut.trans q121 hk (.inl rfl))
       have n3_ := Aside0.mk (hb)
       have n4_ := Aside0.mk (hi)
       clear HO_3
       clear BK289
       clear HK
       clear HB
       clear HI0
       have HO_3 := n0_
       have BK289 := n1_
       have HK := n2_
       have HB := n3_
       have HI0 := n4_
       clear n0_ n1_ n2_ n3_ n4_
       (try clear hb)
       (try clear hb2)
       (try clear hk)
       (try clear hi)
       refine hK.out _ _ ⟨(blk_cell BK289.out 0).trans rfl, (blk_cell BK289.out 1).trans rfl⟩ (fun hHeld => ?_)
       clear hK K
       refine norm_ (a' := ?_) ?_ ?_
       rotate_left
       ·
        show Act.put _ (some 28) _ = _
        simp only [Act.put, List.setIfInBounds_toArray, List.set_cons_zero, List.set_cons_succ, i64_w, i32_w]
        rfl
       refine pv_ (i := 6) (N := some 29) #[true, true, true, true, true, true, true, true, true, true, false, false, false, false, false, false] (h := ?_)
       refine one_ (i := 10) (N := some 33) #[true, true, true, true, true, true, true, true, true, true, true, false, false, false, false, false] rfl rfl (one_of HT_.out (by kernel_rfl)) (by decide) (fun K hK => ?_)
       refine goes_ Try.func17 (by kernel_rfl) rfl #[.pointer (some ⟨g, 0, none⟩), .int .i64 20000] (by rfl) rfl rfl q1 ?_
       with_reducible refine (paygen_Deck_Next.calls g s0_0 t291 20000 t292 t293 w0 _ ?side1 ?side2 A16.out).mono ?_
       (case side1 => exact q106)
       (case side2 => exact q132)
       rintro e w25 ⟨rfl, hi, hb, hk⟩
       refine ⟨_, rfl, ?_⟩
       have n0_ := Aside0.mk (Kd.R_mono (Kd.R_keep (IsS63.apart (show IsS63 w0 _ g s0_0 t291 from q106) q15 (by decide)) hk (fun _ h => h.2)) (fun _ h => h.1))
       have n1_ := Aside0.mk (KeepBut.blk hk BK289.out NB289_0.out (by simp))
       have n2_ := Aside0.mk (KeepBut.trans q121 hk (.inl rfl))
       have n3_ := Aside0.mk (hb)
       have n4_ := Aside0.mk (hi)
       clear HO_3
       clear BK289
       clear HK
       clear HB
       clear HI0
       have HO_3 := n0_
       have BK289 := n1_
       have HK := n2_
       have HB := n3_
       have HI0 := n4_
       clear n0_ n1_ n2_ n3_ n4_
       (try clear hb)
       (try clear hb2)
       (try clear hk)
       (try clear hi)
       refine hK.out _ _ ⟨(blk_cell BK289.out 0).trans rfl, (blk_cell BK289.out 1).trans rfl⟩ (fun hHeld => ?_)
       clear hK K
       refine norm_ (a' := ?_) ?_ ?_
       rotate_left
       ·
        show Act.put _ (some 33) _ = _
        simp only [Act.put, List.setIfInBounds_toArray, List.set_cons_zero, List.set_cons_succ, i64_w, i32_w]
        rfl
       refine pv_ (i := 11) (N := some 34) #[true, true, true, true, true, true, true, true, true, true, true, true, false, false, false, false] (h := ?_)
       refine pv_ (i := 12) (N := some 35) #[true, true, true, true, true, true, true, true, true, true, true, true, true, false, false, false] (h := ?_)
       refine one_ (i := 13) (N := some 36) #[true, true, true, true, true, true, true, true, true, true, true, true, true, true, false, false] rfl rfl (one_of HT_.out (by kernel_rfl)) (by decide) (fun K hK => ?_)
       refine value_ (w1 := ?_) (v := ?_) (by rfl) rfl ?_ ?_
       rotate_left 2
       ·
        go_simp
        constructor
        ·
         rfl
        ·
         rfl
       refine hK.out _ _ ⟨(blk_cell (blk_alloc BK289.out _) 0).trans rfl, (blk_cell (blk_alloc BK289.out _) 1).trans rfl⟩ (fun hHeld => ?_)
       clear hK K
       refine norm_ (a' := ?_) ?_ ?_
       rotate_left
       ·
        show Act.put _ (some 36) _ = _
        simp only [Act.put, List.setIfInBounds_toArray, List.set_cons_zero, List.set_cons_succ, i64_w, i32_w]
        rfl
       refine one_ (i := 14) (N := some 37) #[true, true, true, true, true, true, true, true, true, true, true, true, true, true, true, false] rfl rfl (one_of HT_.out (by kernel_rfl)) (by decide) (fun K hK => ?_)
       refine Kd.R_append_step k80 w.heap.size (by rfl) (.tmp 23) (.tmp 36) 31 80 (.agg #[(.int .i64 0), (.int .i64 0)]) 16 rfl Try.underlying31 info80 rfl (by decide) (by omega) (.slice (some ad288) x3_1.length co18) x3_1 (⟨wrap64 ((wrap64 (((rd_T80 x3_1 (ji12)).f0) + 1)) + t290), wrap64 (((rd_T80 x3_1 (ji12)).f1) + t292)⟩ : S80) [.int .i64 (wrap64 ((wrap64 (((rd_T80 x3_1 (ji12)).f0) + 1)) + t290)), .int .i64 (wrap64 (((rd_T80 x3_1 (ji12)).f1) + t292))] (fun k_ => k_ ≠ gb289) (fun _ => False) rfl rfl ?aP (fun _ hk => hk.elim) ?aF ?aO (Below.refl _ _) ?aS ?aL ?_
       (case aP => exact k80_mkM _ _ _ (⟨wrap64 ((wrap64 (((rd_T80 x3_1 (ji12)).f0) + 1)) + t290), wrap64 (((rd_T80 x3_1 (ji12)).f1) + t292)⟩ : S80))
       (case aF => exact (fun k_ hk => Kd.freshB BK289.out k_ hk))
       (case aO => exact q15)
       (case aS => exact (keep_size (w := w) (g := g) (row := none) q121))
       (case aL => have := LMc17.out; omega)
       intro v295 w26 ho hb hg hat
       rw [← Ny294.out] at ho
       have n0_ := Aside0.mk (IsS63.grown q106 hg (IsS63.own_ne HI0.out HO_3.out (by decide)))
       have n1_ := Aside0.mk (blk_grown BK289.out hg (Kd.R_away HO_3.out (fun _ hk => hk)))
       have n2_ := Aside0.mk (below_weaken q132 HL.out hb)
       have n3_ := Aside0.mk (KeepBut.trans q121 (KeepBut.of_grown hg g) (Kd.R_base2 HO_3.out))
       have n4_ := Aside0.mk (ho)
       clear HI0
       clear BK289
       clear HB
       clear HK
       clear HO_3
       have HI0 := n0_
       have BK289 := n1_
       have HB := n2_
       have HK := n3_
       have HO296 := n4_
       clear n0_ n1_ n2_ n3_ n4_
       clear ho hb hg hat
       refine hK.out _ _ ⟨(blk_cell BK289.out 0).trans rfl, (blk_cell BK289.out 1).trans rfl⟩ (fun hHeld => ?_)
       clear hK K
       refine norm_ (a' := ?_) ?_ ?_
       rotate_left
       ·
        show Act.put _ (some 37) _ = _
        simp only [Act.put, List.setIfInBounds_toArray, List.set_cons_zero, List.set_cons_succ, i64_w, i32_w]
        rfl
       refine pv_ (i := 15) (N := some 3) #[true, true, true, true, true, true, true, true, true, true, true, true, true, true, true, true] (h := ?_)
       refine done_ (done_of HT_.out (by kernel_rfl)) ?_
       try go_wp2
       go_roundg k1
       case measure => have := HK1.out; omega
       case rel => exact ⟨(y294), (wrap64 (x4_1 - 1)), (t293), q26, H', ⟨by have := HK1.out; omega⟩, ⟨by (with_reducible repeat (first | apply Kd.R_alloc | apply Kd.R_drewN | apply Kd.R_drew)); exact Kd.R_mono HO296.out (fun _ hk => trivial)⟩, ⟨q106⟩, ⟨q121⟩, ⟨q132⟩⟩
      ·
       rw [if_neg c17] at H
       exact absurd H (by simp)
     ·
      rw [if_neg c14] at H
      exact absurd H (by simp)
    ·
     rw [if_neg c13] at H
     exact absurd H (by simp)
   ·
    rw [if_neg c11] at H
    have c11b0 : decide (0 < x4_1) = false := decide_eq_false c11
    clear c11
    simp only [Option.some.injEq, Prod.mk.injEq] at H
    obtain ⟨rfl, rfl⟩ := H
    go_wp2
    go_ret
    exact ⟨_, by first | rfl | (simp [errW_none, errW_some] <;> rfl) | (simp [*, errW_none, errW_some] <;> rfl), q15, q3, q7, q5⟩

end Go.Proofs.Ytbacfajhgmnjpaa.P
