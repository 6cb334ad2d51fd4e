/- Proved here: that the Go function paygen_Deck_Brackets computes the plain function of that name (the machine side of the laws, reworked from a print; no condition of its own). -/
import Derived.Test.YtbacfajhgmnjpaaProg
import Derived.Test.YtbacfajhgmnjpaaV1
import Derived.Test.YtbacfajhgmnjpaaV2
import Derived.Test.YtbacfajhgmnjpaaV3
import Derived.Test.YtbacfajhgmnjpaaFPRE
import Derived.Test.YtbacfajhgmnjpaaFpaygen
namespace Go.Proofs.Ytbacfajhgmnjpaa.P
open Go.RowKit Go.Proofs.YtbacfajhgmnjpaaW.PrintWords Go.Proofs.YtbacfajhgmnjpaaW.PrintLast Go.Proofs.YtbacfajhgmnjpaaW.PrintMore
attribute [local go_sem] max2_int min2_int max_two min_two max_three min_three max_four min_four   -- for this text's walks alone
set_option linter.unusedVariables false
set_option linter.unusedSimpArgs false

def paygen_Deck_Brackets.l0 : Nat → Bool → List (S58) → Int → List Int → Int → Option ((List (S58)) × Int)
 | 0, _, _, _, _, _ => none
 | k + 1, x1, x5, x6, x1000, x1001 => if x6 > 0 then (if 0 ≤ (wrap64 ((x5.length : Int) - 1)) then (if (wrap64 ((x5.length : Int) - 1)) < (x5.length : Int) then ((paygen_Deck_Next.f x1000 x1001 3000000).bind fun bt255 => ((paygen_Deck_Pick.f x1000 bt255.2 (([0, 99, bt255.1] : List Int))).bind fun bt260 => ((paygen_Deck_Rate.f x1000 bt260.2).bind fun bt262 => (if x1 = true then ((paygen_Deck_Pick.f x1000 bt262.2 (([0, 50000, 120000] : List Int))).bind fun bt268 => (if x5.length < 8796093022208 then (paygen_Deck_Brackets.l0 k x1 (x5 ++ [(⟨wrap64 ((wrap64 (((rd_T58 x5 (wrap64 ((x5.length : Int) - 1))).f0) + 1)) + bt260.1), mn (wrap64 (((rd_T58 x5 (wrap64 ((x5.length : Int) - 1))).f1) + bt268.1)) 450000⟩ : S58)]) (wrap64 (x6 - 1)) x1000 bt268.2) else (none))) else (if x5.length < 8796093022208 then (paygen_Deck_Brackets.l0 k x1 (x5 ++ [(⟨wrap64 ((wrap64 (((rd_T58 x5 (wrap64 ((x5.length : Int) - 1))).f0) + 1)) + bt260.1), bt262.1⟩ : S58)]) (wrap64 (x6 - 1)) x1000 bt262.2) else (none)))))) else (none)) else (none)) else (some (x5, x1001))
def paygen_Deck_Brackets.f (k : Nat) (s0_0 : List Int) (s0_1 : Int) (a1 : Bool) : Option ((List (S58)) × Int) := (paygen_Deck_Pick.f s0_0 s0_1 (([0, 100000, 150000] : List Int))).bind fun bt246 => ((paygen_Deck_Next.f s0_0 bt246.2 4).bind fun bt251 => (paygen_Deck_Brackets.l0 k a1 (([(⟨0, bt246.1⟩ : S58)] : List (S58))) bt251.1 s0_0 bt251.2))
def paygen_Deck_Brackets.T6 : Bool × List (List Nat × List Nat) := (true, [([], []), ([0], [0]), ([1], [1]), ([], []), ([], []), ([4], [4]), ([5], [5]), ([3, 6, 5], [3, 6]), ([2, 7], [2, 7]), ([], []), ([9, 7], [9]), ([8, 10], [8, 10]), ([], []), ([12, 11, 10, 0, 1, 2, 3, 4, 5, 6, 7, 8, 9, 10, 11, 12], [11, 12])])
def paygen_Deck_Brackets.B6 : List Nat := [0, 1, 3, 0, 0, 16, 48, 120, 255, 0, 760, 2047, 0, 8191]
theorem paygen_Deck_Brackets.tab6 : rtab .any (opsOf Try.f36 6) = paygen_Deck_Brackets.T6 := by kernel_rfl
theorem paygen_Deck_Brackets.bits6 : waitsOk paygen_Deck_Brackets.T6.2 paygen_Deck_Brackets.B6 = true := by kernel_rfl
def paygen_Deck_Brackets.T8 : Bool × List (List Nat × List Nat) := (true, [([], []), ([0], [0]), ([], []), ([], []), ([2, 3], [2, 3]), ([1, 4], [1, 4]), ([5], [5]), ([0, 1, 2, 3, 4, 5, 6], []), ([7, 6, 4, 0, 1, 2, 3, 4, 5, 6], [6, 7])])
def paygen_Deck_Brackets.B8 : List Nat := [0, 1, 0, 0, 12, 31, 63, 127, 255]
theorem paygen_Deck_Brackets.tab8 : rtab .any (opsOf Try.f36 8) = paygen_Deck_Brackets.T8 := by kernel_rfl
theorem paygen_Deck_Brackets.bits8 : waitsOk paygen_Deck_Brackets.T8.2 paygen_Deck_Brackets.B8 = true := by kernel_rfl
set_option maxHeartbeats 8000000 in
set_option maxRecDepth 100000 in
theorem paygen_Deck_Brackets.calls (k : Nat) (g : Nat) (s0_0 : List Int) (s0_1 : Int) (a1 : Bool) (r1 : List (S58)) (r2 : Int) (w0 w : World) (hI : IsS63 w0 w g s0_0 s0_1) (hB : Below w0.heap.size w0 w) (h : paygen_Deck_Brackets.f k s0_0 s0_1 a1 = some (r1, r2)) :
  Calls Try.prog 36 #[.pointer (some ⟨g, 0, none⟩), .bool a1] w fun e w' => ∃ v0_ : Value, e = .returned (v0_) ∧ Kd.R k58 58 w' w.heap.size (fun _ => True) v0_ r1 ∧ IsS63 w0 w' g s0_0 r2 ∧ Below w0.heap.size w0 w' ∧ KeepBut w w' g none := by
 have hu58 := Try.underlying58
 have HI0 := Aside0.mk hI
 have HK := Aside0.mk (KeepBut.refl w g none)
 have HL := Aside0.mk hB.size
 clear hI
 have HW0 := Aside0.mk hB.size
 have HB := Aside0.mk hB
 clear hB
 have H : ((paygen_Deck_Pick.f s0_0 s0_1 (([0, 100000, 150000] : List Int))).bind fun bt246 => ((paygen_Deck_Next.f s0_0 bt246.2 4).bind fun bt251 => (paygen_Deck_Brackets.l0 k a1 (([(⟨0, bt246.1⟩ : S58)] : List (S58))) bt251.1 s0_0 bt251.2))) = some (r1, r2) := h
 clear h
 obtain ⟨y243, hy243⟩ : ∃ y_ : List Int, y_ = (([0, 100000, 150000] : List Int)) := ⟨_, rfl⟩
 replace H : ((paygen_Deck_Pick.f s0_0 s0_1 y243).bind fun bt246 => ((paygen_Deck_Next.f s0_0 bt246.2 4).bind fun bt251 => (paygen_Deck_Brackets.l0 k a1 (([(⟨0, bt246.1⟩ : S58)] : List (S58))) bt251.1 s0_0 bt251.2))) = some (r1, r2) := by first | (rw [hy243]; with_reducible exact H) | (have H2_ := (Option.bind_some _ _).symm.trans H; rw [hy243]; with_reducible exact H2_) | (have H2_ := (Option.bind_some _ _).symm.trans H; with_reducible exact H2_) | with_reducible exact H | (rw [hy243]; exact H) | exact H
 have Ny243 := Aside0.mk hy243
 clear hy243
 replace H := Option.bind_eq_some_iff.mp H
 obtain ⟨⟨t246, t247⟩, A30, H⟩ := H
 try dsimp only at H
 have A3 := Aside0.mk A30
 clear A30
 obtain ⟨y248, hy248⟩ : ∃ y_ : List (S58), y_ = (([(⟨0, t246⟩ : S58)] : List (S58))) := ⟨_, rfl⟩
 replace H : ((paygen_Deck_Next.f s0_0 t247 4).bind fun bt251 => (paygen_Deck_Brackets.l0 k a1 y248 bt251.1 s0_0 bt251.2)) = some (r1, r2) := by first | (rw [hy248]; with_reducible exact H) | (have H2_ := (Option.bind_some _ _).symm.trans H; rw [hy248]; with_reducible exact H2_) | (have H2_ := (Option.bind_some _ _).symm.trans H; with_reducible exact H2_) | with_reducible exact H | (rw [hy248]; exact H) | exact H
 have Ny248 := Aside0.mk hy248
 clear hy248
 replace H := Option.bind_eq_some_iff.mp H
 obtain ⟨⟨t251, t252⟩, A40, H⟩ := H
 try dsimp only at H
 have A4 := Aside0.mk A40
 clear A40
 have H' := Aside0.mk H
 clear H
 go_enter Try.func36, Try.ntmps36
 go_wp2_with (first | ((with_reducible refine gate_dst (N := 10) rfl ?_); refine Kd.R_lit (Kd.int .i64) _ 3 ?hg (N := 10) ?hd (xs := ([0, 100000, 150000] : List Int)) (inner := [.int .i64 0, .int .i64 100000, .int .i64 150000]) (ok := fun _ => True) (okp := fun _ => True) ?hr ?hp (fun _ hk => hk) trivial (Below.refl _ _) (Nat.le_refl _) (by simp) ?_; (case hd => rfl); (case hg => rfl); (case hr => first | (go_simp; done) | (go_simp; rfl)); (case hp => exact (Reps.one (show Kd.M (Kd.int .i64) _ _ _ 0 [.int .i64 0] from rfl) (Reps.one (show Kd.M (Kd.int .i64) _ _ _ 100000 [.int .i64 100000] from rfl) (Reps.one (show Kd.M (Kd.int .i64) _ _ _ 150000 [.int .i64 150000] from rfl) (Reps.none _ _))))); intro v244 w5 ho6 hb hg_ hnew_; clear hg_ hnew_; (first | rw [← Ny243.out] at ho6 | (simp only [Int.reduceToNat] at ho6; rw [← Ny243.out] at ho6)); have n0_ := Aside0.mk (Kd.R_lower ho6 (keep_size (w := w) (g := g) (row := none) q5)); have n1_ := Aside0.mk (IsS63.below q3 hb); have n2_ := Aside0.mk (KeepBut.trans q5 (KeepBut.of_below hb g none) (.inl rfl)); have n3_ := Aside0.mk (below_step q7 hb); clear HI0; clear HK; clear HB; have HO245 := n0_; have HI0 := n1_; have HK := n2_; have HB := n3_; clear n0_ n1_ n2_ n3_; clear hb ho6; obtain ⟨Ao7, co7, eo7⟩ := Kd.R_slice HO245.out; subst eo7) | ((with_reducible refine gate_callee (f := 15) rfl ?_); refine goesL_ (some 11) rfl rfl Try.func15 (by kernel_rfl) rfl #[.pointer (some ⟨g, 0, none⟩), .slice Ao7 y243.length co7] rfl q1 ?_; (with_reducible refine (paygen_Deck_Pick.calls g s0_0 s0_1 _ _ y243 t246 t247 w0 _ ?side1 ?side2 ?side3 ?side4 ?side5 A3.out).mono ?_); (case side1 => exact q3); (case side2 => exact q7); (case side3 => exact (by repeat (first | exact (Kd.R_reads' HO245.out).2.2 | (with_reducible refine Kd.C_alloc ?_ _) | (with_reducible refine Kd.C_drewN ?_ _) | (with_reducible refine Kd.C_drew ?_)))); (case side4 => exact (Kd.R_reads' HO245.out).2.1); (case side5 => exact far_slice (IsS63.own_ne HI0.out HO245.out (by decide))); rintro e w8 ⟨rfl, hi, hb, hk⟩; refine ⟨_, rfl, ?_⟩; have n0_ := Aside0.mk (Kd.R_mono (Kd.R_keep (IsS63.apart (show IsS63 w0 _ g s0_0 s0_1 from q3) (by (with_reducible repeat (first | apply Kd.R_alloc | apply Kd.R_drewN | apply Kd.R_drew)); exact HO245.out) (by decide)) hk (fun _ h => h.2)) (fun _ h => h.1)); have n1_ := Aside0.mk (KeepBut.trans q5 hk (.inl rfl)); have n2_ := Aside0.mk (hb); have n3_ := Aside0.mk (hi); clear HO245; clear HK; clear HB; clear HI0; have HO245 := n0_; have HK := n1_; have HB := n2_; have HI0 := n3_; clear n0_ n1_ n2_ n3_; (try clear hb); (try clear hb2); (try clear hk); (try clear hi)) | ((with_reducible refine gate_dst (N := 13) rfl ?_); refine Kd.R_lit k58 _ 58 ?hg (N := 13) ?hd (xs := ([(⟨0, t246⟩ : S58)] : List (S58))) (inner := [.int .i64 0, .int .i64 t246]) (ok := fun _ => True) (okp := fun _ => True) ?hr ?hp (fun _ hk => hk) trivial (Below.refl _ _) (Nat.le_refl _) (by simp) ?_; (case hd => rfl); (case hg => rfl); (case hr => first | (go_simp; done) | (go_simp; rfl)); (case hp => exact (Reps.c2 (show Kd.M k58 _ _ _ (⟨0, t246⟩ : S58) [.int .i64 0, .int .i64 t246] from (k58_mkM _ _ _ (⟨0, t246⟩ : S58) )) (Reps.none _ _))); intro v249 w9 ho10 hb hg_ hnew_; clear hg_ hnew_; (first | rw [← Ny248.out] at ho10 | (simp only [Int.reduceToNat] at ho10; rw [← Ny248.out] at ho10)); have n0_ := Aside0.mk (Kd.R_below (by (with_reducible repeat (first | apply Kd.R_alloc | apply Kd.R_drewN | apply Kd.R_drew)); exact HO245.out) hb); have n1_ := Aside0.mk (Kd.R_lower ho10 (keep_size (w := w) (g := g) (row := none) q5)); have n2_ := Aside0.mk (IsS63.below q3 hb); have n3_ := Aside0.mk (KeepBut.trans q5 (KeepBut.of_below hb g none) (.inl rfl)); have n4_ := Aside0.mk (below_step q7 hb); clear HO245; clear HI0; clear HK; clear HB; have HO245 := n0_; have HO250 := n1_; have HI0 := n2_; have HK := n3_; have HB := n4_; clear n0_ n1_ n2_ n3_ n4_; clear hb ho10) | ((with_reducible refine gate_callee (f := 17) rfl ?_); refine goesL_ (some 15) rfl rfl Try.func17 (by kernel_rfl) rfl #[.pointer (some ⟨g, 0, none⟩), .int .i64 4] rfl q1 ?_; (with_reducible refine (paygen_Deck_Next.calls g s0_0 t247 4 t251 t252 w0 _ ?side1 ?side2 A4.out).mono ?_); (case side1 => exact q3); (case side2 => exact q7); rintro e w11 ⟨rfl, hi, hb, hk⟩; refine ⟨_, rfl, ?_⟩; have n0_ := Aside0.mk (Kd.R_mono (Kd.R_keep (IsS63.apart (show IsS63 w0 _ g s0_0 t247 from q3) (by (with_reducible repeat (first | apply Kd.R_alloc | apply Kd.R_drewN | apply Kd.R_drew)); exact HO245.out) (by decide)) hk (fun _ h => h.2)) (fun _ h => h.1)); have n1_ := Aside0.mk (Kd.R_mono (Kd.R_keep (IsS63.apart (show IsS63 w0 _ g s0_0 t247 from q3) (by (with_reducible repeat (first | apply Kd.R_alloc | apply Kd.R_drewN | apply Kd.R_drew)); exact HO250.out) (by decide)) hk (fun _ h => h.2)) (fun _ h => h.1)); have n2_ := Aside0.mk (KeepBut.trans q5 hk (.inl rfl)); have n3_ := Aside0.mk (hb); have n4_ := Aside0.mk (hi); clear HO245; clear HO250; clear HK; clear HB; clear HI0; have HO245 := n0_; have HO250 := n1_; have HK := n2_; have HB := n3_; have HI0 := n4_; clear n0_ n1_ n2_ n3_ n4_; (try clear hb); (try clear hb2); (try clear hk); (try clear hi)))
 go_loopg [5, 6] k (fun kq v5 v6 w' => ∃ (x5_1 : List (S58)) (x6_1 : Int) (x1001_1 : Int), v6 = .int .i64 x6_1 ∧ Aside0 (paygen_Deck_Brackets.l0 kq a1 x5_1 x6_1 s0_0 x1001_1 = some (r1, r2)) ∧ Aside0 (kq ≤ k) ∧ Aside0 (Kd.R k58 58 w' w.heap.size (fun _ => True) v5 x5_1) ∧ Aside0 (IsS63 w0 w' g s0_0 x1001_1) ∧ Aside0 (KeepBut w w' g none) ∧ Aside0 (Below w0.heap.size w0 w'))
 case atStart => exact ⟨(y248), (t251), (t252), q26, H', ⟨Nat.le_refl _⟩, ⟨(by (with_reducible repeat (first | apply Kd.R_alloc | apply Kd.R_drewN | apply Kd.R_drew)); exact HO250.out)⟩, ⟨q3⟩, ⟨q5⟩, ⟨q7⟩⟩
 case round =>
  clear H'
  try clear c1
  try clear c2
  try clear p2
  try clear c3
  obtain ⟨x5_1, x6_1, x1001_1, rfl, HA, HK1, HO_5, HI0, HK, HB⟩ := hrel
  cases gk with
  | zero => exact absurd HA.out (by simp [paygen_Deck_Brackets.l0])
  | succ k1 =>
   have H := HA.out
   clear HA
   simp only [paygen_Deck_Brackets.l0] at H
   by_cases c12 : x6_1 > 0
   rotate_left
   ·
    rw [if_neg c12] at H
    have c12b0 : decide (0 < x6_1) = false := decide_eq_false c12
    clear c12
    simp only [Option.some.injEq, Prod.mk.injEq] at H
    obtain ⟨rfl, rfl⟩ := H
    go_wp2
    go_ret
    exact ⟨_, by first | rfl | (simp [errW_none, errW_some] <;> rfl) | (simp [*, errW_none, errW_some] <;> rfl), q17, q3, q7, q5⟩
   rw [if_pos c12] at H
   have c12b0 : decide (0 < x6_1) = true := decide_eq_true c12
   clear c12
   obtain ⟨ji13, hji13⟩ : ∃ j_ : Int, (wrap64 ((x5_1.length : Int) - 1)) = j_ := ⟨_, rfl⟩
   replace H : (if 0 ≤ (ji13) then (if (ji13) < (x5_1.length : Int) then ((paygen_Deck_Next.f s0_0 x1001_1 3000000).bind fun bt255 => ((paygen_Deck_Pick.f s0_0 bt255.2 (([0, 99, bt255.1] : List Int))).bind fun bt260 => ((paygen_Deck_Rate.f s0_0 bt260.2).bind fun bt262 => (if a1 = true then ((paygen_Deck_Pick.f s0_0 bt262.2 (([0, 50000, 120000] : List Int))).bind fun bt268 => (if x5_1.length < 8796093022208 then (paygen_Deck_Brackets.l0 k1 a1 (x5_1 ++ [(⟨wrap64 ((wrap64 (((rd_T58 x5_1 (ji13)).f0) + 1)) + bt260.1), mn (wrap64 (((rd_T58 x5_1 (ji13)).f1) + bt268.1)) 450000⟩ : S58)]) (wrap64 (x6_1 - 1)) s0_0 bt268.2) else (none))) else (if x5_1.length < 8796093022208 then (paygen_Deck_Brackets.l0 k1 a1 (x5_1 ++ [(⟨wrap64 ((wrap64 (((rd_T58 x5_1 (ji13)).f0) + 1)) + bt260.1), bt262.1⟩ : S58)]) (wrap64 (x6_1 - 1)) s0_0 bt262.2) else (none)))))) else (none)) else (none)) = some (r1, r2) := by first | (rw [hji13] at H; exact H) | (simp only [hji13] at H ⊢; exact H)
   have hji13w : (IntKind.i64.wrap ((x5_1.length : Int) - 1)) = ji13 := (i64_w _).trans hji13
   by_cases c14 : 0 ≤ (ji13)
   rotate_left
   ·
    rw [if_neg c14] at H
    exact absurd H (by simp)
   rw [if_pos c14] at H
   have c14b0 : decide (0 ≤ (ji13)) = true := decide_eq_true c14
   clear c14
   by_cases c15 : (ji13) < (x5_1.length : Int)
   rotate_left
   ·
    rw [if_neg c15] at H
    exact absurd H (by simp)
   rw [if_pos c15] at H
   have c15b0 : decide ((ji13) < (x5_1.length : Int)) = true := decide_eq_true c15
   clear c15
   replace H := Option.bind_eq_some_iff.mp H
   obtain ⟨⟨t255, t256⟩, A160, H⟩ := H
   try dsimp only at H
   have A16 := Aside0.mk A160
   clear A160
   obtain ⟨y257, hy257⟩ : ∃ y_ : List Int, y_ = (([0, 99, t255] : List Int)) := ⟨_, rfl⟩
   replace H : ((paygen_Deck_Pick.f s0_0 t256 y257).bind fun bt260 => ((paygen_Deck_Rate.f s0_0 bt260.2).bind fun bt262 => (if a1 = true then ((paygen_Deck_Pick.f s0_0 bt262.2 (([0, 50000, 120000] : List Int))).bind fun bt268 => (if x5_1.length < 8796093022208 then (paygen_Deck_Brackets.l0 k1 a1 (x5_1 ++ [(⟨wrap64 ((wrap64 (((rd_T58 x5_1 (ji13)).f0) + 1)) + bt260.1), mn (wrap64 (((rd_T58 x5_1 (ji13)).f1) + bt268.1)) 450000⟩ : S58)]) (wrap64 (x6_1 - 1)) s0_0 bt268.2) else (none))) else (if x5_1.length < 8796093022208 then (paygen_Deck_Brackets.l0 k1 a1 (x5_1 ++ [(⟨wrap64 ((wrap64 (((rd_T58 x5_1 (ji13)).f0) + 1)) + bt260.1), bt262.1⟩ : S58)]) (wrap64 (x6_1 - 1)) s0_0 bt262.2) else (none))))) = some (r1, r2) := by first | (rw [hy257]; with_reducible exact H) | (have H2_ := (Option.bind_some _ _).symm.trans H; rw [hy257]; with_reducible exact H2_) | (have H2_ := (Option.bind_some _ _).symm.trans H; with_reducible exact H2_) | with_reducible exact H | (rw [hy257]; exact H) | exact H
   have Ny257 := Aside0.mk hy257
   clear hy257
   replace H := Option.bind_eq_some_iff.mp H
   obtain ⟨⟨t260, t261⟩, A170, H⟩ := H
   try dsimp only at H
   have A17 := Aside0.mk A170
   clear A170
   replace H := Option.bind_eq_some_iff.mp H
   obtain ⟨⟨t262, t263⟩, A180, H⟩ := H
   try dsimp only at H
   have A18 := Aside0.mk A180
   clear A180
   have HZ_ := Aside0.mk H
   clear H
   obtain ⟨Ao23, co23, eo23⟩ := Kd.R_slice HO_5.out
   subst eo23
   have p253 : 0 ≤ ((ji13) : Int) := of_decide_eq_true q6
   have q253 : (ji13) < (x5_1.length : Int) := of_decide_eq_true q6
   obtain ⟨ad253, e253, hx253_0, hx253_1⟩ := at_T58 (Kd.R_reads' HO_5.out).2.2 (ji13) p253 q253
   cases e253
   replace p253 := eq_true p253
   replace q253 := eq_true q253
   try go_wp2_with (first | ((with_reducible refine gate_dst (N := 7) rfl ?_); refine box_event ?hg (N := 7) ?hd (cs := #[.int .i64 0, .int .i64 0]) (t := 58) ?hr ?_; (case hd => rfl); (case hg => rfl); (case hr => first | (go_simp; done) | (go_simp; rfl)); intro gb254 hg w24 hbox hb; have n0_ := Aside0.mk (Kd.R_below (Kd.R_elderB q17 gb254 (Nat.le_of_eq hg.symm)) hb); have n1_ := Aside0.mk (IsS63.below q3 hb); have n2_ := Aside0.mk (KeepBut.trans q5 (KeepBut.of_below hb g none) (.inl rfl)); have n3_ := Aside0.mk (below_step q7 hb); have n4_ := Aside0.mk (hbox); have n5_ := Aside0.mk ((by rw [hg]; exact (keep_size (w := w) (g := g) (row := none) q5) : w.heap.size ≤ gb254)); have n6_ := Aside0.mk ((Nat.le_trans HW0.out (by rw [hg]; exact (keep_size (w := w) (g := g) (row := none) q5) : w.heap.size ≤ gb254) : w0.heap.size ≤ gb254)); have n7_ := Aside0.mk ((by rw [hg]; exact Nat.ne_of_lt (IsS63.lt (show IsS63 w0 _ g s0_0 x1001_1 from q3)) : g ≠ gb254)); have n8_ := Aside0.mk ((by rw [hg]; exact Nat.ne_of_gt (IsS63.lt (show IsS63 w0 _ g s0_0 x1001_1 from q3)) : gb254 ≠ g)); clear HO_5; clear HI0; clear HK; clear HB; have HO_5 := n0_; have HI0 := n1_; have HK := n2_; have HB := n3_; have BK254 := n4_; have GW254 := n5_; have GE254 := n6_; have NB0_254 := n7_; have NB254_0 := n8_; clear n0_ n1_ n2_ n3_ n4_ n5_ n6_ n7_ n8_; clear hb hbox hg; have hnb25 := NB254_0.out; have hnc25 := NB0_254.out; obtain ⟨hcz26_0, hcz26_1, hfz26_0, hfz26_1⟩ := blk2 BK254.out))
   have n0_ : Aside0 (Kd.R k58 58 ((w24.setCell ⟨gb254, 0, none⟩ (.int .i64 ((rd_T58 x5_1 (ji13)).f0))).setCell ⟨gb254, 1, none⟩ (.int .i64 ((rd_T58 x5_1 (ji13)).f1))) w.heap.size (fun k_ => k_ ≠ gb254) (.slice (some ad253) x5_1.length co23) x5_1) := ⟨by (with_reducible repeat (first | apply Kd.R_alloc | apply Kd.R_drewN | apply Kd.R_drew)); exact Kd.R_mono (Kd.R_far (p := ⟨gb254, 1, none⟩) (Kd.R_far (p := ⟨gb254, 0, none⟩) (Kd.R_mono HO_5.out (fun k_ hk => (⟨hk, hk.2⟩ : _ ∧ k_ ≠ gb254))) (fun _ hk => hk.2) (.int .i64 ((rd_T58 x5_1 (ji13)).f0))) (fun _ hk => hk.2) (.int .i64 ((rd_T58 x5_1 (ji13)).f1))) (fun _ hk => hk.1.2)⟩
   have n1_ : Aside0 (((w24.setCell ⟨gb254, 0, none⟩ (.int .i64 ((rd_T58 x5_1 (ji13)).f0))).setCell ⟨gb254, 1, none⟩ (.int .i64 ((rd_T58 x5_1 (ji13)).f1))).heap[gb254]? = some (.cells #[.int .i64 ((rd_T58 x5_1 (ji13)).f0), .int .i64 ((rd_T58 x5_1 (ji13)).f1)] 58 (0, 0))) := ⟨by (with_reducible repeat (first | refine blk_drewN ?_ _ | refine blk_drew ?_ | refine blk_alloc ?_ _)); refine blk_put (cs := #[.int .i64 ((rd_T58 x5_1 (ji13)).f0), .int .i64 0]) ?_ 1 _ rfl; (with_reducible repeat (first | refine blk_drewN ?_ _ | refine blk_drew ?_ | refine blk_alloc ?_ _)); refine blk_put (cs := #[.int .i64 0, .int .i64 0]) ?_ 0 _ rfl; (with_reducible repeat (first | refine blk_drewN ?_ _ | refine blk_drew ?_ | refine blk_alloc ?_ _)); exact BK254.out⟩
   have n2_ : Aside0 (IsS63 w0 ((w24.setCell ⟨gb254, 0, none⟩ (.int .i64 ((rd_T58 x5_1 (ji13)).f0))).setCell ⟨gb254, 1, none⟩ (.int .i64 ((rd_T58 x5_1 (ji13)).f1))) g s0_0 x1001_1) := ⟨q10⟩
   have n3_ : Aside0 (KeepBut w ((w24.setCell ⟨gb254, 0, none⟩ (.int .i64 ((rd_T58 x5_1 (ji13)).f0))).setCell ⟨gb254, 1, none⟩ (.int .i64 ((rd_T58 x5_1 (ji13)).f1))) g none) := ⟨q16⟩
   have n4_ : Aside0 (Below w0.heap.size w0 ((w24.setCell ⟨gb254, 0, none⟩ (.int .i64 ((rd_T58 x5_1 (ji13)).f0))).setCell ⟨gb254, 1, none⟩ (.int .i64 ((rd_T58 x5_1 (ji13)).f1)))) := ⟨q28⟩
   (try clear HO_5)
   (try clear BK254)
   (try clear HI0)
   (try clear HK)
   (try clear HB)
   generalize ((w24.setCell ⟨gb254, 0, none⟩ (.int .i64 ((rd_T58 x5_1 (ji13)).f0))).setCell ⟨gb254, 1, none⟩ (.int .i64 ((rd_T58 x5_1 (ji13)).f1))) = w27 at n0_ n1_ n2_ n3_ n4_ ⊢
   have HO_5 := n0_
   have BK254 := n1_
   have HI0 := n2_
   have HK := n3_
   have HB := n4_
   clear n0_ n1_ n2_ n3_ n4_
   have n0_ := Aside0.mk (Kd.R_drew HO_5.out)
   have n1_ := Aside0.mk (blk_drew BK254.out)
   have n2_ := Aside0.mk (IsS63.drew HI0.out)
   have n3_ := Aside0.mk (keep_drew HK.out)
   have n4_ := Aside0.mk (below_drew1 HB.out)
   clear HO_5
   clear BK254
   clear HI0
   clear HK
   clear HB
   have HO_5 := n0_
   have BK254 := n1_
   have HI0 := n2_
   have HK := n3_
   have HB := n4_
   clear n0_ n1_ n2_ n3_ n4_
   refine start_ (n := 14) (S := fun w' => w'.cell? ⟨gb254, 0, none⟩ = some (.int .i64 ((rd_T58 x5_1 (ji13)).f0)) ∧ w'.cell? ⟨gb254, 1, none⟩ = some (.int .i64 ((rd_T58 x5_1 (ji13)).f1))) (ds := []) #[N_,N_,N_,N_,N_,N_,N_,N_,N_,N_,N_,N_,N_,N_] (by kernel_rfl) rfl rfl ⟨(blk_cell BK254.out 0).trans rfl, (blk_cell BK254.out 1).trans rfl⟩ (fun hHeld => ?_); refine with_tabW paygen_Deck_Brackets.tab6 paygen_Deck_Brackets.bits6 (fun HT_ HW_ => ?_)
   generalize w27.drew = w28 at HO_5 BK254 HI0 HK HB hHeld ⊢
   refine pv_ (i := 0) (N := some 26) #[Y_,N_,N_,N_,N_,N_,N_,N_,N_,N_,N_,N_,N_,N_] (h := ?_)
   refine pv_ (i := 3) (N := some 29) #[Y_,N_,N_,Y_,N_,N_,N_,N_,N_,N_,N_,N_,N_,N_] (h := ?_)
   refine pv_ (i := 4) (N := some 30) #[Y_,N_,N_,Y_,Y_,N_,N_,N_,N_,N_,N_,N_,N_,N_] (h := ?_)
   refine pv_ (i := 9) (N := some 35) #[Y_,N_,N_,Y_,Y_,N_,N_,N_,N_,Y_,N_,N_,N_,N_] (h := ?_)
   refine take_ (i := 1) (N := some 27) (v := ?_) (a' := ?_) #[Y_,Y_,N_,Y_,Y_,N_,N_,N_,N_,Y_,N_,N_,N_,N_] rfl rfl (take_ofW HT_.out HW_.out (by kernel_rfl)) (fun _ _ _ h => h) (Or.inl ⟨by rfl, ?_⟩) hHeld ?_ ?_
   rotate_left
   ·
    rintro w' ⟨s0, s1⟩
    go_simp
    with_reducible rfl
   rotate_left
   ·
    simp only [Act.put, List.setIfInBounds_toArray, List.set_cons_zero, List.set_cons_succ, i64_w, i32_w]
    rfl
   refine pv_ (i := 2) (N := some 28) #[Y_,Y_,Y_,Y_,Y_,N_,N_,N_,N_,Y_,N_,N_,N_,N_] (h := ?_)
   refine join_ (σ := Value × Nat) 1 #[Y_,Y_,Y_,Y_,Y_,Y_,Y_,Y_,Y_,Y_,Y_,Y_,Y_,N_] (fun s_ => [(31, .int .i64 t255), (32, s_.1), (33, .int .i64 t260), (36, .int .i64 t262), (8, .pointer (some ⟨s_.2, 0, none⟩)), (34, .int .i64 (wrap64 ((wrap64 (((rd_T58 x5_1 (ji13)).f0) + 1)) + t260))), (37, .agg #[.int .i64 (wrap64 ((wrap64 (((rd_T58 x5_1 (ji13)).f0) + 1)) + t260)), .int .i64 t262])]) (fun s_ w' => (w'.cell? ⟨gb254, 0, none⟩ = some (.int .i64 ((rd_T58 x5_1 (ji13)).f0)) ∧ w'.cell? ⟨gb254, 1, none⟩ = some (.int .i64 ((rd_T58 x5_1 (ji13)).f1))) ∧ (Kd.R (Kd.int .i64) 3 w' w.heap.size (fun _ => True) s_.1 y257) ∧ (Kd.R k58 58 w' w.heap.size (fun k_ => k_ ≠ gb254 ∧ k_ ≠ s_.2) (.slice (some ad253) x5_1.length co23) x5_1) ∧ (w'.heap[gb254]? = some (.cells #[.int .i64 ((rd_T58 x5_1 (ji13)).f0), .int .i64 ((rd_T58 x5_1 (ji13)).f1)] 58 (0, 0))) ∧ (w'.heap[s_.2]? = some (.cells #[.int .i64 0, .int .i64 0] 58 (0, 0))) ∧ (w.heap.size ≤ s_.2) ∧ (w0.heap.size ≤ s_.2) ∧ (g ≠ s_.2) ∧ (s_.2 ≠ g) ∧ (gb254 ≠ s_.2) ∧ (s_.2 ≠ gb254) ∧ (IsS63 w0 w' g s0_0 t263) ∧ (KeepBut w w' g none) ∧ (Below w0.heap.size w0 w')) ?_ ?_
   rotate_left
   ·
    intro hJ5_6_7_10_12
    refine join_ (σ := Value) 2 #[Y_,Y_,Y_,Y_,Y_,Y_,Y_,Y_,Y_,Y_,Y_,Y_,N_,N_] (fun s_ => [(31, .int .i64 t255), (32, s_), (33, .int .i64 t260), (36, .int .i64 t262), (34, .int .i64 (wrap64 ((wrap64 (((rd_T58 x5_1 (ji13)).f0) + 1)) + t260))), (37, .agg #[.int .i64 (wrap64 ((wrap64 (((rd_T58 x5_1 (ji13)).f0) + 1)) + t260)), .int .i64 t262])]) (fun s_ w' => (w'.cell? ⟨gb254, 0, none⟩ = some (.int .i64 ((rd_T58 x5_1 (ji13)).f0)) ∧ w'.cell? ⟨gb254, 1, none⟩ = some (.int .i64 ((rd_T58 x5_1 (ji13)).f1))) ∧ (Kd.R (Kd.int .i64) 3 w' w.heap.size (fun _ => True) s_ y257) ∧ (Kd.R k58 58 w' w.heap.size (fun k_ => k_ ≠ gb254) (.slice (some ad253) x5_1.length co23) x5_1) ∧ (w'.heap[gb254]? = some (.cells #[.int .i64 ((rd_T58 x5_1 (ji13)).f0), .int .i64 ((rd_T58 x5_1 (ji13)).f1)] 58 (0, 0))) ∧ (IsS63 w0 w' g s0_0 t263) ∧ (KeepBut w w' g none) ∧ (Below w0.heap.size w0 w')) ?_ ?_
    rotate_left
    ·
     intro hJ5_6_7_10
     refine join_ (σ := Value × Nat) 3 #[Y_,Y_,Y_,Y_,Y_,Y_,Y_,Y_,Y_,Y_,N_,N_,Y_,N_] (fun s_ => [(31, .int .i64 t255), (32, s_.1), (33, .int .i64 t260), (8, .pointer (some ⟨s_.2, 0, none⟩)), (34, .int .i64 (wrap64 ((wrap64 (((rd_T58 x5_1 (ji13)).f0) + 1)) + t260)))]) (fun s_ w' => (w'.cell? ⟨gb254, 0, none⟩ = some (.int .i64 ((rd_T58 x5_1 (ji13)).f0)) ∧ w'.cell? ⟨gb254, 1, none⟩ = some (.int .i64 ((rd_T58 x5_1 (ji13)).f1))) ∧ (Kd.R (Kd.int .i64) 3 w' w.heap.size (fun _ => True) s_.1 y257) ∧ (Kd.R k58 58 w' w.heap.size (fun k_ => k_ ≠ gb254 ∧ k_ ≠ s_.2) (.slice (some ad253) x5_1.length co23) x5_1) ∧ (w'.heap[gb254]? = some (.cells #[.int .i64 ((rd_T58 x5_1 (ji13)).f0), .int .i64 ((rd_T58 x5_1 (ji13)).f1)] 58 (0, 0))) ∧ (w'.heap[s_.2]? = some (.cells #[.int .i64 0, .int .i64 0] 58 (0, 0))) ∧ (w.heap.size ≤ s_.2) ∧ (w0.heap.size ≤ s_.2) ∧ (g ≠ s_.2) ∧ (s_.2 ≠ g) ∧ (gb254 ≠ s_.2) ∧ (s_.2 ≠ gb254) ∧ (IsS63 w0 w' g s0_0 t261) ∧ (KeepBut w w' g none) ∧ (Below w0.heap.size w0 w')) ?_ ?_
     rotate_left
     ·
      intro hJ5_6_7_12
      refine join_ (σ := Value) 4 #[Y_,Y_,Y_,Y_,Y_,Y_,Y_,Y_,Y_,Y_,N_,N_,N_,N_] (fun s_ => [(31, .int .i64 t255), (32, s_), (33, .int .i64 t260), (34, .int .i64 (wrap64 ((wrap64 (((rd_T58 x5_1 (ji13)).f0) + 1)) + t260)))]) (fun s_ w' => (w'.cell? ⟨gb254, 0, none⟩ = some (.int .i64 ((rd_T58 x5_1 (ji13)).f0)) ∧ w'.cell? ⟨gb254, 1, none⟩ = some (.int .i64 ((rd_T58 x5_1 (ji13)).f1))) ∧ (Kd.R (Kd.int .i64) 3 w' w.heap.size (fun _ => True) s_ y257) ∧ (Kd.R k58 58 w' w.heap.size (fun k_ => k_ ≠ gb254) (.slice (some ad253) x5_1.length co23) x5_1) ∧ (w'.heap[gb254]? = some (.cells #[.int .i64 ((rd_T58 x5_1 (ji13)).f0), .int .i64 ((rd_T58 x5_1 (ji13)).f1)] 58 (0, 0))) ∧ (IsS63 w0 w' g s0_0 t261) ∧ (KeepBut w w' g none) ∧ (Below w0.heap.size w0 w')) ?_ ?_
      rotate_left
      ·
       intro hJ5_6_7
       refine join_ (σ := Value × Nat) 5 #[Y_,Y_,Y_,Y_,Y_,Y_,Y_,N_,N_,Y_,N_,N_,Y_,N_] (fun s_ => [(31, .int .i64 t255), (32, s_.1), (8, .pointer (some ⟨s_.2, 0, none⟩))]) (fun s_ w' => (w'.cell? ⟨gb254, 0, none⟩ = some (.int .i64 ((rd_T58 x5_1 (ji13)).f0)) ∧ w'.cell? ⟨gb254, 1, none⟩ = some (.int .i64 ((rd_T58 x5_1 (ji13)).f1))) ∧ (Kd.R (Kd.int .i64) 3 w' w.heap.size (fun _ => True) s_.1 y257) ∧ (Kd.R k58 58 w' w.heap.size (fun k_ => k_ ≠ gb254 ∧ k_ ≠ s_.2) (.slice (some ad253) x5_1.length co23) x5_1) ∧ (w'.heap[gb254]? = some (.cells #[.int .i64 ((rd_T58 x5_1 (ji13)).f0), .int .i64 ((rd_T58 x5_1 (ji13)).f1)] 58 (0, 0))) ∧ (w'.heap[s_.2]? = some (.cells #[.int .i64 0, .int .i64 0] 58 (0, 0))) ∧ (w.heap.size ≤ s_.2) ∧ (w0.heap.size ≤ s_.2) ∧ (g ≠ s_.2) ∧ (s_.2 ≠ g) ∧ (gb254 ≠ s_.2) ∧ (s_.2 ≠ gb254) ∧ (IsS63 w0 w' g s0_0 t256) ∧ (KeepBut w w' g none) ∧ (Below w0.heap.size w0 w')) ?_ ?_
       rotate_left
       ·
        intro hJ5_6_12
        refine join_ (σ := Value) 6 #[Y_,Y_,Y_,Y_,Y_,Y_,Y_,N_,N_,Y_,N_,N_,N_,N_] (fun s_ => [(31, .int .i64 t255), (32, s_)]) (fun s_ w' => (w'.cell? ⟨gb254, 0, none⟩ = some (.int .i64 ((rd_T58 x5_1 (ji13)).f0)) ∧ w'.cell? ⟨gb254, 1, none⟩ = some (.int .i64 ((rd_T58 x5_1 (ji13)).f1))) ∧ (Kd.R (Kd.int .i64) 3 w' w.heap.size (fun _ => True) s_ y257) ∧ (Kd.R k58 58 w' w.heap.size (fun k_ => k_ ≠ gb254) (.slice (some ad253) x5_1.length co23) x5_1) ∧ (w'.heap[gb254]? = some (.cells #[.int .i64 ((rd_T58 x5_1 (ji13)).f0), .int .i64 ((rd_T58 x5_1 (ji13)).f1)] 58 (0, 0))) ∧ (IsS63 w0 w' g s0_0 t256) ∧ (KeepBut w w' g none) ∧ (Below w0.heap.size w0 w')) ?_ ?_
        rotate_left
        ·
         intro hJ5_6
         refine join_ (σ := Nat) 6 #[Y_,Y_,Y_,Y_,Y_,Y_,N_,N_,N_,Y_,N_,N_,Y_,N_] (fun s_ => [(31, .int .i64 t255), (8, .pointer (some ⟨s_, 0, none⟩))]) (fun s_ w' => (w'.cell? ⟨gb254, 0, none⟩ = some (.int .i64 ((rd_T58 x5_1 (ji13)).f0)) ∧ w'.cell? ⟨gb254, 1, none⟩ = some (.int .i64 ((rd_T58 x5_1 (ji13)).f1))) ∧ (Kd.R k58 58 w' w.heap.size (fun k_ => k_ ≠ gb254 ∧ k_ ≠ s_) (.slice (some ad253) x5_1.length co23) x5_1) ∧ (w'.heap[gb254]? = some (.cells #[.int .i64 ((rd_T58 x5_1 (ji13)).f0), .int .i64 ((rd_T58 x5_1 (ji13)).f1)] 58 (0, 0))) ∧ (w'.heap[s_]? = some (.cells #[.int .i64 0, .int .i64 0] 58 (0, 0))) ∧ (w.heap.size ≤ s_) ∧ (w0.heap.size ≤ s_) ∧ (g ≠ s_) ∧ (s_ ≠ g) ∧ (gb254 ≠ s_) ∧ (s_ ≠ gb254) ∧ (IsS63 w0 w' g s0_0 t256) ∧ (KeepBut w w' g none) ∧ (Below w0.heap.size w0 w')) ?_ ?_
         rotate_left
         ·
          intro hJ5_12
          refine join_ (σ := Unit) 7 #[Y_,Y_,Y_,Y_,Y_,Y_,N_,N_,N_,Y_,N_,N_,N_,N_] (fun s_ => [(31, .int .i64 t255)]) (fun s_ w' => (w'.cell? ⟨gb254, 0, none⟩ = some (.int .i64 ((rd_T58 x5_1 (ji13)).f0)) ∧ w'.cell? ⟨gb254, 1, none⟩ = some (.int .i64 ((rd_T58 x5_1 (ji13)).f1))) ∧ (Kd.R k58 58 w' w.heap.size (fun k_ => k_ ≠ gb254) (.slice (some ad253) x5_1.length co23) x5_1) ∧ (w'.heap[gb254]? = some (.cells #[.int .i64 ((rd_T58 x5_1 (ji13)).f0), .int .i64 ((rd_T58 x5_1 (ji13)).f1)] 58 (0, 0))) ∧ (IsS63 w0 w' g s0_0 t256) ∧ (KeepBut w w' g none) ∧ (Below w0.heap.size w0 w')) ?_ ?_
          rotate_left
          ·
           intro hJ5
           refine join_ (σ := Nat) 7 #[Y_,Y_,Y_,Y_,Y_,N_,N_,N_,N_,Y_,N_,N_,Y_,N_] (fun s_ => [(8, .pointer (some ⟨s_, 0, none⟩))]) (fun s_ w' => (w'.cell? ⟨gb254, 0, none⟩ = some (.int .i64 ((rd_T58 x5_1 (ji13)).f0)) ∧ w'.cell? ⟨gb254, 1, none⟩ = some (.int .i64 ((rd_T58 x5_1 (ji13)).f1))) ∧ (Kd.R k58 58 w' w.heap.size (fun k_ => k_ ≠ gb254 ∧ k_ ≠ s_) (.slice (some ad253) x5_1.length co23) x5_1) ∧ (w'.heap[gb254]? = some (.cells #[.int .i64 ((rd_T58 x5_1 (ji13)).f0), .int .i64 ((rd_T58 x5_1 (ji13)).f1)] 58 (0, 0))) ∧ (w'.heap[s_]? = some (.cells #[.int .i64 0, .int .i64 0] 58 (0, 0))) ∧ (w.heap.size ≤ s_) ∧ (w0.heap.size ≤ s_) ∧ (g ≠ s_) ∧ (s_ ≠ g) ∧ (gb254 ≠ s_) ∧ (s_ ≠ gb254) ∧ (IsS63 w0 w' g s0_0 x1001_1) ∧ (KeepBut w w' g none) ∧ (Below w0.heap.size w0 w')) ?_ ?_
           rotate_left
           ·
            intro hJ12
            refine two_ (i := 5) (j := 12) (Ni := some 31) (Nj := some 8) #[Y_,Y_,Y_,Y_,Y_,Y_,N_,N_,N_,Y_,N_,N_,N_,N_] #[Y_,Y_,Y_,Y_,Y_,N_,N_,N_,N_,Y_,N_,N_,Y_,N_] rfl rfl rfl rfl (two_of HT_.out (by kernel_rfl)) (by decide) (by decide) (fun K hK => ?_) (fun K hK => ?_)
            ·
             skip
             refine goes_ Try.func17 (by kernel_rfl) rfl #[.pointer (some ⟨g, 0, none⟩), .int .i64 3000000] (by rfl) rfl rfl q1 ?_
             with_reducible refine (paygen_Deck_Next.calls g s0_0 x1001_1 3000000 t255 t256 w0 _ ?side1 ?side2 A16.out).mono ?_
             (case side1 => exact q10)
             (case side2 => exact q28)
             rintro e w29 ⟨rfl, hi, hb, hk⟩
             refine ⟨_, rfl, ?_⟩
             have n0_ := Aside0.mk (Kd.R_mono (Kd.R_keep (IsS63.apart (show IsS63 w0 _ g s0_0 x1001_1 from q10) q17 (by decide)) hk (fun _ h => h.2)) (fun _ h => h.1))
             have n1_ := Aside0.mk (KeepBut.blk hk BK254.out NB254_0.out (by simp))
             have n2_ := Aside0.mk (KeepBut.trans q16 hk (.inl rfl))
             have n3_ := Aside0.mk (hb)
             have n4_ := Aside0.mk (hi)
             clear HO_5
             clear BK254
             clear HK
             clear HB
             clear HI0
             have HO_5 := n0_
             have BK254 := n1_
             have HK := n2_
             have HB := n3_
             have HI0 := n4_
             clear n0_ n1_ n2_ n3_ n4_
             (try clear hb)
             (try clear hb2)
             (try clear hk)
             (try clear hi)
             refine hK.out _ _ ⟨(blk_cell BK254.out 0).trans rfl, (blk_cell BK254.out 1).trans rfl⟩ (fun hHeld => ?_)
             clear hK K
             refine norm_ (a' := ?_) ?_ ?_
             rotate_left
             ·
              show Act.put _ (some 31) _ = _
              simp only [Act.put, List.setIfInBounds_toArray, List.set_cons_zero, List.set_cons_succ, i64_w, i32_w]
              rfl
             exact norm_ q29 (hJ5 () _ ⟨hHeld, q17, q18, q10, q16, q28⟩)
            ·
             skip
             refine box_step ?hg (N := 8) ?hd (cs := #[.int .i64 0, .int .i64 0]) (t := 58) ?hr ?_; (case hd => rfl); (case hg => rfl); (case hr => first | (go_simp; done) | (go_simp; rfl))
             intro gb264 hg w29 hbox hb
             have n0_ := Aside0.mk (Kd.R_below (Kd.R_elderB q17 gb264 (Nat.le_of_eq hg.symm)) hb)
             have n1_ := Aside0.mk (IsS63.below q10 hb)
             have n2_ := Aside0.mk (blk_below BK254.out hb)
             have n3_ := Aside0.mk (KeepBut.trans q16 (KeepBut.of_below hb g none) (.inl rfl))
             have n4_ := Aside0.mk (below_step q28 hb)
             have n5_ := Aside0.mk (hbox)
             have n6_ := Aside0.mk ((by rw [hg]; exact (keep_size (w := w) (g := g) (row := none) q16) : w.heap.size ≤ gb264))
             have n7_ := Aside0.mk ((Nat.le_trans HW0.out (by rw [hg]; exact (keep_size (w := w) (g := g) (row := none) q16) : w.heap.size ≤ gb264) : w0.heap.size ≤ gb264))
             have n8_ := Aside0.mk ((by rw [hg]; exact Nat.ne_of_lt (blk_lt BK254.out) : gb254 ≠ gb264))
             have n9_ := Aside0.mk ((by rw [hg]; exact Nat.ne_of_gt (blk_lt BK254.out) : gb264 ≠ gb254))
             have n10_ := Aside0.mk ((by rw [hg]; exact Nat.ne_of_lt (IsS63.lt (show IsS63 w0 _ g s0_0 x1001_1 from q10)) : g ≠ gb264))
             have n11_ := Aside0.mk ((by rw [hg]; exact Nat.ne_of_gt (IsS63.lt (show IsS63 w0 _ g s0_0 x1001_1 from q10)) : gb264 ≠ g))
             clear HO_5
             clear HI0
             clear BK254
             clear HK
             clear HB
             have HO_5 := n0_
             have HI0 := n1_
             have BK254 := n2_
             have HK := n3_
             have HB := n4_
             have BK264 := n5_
             have GW264 := n6_
             have GE264 := n7_
             have NB254_264 := n8_
             have NB264_254 := n9_
             have NB0_264 := n10_
             have NB264_0 := n11_
             clear n0_ n1_ n2_ n3_ n4_ n5_ n6_ n7_ n8_ n9_ n10_ n11_
             clear hb hbox hg
             refine hK.out _ _ ⟨(blk_cell BK254.out 0).trans rfl, (blk_cell BK254.out 1).trans rfl⟩ (fun hHeld => ?_)
             clear hK K
             refine norm_ (a' := ?_) ?_ ?_
             rotate_left
             ·
              show Act.put _ (some 8) _ = _
              simp only [Act.put, List.setIfInBounds_toArray, List.set_cons_zero, List.set_cons_succ, i64_w, i32_w]
              rfl
             exact norm_ q29 (hJ12 (gb264) _ ⟨hHeld, q17, q18, q48, GW264.out, GE264.out, NB0_264.out, NB264_0.out, NB254_264.out, NB264_254.out, q11, q23, q24⟩)
           ·
            skip
            rintro gb264 w30 ⟨hS_, h0_, h1_, h2_, h3_, h4_, h5_, h6_, h7_, h8_, h9_, h10_, h11_⟩
            have n0_ : Aside0 (Kd.R k58 58 w30 w.heap.size (fun k_ => k_ ≠ gb254 ∧ k_ ≠ gb264) (.slice (some ad253) x5_1.length co23) x5_1) := ⟨h0_⟩
            have n1_ : Aside0 (w30.heap[gb254]? = some (.cells #[.int .i64 ((rd_T58 x5_1 (ji13)).f0), .int .i64 ((rd_T58 x5_1 (ji13)).f1)] 58 (0, 0))) := ⟨h1_⟩
            have n2_ : Aside0 (w30.heap[gb264]? = some (.cells #[.int .i64 0, .int .i64 0] 58 (0, 0))) := ⟨h2_⟩
            have n3_ : Aside0 (w.heap.size ≤ gb264) := ⟨h3_⟩
            have n4_ : Aside0 (w0.heap.size ≤ gb264) := ⟨h4_⟩
            have n5_ : Aside0 (g ≠ gb264) := ⟨h5_⟩
            have n6_ : Aside0 (gb264 ≠ g) := ⟨h6_⟩
            have n7_ : Aside0 (gb254 ≠ gb264) := ⟨h7_⟩
            have n8_ : Aside0 (gb264 ≠ gb254) := ⟨h8_⟩
            have n9_ : Aside0 (IsS63 w0 w30 g s0_0 x1001_1) := ⟨h9_⟩
            have n10_ : Aside0 (KeepBut w w30 g none) := ⟨h10_⟩
            have n11_ : Aside0 (Below w0.heap.size w0 w30) := ⟨h11_⟩
            clear HO_5
            clear BK254
            clear HI0
            clear HK
            clear HB
            clear h0_ h1_ h2_ h3_ h4_ h5_ h6_ h7_ h8_ h9_ h10_ h11_
            have HO_5 := n0_
            have BK254 := n1_
            have BK264 := n2_
            have GW264 := n3_
            have GE264 := n4_
            have NB0_264 := n5_
            have NB264_0 := n6_
            have NB254_264 := n7_
            have NB264_254 := n8_
            have HI0 := n9_
            have HK := n10_
            have HB := n11_
            clear n0_ n1_ n2_ n3_ n4_ n5_ n6_ n7_ n8_ n9_ n10_ n11_
            have hHeld : w30.cell? ⟨gb254, 0, none⟩ = some (.int .i64 ((rd_T58 x5_1 (ji13)).f0)) ∧ w30.cell? ⟨gb254, 1, none⟩ = some (.int .i64 ((rd_T58 x5_1 (ji13)).f1)) := hS_
            refine norm_ (a' := ?_) ?_ ?_
            rotate_left
            ·
             simp only [putAll, Act.put, List.setIfInBounds_toArray, List.set_cons_zero, List.set_cons_succ]
             rfl
            refine one_ (i := 5) (N := some 31) #[Y_,Y_,Y_,Y_,Y_,Y_,N_,N_,N_,Y_,N_,N_,Y_,N_] rfl rfl (one_of HT_.out (by kernel_rfl)) (by decide) (fun K hK => ?_)
            refine goes_ Try.func17 (by kernel_rfl) rfl #[.pointer (some ⟨g, 0, none⟩), .int .i64 3000000] (by rfl) rfl rfl q1 ?_
            with_reducible refine (paygen_Deck_Next.calls g s0_0 x1001_1 3000000 t255 t256 w0 _ ?side1 ?side2 A16.out).mono ?_
            (case side1 => exact q11)
            (case side2 => exact q24)
            rintro e w31 ⟨rfl, hi, hb, hk⟩
            refine ⟨_, rfl, ?_⟩
            have n0_ := Aside0.mk (Kd.R_mono (Kd.R_keep (IsS63.apart (show IsS63 w0 _ g s0_0 x1001_1 from q11) q17 (by decide)) hk (fun _ h => h.2)) (fun _ h => h.1))
            have n1_ := Aside0.mk (KeepBut.blk hk BK254.out NB254_0.out (by simp))
            have n2_ := Aside0.mk (KeepBut.blk hk BK264.out NB264_0.out (by simp))
            have n3_ := Aside0.mk (KeepBut.trans q23 hk (.inl rfl))
            have n4_ := Aside0.mk (hb)
            have n5_ := Aside0.mk (hi)
            clear HO_5
            clear BK254
            clear BK264
            clear HK
            clear HB
            clear HI0
            have HO_5 := n0_
            have BK254 := n1_
            have BK264 := n2_
            have HK := n3_
            have HB := n4_
            have HI0 := n5_
            clear n0_ n1_ n2_ n3_ n4_ n5_
            (try clear hb)
            (try clear hb2)
            (try clear hk)
            (try clear hi)
            refine hK.out _ _ ⟨(blk_cell BK254.out 0).trans rfl, (blk_cell BK254.out 1).trans rfl⟩ (fun hHeld => ?_)
            clear hK K
            refine norm_ (a' := ?_) ?_ ?_
            rotate_left
            ·
             show Act.put _ (some 31) _ = _
             simp only [Act.put, List.setIfInBounds_toArray, List.set_cons_zero, List.set_cons_succ, i64_w, i32_w]
             rfl
            exact norm_ q29 (hJ5_12 (gb264) _ ⟨hHeld, q17, q18, q48, GW264.out, GE264.out, NB0_264.out, NB264_0.out, NB254_264.out, NB264_254.out, q11, q23, q24⟩)
          ·
           skip
           rintro _ w30 ⟨hS_, h0_, h1_, h2_, h3_, h4_⟩
           have n0_ : Aside0 (Kd.R k58 58 w30 w.heap.size (fun k_ => k_ ≠ gb254) (.slice (some ad253) x5_1.length co23) x5_1) := ⟨h0_⟩
           have n1_ : Aside0 (w30.heap[gb254]? = some (.cells #[.int .i64 ((rd_T58 x5_1 (ji13)).f0), .int .i64 ((rd_T58 x5_1 (ji13)).f1)] 58 (0, 0))) := ⟨h1_⟩
           have n2_ : Aside0 (IsS63 w0 w30 g s0_0 t256) := ⟨h2_⟩
           have n3_ : Aside0 (KeepBut w w30 g none) := ⟨h3_⟩
           have n4_ : Aside0 (Below w0.heap.size w0 w30) := ⟨h4_⟩
           clear HO_5
           clear BK254
           clear HI0
           clear HK
           clear HB
           clear h0_ h1_ h2_ h3_ h4_
           have HO_5 := n0_
           have BK254 := n1_
           have HI0 := n2_
           have HK := n3_
           have HB := n4_
           clear n0_ n1_ n2_ n3_ n4_
           have hHeld : w30.cell? ⟨gb254, 0, none⟩ = some (.int .i64 ((rd_T58 x5_1 (ji13)).f0)) ∧ w30.cell? ⟨gb254, 1, none⟩ = some (.int .i64 ((rd_T58 x5_1 (ji13)).f1)) := hS_
           refine norm_ (a' := ?_) ?_ ?_
           rotate_left
           ·
            simp only [putAll, Act.put, List.setIfInBounds_toArray, List.set_cons_zero, List.set_cons_succ]
            rfl
           refine two_ (i := 6) (j := 12) (Ni := some 32) (Nj := some 8) #[Y_,Y_,Y_,Y_,Y_,Y_,Y_,N_,N_,Y_,N_,N_,N_,N_] #[Y_,Y_,Y_,Y_,Y_,Y_,N_,N_,N_,Y_,N_,N_,Y_,N_] rfl rfl rfl rfl (two_of HT_.out (by kernel_rfl)) (by decide) (by decide) (fun K hK => ?_) (fun K hK => ?_)
           ·
            skip
            refine Kd.R_lit_step (Kd.int .i64) _ 3 ?hg (N := 32) ?hd (xs := ([0, 99, t255] : List Int)) (inner := [.int .i64 0, .int .i64 99, .int .i64 t255]) (ok := fun _ => True) (okp := fun _ => True) ?hr ?hp (fun _ hk => hk) trivial (Below.refl _ _) (Nat.le_refl _) (by simp) ?_; (case hd => rfl); (case hg => rfl); (case hr => first | (go_simp; done) | (go_simp; rfl)); (case hp => exact (Reps.one (show Kd.M (Kd.int .i64) _ _ _ 0 [.int .i64 0] from rfl) (Reps.one (show Kd.M (Kd.int .i64) _ _ _ 99 [.int .i64 99] from rfl) (Reps.one (show Kd.M (Kd.int .i64) _ _ _ t255 [.int .i64 t255] from rfl) (Reps.none _ _)))))
            intro v258 w31 ho32 hb hg_ hnew_
            clear hg_ hnew_
            (first | rw [← Ny257.out] at ho32 | (simp only [Int.reduceToNat] at ho32; rw [← Ny257.out] at ho32))
            have n0_ := Aside0.mk (Kd.R_below q17 hb)
            have n1_ := Aside0.mk (Kd.R_lower ho32 (keep_size (w := w) (g := g) (row := none) q16))
            have n2_ := Aside0.mk (IsS63.below q10 hb)
            have n3_ := Aside0.mk (blk_below BK254.out hb)
            have n4_ := Aside0.mk (KeepBut.trans q16 (KeepBut.of_below hb g none) (.inl rfl))
            have n5_ := Aside0.mk (below_step q28 hb)
            clear HO_5
            clear HI0
            clear BK254
            clear HK
            clear HB
            have HO_5 := n0_
            have HO259 := n1_
            have HI0 := n2_
            have BK254 := n3_
            have HK := n4_
            have HB := n5_
            clear n0_ n1_ n2_ n3_ n4_ n5_
            clear hb ho32
            refine hK.out _ _ ⟨(blk_cell BK254.out 0).trans rfl, (blk_cell BK254.out 1).trans rfl⟩ (fun hHeld => ?_)
            clear hK K
            refine norm_ (a' := ?_) ?_ ?_
            rotate_left
            ·
             show Act.put _ (some 32) _ = _
             simp only [Act.put, List.setIfInBounds_toArray, List.set_cons_zero, List.set_cons_succ, i64_w, i32_w]
             rfl
            exact norm_ q29 (hJ5_6 (v258) _ ⟨hHeld, q45, q17, q18, q10, q16, q28⟩)
           ·
            skip
            refine box_step ?hg (N := 8) ?hd (cs := #[.int .i64 0, .int .i64 0]) (t := 58) ?hr ?_; (case hd => rfl); (case hg => rfl); (case hr => first | (go_simp; done) | (go_simp; rfl))
            intro gb264 hg w31 hbox hb
            have n0_ := Aside0.mk (Kd.R_below (Kd.R_elderB q17 gb264 (Nat.le_of_eq hg.symm)) hb)
            have n1_ := Aside0.mk (IsS63.below q10 hb)
            have n2_ := Aside0.mk (blk_below BK254.out hb)
            have n3_ := Aside0.mk (KeepBut.trans q16 (KeepBut.of_below hb g none) (.inl rfl))
            have n4_ := Aside0.mk (below_step q28 hb)
            have n5_ := Aside0.mk (hbox)
            have n6_ := Aside0.mk ((by rw [hg]; exact (keep_size (w := w) (g := g) (row := none) q16) : w.heap.size ≤ gb264))
            have n7_ := Aside0.mk ((Nat.le_trans HW0.out (by rw [hg]; exact (keep_size (w := w) (g := g) (row := none) q16) : w.heap.size ≤ gb264) : w0.heap.size ≤ gb264))
            have n8_ := Aside0.mk ((by rw [hg]; exact Nat.ne_of_lt (blk_lt BK254.out) : gb254 ≠ gb264))
            have n9_ := Aside0.mk ((by rw [hg]; exact Nat.ne_of_gt (blk_lt BK254.out) : gb264 ≠ gb254))
            have n10_ := Aside0.mk ((by rw [hg]; exact Nat.ne_of_lt (IsS63.lt (show IsS63 w0 _ g s0_0 t256 from q10)) : g ≠ gb264))
            have n11_ := Aside0.mk ((by rw [hg]; exact Nat.ne_of_gt (IsS63.lt (show IsS63 w0 _ g s0_0 t256 from q10)) : gb264 ≠ g))
            clear HO_5
            clear HI0
            clear BK254
            clear HK
            clear HB
            have HO_5 := n0_
            have HI0 := n1_
            have BK254 := n2_
            have HK := n3_
            have HB := n4_
            have BK264 := n5_
            have GW264 := n6_
            have GE264 := n7_
            have NB254_264 := n8_
            have NB264_254 := n9_
            have NB0_264 := n10_
            have NB264_0 := n11_
            clear n0_ n1_ n2_ n3_ n4_ n5_ n6_ n7_ n8_ n9_ n10_ n11_
            clear hb hbox hg
            refine hK.out _ _ ⟨(blk_cell BK254.out 0).trans rfl, (blk_cell BK254.out 1).trans rfl⟩ (fun hHeld => ?_)
            clear hK K
            refine norm_ (a' := ?_) ?_ ?_
            rotate_left
            ·
             show Act.put _ (some 8) _ = _
             simp only [Act.put, List.setIfInBounds_toArray, List.set_cons_zero, List.set_cons_succ, i64_w, i32_w]
             rfl
            exact norm_ q29 (hJ5_12 (gb264) _ ⟨hHeld, q17, q18, q48, GW264.out, GE264.out, NB0_264.out, NB264_0.out, NB254_264.out, NB264_254.out, q11, q23, q24⟩)
         ·
          skip
          rintro gb264 w31 ⟨hS_, h0_, h1_, h2_, h3_, h4_, h5_, h6_, h7_, h8_, h9_, h10_, h11_⟩
          have n0_ : Aside0 (Kd.R k58 58 w31 w.heap.size (fun k_ => k_ ≠ gb254 ∧ k_ ≠ gb264) (.slice (some ad253) x5_1.length co23) x5_1) := ⟨h0_⟩
          have n1_ : Aside0 (w31.heap[gb254]? = some (.cells #[.int .i64 ((rd_T58 x5_1 (ji13)).f0), .int .i64 ((rd_T58 x5_1 (ji13)).f1)] 58 (0, 0))) := ⟨h1_⟩
          have n2_ : Aside0 (w31.heap[gb264]? = some (.cells #[.int .i64 0, .int .i64 0] 58 (0, 0))) := ⟨h2_⟩
          have n3_ : Aside0 (w.heap.size ≤ gb264) := ⟨h3_⟩
          have n4_ : Aside0 (w0.heap.size ≤ gb264) := ⟨h4_⟩
          have n5_ : Aside0 (g ≠ gb264) := ⟨h5_⟩
          have n6_ : Aside0 (gb264 ≠ g) := ⟨h6_⟩
          have n7_ : Aside0 (gb254 ≠ gb264) := ⟨h7_⟩
          have n8_ : Aside0 (gb264 ≠ gb254) := ⟨h8_⟩
          have n9_ : Aside0 (IsS63 w0 w31 g s0_0 t256) := ⟨h9_⟩
          have n10_ : Aside0 (KeepBut w w31 g none) := ⟨h10_⟩
          have n11_ : Aside0 (Below w0.heap.size w0 w31) := ⟨h11_⟩
          clear HO_5
          clear BK254
          clear HI0
          clear HK
          clear HB
          clear h0_ h1_ h2_ h3_ h4_ h5_ h6_ h7_ h8_ h9_ h10_ h11_
          have HO_5 := n0_
          have BK254 := n1_
          have BK264 := n2_
          have GW264 := n3_
          have GE264 := n4_
          have NB0_264 := n5_
          have NB264_0 := n6_
          have NB254_264 := n7_
          have NB264_254 := n8_
          have HI0 := n9_
          have HK := n10_
          have HB := n11_
          clear n0_ n1_ n2_ n3_ n4_ n5_ n6_ n7_ n8_ n9_ n10_ n11_
          have hHeld : w31.cell? ⟨gb254, 0, none⟩ = some (.int .i64 ((rd_T58 x5_1 (ji13)).f0)) ∧ w31.cell? ⟨gb254, 1, none⟩ = some (.int .i64 ((rd_T58 x5_1 (ji13)).f1)) := hS_
          refine norm_ (a' := ?_) ?_ ?_
          rotate_left
          ·
           simp only [putAll, Act.put, List.setIfInBounds_toArray, List.set_cons_zero, List.set_cons_succ]
           rfl
          refine one_ (i := 6) (N := some 32) #[Y_,Y_,Y_,Y_,Y_,Y_,Y_,N_,N_,Y_,N_,N_,Y_,N_] rfl rfl (one_of HT_.out (by kernel_rfl)) (by decide) (fun K hK => ?_)
          refine Kd.R_lit_step (Kd.int .i64) _ 3 ?hg (N := 32) ?hd (xs := ([0, 99, t255] : List Int)) (inner := [.int .i64 0, .int .i64 99, .int .i64 t255]) (ok := fun _ => True) (okp := fun _ => True) ?hr ?hp (fun _ hk => hk) trivial (Below.refl _ _) (Nat.le_refl _) (by simp) ?_; (case hd => rfl); (case hg => rfl); (case hr => first | (go_simp; done) | (go_simp; rfl)); (case hp => exact (Reps.one (show Kd.M (Kd.int .i64) _ _ _ 0 [.int .i64 0] from rfl) (Reps.one (show Kd.M (Kd.int .i64) _ _ _ 99 [.int .i64 99] from rfl) (Reps.one (show Kd.M (Kd.int .i64) _ _ _ t255 [.int .i64 t255] from rfl) (Reps.none _ _)))))
          intro v258 w32 ho33 hb hg_ hnew_
          clear hg_ hnew_
          (first | rw [← Ny257.out] at ho33 | (simp only [Int.reduceToNat] at ho33; rw [← Ny257.out] at ho33))
          have n0_ := Aside0.mk (Kd.R_below q17 hb)
          have n1_ := Aside0.mk (Kd.R_lower ho33 (keep_size (w := w) (g := g) (row := none) q23))
          have n2_ := Aside0.mk (IsS63.below q11 hb)
          have n3_ := Aside0.mk (blk_below BK254.out hb)
          have n4_ := Aside0.mk (blk_below BK264.out hb)
          have n5_ := Aside0.mk (KeepBut.trans q23 (KeepBut.of_below hb g none) (.inl rfl))
          have n6_ := Aside0.mk (below_step q24 hb)
          clear HO_5
          clear HI0
          clear BK254
          clear BK264
          clear HK
          clear HB
          have HO_5 := n0_
          have HO259 := n1_
          have HI0 := n2_
          have BK254 := n3_
          have BK264 := n4_
          have HK := n5_
          have HB := n6_
          clear n0_ n1_ n2_ n3_ n4_ n5_ n6_
          clear hb ho33
          refine hK.out _ _ ⟨(blk_cell BK254.out 0).trans rfl, (blk_cell BK254.out 1).trans rfl⟩ (fun hHeld => ?_)
          clear hK K
          refine norm_ (a' := ?_) ?_ ?_
          rotate_left
          ·
           show Act.put _ (some 32) _ = _
           simp only [Act.put, List.setIfInBounds_toArray, List.set_cons_zero, List.set_cons_succ, i64_w, i32_w]
           rfl
          exact norm_ q29 (hJ5_6_12 (v258, gb264) _ ⟨hHeld, q45, q17, q18, q48, GW264.out, GE264.out, NB0_264.out, NB264_0.out, NB254_264.out, NB264_254.out, q11, q23, q24⟩)
        ·
         skip
         rintro v258 w32 ⟨hS_, h0_, h1_, h2_, h3_, h4_, h5_⟩
         have n0_ : Aside0 (Kd.R (Kd.int .i64) 3 w32 w.heap.size (fun _ => True) v258 y257) := ⟨h0_⟩
         have n1_ : Aside0 (Kd.R k58 58 w32 w.heap.size (fun k_ => k_ ≠ gb254) (.slice (some ad253) x5_1.length co23) x5_1) := ⟨h1_⟩
         have n2_ : Aside0 (w32.heap[gb254]? = some (.cells #[.int .i64 ((rd_T58 x5_1 (ji13)).f0), .int .i64 ((rd_T58 x5_1 (ji13)).f1)] 58 (0, 0))) := ⟨h2_⟩
         have n3_ : Aside0 (IsS63 w0 w32 g s0_0 t256) := ⟨h3_⟩
         have n4_ : Aside0 (KeepBut w w32 g none) := ⟨h4_⟩
         have n5_ : Aside0 (Below w0.heap.size w0 w32) := ⟨h5_⟩
         clear HO_5
         clear BK254
         clear HI0
         clear HK
         clear HB
         clear h0_ h1_ h2_ h3_ h4_ h5_
         have HO259 := n0_
         have HO_5 := n1_
         have BK254 := n2_
         have HI0 := n3_
         have HK := n4_
         have HB := n5_
         clear n0_ n1_ n2_ n3_ n4_ n5_
         have hHeld : w32.cell? ⟨gb254, 0, none⟩ = some (.int .i64 ((rd_T58 x5_1 (ji13)).f0)) ∧ w32.cell? ⟨gb254, 1, none⟩ = some (.int .i64 ((rd_T58 x5_1 (ji13)).f1)) := hS_
         obtain ⟨Ao33, co33, eo33⟩ := Kd.R_slice HO259.out
         (first | subst eo33 | (injection eo33 with f1_ f2_ f3_; have f4_ := f1_.symm; have f5_ := f3_.symm; clear f1_ f2_ f3_; subst f4_; subst f5_))
         refine norm_ (a' := ?_) ?_ ?_
         rotate_left
         ·
          simp only [putAll, Act.put, List.setIfInBounds_toArray, List.set_cons_zero, List.set_cons_succ]
          rfl
         refine two_ (i := 7) (j := 12) (Ni := some 33) (Nj := some 8) #[Y_,Y_,Y_,Y_,Y_,Y_,Y_,Y_,N_,Y_,N_,N_,N_,N_] #[Y_,Y_,Y_,Y_,Y_,Y_,Y_,N_,N_,Y_,N_,N_,Y_,N_] rfl rfl rfl rfl (two_of HT_.out (by kernel_rfl)) (by decide) (by decide) (fun K hK => ?_) (fun K hK => ?_)
         ·
          skip
          refine goes_ Try.func15 (by kernel_rfl) rfl #[.pointer (some ⟨g, 0, none⟩), .slice Ao33 y257.length co33] (by rfl) rfl rfl q1 ?_
          with_reducible refine (paygen_Deck_Pick.calls g s0_0 t256 _ _ y257 t260 t261 w0 _ ?side1 ?side2 ?side3 ?side4 ?side5 A17.out).mono ?_
          (case side1 => exact q10)
          (case side2 => exact q28)
          (case side3 => exact q143)
          (case side4 => exact (Kd.R_reads' HO259.out).2.1)
          (case side5 => exact far_slice (IsS63.own_ne HI0.out HO259.out (by decide)))
          rintro e w34 ⟨rfl, hi, hb, hk⟩
          refine ⟨_, rfl, ?_⟩
          have n0_ := Aside0.mk (Kd.R_mono (Kd.R_keep (IsS63.apart (show IsS63 w0 _ g s0_0 t256 from q10) q17 (by decide)) hk (fun _ h => h.2)) (fun _ h => h.1))
          have n1_ := Aside0.mk (KeepBut.blk hk BK254.out NB254_0.out (by simp))
          have n2_ := Aside0.mk (Kd.R_mono (Kd.R_keep (IsS63.apart (show IsS63 w0 _ g s0_0 t256 from q10) q45 (by decide)) hk (fun _ h => h.2)) (fun _ h => h.1))
          have n3_ := Aside0.mk (KeepBut.trans q16 hk (.inl rfl))
          have n4_ := Aside0.mk (hb)
          have n5_ := Aside0.mk (hi)
          clear HO_5
          clear BK254
          clear HO259
          clear HK
          clear HB
          clear HI0
          have HO_5 := n0_
          have BK254 := n1_
          have HO259 := n2_
          have HK := n3_
          have HB := n4_
          have HI0 := n5_
          clear n0_ n1_ n2_ n3_ n4_ n5_
          (try clear hb)
          (try clear hb2)
          (try clear hk)
          (try clear hi)
          refine hK.out _ _ ⟨(blk_cell BK254.out 0).trans rfl, (blk_cell BK254.out 1).trans rfl⟩ (fun hHeld => ?_)
          clear hK K
          refine norm_ (a' := ?_) ?_ ?_
          rotate_left
          ·
           show Act.put _ (some 33) _ = _
           simp only [Act.put, List.setIfInBounds_toArray, List.set_cons_zero, List.set_cons_succ, i64_w, i32_w]
           rfl
          refine pv_ (i := 8) (N := some 34) #[Y_,Y_,Y_,Y_,Y_,Y_,Y_,Y_,Y_,Y_,N_,N_,N_,N_] (h := ?_)
          exact norm_ q29 (hJ5_6_7 (.slice Ao33 y257.length co33) _ ⟨hHeld, q45, q17, q18, q10, q16, q28⟩)
         ·
          skip
          refine box_step ?hg (N := 8) ?hd (cs := #[.int .i64 0, .int .i64 0]) (t := 58) ?hr ?_; (case hd => rfl); (case hg => rfl); (case hr => first | (go_simp; done) | (go_simp; rfl))
          intro gb264 hg w33 hbox hb
          have n0_ := Aside0.mk (Kd.R_below (Kd.R_elderB q17 gb264 (Nat.le_of_eq hg.symm)) hb)
          have n1_ := Aside0.mk (Kd.R_below q45 hb)
          have n2_ := Aside0.mk (IsS63.below q10 hb)
          have n3_ := Aside0.mk (blk_below BK254.out hb)
          have n4_ := Aside0.mk (KeepBut.trans q16 (KeepBut.of_below hb g none) (.inl rfl))
          have n5_ := Aside0.mk (below_step q28 hb)
          have n6_ := Aside0.mk (hbox)
          have n7_ := Aside0.mk ((by rw [hg]; exact (keep_size (w := w) (g := g) (row := none) q16) : w.heap.size ≤ gb264))
          have n8_ := Aside0.mk ((Nat.le_trans HW0.out (by rw [hg]; exact (keep_size (w := w) (g := g) (row := none) q16) : w.heap.size ≤ gb264) : w0.heap.size ≤ gb264))
          have n9_ := Aside0.mk ((by rw [hg]; exact Nat.ne_of_lt (blk_lt BK254.out) : gb254 ≠ gb264))
          have n10_ := Aside0.mk ((by rw [hg]; exact Nat.ne_of_gt (blk_lt BK254.out) : gb264 ≠ gb254))
          have n11_ := Aside0.mk ((by rw [hg]; exact Nat.ne_of_lt (IsS63.lt (show IsS63 w0 _ g s0_0 t256 from q10)) : g ≠ gb264))
          have n12_ := Aside0.mk ((by rw [hg]; exact Nat.ne_of_gt (IsS63.lt (show IsS63 w0 _ g s0_0 t256 from q10)) : gb264 ≠ g))
          clear HO_5
          clear HO259
          clear HI0
          clear BK254
          clear HK
          clear HB
          have HO_5 := n0_
          have HO259 := n1_
          have HI0 := n2_
          have BK254 := n3_
          have HK := n4_
          have HB := n5_
          have BK264 := n6_
          have GW264 := n7_
          have GE264 := n8_
          have NB254_264 := n9_
          have NB264_254 := n10_
          have NB0_264 := n11_
          have NB264_0 := n12_
          clear n0_ n1_ n2_ n3_ n4_ n5_ n6_ n7_ n8_ n9_ n10_ n11_ n12_
          clear hb hbox hg
          refine hK.out _ _ ⟨(blk_cell BK254.out 0).trans rfl, (blk_cell BK254.out 1).trans rfl⟩ (fun hHeld => ?_)
          clear hK K
          refine norm_ (a' := ?_) ?_ ?_
          rotate_left
          ·
           show Act.put _ (some 8) _ = _
           simp only [Act.put, List.setIfInBounds_toArray, List.set_cons_zero, List.set_cons_succ, i64_w, i32_w]
           rfl
          exact norm_ q29 (hJ5_6_12 (.slice Ao33 y257.length co33, gb264) _ ⟨hHeld, q45, q17, q18, q48, GW264.out, GE264.out, NB0_264.out, NB264_0.out, NB254_264.out, NB264_254.out, q11, q23, q24⟩)
       ·
        skip
        rintro ⟨v258, gb264⟩ w33 ⟨hS_, h0_, h1_, h2_, h3_, h4_, h5_, h6_, h7_, h8_, h9_, h10_, h11_, h12_⟩
        have n0_ : Aside0 (Kd.R (Kd.int .i64) 3 w33 w.heap.size (fun _ => True) v258 y257) := ⟨h0_⟩
        have n1_ : Aside0 (Kd.R k58 58 w33 w.heap.size (fun k_ => k_ ≠ gb254 ∧ k_ ≠ gb264) (.slice (some ad253) x5_1.length co23) x5_1) := ⟨h1_⟩
        have n2_ : Aside0 (w33.heap[gb254]? = some (.cells #[.int .i64 ((rd_T58 x5_1 (ji13)).f0), .int .i64 ((rd_T58 x5_1 (ji13)).f1)] 58 (0, 0))) := ⟨h2_⟩
        have n3_ : Aside0 (w33.heap[gb264]? = some (.cells #[.int .i64 0, .int .i64 0] 58 (0, 0))) := ⟨h3_⟩
        have n4_ : Aside0 (w.heap.size ≤ gb264) := ⟨h4_⟩
        have n5_ : Aside0 (w0.heap.size ≤ gb264) := ⟨h5_⟩
        have n6_ : Aside0 (g ≠ gb264) := ⟨h6_⟩
        have n7_ : Aside0 (gb264 ≠ g) := ⟨h7_⟩
        have n8_ : Aside0 (gb254 ≠ gb264) := ⟨h8_⟩
        have n9_ : Aside0 (gb264 ≠ gb254) := ⟨h9_⟩
        have n10_ : Aside0 (IsS63 w0 w33 g s0_0 t256) := ⟨h10_⟩
        have n11_ : Aside0 (KeepBut w w33 g none) := ⟨h11_⟩
        have n12_ : Aside0 (Below w0.heap.size w0 w33) := ⟨h12_⟩
        clear HO_5
        clear BK254
        clear HI0
        clear HK
        clear HB
        clear h0_ h1_ h2_ h3_ h4_ h5_ h6_ h7_ h8_ h9_ h10_ h11_ h12_
        have HO259 := n0_
        have HO_5 := n1_
        have BK254 := n2_
        have BK264 := n3_
        have GW264 := n4_
        have GE264 := n5_
        have NB0_264 := n6_
        have NB264_0 := n7_
        have NB254_264 := n8_
        have NB264_254 := n9_
        have HI0 := n10_
        have HK := n11_
        have HB := n12_
        clear n0_ n1_ n2_ n3_ n4_ n5_ n6_ n7_ n8_ n9_ n10_ n11_ n12_
        have hHeld : w33.cell? ⟨gb254, 0, none⟩ = some (.int .i64 ((rd_T58 x5_1 (ji13)).f0)) ∧ w33.cell? ⟨gb254, 1, none⟩ = some (.int .i64 ((rd_T58 x5_1 (ji13)).f1)) := hS_
        obtain ⟨Ao34, co34, eo34⟩ := Kd.R_slice HO259.out
        (first | subst eo34 | (injection eo34 with f1_ f2_ f3_; have f4_ := f1_.symm; have f5_ := f3_.symm; clear f1_ f2_ f3_; subst f4_; subst f5_))
        refine norm_ (a' := ?_) ?_ ?_
        rotate_left
        ·
         simp only [putAll, Act.put, List.setIfInBounds_toArray, List.set_cons_zero, List.set_cons_succ]
         rfl
        refine one_ (i := 7) (N := some 33) #[Y_,Y_,Y_,Y_,Y_,Y_,Y_,Y_,N_,Y_,N_,N_,Y_,N_] rfl rfl (one_of HT_.out (by kernel_rfl)) (by decide) (fun K hK => ?_)
        refine goes_ Try.func15 (by kernel_rfl) rfl #[.pointer (some ⟨g, 0, none⟩), .slice Ao34 y257.length co34] (by rfl) rfl rfl q1 ?_
        with_reducible refine (paygen_Deck_Pick.calls g s0_0 t256 _ _ y257 t260 t261 w0 _ ?side1 ?side2 ?side3 ?side4 ?side5 A17.out).mono ?_
        (case side1 => exact q11)
        (case side2 => exact q24)
        (case side3 => exact q143)
        (case side4 => exact (Kd.R_reads' HO259.out).2.1)
        (case side5 => exact far_slice (IsS63.own_ne HI0.out HO259.out (by decide)))
        rintro e w35 ⟨rfl, hi, hb, hk⟩
        refine ⟨_, rfl, ?_⟩
        have n0_ := Aside0.mk (Kd.R_mono (Kd.R_keep (IsS63.apart (show IsS63 w0 _ g s0_0 t256 from q11) q17 (by decide)) hk (fun _ h => h.2)) (fun _ h => h.1))
        have n1_ := Aside0.mk (KeepBut.blk hk BK254.out NB254_0.out (by simp))
        have n2_ := Aside0.mk (Kd.R_mono (Kd.R_keep (IsS63.apart (show IsS63 w0 _ g s0_0 t256 from q11) q45 (by decide)) hk (fun _ h => h.2)) (fun _ h => h.1))
        have n3_ := Aside0.mk (KeepBut.blk hk BK264.out NB264_0.out (by simp))
        have n4_ := Aside0.mk (KeepBut.trans q23 hk (.inl rfl))
        have n5_ := Aside0.mk (hb)
        have n6_ := Aside0.mk (hi)
        clear HO_5
        clear BK254
        clear HO259
        clear BK264
        clear HK
        clear HB
        clear HI0
        have HO_5 := n0_
        have BK254 := n1_
        have HO259 := n2_
        have BK264 := n3_
        have HK := n4_
        have HB := n5_
        have HI0 := n6_
        clear n0_ n1_ n2_ n3_ n4_ n5_ n6_
        (try clear hb)
        (try clear hb2)
        (try clear hk)
        (try clear hi)
        refine hK.out _ _ ⟨(blk_cell BK254.out 0).trans rfl, (blk_cell BK254.out 1).trans rfl⟩ (fun hHeld => ?_)
        clear hK K
        refine norm_ (a' := ?_) ?_ ?_
        rotate_left
        ·
         show Act.put _ (some 33) _ = _
         simp only [Act.put, List.setIfInBounds_toArray, List.set_cons_zero, List.set_cons_succ, i64_w, i32_w]
         rfl
        refine pv_ (i := 8) (N := some 34) #[Y_,Y_,Y_,Y_,Y_,Y_,Y_,Y_,Y_,Y_,N_,N_,Y_,N_] (h := ?_)
        exact norm_ q29 (hJ5_6_7_12 (.slice Ao34 y257.length co34, gb264) _ ⟨hHeld, q45, q17, q18, q48, GW264.out, GE264.out, NB0_264.out, NB264_0.out, NB254_264.out, NB264_254.out, q11, q23, q24⟩)
      ·
       skip
       rintro v258 w34 ⟨hS_, h0_, h1_, h2_, h3_, h4_, h5_⟩
       have n0_ : Aside0 (Kd.R (Kd.int .i64) 3 w34 w.heap.size (fun _ => True) v258 y257) := ⟨h0_⟩
       have n1_ : Aside0 (Kd.R k58 58 w34 w.heap.size (fun k_ => k_ ≠ gb254) (.slice (some ad253) x5_1.length co23) x5_1) := ⟨h1_⟩
       have n2_ : Aside0 (w34.heap[gb254]? = some (.cells #[.int .i64 ((rd_T58 x5_1 (ji13)).f0), .int .i64 ((rd_T58 x5_1 (ji13)).f1)] 58 (0, 0))) := ⟨h2_⟩
       have n3_ : Aside0 (IsS63 w0 w34 g s0_0 t261) := ⟨h3_⟩
       have n4_ : Aside0 (KeepBut w w34 g none) := ⟨h4_⟩
       have n5_ : Aside0 (Below w0.heap.size w0 w34) := ⟨h5_⟩
       clear HO_5
       clear BK254
       clear HI0
       clear HK
       clear HB
       clear h0_ h1_ h2_ h3_ h4_ h5_
       have HO259 := n0_
       have HO_5 := n1_
       have BK254 := n2_
       have HI0 := n3_
       have HK := n4_
       have HB := n5_
       clear n0_ n1_ n2_ n3_ n4_ n5_
       have hHeld : w34.cell? ⟨gb254, 0, none⟩ = some (.int .i64 ((rd_T58 x5_1 (ji13)).f0)) ∧ w34.cell? ⟨gb254, 1, none⟩ = some (.int .i64 ((rd_T58 x5_1 (ji13)).f1)) := hS_
       refine norm_ (a' := ?_) ?_ ?_
       rotate_left
       ·
        simp only [putAll, Act.put, List.setIfInBounds_toArray, List.set_cons_zero, List.set_cons_succ]
        rfl
       refine two_ (i := 10) (j := 12) (Ni := some 36) (Nj := some 8) #[Y_,Y_,Y_,Y_,Y_,Y_,Y_,Y_,Y_,Y_,Y_,N_,N_,N_] #[Y_,Y_,Y_,Y_,Y_,Y_,Y_,Y_,Y_,Y_,N_,N_,Y_,N_] rfl rfl rfl rfl (two_of HT_.out (by kernel_rfl)) (by decide) (by decide) (fun K hK => ?_) (fun K hK => ?_)
       ·
        skip
        refine goes_ Try.func54 (by kernel_rfl) rfl #[.pointer (some ⟨g, 0, none⟩)] (by rfl) rfl rfl q1 ?_
        with_reducible refine (paygen_Deck_Rate.calls g s0_0 t261 t262 t263 w0 _ ?side1 ?side2 A18.out).mono ?_
        (case side1 => exact q10)
        (case side2 => exact q28)
        rintro e w35 ⟨rfl, hi, hb, hk⟩
        refine ⟨_, rfl, ?_⟩
        have n0_ := Aside0.mk (Kd.R_mono (Kd.R_keep (IsS63.apart (show IsS63 w0 _ g s0_0 t261 from q10) q17 (by decide)) hk (fun _ h => h.2)) (fun _ h => h.1))
        have n1_ := Aside0.mk (KeepBut.blk hk BK254.out NB254_0.out (by simp))
        have n2_ := Aside0.mk (Kd.R_mono (Kd.R_keep (IsS63.apart (show IsS63 w0 _ g s0_0 t261 from q10) q45 (by decide)) hk (fun _ h => h.2)) (fun _ h => h.1))
        have n3_ := Aside0.mk (KeepBut.trans q16 hk (.inl rfl))
        have n4_ := Aside0.mk (hb)
        have n5_ := Aside0.mk (hi)
        clear HO_5
        clear BK254
        clear HO259
        clear HK
        clear HB
        clear HI0
        have HO_5 := n0_
        have BK254 := n1_
        have HO259 := n2_
        have HK := n3_
        have HB := n4_
        have HI0 := n5_
        clear n0_ n1_ n2_ n3_ n4_ n5_
        (try clear hb)
        (try clear hb2)
        (try clear hk)
        (try clear hi)
        refine hK.out _ _ ⟨(blk_cell BK254.out 0).trans rfl, (blk_cell BK254.out 1).trans rfl⟩ (fun hHeld => ?_)
        clear hK K
        refine norm_ (a' := ?_) ?_ ?_
        rotate_left
        ·
         show Act.put _ (some 36) _ = _
         simp only [Act.put, List.setIfInBounds_toArray, List.set_cons_zero, List.set_cons_succ, i64_w, i32_w]
         rfl
        refine pv_ (i := 11) (N := some 37) #[Y_,Y_,Y_,Y_,Y_,Y_,Y_,Y_,Y_,Y_,Y_,Y_,N_,N_] (h := ?_)
        exact norm_ q29 (hJ5_6_7_10 (v258) _ ⟨hHeld, q45, q17, q18, q10, q16, q28⟩)
       ·
        skip
        refine box_step ?hg (N := 8) ?hd (cs := #[.int .i64 0, .int .i64 0]) (t := 58) ?hr ?_; (case hd => rfl); (case hg => rfl); (case hr => first | (go_simp; done) | (go_simp; rfl))
        intro gb264 hg w35 hbox hb
        have n0_ := Aside0.mk (Kd.R_below (Kd.R_elderB q17 gb264 (Nat.le_of_eq hg.symm)) hb)
        have n1_ := Aside0.mk (Kd.R_below q45 hb)
        have n2_ := Aside0.mk (IsS63.below q10 hb)
        have n3_ := Aside0.mk (blk_below BK254.out hb)
        have n4_ := Aside0.mk (KeepBut.trans q16 (KeepBut.of_below hb g none) (.inl rfl))
        have n5_ := Aside0.mk (below_step q28 hb)
        have n6_ := Aside0.mk (hbox)
        have n7_ := Aside0.mk ((by rw [hg]; exact (keep_size (w := w) (g := g) (row := none) q16) : w.heap.size ≤ gb264))
        have n8_ := Aside0.mk ((Nat.le_trans HW0.out (by rw [hg]; exact (keep_size (w := w) (g := g) (row := none) q16) : w.heap.size ≤ gb264) : w0.heap.size ≤ gb264))
        have n9_ := Aside0.mk ((by rw [hg]; exact Nat.ne_of_lt (blk_lt BK254.out) : gb254 ≠ gb264))
        have n10_ := Aside0.mk ((by rw [hg]; exact Nat.ne_of_gt (blk_lt BK254.out) : gb264 ≠ gb254))
        have n11_ := Aside0.mk ((by rw [hg]; exact Nat.ne_of_lt (IsS63.lt (show IsS63 w0 _ g s0_0 t261 from q10)) : g ≠ gb264))
        have n12_ := Aside0.mk ((by rw [hg]; exact Nat.ne_of_gt (IsS63.lt (show IsS63 w0 _ g s0_0 t261 from q10)) : gb264 ≠ g))
        clear HO_5
        clear HO259
        clear HI0
        clear BK254
        clear HK
        clear HB
        have HO_5 := n0_
        have HO259 := n1_
        have HI0 := n2_
        have BK254 := n3_
        have HK := n4_
        have HB := n5_
        have BK264 := n6_
        have GW264 := n7_
        have GE264 := n8_
        have NB254_264 := n9_
        have NB264_254 := n10_
        have NB0_264 := n11_
        have NB264_0 := n12_
        clear n0_ n1_ n2_ n3_ n4_ n5_ n6_ n7_ n8_ n9_ n10_ n11_ n12_
        clear hb hbox hg
        refine hK.out _ _ ⟨(blk_cell BK254.out 0).trans rfl, (blk_cell BK254.out 1).trans rfl⟩ (fun hHeld => ?_)
        clear hK K
        refine norm_ (a' := ?_) ?_ ?_
        rotate_left
        ·
         show Act.put _ (some 8) _ = _
         simp only [Act.put, List.setIfInBounds_toArray, List.set_cons_zero, List.set_cons_succ, i64_w, i32_w]
         rfl
        exact norm_ q29 (hJ5_6_7_12 (v258, gb264) _ ⟨hHeld, q45, q17, q18, q48, GW264.out, GE264.out, NB0_264.out, NB264_0.out, NB254_264.out, NB264_254.out, q11, q23, q24⟩)
     ·
      skip
      rintro ⟨v258, gb264⟩ w35 ⟨hS_, h0_, h1_, h2_, h3_, h4_, h5_, h6_, h7_, h8_, h9_, h10_, h11_, h12_⟩
      have n0_ : Aside0 (Kd.R (Kd.int .i64) 3 w35 w.heap.size (fun _ => True) v258 y257) := ⟨h0_⟩
      have n1_ : Aside0 (Kd.R k58 58 w35 w.heap.size (fun k_ => k_ ≠ gb254 ∧ k_ ≠ gb264) (.slice (some ad253) x5_1.length co23) x5_1) := ⟨h1_⟩
      have n2_ : Aside0 (w35.heap[gb254]? = some (.cells #[.int .i64 ((rd_T58 x5_1 (ji13)).f0), .int .i64 ((rd_T58 x5_1 (ji13)).f1)] 58 (0, 0))) := ⟨h2_⟩
      have n3_ : Aside0 (w35.heap[gb264]? = some (.cells #[.int .i64 0, .int .i64 0] 58 (0, 0))) := ⟨h3_⟩
      have n4_ : Aside0 (w.heap.size ≤ gb264) := ⟨h4_⟩
      have n5_ : Aside0 (w0.heap.size ≤ gb264) := ⟨h5_⟩
      have n6_ : Aside0 (g ≠ gb264) := ⟨h6_⟩
      have n7_ : Aside0 (gb264 ≠ g) := ⟨h7_⟩
      have n8_ : Aside0 (gb254 ≠ gb264) := ⟨h8_⟩
      have n9_ : Aside0 (gb264 ≠ gb254) := ⟨h9_⟩
      have n10_ : Aside0 (IsS63 w0 w35 g s0_0 t261) := ⟨h10_⟩
      have n11_ : Aside0 (KeepBut w w35 g none) := ⟨h11_⟩
      have n12_ : Aside0 (Below w0.heap.size w0 w35) := ⟨h12_⟩
      clear HO_5
      clear BK254
      clear HI0
      clear HK
      clear HB
      clear h0_ h1_ h2_ h3_ h4_ h5_ h6_ h7_ h8_ h9_ h10_ h11_ h12_
      have HO259 := n0_
      have HO_5 := n1_
      have BK254 := n2_
      have BK264 := n3_
      have GW264 := n4_
      have GE264 := n5_
      have NB0_264 := n6_
      have NB264_0 := n7_
      have NB254_264 := n8_
      have NB264_254 := n9_
      have HI0 := n10_
      have HK := n11_
      have HB := n12_
      clear n0_ n1_ n2_ n3_ n4_ n5_ n6_ n7_ n8_ n9_ n10_ n11_ n12_
      have hHeld : w35.cell? ⟨gb254, 0, none⟩ = some (.int .i64 ((rd_T58 x5_1 (ji13)).f0)) ∧ w35.cell? ⟨gb254, 1, none⟩ = some (.int .i64 ((rd_T58 x5_1 (ji13)).f1)) := hS_
      refine norm_ (a' := ?_) ?_ ?_
      rotate_left
      ·
       simp only [putAll, Act.put, List.setIfInBounds_toArray, List.set_cons_zero, List.set_cons_succ]
       rfl
      refine one_ (i := 10) (N := some 36) #[Y_,Y_,Y_,Y_,Y_,Y_,Y_,Y_,Y_,Y_,Y_,N_,Y_,N_] rfl rfl (one_of HT_.out (by kernel_rfl)) (by decide) (fun K hK => ?_)
      refine goes_ Try.func54 (by kernel_rfl) rfl #[.pointer (some ⟨g, 0, none⟩)] (by rfl) rfl rfl q1 ?_
      with_reducible refine (paygen_Deck_Rate.calls g s0_0 t261 t262 t263 w0 _ ?side1 ?side2 A18.out).mono ?_
      (case side1 => exact q11)
      (case side2 => exact q24)
      rintro e w36 ⟨rfl, hi, hb, hk⟩
      refine ⟨_, rfl, ?_⟩
      have n0_ := Aside0.mk (Kd.R_mono (Kd.R_keep (IsS63.apart (show IsS63 w0 _ g s0_0 t261 from q11) q17 (by decide)) hk (fun _ h => h.2)) (fun _ h => h.1))
      have n1_ := Aside0.mk (KeepBut.blk hk BK254.out NB254_0.out (by simp))
      have n2_ := Aside0.mk (Kd.R_mono (Kd.R_keep (IsS63.apart (show IsS63 w0 _ g s0_0 t261 from q11) q45 (by decide)) hk (fun _ h => h.2)) (fun _ h => h.1))
      have n3_ := Aside0.mk (KeepBut.blk hk BK264.out NB264_0.out (by simp))
      have n4_ := Aside0.mk (KeepBut.trans q23 hk (.inl rfl))
      have n5_ := Aside0.mk (hb)
      have n6_ := Aside0.mk (hi)
      clear HO_5
      clear BK254
      clear HO259
      clear BK264
      clear HK
      clear HB
      clear HI0
      have HO_5 := n0_
      have BK254 := n1_
      have HO259 := n2_
      have BK264 := n3_
      have HK := n4_
      have HB := n5_
      have HI0 := n6_
      clear n0_ n1_ n2_ n3_ n4_ n5_ n6_
      (try clear hb)
      (try clear hb2)
      (try clear hk)
      (try clear hi)
      refine hK.out _ _ ⟨(blk_cell BK254.out 0).trans rfl, (blk_cell BK254.out 1).trans rfl⟩ (fun hHeld => ?_)
      clear hK K
      refine norm_ (a' := ?_) ?_ ?_
      rotate_left
      ·
       show Act.put _ (some 36) _ = _
       simp only [Act.put, List.setIfInBounds_toArray, List.set_cons_zero, List.set_cons_succ, i64_w, i32_w]
       rfl
      refine pv_ (i := 11) (N := some 37) #[Y_,Y_,Y_,Y_,Y_,Y_,Y_,Y_,Y_,Y_,Y_,Y_,Y_,N_] (h := ?_)
      exact norm_ q29 (hJ5_6_7_10_12 (v258, gb264) _ ⟨hHeld, q45, q17, q18, q48, GW264.out, GE264.out, NB0_264.out, NB264_0.out, NB254_264.out, NB264_254.out, q11, q23, q24⟩)
    ·
     skip
     rintro v258 w35 ⟨hS_, h0_, h1_, h2_, h3_, h4_, h5_⟩
     have n0_ : Aside0 (Kd.R (Kd.int .i64) 3 w35 w.heap.size (fun _ => True) v258 y257) := ⟨h0_⟩
     have n1_ : Aside0 (Kd.R k58 58 w35 w.heap.size (fun k_ => k_ ≠ gb254) (.slice (some ad253) x5_1.length co23) x5_1) := ⟨h1_⟩
     have n2_ : Aside0 (w35.heap[gb254]? = some (.cells #[.int .i64 ((rd_T58 x5_1 (ji13)).f0), .int .i64 ((rd_T58 x5_1 (ji13)).f1)] 58 (0, 0))) := ⟨h2_⟩
     have n3_ : Aside0 (IsS63 w0 w35 g s0_0 t263) := ⟨h3_⟩
     have n4_ : Aside0 (KeepBut w w35 g none) := ⟨h4_⟩
     have n5_ : Aside0 (Below w0.heap.size w0 w35) := ⟨h5_⟩
     clear HO_5
     clear BK254
     clear HI0
     clear HK
     clear HB
     clear h0_ h1_ h2_ h3_ h4_ h5_
     have HO259 := n0_
     have HO_5 := n1_
     have BK254 := n2_
     have HI0 := n3_
     have HK := n4_
     have HB := n5_
     clear n0_ n1_ n2_ n3_ n4_ n5_
     have hHeld : w35.cell? ⟨gb254, 0, none⟩ = some (.int .i64 ((rd_T58 x5_1 (ji13)).f0)) ∧ w35.cell? ⟨gb254, 1, none⟩ = some (.int .i64 ((rd_T58 x5_1 (ji13)).f1)) := hS_
     refine norm_ (a' := ?_) ?_ ?_
     rotate_left
     ·
      simp only [putAll, Act.put, List.setIfInBounds_toArray, List.set_cons_zero, List.set_cons_succ]
      rfl
     refine one_ (i := 12) (N := some 8) #[Y_,Y_,Y_,Y_,Y_,Y_,Y_,Y_,Y_,Y_,Y_,Y_,Y_,N_] rfl rfl (one_of HT_.out (by kernel_rfl)) (by decide) (fun K hK => ?_)
     refine box_step ?hg (N := 8) ?hd (cs := #[.int .i64 0, .int .i64 0]) (t := 58) ?hr ?_; (case hd => rfl); (case hg => rfl); (case hr => first | (go_simp; done) | (go_simp; rfl))
     intro gb264 hg w36 hbox hb
     have n0_ := Aside0.mk (Kd.R_below (Kd.R_elderB q17 gb264 (Nat.le_of_eq hg.symm)) hb)
     have n1_ := Aside0.mk (Kd.R_below q45 hb)
     have n2_ := Aside0.mk (IsS63.below q10 hb)
     have n3_ := Aside0.mk (blk_below BK254.out hb)
     have n4_ := Aside0.mk (KeepBut.trans q16 (KeepBut.of_below hb g none) (.inl rfl))
     have n5_ := Aside0.mk (below_step q28 hb)
     have n6_ := Aside0.mk (hbox)
     have n7_ := Aside0.mk ((by rw [hg]; exact (keep_size (w := w) (g := g) (row := none) q16) : w.heap.size ≤ gb264))
     have n8_ := Aside0.mk ((Nat.le_trans HW0.out (by rw [hg]; exact (keep_size (w := w) (g := g) (row := none) q16) : w.heap.size ≤ gb264) : w0.heap.size ≤ gb264))
     have n9_ := Aside0.mk ((by rw [hg]; exact Nat.ne_of_lt (blk_lt BK254.out) : gb254 ≠ gb264))
     have n10_ := Aside0.mk ((by rw [hg]; exact Nat.ne_of_gt (blk_lt BK254.out) : gb264 ≠ gb254))
     have n11_ := Aside0.mk ((by rw [hg]; exact Nat.ne_of_lt (IsS63.lt (show IsS63 w0 _ g s0_0 t263 from q10)) : g ≠ gb264))
     have n12_ := Aside0.mk ((by rw [hg]; exact Nat.ne_of_gt (IsS63.lt (show IsS63 w0 _ g s0_0 t263 from q10)) : gb264 ≠ g))
     clear HO_5
     clear HO259
     clear HI0
     clear BK254
     clear HK
     clear HB
     have HO_5 := n0_
     have HO259 := n1_
     have HI0 := n2_
     have BK254 := n3_
     have HK := n4_
     have HB := n5_
     have BK264 := n6_
     have GW264 := n7_
     have GE264 := n8_
     have NB254_264 := n9_
     have NB264_254 := n10_
     have NB0_264 := n11_
     have NB264_0 := n12_
     clear n0_ n1_ n2_ n3_ n4_ n5_ n6_ n7_ n8_ n9_ n10_ n11_ n12_
     clear hb hbox hg
     refine hK.out _ _ ⟨(blk_cell BK254.out 0).trans rfl, (blk_cell BK254.out 1).trans rfl⟩ (fun hHeld => ?_)
     clear hK K
     refine norm_ (a' := ?_) ?_ ?_
     rotate_left
     ·
      show Act.put _ (some 8) _ = _
      simp only [Act.put, List.setIfInBounds_toArray, List.set_cons_zero, List.set_cons_succ, i64_w, i32_w]
      rfl
     exact norm_ q29 (hJ5_6_7_10_12 (v258, gb264) _ ⟨hHeld, q45, q17, q18, q48, GW264.out, GE264.out, NB0_264.out, NB264_0.out, NB254_264.out, NB264_254.out, q11, q23, q24⟩)
   rintro ⟨v258, gb264⟩ w36 ⟨hS_, h0_, h1_, h2_, h3_, h4_, h5_, h6_, h7_, h8_, h9_, h10_, h11_, h12_⟩
   have n0_ : Aside0 (Kd.R (Kd.int .i64) 3 w36 w.heap.size (fun _ => True) v258 y257) := ⟨h0_⟩
   have n1_ : Aside0 (Kd.R k58 58 w36 w.heap.size (fun k_ => k_ ≠ gb254 ∧ k_ ≠ gb264) (.slice (some ad253) x5_1.length co23) x5_1) := ⟨h1_⟩
   have n2_ : Aside0 (w36.heap[gb254]? = some (.cells #[.int .i64 ((rd_T58 x5_1 (ji13)).f0), .int .i64 ((rd_T58 x5_1 (ji13)).f1)] 58 (0, 0))) := ⟨h2_⟩
   have n3_ : Aside0 (w36.heap[gb264]? = some (.cells #[.int .i64 0, .int .i64 0] 58 (0, 0))) := ⟨h3_⟩
   have n4_ : Aside0 (w.heap.size ≤ gb264) := ⟨h4_⟩
   have n5_ : Aside0 (w0.heap.size ≤ gb264) := ⟨h5_⟩
   have n6_ : Aside0 (g ≠ gb264) := ⟨h6_⟩
   have n7_ : Aside0 (gb264 ≠ g) := ⟨h7_⟩
   have n8_ : Aside0 (gb254 ≠ gb264) := ⟨h8_⟩
   have n9_ : Aside0 (gb264 ≠ gb254) := ⟨h9_⟩
   have n10_ : Aside0 (IsS63 w0 w36 g s0_0 t263) := ⟨h10_⟩
   have n11_ : Aside0 (KeepBut w w36 g none) := ⟨h11_⟩
   have n12_ : Aside0 (Below w0.heap.size w0 w36) := ⟨h12_⟩
   clear HO_5
   clear BK254
   clear HI0
   clear HK
   clear HB
   clear h0_ h1_ h2_ h3_ h4_ h5_ h6_ h7_ h8_ h9_ h10_ h11_ h12_
   have HO259 := n0_
   have HO_5 := n1_
   have BK254 := n2_
   have BK264 := n3_
   have GW264 := n4_
   have GE264 := n5_
   have NB0_264 := n6_
   have NB264_0 := n7_
   have NB254_264 := n8_
   have NB264_254 := n9_
   have HI0 := n10_
   have HK := n11_
   have HB := n12_
   clear n0_ n1_ n2_ n3_ n4_ n5_ n6_ n7_ n8_ n9_ n10_ n11_ n12_
   have hHeld : w36.cell? ⟨gb254, 0, none⟩ = some (.int .i64 ((rd_T58 x5_1 (ji13)).f0)) ∧ w36.cell? ⟨gb254, 1, none⟩ = some (.int .i64 ((rd_T58 x5_1 (ji13)).f1)) := hS_
   refine norm_ (a' := ?_) ?_ ?_
   rotate_left
   ·
    simp only [putAll, Act.put, List.setIfInBounds_toArray, List.set_cons_zero, List.set_cons_succ]
    rfl
   refine one_ (i := 13) (N := none) #[Y_,Y_,Y_,Y_,Y_,Y_,Y_,Y_,Y_,Y_,Y_,Y_,Y_,Y_] rfl rfl (one_of HT_.out (by kernel_rfl)) (by decide) (fun K hK => ?_)
   have hs37 : w36.cell? ⟨gb264, 0, none⟩ = some (.int .i64 0) := (blk_cell BK264.out 0).trans rfl
   have hfs37 := blk_frozen BK264.out 0
   have hns37_0 := NB254_264.out
   have hms37_0 := NB264_254.out
   have hs38 : w36.cell? ⟨gb264, 1, none⟩ = some (.int .i64 0) := (blk_cell BK264.out 1).trans rfl
   have hfs38 := blk_frozen BK264.out 1
   have hns38_0 := NB254_264.out
   have hms38_0 := NB264_254.out
   refine skip_ (w1 := ?_) (by rfl) rfl ?_ ?_
   rotate_left
   ·
    go_simp
    rfl
   refine hK.out _ _ ⟨((cell_far (p := ⟨gb264, _, none⟩) NB254_264.out _).trans (((cell_far (p := ⟨gb264, _, none⟩) NB254_264.out _).trans (hHeld.1)))), ((cell_far (p := ⟨gb264, _, none⟩) NB254_264.out _).trans (((cell_far (p := ⟨gb264, _, none⟩) NB254_264.out _).trans (hHeld.2))))⟩ (fun hHeld => ?_)
   clear hK K
   refine done_ (done_of HT_.out (by kernel_rfl)) ?_
   have H := HZ_.out
   clear HZ_
   by_cases c19 : a1 = true
   rotate_left
   ·
    replace c19 := Bool.eq_false_iff.mpr c19
    subst c19
    rw [if_neg (show ¬ (false = true) by decide)] at H
    by_cases c50 : x5_1.length < 8796093022208
    rotate_left
    ·
     rw [if_neg c50] at H
     exact absurd H (by simp)
    rw [if_pos c50] at H
    have LMc50 := Aside0.mk c50
    clear c50
    obtain ⟨y273, hy273⟩ : ∃ y_ : List (S58), y_ = (x5_1 ++ [(⟨wrap64 ((wrap64 (((rd_T58 x5_1 (ji13)).f0) + 1)) + t260), t262⟩ : S58)]) := ⟨_, rfl⟩
    replace H : (paygen_Deck_Brackets.l0 k1 false y273 (wrap64 (x6_1 - 1)) s0_0 t263) = some (r1, r2) := by first | (rw [hy273]; with_reducible exact H) | (have H2_ := (Option.bind_some _ _).symm.trans H; rw [hy273]; with_reducible exact H2_) | (have H2_ := (Option.bind_some _ _).symm.trans H; with_reducible exact H2_) | with_reducible exact H | (rw [hy273]; exact H) | exact H
    have Ny273 := Aside0.mk hy273
    clear hy273
    have H' := Aside0.mk H
    clear H
    have hnb67 := NB264_254.out
    have hnc67 := NB254_264.out
    have hnb68 := NB264_0.out
    have hnc68 := NB0_264.out
    obtain ⟨hcz69_0, hcz69_1, hfz69_0, hfz69_1⟩ := blk2 BK264.out
    try go_wp2_with (first | ((with_reducible refine gate_builtin (b := .append) (xs := #[.tmp 47, .tmp 49]) rfl ?_); at_builtin; refine Kd.R_append k58 w.heap.size rfl (.tmp 47) (.tmp 49) 30 58 (.agg #[(.int .i64 0), (.int .i64 0)]) 16 rfl Try.underlying30 info58 rfl (by decide) (by omega) (.slice (some ad253) x5_1.length co23) x5_1 (⟨wrap64 ((wrap64 (((rd_T58 x5_1 (ji13)).f0) + 1)) + t260), t262⟩ : S58) [.int .i64 (wrap64 ((wrap64 (((rd_T58 x5_1 (ji13)).f0) + 1)) + t260)), .int .i64 t262] (fun k_ => k_ ≠ gb254 ∧ k_ ≠ gb264) (fun _ => False) rfl (by first | (go_simp; done) | (go_simp; rfl)) ?aP (fun _ hk => hk.elim) ?aF ?aO (Below.refl _ _) ?aS ?aL ?_; (case aP => exact k58_mkM _ _ _ (⟨wrap64 ((wrap64 (((rd_T58 x5_1 (ji13)).f0) + 1)) + t260), t262⟩ : S58)); (case aF => exact (fun k_ hk => ⟨Kd.freshB (g := gb254) (o := .cells #[.int .i64 ((rd_T58 x5_1 (ji13)).f0), .int .i64 ((rd_T58 x5_1 (ji13)).f1)] 58 (0, 0)) (by (with_reducible repeat (first | refine blk_drewN ?_ _ | refine blk_drew ?_ | refine blk_alloc ?_ _)); refine blk_far ?_ NB254_264.out _; (with_reducible repeat (first | refine blk_drewN ?_ _ | refine blk_drew ?_ | refine blk_alloc ?_ _)); refine blk_far ?_ NB254_264.out _; (with_reducible repeat (first | refine blk_drewN ?_ _ | refine blk_drew ?_ | refine blk_alloc ?_ _)); exact BK254.out) k_ hk, Kd.freshB (g := gb264) (o := .cells #[.int .i64 (wrap64 ((wrap64 (((rd_T58 x5_1 (ji13)).f0) + 1)) + t260)), .int .i64 t262] 58 (0, 0)) (by (with_reducible repeat (first | refine blk_drewN ?_ _ | refine blk_drew ?_ | refine blk_alloc ?_ _)); refine blk_put (cs := #[.int .i64 (wrap64 ((wrap64 (((rd_T58 x5_1 (ji13)).f0) + 1)) + t260)), .int .i64 0]) ?_ 1 _ rfl; (with_reducible repeat (first | refine blk_drewN ?_ _ | refine blk_drew ?_ | refine blk_alloc ?_ _)); refine blk_put (cs := #[.int .i64 0, .int .i64 0]) ?_ 0 _ rfl; (with_reducible repeat (first | refine blk_drewN ?_ _ | refine blk_drew ?_ | refine blk_alloc ?_ _)); exact BK264.out) k_ hk⟩)); (case aO => exact (by (with_reducible repeat (first | apply Kd.R_alloc | apply Kd.R_drewN | apply Kd.R_drew)); exact Kd.R_mono (Kd.R_far (p := ⟨gb264, 1, none⟩) (Kd.R_far (p := ⟨gb264, 0, none⟩) (Kd.R_mono HO_5.out (fun k_ hk => (⟨hk, hk.2⟩ : _ ∧ k_ ≠ gb264))) (fun _ hk => hk.2) (.int .i64 (wrap64 ((wrap64 (((rd_T58 x5_1 (ji13)).f0) + 1)) + t260)))) (fun _ hk => hk.2) (.int .i64 t262)) (fun _ hk => ⟨hk.1.1, hk.1.2⟩))); (case aS => exact (keep_size (w := w) (g := g) (row := none) q23)); (case aL => have := LMc50.out; omega); intro v274 w42 ho hb hg hat; rw [← Ny273.out] at ho; have n0_ : Aside0 (IsS63 w0 w42 g s0_0 t263) := ⟨IsS63.grown q11 hg (IsS63.own_ne HI0.out HO_5.out (by decide))⟩; have n1_ := Aside0.mk (blk_grown (g := gb254) (o := .cells #[.int .i64 ((rd_T58 x5_1 (ji13)).f0), .int .i64 ((rd_T58 x5_1 (ji13)).f1)] 58 (0, 0)) (by (with_reducible repeat (first | refine blk_drewN ?_ _ | refine blk_drew ?_ | refine blk_alloc ?_ _)); refine blk_far ?_ NB254_264.out _; (with_reducible repeat (first | refine blk_drewN ?_ _ | refine blk_drew ?_ | refine blk_alloc ?_ _)); refine blk_far ?_ NB254_264.out _; (with_reducible repeat (first | refine blk_drewN ?_ _ | refine blk_drew ?_ | refine blk_alloc ?_ _)); exact BK254.out) hg (Kd.R_away HO_5.out (fun _ hk => hk.1))); have n3_ := Aside0.mk (blk_grown (g := gb264) (o := .cells #[.int .i64 (wrap64 ((wrap64 (((rd_T58 x5_1 (ji13)).f0) + 1)) + t260)), .int .i64 t262] 58 (0, 0)) (by (with_reducible repeat (first | refine blk_drewN ?_ _ | refine blk_drew ?_ | refine blk_alloc ?_ _)); refine blk_put (cs := #[.int .i64 (wrap64 ((wrap64 (((rd_T58 x5_1 (ji13)).f0) + 1)) + t260)), .int .i64 0]) ?_ 1 _ rfl; (with_reducible repeat (first | refine blk_drewN ?_ _ | refine blk_drew ?_ | refine blk_alloc ?_ _)); refine blk_put (cs := #[.int .i64 0, .int .i64 0]) ?_ 0 _ rfl; (with_reducible repeat (first | refine blk_drewN ?_ _ | refine blk_drew ?_ | refine blk_alloc ?_ _)); exact BK264.out) hg (Kd.R_away HO_5.out (fun _ hk => hk.2))); have n4_ := Aside0.mk (below_weaken q24 HL.out hb); have n5_ := Aside0.mk (KeepBut.trans q23 (KeepBut.of_grown hg g) (Kd.R_base2 HO_5.out)); have n6_ := Aside0.mk (ho); clear HI0; clear BK254; clear HO259; clear BK264; clear HB; clear HK; clear HO_5; have HI0 := n0_; have BK254 := n1_; have BK264 := n3_; have HB := n4_; have HK := n5_; have HO275 := n6_; clear n0_ n1_ n3_ n4_ n5_ n6_; clear ho hb hg hat))
    go_roundg k1
    case measure => have := HK1.out; omega
    case rel => exact ⟨(y273), (wrap64 (x6_1 - 1)), (t263), q26, H', ⟨by have := HK1.out; omega⟩, ⟨by (with_reducible repeat (first | apply Kd.R_alloc | apply Kd.R_drewN | apply Kd.R_drew)); exact Kd.R_mono HO275.out (fun _ hk => trivial)⟩, ⟨q11⟩, ⟨q23⟩, ⟨q24⟩⟩
   subst c19
   rw [if_pos rfl] at H
   obtain ⟨y265, hy265⟩ : ∃ y_ : List Int, y_ = (([0, 50000, 120000] : List Int)) := ⟨_, rfl⟩
   replace H : ((paygen_Deck_Pick.f s0_0 t263 y265).bind fun bt268 => (if x5_1.length < 8796093022208 then (paygen_Deck_Brackets.l0 k1 true (x5_1 ++ [(⟨wrap64 ((wrap64 (((rd_T58 x5_1 (ji13)).f0) + 1)) + t260), mn (wrap64 (((rd_T58 x5_1 (ji13)).f1) + bt268.1)) 450000⟩ : S58)]) (wrap64 (x6_1 - 1)) s0_0 bt268.2) else (none))) = some (r1, r2) := by first | (rw [hy265]; with_reducible exact H) | (have H2_ := (Option.bind_some _ _).symm.trans H; rw [hy265]; with_reducible exact H2_) | (have H2_ := (Option.bind_some _ _).symm.trans H; with_reducible exact H2_) | with_reducible exact H | (rw [hy265]; exact H) | exact H
   have Ny265 := Aside0.mk hy265
   clear hy265
   replace H := Option.bind_eq_some_iff.mp H
   obtain ⟨⟨t268, t269⟩, A200, H⟩ := H
   try dsimp only at H
   have A20 := Aside0.mk A200
   clear A200
   obtain ⟨ji21, hji21⟩ : ∃ j_ : Int, (mn (wrap64 (((rd_T58 x5_1 (ji13)).f1) + t268)) 450000) = j_ := ⟨_, rfl⟩
   replace H : (if x5_1.length < 8796093022208 then (paygen_Deck_Brackets.l0 k1 true (x5_1 ++ [(⟨wrap64 ((wrap64 (((rd_T58 x5_1 (ji13)).f0) + 1)) + t260), ji21⟩ : S58)]) (wrap64 (x6_1 - 1)) s0_0 t269) else (none)) = some (r1, r2) := by first | (rw [hji21] at H; exact H) | (simp only [hji21] at H ⊢; exact H)
   (try rw [hji21] at A16)
   (try rw [hji21] at A17)
   (try rw [hji21] at A18)
   (try rw [hji21] at A20)
   have hji21_ : (if 450000 < (wrap64 (((rd_T58 x5_1 (ji13)).f1) + t268)) then 450000 else (wrap64 (((rd_T58 x5_1 (ji13)).f1) + t268))) = ji21 := hji21
   by_cases c22 : x5_1.length < 8796093022208
   rotate_left
   ·
    rw [if_neg c22] at H
    exact absurd H (by simp)
   rw [if_pos c22] at H
   have LMc22 := Aside0.mk c22
   clear c22
   obtain ⟨y270, hy270⟩ : ∃ y_ : List (S58), y_ = (x5_1 ++ [(⟨wrap64 ((wrap64 (((rd_T58 x5_1 (ji13)).f0) + 1)) + t260), ji21⟩ : S58)]) := ⟨_, rfl⟩
   replace H : (paygen_Deck_Brackets.l0 k1 true y270 (wrap64 (x6_1 - 1)) s0_0 t269) = some (r1, r2) := by first | (rw [hy270]; with_reducible exact H) | (have H2_ := (Option.bind_some _ _).symm.trans H; rw [hy270]; with_reducible exact H2_) | (have H2_ := (Option.bind_some _ _).symm.trans H; with_reducible exact H2_) | with_reducible exact H | (rw [hy270]; exact H) | exact H
   have Ny270 := Aside0.mk hy270
   clear hy270
   have H' := Aside0.mk H
   clear H
   try go_wp2
   have n0_ : Aside0 (Kd.R k58 58 ((w36.setCell ⟨gb264, 0, none⟩ (.int .i64 (wrap64 ((wrap64 (((rd_T58 x5_1 (ji13)).f0) + 1)) + t260)))).setCell ⟨gb264, 1, none⟩ (.int .i64 t262)) w.heap.size (fun k_ => k_ ≠ gb254 ∧ k_ ≠ gb264) (.slice (some ad253) x5_1.length co23) x5_1) := ⟨by (with_reducible repeat (first | apply Kd.R_alloc | apply Kd.R_drewN | apply Kd.R_drew)); exact Kd.R_mono (Kd.R_far (p := ⟨gb264, 1, none⟩) (Kd.R_far (p := ⟨gb264, 0, none⟩) (Kd.R_mono HO_5.out (fun k_ hk => (⟨hk, hk.2⟩ : _ ∧ k_ ≠ gb264))) (fun _ hk => hk.2) (.int .i64 (wrap64 ((wrap64 (((rd_T58 x5_1 (ji13)).f0) + 1)) + t260)))) (fun _ hk => hk.2) (.int .i64 t262)) (fun _ hk => ⟨hk.1.1, hk.1.2⟩)⟩
   have n1_ : Aside0 (Kd.R (Kd.int .i64) 3 ((w36.setCell ⟨gb264, 0, none⟩ (.int .i64 (wrap64 ((wrap64 (((rd_T58 x5_1 (ji13)).f0) + 1)) + t260)))).setCell ⟨gb264, 1, none⟩ (.int .i64 t262)) w.heap.size (fun _ => True) v258 y257) := ⟨by (with_reducible repeat (first | apply Kd.R_alloc | apply Kd.R_drewN | apply Kd.R_drew)); exact Kd.R_mono (Kd.R_far (p := ⟨gb264, 1, none⟩) (Kd.R_far (p := ⟨gb264, 0, none⟩) (Kd.R_types HO259.out BK264.out (by decide)) (fun _ hk => hk.2) (.int .i64 (wrap64 ((wrap64 (((rd_T58 x5_1 (ji13)).f0) + 1)) + t260)))) (fun _ hk => hk.2) (.int .i64 t262)) (fun _ hk => trivial)⟩
   have n2_ : Aside0 (((w36.setCell ⟨gb264, 0, none⟩ (.int .i64 (wrap64 ((wrap64 (((rd_T58 x5_1 (ji13)).f0) + 1)) + t260)))).setCell ⟨gb264, 1, none⟩ (.int .i64 t262)).heap[gb254]? = some (.cells #[.int .i64 ((rd_T58 x5_1 (ji13)).f0), .int .i64 ((rd_T58 x5_1 (ji13)).f1)] 58 (0, 0))) := ⟨by (with_reducible repeat (first | refine blk_drewN ?_ _ | refine blk_drew ?_ | refine blk_alloc ?_ _)); refine blk_far ?_ NB254_264.out _; (with_reducible repeat (first | refine blk_drewN ?_ _ | refine blk_drew ?_ | refine blk_alloc ?_ _)); refine blk_far ?_ NB254_264.out _; (with_reducible repeat (first | refine blk_drewN ?_ _ | refine blk_drew ?_ | refine blk_alloc ?_ _)); exact BK254.out⟩
   have n3_ : Aside0 (((w36.setCell ⟨gb264, 0, none⟩ (.int .i64 (wrap64 ((wrap64 (((rd_T58 x5_1 (ji13)).f0) + 1)) + t260)))).setCell ⟨gb264, 1, none⟩ (.int .i64 t262)).heap[gb264]? = some (.cells #[.int .i64 (wrap64 ((wrap64 (((rd_T58 x5_1 (ji13)).f0) + 1)) + t260)), .int .i64 t262] 58 (0, 0))) := ⟨by (with_reducible repeat (first | refine blk_drewN ?_ _ | refine blk_drew ?_ | refine blk_alloc ?_ _)); refine blk_put (cs := #[.int .i64 (wrap64 ((wrap64 (((rd_T58 x5_1 (ji13)).f0) + 1)) + t260)), .int .i64 0]) ?_ 1 _ rfl; (with_reducible repeat (first | refine blk_drewN ?_ _ | refine blk_drew ?_ | refine blk_alloc ?_ _)); refine blk_put (cs := #[.int .i64 0, .int .i64 0]) ?_ 0 _ rfl; (with_reducible repeat (first | refine blk_drewN ?_ _ | refine blk_drew ?_ | refine blk_alloc ?_ _)); exact BK264.out⟩
   have n4_ : Aside0 (IsS63 w0 ((w36.setCell ⟨gb264, 0, none⟩ (.int .i64 (wrap64 ((wrap64 (((rd_T58 x5_1 (ji13)).f0) + 1)) + t260)))).setCell ⟨gb264, 1, none⟩ (.int .i64 t262)) g s0_0 t263) := ⟨q11⟩
   have n5_ : Aside0 (KeepBut w ((w36.setCell ⟨gb264, 0, none⟩ (.int .i64 (wrap64 ((wrap64 (((rd_T58 x5_1 (ji13)).f0) + 1)) + t260)))).setCell ⟨gb264, 1, none⟩ (.int .i64 t262)) g none) := ⟨q23⟩
   have n6_ : Aside0 (Below w0.heap.size w0 ((w36.setCell ⟨gb264, 0, none⟩ (.int .i64 (wrap64 ((wrap64 (((rd_T58 x5_1 (ji13)).f0) + 1)) + t260)))).setCell ⟨gb264, 1, none⟩ (.int .i64 t262))) := ⟨q24⟩
   (try clear HO_5)
   (try clear HO259)
   (try clear BK254)
   (try clear BK264)
   (try clear HI0)
   (try clear HK)
   (try clear HB)
   generalize ((w36.setCell ⟨gb264, 0, none⟩ (.int .i64 (wrap64 ((wrap64 (((rd_T58 x5_1 (ji13)).f0) + 1)) + t260)))).setCell ⟨gb264, 1, none⟩ (.int .i64 t262)) = w39 at n0_ n1_ n2_ n3_ n4_ n5_ n6_ ⊢
   have HO_5 := n0_
   have HO259 := n1_
   have BK254 := n2_
   have BK264 := n3_
   have HI0 := n4_
   have HK := n5_
   have HB := n6_
   clear n0_ n1_ n2_ n3_ n4_ n5_ n6_
   have n0_ := Aside0.mk (Kd.R_drew HO_5.out)
   have n1_ := Aside0.mk (Kd.R_drew HO259.out)
   have n2_ := Aside0.mk (blk_drew BK254.out)
   have n3_ := Aside0.mk (blk_drew BK264.out)
   have n4_ := Aside0.mk (IsS63.drew HI0.out)
   have n5_ := Aside0.mk (keep_drew HK.out)
   have n6_ := Aside0.mk (below_drew1 HB.out)
   clear HO_5
   clear HO259
   clear BK254
   clear BK264
   clear HI0
   clear HK
   clear HB
   have HO_5 := n0_
   have HO259 := n1_
   have BK254 := n2_
   have BK264 := n3_
   have HI0 := n4_
   have HK := n5_
   have HB := n6_
   clear n0_ n1_ n2_ n3_ n4_ n5_ n6_
   refine start_ (n := 9) (S := fun w' => w'.cell? ⟨gb254, 0, none⟩ = some (.int .i64 ((rd_T58 x5_1 (ji13)).f0)) ∧ w'.cell? ⟨gb254, 1, none⟩ = some (.int .i64 ((rd_T58 x5_1 (ji13)).f1))) (ds := []) #[N_,N_,N_,N_,N_,N_,N_,N_,N_] (by kernel_rfl) rfl rfl ⟨(blk_cell BK254.out 0).trans rfl, (blk_cell BK254.out 1).trans rfl⟩ (fun hHeld => ?_); refine with_tabW paygen_Deck_Brackets.tab8 paygen_Deck_Brackets.bits8 (fun HT_ HW_ => ?_)
   generalize w39.drew = w40 at HO_5 HO259 BK254 BK264 HI0 HK HB hHeld ⊢
   refine pv_ (i := 0) (N := some 39) #[Y_,N_,N_,N_,N_,N_,N_,N_,N_] (h := ?_)
   refine pv_ (i := 2) (N := some 41) #[Y_,N_,Y_,N_,N_,N_,N_,N_,N_] (h := ?_)
   refine take_ (i := 1) (N := some 40) (v := ?_) (a' := ?_) #[Y_,Y_,Y_,N_,N_,N_,N_,N_,N_] rfl rfl (take_ofW HT_.out HW_.out (by kernel_rfl)) (fun _ _ _ h => h) (Or.inl ⟨by rfl, ?_⟩) hHeld ?_ ?_
   rotate_left
   ·
    rintro w' ⟨s0, s1⟩
    go_simp
    with_reducible rfl
   rotate_left
   ·
    simp only [Act.put, List.setIfInBounds_toArray, List.set_cons_zero, List.set_cons_succ, i64_w, i32_w]
    rfl
   refine one_ (i := 3) (N := some 42) #[Y_,Y_,Y_,Y_,N_,N_,N_,N_,N_] rfl rfl (one_of HT_.out (by kernel_rfl)) (by decide) (fun K hK => ?_)
   refine Kd.R_lit_step (Kd.int .i64) _ 3 ?hg (N := 42) ?hd (xs := ([0, 50000, 120000] : List Int)) (inner := [.int .i64 0, .int .i64 50000, .int .i64 120000]) (ok := fun _ => True) (okp := fun _ => True) ?hr ?hp (fun _ hk => hk) trivial (Below.refl _ _) (Nat.le_refl _) (by simp) ?_; (case hd => rfl); (case hg => rfl); (case hr => first | (go_simp; done) | (go_simp; rfl)); (case hp => exact (Reps.one (show Kd.M (Kd.int .i64) _ _ _ 0 [.int .i64 0] from rfl) (Reps.one (show Kd.M (Kd.int .i64) _ _ _ 50000 [.int .i64 50000] from rfl) (Reps.one (show Kd.M (Kd.int .i64) _ _ _ 120000 [.int .i64 120000] from rfl) (Reps.none _ _)))))
   intro v266 w41 ho42 hb hg_ hnew_
   clear hg_ hnew_
   (first | rw [← Ny265.out] at ho42 | (simp only [Int.reduceToNat] at ho42; rw [← Ny265.out] at ho42))
   have n0_ := Aside0.mk (Kd.R_below q17 hb)
   have n1_ := Aside0.mk (Kd.R_elder' q45 (Kd.R_base ho42) hb)
   have n2_ := Aside0.mk (Kd.R_lower (Kd.R_new' ho42 (Kd.R_lt q45)) (keep_size (w := w) (g := g) (row := none) q23))
   have n3_ := Aside0.mk (IsS63.below q11 hb)
   have n4_ := Aside0.mk (blk_below BK254.out hb)
   have n5_ := Aside0.mk (blk_below BK264.out hb)
   have n6_ := Aside0.mk (KeepBut.trans q23 (KeepBut.of_below hb g none) (.inl rfl))
   have n7_ := Aside0.mk (below_step q24 hb)
   clear HO_5
   clear HO259
   clear HI0
   clear BK254
   clear BK264
   clear HK
   clear HB
   have HO_5 := n0_
   have HO259 := n1_
   have HO267 := n2_
   have HI0 := n3_
   have BK254 := n4_
   have BK264 := n5_
   have HK := n6_
   have HB := n7_
   clear n0_ n1_ n2_ n3_ n4_ n5_ n6_ n7_
   clear hb ho42
   obtain ⟨Ao43, co43, eo43⟩ := Kd.R_slice HO267.out
   (first | subst eo43 | (injection eo43 with f1_ f2_ f3_; have f4_ := f1_.symm; have f5_ := f3_.symm; clear f1_ f2_ f3_; subst f4_; subst f5_))
   refine hK.out _ _ ⟨(blk_cell BK254.out 0).trans rfl, (blk_cell BK254.out 1).trans rfl⟩ (fun hHeld => ?_)
   clear hK K
   refine norm_ (a' := ?_) ?_ ?_
   rotate_left
   ·
    show Act.put _ (some 42) _ = _
    simp only [Act.put, List.setIfInBounds_toArray, List.set_cons_zero, List.set_cons_succ, i64_w, i32_w]
    rfl
   refine one_ (i := 4) (N := some 43) #[Y_,Y_,Y_,Y_,Y_,N_,N_,N_,N_] rfl rfl (one_of HT_.out (by kernel_rfl)) (by decide) (fun K hK => ?_)
   refine goes_ Try.func15 (by kernel_rfl) rfl #[.pointer (some ⟨g, 0, none⟩), .slice Ao43 y265.length co43] (by rfl) rfl rfl q1 ?_
   with_reducible refine (paygen_Deck_Pick.calls g s0_0 t263 _ _ y265 t268 t269 w0 _ ?side1 ?side2 ?side3 ?side4 ?side5 A20.out).mono ?_
   (case side1 => exact q11)
   (case side2 => exact q24)
   (case side3 => exact (by repeat (first | exact (Kd.R_reads' HO267.out).2.2 | (with_reducible refine Kd.C_alloc ?_ _) | (with_reducible refine Kd.C_drewN ?_ _) | (with_reducible refine Kd.C_drew ?_))))
   (case side4 => exact (Kd.R_reads' HO267.out).2.1)
   (case side5 => exact far_slice (IsS63.own_ne HI0.out HO267.out (by decide)))
   rintro e w44 ⟨rfl, hi, hb, hk⟩
   refine ⟨_, rfl, ?_⟩
   have n0_ := Aside0.mk (Kd.R_mono (Kd.R_keep (IsS63.apart (show IsS63 w0 _ g s0_0 t263 from q11) q17 (by decide)) hk (fun _ h => h.2)) (fun _ h => h.1))
   have n1_ := Aside0.mk (KeepBut.blk hk BK254.out NB254_0.out (by simp))
   have n2_ := Aside0.mk (Kd.R_mono (Kd.R_keep (IsS63.apart (show IsS63 w0 _ g s0_0 t263 from q11) q45 (by decide)) hk (fun _ h => h.2)) (fun _ h => h.1))
   have n3_ := Aside0.mk (KeepBut.blk hk BK264.out NB264_0.out (by simp))
   have n4_ := Aside0.mk (Kd.R_mono (Kd.R_keep (IsS63.apart (show IsS63 w0 _ g s0_0 t263 from q11) (by (with_reducible repeat (first | apply Kd.R_alloc | apply Kd.R_drewN | apply Kd.R_drew)); exact HO267.out) (by decide)) hk (fun _ h => h.2)) (fun _ h => h.1))
   have n5_ := Aside0.mk (KeepBut.trans q23 hk (.inl rfl))
   have n6_ := Aside0.mk (hb)
   have n7_ := Aside0.mk (hi)
   clear HO_5
   clear BK254
   clear HO259
   clear BK264
   clear HO267
   clear HK
   clear HB
   clear HI0
   have HO_5 := n0_
   have BK254 := n1_
   have HO259 := n2_
   have BK264 := n3_
   have HO267 := n4_
   have HK := n5_
   have HB := n6_
   have HI0 := n7_
   clear n0_ n1_ n2_ n3_ n4_ n5_ n6_ n7_
   (try clear hb)
   (try clear hb2)
   (try clear hk)
   (try clear hi)
   refine hK.out _ _ ⟨(blk_cell BK254.out 0).trans rfl, (blk_cell BK254.out 1).trans rfl⟩ (fun hHeld => ?_)
   clear hK K
   refine norm_ (a' := ?_) ?_ ?_
   rotate_left
   ·
    show Act.put _ (some 43) _ = _
    simp only [Act.put, List.setIfInBounds_toArray, List.set_cons_zero, List.set_cons_succ, i64_w, i32_w]
    rfl
   refine pv_ (i := 5) (N := some 44) #[Y_,Y_,Y_,Y_,Y_,Y_,N_,N_,N_] (h := ?_)
   refine pv_ (i := 6) (N := some 45) #[Y_,Y_,Y_,Y_,Y_,Y_,Y_,N_,N_] (h := ?_)
   refine pv_ (i := 7) (N := some 46) #[Y_,Y_,Y_,Y_,Y_,Y_,Y_,Y_,N_] (h := ?_)
   refine one_ (i := 8) (N := none) #[Y_,Y_,Y_,Y_,Y_,Y_,Y_,Y_,Y_] rfl rfl (one_of HT_.out (by kernel_rfl)) (by decide) (fun K hK => ?_)
   have hs45 : w44.cell? ⟨gb264, 1, none⟩ = some (.int .i64 t262) := (blk_cell BK264.out 1).trans rfl
   have hfs45 := blk_frozen BK264.out 1
   have hns45_0 := NB254_264.out
   have hms45_0 := NB264_254.out
   refine skip_ (w1 := ?_) (by rfl) rfl ?_ ?_
   rotate_left
   ·
    go_simp
    rfl
   refine hK.out _ _ ⟨((cell_far (p := ⟨gb264, _, none⟩) NB254_264.out _).trans (hHeld.1)), ((cell_far (p := ⟨gb264, _, none⟩) NB254_264.out _).trans (hHeld.2))⟩ (fun hHeld => ?_)
   clear hK K
   refine done_ (done_of HT_.out (by kernel_rfl)) ?_
   have hnb46 := NB264_254.out
   have hnc46 := NB254_264.out
   have hnb47 := NB264_0.out
   have hnc47 := NB0_264.out
   obtain ⟨hcz48_0, hcz48_1, hfz48_0, hfz48_1⟩ := blk2 BK264.out
   try go_wp2_with (first | ((with_reducible refine gate_builtin (b := .append) (xs := #[.tmp 47, .tmp 49]) rfl ?_); at_builtin; refine Kd.R_append k58 w.heap.size rfl (.tmp 47) (.tmp 49) 30 58 (.agg #[(.int .i64 0), (.int .i64 0)]) 16 rfl Try.underlying30 info58 rfl (by decide) (by omega) (.slice (some ad253) x5_1.length co23) x5_1 (⟨wrap64 ((wrap64 (((rd_T58 x5_1 (ji13)).f0) + 1)) + t260), ji21⟩ : S58) [.int .i64 (wrap64 ((wrap64 (((rd_T58 x5_1 (ji13)).f0) + 1)) + t260)), .int .i64 ji21] (fun k_ => k_ ≠ gb254 ∧ k_ ≠ gb264) (fun _ => False) rfl (by first | (go_simp; done) | (go_simp; rfl)) ?aP (fun _ hk => hk.elim) ?aF ?aO (Below.refl _ _) ?aS ?aL ?_; (case aP => exact k58_mkM _ _ _ (⟨wrap64 ((wrap64 (((rd_T58 x5_1 (ji13)).f0) + 1)) + t260), ji21⟩ : S58)); (case aF => exact (fun k_ hk => ⟨Kd.freshB (g := gb254) (o := .cells #[.int .i64 ((rd_T58 x5_1 (ji13)).f0), .int .i64 ((rd_T58 x5_1 (ji13)).f1)] 58 (0, 0)) (by (with_reducible repeat (first | refine blk_drewN ?_ _ | refine blk_drew ?_ | refine blk_alloc ?_ _)); refine blk_far ?_ NB254_264.out _; (with_reducible repeat (first | refine blk_drewN ?_ _ | refine blk_drew ?_ | refine blk_alloc ?_ _)); exact BK254.out) k_ hk, Kd.freshB (g := gb264) (o := .cells #[.int .i64 (wrap64 ((wrap64 (((rd_T58 x5_1 (ji13)).f0) + 1)) + t260)), .int .i64 ji21] 58 (0, 0)) (by (with_reducible repeat (first | refine blk_drewN ?_ _ | refine blk_drew ?_ | refine blk_alloc ?_ _)); refine blk_put (cs := #[.int .i64 (wrap64 ((wrap64 (((rd_T58 x5_1 (ji13)).f0) + 1)) + t260)), .int .i64 t262]) ?_ 1 _ rfl; (with_reducible repeat (first | refine blk_drewN ?_ _ | refine blk_drew ?_ | refine blk_alloc ?_ _)); exact BK264.out) k_ hk⟩)); (case aO => exact (by (with_reducible repeat (first | apply Kd.R_alloc | apply Kd.R_drewN | apply Kd.R_drew)); exact Kd.R_mono (Kd.R_far (p := ⟨gb264, 1, none⟩) (Kd.R_mono HO_5.out (fun k_ hk => (⟨hk, hk.2⟩ : _ ∧ k_ ≠ gb264))) (fun _ hk => hk.2) (.int .i64 ji21)) (fun _ hk => ⟨hk.1.1, hk.1.2⟩))); (case aS => exact (keep_size (w := w) (g := g) (row := none) q23)); (case aL => have := LMc22.out; omega); intro v271 w49 ho hb hg hat; rw [← Ny270.out] at ho; have n0_ : Aside0 (IsS63 w0 w49 g s0_0 t269) := ⟨IsS63.grown q11 hg (IsS63.own_ne HI0.out HO_5.out (by decide))⟩; have n1_ := Aside0.mk (blk_grown (g := gb254) (o := .cells #[.int .i64 ((rd_T58 x5_1 (ji13)).f0), .int .i64 ((rd_T58 x5_1 (ji13)).f1)] 58 (0, 0)) (by (with_reducible repeat (first | refine blk_drewN ?_ _ | refine blk_drew ?_ | refine blk_alloc ?_ _)); refine blk_far ?_ NB254_264.out _; (with_reducible repeat (first | refine blk_drewN ?_ _ | refine blk_drew ?_ | refine blk_alloc ?_ _)); exact BK254.out) hg (Kd.R_away HO_5.out (fun _ hk => hk.1))); have n3_ := Aside0.mk (blk_grown (g := gb264) (o := .cells #[.int .i64 (wrap64 ((wrap64 (((rd_T58 x5_1 (ji13)).f0) + 1)) + t260)), .int .i64 ji21] 58 (0, 0)) (by (with_reducible repeat (first | refine blk_drewN ?_ _ | refine blk_drew ?_ | refine blk_alloc ?_ _)); refine blk_put (cs := #[.int .i64 (wrap64 ((wrap64 (((rd_T58 x5_1 (ji13)).f0) + 1)) + t260)), .int .i64 t262]) ?_ 1 _ rfl; (with_reducible repeat (first | refine blk_drewN ?_ _ | refine blk_drew ?_ | refine blk_alloc ?_ _)); exact BK264.out) hg (Kd.R_away HO_5.out (fun _ hk => hk.2))); have n5_ := Aside0.mk (below_weaken q24 HL.out hb); have n6_ := Aside0.mk (KeepBut.trans q23 (KeepBut.of_grown hg g) (Kd.R_base2 HO_5.out)); have n7_ := Aside0.mk (ho); clear HI0; clear BK254; clear HO259; clear BK264; clear HO267; clear HB; clear HK; clear HO_5; have HI0 := n0_; have BK254 := n1_; have BK264 := n3_; have HB := n5_; have HK := n6_; have HO272 := n7_; clear n0_ n1_ n3_ n5_ n6_ n7_; clear ho hb hg hat))
   go_roundg k1
   case measure => have := HK1.out; omega
   case rel => exact ⟨(y270), (wrap64 (x6_1 - 1)), (t269), q26, H', ⟨by have := HK1.out; omega⟩, ⟨by (with_reducible repeat (first | apply Kd.R_alloc | apply Kd.R_drewN | apply Kd.R_drew)); exact Kd.R_mono HO272.out (fun _ hk => trivial)⟩, ⟨q11⟩, ⟨q23⟩, ⟨q24⟩⟩

end Go.Proofs.Ytbacfajhgmnjpaa.P
