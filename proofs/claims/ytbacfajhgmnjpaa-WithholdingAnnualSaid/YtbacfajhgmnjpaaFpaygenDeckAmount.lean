/- Proved here: that the Go function paygen_Deck_Amount computes the plain function of that name (the machine side of the laws, reworked from a print; no condition of its own). -/
import Derived.Test.YtbacfajhgmnjpaaProg
import Derived.Test.YtbacfajhgmnjpaaV1
import Derived.Test.YtbacfajhgmnjpaaV2
import Derived.Test.YtbacfajhgmnjpaaFPRE
import Derived.Test.YtbacfajhgmnjpaaFpaygen
namespace Go.Proofs.Ytbacfajhgmnjpaa.P
open Go.RowKit Go.Proofs.YtbacfajhgmnjpaaW.PrintWords Go.Proofs.YtbacfajhgmnjpaaW.PrintLast Go.Proofs.YtbacfajhgmnjpaaW.PrintMore
attribute [local go_sem] max2_int min2_int max_two min_two max_three min_three max_four min_four   -- for this text's walks alone
set_option linter.unusedVariables false
set_option linter.unusedSimpArgs false

def paygen_Deck_Amount.f (s0_0 : List Int) (s0_1 : Int) : Option (Int × Int) := (paygen_Deck_Next.f s0_0 s0_1 6).bind fun bt516 => (if bt516.1 = 0 then ((paygen_Deck_Pick.f s0_0 bt516.2 (([0, 1, 99, 100, 101] : List Int))).bind fun bt521 => (some (bt521.1, bt521.2))) else (if bt516.1 = 1 then ((paygen_Deck_Pick.f s0_0 bt516.2 (([1000000000, 999999999, 500000000, 100000000] : List Int))).bind fun bt526 => (some (bt526.1, bt526.2))) else ((paygen_Deck_Next.f s0_0 bt516.2 600000).bind fun bt528 => (some (bt528.1, bt528.2)))))
set_option maxHeartbeats 8000000 in
set_option maxRecDepth 100000 in
theorem paygen_Deck_Amount.calls (g : Nat) (s0_0 : List Int) (s0_1 : Int) (r1 : Int) (r2 : Int) (w0 w : World) (hI : IsS63 w0 w g s0_0 s0_1) (hB : Below w0.heap.size w0 w) (h : paygen_Deck_Amount.f s0_0 s0_1 = some (r1, r2)) :
  Calls Try.prog 21 #[.pointer (some ⟨g, 0, none⟩)] w fun e w' => e = .returned (.int .i64 r1) ∧ IsS63 w0 w' g s0_0 r2 ∧ Below w0.heap.size w0 w' ∧ KeepBut w w' g none := by
 have HI0 := Aside0.mk hI
 have HK := Aside0.mk (KeepBut.refl w g none)
 have HL := Aside0.mk hB.size
 clear hI
 have HW0 := Aside0.mk hB.size
 have HB := Aside0.mk hB
 clear hB
 have H : ((paygen_Deck_Next.f s0_0 s0_1 6).bind fun bt516 => (if bt516.1 = 0 then ((paygen_Deck_Pick.f s0_0 bt516.2 (([0, 1, 99, 100, 101] : List Int))).bind fun bt521 => (some (bt521.1, bt521.2))) else (if bt516.1 = 1 then ((paygen_Deck_Pick.f s0_0 bt516.2 (([1000000000, 999999999, 500000000, 100000000] : List Int))).bind fun bt526 => (some (bt526.1, bt526.2))) else ((paygen_Deck_Next.f s0_0 bt516.2 600000).bind fun bt528 => (some (bt528.1, bt528.2)))))) = some (r1, r2) := h
 clear h
 replace H := Option.bind_eq_some_iff.mp H
 obtain ⟨⟨t516, t517⟩, A20, H⟩ := H
 try dsimp only at H
 have A2 := Aside0.mk A20
 clear A20
 by_cases c3 : t516 = 0
 ·
  rw [if_pos c3] at H
  have c3b0 : (t516 == 0) = true := beq_iff_eq.mpr c3
  have c3b1 : (t516 != 0) = false := bne_eq_false_iff_eq.mpr c3
  clear c3
  obtain ⟨y518, hy518⟩ : ∃ y_ : List Int, y_ = (([0, 1, 99, 100, 101] : List Int)) := ⟨_, rfl⟩
  replace H : ((paygen_Deck_Pick.f s0_0 t517 y518).bind fun bt521 => (some (bt521.1, bt521.2))) = some (r1, r2) := by first | (rw [hy518]; with_reducible exact H) | (have H2_ := (Option.bind_some _ _).symm.trans H; rw [hy518]; with_reducible exact H2_) | (have H2_ := (Option.bind_some _ _).symm.trans H; with_reducible exact H2_) | with_reducible exact H | (rw [hy518]; exact H) | exact H
  have Ny518 := Aside0.mk hy518
  clear hy518
  replace H := Option.bind_eq_some_iff.mp H
  obtain ⟨⟨t521, t522⟩, A40, H⟩ := H
  replace H : (some (t521, t522)) = some (r1, r2) := H
  have A4 := Aside0.mk A40
  clear A40
  simp only [Option.some.injEq, Prod.mk.injEq] at H
  obtain ⟨rfl, rfl⟩ := H
  exact (by go_enter Try.func21, Try.ntmps21; go_wp2_with (first | ((with_reducible refine gate_callee (f := 17) rfl ?_); refine goesL_ (some 4) rfl rfl Try.func17 (by kernel_rfl) rfl #[.pointer (some ⟨g, 0, none⟩), .int .i64 6] rfl q1 ?_; (with_reducible refine (paygen_Deck_Next.calls g s0_0 s0_1 6 t516 t517 w0 _ ?side1 ?side2 A2.out).mono ?_); (case side1 => exact q3); (case side2 => exact q7); rintro e w_1 ⟨rfl, hi, hb, hk⟩; refine ⟨_, rfl, ?_⟩; have n0_ := Aside0.mk (KeepBut.trans q5 hk (.inl rfl)); have n1_ := Aside0.mk (hb); have n2_ := Aside0.mk (hi); clear HK; clear HB; clear HI0; have HK := n0_; have HB := n1_; have HI0 := n2_; clear n0_ n1_ n2_; (try clear hb); (try clear hb2); (try clear hk); (try clear hi)) | ((with_reducible refine gate_dst (N := 8) rfl ?_); refine Kd.R_lit (Kd.int .i64) _ 3 ?hg (N := 8) ?hd (xs := ([0, 1, 99, 100, 101] : List Int)) (inner := [.int .i64 0, .int .i64 1, .int .i64 99, .int .i64 100, .int .i64 101]) (ok := fun _ => True) (okp := fun _ => True) ?hr ?hp (fun _ hk => hk) trivial (Below.refl _ _) (Nat.le_refl _) (by simp) ?_; (case hd => rfl); (case hg => rfl); (case hr => first | (go_simp; done) | (go_simp; rfl)); (case hp => exact (Reps.one (show Kd.M (Kd.int .i64) _ _ _ 0 [.int .i64 0] from rfl) (Reps.one (show Kd.M (Kd.int .i64) _ _ _ 1 [.int .i64 1] from rfl) (Reps.one (show Kd.M (Kd.int .i64) _ _ _ 99 [.int .i64 99] from rfl) (Reps.one (show Kd.M (Kd.int .i64) _ _ _ 100 [.int .i64 100] from rfl) (Reps.one (show Kd.M (Kd.int .i64) _ _ _ 101 [.int .i64 101] from rfl) (Reps.none _ _))))))); intro v519 w_2 ho_1 hb hg_ hnew_; clear hg_ hnew_; (first | rw [← Ny518.out] at ho_1 | (simp only [Int.reduceToNat] at ho_1; rw [← Ny518.out] at ho_1)); have n0_ := Aside0.mk (Kd.R_lower ho_1 (keep_size (w := w) (g := g) (row := none) q5)); have n1_ := Aside0.mk (IsS63.below q3 hb); have n2_ := Aside0.mk (KeepBut.trans q5 (KeepBut.of_below hb g none) (.inl rfl)); have n3_ := Aside0.mk (below_step q7 hb); clear HI0; clear HK; clear HB; have HO_1 := n0_; have HI0 := n1_; have HK := n2_; have HB := n3_; clear n0_ n1_ n2_ n3_; clear hb ho_1; obtain ⟨Ao_1, co_1, eo_1⟩ := Kd.R_slice HO_1.out; subst eo_1) | ((with_reducible refine gate_callee (f := 15) rfl ?_); refine goesL_ (some 9) rfl rfl Try.func15 (by kernel_rfl) rfl #[.pointer (some ⟨g, 0, none⟩), .slice Ao_1 y518.length co_1] rfl q1 ?_; (with_reducible refine (paygen_Deck_Pick.calls g s0_0 t517 _ _ y518 t521 t522 w0 _ ?side1 ?side2 ?side3 ?side4 ?side5 A4.out).mono ?_); (case side1 => exact q3); (case side2 => exact q7); (case side3 => exact q30); (case side4 => exact (Kd.R_reads' HO_1.out).2.1); (case side5 => exact far_slice (IsS63.own_ne HI0.out HO_1.out (by decide))); rintro e w_3 ⟨rfl, hi, hb, hk⟩; refine ⟨_, rfl, ?_⟩; have n0_ := Aside0.mk (Kd.R_mono (Kd.R_keep (IsS63.apart (show IsS63 w0 _ g s0_0 t517 from q3) q20 (by decide)) hk (fun _ h => h.2)) (fun _ h => h.1)); have n1_ := Aside0.mk (KeepBut.trans q5 hk (.inl rfl)); have n2_ := Aside0.mk (hb); have n3_ := Aside0.mk (hi); clear HO_1; clear HK; clear HB; clear HI0; have HO_1 := n0_; have HK := n1_; have HB := n2_; have HI0 := n3_; clear n0_ n1_ n2_ n3_; (try clear hb); (try clear hb2); (try clear hk); (try clear hi))); go_ret; exact ⟨by first | rfl | (simp [errW_none, errW_some] <;> rfl) | (simp [*, errW_none, errW_some] <;> rfl), q3, q7, q5⟩)
 ·
  rw [if_neg c3] at H
  have c3b0 : (t516 == 0) = false := beq_eq_false_iff_ne.mpr c3
  have c3b1 : (t516 != 0) = true := bne_iff_ne.mpr c3
  by_cases c10 : t516 = 1
  ·
   rw [if_pos c10] at H
   have c10b0 : (t516 == 1) = true := beq_iff_eq.mpr c10
   have c10b1 : (t516 != 1) = false := bne_eq_false_iff_eq.mpr c10
   clear c10
   obtain ⟨y523, hy523⟩ : ∃ y_ : List Int, y_ = (([1000000000, 999999999, 500000000, 100000000] : List Int)) := ⟨_, rfl⟩
   replace H : ((paygen_Deck_Pick.f s0_0 t517 y523).bind fun bt526 => (some (bt526.1, bt526.2))) = some (r1, r2) := by first | (rw [hy523]; with_reducible exact H) | (have H2_ := (Option.bind_some _ _).symm.trans H; rw [hy523]; with_reducible exact H2_) | (have H2_ := (Option.bind_some _ _).symm.trans H; with_reducible exact H2_) | with_reducible exact H | (rw [hy523]; exact H) | exact H
   have Ny523 := Aside0.mk hy523
   clear hy523
   replace H := Option.bind_eq_some_iff.mp H
   obtain ⟨⟨t526, t527⟩, A110, H⟩ := H
   replace H : (some (t526, t527)) = some (r1, r2) := H
   have A11 := Aside0.mk A110
   clear A110
   simp only [Option.some.injEq, Prod.mk.injEq] at H
   obtain ⟨rfl, rfl⟩ := H
   exact (by go_enter Try.func21, Try.ntmps21; go_wp2_with (first | ((with_reducible refine gate_callee (f := 17) rfl ?_); refine goesL_ (some 4) rfl rfl Try.func17 (by kernel_rfl) rfl #[.pointer (some ⟨g, 0, none⟩), .int .i64 6] rfl q1 ?_; (with_reducible refine (paygen_Deck_Next.calls g s0_0 s0_1 6 t516 t517 w0 _ ?side1 ?side2 A2.out).mono ?_); (case side1 => exact q3); (case side2 => exact q7); rintro e w_1 ⟨rfl, hi, hb, hk⟩; refine ⟨_, rfl, ?_⟩; have n0_ := Aside0.mk (KeepBut.trans q5 hk (.inl rfl)); have n1_ := Aside0.mk (hb); have n2_ := Aside0.mk (hi); clear HK; clear HB; clear HI0; have HK := n0_; have HB := n1_; have HI0 := n2_; clear n0_ n1_ n2_; (try clear hb); (try clear hb2); (try clear hk); (try clear hi)) | ((with_reducible refine gate_dst (N := 13) rfl ?_); refine Kd.R_lit (Kd.int .i64) _ 3 ?hg (N := 13) ?hd (xs := ([1000000000, 999999999, 500000000, 100000000] : List Int)) (inner := [.int .i64 1000000000, .int .i64 999999999, .int .i64 500000000, .int .i64 100000000]) (ok := fun _ => True) (okp := fun _ => True) ?hr ?hp (fun _ hk => hk) trivial (Below.refl _ _) (Nat.le_refl _) (by simp) ?_; (case hd => rfl); (case hg => rfl); (case hr => first | (go_simp; done) | (go_simp; rfl)); (case hp => exact (Reps.one (show Kd.M (Kd.int .i64) _ _ _ 1000000000 [.int .i64 1000000000] from rfl) (Reps.one (show Kd.M (Kd.int .i64) _ _ _ 999999999 [.int .i64 999999999] from rfl) (Reps.one (show Kd.M (Kd.int .i64) _ _ _ 500000000 [.int .i64 500000000] from rfl) (Reps.one (show Kd.M (Kd.int .i64) _ _ _ 100000000 [.int .i64 100000000] from rfl) (Reps.none _ _)))))); intro v524 w_2 ho_1 hb hg_ hnew_; clear hg_ hnew_; (first | rw [← Ny523.out] at ho_1 | (simp only [Int.reduceToNat] at ho_1; rw [← Ny523.out] at ho_1)); have n0_ := Aside0.mk (Kd.R_lower ho_1 (keep_size (w := w) (g := g) (row := none) q5)); have n1_ := Aside0.mk (IsS63.below q3 hb); have n2_ := Aside0.mk (KeepBut.trans q5 (KeepBut.of_below hb g none) (.inl rfl)); have n3_ := Aside0.mk (below_step q7 hb); clear HI0; clear HK; clear HB; have HO_1 := n0_; have HI0 := n1_; have HK := n2_; have HB := n3_; clear n0_ n1_ n2_ n3_; clear hb ho_1; obtain ⟨Ao_1, co_1, eo_1⟩ := Kd.R_slice HO_1.out; subst eo_1) | ((with_reducible refine gate_callee (f := 15) rfl ?_); refine goesL_ (some 14) rfl rfl Try.func15 (by kernel_rfl) rfl #[.pointer (some ⟨g, 0, none⟩), .slice Ao_1 y523.length co_1] rfl q1 ?_; (with_reducible refine (paygen_Deck_Pick.calls g s0_0 t517 _ _ y523 t526 t527 w0 _ ?side1 ?side2 ?side3 ?side4 ?side5 A11.out).mono ?_); (case side1 => exact q3); (case side2 => exact q7); (case side3 => exact q30); (case side4 => exact (Kd.R_reads' HO_1.out).2.1); (case side5 => exact far_slice (IsS63.own_ne HI0.out HO_1.out (by decide))); rintro e w_3 ⟨rfl, hi, hb, hk⟩; refine ⟨_, rfl, ?_⟩; have n0_ := Aside0.mk (Kd.R_mono (Kd.R_keep (IsS63.apart (show IsS63 w0 _ g s0_0 t517 from q3) q20 (by decide)) hk (fun _ h => h.2)) (fun _ h => h.1)); have n1_ := Aside0.mk (KeepBut.trans q5 hk (.inl rfl)); have n2_ := Aside0.mk (hb); have n3_ := Aside0.mk (hi); clear HO_1; clear HK; clear HB; clear HI0; have HO_1 := n0_; have HK := n1_; have HB := n2_; have HI0 := n3_; clear n0_ n1_ n2_ n3_; (try clear hb); (try clear hb2); (try clear hk); (try clear hi))); go_ret; exact ⟨by first | rfl | (simp [errW_none, errW_some] <;> rfl) | (simp [*, errW_none, errW_some] <;> rfl), q3, q7, q5⟩)
  ·
   rw [if_neg c10] at H
   have c10b0 : (t516 == 1) = false := beq_eq_false_iff_ne.mpr c10
   have c10b1 : (t516 != 1) = true := bne_iff_ne.mpr c10
   replace H := Option.bind_eq_some_iff.mp H
   obtain ⟨⟨t528, t529⟩, A170, H⟩ := H
   replace H : (some (t528, t529)) = some (r1, r2) := H
   have A17 := Aside0.mk A170
   clear A170
   simp only [Option.some.injEq, Prod.mk.injEq] at H
   obtain ⟨rfl, rfl⟩ := H
   exact (by go_enter Try.func21, Try.ntmps21; go_wp2_with (first | ((with_reducible refine gate_callee (f := 17) rfl ?_); refine goesL_ (some 4) rfl rfl Try.func17 (by kernel_rfl) rfl #[.pointer (some ⟨g, 0, none⟩), .int .i64 6] rfl q1 ?_; (with_reducible refine (paygen_Deck_Next.calls g s0_0 s0_1 6 t516 t517 w0 _ ?side1 ?side2 A2.out).mono ?_); (case side1 => exact q3); (case side2 => exact q7); rintro e w_1 ⟨rfl, hi, hb, hk⟩; refine ⟨_, rfl, ?_⟩; have n0_ := Aside0.mk (KeepBut.trans q5 hk (.inl rfl)); have n1_ := Aside0.mk (hb); have n2_ := Aside0.mk (hi); clear HK; clear HB; clear HI0; have HK := n0_; have HB := n1_; have HI0 := n2_; clear n0_ n1_ n2_; (try clear hb); (try clear hb2); (try clear hk); (try clear hi)) | ((with_reducible refine gate_callee (f := 17) rfl ?_); refine goesL_ (some 16) rfl rfl Try.func17 (by kernel_rfl) rfl #[.pointer (some ⟨g, 0, none⟩), .int .i64 600000] rfl q1 ?_; (with_reducible refine (paygen_Deck_Next.calls g s0_0 t517 600000 t528 t529 w0 _ ?side1 ?side2 A17.out).mono ?_); (case side1 => exact q3); (case side2 => exact q7); rintro e w_2 ⟨rfl, hi, hb, hk⟩; refine ⟨_, rfl, ?_⟩; have n0_ := Aside0.mk (KeepBut.trans q5 hk (.inl rfl)); have n1_ := Aside0.mk (hb); have n2_ := Aside0.mk (hi); clear HK; clear HB; clear HI0; have HK := n0_; have HB := n1_; have HI0 := n2_; clear n0_ n1_ n2_; (try clear hb); (try clear hb2); (try clear hk); (try clear hi))); go_ret; exact ⟨by first | rfl | (simp [errW_none, errW_some] <;> rfl) | (simp [*, errW_none, errW_some] <;> rfl), q3, q7, q5⟩)

end Go.Proofs.Ytbacfajhgmnjpaa.P
