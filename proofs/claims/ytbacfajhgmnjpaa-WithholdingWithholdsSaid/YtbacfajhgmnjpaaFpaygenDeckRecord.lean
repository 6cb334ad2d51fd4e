/- Proved here: that the Go function paygen_Deck_Record computes the plain function of that name (the machine side of the laws, reworked from a print; no condition of its own). -/
import Derived.Test.YtbacfajhgmnjpaaProg
import Derived.Test.YtbacfajhgmnjpaaV1
import Derived.Test.YtbacfajhgmnjpaaV2
import Derived.Test.YtbacfajhgmnjpaaFPRE
import Derived.Test.YtbacfajhgmnjpaaFpaygen
namespace Go.Proofs.Ytbacfajhgmnjpaa.P
open Go.RowKit Go.Proofs.YtbacfajhgmnjpaaW.PrintWords Go.Proofs.YtbacfajhgmnjpaaW.PrintLast Go.Proofs.YtbacfajhgmnjpaaW.PrintMore
attribute [local go_sem] max2_int min2_int max_two min_two max_three min_three max_four min_four   -- for this text's walks alone
set_option linter.unusedVariables false
set_option linter.unusedSimpArgs false

def paygen_Deck_Record.l0 : Nat → List (S61) → List ByteArray → Int → Int → List Int → Int → Option ((List (S61)) × Int)
 | 0, _, _, _, _, _, _ => none
 | k + 1, x3, x6, x7, x8, x1000, x1001 => if x8 < x7 then (if 0 ≤ x8 then (if x8 < (x6.length : Int) then ((paygen_Deck_Next.f x1000 x1001 3).bind fun bt357 => (if bt357.1 = 0 then ((paygen_Deck_Small.f x1000 bt357.2).bind fun bt359 => ((paygen_Deck_Pick.f x1000 bt359.2 (([0, 50, 100, 19999, 20000, bt359.1] : List Int))).bind fun bt364 => (if x3.length < 5864062014805 then (paygen_Deck_Record.l0 k (x3 ++ [(⟨rdOf ByteArray.empty x6 x8, bt364.1⟩ : S61)]) x6 x7 (wrap64 (x8 + 1)) x1000 bt364.2) else (none)))) else (paygen_Deck_Record.l0 k x3 x6 x7 (wrap64 (x8 + 1)) x1000 bt357.2))) else (none)) else (none)) else (some (x3, x1001))
def paygen_Deck_Record.f (k : Nat) (s0_0 : List Int) (s0_1 : Int) : Option ((List (S61)) × Int) := (some (([(⟨#[99, 108, 117, 98]⟩ : ByteArray), (⟨#[108, 111, 97, 110]⟩ : ByteArray), (⟨#[112, 108, 97, 110]⟩ : ByteArray), (⟨#[117, 110, 105, 111, 110]⟩ : ByteArray)] : List ByteArray) : List ByteArray)).bind fun y353 => (paygen_Deck_Record.l0 k ([] : List (S61)) y353 (y353.length : Int) 0 s0_0 s0_1)
set_option maxHeartbeats 8000000 in
set_option maxRecDepth 100000 in
theorem paygen_Deck_Record.calls (k : Nat) (g : Nat) (s0_0 : List Int) (s0_1 : Int) (r1 : List (S61)) (r2 : Int) (w0 w : World) (hI : IsS63 w0 w g s0_0 s0_1) (hB : Below w0.heap.size w0 w) (h : paygen_Deck_Record.f k s0_0 s0_1 = some (r1, r2)) :
  Calls Try.prog 39 #[.pointer (some ⟨g, 0, none⟩)] w fun e w' => ∃ v0_ : Value, e = .returned (v0_) ∧ Kd.R k61 61 w' w.heap.size (fun _ => True) v0_ r1 ∧ IsS63 w0 w' g s0_0 r2 ∧ Below w0.heap.size w0 w' ∧ KeepBut w w' g none := by
 have hu61 := Try.underlying61
 have HI0 := Aside0.mk hI
 have HK := Aside0.mk (KeepBut.refl w g none)
 have HL := Aside0.mk hB.size
 clear hI
 have HW0 := Aside0.mk hB.size
 have HB := Aside0.mk hB
 clear hB
 have H : ((some (([(⟨#[99, 108, 117, 98]⟩ : ByteArray), (⟨#[108, 111, 97, 110]⟩ : ByteArray), (⟨#[112, 108, 97, 110]⟩ : ByteArray), (⟨#[117, 110, 105, 111, 110]⟩ : ByteArray)] : List ByteArray) : List ByteArray)).bind fun y353 => (paygen_Deck_Record.l0 k ([] : List (S61)) y353 (y353.length : Int) 0 s0_0 s0_1)) = some (r1, r2) := h
 clear h
 obtain ⟨y353, hy353⟩ : ∃ y_ : List ByteArray, y_ = (([(⟨#[99, 108, 117, 98]⟩ : ByteArray), (⟨#[108, 111, 97, 110]⟩ : ByteArray), (⟨#[112, 108, 97, 110]⟩ : ByteArray), (⟨#[117, 110, 105, 111, 110]⟩ : ByteArray)] : List ByteArray)) := ⟨_, rfl⟩
 replace H : (paygen_Deck_Record.l0 k ([] : List (S61)) y353 (y353.length : Int) 0 s0_0 s0_1) = some (r1, r2) := by first | (rw [hy353]; with_reducible exact H) | (have H2_ := (Option.bind_some _ _).symm.trans H; rw [hy353]; with_reducible exact H2_) | (have H2_ := (Option.bind_some _ _).symm.trans H; with_reducible exact H2_) | with_reducible exact H | (rw [hy353]; exact H) | exact H
 have Ny353 := Aside0.mk hy353
 clear hy353
 have H' := Aside0.mk H
 clear H
 go_enter Try.func39, Try.ntmps39
 go_wp2_with (first | ((with_reducible refine gate_dst (N := 6) rfl ?_); refine Kd.R_lit Kd.string _ 9 ?hg (N := 6) ?hd (xs := ([(⟨#[99, 108, 117, 98]⟩ : ByteArray), (⟨#[108, 111, 97, 110]⟩ : ByteArray), (⟨#[112, 108, 97, 110]⟩ : ByteArray), (⟨#[117, 110, 105, 111, 110]⟩ : ByteArray)] : List ByteArray)) (inner := [.string (⟨#[99, 108, 117, 98]⟩ : ByteArray), .string (⟨#[108, 111, 97, 110]⟩ : ByteArray), .string (⟨#[112, 108, 97, 110]⟩ : ByteArray), .string (⟨#[117, 110, 105, 111, 110]⟩ : ByteArray)]) (ok := fun _ => True) (okp := fun _ => True) ?hr ?hp (fun _ hk => hk) trivial (Below.refl _ _) (Nat.le_refl _) (by simp) ?_; (case hd => rfl); (case hg => rfl); (case hr => first | (go_simp; done) | (go_simp; rfl)); (case hp => exact (Reps.one (show Kd.M Kd.string _ _ _ (⟨#[99, 108, 117, 98]⟩ : ByteArray) [.string (⟨#[99, 108, 117, 98]⟩ : ByteArray)] from rfl) (Reps.one (show Kd.M Kd.string _ _ _ (⟨#[108, 111, 97, 110]⟩ : ByteArray) [.string (⟨#[108, 111, 97, 110]⟩ : ByteArray)] from rfl) (Reps.one (show Kd.M Kd.string _ _ _ (⟨#[112, 108, 97, 110]⟩ : ByteArray) [.string (⟨#[112, 108, 97, 110]⟩ : ByteArray)] from rfl) (Reps.one (show Kd.M Kd.string _ _ _ (⟨#[117, 110, 105, 111, 110]⟩ : ByteArray) [.string (⟨#[117, 110, 105, 111, 110]⟩ : ByteArray)] from rfl) (Reps.none _ _)))))); intro v354 w2 ho3 hb hg_ hnew_; clear hg_ hnew_; (first | rw [← Ny353.out] at ho3 | (simp only [Int.reduceToNat] at ho3; rw [← Ny353.out] at ho3)); have n0_ := Aside0.mk (Kd.R_lower ho3 (keep_size (w := w) (g := g) (row := none) q5)); have n1_ := Aside0.mk (IsS63.below q3 hb); have n2_ := Aside0.mk (KeepBut.trans q5 (KeepBut.of_below hb g none) (.inl rfl)); have n3_ := Aside0.mk (below_step q7 hb); clear HI0; clear HK; clear HB; have HO355 := n0_; have HI0 := n1_; have HK := n2_; have HB := n3_; clear n0_ n1_ n2_ n3_; clear hb ho3; obtain ⟨Ao4, co4, eo4⟩ := Kd.R_slice HO355.out; subst eo4))
 go_loopg [3, 8] k (fun kq v3 v8 w' => ∃ (x3_1 : List (S61)) (x8_1 : Int) (x1001_1 : Int), v8 = .int .i64 x8_1 ∧ Aside0 (paygen_Deck_Record.l0 kq x3_1 y353 (y353.length : Int) x8_1 s0_0 x1001_1 = some (r1, r2)) ∧ Aside0 (kq ≤ k) ∧ Aside0 (Kd.R k61 61 w' w.heap.size (fun _ => True) v3 x3_1) ∧ Aside0 (Kd.R Kd.string 9 w' w.heap.size (fun _ => True) (.slice Ao4 y353.length co4) y353) ∧ Aside0 (IsS63 w0 w' g s0_0 x1001_1) ∧ Aside0 (KeepBut w w' g none) ∧ Aside0 (Below w0.heap.size w0 w'))
 case atStart => exact ⟨(([] : List (S61))), (0), (s0_1), q26, H', ⟨Nat.le_refl _⟩, ⟨by first | exact Kd.R_nil _ _ _ _ _ | exact Kd.N_nil _ _ _ _ _ | exact Kd.V_nil _ _ _ _ _ | exact Kd.Q_nil _ _ _ _ _ | exact Kd.S_nil _ _ _ _ _⟩, ⟨(by (with_reducible repeat (first | apply Kd.R_alloc | apply Kd.R_drewN | apply Kd.R_drew)); exact HO355.out)⟩, ⟨q3⟩, ⟨q5⟩, ⟨q7⟩⟩
 case round =>
  clear H'
  try clear p2
  try clear c3
  obtain ⟨x3_1, x8_1, x1001_1, rfl, HA, HK1, HO_3, HO_6, HI0, HK, HB⟩ := hrel
  cases gk with
  | zero => exact absurd HA.out (by simp [paygen_Deck_Record.l0])
  | succ k1 =>
   have H := HA.out
   clear HA
   simp only [paygen_Deck_Record.l0] at H
   by_cases c5 : x8_1 < (y353.length : Int)
   ·
    rw [if_pos c5] at H
    have c5b0 : decide (x8_1 < (y353.length : Int)) = true := decide_eq_true c5
    clear c5
    by_cases c6 : 0 ≤ x8_1
    ·
     rw [if_pos c6] at H
     have c6b0 : decide (0 ≤ x8_1) = true := decide_eq_true c6
     clear c6
     by_cases c7 : x8_1 < (y353.length : Int)
     ·
      rw [if_pos c7] at H
      have c7b0 : decide (x8_1 < (y353.length : Int)) = true := decide_eq_true c7
      clear c7
      replace H := Option.bind_eq_some_iff.mp H
      obtain ⟨⟨t357, t358⟩, A80, H⟩ := H
      try dsimp only at H
      have A8 := Aside0.mk A80
      clear A80
      by_cases c9 : t357 = 0
      ·
       rw [if_pos c9] at H
       have c9b0 : (t357 == 0) = true := beq_iff_eq.mpr c9
       have c9b1 : (t357 != 0) = false := bne_eq_false_iff_eq.mpr c9
       clear c9
       replace H := Option.bind_eq_some_iff.mp H
       obtain ⟨⟨t359, t360⟩, A100, H⟩ := H
       try dsimp only at H
       have A10 := Aside0.mk A100
       clear A100
       obtain ⟨y361, hy361⟩ : ∃ y_ : List Int, y_ = (([0, 50, 100, 19999, 20000, t359] : List Int)) := ⟨_, rfl⟩
       replace H : ((paygen_Deck_Pick.f s0_0 t360 y361).bind fun bt364 => (if x3_1.length < 5864062014805 then (paygen_Deck_Record.l0 k1 (x3_1 ++ [(⟨rdOf ByteArray.empty y353 x8_1, bt364.1⟩ : S61)]) y353 (y353.length : Int) (wrap64 (x8_1 + 1)) s0_0 bt364.2) else (none))) = some (r1, r2) := by first | (rw [hy361]; with_reducible exact H) | (have H2_ := (Option.bind_some _ _).symm.trans H; rw [hy361]; with_reducible exact H2_) | (have H2_ := (Option.bind_some _ _).symm.trans H; with_reducible exact H2_) | with_reducible exact H | (rw [hy361]; exact H) | exact H
       have Ny361 := Aside0.mk hy361
       clear hy361
       replace H := Option.bind_eq_some_iff.mp H
       obtain ⟨⟨t364, t365⟩, A110, H⟩ := H
       try dsimp only at H
       have A11 := Aside0.mk A110
       clear A110
       by_cases c12 : x3_1.length < 5864062014805
       ·
        rw [if_pos c12] at H
        have LMc12 := Aside0.mk c12
        clear c12
        obtain ⟨y366, hy366⟩ : ∃ y_ : List (S61), y_ = (x3_1 ++ [(⟨rdOf ByteArray.empty y353 x8_1, t364⟩ : S61)]) := ⟨_, rfl⟩
        replace H : (paygen_Deck_Record.l0 k1 y366 y353 (y353.length : Int) (wrap64 (x8_1 + 1)) s0_0 t365) = some (r1, r2) := by first | (rw [hy366]; with_reducible exact H) | (have H2_ := (Option.bind_some _ _).symm.trans H; rw [hy366]; with_reducible exact H2_) | (have H2_ := (Option.bind_some _ _).symm.trans H; with_reducible exact H2_) | with_reducible exact H | (rw [hy366]; exact H) | exact H
        have Ny366 := Aside0.mk hy366
        clear hy366
        have H' := Aside0.mk H
        clear H
        have p356 : 0 ≤ (x8_1 : Int) := of_decide_eq_true q6
        have q356 : x8_1 < (y353.length : Int) := of_decide_eq_true q6
        obtain ⟨ad356, e356, hx356_0⟩ := Kd.at_string (Kd.R_reads' HO_6.out).2.2 x8_1 p356 q356
        cases e356
        replace p356 := eq_true p356
        replace q356 := eq_true q356
        go_wp2_with (first | ((with_reducible refine gate_callee (f := 17) rfl ?_); refine goesL_ (some 13) rfl rfl Try.func17 (by kernel_rfl) rfl #[.pointer (some ⟨g, 0, none⟩), .int .i64 3] rfl q1 ?_; (with_reducible refine (paygen_Deck_Next.calls g s0_0 x1001_1 3 t357 t358 w0 _ ?side1 ?side2 A8.out).mono ?_); (case side1 => exact q3); (case side2 => exact q7); rintro e w13 ⟨rfl, hi, hb, hk⟩; refine ⟨_, rfl, ?_⟩; have n0_ := Aside0.mk (Kd.R_mono (Kd.R_keep (IsS63.apart (show IsS63 w0 _ g s0_0 x1001_1 from q3) q15 (by decide)) hk (fun _ h => h.2)) (fun _ h => h.1)); have n1_ := Aside0.mk (Kd.R_mono (Kd.R_keep (IsS63.apart (show IsS63 w0 _ g s0_0 x1001_1 from q3) q51 (by decide)) hk (fun _ h => h.2)) (fun _ h => h.1)); have n2_ := Aside0.mk (KeepBut.trans q5 hk (.inl rfl)); have n3_ := Aside0.mk (hb); have n4_ := Aside0.mk (hi); clear HO_3; clear HO_6; clear HK; clear HB; clear HI0; have HO_3 := n0_; have HO_6 := n1_; have HK := n2_; have HB := n3_; have HI0 := n4_; clear n0_ n1_ n2_ n3_ n4_; (try clear hb); (try clear hb2); (try clear hk); (try clear hi)) | ((with_reducible refine gate_callee (f := 18) rfl ?_); refine goesL_ (some 19) rfl rfl Try.func18 (by kernel_rfl) rfl #[.pointer (some ⟨g, 0, none⟩)] rfl q1 ?_; (with_reducible refine (paygen_Deck_Small.calls g s0_0 t358 t359 t360 w0 _ ?side1 ?side2 A10.out).mono ?_); (case side1 => exact q3); (case side2 => exact q7); rintro e w14 ⟨rfl, hi, hb, hk⟩; refine ⟨_, rfl, ?_⟩; have n0_ := Aside0.mk (Kd.R_mono (Kd.R_keep (IsS63.apart (show IsS63 w0 _ g s0_0 t358 from q3) q15 (by decide)) hk (fun _ h => h.2)) (fun _ h => h.1)); have n1_ := Aside0.mk (Kd.R_mono (Kd.R_keep (IsS63.apart (show IsS63 w0 _ g s0_0 t358 from q3) q51 (by decide)) hk (fun _ h => h.2)) (fun _ h => h.1)); have n2_ := Aside0.mk (KeepBut.trans q5 hk (.inl rfl)); have n3_ := Aside0.mk (hb); have n4_ := Aside0.mk (hi); clear HO_3; clear HO_6; clear HK; clear HB; clear HI0; have HO_3 := n0_; have HO_6 := n1_; have HK := n2_; have HB := n3_; have HI0 := n4_; clear n0_ n1_ n2_ n3_ n4_; (try clear hb); (try clear hb2); (try clear hk); (try clear hi)) | ((with_reducible refine gate_dst (N := 20) rfl ?_); refine Kd.R_lit (Kd.int .i64) _ 3 ?hg (N := 20) ?hd (xs := ([0, 50, 100, 19999, 20000, t359] : List Int)) (inner := [.int .i64 0, .int .i64 50, .int .i64 100, .int .i64 19999, .int .i64 20000, .int .i64 t359]) (ok := fun _ => True) (okp := fun _ => True) ?hr ?hp (fun _ hk => hk) trivial (Below.refl _ _) (Nat.le_refl _) (by simp) ?_; (case hd => rfl); (case hg => rfl); (case hr => first | (go_simp; done) | (go_simp; rfl)); (case hp => exact (Reps.one (show Kd.M (Kd.int .i64) _ _ _ 0 [.int .i64 0] from rfl) (Reps.one (show Kd.M (Kd.int .i64) _ _ _ 50 [.int .i64 50] from rfl) (Reps.one (show Kd.M (Kd.int .i64) _ _ _ 100 [.int .i64 100] from rfl) (Reps.one (show Kd.M (Kd.int .i64) _ _ _ 19999 [.int .i64 19999] from rfl) (Reps.one (show Kd.M (Kd.int .i64) _ _ _ 20000 [.int .i64 20000] from rfl) (Reps.one (show Kd.M (Kd.int .i64) _ _ _ t359 [.int .i64 t359] from rfl) (Reps.none _ _)))))))); intro v362 w15 ho16 hb hg_ hnew_; clear hg_ hnew_; (first | rw [← Ny361.out] at ho16 | (simp only [Int.reduceToNat] at ho16; rw [← Ny361.out] at ho16)); have n0_ := Aside0.mk (Kd.R_below q15 hb); have n1_ := Aside0.mk (Kd.R_below q51 hb); have n2_ := Aside0.mk (Kd.R_lower ho16 (keep_size (w := w) (g := g) (row := none) q5)); have n3_ := Aside0.mk (IsS63.below q3 hb); have n4_ := Aside0.mk (KeepBut.trans q5 (KeepBut.of_below hb g none) (.inl rfl)); have n5_ := Aside0.mk (below_step q7 hb); clear HO_3; clear HO_6; clear HI0; clear HK; clear HB; have HO_3 := n0_; have HO_6 := n1_; have HO363 := n2_; have HI0 := n3_; have HK := n4_; have HB := n5_; clear n0_ n1_ n2_ n3_ n4_ n5_; clear hb ho16; obtain ⟨Ao17, co17, eo17⟩ := Kd.R_slice HO363.out; subst eo17) | ((with_reducible refine gate_callee (f := 15) rfl ?_); refine goesL_ (some 21) rfl rfl Try.func15 (by kernel_rfl) rfl #[.pointer (some ⟨g, 0, none⟩), .slice Ao17 y361.length co17] rfl q1 ?_; (with_reducible refine (paygen_Deck_Pick.calls g s0_0 t360 _ _ y361 t364 t365 w0 _ ?side1 ?side2 ?side3 ?side4 ?side5 A11.out).mono ?_); (case side1 => exact q3); (case side2 => exact q7); (case side3 => exact (by repeat (first | exact (Kd.R_reads' HO363.out).2.2 | (with_reducible refine Kd.C_alloc ?_ _) | (with_reducible refine Kd.C_drewN ?_ _) | (with_reducible refine Kd.C_drew ?_)))); (case side4 => exact (Kd.R_reads' HO363.out).2.1); (case side5 => exact far_slice (IsS63.own_ne HI0.out HO363.out (by decide))); rintro e w18 ⟨rfl, hi, hb, hk⟩; refine ⟨_, rfl, ?_⟩; have n0_ := Aside0.mk (Kd.R_mono (Kd.R_keep (IsS63.apart (show IsS63 w0 _ g s0_0 t360 from q3) q15 (by decide)) hk (fun _ h => h.2)) (fun _ h => h.1)); have n1_ := Aside0.mk (Kd.R_mono (Kd.R_keep (IsS63.apart (show IsS63 w0 _ g s0_0 t360 from q3) q51 (by decide)) hk (fun _ h => h.2)) (fun _ h => h.1)); have n2_ := Aside0.mk (Kd.R_mono (Kd.R_keep (IsS63.apart (show IsS63 w0 _ g s0_0 t360 from q3) (by (with_reducible repeat (first | apply Kd.R_alloc | apply Kd.R_drewN | apply Kd.R_drew)); exact HO363.out) (by decide)) hk (fun _ h => h.2)) (fun _ h => h.1)); have n3_ := Aside0.mk (KeepBut.trans q5 hk (.inl rfl)); have n4_ := Aside0.mk (hb); have n5_ := Aside0.mk (hi); clear HO_3; clear HO_6; clear HO363; clear HK; clear HB; clear HI0; have HO_3 := n0_; have HO_6 := n1_; have HO363 := n2_; have HK := n3_; have HB := n4_; have HI0 := n5_; clear n0_ n1_ n2_ n3_ n4_ n5_; (try clear hb); (try clear hb2); (try clear hk); (try clear hi)) | ((with_reducible refine gate_builtin (b := .append) (xs := #[.tmp 15, .tmp 23]) rfl ?_); at_builtin; refine Kd.R_append k61 w.heap.size rfl (.tmp 15) (.tmp 23) 23 61 (.agg #[(.string ⟨#[]⟩), (.int .i64 0)]) 24 rfl Try.underlying23 info61 rfl (by decide) (by omega) u3 x3_1 (⟨rdOf ByteArray.empty y353 x8_1, t364⟩ : S61) [.string (rdOf ByteArray.empty y353 x8_1), .int .i64 t364] (fun _ => True) (fun _ => False) rfl rfl ?aP (fun _ hk => hk.elim) ?aF ?aO (Below.refl _ _) ?aS ?aL ?_; (case aP => exact k61_mkM _ _ _ (⟨rdOf ByteArray.empty y353 x8_1, t364⟩ : S61)); (case aF => exact (fun _ _ => trivial)); (case aO => exact q15); (case aS => exact (keep_size (w := w) (g := g) (row := none) q5)); (case aL => have := LMc12.out; omega); intro v367 w19 ho hb hg hat; rw [← Ny366.out] at ho; have n0_ := Aside0.mk (Kd.R_over' q51 (Kd.R_typed q15) (by decide) hg); have n1_ := Aside0.mk (IsS63.grown q3 hg (IsS63.own_ne HI0.out HO_3.out (by decide))); have n2_ := Aside0.mk (Kd.R_over' (by (with_reducible repeat (first | apply Kd.R_alloc | apply Kd.R_drewN | apply Kd.R_drew)); exact HO363.out) (Kd.R_typed q15) (by decide) hg); have n3_ := Aside0.mk (below_weaken q7 HL.out hb); have n4_ := Aside0.mk (KeepBut.trans q5 (KeepBut.of_grown hg g) (Kd.R_base2 HO_3.out)); have n5_ := Aside0.mk (ho); clear HO_6; clear HI0; clear HO363; clear HB; clear HK; clear HO_3; have HO_6 := n0_; have HI0 := n1_; have HO363 := n2_; have HB := n3_; have HK := n4_; have HO368 := n5_; clear n0_ n1_ n2_ n3_ n4_ n5_; clear ho hb hg hat))
        go_roundg k1
        case measure => have := HK1.out; omega
        case rel => exact ⟨(y366), (wrap64 (x8_1 + 1)), (t365), q26, H', ⟨by have := HK1.out; omega⟩, ⟨(by (with_reducible repeat (first | apply Kd.R_alloc | apply Kd.R_drewN | apply Kd.R_drew)); exact HO368.out)⟩, ⟨q51⟩, ⟨q3⟩, ⟨q5⟩, ⟨q7⟩⟩
       ·
        rw [if_neg c12] at H
        exact absurd H (by simp)
      ·
       rw [if_neg c9] at H
       have c9b0 : (t357 == 0) = false := beq_eq_false_iff_ne.mpr c9
       have c9b1 : (t357 != 0) = true := bne_iff_ne.mpr c9
       have H' := Aside0.mk H
       clear H
       have p356 : 0 ≤ (x8_1 : Int) := of_decide_eq_true q6
       have q356 : x8_1 < (y353.length : Int) := of_decide_eq_true q6
       obtain ⟨ad356, e356, hx356_0⟩ := Kd.at_string (Kd.R_reads' HO_6.out).2.2 x8_1 p356 q356
       cases e356
       replace p356 := eq_true p356
       replace q356 := eq_true q356
       go_wp2_with (first | ((with_reducible refine gate_callee (f := 17) rfl ?_); refine goesL_ (some 13) rfl rfl Try.func17 (by kernel_rfl) rfl #[.pointer (some ⟨g, 0, none⟩), .int .i64 3] rfl q1 ?_; (with_reducible refine (paygen_Deck_Next.calls g s0_0 x1001_1 3 t357 t358 w0 _ ?side1 ?side2 A8.out).mono ?_); (case side1 => exact q3); (case side2 => exact q7); rintro e w20 ⟨rfl, hi, hb, hk⟩; refine ⟨_, rfl, ?_⟩; have n0_ := Aside0.mk (Kd.R_mono (Kd.R_keep (IsS63.apart (show IsS63 w0 _ g s0_0 x1001_1 from q3) q15 (by decide)) hk (fun _ h => h.2)) (fun _ h => h.1)); have n1_ := Aside0.mk (Kd.R_mono (Kd.R_keep (IsS63.apart (show IsS63 w0 _ g s0_0 x1001_1 from q3) q51 (by decide)) hk (fun _ h => h.2)) (fun _ h => h.1)); have n2_ := Aside0.mk (KeepBut.trans q5 hk (.inl rfl)); have n3_ := Aside0.mk (hb); have n4_ := Aside0.mk (hi); clear HO_3; clear HO_6; clear HK; clear HB; clear HI0; have HO_3 := n0_; have HO_6 := n1_; have HK := n2_; have HB := n3_; have HI0 := n4_; clear n0_ n1_ n2_ n3_ n4_; (try clear hb); (try clear hb2); (try clear hk); (try clear hi)))
       go_roundg k1
       case measure => have := HK1.out; omega
       case rel => exact ⟨(x3_1), (wrap64 (x8_1 + 1)), (t358), q26, H', ⟨by have := HK1.out; omega⟩, ⟨q15⟩, ⟨q51⟩, ⟨q3⟩, ⟨q5⟩, ⟨q7⟩⟩
     ·
      rw [if_neg c7] at H
      exact absurd H (by simp)
    ·
     rw [if_neg c6] at H
     exact absurd H (by simp)
   ·
    rw [if_neg c5] at H
    have c5b0 : decide (x8_1 < (y353.length : Int)) = false := decide_eq_false c5
    clear c5
    simp only [Option.some.injEq, Prod.mk.injEq] at H
    obtain ⟨rfl, rfl⟩ := H
    go_wp2
    go_ret
    exact ⟨_, by first | rfl | (simp [errW_none, errW_some] <;> rfl) | (simp [*, errW_none, errW_some] <;> rfl), q15, q3, q7, q5⟩

end Go.Proofs.Ytbacfajhgmnjpaa.P
