/- Proved here: that the Go function paygen_Deck_Brackets computes the plain function of that name (the machine side of the laws, reworked from a print; no condition of its own). -/
import Derived.Test.YtafoplpaoahdiaaProg
import Derived.Test.YtafoplpaoahdiaaV1
import Derived.Test.YtafoplpaoahdiaaFPRE0
import Derived.Test.YtafoplpaoahdiaaFPRE1
import Derived.Test.YtafoplpaoahdiaaFPRE3
import Derived.Test.YtafoplpaoahdiaaFpaygenDeckNext
import Derived.Test.YtafoplpaoahdiaaFpaygenDeckPick
import Derived.Test.YtafoplpaoahdiaaFpaygenDeckRate
namespace Go.Proofs.Ytafoplpaoahdiaa.P
open Go.RowKit Go.Proofs.YtafoplpaoahdiaaW.PrintWords Go.Proofs.YtafoplpaoahdiaaW.PrintLast Go.Proofs.YtafoplpaoahdiaaW.PrintMore
attribute [local go_sem] max2_int min2_int max_two min_two max_three min_three max_four min_four   -- for this text's walks alone
set_option linter.unusedVariables false
set_option linter.unusedSimpArgs false

def paygen_Deck_Brackets.l0 : Nat → Bool → List (S30) → Int → List Int → Int → Option ((List (S30)) × Int)
 | 0, _, _, _, _, _ => none
 | k + 1, x1, x5, x6, x1000, x1001 => if x6 > 0 then (if 0 ≤ (wrap64 ((x5.length : Int) - 1)) then (if (wrap64 ((x5.length : Int) - 1)) < (x5.length : Int) then ((paygen_Deck_Next.f x1000 x1001 3000000).bind fun bt185 => ((paygen_Deck_Pick.f x1000 bt185.2 (([0, 99, bt185.1] : List Int))).bind fun bt190 => ((paygen_Deck_Rate.f x1000 bt190.2).bind fun bt192 => (if x1 = true then ((paygen_Deck_Pick.f x1000 bt192.2 (([0, 50000, 120000] : List Int))).bind fun bt198 => (if x5.length < 8796093022208 then (paygen_Deck_Brackets.l0 k x1 (x5 ++ [(⟨wrap64 ((wrap64 (((rd_T30 x5 (wrap64 ((x5.length : Int) - 1))).f0) + 1)) + bt190.1), mn (wrap64 (((rd_T30 x5 (wrap64 ((x5.length : Int) - 1))).f1) + bt198.1)) 450000⟩ : S30)]) (wrap64 (x6 - 1)) x1000 bt198.2) else (none))) else (if x5.length < 8796093022208 then (paygen_Deck_Brackets.l0 k x1 (x5 ++ [(⟨wrap64 ((wrap64 (((rd_T30 x5 (wrap64 ((x5.length : Int) - 1))).f0) + 1)) + bt190.1), bt192.1⟩ : S30)]) (wrap64 (x6 - 1)) x1000 bt192.2) else (none)))))) else (none)) else (none)) else (some (x5, x1001))
def paygen_Deck_Brackets.f (k : Nat) (s0_0 : List Int) (s0_1 : Int) (a1 : Bool) : Option ((List (S30)) × Int) := (paygen_Deck_Pick.f s0_0 s0_1 (([0, 100000, 150000] : List Int))).bind fun bt176 => ((paygen_Deck_Next.f s0_0 bt176.2 4).bind fun bt181 => (paygen_Deck_Brackets.l0 k a1 (([(⟨0, bt176.1⟩ : S30)] : List (S30))) bt181.1 s0_0 bt181.2))
theorem paygen_Deck_Brackets.mono_l : ∀ k, (∀ y0 y1 y2 y3 y4, LeO (paygen_Deck_Brackets.l0 k y0 y1 y2 y3 y4) (paygen_Deck_Brackets.l0 (k + 1) y0 y1 y2 y3 y4))
 | 0 => fun _ _ _ _ _ r h => by simp [paygen_Deck_Brackets.l0] at h
 | k + 1 => by
  have ih0 := paygen_Deck_Brackets.mono_l k
  ·
   intro y0 y1 y2 y3 y4
   unfold paygen_Deck_Brackets.l0
   repeat' first
   | (with_reducible exact ih0 _ _ _ _ _)
   | (with_reducible exact LeO.refl _)
   | (with_reducible exact LeO.none _)
   | (with_reducible refine LeO.ite ?_ ?_)
   | (with_reducible refine LeO.bind ?_ (fun _ => ?_))
   | exact ih0 _ _ _ _ _
   | exact LeO.none _
   | refine LeO.ite ?_ ?_
   | refine LeO.bind ?_ (fun _ => ?_)
theorem paygen_Deck_Brackets.mono : ∀ a0 a1 a2 k, LeO (paygen_Deck_Brackets.f k a0 a1 a2) (paygen_Deck_Brackets.f (k + 1) a0 a1 a2) := by
 intro a0 a1 a2 k
 have ih0 := paygen_Deck_Brackets.mono_l k
 unfold paygen_Deck_Brackets.f
 repeat' first
   | (with_reducible exact ih0 _ _ _ _ _)
   | (with_reducible exact LeO.refl _)
   | (with_reducible exact LeO.none _)
   | (with_reducible refine LeO.ite ?_ ?_)
   | (with_reducible refine LeO.bind ?_ (fun _ => ?_))
   | exact ih0 _ _ _ _ _
   | exact LeO.none _
   | refine LeO.ite ?_ ?_
   | refine LeO.bind ?_ (fun _ => ?_)
def paygen_Deck_Brackets.T6 : Bool × List (List Nat × List Nat) := (true, [([], []), ([0], [0]), ([1], [1]), ([], []), ([], []), ([4], [4]), ([5], [5]), ([3, 6, 5], [3, 6]), ([2, 7], [2, 7]), ([], []), ([9, 7], [9]), ([8, 10], [8, 10]), ([], []), ([12, 11, 10, 0, 1, 2, 3, 4, 5, 6, 7, 8, 9, 10, 11, 12], [11, 12])])
def paygen_Deck_Brackets.B6 : List Nat := [0, 1, 3, 0, 0, 16, 48, 120, 255, 0, 760, 2047, 0, 8191]
theorem paygen_Deck_Brackets.tab6 : rtab .any (opsOf Try.f14 6) = paygen_Deck_Brackets.T6 := by kernel_rfl
theorem paygen_Deck_Brackets.bits6 : waitsOk paygen_Deck_Brackets.T6.2 paygen_Deck_Brackets.B6 = true := by kernel_rfl
def paygen_Deck_Brackets.T8 : Bool × List (List Nat × List Nat) := (true, [([], []), ([0], [0]), ([], []), ([], []), ([2, 3], [2, 3]), ([1, 4], [1, 4]), ([5], [5]), ([0, 1, 2, 3, 4, 5, 6], []), ([7, 6, 4, 0, 1, 2, 3, 4, 5, 6], [6, 7])])
def paygen_Deck_Brackets.B8 : List Nat := [0, 1, 0, 0, 12, 31, 63, 127, 255]
theorem paygen_Deck_Brackets.tab8 : rtab .any (opsOf Try.f14 8) = paygen_Deck_Brackets.T8 := by kernel_rfl
theorem paygen_Deck_Brackets.bits8 : waitsOk paygen_Deck_Brackets.T8.2 paygen_Deck_Brackets.B8 = true := by kernel_rfl
set_option maxHeartbeats 8000000 in
set_option maxRecDepth 100000 in
theorem paygen_Deck_Brackets.calls (k : Nat) (g : Nat) (s0_0 : List Int) (s0_1 : Int) (a1 : Bool) (r1 : List (S30)) (r2 : Int) (w0 w : World) (hI : IsS56 w0 w g s0_0 s0_1) (hB : Below w0.heap.size w0 w) (h : paygen_Deck_Brackets.f k s0_0 s0_1 a1 = some (r1, r2)) :
  Calls Try.prog 14 #[.pointer (some ⟨g, 0, none⟩), .bool a1] w fun e w' => ∃ v0_ : Value, e = .returned (v0_) ∧ Kd.R k30 30 w' w.heap.size (fun _ => True) v0_ r1 ∧ IsS56 w0 w' g s0_0 r2 ∧ Below w0.heap.size w0 w' ∧ KeepBut w w' g none := by
 have hu30 := Try.underlying30
 have HI0 := Aside0.mk hI
 have HK := Aside0.mk (KeepBut.refl w g none)
 have HL := Aside0.mk hB.size
 clear hI
 have HW0 := Aside0.mk hB.size
 have HB := Aside0.mk hB
 clear hB
 have H : ((paygen_Deck_Pick.f s0_0 s0_1 (([0, 100000, 150000] : List Int))).bind fun bt176 => ((paygen_Deck_Next.f s0_0 bt176.2 4).bind fun bt181 => (paygen_Deck_Brackets.l0 k a1 (([(⟨0, bt176.1⟩ : S30)] : List (S30))) bt181.1 s0_0 bt181.2))) = some (r1, r2) := h
 clear h
 obtain ⟨y173, hy173⟩ : ∃ y_ : List Int, y_ = (([0, 100000, 150000] : List Int)) := ⟨_, rfl⟩
 replace H : ((paygen_Deck_Pick.f s0_0 s0_1 y173).bind fun bt176 => ((paygen_Deck_Next.f s0_0 bt176.2 4).bind fun bt181 => (paygen_Deck_Brackets.l0 k a1 (([(⟨0, bt176.1⟩ : S30)] : List (S30))) bt181.1 s0_0 bt181.2))) = some (r1, r2) := by first | (rw [hy173]; with_reducible exact H) | (have H2_ := (Option.bind_some _ _).symm.trans H; rw [hy173]; with_reducible exact H2_) | (have H2_ := (Option.bind_some _ _).symm.trans H; with_reducible exact H2_) | with_reducible exact H | (rw [hy173]; exact H) | exact H
 have Ny173 := Aside0.mk hy173
 clear hy173
 replace H := Option.bind_eq_some_iff.mp H
 obtain ⟨⟨t176, t177⟩, A30, H⟩ := H
 replace H : ((paygen_Deck_Next.f s0_0 t177 4).bind fun bt181 => (paygen_Deck_Brackets.l0 k a1 (([(⟨0, t176⟩ : S30)] : List (S30))) bt181.1 s0_0 bt181.2)) = some (r1, r2) := H
 have A3 := Aside0.mk A30
 clear A30
 obtain ⟨y178, hy178⟩ : ∃ y_ : List (S30), y_ = (([(⟨0, t176⟩ : S30)] : List (S30))) := ⟨_, rfl⟩
 replace H : ((paygen_Deck_Next.f s0_0 t177 4).bind fun bt181 => (paygen_Deck_Brackets.l0 k a1 y178 bt181.1 s0_0 bt181.2)) = some (r1, r2) := by first | (rw [hy178]; with_reducible exact H) | (have H2_ := (Option.bind_some _ _).symm.trans H; rw [hy178]; with_reducible exact H2_) | (have H2_ := (Option.bind_some _ _).symm.trans H; with_reducible exact H2_) | with_reducible exact H | (rw [hy178]; exact H) | exact H
 have Ny178 := Aside0.mk hy178
 clear hy178
 replace H := Option.bind_eq_some_iff.mp H
 obtain ⟨⟨t181, t182⟩, A40, H⟩ := H
 replace H : (paygen_Deck_Brackets.l0 k a1 y178 t181 s0_0 t182) = some (r1, r2) := H
 have A4 := Aside0.mk A40
 clear A40
 have H' := Aside0.mk H
 clear H
 go_enter Try.func14, Try.ntmps14
 go_wp2_with (first | ((with_reducible refine gate_dst (N := 10) rfl ?_); refine Kd.R_lit (Kd.int .i64) _ 3 ?hg (N := 10) ?hd (xs := ([0, 100000, 150000] : List Int)) (inner := [.int .i64 0, .int .i64 100000, .int .i64 150000]) (ok := fun _ => True) (okp := fun _ => True) ?hr ?hp (fun _ hk => hk) trivial (Below.refl _ _) (Nat.le_refl _) (by simp) ?_; (case hd => rfl); (case hg => rfl); (case hr => first | (go_simp; done) | (go_simp; rfl)); (case hp => exact (Reps.one (show Kd.M (Kd.int .i64) _ _ _ 0 [.int .i64 0] from rfl) (Reps.one (show Kd.M (Kd.int .i64) _ _ _ 100000 [.int .i64 100000] from rfl) (Reps.one (show Kd.M (Kd.int .i64) _ _ _ 150000 [.int .i64 150000] from rfl) (Reps.none _ _))))); intro v174 w5 ho6 hb hg_ hnew_; clear hg_ hnew_; (first | rw [← Ny173.out] at ho6 | (simp only [Int.reduceToNat] at ho6; rw [← Ny173.out] at ho6)); have n0_ := Aside0.mk (Kd.R_lower ho6 (keep_size (w := w) (g := g) (row := none) (by repeat (first | (with_reducible first | exact HK.out | apply KeepBut.set_ | apply keep_drewN | apply keep_drew | apply keep_alloc) | exact HK.out)))); have n1_ := Aside0.mk (IsS56.below (by repeat (first | (with_reducible first | exact HI0.out | apply IsS56.alloc | apply IsS56.drewN | apply IsS56.drew | apply IsS56.set_1) | exact HI0.out)) hb); have n2_ := Aside0.mk (KeepBut.trans (by repeat (first | (with_reducible first | exact HK.out | apply KeepBut.set_ | apply keep_drewN | apply keep_drew | apply keep_alloc) | exact HK.out)) (KeepBut.of_below hb g none) (.inl rfl)); have n3_ := Aside0.mk (below_step (by repeat (first | (with_reducible first | exact HB.out | apply below_alloc | apply pw_below_drewN | apply below_drew1 | refine below_set ?_ (IsS56.ge HI0.out)) | exact HB.out)) hb); clear HI0; clear HK; clear HB; have HO175 := n0_; have HI0 := n1_; have HK := n2_; have HB := n3_; clear n0_ n1_ n2_ n3_; clear hb ho6; obtain ⟨Ao7, co7, eo7⟩ := Kd.R_slice HO175.out; subst eo7) | ((with_reducible refine gate_callee (f := 30) rfl ?_); refine goesL_ (some 11) rfl rfl Try.func30 (by kernel_rfl) rfl #[.pointer (some ⟨g, 0, none⟩), .slice Ao7 y173.length co7] rfl (by (try simp only [List.map_toArray, List.map_cons, List.map_nil]); first | done | rfl | (simp only [List.length_drop, List.length_take]; rfl)) ?_; (with_reducible refine (paygen_Deck_Pick.calls g s0_0 s0_1 _ _ y173 t176 t177 w0 _ ?side1 ?side2 ?side3 ?side4 ?side5 A3.out).mono ?_); (case side1 => repeat (first | (with_reducible first | exact HI0.out | apply IsS56.alloc | apply IsS56.drewN | apply IsS56.drew | apply IsS56.set_1) | exact HI0.out)); (case side2 => repeat (first | (with_reducible first | exact HB.out | apply below_alloc | apply pw_below_drewN | apply below_drew1 | refine below_set ?_ (IsS56.ge HI0.out)) | exact HB.out)); (case side3 => repeat (first | exact (Kd.R_reads' HO175.out).2.2 | (with_reducible refine Kd.C_alloc ?_ _) | (with_reducible refine Kd.C_drewN ?_ _) | (with_reducible refine Kd.C_drew ?_))); (case side4 => exact (Kd.R_reads' HO175.out).2.1); (case side5 => exact far_slice (IsS56.own_ne HI0.out HO175.out (by decide))); rintro e w8 ⟨rfl, hi, hb, hk⟩; refine ⟨_, rfl, ?_⟩; have n0_ := Aside0.mk (Kd.R_mono (Kd.R_keep (IsS56.apart (show IsS56 w0 _ g s0_0 s0_1 from by repeat (first | (with_reducible first | exact HI0.out | apply IsS56.alloc | apply IsS56.drewN | apply IsS56.drew | apply IsS56.set_1) | exact HI0.out)) (by (with_reducible repeat (first | apply Kd.R_alloc | apply Kd.R_drewN | apply Kd.R_drew)); exact HO175.out) (by decide)) hk (fun _ h => h.2)) (fun _ h => h.1)); have n1_ := Aside0.mk (KeepBut.trans (by repeat (first | (with_reducible first | exact HK.out | apply KeepBut.set_ | apply keep_drewN | apply keep_drew | apply keep_alloc) | exact HK.out)) hk (.inl rfl)); have n2_ := Aside0.mk (hb); have n3_ := Aside0.mk (hi); clear HO175; clear HK; clear HB; clear HI0; have HO175 := n0_; have HK := n1_; have HB := n2_; have HI0 := n3_; clear n0_ n1_ n2_ n3_; (try clear hb); (try clear hb2); (try clear hk); (try clear hi)) | ((with_reducible refine gate_dst (N := 13) rfl ?_); refine Kd.R_lit k30 _ 30 ?hg (N := 13) ?hd (xs := ([(⟨0, t176⟩ : S30)] : List (S30))) (inner := [.int .i64 0, .int .i64 t176]) (ok := fun _ => True) (okp := fun _ => True) ?hr ?hp (fun _ hk => hk) trivial (Below.refl _ _) (Nat.le_refl _) (by simp) ?_; (case hd => rfl); (case hg => rfl); (case hr => first | (go_simp; done) | (go_simp; rfl)); (case hp => exact (Reps.c2 (show Kd.M k30 _ _ _ (⟨0, t176⟩ : S30) [.int .i64 0, .int .i64 t176] from (k30_mkM _ _ _ (⟨0, t176⟩ : S30) )) (Reps.none _ _))); intro v179 w9 ho10 hb hg_ hnew_; clear hg_ hnew_; (first | rw [← Ny178.out] at ho10 | (simp only [Int.reduceToNat] at ho10; rw [← Ny178.out] at ho10)); have n0_ := Aside0.mk (Kd.R_below (by (with_reducible repeat (first | apply Kd.R_alloc | apply Kd.R_drewN | apply Kd.R_drew)); exact HO175.out) hb); have n1_ := Aside0.mk (Kd.R_lower ho10 (keep_size (w := w) (g := g) (row := none) (by repeat (first | (with_reducible first | exact HK.out | apply KeepBut.set_ | apply keep_drewN | apply keep_drew | apply keep_alloc) | exact HK.out)))); have n2_ := Aside0.mk (IsS56.below (by repeat (first | (with_reducible first | exact HI0.out | apply IsS56.alloc | apply IsS56.drewN | apply IsS56.drew | apply IsS56.set_1) | exact HI0.out)) hb); have n3_ := Aside0.mk (KeepBut.trans (by repeat (first | (with_reducible first | exact HK.out | apply KeepBut.set_ | apply keep_drewN | apply keep_drew | apply keep_alloc) | exact HK.out)) (KeepBut.of_below hb g none) (.inl rfl)); have n4_ := Aside0.mk (below_step (by repeat (first | (with_reducible first | exact HB.out | apply below_alloc | apply pw_below_drewN | apply below_drew1 | refine below_set ?_ (IsS56.ge HI0.out)) | exact HB.out)) hb); clear HO175; clear HI0; clear HK; clear HB; have HO175 := n0_; have HO180 := n1_; have HI0 := n2_; have HK := n3_; have HB := n4_; clear n0_ n1_ n2_ n3_ n4_; clear hb ho10) | ((with_reducible refine gate_callee (f := 15) rfl ?_); refine goesL_ (some 15) rfl rfl Try.func15 (by kernel_rfl) rfl #[.pointer (some ⟨g, 0, none⟩), .int .i64 4] rfl (by (try simp only [List.map_toArray, List.map_cons, List.map_nil]); first | done | rfl | (simp only [List.length_drop, List.length_take]; rfl)) ?_; (with_reducible refine (paygen_Deck_Next.calls g s0_0 t177 4 t181 t182 w0 _ ?side1 ?side2 A4.out).mono ?_); (case side1 => repeat (first | (with_reducible first | exact HI0.out | apply IsS56.alloc | apply IsS56.drewN | apply IsS56.drew | apply IsS56.set_1) | exact HI0.out)); (case side2 => repeat (first | (with_reducible first | exact HB.out | apply below_alloc | apply pw_below_drewN | apply below_drew1 | refine below_set ?_ (IsS56.ge HI0.out)) | exact HB.out)); rintro e w11 ⟨rfl, hi, hb, hk⟩; refine ⟨_, rfl, ?_⟩; have n0_ := Aside0.mk (Kd.R_mono (Kd.R_keep (IsS56.apart (show IsS56 w0 _ g s0_0 t177 from by repeat (first | (with_reducible first | exact HI0.out | apply IsS56.alloc | apply IsS56.drewN | apply IsS56.drew | apply IsS56.set_1) | exact HI0.out)) (by (with_reducible repeat (first | apply Kd.R_alloc | apply Kd.R_drewN | apply Kd.R_drew)); exact HO175.out) (by decide)) hk (fun _ h => h.2)) (fun _ h => h.1)); have n1_ := Aside0.mk (Kd.R_mono (Kd.R_keep (IsS56.apart (show IsS56 w0 _ g s0_0 t177 from by repeat (first | (with_reducible first | exact HI0.out | apply IsS56.alloc | apply IsS56.drewN | apply IsS56.drew | apply IsS56.set_1) | exact HI0.out)) (by (with_reducible repeat (first | apply Kd.R_alloc | apply Kd.R_drewN | apply Kd.R_drew)); exact HO180.out) (by decide)) hk (fun _ h => h.2)) (fun _ h => h.1)); have n2_ := Aside0.mk (KeepBut.trans (by repeat (first | (with_reducible first | exact HK.out | apply KeepBut.set_ | apply keep_drewN | apply keep_drew | apply keep_alloc) | exact HK.out)) hk (.inl rfl)); have n3_ := Aside0.mk (hb); have n4_ := Aside0.mk (hi); clear HO175; clear HO180; clear HK; clear HB; clear HI0; have HO175 := n0_; have HO180 := n1_; have HK := n2_; have HB := n3_; have HI0 := n4_; clear n0_ n1_ n2_ n3_ n4_; (try clear hb); (try clear hb2); (try clear hk); (try clear hi)))
 go_loopg [5, 6] k (fun kq v5 v6 w' => ∃ (x5_1 : List (S30)) (x6_1 : Int) (x1001_1 : Int), v6 = .int .i64 x6_1 ∧ Aside0 (paygen_Deck_Brackets.l0 kq a1 x5_1 x6_1 s0_0 x1001_1 = some (r1, r2)) ∧ Aside0 (kq ≤ k) ∧ Aside0 (Kd.R k30 30 w' w.heap.size (fun _ => True) v5 x5_1) ∧ Aside0 (IsS56 w0 w' g s0_0 x1001_1) ∧ Aside0 (KeepBut w w' g none) ∧ Aside0 (Below w0.heap.size w0 w'))
 case atStart => exact ⟨(y178), (t181), (t182), (by first | rfl | (simp; done) | (simp [*]; done)), H', ⟨Nat.le_refl _⟩, ⟨by (with_reducible repeat (first | apply Kd.R_alloc | apply Kd.R_drewN | apply Kd.R_drew)); exact HO180.out⟩, ⟨by repeat (first | (with_reducible first | exact HI0.out | apply IsS56.alloc | apply IsS56.drewN | apply IsS56.drew | apply IsS56.set_1) | exact HI0.out)⟩, ⟨by repeat (first | (with_reducible first | exact HK.out | apply KeepBut.set_ | apply keep_drewN | apply keep_drew | apply keep_alloc) | exact HK.out)⟩, ⟨by repeat (first | (with_reducible first | exact HB.out | apply below_alloc | apply pw_below_drewN | apply below_drew1 | refine below_set ?_ (IsS56.ge HI0.out)) | exact HB.out)⟩⟩
 case round =>
  clear H'
  try clear c1
  try clear c2
  try clear p2
  try clear c3
  obtain ⟨x5_1, x6_1, x1001_1, rfl, HA, HK1, HO_5, HI0, HK, HB⟩ := hrel
  cases gk with
  | zero => exact absurd HA.out (by simp [paygen_Deck_Brackets.l0])
  | succ k1 =>
   have H := HA.out
   clear HA
   simp only [paygen_Deck_Brackets.l0] at H
   by_cases c12 : x6_1 > 0
   ·
    rw [if_pos c12] at H
    have c12b0 : decide (0 < x6_1) = true := decide_eq_true c12
    clear c12
    obtain ⟨ji13, hji13⟩ : ∃ j_ : Int, (wrap64 ((x5_1.length : Int) - 1)) = j_ := ⟨_, rfl⟩
    replace H : (if 0 ≤ (ji13) then (if (ji13) < (x5_1.length : Int) then ((paygen_Deck_Next.f s0_0 x1001_1 3000000).bind fun bt185 => ((paygen_Deck_Pick.f s0_0 bt185.2 (([0, 99, bt185.1] : List Int))).bind fun bt190 => ((paygen_Deck_Rate.f s0_0 bt190.2).bind fun bt192 => (if a1 = true then ((paygen_Deck_Pick.f s0_0 bt192.2 (([0, 50000, 120000] : List Int))).bind fun bt198 => (if x5_1.length < 8796093022208 then (paygen_Deck_Brackets.l0 k1 a1 (x5_1 ++ [(⟨wrap64 ((wrap64 (((rd_T30 x5_1 (ji13)).f0) + 1)) + bt190.1), mn (wrap64 (((rd_T30 x5_1 (ji13)).f1) + bt198.1)) 450000⟩ : S30)]) (wrap64 (x6_1 - 1)) s0_0 bt198.2) else (none))) else (if x5_1.length < 8796093022208 then (paygen_Deck_Brackets.l0 k1 a1 (x5_1 ++ [(⟨wrap64 ((wrap64 (((rd_T30 x5_1 (ji13)).f0) + 1)) + bt190.1), bt192.1⟩ : S30)]) (wrap64 (x6_1 - 1)) s0_0 bt192.2) else (none)))))) else (none)) else (none)) = some (r1, r2) := by first | (rw [hji13] at H; exact H) | (simp only [hji13] at H ⊢; exact H)
    have hji13w : (IntKind.i64.wrap ((x5_1.length : Int) - 1)) = ji13 := (i64_w _).trans hji13
    by_cases c14 : 0 ≤ (ji13)
    ·
     rw [if_pos c14] at H
     have c14b0 : decide (0 ≤ (ji13)) = true := decide_eq_true c14
     clear c14
     by_cases c15 : (ji13) < (x5_1.length : Int)
     ·
      rw [if_pos c15] at H
      have c15b0 : decide ((ji13) < (x5_1.length : Int)) = true := decide_eq_true c15
      clear c15
      replace H := Option.bind_eq_some_iff.mp H
      obtain ⟨⟨t185, t186⟩, A160, H⟩ := H
      replace H : ((paygen_Deck_Pick.f s0_0 t186 (([0, 99, t185] : List Int))).bind fun bt190 => ((paygen_Deck_Rate.f s0_0 bt190.2).bind fun bt192 => (if a1 = true then ((paygen_Deck_Pick.f s0_0 bt192.2 (([0, 50000, 120000] : List Int))).bind fun bt198 => (if x5_1.length < 8796093022208 then (paygen_Deck_Brackets.l0 k1 a1 (x5_1 ++ [(⟨wrap64 ((wrap64 (((rd_T30 x5_1 (ji13)).f0) + 1)) + bt190.1), mn (wrap64 (((rd_T30 x5_1 (ji13)).f1) + bt198.1)) 450000⟩ : S30)]) (wrap64 (x6_1 - 1)) s0_0 bt198.2) else (none))) else (if x5_1.length < 8796093022208 then (paygen_Deck_Brackets.l0 k1 a1 (x5_1 ++ [(⟨wrap64 ((wrap64 (((rd_T30 x5_1 (ji13)).f0) + 1)) + bt190.1), bt192.1⟩ : S30)]) (wrap64 (x6_1 - 1)) s0_0 bt192.2) else (none))))) = some (r1, r2) := H
      have A16 := Aside0.mk A160
      clear A160
      obtain ⟨y187, hy187⟩ : ∃ y_ : List Int, y_ = (([0, 99, t185] : List Int)) := ⟨_, rfl⟩
      replace H : ((paygen_Deck_Pick.f s0_0 t186 y187).bind fun bt190 => ((paygen_Deck_Rate.f s0_0 bt190.2).bind fun bt192 => (if a1 = true then ((paygen_Deck_Pick.f s0_0 bt192.2 (([0, 50000, 120000] : List Int))).bind fun bt198 => (if x5_1.length < 8796093022208 then (paygen_Deck_Brackets.l0 k1 a1 (x5_1 ++ [(⟨wrap64 ((wrap64 (((rd_T30 x5_1 (ji13)).f0) + 1)) + bt190.1), mn (wrap64 (((rd_T30 x5_1 (ji13)).f1) + bt198.1)) 450000⟩ : S30)]) (wrap64 (x6_1 - 1)) s0_0 bt198.2) else (none))) else (if x5_1.length < 8796093022208 then (paygen_Deck_Brackets.l0 k1 a1 (x5_1 ++ [(⟨wrap64 ((wrap64 (((rd_T30 x5_1 (ji13)).f0) + 1)) + bt190.1), bt192.1⟩ : S30)]) (wrap64 (x6_1 - 1)) s0_0 bt192.2) else (none))))) = some (r1, r2) := by first | (rw [hy187]; with_reducible exact H) | (have H2_ := (Option.bind_some _ _).symm.trans H; rw [hy187]; with_reducible exact H2_) | (have H2_ := (Option.bind_some _ _).symm.trans H; with_reducible exact H2_) | with_reducible exact H | (rw [hy187]; exact H) | exact H
      have Ny187 := Aside0.mk hy187
      clear hy187
      replace H := Option.bind_eq_some_iff.mp H
      obtain ⟨⟨t190, t191⟩, A170, H⟩ := H
      replace H : ((paygen_Deck_Rate.f s0_0 t191).bind fun bt192 => (if a1 = true then ((paygen_Deck_Pick.f s0_0 bt192.2 (([0, 50000, 120000] : List Int))).bind fun bt198 => (if x5_1.length < 8796093022208 then (paygen_Deck_Brackets.l0 k1 a1 (x5_1 ++ [(⟨wrap64 ((wrap64 (((rd_T30 x5_1 (ji13)).f0) + 1)) + t190), mn (wrap64 (((rd_T30 x5_1 (ji13)).f1) + bt198.1)) 450000⟩ : S30)]) (wrap64 (x6_1 - 1)) s0_0 bt198.2) else (none))) else (if x5_1.length < 8796093022208 then (paygen_Deck_Brackets.l0 k1 a1 (x5_1 ++ [(⟨wrap64 ((wrap64 (((rd_T30 x5_1 (ji13)).f0) + 1)) + t190), bt192.1⟩ : S30)]) (wrap64 (x6_1 - 1)) s0_0 bt192.2) else (none)))) = some (r1, r2) := H
      have A17 := Aside0.mk A170
      clear A170
      replace H := Option.bind_eq_some_iff.mp H
      obtain ⟨⟨t192, t193⟩, A180, H⟩ := H
      replace H : (if a1 = true then ((paygen_Deck_Pick.f s0_0 t193 (([0, 50000, 120000] : List Int))).bind fun bt198 => (if x5_1.length < 8796093022208 then (paygen_Deck_Brackets.l0 k1 a1 (x5_1 ++ [(⟨wrap64 ((wrap64 (((rd_T30 x5_1 (ji13)).f0) + 1)) + t190), mn (wrap64 (((rd_T30 x5_1 (ji13)).f1) + bt198.1)) 450000⟩ : S30)]) (wrap64 (x6_1 - 1)) s0_0 bt198.2) else (none))) else (if x5_1.length < 8796093022208 then (paygen_Deck_Brackets.l0 k1 a1 (x5_1 ++ [(⟨wrap64 ((wrap64 (((rd_T30 x5_1 (ji13)).f0) + 1)) + t190), t192⟩ : S30)]) (wrap64 (x6_1 - 1)) s0_0 t193) else (none))) = some (r1, r2) := H
      have A18 := Aside0.mk A180
      clear A180
      by_cases c19 : a1 = true
      ·
       subst c19
       have H1 : ((paygen_Deck_Pick.f s0_0 t193 (([0, 50000, 120000] : List Int))).bind fun bt198 => (if x5_1.length < 8796093022208 then (paygen_Deck_Brackets.l0 k1 true (x5_1 ++ [(⟨wrap64 ((wrap64 (((rd_T30 x5_1 (ji13)).f0) + 1)) + t190), mn (wrap64 (((rd_T30 x5_1 (ji13)).f1) + bt198.1)) 450000⟩ : S30)]) (wrap64 (x6_1 - 1)) s0_0 bt198.2) else (none))) = some (r1, r2) := by rw [if_pos rfl] at H; exact H
       clear H
       have H := H1
       clear H1
       obtain ⟨y195, hy195⟩ : ∃ y_ : List Int, y_ = (([0, 50000, 120000] : List Int)) := ⟨_, rfl⟩
       replace H : ((paygen_Deck_Pick.f s0_0 t193 y195).bind fun bt198 => (if x5_1.length < 8796093022208 then (paygen_Deck_Brackets.l0 k1 true (x5_1 ++ [(⟨wrap64 ((wrap64 (((rd_T30 x5_1 (ji13)).f0) + 1)) + t190), mn (wrap64 (((rd_T30 x5_1 (ji13)).f1) + bt198.1)) 450000⟩ : S30)]) (wrap64 (x6_1 - 1)) s0_0 bt198.2) else (none))) = some (r1, r2) := by first | (rw [hy195]; with_reducible exact H) | (have H2_ := (Option.bind_some _ _).symm.trans H; rw [hy195]; with_reducible exact H2_) | (have H2_ := (Option.bind_some _ _).symm.trans H; with_reducible exact H2_) | with_reducible exact H | (rw [hy195]; exact H) | exact H
       have Ny195 := Aside0.mk hy195
       clear hy195
       replace H := Option.bind_eq_some_iff.mp H
       obtain ⟨⟨t198, t199⟩, A200, H⟩ := H
       replace H : (if x5_1.length < 8796093022208 then (paygen_Deck_Brackets.l0 k1 true (x5_1 ++ [(⟨wrap64 ((wrap64 (((rd_T30 x5_1 (ji13)).f0) + 1)) + t190), mn (wrap64 (((rd_T30 x5_1 (ji13)).f1) + t198)) 450000⟩ : S30)]) (wrap64 (x6_1 - 1)) s0_0 t199) else (none)) = some (r1, r2) := H
       have A20 := Aside0.mk A200
       clear A200
       obtain ⟨ji21, hji21⟩ : ∃ j_ : Int, (mn (wrap64 (((rd_T30 x5_1 (ji13)).f1) + t198)) 450000) = j_ := ⟨_, rfl⟩
       replace H : (if x5_1.length < 8796093022208 then (paygen_Deck_Brackets.l0 k1 true (x5_1 ++ [(⟨wrap64 ((wrap64 (((rd_T30 x5_1 (ji13)).f0) + 1)) + t190), ji21⟩ : S30)]) (wrap64 (x6_1 - 1)) s0_0 t199) else (none)) = some (r1, r2) := by first | (rw [hji21] at H; exact H) | (simp only [hji21] at H ⊢; exact H)
       (try rw [hji21] at A16)
       (try rw [hji21] at A17)
       (try rw [hji21] at A18)
       (try rw [hji21] at A20)
       have hji21_ : (if 450000 < (wrap64 (((rd_T30 x5_1 (ji13)).f1) + t198)) then 450000 else (wrap64 (((rd_T30 x5_1 (ji13)).f1) + t198))) = ji21 := hji21
       by_cases c22 : x5_1.length < 8796093022208
       ·
        rw [if_pos c22] at H
        have LMc22 := Aside0.mk c22
        clear c22
        obtain ⟨y200, hy200⟩ : ∃ y_ : List (S30), y_ = (x5_1 ++ [(⟨wrap64 ((wrap64 (((rd_T30 x5_1 (ji13)).f0) + 1)) + t190), ji21⟩ : S30)]) := ⟨_, rfl⟩
        replace H : (paygen_Deck_Brackets.l0 k1 true y200 (wrap64 (x6_1 - 1)) s0_0 t199) = some (r1, r2) := by first | (rw [hy200]; with_reducible exact H) | (have H2_ := (Option.bind_some _ _).symm.trans H; rw [hy200]; with_reducible exact H2_) | (have H2_ := (Option.bind_some _ _).symm.trans H; with_reducible exact H2_) | with_reducible exact H | (rw [hy200]; exact H) | exact H
        have Ny200 := Aside0.mk hy200
        clear hy200
        have H' := Aside0.mk H
        clear H
        obtain ⟨Ao23, co23, eo23⟩ := Kd.R_slice HO_5.out
        subst eo23
        have p183 : 0 ≤ ((ji13) : Int) := of_decide_eq_true (by first | (with_reducible assumption) | assumption)
        have q183 : (ji13) < (x5_1.length : Int) := of_decide_eq_true (by first | (with_reducible assumption) | assumption)
        obtain ⟨ad183, e183, hx183_0, hx183_1⟩ := at_T30 (Kd.R_reads' HO_5.out).2.2 (ji13) p183 q183
        cases e183
        replace p183 := eq_true p183
        replace q183 := eq_true q183
        try go_wp2_with (first | ((with_reducible refine gate_dst (N := 7) rfl ?_); refine box_event ?hg (N := 7) ?hd (cs := #[.int .i64 0, .int .i64 0]) (t := 30) ?hr ?_; (case hd => rfl); (case hg => rfl); (case hr => first | (go_simp; done) | (go_simp; rfl)); intro gb184 hg w24 hbox hb; have n0_ := Aside0.mk (Kd.R_below (Kd.R_elderB (by (with_reducible repeat (first | apply Kd.R_alloc | apply Kd.R_drewN | apply Kd.R_drew)); exact HO_5.out) gb184 (Nat.le_of_eq hg.symm)) hb); have n1_ := Aside0.mk (IsS56.below (by repeat (first | (with_reducible first | exact HI0.out | apply IsS56.alloc | apply IsS56.drewN | apply IsS56.drew | apply IsS56.set_1) | exact HI0.out)) hb); have n2_ := Aside0.mk (KeepBut.trans (by repeat (first | (with_reducible first | exact HK.out | apply KeepBut.set_ | apply keep_drewN | apply keep_drew | apply keep_alloc) | exact HK.out)) (KeepBut.of_below hb g none) (.inl rfl)); have n3_ := Aside0.mk (below_step (by repeat (first | (with_reducible first | exact HB.out | apply below_alloc | apply pw_below_drewN | apply below_drew1 | refine below_set ?_ (IsS56.ge HI0.out)) | exact HB.out)) hb); have n4_ := Aside0.mk (hbox); have n5_ := Aside0.mk ((by rw [hg]; exact (keep_size (w := w) (g := g) (row := none) (by repeat (first | (with_reducible first | exact HK.out | apply KeepBut.set_ | apply keep_drewN | apply keep_drew | apply keep_alloc) | exact HK.out))) : w.heap.size ≤ gb184)); have n6_ := Aside0.mk ((Nat.le_trans HW0.out (by rw [hg]; exact (keep_size (w := w) (g := g) (row := none) (by repeat (first | (with_reducible first | exact HK.out | apply KeepBut.set_ | apply keep_drewN | apply keep_drew | apply keep_alloc) | exact HK.out))) : w.heap.size ≤ gb184) : w0.heap.size ≤ gb184)); have n7_ := Aside0.mk ((by rw [hg]; exact Nat.ne_of_lt (IsS56.lt (show IsS56 w0 _ g s0_0 x1001_1 from by repeat (first | (with_reducible first | exact HI0.out | apply IsS56.alloc | apply IsS56.drewN | apply IsS56.drew | apply IsS56.set_1) | exact HI0.out))) : g ≠ gb184)); have n8_ := Aside0.mk ((by rw [hg]; exact Nat.ne_of_gt (IsS56.lt (show IsS56 w0 _ g s0_0 x1001_1 from by repeat (first | (with_reducible first | exact HI0.out | apply IsS56.alloc | apply IsS56.drewN | apply IsS56.drew | apply IsS56.set_1) | exact HI0.out))) : gb184 ≠ g)); clear HO_5; clear HI0; clear HK; clear HB; have HO_5 := n0_; have HI0 := n1_; have HK := n2_; have HB := n3_; have BK184 := n4_; have GW184 := n5_; have GE184 := n6_; have NB0_184 := n7_; have NB184_0 := n8_; clear n0_ n1_ n2_ n3_ n4_ n5_ n6_ n7_ n8_; clear hb hbox hg; have hnb25 := NB184_0.out; have hnc25 := NB0_184.out; have hcz26_0 : w24.cell? ⟨gb184, 0, none⟩ = some (.int .i64 0) := (blk_cell BK184.out 0).trans rfl; have hcz26_1 : w24.cell? ⟨gb184, 1, none⟩ = some (.int .i64 0) := (blk_cell BK184.out 1).trans rfl; have hfz26_0 := blk_frozen BK184.out 0; have hfz26_1 := blk_frozen BK184.out 1))
        have n0_ : Aside0 (Kd.R k30 30 ((w24.setCell ⟨gb184, 0, none⟩ (.int .i64 ((rd_T30 x5_1 (ji13)).f0))).setCell ⟨gb184, 1, none⟩ (.int .i64 ((rd_T30 x5_1 (ji13)).f1))) w.heap.size (fun k_ => k_ ≠ gb184) (.slice (some ad183) x5_1.length co23) x5_1) := ⟨by (with_reducible repeat (first | apply Kd.R_alloc | apply Kd.R_drewN | apply Kd.R_drew)); exact Kd.R_mono (Kd.R_far (p := ⟨gb184, 1, none⟩) (Kd.R_far (p := ⟨gb184, 0, none⟩) (Kd.R_mono HO_5.out (fun k_ hk => (⟨hk, hk.2⟩ : _ ∧ k_ ≠ gb184))) (fun _ hk => hk.2) (.int .i64 ((rd_T30 x5_1 (ji13)).f0))) (fun _ hk => hk.2) (.int .i64 ((rd_T30 x5_1 (ji13)).f1))) (fun _ hk => hk.1.2)⟩
        have n1_ : Aside0 (((w24.setCell ⟨gb184, 0, none⟩ (.int .i64 ((rd_T30 x5_1 (ji13)).f0))).setCell ⟨gb184, 1, none⟩ (.int .i64 ((rd_T30 x5_1 (ji13)).f1))).heap[gb184]? = some (.cells #[.int .i64 ((rd_T30 x5_1 (ji13)).f0), .int .i64 ((rd_T30 x5_1 (ji13)).f1)] 30 (0, 0))) := ⟨by (with_reducible repeat (first | refine blk_drewN ?_ _ | refine blk_drew ?_ | refine blk_alloc ?_ _)); refine blk_put (cs := #[.int .i64 ((rd_T30 x5_1 (ji13)).f0), .int .i64 0]) ?_ 1 _ rfl; (with_reducible repeat (first | refine blk_drewN ?_ _ | refine blk_drew ?_ | refine blk_alloc ?_ _)); refine blk_put (cs := #[.int .i64 0, .int .i64 0]) ?_ 0 _ rfl; (with_reducible repeat (first | refine blk_drewN ?_ _ | refine blk_drew ?_ | refine blk_alloc ?_ _)); exact BK184.out⟩
        have n2_ : Aside0 (IsS56 w0 ((w24.setCell ⟨gb184, 0, none⟩ (.int .i64 ((rd_T30 x5_1 (ji13)).f0))).setCell ⟨gb184, 1, none⟩ (.int .i64 ((rd_T30 x5_1 (ji13)).f1))) g s0_0 x1001_1) := ⟨by repeat (first | (with_reducible first | exact HI0.out | apply IsS56.alloc | apply IsS56.drewN | apply IsS56.drew | apply IsS56.set_1 | refine IsS56.far ?_ NB0_184.out _) | exact HI0.out)⟩
        have n3_ : Aside0 (KeepBut w ((w24.setCell ⟨gb184, 0, none⟩ (.int .i64 ((rd_T30 x5_1 (ji13)).f0))).setCell ⟨gb184, 1, none⟩ (.int .i64 ((rd_T30 x5_1 (ji13)).f1))) g none) := ⟨by repeat (first | (with_reducible first | exact HK.out | apply KeepBut.set_ | apply keep_drewN | apply keep_drew | apply keep_alloc | refine keep_far ?_ GW184.out _) | exact HK.out)⟩
        have n4_ : Aside0 (Below w0.heap.size w0 ((w24.setCell ⟨gb184, 0, none⟩ (.int .i64 ((rd_T30 x5_1 (ji13)).f0))).setCell ⟨gb184, 1, none⟩ (.int .i64 ((rd_T30 x5_1 (ji13)).f1)))) := ⟨by repeat (first | (with_reducible first | exact HB.out | apply below_alloc | apply pw_below_drewN | apply below_drew1 | refine below_set ?_ (IsS56.ge HI0.out) | refine below_set ?_ GE184.out) | exact HB.out)⟩
        (try clear HO_5)
        (try clear BK184)
        (try clear HI0)
        (try clear HK)
        (try clear HB)
        generalize ((w24.setCell ⟨gb184, 0, none⟩ (.int .i64 ((rd_T30 x5_1 (ji13)).f0))).setCell ⟨gb184, 1, none⟩ (.int .i64 ((rd_T30 x5_1 (ji13)).f1))) = w27 at n0_ n1_ n2_ n3_ n4_ ⊢
        have HO_5 := n0_
        have BK184 := n1_
        have HI0 := n2_
        have HK := n3_
        have HB := n4_
        clear n0_ n1_ n2_ n3_ n4_
        have n0_ := Aside0.mk (Kd.R_drew HO_5.out)
        have n1_ := Aside0.mk (blk_drew BK184.out)
        have n2_ := Aside0.mk (IsS56.drew HI0.out)
        have n3_ := Aside0.mk (keep_drew HK.out)
        have n4_ := Aside0.mk (below_drew1 HB.out)
        clear HO_5
        clear BK184
        clear HI0
        clear HK
        clear HB
        have HO_5 := n0_
        have BK184 := n1_
        have HI0 := n2_
        have HK := n3_
        have HB := n4_
        clear n0_ n1_ n2_ n3_ n4_
        refine start_ (n := 14) (S := fun w' => w'.cell? ⟨gb184, 0, none⟩ = some (.int .i64 ((rd_T30 x5_1 (ji13)).f0)) ∧ w'.cell? ⟨gb184, 1, none⟩ = some (.int .i64 ((rd_T30 x5_1 (ji13)).f1))) (ds := []) #[false, false, false, false, false, false, false, false, false, false, false, false, false, false] (by kernel_rfl) rfl rfl ⟨(blk_cell BK184.out 0).trans rfl, (blk_cell BK184.out 1).trans rfl⟩ (fun hHeld => ?_); refine with_tabW paygen_Deck_Brackets.tab6 paygen_Deck_Brackets.bits6 (fun HT_ HW_ => ?_)
        generalize w27.drew = w28 at HO_5 BK184 HI0 HK HB hHeld ⊢
        refine pure_ (i := 0) (N := some 26) (v := ?_) (a' := ?_) #[true, false, false, false, false, false, false, false, false, false, false, false, false, false] rfl rfl (any_of HT_.out (by kernel_rfl)) (fun _ _ _ h => h) (Or.inl ⟨by rfl, ?_⟩) ?_ ?_
        rotate_left
        ·
         intro w'
         go_simp
         with_reducible rfl
        rotate_left
        ·
         simp only [Act.put, List.setIfInBounds_toArray, List.set_cons_zero, List.set_cons_succ, i64_w, i32_w]
         rfl
        refine pure_ (i := 3) (N := some 29) (v := ?_) (a' := ?_) #[true, false, false, true, false, false, false, false, false, false, false, false, false, false] rfl rfl (any_of HT_.out (by kernel_rfl)) (fun _ _ _ h => h) (Or.inl ⟨by rfl, ?_⟩) ?_ ?_
        rotate_left
        ·
         intro w'
         go_simp
         with_reducible rfl
        rotate_left
        ·
         simp only [Act.put, List.setIfInBounds_toArray, List.set_cons_zero, List.set_cons_succ, i64_w, i32_w]
         rfl
        refine pure_ (i := 4) (N := some 30) (v := ?_) (a' := ?_) #[true, false, false, true, true, false, false, false, false, false, false, false, false, false] rfl rfl (any_of HT_.out (by kernel_rfl)) (fun _ _ _ h => h) (Or.inl ⟨by rfl, ?_⟩) ?_ ?_
        rotate_left
        ·
         intro w'
         go_simp
         with_reducible rfl
        rotate_left
        ·
         simp only [Act.put, List.setIfInBounds_toArray, List.set_cons_zero, List.set_cons_succ, i64_w, i32_w]
         rfl
        refine pure_ (i := 9) (N := some 35) (v := ?_) (a' := ?_) #[true, false, false, true, true, false, false, false, false, true, false, false, false, false] rfl rfl (any_of HT_.out (by kernel_rfl)) (fun _ _ _ h => h) (Or.inl ⟨by rfl, ?_⟩) ?_ ?_
        rotate_left
        ·
         intro w'
         go_simp
         with_reducible rfl
        rotate_left
        ·
         simp only [Act.put, List.setIfInBounds_toArray, List.set_cons_zero, List.set_cons_succ, i64_w, i32_w]
         rfl
        refine take_ (i := 1) (N := some 27) (v := ?_) (a' := ?_) #[true, true, false, true, true, false, false, false, false, true, false, false, false, false] rfl rfl (take_ofW HT_.out HW_.out (by kernel_rfl)) (fun _ _ _ h => h) (Or.inl ⟨by rfl, ?_⟩) hHeld ?_ ?_
        rotate_left
        ·
         rintro w' ⟨s0, s1⟩
         go_simp
         with_reducible rfl
        rotate_left
        ·
         simp only [Act.put, List.setIfInBounds_toArray, List.set_cons_zero, List.set_cons_succ, i64_w, i32_w]
         rfl
        refine pure_ (i := 2) (N := some 28) (v := ?_) (a' := ?_) #[true, true, true, true, true, false, false, false, false, true, false, false, false, false] rfl rfl (any_of HT_.out (by kernel_rfl)) (fun _ _ _ h => h) (Or.inl ⟨by rfl, ?_⟩) ?_ ?_
        rotate_left
        ·
         intro w'
         go_simp
         with_reducible rfl
        rotate_left
        ·
         simp only [Act.put, List.setIfInBounds_toArray, List.set_cons_zero, List.set_cons_succ, i64_w, i32_w]
         rfl
        refine join_ (σ := Value × Nat) 1 #[true, true, true, true, true, true, true, true, true, true, true, true, true, false] (fun s_ => [(31, .int .i64 t185), (32, s_.1), (33, .int .i64 t190), (36, .int .i64 t192), (8, .pointer (some ⟨s_.2, 0, none⟩)), (34, .int .i64 (wrap64 ((wrap64 (((rd_T30 x5_1 (ji13)).f0) + 1)) + t190))), (37, .agg #[.int .i64 (wrap64 ((wrap64 (((rd_T30 x5_1 (ji13)).f0) + 1)) + t190)), .int .i64 t192])]) (fun s_ w' => (w'.cell? ⟨gb184, 0, none⟩ = some (.int .i64 ((rd_T30 x5_1 (ji13)).f0)) ∧ w'.cell? ⟨gb184, 1, none⟩ = some (.int .i64 ((rd_T30 x5_1 (ji13)).f1))) ∧ (Kd.R (Kd.int .i64) 3 w' w.heap.size (fun _ => True) s_.1 y187) ∧ (Kd.R k30 30 w' w.heap.size (fun k_ => k_ ≠ gb184 ∧ k_ ≠ s_.2) (.slice (some ad183) x5_1.length co23) x5_1) ∧ (w'.heap[gb184]? = some (.cells #[.int .i64 ((rd_T30 x5_1 (ji13)).f0), .int .i64 ((rd_T30 x5_1 (ji13)).f1)] 30 (0, 0))) ∧ (w'.heap[s_.2]? = some (.cells #[.int .i64 0, .int .i64 0] 30 (0, 0))) ∧ (w.heap.size ≤ s_.2) ∧ (w0.heap.size ≤ s_.2) ∧ (g ≠ s_.2) ∧ (s_.2 ≠ g) ∧ (gb184 ≠ s_.2) ∧ (s_.2 ≠ gb184) ∧ (IsS56 w0 w' g s0_0 t193) ∧ (KeepBut w w' g none) ∧ (Below w0.heap.size w0 w')) ?_ ?_
        rotate_left
        ·
         intro hJ5_6_7_10_12
         refine join_ (σ := Value) 2 #[true, true, true, true, true, true, true, true, true, true, true, true, false, false] (fun s_ => [(31, .int .i64 t185), (32, s_), (33, .int .i64 t190), (36, .int .i64 t192), (34, .int .i64 (wrap64 ((wrap64 (((rd_T30 x5_1 (ji13)).f0) + 1)) + t190))), (37, .agg #[.int .i64 (wrap64 ((wrap64 (((rd_T30 x5_1 (ji13)).f0) + 1)) + t190)), .int .i64 t192])]) (fun s_ w' => (w'.cell? ⟨gb184, 0, none⟩ = some (.int .i64 ((rd_T30 x5_1 (ji13)).f0)) ∧ w'.cell? ⟨gb184, 1, none⟩ = some (.int .i64 ((rd_T30 x5_1 (ji13)).f1))) ∧ (Kd.R (Kd.int .i64) 3 w' w.heap.size (fun _ => True) s_ y187) ∧ (Kd.R k30 30 w' w.heap.size (fun k_ => k_ ≠ gb184) (.slice (some ad183) x5_1.length co23) x5_1) ∧ (w'.heap[gb184]? = some (.cells #[.int .i64 ((rd_T30 x5_1 (ji13)).f0), .int .i64 ((rd_T30 x5_1 (ji13)).f1)] 30 (0, 0))) ∧ (IsS56 w0 w' g s0_0 t193) ∧ (KeepBut w w' g none) ∧ (Below w0.heap.size w0 w')) ?_ ?_
         rotate_left
         ·
          intro hJ5_6_7_10
          refine join_ (σ := Value × Nat) 3 #[true, true, true, true, true, true, true, true, true, true, false, false, true, false] (fun s_ => [(31, .int .i64 t185), (32, s_.1), (33, .int .i64 t190), (8, .pointer (some ⟨s_.2, 0, none⟩)), (34, .int .i64 (wrap64 ((wrap64 (((rd_T30 x5_1 (ji13)).f0) + 1)) + t190)))]) (fun s_ w' => (w'.cell? ⟨gb184, 0, none⟩ = some (.int .i64 ((rd_T30 x5_1 (ji13)).f0)) ∧ w'.cell? ⟨gb184, 1, none⟩ = some (.int .i64 ((rd_T30 x5_1 (ji13)).f1))) ∧ (Kd.R (Kd.int .i64) 3 w' w.heap.size (fun _ => True) s_.1 y187) ∧ (Kd.R k30 30 w' w.heap.size (fun k_ => k_ ≠ gb184 ∧ k_ ≠ s_.2) (.slice (some ad183) x5_1.length co23) x5_1) ∧ (w'.heap[gb184]? = some (.cells #[.int .i64 ((rd_T30 x5_1 (ji13)).f0), .int .i64 ((rd_T30 x5_1 (ji13)).f1)] 30 (0, 0))) ∧ (w'.heap[s_.2]? = some (.cells #[.int .i64 0, .int .i64 0] 30 (0, 0))) ∧ (w.heap.size ≤ s_.2) ∧ (w0.heap.size ≤ s_.2) ∧ (g ≠ s_.2) ∧ (s_.2 ≠ g) ∧ (gb184 ≠ s_.2) ∧ (s_.2 ≠ gb184) ∧ (IsS56 w0 w' g s0_0 t191) ∧ (KeepBut w w' g none) ∧ (Below w0.heap.size w0 w')) ?_ ?_
          rotate_left
          ·
           intro hJ5_6_7_12
           refine join_ (σ := Value) 4 #[true, true, true, true, true, true, true, true, true, true, false, false, false, false] (fun s_ => [(31, .int .i64 t185), (32, s_), (33, .int .i64 t190), (34, .int .i64 (wrap64 ((wrap64 (((rd_T30 x5_1 (ji13)).f0) + 1)) + t190)))]) (fun s_ w' => (w'.cell? ⟨gb184, 0, none⟩ = some (.int .i64 ((rd_T30 x5_1 (ji13)).f0)) ∧ w'.cell? ⟨gb184, 1, none⟩ = some (.int .i64 ((rd_T30 x5_1 (ji13)).f1))) ∧ (Kd.R (Kd.int .i64) 3 w' w.heap.size (fun _ => True) s_ y187) ∧ (Kd.R k30 30 w' w.heap.size (fun k_ => k_ ≠ gb184) (.slice (some ad183) x5_1.length co23) x5_1) ∧ (w'.heap[gb184]? = some (.cells #[.int .i64 ((rd_T30 x5_1 (ji13)).f0), .int .i64 ((rd_T30 x5_1 (ji13)).f1)] 30 (0, 0))) ∧ (IsS56 w0 w' g s0_0 t191) ∧ (KeepBut w w' g none) ∧ (Below w0.heap.size w0 w')) ?_ ?_
           rotate_left
           ·
            intro hJ5_6_7
            refine join_ (σ := Value × Nat) 5 #[true, true, true, true, true, true, true, false, false, true, false, false, true, false] (fun s_ => [(31, .int .i64 t185), (32, s_.1), (8, .pointer (some ⟨s_.2, 0, none⟩))]) (fun s_ w' => (w'.cell? ⟨gb184, 0, none⟩ = some (.int .i64 ((rd_T30 x5_1 (ji13)).f0)) ∧ w'.cell? ⟨gb184, 1, none⟩ = some (.int .i64 ((rd_T30 x5_1 (ji13)).f1))) ∧ (Kd.R (Kd.int .i64) 3 w' w.heap.size (fun _ => True) s_.1 y187) ∧ (Kd.R k30 30 w' w.heap.size (fun k_ => k_ ≠ gb184 ∧ k_ ≠ s_.2) (.slice (some ad183) x5_1.length co23) x5_1) ∧ (w'.heap[gb184]? = some (.cells #[.int .i64 ((rd_T30 x5_1 (ji13)).f0), .int .i64 ((rd_T30 x5_1 (ji13)).f1)] 30 (0, 0))) ∧ (w'.heap[s_.2]? = some (.cells #[.int .i64 0, .int .i64 0] 30 (0, 0))) ∧ (w.heap.size ≤ s_.2) ∧ (w0.heap.size ≤ s_.2) ∧ (g ≠ s_.2) ∧ (s_.2 ≠ g) ∧ (gb184 ≠ s_.2) ∧ (s_.2 ≠ gb184) ∧ (IsS56 w0 w' g s0_0 t186) ∧ (KeepBut w w' g none) ∧ (Below w0.heap.size w0 w')) ?_ ?_
            rotate_left
            ·
             intro hJ5_6_12
             refine join_ (σ := Value) 6 #[true, true, true, true, true, true, true, false, false, true, false, false, false, false] (fun s_ => [(31, .int .i64 t185), (32, s_)]) (fun s_ w' => (w'.cell? ⟨gb184, 0, none⟩ = some (.int .i64 ((rd_T30 x5_1 (ji13)).f0)) ∧ w'.cell? ⟨gb184, 1, none⟩ = some (.int .i64 ((rd_T30 x5_1 (ji13)).f1))) ∧ (Kd.R (Kd.int .i64) 3 w' w.heap.size (fun _ => True) s_ y187) ∧ (Kd.R k30 30 w' w.heap.size (fun k_ => k_ ≠ gb184) (.slice (some ad183) x5_1.length co23) x5_1) ∧ (w'.heap[gb184]? = some (.cells #[.int .i64 ((rd_T30 x5_1 (ji13)).f0), .int .i64 ((rd_T30 x5_1 (ji13)).f1)] 30 (0, 0))) ∧ (IsS56 w0 w' g s0_0 t186) ∧ (KeepBut w w' g none) ∧ (Below w0.heap.size w0 w')) ?_ ?_
             rotate_left
             ·
              intro hJ5_6
              refine join_ (σ := Nat) 6 #[true, true, true, true, true, true, false, false, false, true, false, false, true, false] (fun s_ => [(31, .int .i64 t185), (8, .pointer (some ⟨s_, 0, none⟩))]) (fun s_ w' => (w'.cell? ⟨gb184, 0, none⟩ = some (.int .i64 ((rd_T30 x5_1 (ji13)).f0)) ∧ w'.cell? ⟨gb184, 1, none⟩ = some (.int .i64 ((rd_T30 x5_1 (ji13)).f1))) ∧ (Kd.R k30 30 w' w.heap.size (fun k_ => k_ ≠ gb184 ∧ k_ ≠ s_) (.slice (some ad183) x5_1.length co23) x5_1) ∧ (w'.heap[gb184]? = some (.cells #[.int .i64 ((rd_T30 x5_1 (ji13)).f0), .int .i64 ((rd_T30 x5_1 (ji13)).f1)] 30 (0, 0))) ∧ (w'.heap[s_]? = some (.cells #[.int .i64 0, .int .i64 0] 30 (0, 0))) ∧ (w.heap.size ≤ s_) ∧ (w0.heap.size ≤ s_) ∧ (g ≠ s_) ∧ (s_ ≠ g) ∧ (gb184 ≠ s_) ∧ (s_ ≠ gb184) ∧ (IsS56 w0 w' g s0_0 t186) ∧ (KeepBut w w' g none) ∧ (Below w0.heap.size w0 w')) ?_ ?_
              rotate_left
              ·
               intro hJ5_12
               refine join_ (σ := Unit) 7 #[true, true, true, true, true, true, false, false, false, true, false, false, false, false] (fun s_ => [(31, .int .i64 t185)]) (fun s_ w' => (w'.cell? ⟨gb184, 0, none⟩ = some (.int .i64 ((rd_T30 x5_1 (ji13)).f0)) ∧ w'.cell? ⟨gb184, 1, none⟩ = some (.int .i64 ((rd_T30 x5_1 (ji13)).f1))) ∧ (Kd.R k30 30 w' w.heap.size (fun k_ => k_ ≠ gb184) (.slice (some ad183) x5_1.length co23) x5_1) ∧ (w'.heap[gb184]? = some (.cells #[.int .i64 ((rd_T30 x5_1 (ji13)).f0), .int .i64 ((rd_T30 x5_1 (ji13)).f1)] 30 (0, 0))) ∧ (IsS56 w0 w' g s0_0 t186) ∧ (KeepBut w w' g none) ∧ (Below w0.heap.size w0 w')) ?_ ?_
               rotate_left
               ·
                intro hJ5
                refine join_ (σ := Nat) 7 #[true, true, true, true, true, false, false, false, false, true, false, false, true, false] (fun s_ => [(8, .pointer (some ⟨s_, 0, none⟩))]) (fun s_ w' => (w'.cell? ⟨gb184, 0, none⟩ = some (.int .i64 ((rd_T30 x5_1 (ji13)).f0)) ∧ w'.cell? ⟨gb184, 1, none⟩ = some (.int .i64 ((rd_T30 x5_1 (ji13)).f1))) ∧ (Kd.R k30 30 w' w.heap.size (fun k_ => k_ ≠ gb184 ∧ k_ ≠ s_) (.slice (some ad183) x5_1.length co23) x5_1) ∧ (w'.heap[gb184]? = some (.cells #[.int .i64 ((rd_T30 x5_1 (ji13)).f0), .int .i64 ((rd_T30 x5_1 (ji13)).f1)] 30 (0, 0))) ∧ (w'.heap[s_]? = some (.cells #[.int .i64 0, .int .i64 0] 30 (0, 0))) ∧ (w.heap.size ≤ s_) ∧ (w0.heap.size ≤ s_) ∧ (g ≠ s_) ∧ (s_ ≠ g) ∧ (gb184 ≠ s_) ∧ (s_ ≠ gb184) ∧ (IsS56 w0 w' g s0_0 x1001_1) ∧ (KeepBut w w' g none) ∧ (Below w0.heap.size w0 w')) ?_ ?_
                rotate_left
                ·
                 intro hJ12
                 refine two_ (i := 5) (j := 12) (Ni := some 31) (Nj := some 8) #[true, true, true, true, true, true, false, false, false, true, false, false, false, false] #[true, true, true, true, true, false, false, false, false, true, false, false, true, false] rfl rfl rfl rfl (two_of HT_.out (by kernel_rfl)) (by decide) (by decide) (fun K hK => ?_) (fun K hK => ?_)
                 ·
                  skip
                  refine goes_ Try.func15 (by kernel_rfl) rfl #[.pointer (some ⟨g, 0, none⟩), .int .i64 3000000] (by rfl) rfl rfl (by (try simp only [List.map_toArray, List.map_cons, List.map_nil]); first | done | rfl | (simp only [List.length_drop, List.length_take]; rfl)) ?_
                  with_reducible refine (paygen_Deck_Next.calls g s0_0 x1001_1 3000000 t185 t186 w0 _ ?side1 ?side2 A16.out).mono ?_
                  (case side1 => repeat (first | (with_reducible first | exact HI0.out | apply IsS56.alloc | apply IsS56.drewN | apply IsS56.drew | apply IsS56.set_1 | refine IsS56.far ?_ NB0_184.out _) | exact HI0.out))
                  (case side2 => repeat (first | (with_reducible first | exact HB.out | apply below_alloc | apply pw_below_drewN | apply below_drew1 | refine below_set ?_ (IsS56.ge HI0.out) | refine below_set ?_ GE184.out) | exact HB.out))
                  rintro e w29 ⟨rfl, hi, hb, hk⟩
                  refine ⟨_, rfl, ?_⟩
                  have n0_ := Aside0.mk (Kd.R_mono (Kd.R_keep (IsS56.apart (show IsS56 w0 _ g s0_0 x1001_1 from by repeat (first | (with_reducible first | exact HI0.out | apply IsS56.alloc | apply IsS56.drewN | apply IsS56.drew | apply IsS56.set_1 | refine IsS56.far ?_ NB0_184.out _) | exact HI0.out)) (by (with_reducible repeat (first | apply Kd.R_alloc | apply Kd.R_drewN | apply Kd.R_drew)); exact HO_5.out) (by decide)) hk (fun _ h => h.2)) (fun _ h => h.1))
                  have n1_ := Aside0.mk (KeepBut.blk hk (g' := gb184) (o := .cells #[.int .i64 ((rd_T30 x5_1 (ji13)).f0), .int .i64 ((rd_T30 x5_1 (ji13)).f1)] 30 (0, 0)) (by (with_reducible repeat (first | refine blk_drewN ?_ _ | refine blk_drew ?_ | refine blk_alloc ?_ _)); exact BK184.out) NB184_0.out (by simp))
                  have n2_ := Aside0.mk (KeepBut.trans (by repeat (first | (with_reducible first | exact HK.out | apply KeepBut.set_ | apply keep_drewN | apply keep_drew | apply keep_alloc | refine keep_far ?_ GW184.out _) | exact HK.out)) hk (.inl rfl))
                  have n3_ := Aside0.mk (hb)
                  have n4_ := Aside0.mk (hi)
                  clear HO_5
                  clear BK184
                  clear HK
                  clear HB
                  clear HI0
                  have HO_5 := n0_
                  have BK184 := n1_
                  have HK := n2_
                  have HB := n3_
                  have HI0 := n4_
                  clear n0_ n1_ n2_ n3_ n4_
                  (try clear hb)
                  (try clear hb2)
                  (try clear hk)
                  (try clear hi)
                  refine hK.out _ _ ⟨(blk_cell BK184.out 0).trans rfl, (blk_cell BK184.out 1).trans rfl⟩ (fun hHeld => ?_)
                  clear hK K
                  refine norm_ (a' := ?_) ?_ ?_
                  rotate_left
                  ·
                   show Act.put _ (some 31) _ = _
                   simp only [Act.put, List.setIfInBounds_toArray, List.set_cons_zero, List.set_cons_succ, i64_w, i32_w]
                   rfl
                  exact norm_ (by first | (simp only [putAll, Act.put, List.setIfInBounds_toArray, List.set_cons_zero, List.set_cons_succ]; done) | (simp only [putAll, Act.put, List.setIfInBounds_toArray, List.set_cons_zero, List.set_cons_succ]; rfl)) (hJ5 () _ ⟨hHeld, (by (with_reducible repeat (first | apply Kd.R_alloc | apply Kd.R_drewN | apply Kd.R_drew)); exact HO_5.out), (by (with_reducible repeat (first | refine blk_drewN ?_ _ | refine blk_drew ?_ | refine blk_alloc ?_ _)); exact BK184.out), (by repeat (first | (with_reducible first | exact HI0.out | apply IsS56.alloc | apply IsS56.drewN | apply IsS56.drew | apply IsS56.set_1 | refine IsS56.far ?_ NB0_184.out _) | exact HI0.out)), (by repeat (first | (with_reducible first | exact HK.out | apply KeepBut.set_ | apply keep_drewN | apply keep_drew | apply keep_alloc | refine keep_far ?_ GW184.out _) | exact HK.out)), (by repeat (first | (with_reducible first | exact HB.out | apply below_alloc | apply pw_below_drewN | apply below_drew1 | refine below_set ?_ (IsS56.ge HI0.out) | refine below_set ?_ GE184.out) | exact HB.out))⟩)
                 ·
                  skip
                  refine box_step ?hg (N := 8) ?hd (cs := #[.int .i64 0, .int .i64 0]) (t := 30) ?hr ?_; (case hd => rfl); (case hg => rfl); (case hr => first | (go_simp; done) | (go_simp; rfl))
                  intro gb194 hg w29 hbox hb
                  have n0_ := Aside0.mk (Kd.R_below (Kd.R_elderB (by (with_reducible repeat (first | apply Kd.R_alloc | apply Kd.R_drewN | apply Kd.R_drew)); exact HO_5.out) gb194 (Nat.le_of_eq hg.symm)) hb)
                  have n1_ := Aside0.mk (IsS56.below (by repeat (first | (with_reducible first | exact HI0.out | apply IsS56.alloc | apply IsS56.drewN | apply IsS56.drew | apply IsS56.set_1 | refine IsS56.far ?_ NB0_184.out _) | exact HI0.out)) hb)
                  have n2_ := Aside0.mk (blk_below (g := gb184) (o := .cells #[.int .i64 ((rd_T30 x5_1 (ji13)).f0), .int .i64 ((rd_T30 x5_1 (ji13)).f1)] 30 (0, 0)) (by (with_reducible repeat (first | refine blk_drewN ?_ _ | refine blk_drew ?_ | refine blk_alloc ?_ _)); exact BK184.out) hb)
                  have n3_ := Aside0.mk (KeepBut.trans (by repeat (first | (with_reducible first | exact HK.out | apply KeepBut.set_ | apply keep_drewN | apply keep_drew | apply keep_alloc | refine keep_far ?_ GW184.out _) | exact HK.out)) (KeepBut.of_below hb g none) (.inl rfl))
                  have n4_ := Aside0.mk (below_step (by repeat (first | (with_reducible first | exact HB.out | apply below_alloc | apply pw_below_drewN | apply below_drew1 | refine below_set ?_ (IsS56.ge HI0.out) | refine below_set ?_ GE184.out) | exact HB.out)) hb)
                  have n5_ := Aside0.mk (hbox)
                  have n6_ := Aside0.mk ((by rw [hg]; exact (keep_size (w := w) (g := g) (row := none) (by repeat (first | (with_reducible first | exact HK.out | apply KeepBut.set_ | apply keep_drewN | apply keep_drew | apply keep_alloc | refine keep_far ?_ GW184.out _) | exact HK.out))) : w.heap.size ≤ gb194))
                  have n7_ := Aside0.mk ((Nat.le_trans HW0.out (by rw [hg]; exact (keep_size (w := w) (g := g) (row := none) (by repeat (first | (with_reducible first | exact HK.out | apply KeepBut.set_ | apply keep_drewN | apply keep_drew | apply keep_alloc | refine keep_far ?_ GW184.out _) | exact HK.out))) : w.heap.size ≤ gb194) : w0.heap.size ≤ gb194))
                  have n8_ := Aside0.mk ((by rw [hg]; exact Nat.ne_of_lt (blk_lt (g := gb184) (o := .cells #[.int .i64 ((rd_T30 x5_1 (ji13)).f0), .int .i64 ((rd_T30 x5_1 (ji13)).f1)] 30 (0, 0)) (by (with_reducible repeat (first | refine blk_drewN ?_ _ | refine blk_drew ?_ | refine blk_alloc ?_ _)); exact BK184.out)) : gb184 ≠ gb194))
                  have n9_ := Aside0.mk ((by rw [hg]; exact Nat.ne_of_gt (blk_lt (g := gb184) (o := .cells #[.int .i64 ((rd_T30 x5_1 (ji13)).f0), .int .i64 ((rd_T30 x5_1 (ji13)).f1)] 30 (0, 0)) (by (with_reducible repeat (first | refine blk_drewN ?_ _ | refine blk_drew ?_ | refine blk_alloc ?_ _)); exact BK184.out)) : gb194 ≠ gb184))
                  have n10_ := Aside0.mk ((by rw [hg]; exact Nat.ne_of_lt (IsS56.lt (show IsS56 w0 _ g s0_0 x1001_1 from by repeat (first | (with_reducible first | exact HI0.out | apply IsS56.alloc | apply IsS56.drewN | apply IsS56.drew | apply IsS56.set_1 | refine IsS56.far ?_ NB0_184.out _) | exact HI0.out))) : g ≠ gb194))
                  have n11_ := Aside0.mk ((by rw [hg]; exact Nat.ne_of_gt (IsS56.lt (show IsS56 w0 _ g s0_0 x1001_1 from by repeat (first | (with_reducible first | exact HI0.out | apply IsS56.alloc | apply IsS56.drewN | apply IsS56.drew | apply IsS56.set_1 | refine IsS56.far ?_ NB0_184.out _) | exact HI0.out))) : gb194 ≠ g))
                  clear HO_5
                  clear HI0
                  clear BK184
                  clear HK
                  clear HB
                  have HO_5 := n0_
                  have HI0 := n1_
                  have BK184 := n2_
                  have HK := n3_
                  have HB := n4_
                  have BK194 := n5_
                  have GW194 := n6_
                  have GE194 := n7_
                  have NB184_194 := n8_
                  have NB194_184 := n9_
                  have NB0_194 := n10_
                  have NB194_0 := n11_
                  clear n0_ n1_ n2_ n3_ n4_ n5_ n6_ n7_ n8_ n9_ n10_ n11_
                  clear hb hbox hg
                  refine hK.out _ _ ⟨(blk_cell BK184.out 0).trans rfl, (blk_cell BK184.out 1).trans rfl⟩ (fun hHeld => ?_)
                  clear hK K
                  refine norm_ (a' := ?_) ?_ ?_
                  rotate_left
                  ·
                   show Act.put _ (some 8) _ = _
                   simp only [Act.put, List.setIfInBounds_toArray, List.set_cons_zero, List.set_cons_succ, i64_w, i32_w]
                   rfl
                  exact norm_ (by first | (simp only [putAll, Act.put, List.setIfInBounds_toArray, List.set_cons_zero, List.set_cons_succ]; done) | (simp only [putAll, Act.put, List.setIfInBounds_toArray, List.set_cons_zero, List.set_cons_succ]; rfl)) (hJ12 (gb194) _ ⟨hHeld, (by (with_reducible repeat (first | apply Kd.R_alloc | apply Kd.R_drewN | apply Kd.R_drew)); exact HO_5.out), (by (with_reducible repeat (first | refine blk_drewN ?_ _ | refine blk_drew ?_ | refine blk_alloc ?_ _)); exact BK184.out), (by (with_reducible repeat (first | refine blk_drewN ?_ _ | refine blk_drew ?_ | refine blk_alloc ?_ _)); exact BK194.out), GW194.out, GE194.out, NB0_194.out, NB194_0.out, NB184_194.out, NB194_184.out, (by repeat (first | (with_reducible first | exact HI0.out | apply IsS56.alloc | apply IsS56.drewN | apply IsS56.drew | apply IsS56.set_1 | refine IsS56.far ?_ NB0_184.out _ | refine IsS56.far ?_ NB0_194.out _) | exact HI0.out)), (by repeat (first | (with_reducible first | exact HK.out | apply KeepBut.set_ | apply keep_drewN | apply keep_drew | apply keep_alloc | refine keep_far ?_ GW184.out _ | refine keep_far ?_ GW194.out _) | exact HK.out)), (by repeat (first | (with_reducible first | exact HB.out | apply below_alloc | apply pw_below_drewN | apply below_drew1 | refine below_set ?_ (IsS56.ge HI0.out) | refine below_set ?_ GE184.out | refine below_set ?_ GE194.out) | exact HB.out))⟩)
                ·
                 skip
                 rintro gb194 w30 ⟨hS_, h0_, h1_, h2_, h3_, h4_, h5_, h6_, h7_, h8_, h9_, h10_, h11_⟩
                 have n0_ : Aside0 (Kd.R k30 30 w30 w.heap.size (fun k_ => k_ ≠ gb184 ∧ k_ ≠ gb194) (.slice (some ad183) x5_1.length co23) x5_1) := ⟨h0_⟩
                 have n1_ : Aside0 (w30.heap[gb184]? = some (.cells #[.int .i64 ((rd_T30 x5_1 (ji13)).f0), .int .i64 ((rd_T30 x5_1 (ji13)).f1)] 30 (0, 0))) := ⟨h1_⟩
                 have n2_ : Aside0 (w30.heap[gb194]? = some (.cells #[.int .i64 0, .int .i64 0] 30 (0, 0))) := ⟨h2_⟩
                 have n3_ : Aside0 (w.heap.size ≤ gb194) := ⟨h3_⟩
                 have n4_ : Aside0 (w0.heap.size ≤ gb194) := ⟨h4_⟩
                 have n5_ : Aside0 (g ≠ gb194) := ⟨h5_⟩
                 have n6_ : Aside0 (gb194 ≠ g) := ⟨h6_⟩
                 have n7_ : Aside0 (gb184 ≠ gb194) := ⟨h7_⟩
                 have n8_ : Aside0 (gb194 ≠ gb184) := ⟨h8_⟩
                 have n9_ : Aside0 (IsS56 w0 w30 g s0_0 x1001_1) := ⟨h9_⟩
                 have n10_ : Aside0 (KeepBut w w30 g none) := ⟨h10_⟩
                 have n11_ : Aside0 (Below w0.heap.size w0 w30) := ⟨h11_⟩
                 clear HO_5
                 clear BK184
                 clear HI0
                 clear HK
                 clear HB
                 clear h0_ h1_ h2_ h3_ h4_ h5_ h6_ h7_ h8_ h9_ h10_ h11_
                 have HO_5 := n0_
                 have BK184 := n1_
                 have BK194 := n2_
                 have GW194 := n3_
                 have GE194 := n4_
                 have NB0_194 := n5_
                 have NB194_0 := n6_
                 have NB184_194 := n7_
                 have NB194_184 := n8_
                 have HI0 := n9_
                 have HK := n10_
                 have HB := n11_
                 clear n0_ n1_ n2_ n3_ n4_ n5_ n6_ n7_ n8_ n9_ n10_ n11_
                 have hHeld : w30.cell? ⟨gb184, 0, none⟩ = some (.int .i64 ((rd_T30 x5_1 (ji13)).f0)) ∧ w30.cell? ⟨gb184, 1, none⟩ = some (.int .i64 ((rd_T30 x5_1 (ji13)).f1)) := hS_
                 refine norm_ (a' := ?_) ?_ ?_
                 rotate_left
                 ·
                  simp only [putAll, Act.put, List.setIfInBounds_toArray, List.set_cons_zero, List.set_cons_succ]
                  rfl
                 refine one_ (i := 5) (N := some 31) #[true, true, true, true, true, true, false, false, false, true, false, false, true, false] rfl rfl (one_of HT_.out (by kernel_rfl)) (by decide) (fun K hK => ?_)
                 refine goes_ Try.func15 (by kernel_rfl) rfl #[.pointer (some ⟨g, 0, none⟩), .int .i64 3000000] (by rfl) rfl rfl (by (try simp only [List.map_toArray, List.map_cons, List.map_nil]); first | done | rfl | (simp only [List.length_drop, List.length_take]; rfl)) ?_
                 with_reducible refine (paygen_Deck_Next.calls g s0_0 x1001_1 3000000 t185 t186 w0 _ ?side1 ?side2 A16.out).mono ?_
                 (case side1 => repeat (first | (with_reducible first | exact HI0.out | apply IsS56.alloc | apply IsS56.drewN | apply IsS56.drew | apply IsS56.set_1 | refine IsS56.far ?_ NB0_184.out _ | refine IsS56.far ?_ NB0_194.out _) | exact HI0.out))
                 (case side2 => repeat (first | (with_reducible first | exact HB.out | apply below_alloc | apply pw_below_drewN | apply below_drew1 | refine below_set ?_ (IsS56.ge HI0.out) | refine below_set ?_ GE184.out | refine below_set ?_ GE194.out) | exact HB.out))
                 rintro e w31 ⟨rfl, hi, hb, hk⟩
                 refine ⟨_, rfl, ?_⟩
                 have n0_ := Aside0.mk (Kd.R_mono (Kd.R_keep (IsS56.apart (show IsS56 w0 _ g s0_0 x1001_1 from by repeat (first | (with_reducible first | exact HI0.out | apply IsS56.alloc | apply IsS56.drewN | apply IsS56.drew | apply IsS56.set_1 | refine IsS56.far ?_ NB0_184.out _ | refine IsS56.far ?_ NB0_194.out _) | exact HI0.out)) (by (with_reducible repeat (first | apply Kd.R_alloc | apply Kd.R_drewN | apply Kd.R_drew)); exact HO_5.out) (by decide)) hk (fun _ h => h.2)) (fun _ h => h.1))
                 have n1_ := Aside0.mk (KeepBut.blk hk (g' := gb184) (o := .cells #[.int .i64 ((rd_T30 x5_1 (ji13)).f0), .int .i64 ((rd_T30 x5_1 (ji13)).f1)] 30 (0, 0)) (by (with_reducible repeat (first | refine blk_drewN ?_ _ | refine blk_drew ?_ | refine blk_alloc ?_ _)); exact BK184.out) NB184_0.out (by simp))
                 have n2_ := Aside0.mk (KeepBut.blk hk (g' := gb194) (o := .cells #[.int .i64 0, .int .i64 0] 30 (0, 0)) (by (with_reducible repeat (first | refine blk_drewN ?_ _ | refine blk_drew ?_ | refine blk_alloc ?_ _)); exact BK194.out) NB194_0.out (by simp))
                 have n3_ := Aside0.mk (KeepBut.trans (by repeat (first | (with_reducible first | exact HK.out | apply KeepBut.set_ | apply keep_drewN | apply keep_drew | apply keep_alloc | refine keep_far ?_ GW184.out _ | refine keep_far ?_ GW194.out _) | exact HK.out)) hk (.inl rfl))
                 have n4_ := Aside0.mk (hb)
                 have n5_ := Aside0.mk (hi)
                 clear HO_5
                 clear BK184
                 clear BK194
                 clear HK
                 clear HB
                 clear HI0
                 have HO_5 := n0_
                 have BK184 := n1_
                 have BK194 := n2_
                 have HK := n3_
                 have HB := n4_
                 have HI0 := n5_
                 clear n0_ n1_ n2_ n3_ n4_ n5_
                 (try clear hb)
                 (try clear hb2)
                 (try clear hk)
                 (try clear hi)
                 refine hK.out _ _ ⟨(blk_cell BK184.out 0).trans rfl, (blk_cell BK184.out 1).trans rfl⟩ (fun hHeld => ?_)
                 clear hK K
                 refine norm_ (a' := ?_) ?_ ?_
                 rotate_left
                 ·
                  show Act.put _ (some 31) _ = _
                  simp only [Act.put, List.setIfInBounds_toArray, List.set_cons_zero, List.set_cons_succ, i64_w, i32_w]
                  rfl
                 exact norm_ (by first | (simp only [putAll, Act.put, List.setIfInBounds_toArray, List.set_cons_zero, List.set_cons_succ]; done) | (simp only [putAll, Act.put, List.setIfInBounds_toArray, List.set_cons_zero, List.set_cons_succ]; rfl)) (hJ5_12 (gb194) _ ⟨hHeld, (by (with_reducible repeat (first | apply Kd.R_alloc | apply Kd.R_drewN | apply Kd.R_drew)); exact HO_5.out), (by (with_reducible repeat (first | refine blk_drewN ?_ _ | refine blk_drew ?_ | refine blk_alloc ?_ _)); exact BK184.out), (by (with_reducible repeat (first | refine blk_drewN ?_ _ | refine blk_drew ?_ | refine blk_alloc ?_ _)); exact BK194.out), GW194.out, GE194.out, NB0_194.out, NB194_0.out, NB184_194.out, NB194_184.out, (by repeat (first | (with_reducible first | exact HI0.out | apply IsS56.alloc | apply IsS56.drewN | apply IsS56.drew | apply IsS56.set_1 | refine IsS56.far ?_ NB0_184.out _ | refine IsS56.far ?_ NB0_194.out _) | exact HI0.out)), (by repeat (first | (with_reducible first | exact HK.out | apply KeepBut.set_ | apply keep_drewN | apply keep_drew | apply keep_alloc | refine keep_far ?_ GW184.out _ | refine keep_far ?_ GW194.out _) | exact HK.out)), (by repeat (first | (with_reducible first | exact HB.out | apply below_alloc | apply pw_below_drewN | apply below_drew1 | refine below_set ?_ (IsS56.ge HI0.out) | refine below_set ?_ GE184.out | refine below_set ?_ GE194.out) | exact HB.out))⟩)
               ·
                skip
                rintro _ w30 ⟨hS_, h0_, h1_, h2_, h3_, h4_⟩
                have n0_ : Aside0 (Kd.R k30 30 w30 w.heap.size (fun k_ => k_ ≠ gb184) (.slice (some ad183) x5_1.length co23) x5_1) := ⟨h0_⟩
                have n1_ : Aside0 (w30.heap[gb184]? = some (.cells #[.int .i64 ((rd_T30 x5_1 (ji13)).f0), .int .i64 ((rd_T30 x5_1 (ji13)).f1)] 30 (0, 0))) := ⟨h1_⟩
                have n2_ : Aside0 (IsS56 w0 w30 g s0_0 t186) := ⟨h2_⟩
                have n3_ : Aside0 (KeepBut w w30 g none) := ⟨h3_⟩
                have n4_ : Aside0 (Below w0.heap.size w0 w30) := ⟨h4_⟩
                clear HO_5
                clear BK184
                clear HI0
                clear HK
                clear HB
                clear h0_ h1_ h2_ h3_ h4_
                have HO_5 := n0_
                have BK184 := n1_
                have HI0 := n2_
                have HK := n3_
                have HB := n4_
                clear n0_ n1_ n2_ n3_ n4_
                have hHeld : w30.cell? ⟨gb184, 0, none⟩ = some (.int .i64 ((rd_T30 x5_1 (ji13)).f0)) ∧ w30.cell? ⟨gb184, 1, none⟩ = some (.int .i64 ((rd_T30 x5_1 (ji13)).f1)) := hS_
                refine norm_ (a' := ?_) ?_ ?_
                rotate_left
                ·
                 simp only [putAll, Act.put, List.setIfInBounds_toArray, List.set_cons_zero, List.set_cons_succ]
                 rfl
                refine two_ (i := 6) (j := 12) (Ni := some 32) (Nj := some 8) #[true, true, true, true, true, true, true, false, false, true, false, false, false, false] #[true, true, true, true, true, true, false, false, false, true, false, false, true, false] rfl rfl rfl rfl (two_of HT_.out (by kernel_rfl)) (by decide) (by decide) (fun K hK => ?_) (fun K hK => ?_)
                ·
                 skip
                 refine Kd.R_lit_step (Kd.int .i64) _ 3 ?hg (N := 32) ?hd (xs := ([0, 99, t185] : List Int)) (inner := [.int .i64 0, .int .i64 99, .int .i64 t185]) (ok := fun _ => True) (okp := fun _ => True) ?hr ?hp (fun _ hk => hk) trivial (Below.refl _ _) (Nat.le_refl _) (by simp) ?_; (case hd => rfl); (case hg => rfl); (case hr => first | (go_simp; done) | (go_simp; rfl)); (case hp => exact (Reps.one (show Kd.M (Kd.int .i64) _ _ _ 0 [.int .i64 0] from rfl) (Reps.one (show Kd.M (Kd.int .i64) _ _ _ 99 [.int .i64 99] from rfl) (Reps.one (show Kd.M (Kd.int .i64) _ _ _ t185 [.int .i64 t185] from rfl) (Reps.none _ _)))))
                 intro v188 w31 ho32 hb hg_ hnew_
                 clear hg_ hnew_
                 (first | rw [← Ny187.out] at ho32 | (simp only [Int.reduceToNat] at ho32; rw [← Ny187.out] at ho32))
                 have n0_ := Aside0.mk (Kd.R_below (by (with_reducible repeat (first | apply Kd.R_alloc | apply Kd.R_drewN | apply Kd.R_drew)); exact HO_5.out) hb)
                 have n1_ := Aside0.mk (Kd.R_lower ho32 (keep_size (w := w) (g := g) (row := none) (by repeat (first | (with_reducible first | exact HK.out | apply KeepBut.set_ | apply keep_drewN | apply keep_drew | apply keep_alloc | refine keep_far ?_ GW184.out _) | exact HK.out))))
                 have n2_ := Aside0.mk (IsS56.below (by repeat (first | (with_reducible first | exact HI0.out | apply IsS56.alloc | apply IsS56.drewN | apply IsS56.drew | apply IsS56.set_1 | refine IsS56.far ?_ NB0_184.out _) | exact HI0.out)) hb)
                 have n3_ := Aside0.mk (blk_below (g := gb184) (o := .cells #[.int .i64 ((rd_T30 x5_1 (ji13)).f0), .int .i64 ((rd_T30 x5_1 (ji13)).f1)] 30 (0, 0)) (by (with_reducible repeat (first | refine blk_drewN ?_ _ | refine blk_drew ?_ | refine blk_alloc ?_ _)); exact BK184.out) hb)
                 have n4_ := Aside0.mk (KeepBut.trans (by repeat (first | (with_reducible first | exact HK.out | apply KeepBut.set_ | apply keep_drewN | apply keep_drew | apply keep_alloc | refine keep_far ?_ GW184.out _) | exact HK.out)) (KeepBut.of_below hb g none) (.inl rfl))
                 have n5_ := Aside0.mk (below_step (by repeat (first | (with_reducible first | exact HB.out | apply below_alloc | apply pw_below_drewN | apply below_drew1 | refine below_set ?_ (IsS56.ge HI0.out) | refine below_set ?_ GE184.out) | exact HB.out)) hb)
                 clear HO_5
                 clear HI0
                 clear BK184
                 clear HK
                 clear HB
                 have HO_5 := n0_
                 have HO189 := n1_
                 have HI0 := n2_
                 have BK184 := n3_
                 have HK := n4_
                 have HB := n5_
                 clear n0_ n1_ n2_ n3_ n4_ n5_
                 clear hb ho32
                 refine hK.out _ _ ⟨(blk_cell BK184.out 0).trans rfl, (blk_cell BK184.out 1).trans rfl⟩ (fun hHeld => ?_)
                 clear hK K
                 refine norm_ (a' := ?_) ?_ ?_
                 rotate_left
                 ·
                  show Act.put _ (some 32) _ = _
                  simp only [Act.put, List.setIfInBounds_toArray, List.set_cons_zero, List.set_cons_succ, i64_w, i32_w]
                  rfl
                 exact norm_ (by first | (simp only [putAll, Act.put, List.setIfInBounds_toArray, List.set_cons_zero, List.set_cons_succ]; done) | (simp only [putAll, Act.put, List.setIfInBounds_toArray, List.set_cons_zero, List.set_cons_succ]; rfl)) (hJ5_6 (v188) _ ⟨hHeld, (by (with_reducible repeat (first | apply Kd.R_alloc | apply Kd.R_drewN | apply Kd.R_drew)); exact HO189.out), (by (with_reducible repeat (first | apply Kd.R_alloc | apply Kd.R_drewN | apply Kd.R_drew)); exact HO_5.out), (by (with_reducible repeat (first | refine blk_drewN ?_ _ | refine blk_drew ?_ | refine blk_alloc ?_ _)); exact BK184.out), (by repeat (first | (with_reducible first | exact HI0.out | apply IsS56.alloc | apply IsS56.drewN | apply IsS56.drew | apply IsS56.set_1 | refine IsS56.far ?_ NB0_184.out _) | exact HI0.out)), (by repeat (first | (with_reducible first | exact HK.out | apply KeepBut.set_ | apply keep_drewN | apply keep_drew | apply keep_alloc | refine keep_far ?_ GW184.out _) | exact HK.out)), (by repeat (first | (with_reducible first | exact HB.out | apply below_alloc | apply pw_below_drewN | apply below_drew1 | refine below_set ?_ (IsS56.ge HI0.out) | refine below_set ?_ GE184.out) | exact HB.out))⟩)
                ·
                 skip
                 refine box_step ?hg (N := 8) ?hd (cs := #[.int .i64 0, .int .i64 0]) (t := 30) ?hr ?_; (case hd => rfl); (case hg => rfl); (case hr => first | (go_simp; done) | (go_simp; rfl))
                 intro gb194 hg w31 hbox hb
                 have n0_ := Aside0.mk (Kd.R_below (Kd.R_elderB (by (with_reducible repeat (first | apply Kd.R_alloc | apply Kd.R_drewN | apply Kd.R_drew)); exact HO_5.out) gb194 (Nat.le_of_eq hg.symm)) hb)
                 have n1_ := Aside0.mk (IsS56.below (by repeat (first | (with_reducible first | exact HI0.out | apply IsS56.alloc | apply IsS56.drewN | apply IsS56.drew | apply IsS56.set_1 | refine IsS56.far ?_ NB0_184.out _) | exact HI0.out)) hb)
                 have n2_ := Aside0.mk (blk_below (g := gb184) (o := .cells #[.int .i64 ((rd_T30 x5_1 (ji13)).f0), .int .i64 ((rd_T30 x5_1 (ji13)).f1)] 30 (0, 0)) (by (with_reducible repeat (first | refine blk_drewN ?_ _ | refine blk_drew ?_ | refine blk_alloc ?_ _)); exact BK184.out) hb)
                 have n3_ := Aside0.mk (KeepBut.trans (by repeat (first | (with_reducible first | exact HK.out | apply KeepBut.set_ | apply keep_drewN | apply keep_drew | apply keep_alloc | refine keep_far ?_ GW184.out _) | exact HK.out)) (KeepBut.of_below hb g none) (.inl rfl))
                 have n4_ := Aside0.mk (below_step (by repeat (first | (with_reducible first | exact HB.out | apply below_alloc | apply pw_below_drewN | apply below_drew1 | refine below_set ?_ (IsS56.ge HI0.out) | refine below_set ?_ GE184.out) | exact HB.out)) hb)
                 have n5_ := Aside0.mk (hbox)
                 have n6_ := Aside0.mk ((by rw [hg]; exact (keep_size (w := w) (g := g) (row := none) (by repeat (first | (with_reducible first | exact HK.out | apply KeepBut.set_ | apply keep_drewN | apply keep_drew | apply keep_alloc | refine keep_far ?_ GW184.out _) | exact HK.out))) : w.heap.size ≤ gb194))
                 have n7_ := Aside0.mk ((Nat.le_trans HW0.out (by rw [hg]; exact (keep_size (w := w) (g := g) (row := none) (by repeat (first | (with_reducible first | exact HK.out | apply KeepBut.set_ | apply keep_drewN | apply keep_drew | apply keep_alloc | refine keep_far ?_ GW184.out _) | exact HK.out))) : w.heap.size ≤ gb194) : w0.heap.size ≤ gb194))
                 have n8_ := Aside0.mk ((by rw [hg]; exact Nat.ne_of_lt (blk_lt (g := gb184) (o := .cells #[.int .i64 ((rd_T30 x5_1 (ji13)).f0), .int .i64 ((rd_T30 x5_1 (ji13)).f1)] 30 (0, 0)) (by (with_reducible repeat (first | refine blk_drewN ?_ _ | refine blk_drew ?_ | refine blk_alloc ?_ _)); exact BK184.out)) : gb184 ≠ gb194))
                 have n9_ := Aside0.mk ((by rw [hg]; exact Nat.ne_of_gt (blk_lt (g := gb184) (o := .cells #[.int .i64 ((rd_T30 x5_1 (ji13)).f0), .int .i64 ((rd_T30 x5_1 (ji13)).f1)] 30 (0, 0)) (by (with_reducible repeat (first | refine blk_drewN ?_ _ | refine blk_drew ?_ | refine blk_alloc ?_ _)); exact BK184.out)) : gb194 ≠ gb184))
                 have n10_ := Aside0.mk ((by rw [hg]; exact Nat.ne_of_lt (IsS56.lt (show IsS56 w0 _ g s0_0 t186 from by repeat (first | (with_reducible first | exact HI0.out | apply IsS56.alloc | apply IsS56.drewN | apply IsS56.drew | apply IsS56.set_1 | refine IsS56.far ?_ NB0_184.out _) | exact HI0.out))) : g ≠ gb194))
                 have n11_ := Aside0.mk ((by rw [hg]; exact Nat.ne_of_gt (IsS56.lt (show IsS56 w0 _ g s0_0 t186 from by repeat (first | (with_reducible first | exact HI0.out | apply IsS56.alloc | apply IsS56.drewN | apply IsS56.drew | apply IsS56.set_1 | refine IsS56.far ?_ NB0_184.out _) | exact HI0.out))) : gb194 ≠ g))
                 clear HO_5
                 clear HI0
                 clear BK184
                 clear HK
                 clear HB
                 have HO_5 := n0_
                 have HI0 := n1_
                 have BK184 := n2_
                 have HK := n3_
                 have HB := n4_
                 have BK194 := n5_
                 have GW194 := n6_
                 have GE194 := n7_
                 have NB184_194 := n8_
                 have NB194_184 := n9_
                 have NB0_194 := n10_
                 have NB194_0 := n11_
                 clear n0_ n1_ n2_ n3_ n4_ n5_ n6_ n7_ n8_ n9_ n10_ n11_
                 clear hb hbox hg
                 refine hK.out _ _ ⟨(blk_cell BK184.out 0).trans rfl, (blk_cell BK184.out 1).trans rfl⟩ (fun hHeld => ?_)
                 clear hK K
                 refine norm_ (a' := ?_) ?_ ?_
                 rotate_left
                 ·
                  show Act.put _ (some 8) _ = _
                  simp only [Act.put, List.setIfInBounds_toArray, List.set_cons_zero, List.set_cons_succ, i64_w, i32_w]
                  rfl
                 exact norm_ (by first | (simp only [putAll, Act.put, List.setIfInBounds_toArray, List.set_cons_zero, List.set_cons_succ]; done) | (simp only [putAll, Act.put, List.setIfInBounds_toArray, List.set_cons_zero, List.set_cons_succ]; rfl)) (hJ5_12 (gb194) _ ⟨hHeld, (by (with_reducible repeat (first | apply Kd.R_alloc | apply Kd.R_drewN | apply Kd.R_drew)); exact HO_5.out), (by (with_reducible repeat (first | refine blk_drewN ?_ _ | refine blk_drew ?_ | refine blk_alloc ?_ _)); exact BK184.out), (by (with_reducible repeat (first | refine blk_drewN ?_ _ | refine blk_drew ?_ | refine blk_alloc ?_ _)); exact BK194.out), GW194.out, GE194.out, NB0_194.out, NB194_0.out, NB184_194.out, NB194_184.out, (by repeat (first | (with_reducible first | exact HI0.out | apply IsS56.alloc | apply IsS56.drewN | apply IsS56.drew | apply IsS56.set_1 | refine IsS56.far ?_ NB0_184.out _ | refine IsS56.far ?_ NB0_194.out _) | exact HI0.out)), (by repeat (first | (with_reducible first | exact HK.out | apply KeepBut.set_ | apply keep_drewN | apply keep_drew | apply keep_alloc | refine keep_far ?_ GW184.out _ | refine keep_far ?_ GW194.out _) | exact HK.out)), (by repeat (first | (with_reducible first | exact HB.out | apply below_alloc | apply pw_below_drewN | apply below_drew1 | refine below_set ?_ (IsS56.ge HI0.out) | refine below_set ?_ GE184.out | refine below_set ?_ GE194.out) | exact HB.out))⟩)
              ·
               skip
               rintro gb194 w31 ⟨hS_, h0_, h1_, h2_, h3_, h4_, h5_, h6_, h7_, h8_, h9_, h10_, h11_⟩
               have n0_ : Aside0 (Kd.R k30 30 w31 w.heap.size (fun k_ => k_ ≠ gb184 ∧ k_ ≠ gb194) (.slice (some ad183) x5_1.length co23) x5_1) := ⟨h0_⟩
               have n1_ : Aside0 (w31.heap[gb184]? = some (.cells #[.int .i64 ((rd_T30 x5_1 (ji13)).f0), .int .i64 ((rd_T30 x5_1 (ji13)).f1)] 30 (0, 0))) := ⟨h1_⟩
               have n2_ : Aside0 (w31.heap[gb194]? = some (.cells #[.int .i64 0, .int .i64 0] 30 (0, 0))) := ⟨h2_⟩
               have n3_ : Aside0 (w.heap.size ≤ gb194) := ⟨h3_⟩
               have n4_ : Aside0 (w0.heap.size ≤ gb194) := ⟨h4_⟩
               have n5_ : Aside0 (g ≠ gb194) := ⟨h5_⟩
               have n6_ : Aside0 (gb194 ≠ g) := ⟨h6_⟩
               have n7_ : Aside0 (gb184 ≠ gb194) := ⟨h7_⟩
               have n8_ : Aside0 (gb194 ≠ gb184) := ⟨h8_⟩
               have n9_ : Aside0 (IsS56 w0 w31 g s0_0 t186) := ⟨h9_⟩
               have n10_ : Aside0 (KeepBut w w31 g none) := ⟨h10_⟩
               have n11_ : Aside0 (Below w0.heap.size w0 w31) := ⟨h11_⟩
               clear HO_5
               clear BK184
               clear HI0
               clear HK
               clear HB
               clear h0_ h1_ h2_ h3_ h4_ h5_ h6_ h7_ h8_ h9_ h10_ h11_
               have HO_5 := n0_
               have BK184 := n1_
               have BK194 := n2_
               have GW194 := n3_
               have GE194 := n4_
               have NB0_194 := n5_
               have NB194_0 := n6_
               have NB184_194 := n7_
               have NB194_184 := n8_
               have HI0 := n9_
               have HK := n10_
               have HB := n11_
               clear n0_ n1_ n2_ n3_ n4_ n5_ n6_ n7_ n8_ n9_ n10_ n11_
               have hHeld : w31.cell? ⟨gb184, 0, none⟩ = some (.int .i64 ((rd_T30 x5_1 (ji13)).f0)) ∧ w31.cell? ⟨gb184, 1, none⟩ = some (.int .i64 ((rd_T30 x5_1 (ji13)).f1)) := hS_
               refine norm_ (a' := ?_) ?_ ?_
               rotate_left
               ·
                simp only [putAll, Act.put, List.setIfInBounds_toArray, List.set_cons_zero, List.set_cons_succ]
                rfl
               refine one_ (i := 6) (N := some 32) #[true, true, true, true, true, true, true, false, false, true, false, false, true, false] rfl rfl (one_of HT_.out (by kernel_rfl)) (by decide) (fun K hK => ?_)
               refine Kd.R_lit_step (Kd.int .i64) _ 3 ?hg (N := 32) ?hd (xs := ([0, 99, t185] : List Int)) (inner := [.int .i64 0, .int .i64 99, .int .i64 t185]) (ok := fun _ => True) (okp := fun _ => True) ?hr ?hp (fun _ hk => hk) trivial (Below.refl _ _) (Nat.le_refl _) (by simp) ?_; (case hd => rfl); (case hg => rfl); (case hr => first | (go_simp; done) | (go_simp; rfl)); (case hp => exact (Reps.one (show Kd.M (Kd.int .i64) _ _ _ 0 [.int .i64 0] from rfl) (Reps.one (show Kd.M (Kd.int .i64) _ _ _ 99 [.int .i64 99] from rfl) (Reps.one (show Kd.M (Kd.int .i64) _ _ _ t185 [.int .i64 t185] from rfl) (Reps.none _ _)))))
               intro v188 w32 ho33 hb hg_ hnew_
               clear hg_ hnew_
               (first | rw [← Ny187.out] at ho33 | (simp only [Int.reduceToNat] at ho33; rw [← Ny187.out] at ho33))
               have n0_ := Aside0.mk (Kd.R_below (by (with_reducible repeat (first | apply Kd.R_alloc | apply Kd.R_drewN | apply Kd.R_drew)); exact HO_5.out) hb)
               have n1_ := Aside0.mk (Kd.R_lower ho33 (keep_size (w := w) (g := g) (row := none) (by repeat (first | (with_reducible first | exact HK.out | apply KeepBut.set_ | apply keep_drewN | apply keep_drew | apply keep_alloc | refine keep_far ?_ GW184.out _ | refine keep_far ?_ GW194.out _) | exact HK.out))))
               have n2_ := Aside0.mk (IsS56.below (by repeat (first | (with_reducible first | exact HI0.out | apply IsS56.alloc | apply IsS56.drewN | apply IsS56.drew | apply IsS56.set_1 | refine IsS56.far ?_ NB0_184.out _ | refine IsS56.far ?_ NB0_194.out _) | exact HI0.out)) hb)
               have n3_ := Aside0.mk (blk_below (g := gb184) (o := .cells #[.int .i64 ((rd_T30 x5_1 (ji13)).f0), .int .i64 ((rd_T30 x5_1 (ji13)).f1)] 30 (0, 0)) (by (with_reducible repeat (first | refine blk_drewN ?_ _ | refine blk_drew ?_ | refine blk_alloc ?_ _)); exact BK184.out) hb)
               have n4_ := Aside0.mk (blk_below (g := gb194) (o := .cells #[.int .i64 0, .int .i64 0] 30 (0, 0)) (by (with_reducible repeat (first | refine blk_drewN ?_ _ | refine blk_drew ?_ | refine blk_alloc ?_ _)); exact BK194.out) hb)
               have n5_ := Aside0.mk (KeepBut.trans (by repeat (first | (with_reducible first | exact HK.out | apply KeepBut.set_ | apply keep_drewN | apply keep_drew | apply keep_alloc | refine keep_far ?_ GW184.out _ | refine keep_far ?_ GW194.out _) | exact HK.out)) (KeepBut.of_below hb g none) (.inl rfl))
               have n6_ := Aside0.mk (below_step (by repeat (first | (with_reducible first | exact HB.out | apply below_alloc | apply pw_below_drewN | apply below_drew1 | refine below_set ?_ (IsS56.ge HI0.out) | refine below_set ?_ GE184.out | refine below_set ?_ GE194.out) | exact HB.out)) hb)
               clear HO_5
               clear HI0
               clear BK184
               clear BK194
               clear HK
               clear HB
               have HO_5 := n0_
               have HO189 := n1_
               have HI0 := n2_
               have BK184 := n3_
               have BK194 := n4_
               have HK := n5_
               have HB := n6_
               clear n0_ n1_ n2_ n3_ n4_ n5_ n6_
               clear hb ho33
               refine hK.out _ _ ⟨(blk_cell BK184.out 0).trans rfl, (blk_cell BK184.out 1).trans rfl⟩ (fun hHeld => ?_)
               clear hK K
               refine norm_ (a' := ?_) ?_ ?_
               rotate_left
               ·
                show Act.put _ (some 32) _ = _
                simp only [Act.put, List.setIfInBounds_toArray, List.set_cons_zero, List.set_cons_succ, i64_w, i32_w]
                rfl
               exact norm_ (by first | (simp only [putAll, Act.put, List.setIfInBounds_toArray, List.set_cons_zero, List.set_cons_succ]; done) | (simp only [putAll, Act.put, List.setIfInBounds_toArray, List.set_cons_zero, List.set_cons_succ]; rfl)) (hJ5_6_12 (v188, gb194) _ ⟨hHeld, (by (with_reducible repeat (first | apply Kd.R_alloc | apply Kd.R_drewN | apply Kd.R_drew)); exact HO189.out), (by (with_reducible repeat (first | apply Kd.R_alloc | apply Kd.R_drewN | apply Kd.R_drew)); exact HO_5.out), (by (with_reducible repeat (first | refine blk_drewN ?_ _ | refine blk_drew ?_ | refine blk_alloc ?_ _)); exact BK184.out), (by (with_reducible repeat (first | refine blk_drewN ?_ _ | refine blk_drew ?_ | refine blk_alloc ?_ _)); exact BK194.out), GW194.out, GE194.out, NB0_194.out, NB194_0.out, NB184_194.out, NB194_184.out, (by repeat (first | (with_reducible first | exact HI0.out | apply IsS56.alloc | apply IsS56.drewN | apply IsS56.drew | apply IsS56.set_1 | refine IsS56.far ?_ NB0_184.out _ | refine IsS56.far ?_ NB0_194.out _) | exact HI0.out)), (by repeat (first | (with_reducible first | exact HK.out | apply KeepBut.set_ | apply keep_drewN | apply keep_drew | apply keep_alloc | refine keep_far ?_ GW184.out _ | refine keep_far ?_ GW194.out _) | exact HK.out)), (by repeat (first | (with_reducible first | exact HB.out | apply below_alloc | apply pw_below_drewN | apply below_drew1 | refine below_set ?_ (IsS56.ge HI0.out) | refine below_set ?_ GE184.out | refine below_set ?_ GE194.out) | exact HB.out))⟩)
             ·
              skip
              rintro v188 w32 ⟨hS_, h0_, h1_, h2_, h3_, h4_, h5_⟩
              have n0_ : Aside0 (Kd.R (Kd.int .i64) 3 w32 w.heap.size (fun _ => True) v188 y187) := ⟨h0_⟩
              have n1_ : Aside0 (Kd.R k30 30 w32 w.heap.size (fun k_ => k_ ≠ gb184) (.slice (some ad183) x5_1.length co23) x5_1) := ⟨h1_⟩
              have n2_ : Aside0 (w32.heap[gb184]? = some (.cells #[.int .i64 ((rd_T30 x5_1 (ji13)).f0), .int .i64 ((rd_T30 x5_1 (ji13)).f1)] 30 (0, 0))) := ⟨h2_⟩
              have n3_ : Aside0 (IsS56 w0 w32 g s0_0 t186) := ⟨h3_⟩
              have n4_ : Aside0 (KeepBut w w32 g none) := ⟨h4_⟩
              have n5_ : Aside0 (Below w0.heap.size w0 w32) := ⟨h5_⟩
              clear HO_5
              clear BK184
              clear HI0
              clear HK
              clear HB
              clear h0_ h1_ h2_ h3_ h4_ h5_
              have HO189 := n0_
              have HO_5 := n1_
              have BK184 := n2_
              have HI0 := n3_
              have HK := n4_
              have HB := n5_
              clear n0_ n1_ n2_ n3_ n4_ n5_
              have hHeld : w32.cell? ⟨gb184, 0, none⟩ = some (.int .i64 ((rd_T30 x5_1 (ji13)).f0)) ∧ w32.cell? ⟨gb184, 1, none⟩ = some (.int .i64 ((rd_T30 x5_1 (ji13)).f1)) := hS_
              obtain ⟨Ao33, co33, eo33⟩ := Kd.R_slice HO189.out
              (first | subst eo33 | (injection eo33 with f1_ f2_ f3_; have f4_ := f1_.symm; have f5_ := f3_.symm; clear f1_ f2_ f3_; subst f4_; subst f5_))
              refine norm_ (a' := ?_) ?_ ?_
              rotate_left
              ·
               simp only [putAll, Act.put, List.setIfInBounds_toArray, List.set_cons_zero, List.set_cons_succ]
               rfl
              refine two_ (i := 7) (j := 12) (Ni := some 33) (Nj := some 8) #[true, true, true, true, true, true, true, true, false, true, false, false, false, false] #[true, true, true, true, true, true, true, false, false, true, false, false, true, false] rfl rfl rfl rfl (two_of HT_.out (by kernel_rfl)) (by decide) (by decide) (fun K hK => ?_) (fun K hK => ?_)
              ·
               skip
               refine goes_ Try.func30 (by kernel_rfl) rfl #[.pointer (some ⟨g, 0, none⟩), .slice Ao33 y187.length co33] (by rfl) rfl rfl (by (try simp only [List.map_toArray, List.map_cons, List.map_nil]); first | done | rfl | (simp only [List.length_drop, List.length_take]; rfl)) ?_
               with_reducible refine (paygen_Deck_Pick.calls g s0_0 t186 _ _ y187 t190 t191 w0 _ ?side1 ?side2 ?side3 ?side4 ?side5 A17.out).mono ?_
               (case side1 => repeat (first | (with_reducible first | exact HI0.out | apply IsS56.alloc | apply IsS56.drewN | apply IsS56.drew | apply IsS56.set_1 | refine IsS56.far ?_ NB0_184.out _) | exact HI0.out))
               (case side2 => repeat (first | (with_reducible first | exact HB.out | apply below_alloc | apply pw_below_drewN | apply below_drew1 | refine below_set ?_ (IsS56.ge HI0.out) | refine below_set ?_ GE184.out) | exact HB.out))
               (case side3 => repeat (first | exact (Kd.R_reads' HO189.out).2.2 | (with_reducible refine Kd.C_alloc ?_ _) | (with_reducible refine Kd.C_drewN ?_ _) | (with_reducible refine Kd.C_drew ?_)))
               (case side4 => exact (Kd.R_reads' HO189.out).2.1)
               (case side5 => exact far_slice (IsS56.own_ne HI0.out HO189.out (by decide)))
               rintro e w34 ⟨rfl, hi, hb, hk⟩
               refine ⟨_, rfl, ?_⟩
               have n0_ := Aside0.mk (Kd.R_mono (Kd.R_keep (IsS56.apart (show IsS56 w0 _ g s0_0 t186 from by repeat (first | (with_reducible first | exact HI0.out | apply IsS56.alloc | apply IsS56.drewN | apply IsS56.drew | apply IsS56.set_1 | refine IsS56.far ?_ NB0_184.out _) | exact HI0.out)) (by (with_reducible repeat (first | apply Kd.R_alloc | apply Kd.R_drewN | apply Kd.R_drew)); exact HO_5.out) (by decide)) hk (fun _ h => h.2)) (fun _ h => h.1))
               have n1_ := Aside0.mk (KeepBut.blk hk (g' := gb184) (o := .cells #[.int .i64 ((rd_T30 x5_1 (ji13)).f0), .int .i64 ((rd_T30 x5_1 (ji13)).f1)] 30 (0, 0)) (by (with_reducible repeat (first | refine blk_drewN ?_ _ | refine blk_drew ?_ | refine blk_alloc ?_ _)); exact BK184.out) NB184_0.out (by simp))
               have n2_ := Aside0.mk (Kd.R_mono (Kd.R_keep (IsS56.apart (show IsS56 w0 _ g s0_0 t186 from by repeat (first | (with_reducible first | exact HI0.out | apply IsS56.alloc | apply IsS56.drewN | apply IsS56.drew | apply IsS56.set_1 | refine IsS56.far ?_ NB0_184.out _) | exact HI0.out)) (by (with_reducible repeat (first | apply Kd.R_alloc | apply Kd.R_drewN | apply Kd.R_drew)); exact HO189.out) (by decide)) hk (fun _ h => h.2)) (fun _ h => h.1))
               have n3_ := Aside0.mk (KeepBut.trans (by repeat (first | (with_reducible first | exact HK.out | apply KeepBut.set_ | apply keep_drewN | apply keep_drew | apply keep_alloc | refine keep_far ?_ GW184.out _) | exact HK.out)) hk (.inl rfl))
               have n4_ := Aside0.mk (hb)
               have n5_ := Aside0.mk (hi)
               clear HO_5
               clear BK184
               clear HO189
               clear HK
               clear HB
               clear HI0
               have HO_5 := n0_
               have BK184 := n1_
               have HO189 := n2_
               have HK := n3_
               have HB := n4_
               have HI0 := n5_
               clear n0_ n1_ n2_ n3_ n4_ n5_
               (try clear hb)
               (try clear hb2)
               (try clear hk)
               (try clear hi)
               refine hK.out _ _ ⟨(blk_cell BK184.out 0).trans rfl, (blk_cell BK184.out 1).trans rfl⟩ (fun hHeld => ?_)
               clear hK K
               refine norm_ (a' := ?_) ?_ ?_
               rotate_left
               ·
                show Act.put _ (some 33) _ = _
                simp only [Act.put, List.setIfInBounds_toArray, List.set_cons_zero, List.set_cons_succ, i64_w, i32_w]
                rfl
               refine pure_ (i := 8) (N := some 34) (v := ?_) (a' := ?_) #[true, true, true, true, true, true, true, true, true, true, false, false, false, false] rfl rfl (any_of HT_.out (by kernel_rfl)) (fun _ _ _ h => h) (Or.inl ⟨by rfl, ?_⟩) ?_ ?_
               rotate_left
               ·
                intro w'
                go_simp
                with_reducible rfl
               rotate_left
               ·
                simp only [Act.put, List.setIfInBounds_toArray, List.set_cons_zero, List.set_cons_succ, i64_w, i32_w]
                rfl
               exact norm_ (by first | (simp only [putAll, Act.put, List.setIfInBounds_toArray, List.set_cons_zero, List.set_cons_succ]; done) | (simp only [putAll, Act.put, List.setIfInBounds_toArray, List.set_cons_zero, List.set_cons_succ]; rfl)) (hJ5_6_7 (.slice Ao33 y187.length co33) _ ⟨hHeld, (by (with_reducible repeat (first | apply Kd.R_alloc | apply Kd.R_drewN | apply Kd.R_drew)); exact HO189.out), (by (with_reducible repeat (first | apply Kd.R_alloc | apply Kd.R_drewN | apply Kd.R_drew)); exact HO_5.out), (by (with_reducible repeat (first | refine blk_drewN ?_ _ | refine blk_drew ?_ | refine blk_alloc ?_ _)); exact BK184.out), (by repeat (first | (with_reducible first | exact HI0.out | apply IsS56.alloc | apply IsS56.drewN | apply IsS56.drew | apply IsS56.set_1 | refine IsS56.far ?_ NB0_184.out _) | exact HI0.out)), (by repeat (first | (with_reducible first | exact HK.out | apply KeepBut.set_ | apply keep_drewN | apply keep_drew | apply keep_alloc | refine keep_far ?_ GW184.out _) | exact HK.out)), (by repeat (first | (with_reducible first | exact HB.out | apply below_alloc | apply pw_below_drewN | apply below_drew1 | refine below_set ?_ (IsS56.ge HI0.out) | refine below_set ?_ GE184.out) | exact HB.out))⟩)
              ·
               skip
               refine box_step ?hg (N := 8) ?hd (cs := #[.int .i64 0, .int .i64 0]) (t := 30) ?hr ?_; (case hd => rfl); (case hg => rfl); (case hr => first | (go_simp; done) | (go_simp; rfl))
               intro gb194 hg w33 hbox hb
               have n0_ := Aside0.mk (Kd.R_below (Kd.R_elderB (by (with_reducible repeat (first | apply Kd.R_alloc | apply Kd.R_drewN | apply Kd.R_drew)); exact HO_5.out) gb194 (Nat.le_of_eq hg.symm)) hb)
               have n1_ := Aside0.mk (Kd.R_below (by (with_reducible repeat (first | apply Kd.R_alloc | apply Kd.R_drewN | apply Kd.R_drew)); exact HO189.out) hb)
               have n2_ := Aside0.mk (IsS56.below (by repeat (first | (with_reducible first | exact HI0.out | apply IsS56.alloc | apply IsS56.drewN | apply IsS56.drew | apply IsS56.set_1 | refine IsS56.far ?_ NB0_184.out _) | exact HI0.out)) hb)
               have n3_ := Aside0.mk (blk_below (g := gb184) (o := .cells #[.int .i64 ((rd_T30 x5_1 (ji13)).f0), .int .i64 ((rd_T30 x5_1 (ji13)).f1)] 30 (0, 0)) (by (with_reducible repeat (first | refine blk_drewN ?_ _ | refine blk_drew ?_ | refine blk_alloc ?_ _)); exact BK184.out) hb)
               have n4_ := Aside0.mk (KeepBut.trans (by repeat (first | (with_reducible first | exact HK.out | apply KeepBut.set_ | apply keep_drewN | apply keep_drew | apply keep_alloc | refine keep_far ?_ GW184.out _) | exact HK.out)) (KeepBut.of_below hb g none) (.inl rfl))
               have n5_ := Aside0.mk (below_step (by repeat (first | (with_reducible first | exact HB.out | apply below_alloc | apply pw_below_drewN | apply below_drew1 | refine below_set ?_ (IsS56.ge HI0.out) | refine below_set ?_ GE184.out) | exact HB.out)) hb)
               have n6_ := Aside0.mk (hbox)
               have n7_ := Aside0.mk ((by rw [hg]; exact (keep_size (w := w) (g := g) (row := none) (by repeat (first | (with_reducible first | exact HK.out | apply KeepBut.set_ | apply keep_drewN | apply keep_drew | apply keep_alloc | refine keep_far ?_ GW184.out _) | exact HK.out))) : w.heap.size ≤ gb194))
               have n8_ := Aside0.mk ((Nat.le_trans HW0.out (by rw [hg]; exact (keep_size (w := w) (g := g) (row := none) (by repeat (first | (with_reducible first | exact HK.out | apply KeepBut.set_ | apply keep_drewN | apply keep_drew | apply keep_alloc | refine keep_far ?_ GW184.out _) | exact HK.out))) : w.heap.size ≤ gb194) : w0.heap.size ≤ gb194))
               have n9_ := Aside0.mk ((by rw [hg]; exact Nat.ne_of_lt (blk_lt (g := gb184) (o := .cells #[.int .i64 ((rd_T30 x5_1 (ji13)).f0), .int .i64 ((rd_T30 x5_1 (ji13)).f1)] 30 (0, 0)) (by (with_reducible repeat (first | refine blk_drewN ?_ _ | refine blk_drew ?_ | refine blk_alloc ?_ _)); exact BK184.out)) : gb184 ≠ gb194))
               have n10_ := Aside0.mk ((by rw [hg]; exact Nat.ne_of_gt (blk_lt (g := gb184) (o := .cells #[.int .i64 ((rd_T30 x5_1 (ji13)).f0), .int .i64 ((rd_T30 x5_1 (ji13)).f1)] 30 (0, 0)) (by (with_reducible repeat (first | refine blk_drewN ?_ _ | refine blk_drew ?_ | refine blk_alloc ?_ _)); exact BK184.out)) : gb194 ≠ gb184))
               have n11_ := Aside0.mk ((by rw [hg]; exact Nat.ne_of_lt (IsS56.lt (show IsS56 w0 _ g s0_0 t186 from by repeat (first | (with_reducible first | exact HI0.out | apply IsS56.alloc | apply IsS56.drewN | apply IsS56.drew | apply IsS56.set_1 | refine IsS56.far ?_ NB0_184.out _) | exact HI0.out))) : g ≠ gb194))
               have n12_ := Aside0.mk ((by rw [hg]; exact Nat.ne_of_gt (IsS56.lt (show IsS56 w0 _ g s0_0 t186 from by repeat (first | (with_reducible first | exact HI0.out | apply IsS56.alloc | apply IsS56.drewN | apply IsS56.drew | apply IsS56.set_1 | refine IsS56.far ?_ NB0_184.out _) | exact HI0.out))) : gb194 ≠ g))
               clear HO_5
               clear HO189
               clear HI0
               clear BK184
               clear HK
               clear HB
               have HO_5 := n0_
               have HO189 := n1_
               have HI0 := n2_
               have BK184 := n3_
               have HK := n4_
               have HB := n5_
               have BK194 := n6_
               have GW194 := n7_
               have GE194 := n8_
               have NB184_194 := n9_
               have NB194_184 := n10_
               have NB0_194 := n11_
               have NB194_0 := n12_
               clear n0_ n1_ n2_ n3_ n4_ n5_ n6_ n7_ n8_ n9_ n10_ n11_ n12_
               clear hb hbox hg
               refine hK.out _ _ ⟨(blk_cell BK184.out 0).trans rfl, (blk_cell BK184.out 1).trans rfl⟩ (fun hHeld => ?_)
               clear hK K
               refine norm_ (a' := ?_) ?_ ?_
               rotate_left
               ·
                show Act.put _ (some 8) _ = _
                simp only [Act.put, List.setIfInBounds_toArray, List.set_cons_zero, List.set_cons_succ, i64_w, i32_w]
                rfl
               exact norm_ (by first | (simp only [putAll, Act.put, List.setIfInBounds_toArray, List.set_cons_zero, List.set_cons_succ]; done) | (simp only [putAll, Act.put, List.setIfInBounds_toArray, List.set_cons_zero, List.set_cons_succ]; rfl)) (hJ5_6_12 (.slice Ao33 y187.length co33, gb194) _ ⟨hHeld, (by (with_reducible repeat (first | apply Kd.R_alloc | apply Kd.R_drewN | apply Kd.R_drew)); exact HO189.out), (by (with_reducible repeat (first | apply Kd.R_alloc | apply Kd.R_drewN | apply Kd.R_drew)); exact HO_5.out), (by (with_reducible repeat (first | refine blk_drewN ?_ _ | refine blk_drew ?_ | refine blk_alloc ?_ _)); exact BK184.out), (by (with_reducible repeat (first | refine blk_drewN ?_ _ | refine blk_drew ?_ | refine blk_alloc ?_ _)); exact BK194.out), GW194.out, GE194.out, NB0_194.out, NB194_0.out, NB184_194.out, NB194_184.out, (by repeat (first | (with_reducible first | exact HI0.out | apply IsS56.alloc | apply IsS56.drewN | apply IsS56.drew | apply IsS56.set_1 | refine IsS56.far ?_ NB0_184.out _ | refine IsS56.far ?_ NB0_194.out _) | exact HI0.out)), (by repeat (first | (with_reducible first | exact HK.out | apply KeepBut.set_ | apply keep_drewN | apply keep_drew | apply keep_alloc | refine keep_far ?_ GW184.out _ | refine keep_far ?_ GW194.out _) | exact HK.out)), (by repeat (first | (with_reducible first | exact HB.out | apply below_alloc | apply pw_below_drewN | apply below_drew1 | refine below_set ?_ (IsS56.ge HI0.out) | refine below_set ?_ GE184.out | refine below_set ?_ GE194.out) | exact HB.out))⟩)
            ·
             skip
             rintro ⟨v188, gb194⟩ w33 ⟨hS_, h0_, h1_, h2_, h3_, h4_, h5_, h6_, h7_, h8_, h9_, h10_, h11_, h12_⟩
             have n0_ : Aside0 (Kd.R (Kd.int .i64) 3 w33 w.heap.size (fun _ => True) v188 y187) := ⟨h0_⟩
             have n1_ : Aside0 (Kd.R k30 30 w33 w.heap.size (fun k_ => k_ ≠ gb184 ∧ k_ ≠ gb194) (.slice (some ad183) x5_1.length co23) x5_1) := ⟨h1_⟩
             have n2_ : Aside0 (w33.heap[gb184]? = some (.cells #[.int .i64 ((rd_T30 x5_1 (ji13)).f0), .int .i64 ((rd_T30 x5_1 (ji13)).f1)] 30 (0, 0))) := ⟨h2_⟩
             have n3_ : Aside0 (w33.heap[gb194]? = some (.cells #[.int .i64 0, .int .i64 0] 30 (0, 0))) := ⟨h3_⟩
             have n4_ : Aside0 (w.heap.size ≤ gb194) := ⟨h4_⟩
             have n5_ : Aside0 (w0.heap.size ≤ gb194) := ⟨h5_⟩
             have n6_ : Aside0 (g ≠ gb194) := ⟨h6_⟩
             have n7_ : Aside0 (gb194 ≠ g) := ⟨h7_⟩
             have n8_ : Aside0 (gb184 ≠ gb194) := ⟨h8_⟩
             have n9_ : Aside0 (gb194 ≠ gb184) := ⟨h9_⟩
             have n10_ : Aside0 (IsS56 w0 w33 g s0_0 t186) := ⟨h10_⟩
             have n11_ : Aside0 (KeepBut w w33 g none) := ⟨h11_⟩
             have n12_ : Aside0 (Below w0.heap.size w0 w33) := ⟨h12_⟩
             clear HO_5
             clear BK184
             clear HI0
             clear HK
             clear HB
             clear h0_ h1_ h2_ h3_ h4_ h5_ h6_ h7_ h8_ h9_ h10_ h11_ h12_
             have HO189 := n0_
             have HO_5 := n1_
             have BK184 := n2_
             have BK194 := n3_
             have GW194 := n4_
             have GE194 := n5_
             have NB0_194 := n6_
             have NB194_0 := n7_
             have NB184_194 := n8_
             have NB194_184 := n9_
             have HI0 := n10_
             have HK := n11_
             have HB := n12_
             clear n0_ n1_ n2_ n3_ n4_ n5_ n6_ n7_ n8_ n9_ n10_ n11_ n12_
             have hHeld : w33.cell? ⟨gb184, 0, none⟩ = some (.int .i64 ((rd_T30 x5_1 (ji13)).f0)) ∧ w33.cell? ⟨gb184, 1, none⟩ = some (.int .i64 ((rd_T30 x5_1 (ji13)).f1)) := hS_
             obtain ⟨Ao34, co34, eo34⟩ := Kd.R_slice HO189.out
             (first | subst eo34 | (injection eo34 with f1_ f2_ f3_; have f4_ := f1_.symm; have f5_ := f3_.symm; clear f1_ f2_ f3_; subst f4_; subst f5_))
             refine norm_ (a' := ?_) ?_ ?_
             rotate_left
             ·
              simp only [putAll, Act.put, List.setIfInBounds_toArray, List.set_cons_zero, List.set_cons_succ]
              rfl
             refine one_ (i := 7) (N := some 33) #[true, true, true, true, true, true, true, true, false, true, false, false, true, false] rfl rfl (one_of HT_.out (by kernel_rfl)) (by decide) (fun K hK => ?_)
             refine goes_ Try.func30 (by kernel_rfl) rfl #[.pointer (some ⟨g, 0, none⟩), .slice Ao34 y187.length co34] (by rfl) rfl rfl (by (try simp only [List.map_toArray, List.map_cons, List.map_nil]); first | done | rfl | (simp only [List.length_drop, List.length_take]; rfl)) ?_
             with_reducible refine (paygen_Deck_Pick.calls g s0_0 t186 _ _ y187 t190 t191 w0 _ ?side1 ?side2 ?side3 ?side4 ?side5 A17.out).mono ?_
             (case side1 => repeat (first | (with_reducible first | exact HI0.out | apply IsS56.alloc | apply IsS56.drewN | apply IsS56.drew | apply IsS56.set_1 | refine IsS56.far ?_ NB0_184.out _ | refine IsS56.far ?_ NB0_194.out _) | exact HI0.out))
             (case side2 => repeat (first | (with_reducible first | exact HB.out | apply below_alloc | apply pw_below_drewN | apply below_drew1 | refine below_set ?_ (IsS56.ge HI0.out) | refine below_set ?_ GE184.out | refine below_set ?_ GE194.out) | exact HB.out))
             (case side3 => repeat (first | exact (Kd.R_reads' HO189.out).2.2 | (with_reducible refine Kd.C_alloc ?_ _) | (with_reducible refine Kd.C_drewN ?_ _) | (with_reducible refine Kd.C_drew ?_)))
             (case side4 => exact (Kd.R_reads' HO189.out).2.1)
             (case side5 => exact far_slice (IsS56.own_ne HI0.out HO189.out (by decide)))
             rintro e w35 ⟨rfl, hi, hb, hk⟩
             refine ⟨_, rfl, ?_⟩
             have n0_ := Aside0.mk (Kd.R_mono (Kd.R_keep (IsS56.apart (show IsS56 w0 _ g s0_0 t186 from by repeat (first | (with_reducible first | exact HI0.out | apply IsS56.alloc | apply IsS56.drewN | apply IsS56.drew | apply IsS56.set_1 | refine IsS56.far ?_ NB0_184.out _ | refine IsS56.far ?_ NB0_194.out _) | exact HI0.out)) (by (with_reducible repeat (first | apply Kd.R_alloc | apply Kd.R_drewN | apply Kd.R_drew)); exact HO_5.out) (by decide)) hk (fun _ h => h.2)) (fun _ h => h.1))
             have n1_ := Aside0.mk (KeepBut.blk hk (g' := gb184) (o := .cells #[.int .i64 ((rd_T30 x5_1 (ji13)).f0), .int .i64 ((rd_T30 x5_1 (ji13)).f1)] 30 (0, 0)) (by (with_reducible repeat (first | refine blk_drewN ?_ _ | refine blk_drew ?_ | refine blk_alloc ?_ _)); exact BK184.out) NB184_0.out (by simp))
             have n2_ := Aside0.mk (Kd.R_mono (Kd.R_keep (IsS56.apart (show IsS56 w0 _ g s0_0 t186 from by repeat (first | (with_reducible first | exact HI0.out | apply IsS56.alloc | apply IsS56.drewN | apply IsS56.drew | apply IsS56.set_1 | refine IsS56.far ?_ NB0_184.out _ | refine IsS56.far ?_ NB0_194.out _) | exact HI0.out)) (by (with_reducible repeat (first | apply Kd.R_alloc | apply Kd.R_drewN | apply Kd.R_drew)); exact HO189.out) (by decide)) hk (fun _ h => h.2)) (fun _ h => h.1))
             have n3_ := Aside0.mk (KeepBut.blk hk (g' := gb194) (o := .cells #[.int .i64 0, .int .i64 0] 30 (0, 0)) (by (with_reducible repeat (first | refine blk_drewN ?_ _ | refine blk_drew ?_ | refine blk_alloc ?_ _)); exact BK194.out) NB194_0.out (by simp))
             have n4_ := Aside0.mk (KeepBut.trans (by repeat (first | (with_reducible first | exact HK.out | apply KeepBut.set_ | apply keep_drewN | apply keep_drew | apply keep_alloc | refine keep_far ?_ GW184.out _ | refine keep_far ?_ GW194.out _) | exact HK.out)) hk (.inl rfl))
             have n5_ := Aside0.mk (hb)
             have n6_ := Aside0.mk (hi)
             clear HO_5
             clear BK184
             clear HO189
             clear BK194
             clear HK
             clear HB
             clear HI0
             have HO_5 := n0_
             have BK184 := n1_
             have HO189 := n2_
             have BK194 := n3_
             have HK := n4_
             have HB := n5_
             have HI0 := n6_
             clear n0_ n1_ n2_ n3_ n4_ n5_ n6_
             (try clear hb)
             (try clear hb2)
             (try clear hk)
             (try clear hi)
             refine hK.out _ _ ⟨(blk_cell BK184.out 0).trans rfl, (blk_cell BK184.out 1).trans rfl⟩ (fun hHeld => ?_)
             clear hK K
             refine norm_ (a' := ?_) ?_ ?_
             rotate_left
             ·
              show Act.put _ (some 33) _ = _
              simp only [Act.put, List.setIfInBounds_toArray, List.set_cons_zero, List.set_cons_succ, i64_w, i32_w]
              rfl
             refine pure_ (i := 8) (N := some 34) (v := ?_) (a' := ?_) #[true, true, true, true, true, true, true, true, true, true, false, false, true, false] rfl rfl (any_of HT_.out (by kernel_rfl)) (fun _ _ _ h => h) (Or.inl ⟨by rfl, ?_⟩) ?_ ?_
             rotate_left
             ·
              intro w'
              go_simp
              with_reducible rfl
             rotate_left
             ·
              simp only [Act.put, List.setIfInBounds_toArray, List.set_cons_zero, List.set_cons_succ, i64_w, i32_w]
              rfl
             exact norm_ (by first | (simp only [putAll, Act.put, List.setIfInBounds_toArray, List.set_cons_zero, List.set_cons_succ]; done) | (simp only [putAll, Act.put, List.setIfInBounds_toArray, List.set_cons_zero, List.set_cons_succ]; rfl)) (hJ5_6_7_12 (.slice Ao34 y187.length co34, gb194) _ ⟨hHeld, (by (with_reducible repeat (first | apply Kd.R_alloc | apply Kd.R_drewN | apply Kd.R_drew)); exact HO189.out), (by (with_reducible repeat (first | apply Kd.R_alloc | apply Kd.R_drewN | apply Kd.R_drew)); exact HO_5.out), (by (with_reducible repeat (first | refine blk_drewN ?_ _ | refine blk_drew ?_ | refine blk_alloc ?_ _)); exact BK184.out), (by (with_reducible repeat (first | refine blk_drewN ?_ _ | refine blk_drew ?_ | refine blk_alloc ?_ _)); exact BK194.out), GW194.out, GE194.out, NB0_194.out, NB194_0.out, NB184_194.out, NB194_184.out, (by repeat (first | (with_reducible first | exact HI0.out | apply IsS56.alloc | apply IsS56.drewN | apply IsS56.drew | apply IsS56.set_1 | refine IsS56.far ?_ NB0_184.out _ | refine IsS56.far ?_ NB0_194.out _) | exact HI0.out)), (by repeat (first | (with_reducible first | exact HK.out | apply KeepBut.set_ | apply keep_drewN | apply keep_drew | apply keep_alloc | refine keep_far ?_ GW184.out _ | refine keep_far ?_ GW194.out _) | exact HK.out)), (by repeat (first | (with_reducible first | exact HB.out | apply below_alloc | apply pw_below_drewN | apply below_drew1 | refine below_set ?_ (IsS56.ge HI0.out) | refine below_set ?_ GE184.out | refine below_set ?_ GE194.out) | exact HB.out))⟩)
           ·
            skip
            rintro v188 w34 ⟨hS_, h0_, h1_, h2_, h3_, h4_, h5_⟩
            have n0_ : Aside0 (Kd.R (Kd.int .i64) 3 w34 w.heap.size (fun _ => True) v188 y187) := ⟨h0_⟩
            have n1_ : Aside0 (Kd.R k30 30 w34 w.heap.size (fun k_ => k_ ≠ gb184) (.slice (some ad183) x5_1.length co23) x5_1) := ⟨h1_⟩
            have n2_ : Aside0 (w34.heap[gb184]? = some (.cells #[.int .i64 ((rd_T30 x5_1 (ji13)).f0), .int .i64 ((rd_T30 x5_1 (ji13)).f1)] 30 (0, 0))) := ⟨h2_⟩
            have n3_ : Aside0 (IsS56 w0 w34 g s0_0 t191) := ⟨h3_⟩
            have n4_ : Aside0 (KeepBut w w34 g none) := ⟨h4_⟩
            have n5_ : Aside0 (Below w0.heap.size w0 w34) := ⟨h5_⟩
            clear HO_5
            clear BK184
            clear HI0
            clear HK
            clear HB
            clear h0_ h1_ h2_ h3_ h4_ h5_
            have HO189 := n0_
            have HO_5 := n1_
            have BK184 := n2_
            have HI0 := n3_
            have HK := n4_
            have HB := n5_
            clear n0_ n1_ n2_ n3_ n4_ n5_
            have hHeld : w34.cell? ⟨gb184, 0, none⟩ = some (.int .i64 ((rd_T30 x5_1 (ji13)).f0)) ∧ w34.cell? ⟨gb184, 1, none⟩ = some (.int .i64 ((rd_T30 x5_1 (ji13)).f1)) := hS_
            refine norm_ (a' := ?_) ?_ ?_
            rotate_left
            ·
             simp only [putAll, Act.put, List.setIfInBounds_toArray, List.set_cons_zero, List.set_cons_succ]
             rfl
            refine two_ (i := 10) (j := 12) (Ni := some 36) (Nj := some 8) #[true, true, true, true, true, true, true, true, true, true, true, false, false, false] #[true, true, true, true, true, true, true, true, true, true, false, false, true, false] rfl rfl rfl rfl (two_of HT_.out (by kernel_rfl)) (by decide) (by decide) (fun K hK => ?_) (fun K hK => ?_)
            ·
             skip
             refine goes_ Try.func38 (by kernel_rfl) rfl #[.pointer (some ⟨g, 0, none⟩)] (by rfl) rfl rfl (by (try simp only [List.map_toArray, List.map_cons, List.map_nil]); first | done | rfl | (simp only [List.length_drop, List.length_take]; rfl)) ?_
             with_reducible refine (paygen_Deck_Rate.calls g s0_0 t191 t192 t193 w0 _ ?side1 ?side2 A18.out).mono ?_
             (case side1 => repeat (first | (with_reducible first | exact HI0.out | apply IsS56.alloc | apply IsS56.drewN | apply IsS56.drew | apply IsS56.set_1 | refine IsS56.far ?_ NB0_184.out _) | exact HI0.out))
             (case side2 => repeat (first | (with_reducible first | exact HB.out | apply below_alloc | apply pw_below_drewN | apply below_drew1 | refine below_set ?_ (IsS56.ge HI0.out) | refine below_set ?_ GE184.out) | exact HB.out))
             rintro e w35 ⟨rfl, hi, hb, hk⟩
             refine ⟨_, rfl, ?_⟩
             have n0_ := Aside0.mk (Kd.R_mono (Kd.R_keep (IsS56.apart (show IsS56 w0 _ g s0_0 t191 from by repeat (first | (with_reducible first | exact HI0.out | apply IsS56.alloc | apply IsS56.drewN | apply IsS56.drew | apply IsS56.set_1 | refine IsS56.far ?_ NB0_184.out _) | exact HI0.out)) (by (with_reducible repeat (first | apply Kd.R_alloc | apply Kd.R_drewN | apply Kd.R_drew)); exact HO_5.out) (by decide)) hk (fun _ h => h.2)) (fun _ h => h.1))
             have n1_ := Aside0.mk (KeepBut.blk hk (g' := gb184) (o := .cells #[.int .i64 ((rd_T30 x5_1 (ji13)).f0), .int .i64 ((rd_T30 x5_1 (ji13)).f1)] 30 (0, 0)) (by (with_reducible repeat (first | refine blk_drewN ?_ _ | refine blk_drew ?_ | refine blk_alloc ?_ _)); exact BK184.out) NB184_0.out (by simp))
             have n2_ := Aside0.mk (Kd.R_mono (Kd.R_keep (IsS56.apart (show IsS56 w0 _ g s0_0 t191 from by repeat (first | (with_reducible first | exact HI0.out | apply IsS56.alloc | apply IsS56.drewN | apply IsS56.drew | apply IsS56.set_1 | refine IsS56.far ?_ NB0_184.out _) | exact HI0.out)) (by (with_reducible repeat (first | apply Kd.R_alloc | apply Kd.R_drewN | apply Kd.R_drew)); exact HO189.out) (by decide)) hk (fun _ h => h.2)) (fun _ h => h.1))
             have n3_ := Aside0.mk (KeepBut.trans (by repeat (first | (with_reducible first | exact HK.out | apply KeepBut.set_ | apply keep_drewN | apply keep_drew | apply keep_alloc | refine keep_far ?_ GW184.out _) | exact HK.out)) hk (.inl rfl))
             have n4_ := Aside0.mk (hb)
             have n5_ := Aside0.mk (hi)
             clear HO_5
             clear BK184
             clear HO189
             clear HK
             clear HB
             clear HI0
             have HO_5 := n0_
             have BK184 := n1_
             have HO189 := n2_
             have HK := n3_
             have HB := n4_
             have HI0 := n5_
             clear n0_ n1_ n2_ n3_ n4_ n5_
             (try clear hb)
             (try clear hb2)
             (try clear hk)
             (try clear hi)
             refine hK.out _ _ ⟨(blk_cell BK184.out 0).trans rfl, (blk_cell BK184.out 1).trans rfl⟩ (fun hHeld => ?_)
             clear hK K
             refine norm_ (a' := ?_) ?_ ?_
             rotate_left
             ·
              show Act.put _ (some 36) _ = _
              simp only [Act.put, List.setIfInBounds_toArray, List.set_cons_zero, List.set_cons_succ, i64_w, i32_w]
              rfl
             refine pure_ (i := 11) (N := some 37) (v := ?_) (a' := ?_) #[true, true, true, true, true, true, true, true, true, true, true, true, false, false] rfl rfl (any_of HT_.out (by kernel_rfl)) (fun _ _ _ h => h) (Or.inl ⟨by rfl, ?_⟩) ?_ ?_
             rotate_left
             ·
              intro w'
              go_simp
              with_reducible rfl
             rotate_left
             ·
              simp only [Act.put, List.setIfInBounds_toArray, List.set_cons_zero, List.set_cons_succ, i64_w, i32_w]
              rfl
             exact norm_ (by first | (simp only [putAll, Act.put, List.setIfInBounds_toArray, List.set_cons_zero, List.set_cons_succ]; done) | (simp only [putAll, Act.put, List.setIfInBounds_toArray, List.set_cons_zero, List.set_cons_succ]; rfl)) (hJ5_6_7_10 (v188) _ ⟨hHeld, (by (with_reducible repeat (first | apply Kd.R_alloc | apply Kd.R_drewN | apply Kd.R_drew)); exact HO189.out), (by (with_reducible repeat (first | apply Kd.R_alloc | apply Kd.R_drewN | apply Kd.R_drew)); exact HO_5.out), (by (with_reducible repeat (first | refine blk_drewN ?_ _ | refine blk_drew ?_ | refine blk_alloc ?_ _)); exact BK184.out), (by repeat (first | (with_reducible first | exact HI0.out | apply IsS56.alloc | apply IsS56.drewN | apply IsS56.drew | apply IsS56.set_1 | refine IsS56.far ?_ NB0_184.out _) | exact HI0.out)), (by repeat (first | (with_reducible first | exact HK.out | apply KeepBut.set_ | apply keep_drewN | apply keep_drew | apply keep_alloc | refine keep_far ?_ GW184.out _) | exact HK.out)), (by repeat (first | (with_reducible first | exact HB.out | apply below_alloc | apply pw_below_drewN | apply below_drew1 | refine below_set ?_ (IsS56.ge HI0.out) | refine below_set ?_ GE184.out) | exact HB.out))⟩)
            ·
             skip
             refine box_step ?hg (N := 8) ?hd (cs := #[.int .i64 0, .int .i64 0]) (t := 30) ?hr ?_; (case hd => rfl); (case hg => rfl); (case hr => first | (go_simp; done) | (go_simp; rfl))
             intro gb194 hg w35 hbox hb
             have n0_ := Aside0.mk (Kd.R_below (Kd.R_elderB (by (with_reducible repeat (first | apply Kd.R_alloc | apply Kd.R_drewN | apply Kd.R_drew)); exact HO_5.out) gb194 (Nat.le_of_eq hg.symm)) hb)
             have n1_ := Aside0.mk (Kd.R_below (by (with_reducible repeat (first | apply Kd.R_alloc | apply Kd.R_drewN | apply Kd.R_drew)); exact HO189.out) hb)
             have n2_ := Aside0.mk (IsS56.below (by repeat (first | (with_reducible first | exact HI0.out | apply IsS56.alloc | apply IsS56.drewN | apply IsS56.drew | apply IsS56.set_1 | refine IsS56.far ?_ NB0_184.out _) | exact HI0.out)) hb)
             have n3_ := Aside0.mk (blk_below (g := gb184) (o := .cells #[.int .i64 ((rd_T30 x5_1 (ji13)).f0), .int .i64 ((rd_T30 x5_1 (ji13)).f1)] 30 (0, 0)) (by (with_reducible repeat (first | refine blk_drewN ?_ _ | refine blk_drew ?_ | refine blk_alloc ?_ _)); exact BK184.out) hb)
             have n4_ := Aside0.mk (KeepBut.trans (by repeat (first | (with_reducible first | exact HK.out | apply KeepBut.set_ | apply keep_drewN | apply keep_drew | apply keep_alloc | refine keep_far ?_ GW184.out _) | exact HK.out)) (KeepBut.of_below hb g none) (.inl rfl))
             have n5_ := Aside0.mk (below_step (by repeat (first | (with_reducible first | exact HB.out | apply below_alloc | apply pw_below_drewN | apply below_drew1 | refine below_set ?_ (IsS56.ge HI0.out) | refine below_set ?_ GE184.out) | exact HB.out)) hb)
             have n6_ := Aside0.mk (hbox)
             have n7_ := Aside0.mk ((by rw [hg]; exact (keep_size (w := w) (g := g) (row := none) (by repeat (first | (with_reducible first | exact HK.out | apply KeepBut.set_ | apply keep_drewN | apply keep_drew | apply keep_alloc | refine keep_far ?_ GW184.out _) | exact HK.out))) : w.heap.size ≤ gb194))
             have n8_ := Aside0.mk ((Nat.le_trans HW0.out (by rw [hg]; exact (keep_size (w := w) (g := g) (row := none) (by repeat (first | (with_reducible first | exact HK.out | apply KeepBut.set_ | apply keep_drewN | apply keep_drew | apply keep_alloc | refine keep_far ?_ GW184.out _) | exact HK.out))) : w.heap.size ≤ gb194) : w0.heap.size ≤ gb194))
             have n9_ := Aside0.mk ((by rw [hg]; exact Nat.ne_of_lt (blk_lt (g := gb184) (o := .cells #[.int .i64 ((rd_T30 x5_1 (ji13)).f0), .int .i64 ((rd_T30 x5_1 (ji13)).f1)] 30 (0, 0)) (by (with_reducible repeat (first | refine blk_drewN ?_ _ | refine blk_drew ?_ | refine blk_alloc ?_ _)); exact BK184.out)) : gb184 ≠ gb194))
             have n10_ := Aside0.mk ((by rw [hg]; exact Nat.ne_of_gt (blk_lt (g := gb184) (o := .cells #[.int .i64 ((rd_T30 x5_1 (ji13)).f0), .int .i64 ((rd_T30 x5_1 (ji13)).f1)] 30 (0, 0)) (by (with_reducible repeat (first | refine blk_drewN ?_ _ | refine blk_drew ?_ | refine blk_alloc ?_ _)); exact BK184.out)) : gb194 ≠ gb184))
             have n11_ := Aside0.mk ((by rw [hg]; exact Nat.ne_of_lt (IsS56.lt (show IsS56 w0 _ g s0_0 t191 from by repeat (first | (with_reducible first | exact HI0.out | apply IsS56.alloc | apply IsS56.drewN | apply IsS56.drew | apply IsS56.set_1 | refine IsS56.far ?_ NB0_184.out _) | exact HI0.out))) : g ≠ gb194))
             have n12_ := Aside0.mk ((by rw [hg]; exact Nat.ne_of_gt (IsS56.lt (show IsS56 w0 _ g s0_0 t191 from by repeat (first | (with_reducible first | exact HI0.out | apply IsS56.alloc | apply IsS56.drewN | apply IsS56.drew | apply IsS56.set_1 | refine IsS56.far ?_ NB0_184.out _) | exact HI0.out))) : gb194 ≠ g))
             clear HO_5
             clear HO189
             clear HI0
             clear BK184
             clear HK
             clear HB
             have HO_5 := n0_
             have HO189 := n1_
             have HI0 := n2_
             have BK184 := n3_
             have HK := n4_
             have HB := n5_
             have BK194 := n6_
             have GW194 := n7_
             have GE194 := n8_
             have NB184_194 := n9_
             have NB194_184 := n10_
             have NB0_194 := n11_
             have NB194_0 := n12_
             clear n0_ n1_ n2_ n3_ n4_ n5_ n6_ n7_ n8_ n9_ n10_ n11_ n12_
             clear hb hbox hg
             refine hK.out _ _ ⟨(blk_cell BK184.out 0).trans rfl, (blk_cell BK184.out 1).trans rfl⟩ (fun hHeld => ?_)
             clear hK K
             refine norm_ (a' := ?_) ?_ ?_
             rotate_left
             ·
              show Act.put _ (some 8) _ = _
              simp only [Act.put, List.setIfInBounds_toArray, List.set_cons_zero, List.set_cons_succ, i64_w, i32_w]
              rfl
             exact norm_ (by first | (simp only [putAll, Act.put, List.setIfInBounds_toArray, List.set_cons_zero, List.set_cons_succ]; done) | (simp only [putAll, Act.put, List.setIfInBounds_toArray, List.set_cons_zero, List.set_cons_succ]; rfl)) (hJ5_6_7_12 (v188, gb194) _ ⟨hHeld, (by (with_reducible repeat (first | apply Kd.R_alloc | apply Kd.R_drewN | apply Kd.R_drew)); exact HO189.out), (by (with_reducible repeat (first | apply Kd.R_alloc | apply Kd.R_drewN | apply Kd.R_drew)); exact HO_5.out), (by (with_reducible repeat (first | refine blk_drewN ?_ _ | refine blk_drew ?_ | refine blk_alloc ?_ _)); exact BK184.out), (by (with_reducible repeat (first | refine blk_drewN ?_ _ | refine blk_drew ?_ | refine blk_alloc ?_ _)); exact BK194.out), GW194.out, GE194.out, NB0_194.out, NB194_0.out, NB184_194.out, NB194_184.out, (by repeat (first | (with_reducible first | exact HI0.out | apply IsS56.alloc | apply IsS56.drewN | apply IsS56.drew | apply IsS56.set_1 | refine IsS56.far ?_ NB0_184.out _ | refine IsS56.far ?_ NB0_194.out _) | exact HI0.out)), (by repeat (first | (with_reducible first | exact HK.out | apply KeepBut.set_ | apply keep_drewN | apply keep_drew | apply keep_alloc | refine keep_far ?_ GW184.out _ | refine keep_far ?_ GW194.out _) | exact HK.out)), (by repeat (first | (with_reducible first | exact HB.out | apply below_alloc | apply pw_below_drewN | apply below_drew1 | refine below_set ?_ (IsS56.ge HI0.out) | refine below_set ?_ GE184.out | refine below_set ?_ GE194.out) | exact HB.out))⟩)
          ·
           skip
           rintro ⟨v188, gb194⟩ w35 ⟨hS_, h0_, h1_, h2_, h3_, h4_, h5_, h6_, h7_, h8_, h9_, h10_, h11_, h12_⟩
           have n0_ : Aside0 (Kd.R (Kd.int .i64) 3 w35 w.heap.size (fun _ => True) v188 y187) := ⟨h0_⟩
           have n1_ : Aside0 (Kd.R k30 30 w35 w.heap.size (fun k_ => k_ ≠ gb184 ∧ k_ ≠ gb194) (.slice (some ad183) x5_1.length co23) x5_1) := ⟨h1_⟩
           have n2_ : Aside0 (w35.heap[gb184]? = some (.cells #[.int .i64 ((rd_T30 x5_1 (ji13)).f0), .int .i64 ((rd_T30 x5_1 (ji13)).f1)] 30 (0, 0))) := ⟨h2_⟩
           have n3_ : Aside0 (w35.heap[gb194]? = some (.cells #[.int .i64 0, .int .i64 0] 30 (0, 0))) := ⟨h3_⟩
           have n4_ : Aside0 (w.heap.size ≤ gb194) := ⟨h4_⟩
           have n5_ : Aside0 (w0.heap.size ≤ gb194) := ⟨h5_⟩
           have n6_ : Aside0 (g ≠ gb194) := ⟨h6_⟩
           have n7_ : Aside0 (gb194 ≠ g) := ⟨h7_⟩
           have n8_ : Aside0 (gb184 ≠ gb194) := ⟨h8_⟩
           have n9_ : Aside0 (gb194 ≠ gb184) := ⟨h9_⟩
           have n10_ : Aside0 (IsS56 w0 w35 g s0_0 t191) := ⟨h10_⟩
           have n11_ : Aside0 (KeepBut w w35 g none) := ⟨h11_⟩
           have n12_ : Aside0 (Below w0.heap.size w0 w35) := ⟨h12_⟩
           clear HO_5
           clear BK184
           clear HI0
           clear HK
           clear HB
           clear h0_ h1_ h2_ h3_ h4_ h5_ h6_ h7_ h8_ h9_ h10_ h11_ h12_
           have HO189 := n0_
           have HO_5 := n1_
           have BK184 := n2_
           have BK194 := n3_
           have GW194 := n4_
           have GE194 := n5_
           have NB0_194 := n6_
           have NB194_0 := n7_
           have NB184_194 := n8_
           have NB194_184 := n9_
           have HI0 := n10_
           have HK := n11_
           have HB := n12_
           clear n0_ n1_ n2_ n3_ n4_ n5_ n6_ n7_ n8_ n9_ n10_ n11_ n12_
           have hHeld : w35.cell? ⟨gb184, 0, none⟩ = some (.int .i64 ((rd_T30 x5_1 (ji13)).f0)) ∧ w35.cell? ⟨gb184, 1, none⟩ = some (.int .i64 ((rd_T30 x5_1 (ji13)).f1)) := hS_
           refine norm_ (a' := ?_) ?_ ?_
           rotate_left
           ·
            simp only [putAll, Act.put, List.setIfInBounds_toArray, List.set_cons_zero, List.set_cons_succ]
            rfl
           refine one_ (i := 10) (N := some 36) #[true, true, true, true, true, true, true, true, true, true, true, false, true, false] rfl rfl (one_of HT_.out (by kernel_rfl)) (by decide) (fun K hK => ?_)
           refine goes_ Try.func38 (by kernel_rfl) rfl #[.pointer (some ⟨g, 0, none⟩)] (by rfl) rfl rfl (by (try simp only [List.map_toArray, List.map_cons, List.map_nil]); first | done | rfl | (simp only [List.length_drop, List.length_take]; rfl)) ?_
           with_reducible refine (paygen_Deck_Rate.calls g s0_0 t191 t192 t193 w0 _ ?side1 ?side2 A18.out).mono ?_
           (case side1 => repeat (first | (with_reducible first | exact HI0.out | apply IsS56.alloc | apply IsS56.drewN | apply IsS56.drew | apply IsS56.set_1 | refine IsS56.far ?_ NB0_184.out _ | refine IsS56.far ?_ NB0_194.out _) | exact HI0.out))
           (case side2 => repeat (first | (with_reducible first | exact HB.out | apply below_alloc | apply pw_below_drewN | apply below_drew1 | refine below_set ?_ (IsS56.ge HI0.out) | refine below_set ?_ GE184.out | refine below_set ?_ GE194.out) | exact HB.out))
           rintro e w36 ⟨rfl, hi, hb, hk⟩
           refine ⟨_, rfl, ?_⟩
           have n0_ := Aside0.mk (Kd.R_mono (Kd.R_keep (IsS56.apart (show IsS56 w0 _ g s0_0 t191 from by repeat (first | (with_reducible first | exact HI0.out | apply IsS56.alloc | apply IsS56.drewN | apply IsS56.drew | apply IsS56.set_1 | refine IsS56.far ?_ NB0_184.out _ | refine IsS56.far ?_ NB0_194.out _) | exact HI0.out)) (by (with_reducible repeat (first | apply Kd.R_alloc | apply Kd.R_drewN | apply Kd.R_drew)); exact HO_5.out) (by decide)) hk (fun _ h => h.2)) (fun _ h => h.1))
           have n1_ := Aside0.mk (KeepBut.blk hk (g' := gb184) (o := .cells #[.int .i64 ((rd_T30 x5_1 (ji13)).f0), .int .i64 ((rd_T30 x5_1 (ji13)).f1)] 30 (0, 0)) (by (with_reducible repeat (first | refine blk_drewN ?_ _ | refine blk_drew ?_ | refine blk_alloc ?_ _)); exact BK184.out) NB184_0.out (by simp))
           have n2_ := Aside0.mk (Kd.R_mono (Kd.R_keep (IsS56.apart (show IsS56 w0 _ g s0_0 t191 from by repeat (first | (with_reducible first | exact HI0.out | apply IsS56.alloc | apply IsS56.drewN | apply IsS56.drew | apply IsS56.set_1 | refine IsS56.far ?_ NB0_184.out _ | refine IsS56.far ?_ NB0_194.out _) | exact HI0.out)) (by (with_reducible repeat (first | apply Kd.R_alloc | apply Kd.R_drewN | apply Kd.R_drew)); exact HO189.out) (by decide)) hk (fun _ h => h.2)) (fun _ h => h.1))
           have n3_ := Aside0.mk (KeepBut.blk hk (g' := gb194) (o := .cells #[.int .i64 0, .int .i64 0] 30 (0, 0)) (by (with_reducible repeat (first | refine blk_drewN ?_ _ | refine blk_drew ?_ | refine blk_alloc ?_ _)); exact BK194.out) NB194_0.out (by simp))
           have n4_ := Aside0.mk (KeepBut.trans (by repeat (first | (with_reducible first | exact HK.out | apply KeepBut.set_ | apply keep_drewN | apply keep_drew | apply keep_alloc | refine keep_far ?_ GW184.out _ | refine keep_far ?_ GW194.out _) | exact HK.out)) hk (.inl rfl))
           have n5_ := Aside0.mk (hb)
           have n6_ := Aside0.mk (hi)
           clear HO_5
           clear BK184
           clear HO189
           clear BK194
           clear HK
           clear HB
           clear HI0
           have HO_5 := n0_
           have BK184 := n1_
           have HO189 := n2_
           have BK194 := n3_
           have HK := n4_
           have HB := n5_
           have HI0 := n6_
           clear n0_ n1_ n2_ n3_ n4_ n5_ n6_
           (try clear hb)
           (try clear hb2)
           (try clear hk)
           (try clear hi)
           refine hK.out _ _ ⟨(blk_cell BK184.out 0).trans rfl, (blk_cell BK184.out 1).trans rfl⟩ (fun hHeld => ?_)
           clear hK K
           refine norm_ (a' := ?_) ?_ ?_
           rotate_left
           ·
            show Act.put _ (some 36) _ = _
            simp only [Act.put, List.setIfInBounds_toArray, List.set_cons_zero, List.set_cons_succ, i64_w, i32_w]
            rfl
           refine pure_ (i := 11) (N := some 37) (v := ?_) (a' := ?_) #[true, true, true, true, true, true, true, true, true, true, true, true, true, false] rfl rfl (any_of HT_.out (by kernel_rfl)) (fun _ _ _ h => h) (Or.inl ⟨by rfl, ?_⟩) ?_ ?_
           rotate_left
           ·
            intro w'
            go_simp
            with_reducible rfl
           rotate_left
           ·
            simp only [Act.put, List.setIfInBounds_toArray, List.set_cons_zero, List.set_cons_succ, i64_w, i32_w]
            rfl
           exact norm_ (by first | (simp only [putAll, Act.put, List.setIfInBounds_toArray, List.set_cons_zero, List.set_cons_succ]; done) | (simp only [putAll, Act.put, List.setIfInBounds_toArray, List.set_cons_zero, List.set_cons_succ]; rfl)) (hJ5_6_7_10_12 (v188, gb194) _ ⟨hHeld, (by (with_reducible repeat (first | apply Kd.R_alloc | apply Kd.R_drewN | apply Kd.R_drew)); exact HO189.out), (by (with_reducible repeat (first | apply Kd.R_alloc | apply Kd.R_drewN | apply Kd.R_drew)); exact HO_5.out), (by (with_reducible repeat (first | refine blk_drewN ?_ _ | refine blk_drew ?_ | refine blk_alloc ?_ _)); exact BK184.out), (by (with_reducible repeat (first | refine blk_drewN ?_ _ | refine blk_drew ?_ | refine blk_alloc ?_ _)); exact BK194.out), GW194.out, GE194.out, NB0_194.out, NB194_0.out, NB184_194.out, NB194_184.out, (by repeat (first | (with_reducible first | exact HI0.out | apply IsS56.alloc | apply IsS56.drewN | apply IsS56.drew | apply IsS56.set_1 | refine IsS56.far ?_ NB0_184.out _ | refine IsS56.far ?_ NB0_194.out _) | exact HI0.out)), (by repeat (first | (with_reducible first | exact HK.out | apply KeepBut.set_ | apply keep_drewN | apply keep_drew | apply keep_alloc | refine keep_far ?_ GW184.out _ | refine keep_far ?_ GW194.out _) | exact HK.out)), (by repeat (first | (with_reducible first | exact HB.out | apply below_alloc | apply pw_below_drewN | apply below_drew1 | refine below_set ?_ (IsS56.ge HI0.out) | refine below_set ?_ GE184.out | refine below_set ?_ GE194.out) | exact HB.out))⟩)
         ·
          skip
          rintro v188 w35 ⟨hS_, h0_, h1_, h2_, h3_, h4_, h5_⟩
          have n0_ : Aside0 (Kd.R (Kd.int .i64) 3 w35 w.heap.size (fun _ => True) v188 y187) := ⟨h0_⟩
          have n1_ : Aside0 (Kd.R k30 30 w35 w.heap.size (fun k_ => k_ ≠ gb184) (.slice (some ad183) x5_1.length co23) x5_1) := ⟨h1_⟩
          have n2_ : Aside0 (w35.heap[gb184]? = some (.cells #[.int .i64 ((rd_T30 x5_1 (ji13)).f0), .int .i64 ((rd_T30 x5_1 (ji13)).f1)] 30 (0, 0))) := ⟨h2_⟩
          have n3_ : Aside0 (IsS56 w0 w35 g s0_0 t193) := ⟨h3_⟩
          have n4_ : Aside0 (KeepBut w w35 g none) := ⟨h4_⟩
          have n5_ : Aside0 (Below w0.heap.size w0 w35) := ⟨h5_⟩
          clear HO_5
          clear BK184
          clear HI0
          clear HK
          clear HB
          clear h0_ h1_ h2_ h3_ h4_ h5_
          have HO189 := n0_
          have HO_5 := n1_
          have BK184 := n2_
          have HI0 := n3_
          have HK := n4_
          have HB := n5_
          clear n0_ n1_ n2_ n3_ n4_ n5_
          have hHeld : w35.cell? ⟨gb184, 0, none⟩ = some (.int .i64 ((rd_T30 x5_1 (ji13)).f0)) ∧ w35.cell? ⟨gb184, 1, none⟩ = some (.int .i64 ((rd_T30 x5_1 (ji13)).f1)) := hS_
          refine norm_ (a' := ?_) ?_ ?_
          rotate_left
          ·
           simp only [putAll, Act.put, List.setIfInBounds_toArray, List.set_cons_zero, List.set_cons_succ]
           rfl
          refine one_ (i := 12) (N := some 8) #[true, true, true, true, true, true, true, true, true, true, true, true, true, false] rfl rfl (one_of HT_.out (by kernel_rfl)) (by decide) (fun K hK => ?_)
          refine box_step ?hg (N := 8) ?hd (cs := #[.int .i64 0, .int .i64 0]) (t := 30) ?hr ?_; (case hd => rfl); (case hg => rfl); (case hr => first | (go_simp; done) | (go_simp; rfl))
          intro gb194 hg w36 hbox hb
          have n0_ := Aside0.mk (Kd.R_below (Kd.R_elderB (by (with_reducible repeat (first | apply Kd.R_alloc | apply Kd.R_drewN | apply Kd.R_drew)); exact HO_5.out) gb194 (Nat.le_of_eq hg.symm)) hb)
          have n1_ := Aside0.mk (Kd.R_below (by (with_reducible repeat (first | apply Kd.R_alloc | apply Kd.R_drewN | apply Kd.R_drew)); exact HO189.out) hb)
          have n2_ := Aside0.mk (IsS56.below (by repeat (first | (with_reducible first | exact HI0.out | apply IsS56.alloc | apply IsS56.drewN | apply IsS56.drew | apply IsS56.set_1 | refine IsS56.far ?_ NB0_184.out _) | exact HI0.out)) hb)
          have n3_ := Aside0.mk (blk_below (g := gb184) (o := .cells #[.int .i64 ((rd_T30 x5_1 (ji13)).f0), .int .i64 ((rd_T30 x5_1 (ji13)).f1)] 30 (0, 0)) (by (with_reducible repeat (first | refine blk_drewN ?_ _ | refine blk_drew ?_ | refine blk_alloc ?_ _)); exact BK184.out) hb)
          have n4_ := Aside0.mk (KeepBut.trans (by repeat (first | (with_reducible first | exact HK.out | apply KeepBut.set_ | apply keep_drewN | apply keep_drew | apply keep_alloc | refine keep_far ?_ GW184.out _) | exact HK.out)) (KeepBut.of_below hb g none) (.inl rfl))
          have n5_ := Aside0.mk (below_step (by repeat (first | (with_reducible first | exact HB.out | apply below_alloc | apply pw_below_drewN | apply below_drew1 | refine below_set ?_ (IsS56.ge HI0.out) | refine below_set ?_ GE184.out) | exact HB.out)) hb)
          have n6_ := Aside0.mk (hbox)
          have n7_ := Aside0.mk ((by rw [hg]; exact (keep_size (w := w) (g := g) (row := none) (by repeat (first | (with_reducible first | exact HK.out | apply KeepBut.set_ | apply keep_drewN | apply keep_drew | apply keep_alloc | refine keep_far ?_ GW184.out _) | exact HK.out))) : w.heap.size ≤ gb194))
          have n8_ := Aside0.mk ((Nat.le_trans HW0.out (by rw [hg]; exact (keep_size (w := w) (g := g) (row := none) (by repeat (first | (with_reducible first | exact HK.out | apply KeepBut.set_ | apply keep_drewN | apply keep_drew | apply keep_alloc | refine keep_far ?_ GW184.out _) | exact HK.out))) : w.heap.size ≤ gb194) : w0.heap.size ≤ gb194))
          have n9_ := Aside0.mk ((by rw [hg]; exact Nat.ne_of_lt (blk_lt (g := gb184) (o := .cells #[.int .i64 ((rd_T30 x5_1 (ji13)).f0), .int .i64 ((rd_T30 x5_1 (ji13)).f1)] 30 (0, 0)) (by (with_reducible repeat (first | refine blk_drewN ?_ _ | refine blk_drew ?_ | refine blk_alloc ?_ _)); exact BK184.out)) : gb184 ≠ gb194))
          have n10_ := Aside0.mk ((by rw [hg]; exact Nat.ne_of_gt (blk_lt (g := gb184) (o := .cells #[.int .i64 ((rd_T30 x5_1 (ji13)).f0), .int .i64 ((rd_T30 x5_1 (ji13)).f1)] 30 (0, 0)) (by (with_reducible repeat (first | refine blk_drewN ?_ _ | refine blk_drew ?_ | refine blk_alloc ?_ _)); exact BK184.out)) : gb194 ≠ gb184))
          have n11_ := Aside0.mk ((by rw [hg]; exact Nat.ne_of_lt (IsS56.lt (show IsS56 w0 _ g s0_0 t193 from by repeat (first | (with_reducible first | exact HI0.out | apply IsS56.alloc | apply IsS56.drewN | apply IsS56.drew | apply IsS56.set_1 | refine IsS56.far ?_ NB0_184.out _) | exact HI0.out))) : g ≠ gb194))
          have n12_ := Aside0.mk ((by rw [hg]; exact Nat.ne_of_gt (IsS56.lt (show IsS56 w0 _ g s0_0 t193 from by repeat (first | (with_reducible first | exact HI0.out | apply IsS56.alloc | apply IsS56.drewN | apply IsS56.drew | apply IsS56.set_1 | refine IsS56.far ?_ NB0_184.out _) | exact HI0.out))) : gb194 ≠ g))
          clear HO_5
          clear HO189
          clear HI0
          clear BK184
          clear HK
          clear HB
          have HO_5 := n0_
          have HO189 := n1_
          have HI0 := n2_
          have BK184 := n3_
          have HK := n4_
          have HB := n5_
          have BK194 := n6_
          have GW194 := n7_
          have GE194 := n8_
          have NB184_194 := n9_
          have NB194_184 := n10_
          have NB0_194 := n11_
          have NB194_0 := n12_
          clear n0_ n1_ n2_ n3_ n4_ n5_ n6_ n7_ n8_ n9_ n10_ n11_ n12_
          clear hb hbox hg
          refine hK.out _ _ ⟨(blk_cell BK184.out 0).trans rfl, (blk_cell BK184.out 1).trans rfl⟩ (fun hHeld => ?_)
          clear hK K
          refine norm_ (a' := ?_) ?_ ?_
          rotate_left
          ·
           show Act.put _ (some 8) _ = _
           simp only [Act.put, List.setIfInBounds_toArray, List.set_cons_zero, List.set_cons_succ, i64_w, i32_w]
           rfl
          exact norm_ (by first | (simp only [putAll, Act.put, List.setIfInBounds_toArray, List.set_cons_zero, List.set_cons_succ]; done) | (simp only [putAll, Act.put, List.setIfInBounds_toArray, List.set_cons_zero, List.set_cons_succ]; rfl)) (hJ5_6_7_10_12 (v188, gb194) _ ⟨hHeld, (by (with_reducible repeat (first | apply Kd.R_alloc | apply Kd.R_drewN | apply Kd.R_drew)); exact HO189.out), (by (with_reducible repeat (first | apply Kd.R_alloc | apply Kd.R_drewN | apply Kd.R_drew)); exact HO_5.out), (by (with_reducible repeat (first | refine blk_drewN ?_ _ | refine blk_drew ?_ | refine blk_alloc ?_ _)); exact BK184.out), (by (with_reducible repeat (first | refine blk_drewN ?_ _ | refine blk_drew ?_ | refine blk_alloc ?_ _)); exact BK194.out), GW194.out, GE194.out, NB0_194.out, NB194_0.out, NB184_194.out, NB194_184.out, (by repeat (first | (with_reducible first | exact HI0.out | apply IsS56.alloc | apply IsS56.drewN | apply IsS56.drew | apply IsS56.set_1 | refine IsS56.far ?_ NB0_184.out _ | refine IsS56.far ?_ NB0_194.out _) | exact HI0.out)), (by repeat (first | (with_reducible first | exact HK.out | apply KeepBut.set_ | apply keep_drewN | apply keep_drew | apply keep_alloc | refine keep_far ?_ GW184.out _ | refine keep_far ?_ GW194.out _) | exact HK.out)), (by repeat (first | (with_reducible first | exact HB.out | apply below_alloc | apply pw_below_drewN | apply below_drew1 | refine below_set ?_ (IsS56.ge HI0.out) | refine below_set ?_ GE184.out | refine below_set ?_ GE194.out) | exact HB.out))⟩)
        rintro ⟨v188, gb194⟩ w36 ⟨hS_, h0_, h1_, h2_, h3_, h4_, h5_, h6_, h7_, h8_, h9_, h10_, h11_, h12_⟩
        have n0_ : Aside0 (Kd.R (Kd.int .i64) 3 w36 w.heap.size (fun _ => True) v188 y187) := ⟨h0_⟩
        have n1_ : Aside0 (Kd.R k30 30 w36 w.heap.size (fun k_ => k_ ≠ gb184 ∧ k_ ≠ gb194) (.slice (some ad183) x5_1.length co23) x5_1) := ⟨h1_⟩
        have n2_ : Aside0 (w36.heap[gb184]? = some (.cells #[.int .i64 ((rd_T30 x5_1 (ji13)).f0), .int .i64 ((rd_T30 x5_1 (ji13)).f1)] 30 (0, 0))) := ⟨h2_⟩
        have n3_ : Aside0 (w36.heap[gb194]? = some (.cells #[.int .i64 0, .int .i64 0] 30 (0, 0))) := ⟨h3_⟩
        have n4_ : Aside0 (w.heap.size ≤ gb194) := ⟨h4_⟩
        have n5_ : Aside0 (w0.heap.size ≤ gb194) := ⟨h5_⟩
        have n6_ : Aside0 (g ≠ gb194) := ⟨h6_⟩
        have n7_ : Aside0 (gb194 ≠ g) := ⟨h7_⟩
        have n8_ : Aside0 (gb184 ≠ gb194) := ⟨h8_⟩
        have n9_ : Aside0 (gb194 ≠ gb184) := ⟨h9_⟩
        have n10_ : Aside0 (IsS56 w0 w36 g s0_0 t193) := ⟨h10_⟩
        have n11_ : Aside0 (KeepBut w w36 g none) := ⟨h11_⟩
        have n12_ : Aside0 (Below w0.heap.size w0 w36) := ⟨h12_⟩
        clear HO_5
        clear BK184
        clear HI0
        clear HK
        clear HB
        clear h0_ h1_ h2_ h3_ h4_ h5_ h6_ h7_ h8_ h9_ h10_ h11_ h12_
        have HO189 := n0_
        have HO_5 := n1_
        have BK184 := n2_
        have BK194 := n3_
        have GW194 := n4_
        have GE194 := n5_
        have NB0_194 := n6_
        have NB194_0 := n7_
        have NB184_194 := n8_
        have NB194_184 := n9_
        have HI0 := n10_
        have HK := n11_
        have HB := n12_
        clear n0_ n1_ n2_ n3_ n4_ n5_ n6_ n7_ n8_ n9_ n10_ n11_ n12_
        have hHeld : w36.cell? ⟨gb184, 0, none⟩ = some (.int .i64 ((rd_T30 x5_1 (ji13)).f0)) ∧ w36.cell? ⟨gb184, 1, none⟩ = some (.int .i64 ((rd_T30 x5_1 (ji13)).f1)) := hS_
        refine norm_ (a' := ?_) ?_ ?_
        rotate_left
        ·
         simp only [putAll, Act.put, List.setIfInBounds_toArray, List.set_cons_zero, List.set_cons_succ]
         rfl
        refine one_ (i := 13) (N := none) #[true, true, true, true, true, true, true, true, true, true, true, true, true, true] rfl rfl (one_of HT_.out (by kernel_rfl)) (by decide) (fun K hK => ?_)
        have hs37 : w36.cell? ⟨gb194, 0, none⟩ = some (.int .i64 0) := (blk_cell BK194.out 0).trans rfl
        have hfs37 := blk_frozen BK194.out 0
        have hns37_0 := NB184_194.out
        have hms37_0 := NB194_184.out
        have hs38 : w36.cell? ⟨gb194, 1, none⟩ = some (.int .i64 0) := (blk_cell BK194.out 1).trans rfl
        have hfs38 := blk_frozen BK194.out 1
        have hns38_0 := NB184_194.out
        have hms38_0 := NB194_184.out
        refine skip_ (w1 := ?_) (by rfl) rfl ?_ ?_
        rotate_left
        ·
         go_simp
         rfl
        refine hK.out _ _ ⟨((cell_far (p := ⟨gb194, _, none⟩) NB184_194.out _).trans (((cell_far (p := ⟨gb194, _, none⟩) NB184_194.out _).trans (hHeld.1)))), ((cell_far (p := ⟨gb194, _, none⟩) NB184_194.out _).trans (((cell_far (p := ⟨gb194, _, none⟩) NB184_194.out _).trans (hHeld.2))))⟩ (fun hHeld => ?_)
        clear hK K
        refine done_ (done_of HT_.out (by kernel_rfl)) ?_
        try go_wp2
        have n0_ : Aside0 (Kd.R k30 30 ((w36.setCell ⟨gb194, 0, none⟩ (.int .i64 (wrap64 ((wrap64 (((rd_T30 x5_1 (ji13)).f0) + 1)) + t190)))).setCell ⟨gb194, 1, none⟩ (.int .i64 t192)) w.heap.size (fun k_ => k_ ≠ gb184 ∧ k_ ≠ gb194) (.slice (some ad183) x5_1.length co23) x5_1) := ⟨by (with_reducible repeat (first | apply Kd.R_alloc | apply Kd.R_drewN | apply Kd.R_drew)); exact Kd.R_mono (Kd.R_far (p := ⟨gb194, 1, none⟩) (Kd.R_far (p := ⟨gb194, 0, none⟩) (Kd.R_mono HO_5.out (fun k_ hk => (⟨hk, hk.2⟩ : _ ∧ k_ ≠ gb194))) (fun _ hk => hk.2) (.int .i64 (wrap64 ((wrap64 (((rd_T30 x5_1 (ji13)).f0) + 1)) + t190)))) (fun _ hk => hk.2) (.int .i64 t192)) (fun _ hk => ⟨hk.1.1, hk.1.2⟩)⟩
        have n1_ : Aside0 (Kd.R (Kd.int .i64) 3 ((w36.setCell ⟨gb194, 0, none⟩ (.int .i64 (wrap64 ((wrap64 (((rd_T30 x5_1 (ji13)).f0) + 1)) + t190)))).setCell ⟨gb194, 1, none⟩ (.int .i64 t192)) w.heap.size (fun _ => True) v188 y187) := ⟨by (with_reducible repeat (first | apply Kd.R_alloc | apply Kd.R_drewN | apply Kd.R_drew)); exact Kd.R_mono (Kd.R_far (p := ⟨gb194, 1, none⟩) (Kd.R_far (p := ⟨gb194, 0, none⟩) (Kd.R_types HO189.out BK194.out (by decide)) (fun _ hk => hk.2) (.int .i64 (wrap64 ((wrap64 (((rd_T30 x5_1 (ji13)).f0) + 1)) + t190)))) (fun _ hk => hk.2) (.int .i64 t192)) (fun _ hk => trivial)⟩
        have n2_ : Aside0 (((w36.setCell ⟨gb194, 0, none⟩ (.int .i64 (wrap64 ((wrap64 (((rd_T30 x5_1 (ji13)).f0) + 1)) + t190)))).setCell ⟨gb194, 1, none⟩ (.int .i64 t192)).heap[gb184]? = some (.cells #[.int .i64 ((rd_T30 x5_1 (ji13)).f0), .int .i64 ((rd_T30 x5_1 (ji13)).f1)] 30 (0, 0))) := ⟨by (with_reducible repeat (first | refine blk_drewN ?_ _ | refine blk_drew ?_ | refine blk_alloc ?_ _)); refine blk_far ?_ NB184_194.out _; (with_reducible repeat (first | refine blk_drewN ?_ _ | refine blk_drew ?_ | refine blk_alloc ?_ _)); refine blk_far ?_ NB184_194.out _; (with_reducible repeat (first | refine blk_drewN ?_ _ | refine blk_drew ?_ | refine blk_alloc ?_ _)); exact BK184.out⟩
        have n3_ : Aside0 (((w36.setCell ⟨gb194, 0, none⟩ (.int .i64 (wrap64 ((wrap64 (((rd_T30 x5_1 (ji13)).f0) + 1)) + t190)))).setCell ⟨gb194, 1, none⟩ (.int .i64 t192)).heap[gb194]? = some (.cells #[.int .i64 (wrap64 ((wrap64 (((rd_T30 x5_1 (ji13)).f0) + 1)) + t190)), .int .i64 t192] 30 (0, 0))) := ⟨by (with_reducible repeat (first | refine blk_drewN ?_ _ | refine blk_drew ?_ | refine blk_alloc ?_ _)); refine blk_put (cs := #[.int .i64 (wrap64 ((wrap64 (((rd_T30 x5_1 (ji13)).f0) + 1)) + t190)), .int .i64 0]) ?_ 1 _ rfl; (with_reducible repeat (first | refine blk_drewN ?_ _ | refine blk_drew ?_ | refine blk_alloc ?_ _)); refine blk_put (cs := #[.int .i64 0, .int .i64 0]) ?_ 0 _ rfl; (with_reducible repeat (first | refine blk_drewN ?_ _ | refine blk_drew ?_ | refine blk_alloc ?_ _)); exact BK194.out⟩
        have n4_ : Aside0 (IsS56 w0 ((w36.setCell ⟨gb194, 0, none⟩ (.int .i64 (wrap64 ((wrap64 (((rd_T30 x5_1 (ji13)).f0) + 1)) + t190)))).setCell ⟨gb194, 1, none⟩ (.int .i64 t192)) g s0_0 t193) := ⟨by repeat (first | (with_reducible first | exact HI0.out | apply IsS56.alloc | apply IsS56.drewN | apply IsS56.drew | apply IsS56.set_1 | refine IsS56.far ?_ NB0_184.out _ | refine IsS56.far ?_ NB0_194.out _) | exact HI0.out)⟩
        have n5_ : Aside0 (KeepBut w ((w36.setCell ⟨gb194, 0, none⟩ (.int .i64 (wrap64 ((wrap64 (((rd_T30 x5_1 (ji13)).f0) + 1)) + t190)))).setCell ⟨gb194, 1, none⟩ (.int .i64 t192)) g none) := ⟨by repeat (first | (with_reducible first | exact HK.out | apply KeepBut.set_ | apply keep_drewN | apply keep_drew | apply keep_alloc | refine keep_far ?_ GW184.out _ | refine keep_far ?_ GW194.out _) | exact HK.out)⟩
        have n6_ : Aside0 (Below w0.heap.size w0 ((w36.setCell ⟨gb194, 0, none⟩ (.int .i64 (wrap64 ((wrap64 (((rd_T30 x5_1 (ji13)).f0) + 1)) + t190)))).setCell ⟨gb194, 1, none⟩ (.int .i64 t192))) := ⟨by repeat (first | (with_reducible first | exact HB.out | apply below_alloc | apply pw_below_drewN | apply below_drew1 | refine below_set ?_ (IsS56.ge HI0.out) | refine below_set ?_ GE184.out | refine below_set ?_ GE194.out) | exact HB.out)⟩
        (try clear HO_5)
        (try clear HO189)
        (try clear BK184)
        (try clear BK194)
        (try clear HI0)
        (try clear HK)
        (try clear HB)
        generalize ((w36.setCell ⟨gb194, 0, none⟩ (.int .i64 (wrap64 ((wrap64 (((rd_T30 x5_1 (ji13)).f0) + 1)) + t190)))).setCell ⟨gb194, 1, none⟩ (.int .i64 t192)) = w39 at n0_ n1_ n2_ n3_ n4_ n5_ n6_ ⊢
        have HO_5 := n0_
        have HO189 := n1_
        have BK184 := n2_
        have BK194 := n3_
        have HI0 := n4_
        have HK := n5_
        have HB := n6_
        clear n0_ n1_ n2_ n3_ n4_ n5_ n6_
        have n0_ := Aside0.mk (Kd.R_drew HO_5.out)
        have n1_ := Aside0.mk (Kd.R_drew HO189.out)
        have n2_ := Aside0.mk (blk_drew BK184.out)
        have n3_ := Aside0.mk (blk_drew BK194.out)
        have n4_ := Aside0.mk (IsS56.drew HI0.out)
        have n5_ := Aside0.mk (keep_drew HK.out)
        have n6_ := Aside0.mk (below_drew1 HB.out)
        clear HO_5
        clear HO189
        clear BK184
        clear BK194
        clear HI0
        clear HK
        clear HB
        have HO_5 := n0_
        have HO189 := n1_
        have BK184 := n2_
        have BK194 := n3_
        have HI0 := n4_
        have HK := n5_
        have HB := n6_
        clear n0_ n1_ n2_ n3_ n4_ n5_ n6_
        refine start_ (n := 9) (S := fun w' => w'.cell? ⟨gb184, 0, none⟩ = some (.int .i64 ((rd_T30 x5_1 (ji13)).f0)) ∧ w'.cell? ⟨gb184, 1, none⟩ = some (.int .i64 ((rd_T30 x5_1 (ji13)).f1))) (ds := []) #[false, false, false, false, false, false, false, false, false] (by kernel_rfl) rfl rfl ⟨(blk_cell BK184.out 0).trans rfl, (blk_cell BK184.out 1).trans rfl⟩ (fun hHeld => ?_); refine with_tabW paygen_Deck_Brackets.tab8 paygen_Deck_Brackets.bits8 (fun HT_ HW_ => ?_)
        generalize w39.drew = w40 at HO_5 HO189 BK184 BK194 HI0 HK HB hHeld ⊢
        refine pure_ (i := 0) (N := some 39) (v := ?_) (a' := ?_) #[true, false, false, false, false, false, false, false, false] rfl rfl (any_of HT_.out (by kernel_rfl)) (fun _ _ _ h => h) (Or.inl ⟨by rfl, ?_⟩) ?_ ?_
        rotate_left
        ·
         intro w'
         go_simp
         with_reducible rfl
        rotate_left
        ·
         simp only [Act.put, List.setIfInBounds_toArray, List.set_cons_zero, List.set_cons_succ, i64_w, i32_w]
         rfl
        refine pure_ (i := 2) (N := some 41) (v := ?_) (a' := ?_) #[true, false, true, false, false, false, false, false, false] rfl rfl (any_of HT_.out (by kernel_rfl)) (fun _ _ _ h => h) (Or.inl ⟨by rfl, ?_⟩) ?_ ?_
        rotate_left
        ·
         intro w'
         go_simp
         with_reducible rfl
        rotate_left
        ·
         simp only [Act.put, List.setIfInBounds_toArray, List.set_cons_zero, List.set_cons_succ, i64_w, i32_w]
         rfl
        refine take_ (i := 1) (N := some 40) (v := ?_) (a' := ?_) #[true, true, true, false, false, false, false, false, false] rfl rfl (take_ofW HT_.out HW_.out (by kernel_rfl)) (fun _ _ _ h => h) (Or.inl ⟨by rfl, ?_⟩) hHeld ?_ ?_
        rotate_left
        ·
         rintro w' ⟨s0, s1⟩
         go_simp
         with_reducible rfl
        rotate_left
        ·
         simp only [Act.put, List.setIfInBounds_toArray, List.set_cons_zero, List.set_cons_succ, i64_w, i32_w]
         rfl
        refine one_ (i := 3) (N := some 42) #[true, true, true, true, false, false, false, false, false] rfl rfl (one_of HT_.out (by kernel_rfl)) (by decide) (fun K hK => ?_)
        refine Kd.R_lit_step (Kd.int .i64) _ 3 ?hg (N := 42) ?hd (xs := ([0, 50000, 120000] : List Int)) (inner := [.int .i64 0, .int .i64 50000, .int .i64 120000]) (ok := fun _ => True) (okp := fun _ => True) ?hr ?hp (fun _ hk => hk) trivial (Below.refl _ _) (Nat.le_refl _) (by simp) ?_; (case hd => rfl); (case hg => rfl); (case hr => first | (go_simp; done) | (go_simp; rfl)); (case hp => exact (Reps.one (show Kd.M (Kd.int .i64) _ _ _ 0 [.int .i64 0] from rfl) (Reps.one (show Kd.M (Kd.int .i64) _ _ _ 50000 [.int .i64 50000] from rfl) (Reps.one (show Kd.M (Kd.int .i64) _ _ _ 120000 [.int .i64 120000] from rfl) (Reps.none _ _)))))
        intro v196 w41 ho42 hb hg_ hnew_
        clear hg_ hnew_
        (first | rw [← Ny195.out] at ho42 | (simp only [Int.reduceToNat] at ho42; rw [← Ny195.out] at ho42))
        have n0_ := Aside0.mk (Kd.R_below (by (with_reducible repeat (first | apply Kd.R_alloc | apply Kd.R_drewN | apply Kd.R_drew)); exact HO_5.out) hb)
        have n1_ := Aside0.mk (Kd.R_elder' (by (with_reducible repeat (first | apply Kd.R_alloc | apply Kd.R_drewN | apply Kd.R_drew)); exact HO189.out) (Kd.R_base ho42) hb)
        have n2_ := Aside0.mk (Kd.R_lower (Kd.R_new' ho42 (Kd.R_lt (by (with_reducible repeat (first | apply Kd.R_alloc | apply Kd.R_drewN | apply Kd.R_drew)); exact HO189.out))) (keep_size (w := w) (g := g) (row := none) (by repeat (first | (with_reducible first | exact HK.out | apply KeepBut.set_ | apply keep_drewN | apply keep_drew | apply keep_alloc | refine keep_far ?_ GW184.out _ | refine keep_far ?_ GW194.out _) | exact HK.out))))
        have n3_ := Aside0.mk (IsS56.below (by repeat (first | (with_reducible first | exact HI0.out | apply IsS56.alloc | apply IsS56.drewN | apply IsS56.drew | apply IsS56.set_1 | refine IsS56.far ?_ NB0_184.out _ | refine IsS56.far ?_ NB0_194.out _) | exact HI0.out)) hb)
        have n4_ := Aside0.mk (blk_below (g := gb184) (o := .cells #[.int .i64 ((rd_T30 x5_1 (ji13)).f0), .int .i64 ((rd_T30 x5_1 (ji13)).f1)] 30 (0, 0)) (by (with_reducible repeat (first | refine blk_drewN ?_ _ | refine blk_drew ?_ | refine blk_alloc ?_ _)); exact BK184.out) hb)
        have n5_ := Aside0.mk (blk_below (g := gb194) (o := .cells #[.int .i64 (wrap64 ((wrap64 (((rd_T30 x5_1 (ji13)).f0) + 1)) + t190)), .int .i64 t192] 30 (0, 0)) (by (with_reducible repeat (first | refine blk_drewN ?_ _ | refine blk_drew ?_ | refine blk_alloc ?_ _)); exact BK194.out) hb)
        have n6_ := Aside0.mk (KeepBut.trans (by repeat (first | (with_reducible first | exact HK.out | apply KeepBut.set_ | apply keep_drewN | apply keep_drew | apply keep_alloc | refine keep_far ?_ GW184.out _ | refine keep_far ?_ GW194.out _) | exact HK.out)) (KeepBut.of_below hb g none) (.inl rfl))
        have n7_ := Aside0.mk (below_step (by repeat (first | (with_reducible first | exact HB.out | apply below_alloc | apply pw_below_drewN | apply below_drew1 | refine below_set ?_ (IsS56.ge HI0.out) | refine below_set ?_ GE184.out | refine below_set ?_ GE194.out) | exact HB.out)) hb)
        clear HO_5
        clear HO189
        clear HI0
        clear BK184
        clear BK194
        clear HK
        clear HB
        have HO_5 := n0_
        have HO189 := n1_
        have HO197 := n2_
        have HI0 := n3_
        have BK184 := n4_
        have BK194 := n5_
        have HK := n6_
        have HB := n7_
        clear n0_ n1_ n2_ n3_ n4_ n5_ n6_ n7_
        clear hb ho42
        obtain ⟨Ao43, co43, eo43⟩ := Kd.R_slice HO197.out
        (first | subst eo43 | (injection eo43 with f1_ f2_ f3_; have f4_ := f1_.symm; have f5_ := f3_.symm; clear f1_ f2_ f3_; subst f4_; subst f5_))
        refine hK.out _ _ ⟨(blk_cell BK184.out 0).trans rfl, (blk_cell BK184.out 1).trans rfl⟩ (fun hHeld => ?_)
        clear hK K
        refine norm_ (a' := ?_) ?_ ?_
        rotate_left
        ·
         show Act.put _ (some 42) _ = _
         simp only [Act.put, List.setIfInBounds_toArray, List.set_cons_zero, List.set_cons_succ, i64_w, i32_w]
         rfl
        refine one_ (i := 4) (N := some 43) #[true, true, true, true, true, false, false, false, false] rfl rfl (one_of HT_.out (by kernel_rfl)) (by decide) (fun K hK => ?_)
        refine goes_ Try.func30 (by kernel_rfl) rfl #[.pointer (some ⟨g, 0, none⟩), .slice Ao43 y195.length co43] (by rfl) rfl rfl (by (try simp only [List.map_toArray, List.map_cons, List.map_nil]); first | done | rfl | (simp only [List.length_drop, List.length_take]; rfl)) ?_
        with_reducible refine (paygen_Deck_Pick.calls g s0_0 t193 _ _ y195 t198 t199 w0 _ ?side1 ?side2 ?side3 ?side4 ?side5 A20.out).mono ?_
        (case side1 => repeat (first | (with_reducible first | exact HI0.out | apply IsS56.alloc | apply IsS56.drewN | apply IsS56.drew | apply IsS56.set_1 | refine IsS56.far ?_ NB0_184.out _ | refine IsS56.far ?_ NB0_194.out _) | exact HI0.out))
        (case side2 => repeat (first | (with_reducible first | exact HB.out | apply below_alloc | apply pw_below_drewN | apply below_drew1 | refine below_set ?_ (IsS56.ge HI0.out) | refine below_set ?_ GE184.out | refine below_set ?_ GE194.out) | exact HB.out))
        (case side3 => repeat (first | exact (Kd.R_reads' HO197.out).2.2 | (with_reducible refine Kd.C_alloc ?_ _) | (with_reducible refine Kd.C_drewN ?_ _) | (with_reducible refine Kd.C_drew ?_)))
        (case side4 => exact (Kd.R_reads' HO197.out).2.1)
        (case side5 => exact far_slice (IsS56.own_ne HI0.out HO197.out (by decide)))
        rintro e w44 ⟨rfl, hi, hb, hk⟩
        refine ⟨_, rfl, ?_⟩
        have n0_ := Aside0.mk (Kd.R_mono (Kd.R_keep (IsS56.apart (show IsS56 w0 _ g s0_0 t193 from by repeat (first | (with_reducible first | exact HI0.out | apply IsS56.alloc | apply IsS56.drewN | apply IsS56.drew | apply IsS56.set_1 | refine IsS56.far ?_ NB0_184.out _ | refine IsS56.far ?_ NB0_194.out _) | exact HI0.out)) (by (with_reducible repeat (first | apply Kd.R_alloc | apply Kd.R_drewN | apply Kd.R_drew)); exact HO_5.out) (by decide)) hk (fun _ h => h.2)) (fun _ h => h.1))
        have n1_ := Aside0.mk (KeepBut.blk hk (g' := gb184) (o := .cells #[.int .i64 ((rd_T30 x5_1 (ji13)).f0), .int .i64 ((rd_T30 x5_1 (ji13)).f1)] 30 (0, 0)) (by (with_reducible repeat (first | refine blk_drewN ?_ _ | refine blk_drew ?_ | refine blk_alloc ?_ _)); exact BK184.out) NB184_0.out (by simp))
        have n2_ := Aside0.mk (Kd.R_mono (Kd.R_keep (IsS56.apart (show IsS56 w0 _ g s0_0 t193 from by repeat (first | (with_reducible first | exact HI0.out | apply IsS56.alloc | apply IsS56.drewN | apply IsS56.drew | apply IsS56.set_1 | refine IsS56.far ?_ NB0_184.out _ | refine IsS56.far ?_ NB0_194.out _) | exact HI0.out)) (by (with_reducible repeat (first | apply Kd.R_alloc | apply Kd.R_drewN | apply Kd.R_drew)); exact HO189.out) (by decide)) hk (fun _ h => h.2)) (fun _ h => h.1))
        have n3_ := Aside0.mk (KeepBut.blk hk (g' := gb194) (o := .cells #[.int .i64 (wrap64 ((wrap64 (((rd_T30 x5_1 (ji13)).f0) + 1)) + t190)), .int .i64 t192] 30 (0, 0)) (by (with_reducible repeat (first | refine blk_drewN ?_ _ | refine blk_drew ?_ | refine blk_alloc ?_ _)); exact BK194.out) NB194_0.out (by simp))
        have n4_ := Aside0.mk (Kd.R_mono (Kd.R_keep (IsS56.apart (show IsS56 w0 _ g s0_0 t193 from by repeat (first | (with_reducible first | exact HI0.out | apply IsS56.alloc | apply IsS56.drewN | apply IsS56.drew | apply IsS56.set_1 | refine IsS56.far ?_ NB0_184.out _ | refine IsS56.far ?_ NB0_194.out _) | exact HI0.out)) (by (with_reducible repeat (first | apply Kd.R_alloc | apply Kd.R_drewN | apply Kd.R_drew)); exact HO197.out) (by decide)) hk (fun _ h => h.2)) (fun _ h => h.1))
        have n5_ := Aside0.mk (KeepBut.trans (by repeat (first | (with_reducible first | exact HK.out | apply KeepBut.set_ | apply keep_drewN | apply keep_drew | apply keep_alloc | refine keep_far ?_ GW184.out _ | refine keep_far ?_ GW194.out _) | exact HK.out)) hk (.inl rfl))
        have n6_ := Aside0.mk (hb)
        have n7_ := Aside0.mk (hi)
        clear HO_5
        clear BK184
        clear HO189
        clear BK194
        clear HO197
        clear HK
        clear HB
        clear HI0
        have HO_5 := n0_
        have BK184 := n1_
        have HO189 := n2_
        have BK194 := n3_
        have HO197 := n4_
        have HK := n5_
        have HB := n6_
        have HI0 := n7_
        clear n0_ n1_ n2_ n3_ n4_ n5_ n6_ n7_
        (try clear hb)
        (try clear hb2)
        (try clear hk)
        (try clear hi)
        refine hK.out _ _ ⟨(blk_cell BK184.out 0).trans rfl, (blk_cell BK184.out 1).trans rfl⟩ (fun hHeld => ?_)
        clear hK K
        refine norm_ (a' := ?_) ?_ ?_
        rotate_left
        ·
         show Act.put _ (some 43) _ = _
         simp only [Act.put, List.setIfInBounds_toArray, List.set_cons_zero, List.set_cons_succ, i64_w, i32_w]
         rfl
        refine pure_ (i := 5) (N := some 44) (v := ?_) (a' := ?_) #[true, true, true, true, true, true, false, false, false] rfl rfl (any_of HT_.out (by kernel_rfl)) (fun _ _ _ h => h) (Or.inl ⟨by rfl, ?_⟩) ?_ ?_
        rotate_left
        ·
         intro w'
         go_simp
         with_reducible rfl
        rotate_left
        ·
         simp only [Act.put, List.setIfInBounds_toArray, List.set_cons_zero, List.set_cons_succ, i64_w, i32_w]
         rfl
        refine pure_ (i := 6) (N := some 45) (v := ?_) (a' := ?_) #[true, true, true, true, true, true, true, false, false] rfl rfl (any_of HT_.out (by kernel_rfl)) (fun _ _ _ h => h) (Or.inl ⟨by rfl, ?_⟩) ?_ ?_
        rotate_left
        ·
         intro w'
         go_simp
         with_reducible rfl
        rotate_left
        ·
         simp only [Act.put, List.setIfInBounds_toArray, List.set_cons_zero, List.set_cons_succ, i64_w, i32_w]
         rfl
        refine pure_ (i := 7) (N := some 46) (v := ?_) (a' := ?_) #[true, true, true, true, true, true, true, true, false] rfl rfl (any_of HT_.out (by kernel_rfl)) (fun _ _ _ h => h) (Or.inl ⟨by rfl, ?_⟩) ?_ ?_
        rotate_left
        ·
         intro w'
         go_simp
         with_reducible rfl
        rotate_left
        ·
         simp only [Act.put, List.setIfInBounds_toArray, List.set_cons_zero, List.set_cons_succ, i64_w, i32_w]
         rfl
        refine one_ (i := 8) (N := none) #[true, true, true, true, true, true, true, true, true] rfl rfl (one_of HT_.out (by kernel_rfl)) (by decide) (fun K hK => ?_)
        have hs45 : w44.cell? ⟨gb194, 1, none⟩ = some (.int .i64 t192) := (blk_cell BK194.out 1).trans rfl
        have hfs45 := blk_frozen BK194.out 1
        have hns45_0 := NB184_194.out
        have hms45_0 := NB194_184.out
        refine skip_ (w1 := ?_) (by rfl) rfl ?_ ?_
        rotate_left
        ·
         go_simp
         rfl
        refine hK.out _ _ ⟨((cell_far (p := ⟨gb194, _, none⟩) NB184_194.out _).trans (hHeld.1)), ((cell_far (p := ⟨gb194, _, none⟩) NB184_194.out _).trans (hHeld.2))⟩ (fun hHeld => ?_)
        clear hK K
        refine done_ (done_of HT_.out (by kernel_rfl)) ?_
        have hnb46 := NB194_184.out
        have hnc46 := NB184_194.out
        have hnb47 := NB194_0.out
        have hnc47 := NB0_194.out
        have hcz48_0 : w44.cell? ⟨gb194, 0, none⟩ = some (.int .i64 (wrap64 ((wrap64 (((rd_T30 x5_1 (ji13)).f0) + 1)) + t190))) := (blk_cell BK194.out 0).trans rfl
        have hcz48_1 : w44.cell? ⟨gb194, 1, none⟩ = some (.int .i64 t192) := (blk_cell BK194.out 1).trans rfl
        have hfz48_0 := blk_frozen BK194.out 0
        have hfz48_1 := blk_frozen BK194.out 1
        try go_wp2_with (first | ((with_reducible refine gate_builtin (b := .append) (xs := #[.tmp 47, .tmp 49]) rfl ?_); at_builtin; refine Kd.R_append k30 w.heap.size rfl (.tmp 47) (.tmp 49) 22 30 (.agg #[(.int .i64 0), (.int .i64 0)]) 16 rfl Try.underlying22 info30 rfl (by decide) (by omega) (.slice (some ad183) x5_1.length co23) x5_1 (⟨wrap64 ((wrap64 (((rd_T30 x5_1 (ji13)).f0) + 1)) + t190), ji21⟩ : S30) [.int .i64 (wrap64 ((wrap64 (((rd_T30 x5_1 (ji13)).f0) + 1)) + t190)), .int .i64 ji21] (fun k_ => k_ ≠ gb184 ∧ k_ ≠ gb194) (fun _ => False) rfl (by first | (go_simp; done) | (go_simp; rfl)) ?aP (fun _ hk => hk.elim) ?aF ?aO (Below.refl _ _) ?aS ?aL ?_; (case aP => exact k30_mkM _ _ _ (⟨wrap64 ((wrap64 (((rd_T30 x5_1 (ji13)).f0) + 1)) + t190), ji21⟩ : S30)); (case aF => exact (fun k_ hk => ⟨Kd.freshB (g := gb184) (o := .cells #[.int .i64 ((rd_T30 x5_1 (ji13)).f0), .int .i64 ((rd_T30 x5_1 (ji13)).f1)] 30 (0, 0)) (by (with_reducible repeat (first | refine blk_drewN ?_ _ | refine blk_drew ?_ | refine blk_alloc ?_ _)); refine blk_far ?_ NB184_194.out _; (with_reducible repeat (first | refine blk_drewN ?_ _ | refine blk_drew ?_ | refine blk_alloc ?_ _)); exact BK184.out) k_ hk, Kd.freshB (g := gb194) (o := .cells #[.int .i64 (wrap64 ((wrap64 (((rd_T30 x5_1 (ji13)).f0) + 1)) + t190)), .int .i64 ji21] 30 (0, 0)) (by (with_reducible repeat (first | refine blk_drewN ?_ _ | refine blk_drew ?_ | refine blk_alloc ?_ _)); refine blk_put (cs := #[.int .i64 (wrap64 ((wrap64 (((rd_T30 x5_1 (ji13)).f0) + 1)) + t190)), .int .i64 t192]) ?_ 1 _ rfl; (with_reducible repeat (first | refine blk_drewN ?_ _ | refine blk_drew ?_ | refine blk_alloc ?_ _)); exact BK194.out) k_ hk⟩)); (case aO => exact (by (with_reducible repeat (first | apply Kd.R_alloc | apply Kd.R_drewN | apply Kd.R_drew)); exact Kd.R_mono (Kd.R_far (p := ⟨gb194, 1, none⟩) (Kd.R_mono HO_5.out (fun k_ hk => (⟨hk, hk.2⟩ : _ ∧ k_ ≠ gb194))) (fun _ hk => hk.2) (.int .i64 ji21)) (fun _ hk => ⟨hk.1.1, hk.1.2⟩))); (case aS => exact (keep_size (w := w) (g := g) (row := none) (by repeat (first | (with_reducible first | exact HK.out | apply KeepBut.set_ | apply keep_drewN | apply keep_drew | apply keep_alloc | refine keep_far ?_ GW184.out _ | refine keep_far ?_ GW194.out _) | exact HK.out)))); (case aL => have := LMc22.out; omega); intro v201 w49 ho hb hg hat; rw [← Ny200.out] at ho; have n0_ : Aside0 (IsS56 w0 w49 g s0_0 t199) := ⟨IsS56.grown (by repeat (first | (with_reducible first | exact HI0.out | apply IsS56.alloc | apply IsS56.drewN | apply IsS56.drew | apply IsS56.set_1 | refine IsS56.far ?_ NB0_184.out _ | refine IsS56.far ?_ NB0_194.out _) | exact HI0.out)) hg (IsS56.own_ne HI0.out HO_5.out (by decide))⟩; have n1_ := Aside0.mk (blk_grown (g := gb184) (o := .cells #[.int .i64 ((rd_T30 x5_1 (ji13)).f0), .int .i64 ((rd_T30 x5_1 (ji13)).f1)] 30 (0, 0)) (by (with_reducible repeat (first | refine blk_drewN ?_ _ | refine blk_drew ?_ | refine blk_alloc ?_ _)); refine blk_far ?_ NB184_194.out _; (with_reducible repeat (first | refine blk_drewN ?_ _ | refine blk_drew ?_ | refine blk_alloc ?_ _)); exact BK184.out) hg (Kd.R_away HO_5.out (fun _ hk => hk.1))); have n3_ := Aside0.mk (blk_grown (g := gb194) (o := .cells #[.int .i64 (wrap64 ((wrap64 (((rd_T30 x5_1 (ji13)).f0) + 1)) + t190)), .int .i64 ji21] 30 (0, 0)) (by (with_reducible repeat (first | refine blk_drewN ?_ _ | refine blk_drew ?_ | refine blk_alloc ?_ _)); refine blk_put (cs := #[.int .i64 (wrap64 ((wrap64 (((rd_T30 x5_1 (ji13)).f0) + 1)) + t190)), .int .i64 t192]) ?_ 1 _ rfl; (with_reducible repeat (first | refine blk_drewN ?_ _ | refine blk_drew ?_ | refine blk_alloc ?_ _)); exact BK194.out) hg (Kd.R_away HO_5.out (fun _ hk => hk.2))); have n5_ := Aside0.mk (below_weaken (by repeat (first | (with_reducible first | exact HB.out | apply below_alloc | apply pw_below_drewN | apply below_drew1 | refine below_set ?_ (IsS56.ge HI0.out) | refine below_set ?_ GE184.out | refine below_set ?_ GE194.out) | exact HB.out)) HL.out hb); have n6_ := Aside0.mk (KeepBut.trans (by repeat (first | (with_reducible first | exact HK.out | apply KeepBut.set_ | apply keep_drewN | apply keep_drew | apply keep_alloc | refine keep_far ?_ GW184.out _ | refine keep_far ?_ GW194.out _) | exact HK.out)) (KeepBut.of_grown hg g) (Kd.R_base2 HO_5.out)); have n7_ := Aside0.mk (ho); clear HI0; clear BK184; clear HO189; clear BK194; clear HO197; clear HB; clear HK; clear HO_5; have HI0 := n0_; have BK184 := n1_; have BK194 := n3_; have HB := n5_; have HK := n6_; have HO202 := n7_; clear n0_ n1_ n3_ n5_ n6_ n7_; clear ho hb hg hat))
        go_roundg k1
        case measure => have := HK1.out; omega
        case rel => exact ⟨(y200), (wrap64 (x6_1 - 1)), (t199), (by first | rfl | (simp; done) | (simp [*]; done)), H', ⟨by have := HK1.out; omega⟩, ⟨by (with_reducible repeat (first | apply Kd.R_alloc | apply Kd.R_drewN | apply Kd.R_drew)); exact Kd.R_mono HO202.out (fun _ hk => trivial)⟩, ⟨by repeat (first | (with_reducible first | exact HI0.out | apply IsS56.alloc | apply IsS56.drewN | apply IsS56.drew | apply IsS56.set_1 | refine IsS56.far ?_ NB0_184.out _ | refine IsS56.far ?_ NB0_194.out _) | exact HI0.out)⟩, ⟨by repeat (first | (with_reducible first | exact HK.out | apply KeepBut.set_ | apply keep_drewN | apply keep_drew | apply keep_alloc | refine keep_far ?_ GW184.out _ | refine keep_far ?_ GW194.out _) | exact HK.out)⟩, ⟨by repeat (first | (with_reducible first | exact HB.out | apply below_alloc | apply pw_below_drewN | apply below_drew1 | refine below_set ?_ (IsS56.ge HI0.out) | refine below_set ?_ GE184.out | refine below_set ?_ GE194.out) | exact HB.out)⟩⟩
       ·
        rw [if_neg c22] at H
        exact absurd H (by simp)
      ·
       replace c19 := Bool.eq_false_iff.mpr c19
       subst c19
       have H1 : (if x5_1.length < 8796093022208 then (paygen_Deck_Brackets.l0 k1 false (x5_1 ++ [(⟨wrap64 ((wrap64 (((rd_T30 x5_1 (ji13)).f0) + 1)) + t190), t192⟩ : S30)]) (wrap64 (x6_1 - 1)) s0_0 t193) else (none)) = some (r1, r2) := by rw [if_neg (show ¬ (false = true) by decide)] at H; exact H
       clear H
       have H := H1
       clear H1
       by_cases c50 : x5_1.length < 8796093022208
       ·
        rw [if_pos c50] at H
        have LMc50 := Aside0.mk c50
        clear c50
        obtain ⟨y203, hy203⟩ : ∃ y_ : List (S30), y_ = (x5_1 ++ [(⟨wrap64 ((wrap64 (((rd_T30 x5_1 (ji13)).f0) + 1)) + t190), t192⟩ : S30)]) := ⟨_, rfl⟩
        replace H : (paygen_Deck_Brackets.l0 k1 false y203 (wrap64 (x6_1 - 1)) s0_0 t193) = some (r1, r2) := by first | (rw [hy203]; with_reducible exact H) | (have H2_ := (Option.bind_some _ _).symm.trans H; rw [hy203]; with_reducible exact H2_) | (have H2_ := (Option.bind_some _ _).symm.trans H; with_reducible exact H2_) | with_reducible exact H | (rw [hy203]; exact H) | exact H
        have Ny203 := Aside0.mk hy203
        clear hy203
        have H' := Aside0.mk H
        clear H
        obtain ⟨Ao51, co51, eo51⟩ := Kd.R_slice HO_5.out
        subst eo51
        have p183 : 0 ≤ ((ji13) : Int) := of_decide_eq_true (by first | (with_reducible assumption) | assumption)
        have q183 : (ji13) < (x5_1.length : Int) := of_decide_eq_true (by first | (with_reducible assumption) | assumption)
        obtain ⟨ad183, e183, hx183_0, hx183_1⟩ := at_T30 (Kd.R_reads' HO_5.out).2.2 (ji13) p183 q183
        cases e183
        replace p183 := eq_true p183
        replace q183 := eq_true q183
        try go_wp2_with (first | ((with_reducible refine gate_dst (N := 7) rfl ?_); refine box_event ?hg (N := 7) ?hd (cs := #[.int .i64 0, .int .i64 0]) (t := 30) ?hr ?_; (case hd => rfl); (case hg => rfl); (case hr => first | (go_simp; done) | (go_simp; rfl)); intro gb184 hg w52 hbox hb; have n0_ := Aside0.mk (Kd.R_below (Kd.R_elderB (by (with_reducible repeat (first | apply Kd.R_alloc | apply Kd.R_drewN | apply Kd.R_drew)); exact HO_5.out) gb184 (Nat.le_of_eq hg.symm)) hb); have n1_ := Aside0.mk (IsS56.below (by repeat (first | (with_reducible first | exact HI0.out | apply IsS56.alloc | apply IsS56.drewN | apply IsS56.drew | apply IsS56.set_1) | exact HI0.out)) hb); have n2_ := Aside0.mk (KeepBut.trans (by repeat (first | (with_reducible first | exact HK.out | apply KeepBut.set_ | apply keep_drewN | apply keep_drew | apply keep_alloc) | exact HK.out)) (KeepBut.of_below hb g none) (.inl rfl)); have n3_ := Aside0.mk (below_step (by repeat (first | (with_reducible first | exact HB.out | apply below_alloc | apply pw_below_drewN | apply below_drew1 | refine below_set ?_ (IsS56.ge HI0.out)) | exact HB.out)) hb); have n4_ := Aside0.mk (hbox); have n5_ := Aside0.mk ((by rw [hg]; exact (keep_size (w := w) (g := g) (row := none) (by repeat (first | (with_reducible first | exact HK.out | apply KeepBut.set_ | apply keep_drewN | apply keep_drew | apply keep_alloc) | exact HK.out))) : w.heap.size ≤ gb184)); have n6_ := Aside0.mk ((Nat.le_trans HW0.out (by rw [hg]; exact (keep_size (w := w) (g := g) (row := none) (by repeat (first | (with_reducible first | exact HK.out | apply KeepBut.set_ | apply keep_drewN | apply keep_drew | apply keep_alloc) | exact HK.out))) : w.heap.size ≤ gb184) : w0.heap.size ≤ gb184)); have n7_ := Aside0.mk ((by rw [hg]; exact Nat.ne_of_lt (IsS56.lt (show IsS56 w0 _ g s0_0 x1001_1 from by repeat (first | (with_reducible first | exact HI0.out | apply IsS56.alloc | apply IsS56.drewN | apply IsS56.drew | apply IsS56.set_1) | exact HI0.out))) : g ≠ gb184)); have n8_ := Aside0.mk ((by rw [hg]; exact Nat.ne_of_gt (IsS56.lt (show IsS56 w0 _ g s0_0 x1001_1 from by repeat (first | (with_reducible first | exact HI0.out | apply IsS56.alloc | apply IsS56.drewN | apply IsS56.drew | apply IsS56.set_1) | exact HI0.out))) : gb184 ≠ g)); clear HO_5; clear HI0; clear HK; clear HB; have HO_5 := n0_; have HI0 := n1_; have HK := n2_; have HB := n3_; have BK184 := n4_; have GW184 := n5_; have GE184 := n6_; have NB0_184 := n7_; have NB184_0 := n8_; clear n0_ n1_ n2_ n3_ n4_ n5_ n6_ n7_ n8_; clear hb hbox hg; have hnb53 := NB184_0.out; have hnc53 := NB0_184.out; have hcz54_0 : w52.cell? ⟨gb184, 0, none⟩ = some (.int .i64 0) := (blk_cell BK184.out 0).trans rfl; have hcz54_1 : w52.cell? ⟨gb184, 1, none⟩ = some (.int .i64 0) := (blk_cell BK184.out 1).trans rfl; have hfz54_0 := blk_frozen BK184.out 0; have hfz54_1 := blk_frozen BK184.out 1))
        have n0_ : Aside0 (Kd.R k30 30 ((w52.setCell ⟨gb184, 0, none⟩ (.int .i64 ((rd_T30 x5_1 (ji13)).f0))).setCell ⟨gb184, 1, none⟩ (.int .i64 ((rd_T30 x5_1 (ji13)).f1))) w.heap.size (fun k_ => k_ ≠ gb184) (.slice (some ad183) x5_1.length co51) x5_1) := ⟨by (with_reducible repeat (first | apply Kd.R_alloc | apply Kd.R_drewN | apply Kd.R_drew)); exact Kd.R_mono (Kd.R_far (p := ⟨gb184, 1, none⟩) (Kd.R_far (p := ⟨gb184, 0, none⟩) (Kd.R_mono HO_5.out (fun k_ hk => (⟨hk, hk.2⟩ : _ ∧ k_ ≠ gb184))) (fun _ hk => hk.2) (.int .i64 ((rd_T30 x5_1 (ji13)).f0))) (fun _ hk => hk.2) (.int .i64 ((rd_T30 x5_1 (ji13)).f1))) (fun _ hk => hk.1.2)⟩
        have n1_ : Aside0 (((w52.setCell ⟨gb184, 0, none⟩ (.int .i64 ((rd_T30 x5_1 (ji13)).f0))).setCell ⟨gb184, 1, none⟩ (.int .i64 ((rd_T30 x5_1 (ji13)).f1))).heap[gb184]? = some (.cells #[.int .i64 ((rd_T30 x5_1 (ji13)).f0), .int .i64 ((rd_T30 x5_1 (ji13)).f1)] 30 (0, 0))) := ⟨by (with_reducible repeat (first | refine blk_drewN ?_ _ | refine blk_drew ?_ | refine blk_alloc ?_ _)); refine blk_put (cs := #[.int .i64 ((rd_T30 x5_1 (ji13)).f0), .int .i64 0]) ?_ 1 _ rfl; (with_reducible repeat (first | refine blk_drewN ?_ _ | refine blk_drew ?_ | refine blk_alloc ?_ _)); refine blk_put (cs := #[.int .i64 0, .int .i64 0]) ?_ 0 _ rfl; (with_reducible repeat (first | refine blk_drewN ?_ _ | refine blk_drew ?_ | refine blk_alloc ?_ _)); exact BK184.out⟩
        have n2_ : Aside0 (IsS56 w0 ((w52.setCell ⟨gb184, 0, none⟩ (.int .i64 ((rd_T30 x5_1 (ji13)).f0))).setCell ⟨gb184, 1, none⟩ (.int .i64 ((rd_T30 x5_1 (ji13)).f1))) g s0_0 x1001_1) := ⟨by repeat (first | (with_reducible first | exact HI0.out | apply IsS56.alloc | apply IsS56.drewN | apply IsS56.drew | apply IsS56.set_1 | refine IsS56.far ?_ NB0_184.out _) | exact HI0.out)⟩
        have n3_ : Aside0 (KeepBut w ((w52.setCell ⟨gb184, 0, none⟩ (.int .i64 ((rd_T30 x5_1 (ji13)).f0))).setCell ⟨gb184, 1, none⟩ (.int .i64 ((rd_T30 x5_1 (ji13)).f1))) g none) := ⟨by repeat (first | (with_reducible first | exact HK.out | apply KeepBut.set_ | apply keep_drewN | apply keep_drew | apply keep_alloc | refine keep_far ?_ GW184.out _) | exact HK.out)⟩
        have n4_ : Aside0 (Below w0.heap.size w0 ((w52.setCell ⟨gb184, 0, none⟩ (.int .i64 ((rd_T30 x5_1 (ji13)).f0))).setCell ⟨gb184, 1, none⟩ (.int .i64 ((rd_T30 x5_1 (ji13)).f1)))) := ⟨by repeat (first | (with_reducible first | exact HB.out | apply below_alloc | apply pw_below_drewN | apply below_drew1 | refine below_set ?_ (IsS56.ge HI0.out) | refine below_set ?_ GE184.out) | exact HB.out)⟩
        (try clear HO_5)
        (try clear BK184)
        (try clear HI0)
        (try clear HK)
        (try clear HB)
        generalize ((w52.setCell ⟨gb184, 0, none⟩ (.int .i64 ((rd_T30 x5_1 (ji13)).f0))).setCell ⟨gb184, 1, none⟩ (.int .i64 ((rd_T30 x5_1 (ji13)).f1))) = w55 at n0_ n1_ n2_ n3_ n4_ ⊢
        have HO_5 := n0_
        have BK184 := n1_
        have HI0 := n2_
        have HK := n3_
        have HB := n4_
        clear n0_ n1_ n2_ n3_ n4_
        have n0_ := Aside0.mk (Kd.R_drew HO_5.out)
        have n1_ := Aside0.mk (blk_drew BK184.out)
        have n2_ := Aside0.mk (IsS56.drew HI0.out)
        have n3_ := Aside0.mk (keep_drew HK.out)
        have n4_ := Aside0.mk (below_drew1 HB.out)
        clear HO_5
        clear BK184
        clear HI0
        clear HK
        clear HB
        have HO_5 := n0_
        have BK184 := n1_
        have HI0 := n2_
        have HK := n3_
        have HB := n4_
        clear n0_ n1_ n2_ n3_ n4_
        refine start_ (n := 14) (S := fun w' => w'.cell? ⟨gb184, 0, none⟩ = some (.int .i64 ((rd_T30 x5_1 (ji13)).f0)) ∧ w'.cell? ⟨gb184, 1, none⟩ = some (.int .i64 ((rd_T30 x5_1 (ji13)).f1))) (ds := []) #[false, false, false, false, false, false, false, false, false, false, false, false, false, false] (by kernel_rfl) rfl rfl ⟨(blk_cell BK184.out 0).trans rfl, (blk_cell BK184.out 1).trans rfl⟩ (fun hHeld => ?_); refine with_tabW paygen_Deck_Brackets.tab6 paygen_Deck_Brackets.bits6 (fun HT_ HW_ => ?_)
        generalize w55.drew = w56 at HO_5 BK184 HI0 HK HB hHeld ⊢
        refine pure_ (i := 0) (N := some 26) (v := ?_) (a' := ?_) #[true, false, false, false, false, false, false, false, false, false, false, false, false, false] rfl rfl (any_of HT_.out (by kernel_rfl)) (fun _ _ _ h => h) (Or.inl ⟨by rfl, ?_⟩) ?_ ?_
        rotate_left
        ·
         intro w'
         go_simp
         with_reducible rfl
        rotate_left
        ·
         simp only [Act.put, List.setIfInBounds_toArray, List.set_cons_zero, List.set_cons_succ, i64_w, i32_w]
         rfl
        refine pure_ (i := 3) (N := some 29) (v := ?_) (a' := ?_) #[true, false, false, true, false, false, false, false, false, false, false, false, false, false] rfl rfl (any_of HT_.out (by kernel_rfl)) (fun _ _ _ h => h) (Or.inl ⟨by rfl, ?_⟩) ?_ ?_
        rotate_left
        ·
         intro w'
         go_simp
         with_reducible rfl
        rotate_left
        ·
         simp only [Act.put, List.setIfInBounds_toArray, List.set_cons_zero, List.set_cons_succ, i64_w, i32_w]
         rfl
        refine pure_ (i := 4) (N := some 30) (v := ?_) (a' := ?_) #[true, false, false, true, true, false, false, false, false, false, false, false, false, false] rfl rfl (any_of HT_.out (by kernel_rfl)) (fun _ _ _ h => h) (Or.inl ⟨by rfl, ?_⟩) ?_ ?_
        rotate_left
        ·
         intro w'
         go_simp
         with_reducible rfl
        rotate_left
        ·
         simp only [Act.put, List.setIfInBounds_toArray, List.set_cons_zero, List.set_cons_succ, i64_w, i32_w]
         rfl
        refine pure_ (i := 9) (N := some 35) (v := ?_) (a' := ?_) #[true, false, false, true, true, false, false, false, false, true, false, false, false, false] rfl rfl (any_of HT_.out (by kernel_rfl)) (fun _ _ _ h => h) (Or.inl ⟨by rfl, ?_⟩) ?_ ?_
        rotate_left
        ·
         intro w'
         go_simp
         with_reducible rfl
        rotate_left
        ·
         simp only [Act.put, List.setIfInBounds_toArray, List.set_cons_zero, List.set_cons_succ, i64_w, i32_w]
         rfl
        refine take_ (i := 1) (N := some 27) (v := ?_) (a' := ?_) #[true, true, false, true, true, false, false, false, false, true, false, false, false, false] rfl rfl (take_ofW HT_.out HW_.out (by kernel_rfl)) (fun _ _ _ h => h) (Or.inl ⟨by rfl, ?_⟩) hHeld ?_ ?_
        rotate_left
        ·
         rintro w' ⟨s0, s1⟩
         go_simp
         with_reducible rfl
        rotate_left
        ·
         simp only [Act.put, List.setIfInBounds_toArray, List.set_cons_zero, List.set_cons_succ, i64_w, i32_w]
         rfl
        refine pure_ (i := 2) (N := some 28) (v := ?_) (a' := ?_) #[true, true, true, true, true, false, false, false, false, true, false, false, false, false] rfl rfl (any_of HT_.out (by kernel_rfl)) (fun _ _ _ h => h) (Or.inl ⟨by rfl, ?_⟩) ?_ ?_
        rotate_left
        ·
         intro w'
         go_simp
         with_reducible rfl
        rotate_left
        ·
         simp only [Act.put, List.setIfInBounds_toArray, List.set_cons_zero, List.set_cons_succ, i64_w, i32_w]
         rfl
        refine join_ (σ := Value × Nat) 1 #[true, true, true, true, true, true, true, true, true, true, true, true, true, false] (fun s_ => [(31, .int .i64 t185), (32, s_.1), (33, .int .i64 t190), (36, .int .i64 t192), (8, .pointer (some ⟨s_.2, 0, none⟩)), (34, .int .i64 (wrap64 ((wrap64 (((rd_T30 x5_1 (ji13)).f0) + 1)) + t190))), (37, .agg #[.int .i64 (wrap64 ((wrap64 (((rd_T30 x5_1 (ji13)).f0) + 1)) + t190)), .int .i64 t192])]) (fun s_ w' => (w'.cell? ⟨gb184, 0, none⟩ = some (.int .i64 ((rd_T30 x5_1 (ji13)).f0)) ∧ w'.cell? ⟨gb184, 1, none⟩ = some (.int .i64 ((rd_T30 x5_1 (ji13)).f1))) ∧ (Kd.R (Kd.int .i64) 3 w' w.heap.size (fun _ => True) s_.1 y187) ∧ (Kd.R k30 30 w' w.heap.size (fun k_ => k_ ≠ gb184 ∧ k_ ≠ s_.2) (.slice (some ad183) x5_1.length co51) x5_1) ∧ (w'.heap[gb184]? = some (.cells #[.int .i64 ((rd_T30 x5_1 (ji13)).f0), .int .i64 ((rd_T30 x5_1 (ji13)).f1)] 30 (0, 0))) ∧ (w'.heap[s_.2]? = some (.cells #[.int .i64 0, .int .i64 0] 30 (0, 0))) ∧ (w.heap.size ≤ s_.2) ∧ (w0.heap.size ≤ s_.2) ∧ (g ≠ s_.2) ∧ (s_.2 ≠ g) ∧ (gb184 ≠ s_.2) ∧ (s_.2 ≠ gb184) ∧ (IsS56 w0 w' g s0_0 t193) ∧ (KeepBut w w' g none) ∧ (Below w0.heap.size w0 w')) ?_ ?_
        rotate_left
        ·
         intro hJ5_6_7_10_12
         refine join_ (σ := Value) 2 #[true, true, true, true, true, true, true, true, true, true, true, true, false, false] (fun s_ => [(31, .int .i64 t185), (32, s_), (33, .int .i64 t190), (36, .int .i64 t192), (34, .int .i64 (wrap64 ((wrap64 (((rd_T30 x5_1 (ji13)).f0) + 1)) + t190))), (37, .agg #[.int .i64 (wrap64 ((wrap64 (((rd_T30 x5_1 (ji13)).f0) + 1)) + t190)), .int .i64 t192])]) (fun s_ w' => (w'.cell? ⟨gb184, 0, none⟩ = some (.int .i64 ((rd_T30 x5_1 (ji13)).f0)) ∧ w'.cell? ⟨gb184, 1, none⟩ = some (.int .i64 ((rd_T30 x5_1 (ji13)).f1))) ∧ (Kd.R (Kd.int .i64) 3 w' w.heap.size (fun _ => True) s_ y187) ∧ (Kd.R k30 30 w' w.heap.size (fun k_ => k_ ≠ gb184) (.slice (some ad183) x5_1.length co51) x5_1) ∧ (w'.heap[gb184]? = some (.cells #[.int .i64 ((rd_T30 x5_1 (ji13)).f0), .int .i64 ((rd_T30 x5_1 (ji13)).f1)] 30 (0, 0))) ∧ (IsS56 w0 w' g s0_0 t193) ∧ (KeepBut w w' g none) ∧ (Below w0.heap.size w0 w')) ?_ ?_
         rotate_left
         ·
          intro hJ5_6_7_10
          refine join_ (σ := Value × Nat) 3 #[true, true, true, true, true, true, true, true, true, true, false, false, true, false] (fun s_ => [(31, .int .i64 t185), (32, s_.1), (33, .int .i64 t190), (8, .pointer (some ⟨s_.2, 0, none⟩)), (34, .int .i64 (wrap64 ((wrap64 (((rd_T30 x5_1 (ji13)).f0) + 1)) + t190)))]) (fun s_ w' => (w'.cell? ⟨gb184, 0, none⟩ = some (.int .i64 ((rd_T30 x5_1 (ji13)).f0)) ∧ w'.cell? ⟨gb184, 1, none⟩ = some (.int .i64 ((rd_T30 x5_1 (ji13)).f1))) ∧ (Kd.R (Kd.int .i64) 3 w' w.heap.size (fun _ => True) s_.1 y187) ∧ (Kd.R k30 30 w' w.heap.size (fun k_ => k_ ≠ gb184 ∧ k_ ≠ s_.2) (.slice (some ad183) x5_1.length co51) x5_1) ∧ (w'.heap[gb184]? = some (.cells #[.int .i64 ((rd_T30 x5_1 (ji13)).f0), .int .i64 ((rd_T30 x5_1 (ji13)).f1)] 30 (0, 0))) ∧ (w'.heap[s_.2]? = some (.cells #[.int .i64 0, .int .i64 0] 30 (0, 0))) ∧ (w.heap.size ≤ s_.2) ∧ (w0.heap.size ≤ s_.2) ∧ (g ≠ s_.2) ∧ (s_.2 ≠ g) ∧ (gb184 ≠ s_.2) ∧ (s_.2 ≠ gb184) ∧ (IsS56 w0 w' g s0_0 t191) ∧ (KeepBut w w' g none) ∧ (Below w0.heap.size w0 w')) ?_ ?_
          rotate_left
          ·
           intro hJ5_6_7_12
           refine join_ (σ := Value) 4 #[true, true, true, true, true, true, true, true, true, true, false, false, false, false] (fun s_ => [(31, .int .i64 t185), (32, s_), (33, .int .i64 t190), (34, .int .i64 (wrap64 ((wrap64 (((rd_T30 x5_1 (ji13)).f0) + 1)) + t190)))]) (fun s_ w' => (w'.cell? ⟨gb184, 0, none⟩ = some (.int .i64 ((rd_T30 x5_1 (ji13)).f0)) ∧ w'.cell? ⟨gb184, 1, none⟩ = some (.int .i64 ((rd_T30 x5_1 (ji13)).f1))) ∧ (Kd.R (Kd.int .i64) 3 w' w.heap.size (fun _ => True) s_ y187) ∧ (Kd.R k30 30 w' w.heap.size (fun k_ => k_ ≠ gb184) (.slice (some ad183) x5_1.length co51) x5_1) ∧ (w'.heap[gb184]? = some (.cells #[.int .i64 ((rd_T30 x5_1 (ji13)).f0), .int .i64 ((rd_T30 x5_1 (ji13)).f1)] 30 (0, 0))) ∧ (IsS56 w0 w' g s0_0 t191) ∧ (KeepBut w w' g none) ∧ (Below w0.heap.size w0 w')) ?_ ?_
           rotate_left
           ·
            intro hJ5_6_7
            refine join_ (σ := Value × Nat) 5 #[true, true, true, true, true, true, true, false, false, true, false, false, true, false] (fun s_ => [(31, .int .i64 t185), (32, s_.1), (8, .pointer (some ⟨s_.2, 0, none⟩))]) (fun s_ w' => (w'.cell? ⟨gb184, 0, none⟩ = some (.int .i64 ((rd_T30 x5_1 (ji13)).f0)) ∧ w'.cell? ⟨gb184, 1, none⟩ = some (.int .i64 ((rd_T30 x5_1 (ji13)).f1))) ∧ (Kd.R (Kd.int .i64) 3 w' w.heap.size (fun _ => True) s_.1 y187) ∧ (Kd.R k30 30 w' w.heap.size (fun k_ => k_ ≠ gb184 ∧ k_ ≠ s_.2) (.slice (some ad183) x5_1.length co51) x5_1) ∧ (w'.heap[gb184]? = some (.cells #[.int .i64 ((rd_T30 x5_1 (ji13)).f0), .int .i64 ((rd_T30 x5_1 (ji13)).f1)] 30 (0, 0))) ∧ (w'.heap[s_.2]? = some (.cells #[.int .i64 0, .int .i64 0] 30 (0, 0))) ∧ (w.heap.size ≤ s_.2) ∧ (w0.heap.size ≤ s_.2) ∧ (g ≠ s_.2) ∧ (s_.2 ≠ g) ∧ (gb184 ≠ s_.2) ∧ (s_.2 ≠ gb184) ∧ (IsS56 w0 w' g s0_0 t186) ∧ (KeepBut w w' g none) ∧ (Below w0.heap.size w0 w')) ?_ ?_
            rotate_left
            ·
             intro hJ5_6_12
             refine join_ (σ := Value) 6 #[true, true, true, true, true, true, true, false, false, true, false, false, false, false] (fun s_ => [(31, .int .i64 t185), (32, s_)]) (fun s_ w' => (w'.cell? ⟨gb184, 0, none⟩ = some (.int .i64 ((rd_T30 x5_1 (ji13)).f0)) ∧ w'.cell? ⟨gb184, 1, none⟩ = some (.int .i64 ((rd_T30 x5_1 (ji13)).f1))) ∧ (Kd.R (Kd.int .i64) 3 w' w.heap.size (fun _ => True) s_ y187) ∧ (Kd.R k30 30 w' w.heap.size (fun k_ => k_ ≠ gb184) (.slice (some ad183) x5_1.length co51) x5_1) ∧ (w'.heap[gb184]? = some (.cells #[.int .i64 ((rd_T30 x5_1 (ji13)).f0), .int .i64 ((rd_T30 x5_1 (ji13)).f1)] 30 (0, 0))) ∧ (IsS56 w0 w' g s0_0 t186) ∧ (KeepBut w w' g none) ∧ (Below w0.heap.size w0 w')) ?_ ?_
             rotate_left
             ·
              intro hJ5_6
              refine join_ (σ := Nat) 6 #[true, true, true, true, true, true, false, false, false, true, false, false, true, false] (fun s_ => [(31, .int .i64 t185), (8, .pointer (some ⟨s_, 0, none⟩))]) (fun s_ w' => (w'.cell? ⟨gb184, 0, none⟩ = some (.int .i64 ((rd_T30 x5_1 (ji13)).f0)) ∧ w'.cell? ⟨gb184, 1, none⟩ = some (.int .i64 ((rd_T30 x5_1 (ji13)).f1))) ∧ (Kd.R k30 30 w' w.heap.size (fun k_ => k_ ≠ gb184 ∧ k_ ≠ s_) (.slice (some ad183) x5_1.length co51) x5_1) ∧ (w'.heap[gb184]? = some (.cells #[.int .i64 ((rd_T30 x5_1 (ji13)).f0), .int .i64 ((rd_T30 x5_1 (ji13)).f1)] 30 (0, 0))) ∧ (w'.heap[s_]? = some (.cells #[.int .i64 0, .int .i64 0] 30 (0, 0))) ∧ (w.heap.size ≤ s_) ∧ (w0.heap.size ≤ s_) ∧ (g ≠ s_) ∧ (s_ ≠ g) ∧ (gb184 ≠ s_) ∧ (s_ ≠ gb184) ∧ (IsS56 w0 w' g s0_0 t186) ∧ (KeepBut w w' g none) ∧ (Below w0.heap.size w0 w')) ?_ ?_
              rotate_left
              ·
               intro hJ5_12
               refine join_ (σ := Unit) 7 #[true, true, true, true, true, true, false, false, false, true, false, false, false, false] (fun s_ => [(31, .int .i64 t185)]) (fun s_ w' => (w'.cell? ⟨gb184, 0, none⟩ = some (.int .i64 ((rd_T30 x5_1 (ji13)).f0)) ∧ w'.cell? ⟨gb184, 1, none⟩ = some (.int .i64 ((rd_T30 x5_1 (ji13)).f1))) ∧ (Kd.R k30 30 w' w.heap.size (fun k_ => k_ ≠ gb184) (.slice (some ad183) x5_1.length co51) x5_1) ∧ (w'.heap[gb184]? = some (.cells #[.int .i64 ((rd_T30 x5_1 (ji13)).f0), .int .i64 ((rd_T30 x5_1 (ji13)).f1)] 30 (0, 0))) ∧ (IsS56 w0 w' g s0_0 t186) ∧ (KeepBut w w' g none) ∧ (Below w0.heap.size w0 w')) ?_ ?_
               rotate_left
               ·
                intro hJ5
                refine join_ (σ := Nat) 7 #[true, true, true, true, true, false, false, false, false, true, false, false, true, false] (fun s_ => [(8, .pointer (some ⟨s_, 0, none⟩))]) (fun s_ w' => (w'.cell? ⟨gb184, 0, none⟩ = some (.int .i64 ((rd_T30 x5_1 (ji13)).f0)) ∧ w'.cell? ⟨gb184, 1, none⟩ = some (.int .i64 ((rd_T30 x5_1 (ji13)).f1))) ∧ (Kd.R k30 30 w' w.heap.size (fun k_ => k_ ≠ gb184 ∧ k_ ≠ s_) (.slice (some ad183) x5_1.length co51) x5_1) ∧ (w'.heap[gb184]? = some (.cells #[.int .i64 ((rd_T30 x5_1 (ji13)).f0), .int .i64 ((rd_T30 x5_1 (ji13)).f1)] 30 (0, 0))) ∧ (w'.heap[s_]? = some (.cells #[.int .i64 0, .int .i64 0] 30 (0, 0))) ∧ (w.heap.size ≤ s_) ∧ (w0.heap.size ≤ s_) ∧ (g ≠ s_) ∧ (s_ ≠ g) ∧ (gb184 ≠ s_) ∧ (s_ ≠ gb184) ∧ (IsS56 w0 w' g s0_0 x1001_1) ∧ (KeepBut w w' g none) ∧ (Below w0.heap.size w0 w')) ?_ ?_
                rotate_left
                ·
                 intro hJ12
                 refine two_ (i := 5) (j := 12) (Ni := some 31) (Nj := some 8) #[true, true, true, true, true, true, false, false, false, true, false, false, false, false] #[true, true, true, true, true, false, false, false, false, true, false, false, true, false] rfl rfl rfl rfl (two_of HT_.out (by kernel_rfl)) (by decide) (by decide) (fun K hK => ?_) (fun K hK => ?_)
                 ·
                  skip
                  refine goes_ Try.func15 (by kernel_rfl) rfl #[.pointer (some ⟨g, 0, none⟩), .int .i64 3000000] (by rfl) rfl rfl (by (try simp only [List.map_toArray, List.map_cons, List.map_nil]); first | done | rfl | (simp only [List.length_drop, List.length_take]; rfl)) ?_
                  with_reducible refine (paygen_Deck_Next.calls g s0_0 x1001_1 3000000 t185 t186 w0 _ ?side1 ?side2 A16.out).mono ?_
                  (case side1 => repeat (first | (with_reducible first | exact HI0.out | apply IsS56.alloc | apply IsS56.drewN | apply IsS56.drew | apply IsS56.set_1 | refine IsS56.far ?_ NB0_184.out _) | exact HI0.out))
                  (case side2 => repeat (first | (with_reducible first | exact HB.out | apply below_alloc | apply pw_below_drewN | apply below_drew1 | refine below_set ?_ (IsS56.ge HI0.out) | refine below_set ?_ GE184.out) | exact HB.out))
                  rintro e w57 ⟨rfl, hi, hb, hk⟩
                  refine ⟨_, rfl, ?_⟩
                  have n0_ := Aside0.mk (Kd.R_mono (Kd.R_keep (IsS56.apart (show IsS56 w0 _ g s0_0 x1001_1 from by repeat (first | (with_reducible first | exact HI0.out | apply IsS56.alloc | apply IsS56.drewN | apply IsS56.drew | apply IsS56.set_1 | refine IsS56.far ?_ NB0_184.out _) | exact HI0.out)) (by (with_reducible repeat (first | apply Kd.R_alloc | apply Kd.R_drewN | apply Kd.R_drew)); exact HO_5.out) (by decide)) hk (fun _ h => h.2)) (fun _ h => h.1))
                  have n1_ := Aside0.mk (KeepBut.blk hk (g' := gb184) (o := .cells #[.int .i64 ((rd_T30 x5_1 (ji13)).f0), .int .i64 ((rd_T30 x5_1 (ji13)).f1)] 30 (0, 0)) (by (with_reducible repeat (first | refine blk_drewN ?_ _ | refine blk_drew ?_ | refine blk_alloc ?_ _)); exact BK184.out) NB184_0.out (by simp))
                  have n2_ := Aside0.mk (KeepBut.trans (by repeat (first | (with_reducible first | exact HK.out | apply KeepBut.set_ | apply keep_drewN | apply keep_drew | apply keep_alloc | refine keep_far ?_ GW184.out _) | exact HK.out)) hk (.inl rfl))
                  have n3_ := Aside0.mk (hb)
                  have n4_ := Aside0.mk (hi)
                  clear HO_5
                  clear BK184
                  clear HK
                  clear HB
                  clear HI0
                  have HO_5 := n0_
                  have BK184 := n1_
                  have HK := n2_
                  have HB := n3_
                  have HI0 := n4_
                  clear n0_ n1_ n2_ n3_ n4_
                  (try clear hb)
                  (try clear hb2)
                  (try clear hk)
                  (try clear hi)
                  refine hK.out _ _ ⟨(blk_cell BK184.out 0).trans rfl, (blk_cell BK184.out 1).trans rfl⟩ (fun hHeld => ?_)
                  clear hK K
                  refine norm_ (a' := ?_) ?_ ?_
                  rotate_left
                  ·
                   show Act.put _ (some 31) _ = _
                   simp only [Act.put, List.setIfInBounds_toArray, List.set_cons_zero, List.set_cons_succ, i64_w, i32_w]
                   rfl
                  exact norm_ (by first | (simp only [putAll, Act.put, List.setIfInBounds_toArray, List.set_cons_zero, List.set_cons_succ]; done) | (simp only [putAll, Act.put, List.setIfInBounds_toArray, List.set_cons_zero, List.set_cons_succ]; rfl)) (hJ5 () _ ⟨hHeld, (by (with_reducible repeat (first | apply Kd.R_alloc | apply Kd.R_drewN | apply Kd.R_drew)); exact HO_5.out), (by (with_reducible repeat (first | refine blk_drewN ?_ _ | refine blk_drew ?_ | refine blk_alloc ?_ _)); exact BK184.out), (by repeat (first | (with_reducible first | exact HI0.out | apply IsS56.alloc | apply IsS56.drewN | apply IsS56.drew | apply IsS56.set_1 | refine IsS56.far ?_ NB0_184.out _) | exact HI0.out)), (by repeat (first | (with_reducible first | exact HK.out | apply KeepBut.set_ | apply keep_drewN | apply keep_drew | apply keep_alloc | refine keep_far ?_ GW184.out _) | exact HK.out)), (by repeat (first | (with_reducible first | exact HB.out | apply below_alloc | apply pw_below_drewN | apply below_drew1 | refine below_set ?_ (IsS56.ge HI0.out) | refine below_set ?_ GE184.out) | exact HB.out))⟩)
                 ·
                  skip
                  refine box_step ?hg (N := 8) ?hd (cs := #[.int .i64 0, .int .i64 0]) (t := 30) ?hr ?_; (case hd => rfl); (case hg => rfl); (case hr => first | (go_simp; done) | (go_simp; rfl))
                  intro gb194 hg w57 hbox hb
                  have n0_ := Aside0.mk (Kd.R_below (Kd.R_elderB (by (with_reducible repeat (first | apply Kd.R_alloc | apply Kd.R_drewN | apply Kd.R_drew)); exact HO_5.out) gb194 (Nat.le_of_eq hg.symm)) hb)
                  have n1_ := Aside0.mk (IsS56.below (by repeat (first | (with_reducible first | exact HI0.out | apply IsS56.alloc | apply IsS56.drewN | apply IsS56.drew | apply IsS56.set_1 | refine IsS56.far ?_ NB0_184.out _) | exact HI0.out)) hb)
                  have n2_ := Aside0.mk (blk_below (g := gb184) (o := .cells #[.int .i64 ((rd_T30 x5_1 (ji13)).f0), .int .i64 ((rd_T30 x5_1 (ji13)).f1)] 30 (0, 0)) (by (with_reducible repeat (first | refine blk_drewN ?_ _ | refine blk_drew ?_ | refine blk_alloc ?_ _)); exact BK184.out) hb)
                  have n3_ := Aside0.mk (KeepBut.trans (by repeat (first | (with_reducible first | exact HK.out | apply KeepBut.set_ | apply keep_drewN | apply keep_drew | apply keep_alloc | refine keep_far ?_ GW184.out _) | exact HK.out)) (KeepBut.of_below hb g none) (.inl rfl))
                  have n4_ := Aside0.mk (below_step (by repeat (first | (with_reducible first | exact HB.out | apply below_alloc | apply pw_below_drewN | apply below_drew1 | refine below_set ?_ (IsS56.ge HI0.out) | refine below_set ?_ GE184.out) | exact HB.out)) hb)
                  have n5_ := Aside0.mk (hbox)
                  have n6_ := Aside0.mk ((by rw [hg]; exact (keep_size (w := w) (g := g) (row := none) (by repeat (first | (with_reducible first | exact HK.out | apply KeepBut.set_ | apply keep_drewN | apply keep_drew | apply keep_alloc | refine keep_far ?_ GW184.out _) | exact HK.out))) : w.heap.size ≤ gb194))
                  have n7_ := Aside0.mk ((Nat.le_trans HW0.out (by rw [hg]; exact (keep_size (w := w) (g := g) (row := none) (by repeat (first | (with_reducible first | exact HK.out | apply KeepBut.set_ | apply keep_drewN | apply keep_drew | apply keep_alloc | refine keep_far ?_ GW184.out _) | exact HK.out))) : w.heap.size ≤ gb194) : w0.heap.size ≤ gb194))
                  have n8_ := Aside0.mk ((by rw [hg]; exact Nat.ne_of_lt (blk_lt (g := gb184) (o := .cells #[.int .i64 ((rd_T30 x5_1 (ji13)).f0), .int .i64 ((rd_T30 x5_1 (ji13)).f1)] 30 (0, 0)) (by (with_reducible repeat (first | refine blk_drewN ?_ _ | refine blk_drew ?_ | refine blk_alloc ?_ _)); exact BK184.out)) : gb184 ≠ gb194))
                  have n9_ := Aside0.mk ((by rw [hg]; exact Nat.ne_of_gt (blk_lt (g := gb184) (o := .cells #[.int .i64 ((rd_T30 x5_1 (ji13)).f0), .int .i64 ((rd_T30 x5_1 (ji13)).f1)] 30 (0, 0)) (by (with_reducible repeat (first | refine blk_drewN ?_ _ | refine blk_drew ?_ | refine blk_alloc ?_ _)); exact BK184.out)) : gb194 ≠ gb184))
                  have n10_ := Aside0.mk ((by rw [hg]; exact Nat.ne_of_lt (IsS56.lt (show IsS56 w0 _ g s0_0 x1001_1 from by repeat (first | (with_reducible first | exact HI0.out | apply IsS56.alloc | apply IsS56.drewN | apply IsS56.drew | apply IsS56.set_1 | refine IsS56.far ?_ NB0_184.out _) | exact HI0.out))) : g ≠ gb194))
                  have n11_ := Aside0.mk ((by rw [hg]; exact Nat.ne_of_gt (IsS56.lt (show IsS56 w0 _ g s0_0 x1001_1 from by repeat (first | (with_reducible first | exact HI0.out | apply IsS56.alloc | apply IsS56.drewN | apply IsS56.drew | apply IsS56.set_1 | refine IsS56.far ?_ NB0_184.out _) | exact HI0.out))) : gb194 ≠ g))
                  clear HO_5
                  clear HI0
                  clear BK184
                  clear HK
                  clear HB
                  have HO_5 := n0_
                  have HI0 := n1_
                  have BK184 := n2_
                  have HK := n3_
                  have HB := n4_
                  have BK194 := n5_
                  have GW194 := n6_
                  have GE194 := n7_
                  have NB184_194 := n8_
                  have NB194_184 := n9_
                  have NB0_194 := n10_
                  have NB194_0 := n11_
                  clear n0_ n1_ n2_ n3_ n4_ n5_ n6_ n7_ n8_ n9_ n10_ n11_
                  clear hb hbox hg
                  refine hK.out _ _ ⟨(blk_cell BK184.out 0).trans rfl, (blk_cell BK184.out 1).trans rfl⟩ (fun hHeld => ?_)
                  clear hK K
                  refine norm_ (a' := ?_) ?_ ?_
                  rotate_left
                  ·
                   show Act.put _ (some 8) _ = _
                   simp only [Act.put, List.setIfInBounds_toArray, List.set_cons_zero, List.set_cons_succ, i64_w, i32_w]
                   rfl
                  exact norm_ (by first | (simp only [putAll, Act.put, List.setIfInBounds_toArray, List.set_cons_zero, List.set_cons_succ]; done) | (simp only [putAll, Act.put, List.setIfInBounds_toArray, List.set_cons_zero, List.set_cons_succ]; rfl)) (hJ12 (gb194) _ ⟨hHeld, (by (with_reducible repeat (first | apply Kd.R_alloc | apply Kd.R_drewN | apply Kd.R_drew)); exact HO_5.out), (by (with_reducible repeat (first | refine blk_drewN ?_ _ | refine blk_drew ?_ | refine blk_alloc ?_ _)); exact BK184.out), (by (with_reducible repeat (first | refine blk_drewN ?_ _ | refine blk_drew ?_ | refine blk_alloc ?_ _)); exact BK194.out), GW194.out, GE194.out, NB0_194.out, NB194_0.out, NB184_194.out, NB194_184.out, (by repeat (first | (with_reducible first | exact HI0.out | apply IsS56.alloc | apply IsS56.drewN | apply IsS56.drew | apply IsS56.set_1 | refine IsS56.far ?_ NB0_184.out _ | refine IsS56.far ?_ NB0_194.out _) | exact HI0.out)), (by repeat (first | (with_reducible first | exact HK.out | apply KeepBut.set_ | apply keep_drewN | apply keep_drew | apply keep_alloc | refine keep_far ?_ GW184.out _ | refine keep_far ?_ GW194.out _) | exact HK.out)), (by repeat (first | (with_reducible first | exact HB.out | apply below_alloc | apply pw_below_drewN | apply below_drew1 | refine below_set ?_ (IsS56.ge HI0.out) | refine below_set ?_ GE184.out | refine below_set ?_ GE194.out) | exact HB.out))⟩)
                ·
                 skip
                 rintro gb194 w58 ⟨hS_, h0_, h1_, h2_, h3_, h4_, h5_, h6_, h7_, h8_, h9_, h10_, h11_⟩
                 have n0_ : Aside0 (Kd.R k30 30 w58 w.heap.size (fun k_ => k_ ≠ gb184 ∧ k_ ≠ gb194) (.slice (some ad183) x5_1.length co51) x5_1) := ⟨h0_⟩
                 have n1_ : Aside0 (w58.heap[gb184]? = some (.cells #[.int .i64 ((rd_T30 x5_1 (ji13)).f0), .int .i64 ((rd_T30 x5_1 (ji13)).f1)] 30 (0, 0))) := ⟨h1_⟩
                 have n2_ : Aside0 (w58.heap[gb194]? = some (.cells #[.int .i64 0, .int .i64 0] 30 (0, 0))) := ⟨h2_⟩
                 have n3_ : Aside0 (w.heap.size ≤ gb194) := ⟨h3_⟩
                 have n4_ : Aside0 (w0.heap.size ≤ gb194) := ⟨h4_⟩
                 have n5_ : Aside0 (g ≠ gb194) := ⟨h5_⟩
                 have n6_ : Aside0 (gb194 ≠ g) := ⟨h6_⟩
                 have n7_ : Aside0 (gb184 ≠ gb194) := ⟨h7_⟩
                 have n8_ : Aside0 (gb194 ≠ gb184) := ⟨h8_⟩
                 have n9_ : Aside0 (IsS56 w0 w58 g s0_0 x1001_1) := ⟨h9_⟩
                 have n10_ : Aside0 (KeepBut w w58 g none) := ⟨h10_⟩
                 have n11_ : Aside0 (Below w0.heap.size w0 w58) := ⟨h11_⟩
                 clear HO_5
                 clear BK184
                 clear HI0
                 clear HK
                 clear HB
                 clear h0_ h1_ h2_ h3_ h4_ h5_ h6_ h7_ h8_ h9_ h10_ h11_
                 have HO_5 := n0_
                 have BK184 := n1_
                 have BK194 := n2_
                 have GW194 := n3_
                 have GE194 := n4_
                 have NB0_194 := n5_
                 have NB194_0 := n6_
                 have NB184_194 := n7_
                 have NB194_184 := n8_
                 have HI0 := n9_
                 have HK := n10_
                 have HB := n11_
                 clear n0_ n1_ n2_ n3_ n4_ n5_ n6_ n7_ n8_ n9_ n10_ n11_
                 have hHeld : w58.cell? ⟨gb184, 0, none⟩ = some (.int .i64 ((rd_T30 x5_1 (ji13)).f0)) ∧ w58.cell? ⟨gb184, 1, none⟩ = some (.int .i64 ((rd_T30 x5_1 (ji13)).f1)) := hS_
                 refine norm_ (a' := ?_) ?_ ?_
                 rotate_left
                 ·
                  simp only [putAll, Act.put, List.setIfInBounds_toArray, List.set_cons_zero, List.set_cons_succ]
                  rfl
                 refine one_ (i := 5) (N := some 31) #[true, true, true, true, true, true, false, false, false, true, false, false, true, false] rfl rfl (one_of HT_.out (by kernel_rfl)) (by decide) (fun K hK => ?_)
                 refine goes_ Try.func15 (by kernel_rfl) rfl #[.pointer (some ⟨g, 0, none⟩), .int .i64 3000000] (by rfl) rfl rfl (by (try simp only [List.map_toArray, List.map_cons, List.map_nil]); first | done | rfl | (simp only [List.length_drop, List.length_take]; rfl)) ?_
                 with_reducible refine (paygen_Deck_Next.calls g s0_0 x1001_1 3000000 t185 t186 w0 _ ?side1 ?side2 A16.out).mono ?_
                 (case side1 => repeat (first | (with_reducible first | exact HI0.out | apply IsS56.alloc | apply IsS56.drewN | apply IsS56.drew | apply IsS56.set_1 | refine IsS56.far ?_ NB0_184.out _ | refine IsS56.far ?_ NB0_194.out _) | exact HI0.out))
                 (case side2 => repeat (first | (with_reducible first | exact HB.out | apply below_alloc | apply pw_below_drewN | apply below_drew1 | refine below_set ?_ (IsS56.ge HI0.out) | refine below_set ?_ GE184.out | refine below_set ?_ GE194.out) | exact HB.out))
                 rintro e w59 ⟨rfl, hi, hb, hk⟩
                 refine ⟨_, rfl, ?_⟩
                 have n0_ := Aside0.mk (Kd.R_mono (Kd.R_keep (IsS56.apart (show IsS56 w0 _ g s0_0 x1001_1 from by repeat (first | (with_reducible first | exact HI0.out | apply IsS56.alloc | apply IsS56.drewN | apply IsS56.drew | apply IsS56.set_1 | refine IsS56.far ?_ NB0_184.out _ | refine IsS56.far ?_ NB0_194.out _) | exact HI0.out)) (by (with_reducible repeat (first | apply Kd.R_alloc | apply Kd.R_drewN | apply Kd.R_drew)); exact HO_5.out) (by decide)) hk (fun _ h => h.2)) (fun _ h => h.1))
                 have n1_ := Aside0.mk (KeepBut.blk hk (g' := gb184) (o := .cells #[.int .i64 ((rd_T30 x5_1 (ji13)).f0), .int .i64 ((rd_T30 x5_1 (ji13)).f1)] 30 (0, 0)) (by (with_reducible repeat (first | refine blk_drewN ?_ _ | refine blk_drew ?_ | refine blk_alloc ?_ _)); exact BK184.out) NB184_0.out (by simp))
                 have n2_ := Aside0.mk (KeepBut.blk hk (g' := gb194) (o := .cells #[.int .i64 0, .int .i64 0] 30 (0, 0)) (by (with_reducible repeat (first | refine blk_drewN ?_ _ | refine blk_drew ?_ | refine blk_alloc ?_ _)); exact BK194.out) NB194_0.out (by simp))
                 have n3_ := Aside0.mk (KeepBut.trans (by repeat (first | (with_reducible first | exact HK.out | apply KeepBut.set_ | apply keep_drewN | apply keep_drew | apply keep_alloc | refine keep_far ?_ GW184.out _ | refine keep_far ?_ GW194.out _) | exact HK.out)) hk (.inl rfl))
                 have n4_ := Aside0.mk (hb)
                 have n5_ := Aside0.mk (hi)
                 clear HO_5
                 clear BK184
                 clear BK194
                 clear HK
                 clear HB
                 clear HI0
                 have HO_5 := n0_
                 have BK184 := n1_
                 have BK194 := n2_
                 have HK := n3_
                 have HB := n4_
                 have HI0 := n5_
                 clear n0_ n1_ n2_ n3_ n4_ n5_
                 (try clear hb)
                 (try clear hb2)
                 (try clear hk)
                 (try clear hi)
                 refine hK.out _ _ ⟨(blk_cell BK184.out 0).trans rfl, (blk_cell BK184.out 1).trans rfl⟩ (fun hHeld => ?_)
                 clear hK K
                 refine norm_ (a' := ?_) ?_ ?_
                 rotate_left
                 ·
                  show Act.put _ (some 31) _ = _
                  simp only [Act.put, List.setIfInBounds_toArray, List.set_cons_zero, List.set_cons_succ, i64_w, i32_w]
                  rfl
                 exact norm_ (by first | (simp only [putAll, Act.put, List.setIfInBounds_toArray, List.set_cons_zero, List.set_cons_succ]; done) | (simp only [putAll, Act.put, List.setIfInBounds_toArray, List.set_cons_zero, List.set_cons_succ]; rfl)) (hJ5_12 (gb194) _ ⟨hHeld, (by (with_reducible repeat (first | apply Kd.R_alloc | apply Kd.R_drewN | apply Kd.R_drew)); exact HO_5.out), (by (with_reducible repeat (first | refine blk_drewN ?_ _ | refine blk_drew ?_ | refine blk_alloc ?_ _)); exact BK184.out), (by (with_reducible repeat (first | refine blk_drewN ?_ _ | refine blk_drew ?_ | refine blk_alloc ?_ _)); exact BK194.out), GW194.out, GE194.out, NB0_194.out, NB194_0.out, NB184_194.out, NB194_184.out, (by repeat (first | (with_reducible first | exact HI0.out | apply IsS56.alloc | apply IsS56.drewN | apply IsS56.drew | apply IsS56.set_1 | refine IsS56.far ?_ NB0_184.out _ | refine IsS56.far ?_ NB0_194.out _) | exact HI0.out)), (by repeat (first | (with_reducible first | exact HK.out | apply KeepBut.set_ | apply keep_drewN | apply keep_drew | apply keep_alloc | refine keep_far ?_ GW184.out _ | refine keep_far ?_ GW194.out _) | exact HK.out)), (by repeat (first | (with_reducible first | exact HB.out | apply below_alloc | apply pw_below_drewN | apply below_drew1 | refine below_set ?_ (IsS56.ge HI0.out) | refine below_set ?_ GE184.out | refine below_set ?_ GE194.out) | exact HB.out))⟩)
               ·
                skip
                rintro _ w58 ⟨hS_, h0_, h1_, h2_, h3_, h4_⟩
                have n0_ : Aside0 (Kd.R k30 30 w58 w.heap.size (fun k_ => k_ ≠ gb184) (.slice (some ad183) x5_1.length co51) x5_1) := ⟨h0_⟩
                have n1_ : Aside0 (w58.heap[gb184]? = some (.cells #[.int .i64 ((rd_T30 x5_1 (ji13)).f0), .int .i64 ((rd_T30 x5_1 (ji13)).f1)] 30 (0, 0))) := ⟨h1_⟩
                have n2_ : Aside0 (IsS56 w0 w58 g s0_0 t186) := ⟨h2_⟩
                have n3_ : Aside0 (KeepBut w w58 g none) := ⟨h3_⟩
                have n4_ : Aside0 (Below w0.heap.size w0 w58) := ⟨h4_⟩
                clear HO_5
                clear BK184
                clear HI0
                clear HK
                clear HB
                clear h0_ h1_ h2_ h3_ h4_
                have HO_5 := n0_
                have BK184 := n1_
                have HI0 := n2_
                have HK := n3_
                have HB := n4_
                clear n0_ n1_ n2_ n3_ n4_
                have hHeld : w58.cell? ⟨gb184, 0, none⟩ = some (.int .i64 ((rd_T30 x5_1 (ji13)).f0)) ∧ w58.cell? ⟨gb184, 1, none⟩ = some (.int .i64 ((rd_T30 x5_1 (ji13)).f1)) := hS_
                refine norm_ (a' := ?_) ?_ ?_
                rotate_left
                ·
                 simp only [putAll, Act.put, List.setIfInBounds_toArray, List.set_cons_zero, List.set_cons_succ]
                 rfl
                refine two_ (i := 6) (j := 12) (Ni := some 32) (Nj := some 8) #[true, true, true, true, true, true, true, false, false, true, false, false, false, false] #[true, true, true, true, true, true, false, false, false, true, false, false, true, false] rfl rfl rfl rfl (two_of HT_.out (by kernel_rfl)) (by decide) (by decide) (fun K hK => ?_) (fun K hK => ?_)
                ·
                 skip
                 refine Kd.R_lit_step (Kd.int .i64) _ 3 ?hg (N := 32) ?hd (xs := ([0, 99, t185] : List Int)) (inner := [.int .i64 0, .int .i64 99, .int .i64 t185]) (ok := fun _ => True) (okp := fun _ => True) ?hr ?hp (fun _ hk => hk) trivial (Below.refl _ _) (Nat.le_refl _) (by simp) ?_; (case hd => rfl); (case hg => rfl); (case hr => first | (go_simp; done) | (go_simp; rfl)); (case hp => exact (Reps.one (show Kd.M (Kd.int .i64) _ _ _ 0 [.int .i64 0] from rfl) (Reps.one (show Kd.M (Kd.int .i64) _ _ _ 99 [.int .i64 99] from rfl) (Reps.one (show Kd.M (Kd.int .i64) _ _ _ t185 [.int .i64 t185] from rfl) (Reps.none _ _)))))
                 intro v188 w59 ho60 hb hg_ hnew_
                 clear hg_ hnew_
                 (first | rw [← Ny187.out] at ho60 | (simp only [Int.reduceToNat] at ho60; rw [← Ny187.out] at ho60))
                 have n0_ := Aside0.mk (Kd.R_below (by (with_reducible repeat (first | apply Kd.R_alloc | apply Kd.R_drewN | apply Kd.R_drew)); exact HO_5.out) hb)
                 have n1_ := Aside0.mk (Kd.R_lower ho60 (keep_size (w := w) (g := g) (row := none) (by repeat (first | (with_reducible first | exact HK.out | apply KeepBut.set_ | apply keep_drewN | apply keep_drew | apply keep_alloc | refine keep_far ?_ GW184.out _) | exact HK.out))))
                 have n2_ := Aside0.mk (IsS56.below (by repeat (first | (with_reducible first | exact HI0.out | apply IsS56.alloc | apply IsS56.drewN | apply IsS56.drew | apply IsS56.set_1 | refine IsS56.far ?_ NB0_184.out _) | exact HI0.out)) hb)
                 have n3_ := Aside0.mk (blk_below (g := gb184) (o := .cells #[.int .i64 ((rd_T30 x5_1 (ji13)).f0), .int .i64 ((rd_T30 x5_1 (ji13)).f1)] 30 (0, 0)) (by (with_reducible repeat (first | refine blk_drewN ?_ _ | refine blk_drew ?_ | refine blk_alloc ?_ _)); exact BK184.out) hb)
                 have n4_ := Aside0.mk (KeepBut.trans (by repeat (first | (with_reducible first | exact HK.out | apply KeepBut.set_ | apply keep_drewN | apply keep_drew | apply keep_alloc | refine keep_far ?_ GW184.out _) | exact HK.out)) (KeepBut.of_below hb g none) (.inl rfl))
                 have n5_ := Aside0.mk (below_step (by repeat (first | (with_reducible first | exact HB.out | apply below_alloc | apply pw_below_drewN | apply below_drew1 | refine below_set ?_ (IsS56.ge HI0.out) | refine below_set ?_ GE184.out) | exact HB.out)) hb)
                 clear HO_5
                 clear HI0
                 clear BK184
                 clear HK
                 clear HB
                 have HO_5 := n0_
                 have HO189 := n1_
                 have HI0 := n2_
                 have BK184 := n3_
                 have HK := n4_
                 have HB := n5_
                 clear n0_ n1_ n2_ n3_ n4_ n5_
                 clear hb ho60
                 refine hK.out _ _ ⟨(blk_cell BK184.out 0).trans rfl, (blk_cell BK184.out 1).trans rfl⟩ (fun hHeld => ?_)
                 clear hK K
                 refine norm_ (a' := ?_) ?_ ?_
                 rotate_left
                 ·
                  show Act.put _ (some 32) _ = _
                  simp only [Act.put, List.setIfInBounds_toArray, List.set_cons_zero, List.set_cons_succ, i64_w, i32_w]
                  rfl
                 exact norm_ (by first | (simp only [putAll, Act.put, List.setIfInBounds_toArray, List.set_cons_zero, List.set_cons_succ]; done) | (simp only [putAll, Act.put, List.setIfInBounds_toArray, List.set_cons_zero, List.set_cons_succ]; rfl)) (hJ5_6 (v188) _ ⟨hHeld, (by (with_reducible repeat (first | apply Kd.R_alloc | apply Kd.R_drewN | apply Kd.R_drew)); exact HO189.out), (by (with_reducible repeat (first | apply Kd.R_alloc | apply Kd.R_drewN | apply Kd.R_drew)); exact HO_5.out), (by (with_reducible repeat (first | refine blk_drewN ?_ _ | refine blk_drew ?_ | refine blk_alloc ?_ _)); exact BK184.out), (by repeat (first | (with_reducible first | exact HI0.out | apply IsS56.alloc | apply IsS56.drewN | apply IsS56.drew | apply IsS56.set_1 | refine IsS56.far ?_ NB0_184.out _) | exact HI0.out)), (by repeat (first | (with_reducible first | exact HK.out | apply KeepBut.set_ | apply keep_drewN | apply keep_drew | apply keep_alloc | refine keep_far ?_ GW184.out _) | exact HK.out)), (by repeat (first | (with_reducible first | exact HB.out | apply below_alloc | apply pw_below_drewN | apply below_drew1 | refine below_set ?_ (IsS56.ge HI0.out) | refine below_set ?_ GE184.out) | exact HB.out))⟩)
                ·
                 skip
                 refine box_step ?hg (N := 8) ?hd (cs := #[.int .i64 0, .int .i64 0]) (t := 30) ?hr ?_; (case hd => rfl); (case hg => rfl); (case hr => first | (go_simp; done) | (go_simp; rfl))
                 intro gb194 hg w59 hbox hb
                 have n0_ := Aside0.mk (Kd.R_below (Kd.R_elderB (by (with_reducible repeat (first | apply Kd.R_alloc | apply Kd.R_drewN | apply Kd.R_drew)); exact HO_5.out) gb194 (Nat.le_of_eq hg.symm)) hb)
                 have n1_ := Aside0.mk (IsS56.below (by repeat (first | (with_reducible first | exact HI0.out | apply IsS56.alloc | apply IsS56.drewN | apply IsS56.drew | apply IsS56.set_1 | refine IsS56.far ?_ NB0_184.out _) | exact HI0.out)) hb)
                 have n2_ := Aside0.mk (blk_below (g := gb184) (o := .cells #[.int .i64 ((rd_T30 x5_1 (ji13)).f0), .int .i64 ((rd_T30 x5_1 (ji13)).f1)] 30 (0, 0)) (by (with_reducible repeat (first | refine blk_drewN ?_ _ | refine blk_drew ?_ | refine blk_alloc ?_ _)); exact BK184.out) hb)
                 have n3_ := Aside0.mk (KeepBut.trans (by repeat (first | (with_reducible first | exact HK.out | apply KeepBut.set_ | apply keep_drewN | apply keep_drew | apply keep_alloc | refine keep_far ?_ GW184.out _) | exact HK.out)) (KeepBut.of_below hb g none) (.inl rfl))
                 have n4_ := Aside0.mk (below_step (by repeat (first | (with_reducible first | exact HB.out | apply below_alloc | apply pw_below_drewN | apply below_drew1 | refine below_set ?_ (IsS56.ge HI0.out) | refine below_set ?_ GE184.out) | exact HB.out)) hb)
                 have n5_ := Aside0.mk (hbox)
                 have n6_ := Aside0.mk ((by rw [hg]; exact (keep_size (w := w) (g := g) (row := none) (by repeat (first | (with_reducible first | exact HK.out | apply KeepBut.set_ | apply keep_drewN | apply keep_drew | apply keep_alloc | refine keep_far ?_ GW184.out _) | exact HK.out))) : w.heap.size ≤ gb194))
                 have n7_ := Aside0.mk ((Nat.le_trans HW0.out (by rw [hg]; exact (keep_size (w := w) (g := g) (row := none) (by repeat (first | (with_reducible first | exact HK.out | apply KeepBut.set_ | apply keep_drewN | apply keep_drew | apply keep_alloc | refine keep_far ?_ GW184.out _) | exact HK.out))) : w.heap.size ≤ gb194) : w0.heap.size ≤ gb194))
                 have n8_ := Aside0.mk ((by rw [hg]; exact Nat.ne_of_lt (blk_lt (g := gb184) (o := .cells #[.int .i64 ((rd_T30 x5_1 (ji13)).f0), .int .i64 ((rd_T30 x5_1 (ji13)).f1)] 30 (0, 0)) (by (with_reducible repeat (first | refine blk_drewN ?_ _ | refine blk_drew ?_ | refine blk_alloc ?_ _)); exact BK184.out)) : gb184 ≠ gb194))
                 have n9_ := Aside0.mk ((by rw [hg]; exact Nat.ne_of_gt (blk_lt (g := gb184) (o := .cells #[.int .i64 ((rd_T30 x5_1 (ji13)).f0), .int .i64 ((rd_T30 x5_1 (ji13)).f1)] 30 (0, 0)) (by (with_reducible repeat (first | refine blk_drewN ?_ _ | refine blk_drew ?_ | refine blk_alloc ?_ _)); exact BK184.out)) : gb194 ≠ gb184))
                 have n10_ := Aside0.mk ((by rw [hg]; exact Nat.ne_of_lt (IsS56.lt (show IsS56 w0 _ g s0_0 t186 from by repeat (first | (with_reducible first | exact HI0.out | apply IsS56.alloc | apply IsS56.drewN | apply IsS56.drew | apply IsS56.set_1 | refine IsS56.far ?_ NB0_184.out _) | exact HI0.out))) : g ≠ gb194))
                 have n11_ := Aside0.mk ((by rw [hg]; exact Nat.ne_of_gt (IsS56.lt (show IsS56 w0 _ g s0_0 t186 from by repeat (first | (with_reducible first | exact HI0.out | apply IsS56.alloc | apply IsS56.drewN | apply IsS56.drew | apply IsS56.set_1 | refine IsS56.far ?_ NB0_184.out _) | exact HI0.out))) : gb194 ≠ g))
                 clear HO_5
                 clear HI0
                 clear BK184
                 clear HK
                 clear HB
                 have HO_5 := n0_
                 have HI0 := n1_
                 have BK184 := n2_
                 have HK := n3_
                 have HB := n4_
                 have BK194 := n5_
                 have GW194 := n6_
                 have GE194 := n7_
                 have NB184_194 := n8_
                 have NB194_184 := n9_
                 have NB0_194 := n10_
                 have NB194_0 := n11_
                 clear n0_ n1_ n2_ n3_ n4_ n5_ n6_ n7_ n8_ n9_ n10_ n11_
                 clear hb hbox hg
                 refine hK.out _ _ ⟨(blk_cell BK184.out 0).trans rfl, (blk_cell BK184.out 1).trans rfl⟩ (fun hHeld => ?_)
                 clear hK K
                 refine norm_ (a' := ?_) ?_ ?_
                 rotate_left
                 ·
                  show Act.put _ (some 8) _ = _
                  simp only [Act.put, List.setIfInBounds_toArray, List.set_cons_zero, List.set_cons_succ, i64_w, i32_w]
                  rfl
                 exact norm_ (by first | (simp only [putAll, Act.put, List.setIfInBounds_toArray, List.set_cons_zero, List.set_cons_succ]; done) | (simp only [putAll, Act.put, List.setIfInBounds_toArray, List.set_cons_zero, List.set_cons_succ]; rfl)) (hJ5_12 (gb194) _ ⟨hHeld, (by (with_reducible repeat (first | apply Kd.R_alloc | apply Kd.R_drewN | apply Kd.R_drew)); exact HO_5.out), (by (with_reducible repeat (first | refine blk_drewN ?_ _ | refine blk_drew ?_ | refine blk_alloc ?_ _)); exact BK184.out), (by (with_reducible repeat (first | refine blk_drewN ?_ _ | refine blk_drew ?_ | refine blk_alloc ?_ _)); exact BK194.out), GW194.out, GE194.out, NB0_194.out, NB194_0.out, NB184_194.out, NB194_184.out, (by repeat (first | (with_reducible first | exact HI0.out | apply IsS56.alloc | apply IsS56.drewN | apply IsS56.drew | apply IsS56.set_1 | refine IsS56.far ?_ NB0_184.out _ | refine IsS56.far ?_ NB0_194.out _) | exact HI0.out)), (by repeat (first | (with_reducible first | exact HK.out | apply KeepBut.set_ | apply keep_drewN | apply keep_drew | apply keep_alloc | refine keep_far ?_ GW184.out _ | refine keep_far ?_ GW194.out _) | exact HK.out)), (by repeat (first | (with_reducible first | exact HB.out | apply below_alloc | apply pw_below_drewN | apply below_drew1 | refine below_set ?_ (IsS56.ge HI0.out) | refine below_set ?_ GE184.out | refine below_set ?_ GE194.out) | exact HB.out))⟩)
              ·
               skip
               rintro gb194 w59 ⟨hS_, h0_, h1_, h2_, h3_, h4_, h5_, h6_, h7_, h8_, h9_, h10_, h11_⟩
               have n0_ : Aside0 (Kd.R k30 30 w59 w.heap.size (fun k_ => k_ ≠ gb184 ∧ k_ ≠ gb194) (.slice (some ad183) x5_1.length co51) x5_1) := ⟨h0_⟩
               have n1_ : Aside0 (w59.heap[gb184]? = some (.cells #[.int .i64 ((rd_T30 x5_1 (ji13)).f0), .int .i64 ((rd_T30 x5_1 (ji13)).f1)] 30 (0, 0))) := ⟨h1_⟩
               have n2_ : Aside0 (w59.heap[gb194]? = some (.cells #[.int .i64 0, .int .i64 0] 30 (0, 0))) := ⟨h2_⟩
               have n3_ : Aside0 (w.heap.size ≤ gb194) := ⟨h3_⟩
               have n4_ : Aside0 (w0.heap.size ≤ gb194) := ⟨h4_⟩
               have n5_ : Aside0 (g ≠ gb194) := ⟨h5_⟩
               have n6_ : Aside0 (gb194 ≠ g) := ⟨h6_⟩
               have n7_ : Aside0 (gb184 ≠ gb194) := ⟨h7_⟩
               have n8_ : Aside0 (gb194 ≠ gb184) := ⟨h8_⟩
               have n9_ : Aside0 (IsS56 w0 w59 g s0_0 t186) := ⟨h9_⟩
               have n10_ : Aside0 (KeepBut w w59 g none) := ⟨h10_⟩
               have n11_ : Aside0 (Below w0.heap.size w0 w59) := ⟨h11_⟩
               clear HO_5
               clear BK184
               clear HI0
               clear HK
               clear HB
               clear h0_ h1_ h2_ h3_ h4_ h5_ h6_ h7_ h8_ h9_ h10_ h11_
               have HO_5 := n0_
               have BK184 := n1_
               have BK194 := n2_
               have GW194 := n3_
               have GE194 := n4_
               have NB0_194 := n5_
               have NB194_0 := n6_
               have NB184_194 := n7_
               have NB194_184 := n8_
               have HI0 := n9_
               have HK := n10_
               have HB := n11_
               clear n0_ n1_ n2_ n3_ n4_ n5_ n6_ n7_ n8_ n9_ n10_ n11_
               have hHeld : w59.cell? ⟨gb184, 0, none⟩ = some (.int .i64 ((rd_T30 x5_1 (ji13)).f0)) ∧ w59.cell? ⟨gb184, 1, none⟩ = some (.int .i64 ((rd_T30 x5_1 (ji13)).f1)) := hS_
               refine norm_ (a' := ?_) ?_ ?_
               rotate_left
               ·
                simp only [putAll, Act.put, List.setIfInBounds_toArray, List.set_cons_zero, List.set_cons_succ]
                rfl
               refine one_ (i := 6) (N := some 32) #[true, true, true, true, true, true, true, false, false, true, false, false, true, false] rfl rfl (one_of HT_.out (by kernel_rfl)) (by decide) (fun K hK => ?_)
               refine Kd.R_lit_step (Kd.int .i64) _ 3 ?hg (N := 32) ?hd (xs := ([0, 99, t185] : List Int)) (inner := [.int .i64 0, .int .i64 99, .int .i64 t185]) (ok := fun _ => True) (okp := fun _ => True) ?hr ?hp (fun _ hk => hk) trivial (Below.refl _ _) (Nat.le_refl _) (by simp) ?_; (case hd => rfl); (case hg => rfl); (case hr => first | (go_simp; done) | (go_simp; rfl)); (case hp => exact (Reps.one (show Kd.M (Kd.int .i64) _ _ _ 0 [.int .i64 0] from rfl) (Reps.one (show Kd.M (Kd.int .i64) _ _ _ 99 [.int .i64 99] from rfl) (Reps.one (show Kd.M (Kd.int .i64) _ _ _ t185 [.int .i64 t185] from rfl) (Reps.none _ _)))))
               intro v188 w60 ho61 hb hg_ hnew_
               clear hg_ hnew_
               (first | rw [← Ny187.out] at ho61 | (simp only [Int.reduceToNat] at ho61; rw [← Ny187.out] at ho61))
               have n0_ := Aside0.mk (Kd.R_below (by (with_reducible repeat (first | apply Kd.R_alloc | apply Kd.R_drewN | apply Kd.R_drew)); exact HO_5.out) hb)
               have n1_ := Aside0.mk (Kd.R_lower ho61 (keep_size (w := w) (g := g) (row := none) (by repeat (first | (with_reducible first | exact HK.out | apply KeepBut.set_ | apply keep_drewN | apply keep_drew | apply keep_alloc | refine keep_far ?_ GW184.out _ | refine keep_far ?_ GW194.out _) | exact HK.out))))
               have n2_ := Aside0.mk (IsS56.below (by repeat (first | (with_reducible first | exact HI0.out | apply IsS56.alloc | apply IsS56.drewN | apply IsS56.drew | apply IsS56.set_1 | refine IsS56.far ?_ NB0_184.out _ | refine IsS56.far ?_ NB0_194.out _) | exact HI0.out)) hb)
               have n3_ := Aside0.mk (blk_below (g := gb184) (o := .cells #[.int .i64 ((rd_T30 x5_1 (ji13)).f0), .int .i64 ((rd_T30 x5_1 (ji13)).f1)] 30 (0, 0)) (by (with_reducible repeat (first | refine blk_drewN ?_ _ | refine blk_drew ?_ | refine blk_alloc ?_ _)); exact BK184.out) hb)
               have n4_ := Aside0.mk (blk_below (g := gb194) (o := .cells #[.int .i64 0, .int .i64 0] 30 (0, 0)) (by (with_reducible repeat (first | refine blk_drewN ?_ _ | refine blk_drew ?_ | refine blk_alloc ?_ _)); exact BK194.out) hb)
               have n5_ := Aside0.mk (KeepBut.trans (by repeat (first | (with_reducible first | exact HK.out | apply KeepBut.set_ | apply keep_drewN | apply keep_drew | apply keep_alloc | refine keep_far ?_ GW184.out _ | refine keep_far ?_ GW194.out _) | exact HK.out)) (KeepBut.of_below hb g none) (.inl rfl))
               have n6_ := Aside0.mk (below_step (by repeat (first | (with_reducible first | exact HB.out | apply below_alloc | apply pw_below_drewN | apply below_drew1 | refine below_set ?_ (IsS56.ge HI0.out) | refine below_set ?_ GE184.out | refine below_set ?_ GE194.out) | exact HB.out)) hb)
               clear HO_5
               clear HI0
               clear BK184
               clear BK194
               clear HK
               clear HB
               have HO_5 := n0_
               have HO189 := n1_
               have HI0 := n2_
               have BK184 := n3_
               have BK194 := n4_
               have HK := n5_
               have HB := n6_
               clear n0_ n1_ n2_ n3_ n4_ n5_ n6_
               clear hb ho61
               refine hK.out _ _ ⟨(blk_cell BK184.out 0).trans rfl, (blk_cell BK184.out 1).trans rfl⟩ (fun hHeld => ?_)
               clear hK K
               refine norm_ (a' := ?_) ?_ ?_
               rotate_left
               ·
                show Act.put _ (some 32) _ = _
                simp only [Act.put, List.setIfInBounds_toArray, List.set_cons_zero, List.set_cons_succ, i64_w, i32_w]
                rfl
               exact norm_ (by first | (simp only [putAll, Act.put, List.setIfInBounds_toArray, List.set_cons_zero, List.set_cons_succ]; done) | (simp only [putAll, Act.put, List.setIfInBounds_toArray, List.set_cons_zero, List.set_cons_succ]; rfl)) (hJ5_6_12 (v188, gb194) _ ⟨hHeld, (by (with_reducible repeat (first | apply Kd.R_alloc | apply Kd.R_drewN | apply Kd.R_drew)); exact HO189.out), (by (with_reducible repeat (first | apply Kd.R_alloc | apply Kd.R_drewN | apply Kd.R_drew)); exact HO_5.out), (by (with_reducible repeat (first | refine blk_drewN ?_ _ | refine blk_drew ?_ | refine blk_alloc ?_ _)); exact BK184.out), (by (with_reducible repeat (first | refine blk_drewN ?_ _ | refine blk_drew ?_ | refine blk_alloc ?_ _)); exact BK194.out), GW194.out, GE194.out, NB0_194.out, NB194_0.out, NB184_194.out, NB194_184.out, (by repeat (first | (with_reducible first | exact HI0.out | apply IsS56.alloc | apply IsS56.drewN | apply IsS56.drew | apply IsS56.set_1 | refine IsS56.far ?_ NB0_184.out _ | refine IsS56.far ?_ NB0_194.out _) | exact HI0.out)), (by repeat (first | (with_reducible first | exact HK.out | apply KeepBut.set_ | apply keep_drewN | apply keep_drew | apply keep_alloc | refine keep_far ?_ GW184.out _ | refine keep_far ?_ GW194.out _) | exact HK.out)), (by repeat (first | (with_reducible first | exact HB.out | apply below_alloc | apply pw_below_drewN | apply below_drew1 | refine below_set ?_ (IsS56.ge HI0.out) | refine below_set ?_ GE184.out | refine below_set ?_ GE194.out) | exact HB.out))⟩)
             ·
              skip
              rintro v188 w60 ⟨hS_, h0_, h1_, h2_, h3_, h4_, h5_⟩
              have n0_ : Aside0 (Kd.R (Kd.int .i64) 3 w60 w.heap.size (fun _ => True) v188 y187) := ⟨h0_⟩
              have n1_ : Aside0 (Kd.R k30 30 w60 w.heap.size (fun k_ => k_ ≠ gb184) (.slice (some ad183) x5_1.length co51) x5_1) := ⟨h1_⟩
              have n2_ : Aside0 (w60.heap[gb184]? = some (.cells #[.int .i64 ((rd_T30 x5_1 (ji13)).f0), .int .i64 ((rd_T30 x5_1 (ji13)).f1)] 30 (0, 0))) := ⟨h2_⟩
              have n3_ : Aside0 (IsS56 w0 w60 g s0_0 t186) := ⟨h3_⟩
              have n4_ : Aside0 (KeepBut w w60 g none) := ⟨h4_⟩
              have n5_ : Aside0 (Below w0.heap.size w0 w60) := ⟨h5_⟩
              clear HO_5
              clear BK184
              clear HI0
              clear HK
              clear HB
              clear h0_ h1_ h2_ h3_ h4_ h5_
              have HO189 := n0_
              have HO_5 := n1_
              have BK184 := n2_
              have HI0 := n3_
              have HK := n4_
              have HB := n5_
              clear n0_ n1_ n2_ n3_ n4_ n5_
              have hHeld : w60.cell? ⟨gb184, 0, none⟩ = some (.int .i64 ((rd_T30 x5_1 (ji13)).f0)) ∧ w60.cell? ⟨gb184, 1, none⟩ = some (.int .i64 ((rd_T30 x5_1 (ji13)).f1)) := hS_
              obtain ⟨Ao61, co61, eo61⟩ := Kd.R_slice HO189.out
              (first | subst eo61 | (injection eo61 with f1_ f2_ f3_; have f4_ := f1_.symm; have f5_ := f3_.symm; clear f1_ f2_ f3_; subst f4_; subst f5_))
              refine norm_ (a' := ?_) ?_ ?_
              rotate_left
              ·
               simp only [putAll, Act.put, List.setIfInBounds_toArray, List.set_cons_zero, List.set_cons_succ]
               rfl
              refine two_ (i := 7) (j := 12) (Ni := some 33) (Nj := some 8) #[true, true, true, true, true, true, true, true, false, true, false, false, false, false] #[true, true, true, true, true, true, true, false, false, true, false, false, true, false] rfl rfl rfl rfl (two_of HT_.out (by kernel_rfl)) (by decide) (by decide) (fun K hK => ?_) (fun K hK => ?_)
              ·
               skip
               refine goes_ Try.func30 (by kernel_rfl) rfl #[.pointer (some ⟨g, 0, none⟩), .slice Ao61 y187.length co61] (by rfl) rfl rfl (by (try simp only [List.map_toArray, List.map_cons, List.map_nil]); first | done | rfl | (simp only [List.length_drop, List.length_take]; rfl)) ?_
               with_reducible refine (paygen_Deck_Pick.calls g s0_0 t186 _ _ y187 t190 t191 w0 _ ?side1 ?side2 ?side3 ?side4 ?side5 A17.out).mono ?_
               (case side1 => repeat (first | (with_reducible first | exact HI0.out | apply IsS56.alloc | apply IsS56.drewN | apply IsS56.drew | apply IsS56.set_1 | refine IsS56.far ?_ NB0_184.out _) | exact HI0.out))
               (case side2 => repeat (first | (with_reducible first | exact HB.out | apply below_alloc | apply pw_below_drewN | apply below_drew1 | refine below_set ?_ (IsS56.ge HI0.out) | refine below_set ?_ GE184.out) | exact HB.out))
               (case side3 => repeat (first | exact (Kd.R_reads' HO189.out).2.2 | (with_reducible refine Kd.C_alloc ?_ _) | (with_reducible refine Kd.C_drewN ?_ _) | (with_reducible refine Kd.C_drew ?_)))
               (case side4 => exact (Kd.R_reads' HO189.out).2.1)
               (case side5 => exact far_slice (IsS56.own_ne HI0.out HO189.out (by decide)))
               rintro e w62 ⟨rfl, hi, hb, hk⟩
               refine ⟨_, rfl, ?_⟩
               have n0_ := Aside0.mk (Kd.R_mono (Kd.R_keep (IsS56.apart (show IsS56 w0 _ g s0_0 t186 from by repeat (first | (with_reducible first | exact HI0.out | apply IsS56.alloc | apply IsS56.drewN | apply IsS56.drew | apply IsS56.set_1 | refine IsS56.far ?_ NB0_184.out _) | exact HI0.out)) (by (with_reducible repeat (first | apply Kd.R_alloc | apply Kd.R_drewN | apply Kd.R_drew)); exact HO_5.out) (by decide)) hk (fun _ h => h.2)) (fun _ h => h.1))
               have n1_ := Aside0.mk (KeepBut.blk hk (g' := gb184) (o := .cells #[.int .i64 ((rd_T30 x5_1 (ji13)).f0), .int .i64 ((rd_T30 x5_1 (ji13)).f1)] 30 (0, 0)) (by (with_reducible repeat (first | refine blk_drewN ?_ _ | refine blk_drew ?_ | refine blk_alloc ?_ _)); exact BK184.out) NB184_0.out (by simp))
               have n2_ := Aside0.mk (Kd.R_mono (Kd.R_keep (IsS56.apart (show IsS56 w0 _ g s0_0 t186 from by repeat (first | (with_reducible first | exact HI0.out | apply IsS56.alloc | apply IsS56.drewN | apply IsS56.drew | apply IsS56.set_1 | refine IsS56.far ?_ NB0_184.out _) | exact HI0.out)) (by (with_reducible repeat (first | apply Kd.R_alloc | apply Kd.R_drewN | apply Kd.R_drew)); exact HO189.out) (by decide)) hk (fun _ h => h.2)) (fun _ h => h.1))
               have n3_ := Aside0.mk (KeepBut.trans (by repeat (first | (with_reducible first | exact HK.out | apply KeepBut.set_ | apply keep_drewN | apply keep_drew | apply keep_alloc | refine keep_far ?_ GW184.out _) | exact HK.out)) hk (.inl rfl))
               have n4_ := Aside0.mk (hb)
               have n5_ := Aside0.mk (hi)
               clear HO_5
               clear BK184
               clear HO189
               clear HK
               clear HB
               clear HI0
               have HO_5 := n0_
               have BK184 := n1_
               have HO189 := n2_
               have HK := n3_
               have HB := n4_
               have HI0 := n5_
               clear n0_ n1_ n2_ n3_ n4_ n5_
               (try clear hb)
               (try clear hb2)
               (try clear hk)
               (try clear hi)
               refine hK.out _ _ ⟨(blk_cell BK184.out 0).trans rfl, (blk_cell BK184.out 1).trans rfl⟩ (fun hHeld => ?_)
               clear hK K
               refine norm_ (a' := ?_) ?_ ?_
               rotate_left
               ·
                show Act.put _ (some 33) _ = _
                simp only [Act.put, List.setIfInBounds_toArray, List.set_cons_zero, List.set_cons_succ, i64_w, i32_w]
                rfl
               refine pure_ (i := 8) (N := some 34) (v := ?_) (a' := ?_) #[true, true, true, true, true, true, true, true, true, true, false, false, false, false] rfl rfl (any_of HT_.out (by kernel_rfl)) (fun _ _ _ h => h) (Or.inl ⟨by rfl, ?_⟩) ?_ ?_
               rotate_left
               ·
                intro w'
                go_simp
                with_reducible rfl
               rotate_left
               ·
                simp only [Act.put, List.setIfInBounds_toArray, List.set_cons_zero, List.set_cons_succ, i64_w, i32_w]
                rfl
               exact norm_ (by first | (simp only [putAll, Act.put, List.setIfInBounds_toArray, List.set_cons_zero, List.set_cons_succ]; done) | (simp only [putAll, Act.put, List.setIfInBounds_toArray, List.set_cons_zero, List.set_cons_succ]; rfl)) (hJ5_6_7 (.slice Ao61 y187.length co61) _ ⟨hHeld, (by (with_reducible repeat (first | apply Kd.R_alloc | apply Kd.R_drewN | apply Kd.R_drew)); exact HO189.out), (by (with_reducible repeat (first | apply Kd.R_alloc | apply Kd.R_drewN | apply Kd.R_drew)); exact HO_5.out), (by (with_reducible repeat (first | refine blk_drewN ?_ _ | refine blk_drew ?_ | refine blk_alloc ?_ _)); exact BK184.out), (by repeat (first | (with_reducible first | exact HI0.out | apply IsS56.alloc | apply IsS56.drewN | apply IsS56.drew | apply IsS56.set_1 | refine IsS56.far ?_ NB0_184.out _) | exact HI0.out)), (by repeat (first | (with_reducible first | exact HK.out | apply KeepBut.set_ | apply keep_drewN | apply keep_drew | apply keep_alloc | refine keep_far ?_ GW184.out _) | exact HK.out)), (by repeat (first | (with_reducible first | exact HB.out | apply below_alloc | apply pw_below_drewN | apply below_drew1 | refine below_set ?_ (IsS56.ge HI0.out) | refine below_set ?_ GE184.out) | exact HB.out))⟩)
              ·
               skip
               refine box_step ?hg (N := 8) ?hd (cs := #[.int .i64 0, .int .i64 0]) (t := 30) ?hr ?_; (case hd => rfl); (case hg => rfl); (case hr => first | (go_simp; done) | (go_simp; rfl))
               intro gb194 hg w61 hbox hb
               have n0_ := Aside0.mk (Kd.R_below (Kd.R_elderB (by (with_reducible repeat (first | apply Kd.R_alloc | apply Kd.R_drewN | apply Kd.R_drew)); exact HO_5.out) gb194 (Nat.le_of_eq hg.symm)) hb)
               have n1_ := Aside0.mk (Kd.R_below (by (with_reducible repeat (first | apply Kd.R_alloc | apply Kd.R_drewN | apply Kd.R_drew)); exact HO189.out) hb)
               have n2_ := Aside0.mk (IsS56.below (by repeat (first | (with_reducible first | exact HI0.out | apply IsS56.alloc | apply IsS56.drewN | apply IsS56.drew | apply IsS56.set_1 | refine IsS56.far ?_ NB0_184.out _) | exact HI0.out)) hb)
               have n3_ := Aside0.mk (blk_below (g := gb184) (o := .cells #[.int .i64 ((rd_T30 x5_1 (ji13)).f0), .int .i64 ((rd_T30 x5_1 (ji13)).f1)] 30 (0, 0)) (by (with_reducible repeat (first | refine blk_drewN ?_ _ | refine blk_drew ?_ | refine blk_alloc ?_ _)); exact BK184.out) hb)
               have n4_ := Aside0.mk (KeepBut.trans (by repeat (first | (with_reducible first | exact HK.out | apply KeepBut.set_ | apply keep_drewN | apply keep_drew | apply keep_alloc | refine keep_far ?_ GW184.out _) | exact HK.out)) (KeepBut.of_below hb g none) (.inl rfl))
               have n5_ := Aside0.mk (below_step (by repeat (first | (with_reducible first | exact HB.out | apply below_alloc | apply pw_below_drewN | apply below_drew1 | refine below_set ?_ (IsS56.ge HI0.out) | refine below_set ?_ GE184.out) | exact HB.out)) hb)
               have n6_ := Aside0.mk (hbox)
               have n7_ := Aside0.mk ((by rw [hg]; exact (keep_size (w := w) (g := g) (row := none) (by repeat (first | (with_reducible first | exact HK.out | apply KeepBut.set_ | apply keep_drewN | apply keep_drew | apply keep_alloc | refine keep_far ?_ GW184.out _) | exact HK.out))) : w.heap.size ≤ gb194))
               have n8_ := Aside0.mk ((Nat.le_trans HW0.out (by rw [hg]; exact (keep_size (w := w) (g := g) (row := none) (by repeat (first | (with_reducible first | exact HK.out | apply KeepBut.set_ | apply keep_drewN | apply keep_drew | apply keep_alloc | refine keep_far ?_ GW184.out _) | exact HK.out))) : w.heap.size ≤ gb194) : w0.heap.size ≤ gb194))
               have n9_ := Aside0.mk ((by rw [hg]; exact Nat.ne_of_lt (blk_lt (g := gb184) (o := .cells #[.int .i64 ((rd_T30 x5_1 (ji13)).f0), .int .i64 ((rd_T30 x5_1 (ji13)).f1)] 30 (0, 0)) (by (with_reducible repeat (first | refine blk_drewN ?_ _ | refine blk_drew ?_ | refine blk_alloc ?_ _)); exact BK184.out)) : gb184 ≠ gb194))
               have n10_ := Aside0.mk ((by rw [hg]; exact Nat.ne_of_gt (blk_lt (g := gb184) (o := .cells #[.int .i64 ((rd_T30 x5_1 (ji13)).f0), .int .i64 ((rd_T30 x5_1 (ji13)).f1)] 30 (0, 0)) (by (with_reducible repeat (first | refine blk_drewN ?_ _ | refine blk_drew ?_ | refine blk_alloc ?_ _)); exact BK184.out)) : gb194 ≠ gb184))
               have n11_ := Aside0.mk ((by rw [hg]; exact Nat.ne_of_lt (IsS56.lt (show IsS56 w0 _ g s0_0 t186 from by repeat (first | (with_reducible first | exact HI0.out | apply IsS56.alloc | apply IsS56.drewN | apply IsS56.drew | apply IsS56.set_1 | refine IsS56.far ?_ NB0_184.out _) | exact HI0.out))) : g ≠ gb194))
               have n12_ := Aside0.mk ((by rw [hg]; exact Nat.ne_of_gt (IsS56.lt (show IsS56 w0 _ g s0_0 t186 from by repeat (first | (with_reducible first | exact HI0.out | apply IsS56.alloc | apply IsS56.drewN | apply IsS56.drew | apply IsS56.set_1 | refine IsS56.far ?_ NB0_184.out _) | exact HI0.out))) : gb194 ≠ g))
               clear HO_5
               clear HO189
               clear HI0
               clear BK184
               clear HK
               clear HB
               have HO_5 := n0_
               have HO189 := n1_
               have HI0 := n2_
               have BK184 := n3_
               have HK := n4_
               have HB := n5_
               have BK194 := n6_
               have GW194 := n7_
               have GE194 := n8_
               have NB184_194 := n9_
               have NB194_184 := n10_
               have NB0_194 := n11_
               have NB194_0 := n12_
               clear n0_ n1_ n2_ n3_ n4_ n5_ n6_ n7_ n8_ n9_ n10_ n11_ n12_
               clear hb hbox hg
               refine hK.out _ _ ⟨(blk_cell BK184.out 0).trans rfl, (blk_cell BK184.out 1).trans rfl⟩ (fun hHeld => ?_)
               clear hK K
               refine norm_ (a' := ?_) ?_ ?_
               rotate_left
               ·
                show Act.put _ (some 8) _ = _
                simp only [Act.put, List.setIfInBounds_toArray, List.set_cons_zero, List.set_cons_succ, i64_w, i32_w]
                rfl
               exact norm_ (by first | (simp only [putAll, Act.put, List.setIfInBounds_toArray, List.set_cons_zero, List.set_cons_succ]; done) | (simp only [putAll, Act.put, List.setIfInBounds_toArray, List.set_cons_zero, List.set_cons_succ]; rfl)) (hJ5_6_12 (.slice Ao61 y187.length co61, gb194) _ ⟨hHeld, (by (with_reducible repeat (first | apply Kd.R_alloc | apply Kd.R_drewN | apply Kd.R_drew)); exact HO189.out), (by (with_reducible repeat (first | apply Kd.R_alloc | apply Kd.R_drewN | apply Kd.R_drew)); exact HO_5.out), (by (with_reducible repeat (first | refine blk_drewN ?_ _ | refine blk_drew ?_ | refine blk_alloc ?_ _)); exact BK184.out), (by (with_reducible repeat (first | refine blk_drewN ?_ _ | refine blk_drew ?_ | refine blk_alloc ?_ _)); exact BK194.out), GW194.out, GE194.out, NB0_194.out, NB194_0.out, NB184_194.out, NB194_184.out, (by repeat (first | (with_reducible first | exact HI0.out | apply IsS56.alloc | apply IsS56.drewN | apply IsS56.drew | apply IsS56.set_1 | refine IsS56.far ?_ NB0_184.out _ | refine IsS56.far ?_ NB0_194.out _) | exact HI0.out)), (by repeat (first | (with_reducible first | exact HK.out | apply KeepBut.set_ | apply keep_drewN | apply keep_drew | apply keep_alloc | refine keep_far ?_ GW184.out _ | refine keep_far ?_ GW194.out _) | exact HK.out)), (by repeat (first | (with_reducible first | exact HB.out | apply below_alloc | apply pw_below_drewN | apply below_drew1 | refine below_set ?_ (IsS56.ge HI0.out) | refine below_set ?_ GE184.out | refine below_set ?_ GE194.out) | exact HB.out))⟩)
            ·
             skip
             rintro ⟨v188, gb194⟩ w61 ⟨hS_, h0_, h1_, h2_, h3_, h4_, h5_, h6_, h7_, h8_, h9_, h10_, h11_, h12_⟩
             have n0_ : Aside0 (Kd.R (Kd.int .i64) 3 w61 w.heap.size (fun _ => True) v188 y187) := ⟨h0_⟩
             have n1_ : Aside0 (Kd.R k30 30 w61 w.heap.size (fun k_ => k_ ≠ gb184 ∧ k_ ≠ gb194) (.slice (some ad183) x5_1.length co51) x5_1) := ⟨h1_⟩
             have n2_ : Aside0 (w61.heap[gb184]? = some (.cells #[.int .i64 ((rd_T30 x5_1 (ji13)).f0), .int .i64 ((rd_T30 x5_1 (ji13)).f1)] 30 (0, 0))) := ⟨h2_⟩
             have n3_ : Aside0 (w61.heap[gb194]? = some (.cells #[.int .i64 0, .int .i64 0] 30 (0, 0))) := ⟨h3_⟩
             have n4_ : Aside0 (w.heap.size ≤ gb194) := ⟨h4_⟩
             have n5_ : Aside0 (w0.heap.size ≤ gb194) := ⟨h5_⟩
             have n6_ : Aside0 (g ≠ gb194) := ⟨h6_⟩
             have n7_ : Aside0 (gb194 ≠ g) := ⟨h7_⟩
             have n8_ : Aside0 (gb184 ≠ gb194) := ⟨h8_⟩
             have n9_ : Aside0 (gb194 ≠ gb184) := ⟨h9_⟩
             have n10_ : Aside0 (IsS56 w0 w61 g s0_0 t186) := ⟨h10_⟩
             have n11_ : Aside0 (KeepBut w w61 g none) := ⟨h11_⟩
             have n12_ : Aside0 (Below w0.heap.size w0 w61) := ⟨h12_⟩
             clear HO_5
             clear BK184
             clear HI0
             clear HK
             clear HB
             clear h0_ h1_ h2_ h3_ h4_ h5_ h6_ h7_ h8_ h9_ h10_ h11_ h12_
             have HO189 := n0_
             have HO_5 := n1_
             have BK184 := n2_
             have BK194 := n3_
             have GW194 := n4_
             have GE194 := n5_
             have NB0_194 := n6_
             have NB194_0 := n7_
             have NB184_194 := n8_
             have NB194_184 := n9_
             have HI0 := n10_
             have HK := n11_
             have HB := n12_
             clear n0_ n1_ n2_ n3_ n4_ n5_ n6_ n7_ n8_ n9_ n10_ n11_ n12_
             have hHeld : w61.cell? ⟨gb184, 0, none⟩ = some (.int .i64 ((rd_T30 x5_1 (ji13)).f0)) ∧ w61.cell? ⟨gb184, 1, none⟩ = some (.int .i64 ((rd_T30 x5_1 (ji13)).f1)) := hS_
             obtain ⟨Ao62, co62, eo62⟩ := Kd.R_slice HO189.out
             (first | subst eo62 | (injection eo62 with f1_ f2_ f3_; have f4_ := f1_.symm; have f5_ := f3_.symm; clear f1_ f2_ f3_; subst f4_; subst f5_))
             refine norm_ (a' := ?_) ?_ ?_
             rotate_left
             ·
              simp only [putAll, Act.put, List.setIfInBounds_toArray, List.set_cons_zero, List.set_cons_succ]
              rfl
             refine one_ (i := 7) (N := some 33) #[true, true, true, true, true, true, true, true, false, true, false, false, true, false] rfl rfl (one_of HT_.out (by kernel_rfl)) (by decide) (fun K hK => ?_)
             refine goes_ Try.func30 (by kernel_rfl) rfl #[.pointer (some ⟨g, 0, none⟩), .slice Ao62 y187.length co62] (by rfl) rfl rfl (by (try simp only [List.map_toArray, List.map_cons, List.map_nil]); first | done | rfl | (simp only [List.length_drop, List.length_take]; rfl)) ?_
             with_reducible refine (paygen_Deck_Pick.calls g s0_0 t186 _ _ y187 t190 t191 w0 _ ?side1 ?side2 ?side3 ?side4 ?side5 A17.out).mono ?_
             (case side1 => repeat (first | (with_reducible first | exact HI0.out | apply IsS56.alloc | apply IsS56.drewN | apply IsS56.drew | apply IsS56.set_1 | refine IsS56.far ?_ NB0_184.out _ | refine IsS56.far ?_ NB0_194.out _) | exact HI0.out))
             (case side2 => repeat (first | (with_reducible first | exact HB.out | apply below_alloc | apply pw_below_drewN | apply below_drew1 | refine below_set ?_ (IsS56.ge HI0.out) | refine below_set ?_ GE184.out | refine below_set ?_ GE194.out) | exact HB.out))
             (case side3 => repeat (first | exact (Kd.R_reads' HO189.out).2.2 | (with_reducible refine Kd.C_alloc ?_ _) | (with_reducible refine Kd.C_drewN ?_ _) | (with_reducible refine Kd.C_drew ?_)))
             (case side4 => exact (Kd.R_reads' HO189.out).2.1)
             (case side5 => exact far_slice (IsS56.own_ne HI0.out HO189.out (by decide)))
             rintro e w63 ⟨rfl, hi, hb, hk⟩
             refine ⟨_, rfl, ?_⟩
             have n0_ := Aside0.mk (Kd.R_mono (Kd.R_keep (IsS56.apart (show IsS56 w0 _ g s0_0 t186 from by repeat (first | (with_reducible first | exact HI0.out | apply IsS56.alloc | apply IsS56.drewN | apply IsS56.drew | apply IsS56.set_1 | refine IsS56.far ?_ NB0_184.out _ | refine IsS56.far ?_ NB0_194.out _) | exact HI0.out)) (by (with_reducible repeat (first | apply Kd.R_alloc | apply Kd.R_drewN | apply Kd.R_drew)); exact HO_5.out) (by decide)) hk (fun _ h => h.2)) (fun _ h => h.1))
             have n1_ := Aside0.mk (KeepBut.blk hk (g' := gb184) (o := .cells #[.int .i64 ((rd_T30 x5_1 (ji13)).f0), .int .i64 ((rd_T30 x5_1 (ji13)).f1)] 30 (0, 0)) (by (with_reducible repeat (first | refine blk_drewN ?_ _ | refine blk_drew ?_ | refine blk_alloc ?_ _)); exact BK184.out) NB184_0.out (by simp))
             have n2_ := Aside0.mk (Kd.R_mono (Kd.R_keep (IsS56.apart (show IsS56 w0 _ g s0_0 t186 from by repeat (first | (with_reducible first | exact HI0.out | apply IsS56.alloc | apply IsS56.drewN | apply IsS56.drew | apply IsS56.set_1 | refine IsS56.far ?_ NB0_184.out _ | refine IsS56.far ?_ NB0_194.out _) | exact HI0.out)) (by (with_reducible repeat (first | apply Kd.R_alloc | apply Kd.R_drewN | apply Kd.R_drew)); exact HO189.out) (by decide)) hk (fun _ h => h.2)) (fun _ h => h.1))
             have n3_ := Aside0.mk (KeepBut.blk hk (g' := gb194) (o := .cells #[.int .i64 0, .int .i64 0] 30 (0, 0)) (by (with_reducible repeat (first | refine blk_drewN ?_ _ | refine blk_drew ?_ | refine blk_alloc ?_ _)); exact BK194.out) NB194_0.out (by simp))
             have n4_ := Aside0.mk (KeepBut.trans (by repeat (first | (with_reducible first | exact HK.out | apply KeepBut.set_ | apply keep_drewN | apply keep_drew | apply keep_alloc | refine keep_far ?_ GW184.out _ | refine keep_far ?_ GW194.out _) | exact HK.out)) hk (.inl rfl))
             have n5_ := Aside0.mk (hb)
             have n6_ := Aside0.mk (hi)
             clear HO_5
             clear BK184
             clear HO189
             clear BK194
             clear HK
             clear HB
             clear HI0
             have HO_5 := n0_
             have BK184 := n1_
             have HO189 := n2_
             have BK194 := n3_
             have HK := n4_
             have HB := n5_
             have HI0 := n6_
             clear n0_ n1_ n2_ n3_ n4_ n5_ n6_
             (try clear hb)
             (try clear hb2)
             (try clear hk)
             (try clear hi)
             refine hK.out _ _ ⟨(blk_cell BK184.out 0).trans rfl, (blk_cell BK184.out 1).trans rfl⟩ (fun hHeld => ?_)
             clear hK K
             refine norm_ (a' := ?_) ?_ ?_
             rotate_left
             ·
              show Act.put _ (some 33) _ = _
              simp only [Act.put, List.setIfInBounds_toArray, List.set_cons_zero, List.set_cons_succ, i64_w, i32_w]
              rfl
             refine pure_ (i := 8) (N := some 34) (v := ?_) (a' := ?_) #[true, true, true, true, true, true, true, true, true, true, false, false, true, false] rfl rfl (any_of HT_.out (by kernel_rfl)) (fun _ _ _ h => h) (Or.inl ⟨by rfl, ?_⟩) ?_ ?_
             rotate_left
             ·
              intro w'
              go_simp
              with_reducible rfl
             rotate_left
             ·
              simp only [Act.put, List.setIfInBounds_toArray, List.set_cons_zero, List.set_cons_succ, i64_w, i32_w]
              rfl
             exact norm_ (by first | (simp only [putAll, Act.put, List.setIfInBounds_toArray, List.set_cons_zero, List.set_cons_succ]; done) | (simp only [putAll, Act.put, List.setIfInBounds_toArray, List.set_cons_zero, List.set_cons_succ]; rfl)) (hJ5_6_7_12 (.slice Ao62 y187.length co62, gb194) _ ⟨hHeld, (by (with_reducible repeat (first | apply Kd.R_alloc | apply Kd.R_drewN | apply Kd.R_drew)); exact HO189.out), (by (with_reducible repeat (first | apply Kd.R_alloc | apply Kd.R_drewN | apply Kd.R_drew)); exact HO_5.out), (by (with_reducible repeat (first | refine blk_drewN ?_ _ | refine blk_drew ?_ | refine blk_alloc ?_ _)); exact BK184.out), (by (with_reducible repeat (first | refine blk_drewN ?_ _ | refine blk_drew ?_ | refine blk_alloc ?_ _)); exact BK194.out), GW194.out, GE194.out, NB0_194.out, NB194_0.out, NB184_194.out, NB194_184.out, (by repeat (first | (with_reducible first | exact HI0.out | apply IsS56.alloc | apply IsS56.drewN | apply IsS56.drew | apply IsS56.set_1 | refine IsS56.far ?_ NB0_184.out _ | refine IsS56.far ?_ NB0_194.out _) | exact HI0.out)), (by repeat (first | (with_reducible first | exact HK.out | apply KeepBut.set_ | apply keep_drewN | apply keep_drew | apply keep_alloc | refine keep_far ?_ GW184.out _ | refine keep_far ?_ GW194.out _) | exact HK.out)), (by repeat (first | (with_reducible first | exact HB.out | apply below_alloc | apply pw_below_drewN | apply below_drew1 | refine below_set ?_ (IsS56.ge HI0.out) | refine below_set ?_ GE184.out | refine below_set ?_ GE194.out) | exact HB.out))⟩)
           ·
            skip
            rintro v188 w62 ⟨hS_, h0_, h1_, h2_, h3_, h4_, h5_⟩
            have n0_ : Aside0 (Kd.R (Kd.int .i64) 3 w62 w.heap.size (fun _ => True) v188 y187) := ⟨h0_⟩
            have n1_ : Aside0 (Kd.R k30 30 w62 w.heap.size (fun k_ => k_ ≠ gb184) (.slice (some ad183) x5_1.length co51) x5_1) := ⟨h1_⟩
            have n2_ : Aside0 (w62.heap[gb184]? = some (.cells #[.int .i64 ((rd_T30 x5_1 (ji13)).f0), .int .i64 ((rd_T30 x5_1 (ji13)).f1)] 30 (0, 0))) := ⟨h2_⟩
            have n3_ : Aside0 (IsS56 w0 w62 g s0_0 t191) := ⟨h3_⟩
            have n4_ : Aside0 (KeepBut w w62 g none) := ⟨h4_⟩
            have n5_ : Aside0 (Below w0.heap.size w0 w62) := ⟨h5_⟩
            clear HO_5
            clear BK184
            clear HI0
            clear HK
            clear HB
            clear h0_ h1_ h2_ h3_ h4_ h5_
            have HO189 := n0_
            have HO_5 := n1_
            have BK184 := n2_
            have HI0 := n3_
            have HK := n4_
            have HB := n5_
            clear n0_ n1_ n2_ n3_ n4_ n5_
            have hHeld : w62.cell? ⟨gb184, 0, none⟩ = some (.int .i64 ((rd_T30 x5_1 (ji13)).f0)) ∧ w62.cell? ⟨gb184, 1, none⟩ = some (.int .i64 ((rd_T30 x5_1 (ji13)).f1)) := hS_
            refine norm_ (a' := ?_) ?_ ?_
            rotate_left
            ·
             simp only [putAll, Act.put, List.setIfInBounds_toArray, List.set_cons_zero, List.set_cons_succ]
             rfl
            refine two_ (i := 10) (j := 12) (Ni := some 36) (Nj := some 8) #[true, true, true, true, true, true, true, true, true, true, true, false, false, false] #[true, true, true, true, true, true, true, true, true, true, false, false, true, false] rfl rfl rfl rfl (two_of HT_.out (by kernel_rfl)) (by decide) (by decide) (fun K hK => ?_) (fun K hK => ?_)
            ·
             skip
             refine goes_ Try.func38 (by kernel_rfl) rfl #[.pointer (some ⟨g, 0, none⟩)] (by rfl) rfl rfl (by (try simp only [List.map_toArray, List.map_cons, List.map_nil]); first | done | rfl | (simp only [List.length_drop, List.length_take]; rfl)) ?_
             with_reducible refine (paygen_Deck_Rate.calls g s0_0 t191 t192 t193 w0 _ ?side1 ?side2 A18.out).mono ?_
             (case side1 => repeat (first | (with_reducible first | exact HI0.out | apply IsS56.alloc | apply IsS56.drewN | apply IsS56.drew | apply IsS56.set_1 | refine IsS56.far ?_ NB0_184.out _) | exact HI0.out))
             (case side2 => repeat (first | (with_reducible first | exact HB.out | apply below_alloc | apply pw_below_drewN | apply below_drew1 | refine below_set ?_ (IsS56.ge HI0.out) | refine below_set ?_ GE184.out) | exact HB.out))
             rintro e w63 ⟨rfl, hi, hb, hk⟩
             refine ⟨_, rfl, ?_⟩
             have n0_ := Aside0.mk (Kd.R_mono (Kd.R_keep (IsS56.apart (show IsS56 w0 _ g s0_0 t191 from by repeat (first | (with_reducible first | exact HI0.out | apply IsS56.alloc | apply IsS56.drewN | apply IsS56.drew | apply IsS56.set_1 | refine IsS56.far ?_ NB0_184.out _) | exact HI0.out)) (by (with_reducible repeat (first | apply Kd.R_alloc | apply Kd.R_drewN | apply Kd.R_drew)); exact HO_5.out) (by decide)) hk (fun _ h => h.2)) (fun _ h => h.1))
             have n1_ := Aside0.mk (KeepBut.blk hk (g' := gb184) (o := .cells #[.int .i64 ((rd_T30 x5_1 (ji13)).f0), .int .i64 ((rd_T30 x5_1 (ji13)).f1)] 30 (0, 0)) (by (with_reducible repeat (first | refine blk_drewN ?_ _ | refine blk_drew ?_ | refine blk_alloc ?_ _)); exact BK184.out) NB184_0.out (by simp))
             have n2_ := Aside0.mk (Kd.R_mono (Kd.R_keep (IsS56.apart (show IsS56 w0 _ g s0_0 t191 from by repeat (first | (with_reducible first | exact HI0.out | apply IsS56.alloc | apply IsS56.drewN | apply IsS56.drew | apply IsS56.set_1 | refine IsS56.far ?_ NB0_184.out _) | exact HI0.out)) (by (with_reducible repeat (first | apply Kd.R_alloc | apply Kd.R_drewN | apply Kd.R_drew)); exact HO189.out) (by decide)) hk (fun _ h => h.2)) (fun _ h => h.1))
             have n3_ := Aside0.mk (KeepBut.trans (by repeat (first | (with_reducible first | exact HK.out | apply KeepBut.set_ | apply keep_drewN | apply keep_drew | apply keep_alloc | refine keep_far ?_ GW184.out _) | exact HK.out)) hk (.inl rfl))
             have n4_ := Aside0.mk (hb)
             have n5_ := Aside0.mk (hi)
             clear HO_5
             clear BK184
             clear HO189
             clear HK
             clear HB
             clear HI0
             have HO_5 := n0_
             have BK184 := n1_
             have HO189 := n2_
             have HK := n3_
             have HB := n4_
             have HI0 := n5_
             clear n0_ n1_ n2_ n3_ n4_ n5_
             (try clear hb)
             (try clear hb2)
             (try clear hk)
             (try clear hi)
             refine hK.out _ _ ⟨(blk_cell BK184.out 0).trans rfl, (blk_cell BK184.out 1).trans rfl⟩ (fun hHeld => ?_)
             clear hK K
             refine norm_ (a' := ?_) ?_ ?_
             rotate_left
             ·
              show Act.put _ (some 36) _ = _
              simp only [Act.put, List.setIfInBounds_toArray, List.set_cons_zero, List.set_cons_succ, i64_w, i32_w]
              rfl
             refine pure_ (i := 11) (N := some 37) (v := ?_) (a' := ?_) #[true, true, true, true, true, true, true, true, true, true, true, true, false, false] rfl rfl (any_of HT_.out (by kernel_rfl)) (fun _ _ _ h => h) (Or.inl ⟨by rfl, ?_⟩) ?_ ?_
             rotate_left
             ·
              intro w'
              go_simp
              with_reducible rfl
             rotate_left
             ·
              simp only [Act.put, List.setIfInBounds_toArray, List.set_cons_zero, List.set_cons_succ, i64_w, i32_w]
              rfl
             exact norm_ (by first | (simp only [putAll, Act.put, List.setIfInBounds_toArray, List.set_cons_zero, List.set_cons_succ]; done) | (simp only [putAll, Act.put, List.setIfInBounds_toArray, List.set_cons_zero, List.set_cons_succ]; rfl)) (hJ5_6_7_10 (v188) _ ⟨hHeld, (by (with_reducible repeat (first | apply Kd.R_alloc | apply Kd.R_drewN | apply Kd.R_drew)); exact HO189.out), (by (with_reducible repeat (first | apply Kd.R_alloc | apply Kd.R_drewN | apply Kd.R_drew)); exact HO_5.out), (by (with_reducible repeat (first | refine blk_drewN ?_ _ | refine blk_drew ?_ | refine blk_alloc ?_ _)); exact BK184.out), (by repeat (first | (with_reducible first | exact HI0.out | apply IsS56.alloc | apply IsS56.drewN | apply IsS56.drew | apply IsS56.set_1 | refine IsS56.far ?_ NB0_184.out _) | exact HI0.out)), (by repeat (first | (with_reducible first | exact HK.out | apply KeepBut.set_ | apply keep_drewN | apply keep_drew | apply keep_alloc | refine keep_far ?_ GW184.out _) | exact HK.out)), (by repeat (first | (with_reducible first | exact HB.out | apply below_alloc | apply pw_below_drewN | apply below_drew1 | refine below_set ?_ (IsS56.ge HI0.out) | refine below_set ?_ GE184.out) | exact HB.out))⟩)
            ·
             skip
             refine box_step ?hg (N := 8) ?hd (cs := #[.int .i64 0, .int .i64 0]) (t := 30) ?hr ?_; (case hd => rfl); (case hg => rfl); (case hr => first | (go_simp; done) | (go_simp; rfl))
             intro gb194 hg w63 hbox hb
             have n0_ := Aside0.mk (Kd.R_below (Kd.R_elderB (by (with_reducible repeat (first | apply Kd.R_alloc | apply Kd.R_drewN | apply Kd.R_drew)); exact HO_5.out) gb194 (Nat.le_of_eq hg.symm)) hb)
             have n1_ := Aside0.mk (Kd.R_below (by (with_reducible repeat (first | apply Kd.R_alloc | apply Kd.R_drewN | apply Kd.R_drew)); exact HO189.out) hb)
             have n2_ := Aside0.mk (IsS56.below (by repeat (first | (with_reducible first | exact HI0.out | apply IsS56.alloc | apply IsS56.drewN | apply IsS56.drew | apply IsS56.set_1 | refine IsS56.far ?_ NB0_184.out _) | exact HI0.out)) hb)
             have n3_ := Aside0.mk (blk_below (g := gb184) (o := .cells #[.int .i64 ((rd_T30 x5_1 (ji13)).f0), .int .i64 ((rd_T30 x5_1 (ji13)).f1)] 30 (0, 0)) (by (with_reducible repeat (first | refine blk_drewN ?_ _ | refine blk_drew ?_ | refine blk_alloc ?_ _)); exact BK184.out) hb)
             have n4_ := Aside0.mk (KeepBut.trans (by repeat (first | (with_reducible first | exact HK.out | apply KeepBut.set_ | apply keep_drewN | apply keep_drew | apply keep_alloc | refine keep_far ?_ GW184.out _) | exact HK.out)) (KeepBut.of_below hb g none) (.inl rfl))
             have n5_ := Aside0.mk (below_step (by repeat (first | (with_reducible first | exact HB.out | apply below_alloc | apply pw_below_drewN | apply below_drew1 | refine below_set ?_ (IsS56.ge HI0.out) | refine below_set ?_ GE184.out) | exact HB.out)) hb)
             have n6_ := Aside0.mk (hbox)
             have n7_ := Aside0.mk ((by rw [hg]; exact (keep_size (w := w) (g := g) (row := none) (by repeat (first | (with_reducible first | exact HK.out | apply KeepBut.set_ | apply keep_drewN | apply keep_drew | apply keep_alloc | refine keep_far ?_ GW184.out _) | exact HK.out))) : w.heap.size ≤ gb194))
             have n8_ := Aside0.mk ((Nat.le_trans HW0.out (by rw [hg]; exact (keep_size (w := w) (g := g) (row := none) (by repeat (first | (with_reducible first | exact HK.out | apply KeepBut.set_ | apply keep_drewN | apply keep_drew | apply keep_alloc | refine keep_far ?_ GW184.out _) | exact HK.out))) : w.heap.size ≤ gb194) : w0.heap.size ≤ gb194))
             have n9_ := Aside0.mk ((by rw [hg]; exact Nat.ne_of_lt (blk_lt (g := gb184) (o := .cells #[.int .i64 ((rd_T30 x5_1 (ji13)).f0), .int .i64 ((rd_T30 x5_1 (ji13)).f1)] 30 (0, 0)) (by (with_reducible repeat (first | refine blk_drewN ?_ _ | refine blk_drew ?_ | refine blk_alloc ?_ _)); exact BK184.out)) : gb184 ≠ gb194))
             have n10_ := Aside0.mk ((by rw [hg]; exact Nat.ne_of_gt (blk_lt (g := gb184) (o := .cells #[.int .i64 ((rd_T30 x5_1 (ji13)).f0), .int .i64 ((rd_T30 x5_1 (ji13)).f1)] 30 (0, 0)) (by (with_reducible repeat (first | refine blk_drewN ?_ _ | refine blk_drew ?_ | refine blk_alloc ?_ _)); exact BK184.out)) : gb194 ≠ gb184))
             have n11_ := Aside0.mk ((by rw [hg]; exact Nat.ne_of_lt (IsS56.lt (show IsS56 w0 _ g s0_0 t191 from by repeat (first | (with_reducible first | exact HI0.out | apply IsS56.alloc | apply IsS56.drewN | apply IsS56.drew | apply IsS56.set_1 | refine IsS56.far ?_ NB0_184.out _) | exact HI0.out))) : g ≠ gb194))
             have n12_ := Aside0.mk ((by rw [hg]; exact Nat.ne_of_gt (IsS56.lt (show IsS56 w0 _ g s0_0 t191 from by repeat (first | (with_reducible first | exact HI0.out | apply IsS56.alloc | apply IsS56.drewN | apply IsS56.drew | apply IsS56.set_1 | refine IsS56.far ?_ NB0_184.out _) | exact HI0.out))) : gb194 ≠ g))
             clear HO_5
             clear HO189
             clear HI0
             clear BK184
             clear HK
             clear HB
             have HO_5 := n0_
             have HO189 := n1_
             have HI0 := n2_
             have BK184 := n3_
             have HK := n4_
             have HB := n5_
             have BK194 := n6_
             have GW194 := n7_
             have GE194 := n8_
             have NB184_194 := n9_
             have NB194_184 := n10_
             have NB0_194 := n11_
             have NB194_0 := n12_
             clear n0_ n1_ n2_ n3_ n4_ n5_ n6_ n7_ n8_ n9_ n10_ n11_ n12_
             clear hb hbox hg
             refine hK.out _ _ ⟨(blk_cell BK184.out 0).trans rfl, (blk_cell BK184.out 1).trans rfl⟩ (fun hHeld => ?_)
             clear hK K
             refine norm_ (a' := ?_) ?_ ?_
             rotate_left
             ·
              show Act.put _ (some 8) _ = _
              simp only [Act.put, List.setIfInBounds_toArray, List.set_cons_zero, List.set_cons_succ, i64_w, i32_w]
              rfl
             exact norm_ (by first | (simp only [putAll, Act.put, List.setIfInBounds_toArray, List.set_cons_zero, List.set_cons_succ]; done) | (simp only [putAll, Act.put, List.setIfInBounds_toArray, List.set_cons_zero, List.set_cons_succ]; rfl)) (hJ5_6_7_12 (v188, gb194) _ ⟨hHeld, (by (with_reducible repeat (first | apply Kd.R_alloc | apply Kd.R_drewN | apply Kd.R_drew)); exact HO189.out), (by (with_reducible repeat (first | apply Kd.R_alloc | apply Kd.R_drewN | apply Kd.R_drew)); exact HO_5.out), (by (with_reducible repeat (first | refine blk_drewN ?_ _ | refine blk_drew ?_ | refine blk_alloc ?_ _)); exact BK184.out), (by (with_reducible repeat (first | refine blk_drewN ?_ _ | refine blk_drew ?_ | refine blk_alloc ?_ _)); exact BK194.out), GW194.out, GE194.out, NB0_194.out, NB194_0.out, NB184_194.out, NB194_184.out, (by repeat (first | (with_reducible first | exact HI0.out | apply IsS56.alloc | apply IsS56.drewN | apply IsS56.drew | apply IsS56.set_1 | refine IsS56.far ?_ NB0_184.out _ | refine IsS56.far ?_ NB0_194.out _) | exact HI0.out)), (by repeat (first | (with_reducible first | exact HK.out | apply KeepBut.set_ | apply keep_drewN | apply keep_drew | apply keep_alloc | refine keep_far ?_ GW184.out _ | refine keep_far ?_ GW194.out _) | exact HK.out)), (by repeat (first | (with_reducible first | exact HB.out | apply below_alloc | apply pw_below_drewN | apply below_drew1 | refine below_set ?_ (IsS56.ge HI0.out) | refine below_set ?_ GE184.out | refine below_set ?_ GE194.out) | exact HB.out))⟩)
          ·
           skip
           rintro ⟨v188, gb194⟩ w63 ⟨hS_, h0_, h1_, h2_, h3_, h4_, h5_, h6_, h7_, h8_, h9_, h10_, h11_, h12_⟩
           have n0_ : Aside0 (Kd.R (Kd.int .i64) 3 w63 w.heap.size (fun _ => True) v188 y187) := ⟨h0_⟩
           have n1_ : Aside0 (Kd.R k30 30 w63 w.heap.size (fun k_ => k_ ≠ gb184 ∧ k_ ≠ gb194) (.slice (some ad183) x5_1.length co51) x5_1) := ⟨h1_⟩
           have n2_ : Aside0 (w63.heap[gb184]? = some (.cells #[.int .i64 ((rd_T30 x5_1 (ji13)).f0), .int .i64 ((rd_T30 x5_1 (ji13)).f1)] 30 (0, 0))) := ⟨h2_⟩
           have n3_ : Aside0 (w63.heap[gb194]? = some (.cells #[.int .i64 0, .int .i64 0] 30 (0, 0))) := ⟨h3_⟩
           have n4_ : Aside0 (w.heap.size ≤ gb194) := ⟨h4_⟩
           have n5_ : Aside0 (w0.heap.size ≤ gb194) := ⟨h5_⟩
           have n6_ : Aside0 (g ≠ gb194) := ⟨h6_⟩
           have n7_ : Aside0 (gb194 ≠ g) := ⟨h7_⟩
           have n8_ : Aside0 (gb184 ≠ gb194) := ⟨h8_⟩
           have n9_ : Aside0 (gb194 ≠ gb184) := ⟨h9_⟩
           have n10_ : Aside0 (IsS56 w0 w63 g s0_0 t191) := ⟨h10_⟩
           have n11_ : Aside0 (KeepBut w w63 g none) := ⟨h11_⟩
           have n12_ : Aside0 (Below w0.heap.size w0 w63) := ⟨h12_⟩
           clear HO_5
           clear BK184
           clear HI0
           clear HK
           clear HB
           clear h0_ h1_ h2_ h3_ h4_ h5_ h6_ h7_ h8_ h9_ h10_ h11_ h12_
           have HO189 := n0_
           have HO_5 := n1_
           have BK184 := n2_
           have BK194 := n3_
           have GW194 := n4_
           have GE194 := n5_
           have NB0_194 := n6_
           have NB194_0 := n7_
           have NB184_194 := n8_
           have NB194_184 := n9_
           have HI0 := n10_
           have HK := n11_
           have HB := n12_
           clear n0_ n1_ n2_ n3_ n4_ n5_ n6_ n7_ n8_ n9_ n10_ n11_ n12_
           have hHeld : w63.cell? ⟨gb184, 0, none⟩ = some (.int .i64 ((rd_T30 x5_1 (ji13)).f0)) ∧ w63.cell? ⟨gb184, 1, none⟩ = some (.int .i64 ((rd_T30 x5_1 (ji13)).f1)) := hS_
           refine norm_ (a' := ?_) ?_ ?_
           rotate_left
           ·
            simp only [putAll, Act.put, List.setIfInBounds_toArray, List.set_cons_zero, List.set_cons_succ]
            rfl
           refine one_ (i := 10) (N := some 36) #[true, true, true, true, true, true, true, true, true, true, true, false, true, false] rfl rfl (one_of HT_.out (by kernel_rfl)) (by decide) (fun K hK => ?_)
           refine goes_ Try.func38 (by kernel_rfl) rfl #[.pointer (some ⟨g, 0, none⟩)] (by rfl) rfl rfl (by (try simp only [List.map_toArray, List.map_cons, List.map_nil]); first | done | rfl | (simp only [List.length_drop, List.length_take]; rfl)) ?_
           with_reducible refine (paygen_Deck_Rate.calls g s0_0 t191 t192 t193 w0 _ ?side1 ?side2 A18.out).mono ?_
           (case side1 => repeat (first | (with_reducible first | exact HI0.out | apply IsS56.alloc | apply IsS56.drewN | apply IsS56.drew | apply IsS56.set_1 | refine IsS56.far ?_ NB0_184.out _ | refine IsS56.far ?_ NB0_194.out _) | exact HI0.out))
           (case side2 => repeat (first | (with_reducible first | exact HB.out | apply below_alloc | apply pw_below_drewN | apply below_drew1 | refine below_set ?_ (IsS56.ge HI0.out) | refine below_set ?_ GE184.out | refine below_set ?_ GE194.out) | exact HB.out))
           rintro e w64 ⟨rfl, hi, hb, hk⟩
           refine ⟨_, rfl, ?_⟩
           have n0_ := Aside0.mk (Kd.R_mono (Kd.R_keep (IsS56.apart (show IsS56 w0 _ g s0_0 t191 from by repeat (first | (with_reducible first | exact HI0.out | apply IsS56.alloc | apply IsS56.drewN | apply IsS56.drew | apply IsS56.set_1 | refine IsS56.far ?_ NB0_184.out _ | refine IsS56.far ?_ NB0_194.out _) | exact HI0.out)) (by (with_reducible repeat (first | apply Kd.R_alloc | apply Kd.R_drewN | apply Kd.R_drew)); exact HO_5.out) (by decide)) hk (fun _ h => h.2)) (fun _ h => h.1))
           have n1_ := Aside0.mk (KeepBut.blk hk (g' := gb184) (o := .cells #[.int .i64 ((rd_T30 x5_1 (ji13)).f0), .int .i64 ((rd_T30 x5_1 (ji13)).f1)] 30 (0, 0)) (by (with_reducible repeat (first | refine blk_drewN ?_ _ | refine blk_drew ?_ | refine blk_alloc ?_ _)); exact BK184.out) NB184_0.out (by simp))
           have n2_ := Aside0.mk (Kd.R_mono (Kd.R_keep (IsS56.apart (show IsS56 w0 _ g s0_0 t191 from by repeat (first | (with_reducible first | exact HI0.out | apply IsS56.alloc | apply IsS56.drewN | apply IsS56.drew | apply IsS56.set_1 | refine IsS56.far ?_ NB0_184.out _ | refine IsS56.far ?_ NB0_194.out _) | exact HI0.out)) (by (with_reducible repeat (first | apply Kd.R_alloc | apply Kd.R_drewN | apply Kd.R_drew)); exact HO189.out) (by decide)) hk (fun _ h => h.2)) (fun _ h => h.1))
           have n3_ := Aside0.mk (KeepBut.blk hk (g' := gb194) (o := .cells #[.int .i64 0, .int .i64 0] 30 (0, 0)) (by (with_reducible repeat (first | refine blk_drewN ?_ _ | refine blk_drew ?_ | refine blk_alloc ?_ _)); exact BK194.out) NB194_0.out (by simp))
           have n4_ := Aside0.mk (KeepBut.trans (by repeat (first | (with_reducible first | exact HK.out | apply KeepBut.set_ | apply keep_drewN | apply keep_drew | apply keep_alloc | refine keep_far ?_ GW184.out _ | refine keep_far ?_ GW194.out _) | exact HK.out)) hk (.inl rfl))
           have n5_ := Aside0.mk (hb)
           have n6_ := Aside0.mk (hi)
           clear HO_5
           clear BK184
           clear HO189
           clear BK194
           clear HK
           clear HB
           clear HI0
           have HO_5 := n0_
           have BK184 := n1_
           have HO189 := n2_
           have BK194 := n3_
           have HK := n4_
           have HB := n5_
           have HI0 := n6_
           clear n0_ n1_ n2_ n3_ n4_ n5_ n6_
           (try clear hb)
           (try clear hb2)
           (try clear hk)
           (try clear hi)
           refine hK.out _ _ ⟨(blk_cell BK184.out 0).trans rfl, (blk_cell BK184.out 1).trans rfl⟩ (fun hHeld => ?_)
           clear hK K
           refine norm_ (a' := ?_) ?_ ?_
           rotate_left
           ·
            show Act.put _ (some 36) _ = _
            simp only [Act.put, List.setIfInBounds_toArray, List.set_cons_zero, List.set_cons_succ, i64_w, i32_w]
            rfl
           refine pure_ (i := 11) (N := some 37) (v := ?_) (a' := ?_) #[true, true, true, true, true, true, true, true, true, true, true, true, true, false] rfl rfl (any_of HT_.out (by kernel_rfl)) (fun _ _ _ h => h) (Or.inl ⟨by rfl, ?_⟩) ?_ ?_
           rotate_left
           ·
            intro w'
            go_simp
            with_reducible rfl
           rotate_left
           ·
            simp only [Act.put, List.setIfInBounds_toArray, List.set_cons_zero, List.set_cons_succ, i64_w, i32_w]
            rfl
           exact norm_ (by first | (simp only [putAll, Act.put, List.setIfInBounds_toArray, List.set_cons_zero, List.set_cons_succ]; done) | (simp only [putAll, Act.put, List.setIfInBounds_toArray, List.set_cons_zero, List.set_cons_succ]; rfl)) (hJ5_6_7_10_12 (v188, gb194) _ ⟨hHeld, (by (with_reducible repeat (first | apply Kd.R_alloc | apply Kd.R_drewN | apply Kd.R_drew)); exact HO189.out), (by (with_reducible repeat (first | apply Kd.R_alloc | apply Kd.R_drewN | apply Kd.R_drew)); exact HO_5.out), (by (with_reducible repeat (first | refine blk_drewN ?_ _ | refine blk_drew ?_ | refine blk_alloc ?_ _)); exact BK184.out), (by (with_reducible repeat (first | refine blk_drewN ?_ _ | refine blk_drew ?_ | refine blk_alloc ?_ _)); exact BK194.out), GW194.out, GE194.out, NB0_194.out, NB194_0.out, NB184_194.out, NB194_184.out, (by repeat (first | (with_reducible first | exact HI0.out | apply IsS56.alloc | apply IsS56.drewN | apply IsS56.drew | apply IsS56.set_1 | refine IsS56.far ?_ NB0_184.out _ | refine IsS56.far ?_ NB0_194.out _) | exact HI0.out)), (by repeat (first | (with_reducible first | exact HK.out | apply KeepBut.set_ | apply keep_drewN | apply keep_drew | apply keep_alloc | refine keep_far ?_ GW184.out _ | refine keep_far ?_ GW194.out _) | exact HK.out)), (by repeat (first | (with_reducible first | exact HB.out | apply below_alloc | apply pw_below_drewN | apply below_drew1 | refine below_set ?_ (IsS56.ge HI0.out) | refine below_set ?_ GE184.out | refine below_set ?_ GE194.out) | exact HB.out))⟩)
         ·
          skip
          rintro v188 w63 ⟨hS_, h0_, h1_, h2_, h3_, h4_, h5_⟩
          have n0_ : Aside0 (Kd.R (Kd.int .i64) 3 w63 w.heap.size (fun _ => True) v188 y187) := ⟨h0_⟩
          have n1_ : Aside0 (Kd.R k30 30 w63 w.heap.size (fun k_ => k_ ≠ gb184) (.slice (some ad183) x5_1.length co51) x5_1) := ⟨h1_⟩
          have n2_ : Aside0 (w63.heap[gb184]? = some (.cells #[.int .i64 ((rd_T30 x5_1 (ji13)).f0), .int .i64 ((rd_T30 x5_1 (ji13)).f1)] 30 (0, 0))) := ⟨h2_⟩
          have n3_ : Aside0 (IsS56 w0 w63 g s0_0 t193) := ⟨h3_⟩
          have n4_ : Aside0 (KeepBut w w63 g none) := ⟨h4_⟩
          have n5_ : Aside0 (Below w0.heap.size w0 w63) := ⟨h5_⟩
          clear HO_5
          clear BK184
          clear HI0
          clear HK
          clear HB
          clear h0_ h1_ h2_ h3_ h4_ h5_
          have HO189 := n0_
          have HO_5 := n1_
          have BK184 := n2_
          have HI0 := n3_
          have HK := n4_
          have HB := n5_
          clear n0_ n1_ n2_ n3_ n4_ n5_
          have hHeld : w63.cell? ⟨gb184, 0, none⟩ = some (.int .i64 ((rd_T30 x5_1 (ji13)).f0)) ∧ w63.cell? ⟨gb184, 1, none⟩ = some (.int .i64 ((rd_T30 x5_1 (ji13)).f1)) := hS_
          refine norm_ (a' := ?_) ?_ ?_
          rotate_left
          ·
           simp only [putAll, Act.put, List.setIfInBounds_toArray, List.set_cons_zero, List.set_cons_succ]
           rfl
          refine one_ (i := 12) (N := some 8) #[true, true, true, true, true, true, true, true, true, true, true, true, true, false] rfl rfl (one_of HT_.out (by kernel_rfl)) (by decide) (fun K hK => ?_)
          refine box_step ?hg (N := 8) ?hd (cs := #[.int .i64 0, .int .i64 0]) (t := 30) ?hr ?_; (case hd => rfl); (case hg => rfl); (case hr => first | (go_simp; done) | (go_simp; rfl))
          intro gb194 hg w64 hbox hb
          have n0_ := Aside0.mk (Kd.R_below (Kd.R_elderB (by (with_reducible repeat (first | apply Kd.R_alloc | apply Kd.R_drewN | apply Kd.R_drew)); exact HO_5.out) gb194 (Nat.le_of_eq hg.symm)) hb)
          have n1_ := Aside0.mk (Kd.R_below (by (with_reducible repeat (first | apply Kd.R_alloc | apply Kd.R_drewN | apply Kd.R_drew)); exact HO189.out) hb)
          have n2_ := Aside0.mk (IsS56.below (by repeat (first | (with_reducible first | exact HI0.out | apply IsS56.alloc | apply IsS56.drewN | apply IsS56.drew | apply IsS56.set_1 | refine IsS56.far ?_ NB0_184.out _) | exact HI0.out)) hb)
          have n3_ := Aside0.mk (blk_below (g := gb184) (o := .cells #[.int .i64 ((rd_T30 x5_1 (ji13)).f0), .int .i64 ((rd_T30 x5_1 (ji13)).f1)] 30 (0, 0)) (by (with_reducible repeat (first | refine blk_drewN ?_ _ | refine blk_drew ?_ | refine blk_alloc ?_ _)); exact BK184.out) hb)
          have n4_ := Aside0.mk (KeepBut.trans (by repeat (first | (with_reducible first | exact HK.out | apply KeepBut.set_ | apply keep_drewN | apply keep_drew | apply keep_alloc | refine keep_far ?_ GW184.out _) | exact HK.out)) (KeepBut.of_below hb g none) (.inl rfl))
          have n5_ := Aside0.mk (below_step (by repeat (first | (with_reducible first | exact HB.out | apply below_alloc | apply pw_below_drewN | apply below_drew1 | refine below_set ?_ (IsS56.ge HI0.out) | refine below_set ?_ GE184.out) | exact HB.out)) hb)
          have n6_ := Aside0.mk (hbox)
          have n7_ := Aside0.mk ((by rw [hg]; exact (keep_size (w := w) (g := g) (row := none) (by repeat (first | (with_reducible first | exact HK.out | apply KeepBut.set_ | apply keep_drewN | apply keep_drew | apply keep_alloc | refine keep_far ?_ GW184.out _) | exact HK.out))) : w.heap.size ≤ gb194))
          have n8_ := Aside0.mk ((Nat.le_trans HW0.out (by rw [hg]; exact (keep_size (w := w) (g := g) (row := none) (by repeat (first | (with_reducible first | exact HK.out | apply KeepBut.set_ | apply keep_drewN | apply keep_drew | apply keep_alloc | refine keep_far ?_ GW184.out _) | exact HK.out))) : w.heap.size ≤ gb194) : w0.heap.size ≤ gb194))
          have n9_ := Aside0.mk ((by rw [hg]; exact Nat.ne_of_lt (blk_lt (g := gb184) (o := .cells #[.int .i64 ((rd_T30 x5_1 (ji13)).f0), .int .i64 ((rd_T30 x5_1 (ji13)).f1)] 30 (0, 0)) (by (with_reducible repeat (first | refine blk_drewN ?_ _ | refine blk_drew ?_ | refine blk_alloc ?_ _)); exact BK184.out)) : gb184 ≠ gb194))
          have n10_ := Aside0.mk ((by rw [hg]; exact Nat.ne_of_gt (blk_lt (g := gb184) (o := .cells #[.int .i64 ((rd_T30 x5_1 (ji13)).f0), .int .i64 ((rd_T30 x5_1 (ji13)).f1)] 30 (0, 0)) (by (with_reducible repeat (first | refine blk_drewN ?_ _ | refine blk_drew ?_ | refine blk_alloc ?_ _)); exact BK184.out)) : gb194 ≠ gb184))
          have n11_ := Aside0.mk ((by rw [hg]; exact Nat.ne_of_lt (IsS56.lt (show IsS56 w0 _ g s0_0 t193 from by repeat (first | (with_reducible first | exact HI0.out | apply IsS56.alloc | apply IsS56.drewN | apply IsS56.drew | apply IsS56.set_1 | refine IsS56.far ?_ NB0_184.out _) | exact HI0.out))) : g ≠ gb194))
          have n12_ := Aside0.mk ((by rw [hg]; exact Nat.ne_of_gt (IsS56.lt (show IsS56 w0 _ g s0_0 t193 from by repeat (first | (with_reducible first | exact HI0.out | apply IsS56.alloc | apply IsS56.drewN | apply IsS56.drew | apply IsS56.set_1 | refine IsS56.far ?_ NB0_184.out _) | exact HI0.out))) : gb194 ≠ g))
          clear HO_5
          clear HO189
          clear HI0
          clear BK184
          clear HK
          clear HB
          have HO_5 := n0_
          have HO189 := n1_
          have HI0 := n2_
          have BK184 := n3_
          have HK := n4_
          have HB := n5_
          have BK194 := n6_
          have GW194 := n7_
          have GE194 := n8_
          have NB184_194 := n9_
          have NB194_184 := n10_
          have NB0_194 := n11_
          have NB194_0 := n12_
          clear n0_ n1_ n2_ n3_ n4_ n5_ n6_ n7_ n8_ n9_ n10_ n11_ n12_
          clear hb hbox hg
          refine hK.out _ _ ⟨(blk_cell BK184.out 0).trans rfl, (blk_cell BK184.out 1).trans rfl⟩ (fun hHeld => ?_)
          clear hK K
          refine norm_ (a' := ?_) ?_ ?_
          rotate_left
          ·
           show Act.put _ (some 8) _ = _
           simp only [Act.put, List.setIfInBounds_toArray, List.set_cons_zero, List.set_cons_succ, i64_w, i32_w]
           rfl
          exact norm_ (by first | (simp only [putAll, Act.put, List.setIfInBounds_toArray, List.set_cons_zero, List.set_cons_succ]; done) | (simp only [putAll, Act.put, List.setIfInBounds_toArray, List.set_cons_zero, List.set_cons_succ]; rfl)) (hJ5_6_7_10_12 (v188, gb194) _ ⟨hHeld, (by (with_reducible repeat (first | apply Kd.R_alloc | apply Kd.R_drewN | apply Kd.R_drew)); exact HO189.out), (by (with_reducible repeat (first | apply Kd.R_alloc | apply Kd.R_drewN | apply Kd.R_drew)); exact HO_5.out), (by (with_reducible repeat (first | refine blk_drewN ?_ _ | refine blk_drew ?_ | refine blk_alloc ?_ _)); exact BK184.out), (by (with_reducible repeat (first | refine blk_drewN ?_ _ | refine blk_drew ?_ | refine blk_alloc ?_ _)); exact BK194.out), GW194.out, GE194.out, NB0_194.out, NB194_0.out, NB184_194.out, NB194_184.out, (by repeat (first | (with_reducible first | exact HI0.out | apply IsS56.alloc | apply IsS56.drewN | apply IsS56.drew | apply IsS56.set_1 | refine IsS56.far ?_ NB0_184.out _ | refine IsS56.far ?_ NB0_194.out _) | exact HI0.out)), (by repeat (first | (with_reducible first | exact HK.out | apply KeepBut.set_ | apply keep_drewN | apply keep_drew | apply keep_alloc | refine keep_far ?_ GW184.out _ | refine keep_far ?_ GW194.out _) | exact HK.out)), (by repeat (first | (with_reducible first | exact HB.out | apply below_alloc | apply pw_below_drewN | apply below_drew1 | refine below_set ?_ (IsS56.ge HI0.out) | refine below_set ?_ GE184.out | refine below_set ?_ GE194.out) | exact HB.out))⟩)
        rintro ⟨v188, gb194⟩ w64 ⟨hS_, h0_, h1_, h2_, h3_, h4_, h5_, h6_, h7_, h8_, h9_, h10_, h11_, h12_⟩
        have n0_ : Aside0 (Kd.R (Kd.int .i64) 3 w64 w.heap.size (fun _ => True) v188 y187) := ⟨h0_⟩
        have n1_ : Aside0 (Kd.R k30 30 w64 w.heap.size (fun k_ => k_ ≠ gb184 ∧ k_ ≠ gb194) (.slice (some ad183) x5_1.length co51) x5_1) := ⟨h1_⟩
        have n2_ : Aside0 (w64.heap[gb184]? = some (.cells #[.int .i64 ((rd_T30 x5_1 (ji13)).f0), .int .i64 ((rd_T30 x5_1 (ji13)).f1)] 30 (0, 0))) := ⟨h2_⟩
        have n3_ : Aside0 (w64.heap[gb194]? = some (.cells #[.int .i64 0, .int .i64 0] 30 (0, 0))) := ⟨h3_⟩
        have n4_ : Aside0 (w.heap.size ≤ gb194) := ⟨h4_⟩
        have n5_ : Aside0 (w0.heap.size ≤ gb194) := ⟨h5_⟩
        have n6_ : Aside0 (g ≠ gb194) := ⟨h6_⟩
        have n7_ : Aside0 (gb194 ≠ g) := ⟨h7_⟩
        have n8_ : Aside0 (gb184 ≠ gb194) := ⟨h8_⟩
        have n9_ : Aside0 (gb194 ≠ gb184) := ⟨h9_⟩
        have n10_ : Aside0 (IsS56 w0 w64 g s0_0 t193) := ⟨h10_⟩
        have n11_ : Aside0 (KeepBut w w64 g none) := ⟨h11_⟩
        have n12_ : Aside0 (Below w0.heap.size w0 w64) := ⟨h12_⟩
        clear HO_5
        clear BK184
        clear HI0
        clear HK
        clear HB
        clear h0_ h1_ h2_ h3_ h4_ h5_ h6_ h7_ h8_ h9_ h10_ h11_ h12_
        have HO189 := n0_
        have HO_5 := n1_
        have BK184 := n2_
        have BK194 := n3_
        have GW194 := n4_
        have GE194 := n5_
        have NB0_194 := n6_
        have NB194_0 := n7_
        have NB184_194 := n8_
        have NB194_184 := n9_
        have HI0 := n10_
        have HK := n11_
        have HB := n12_
        clear n0_ n1_ n2_ n3_ n4_ n5_ n6_ n7_ n8_ n9_ n10_ n11_ n12_
        have hHeld : w64.cell? ⟨gb184, 0, none⟩ = some (.int .i64 ((rd_T30 x5_1 (ji13)).f0)) ∧ w64.cell? ⟨gb184, 1, none⟩ = some (.int .i64 ((rd_T30 x5_1 (ji13)).f1)) := hS_
        refine norm_ (a' := ?_) ?_ ?_
        rotate_left
        ·
         simp only [putAll, Act.put, List.setIfInBounds_toArray, List.set_cons_zero, List.set_cons_succ]
         rfl
        refine one_ (i := 13) (N := none) #[true, true, true, true, true, true, true, true, true, true, true, true, true, true] rfl rfl (one_of HT_.out (by kernel_rfl)) (by decide) (fun K hK => ?_)
        have hs65 : w64.cell? ⟨gb194, 0, none⟩ = some (.int .i64 0) := (blk_cell BK194.out 0).trans rfl
        have hfs65 := blk_frozen BK194.out 0
        have hns65_0 := NB184_194.out
        have hms65_0 := NB194_184.out
        have hs66 : w64.cell? ⟨gb194, 1, none⟩ = some (.int .i64 0) := (blk_cell BK194.out 1).trans rfl
        have hfs66 := blk_frozen BK194.out 1
        have hns66_0 := NB184_194.out
        have hms66_0 := NB194_184.out
        refine skip_ (w1 := ?_) (by rfl) rfl ?_ ?_
        rotate_left
        ·
         go_simp
         rfl
        refine hK.out _ _ ⟨((cell_far (p := ⟨gb194, _, none⟩) NB184_194.out _).trans (((cell_far (p := ⟨gb194, _, none⟩) NB184_194.out _).trans (hHeld.1)))), ((cell_far (p := ⟨gb194, _, none⟩) NB184_194.out _).trans (((cell_far (p := ⟨gb194, _, none⟩) NB184_194.out _).trans (hHeld.2))))⟩ (fun hHeld => ?_)
        clear hK K
        refine done_ (done_of HT_.out (by kernel_rfl)) ?_
        have hnb67 := NB194_184.out
        have hnc67 := NB184_194.out
        have hnb68 := NB194_0.out
        have hnc68 := NB0_194.out
        have hcz69_0 : w64.cell? ⟨gb194, 0, none⟩ = some (.int .i64 0) := (blk_cell BK194.out 0).trans rfl
        have hcz69_1 : w64.cell? ⟨gb194, 1, none⟩ = some (.int .i64 0) := (blk_cell BK194.out 1).trans rfl
        have hfz69_0 := blk_frozen BK194.out 0
        have hfz69_1 := blk_frozen BK194.out 1
        try go_wp2_with (first | ((with_reducible refine gate_builtin (b := .append) (xs := #[.tmp 47, .tmp 49]) rfl ?_); at_builtin; refine Kd.R_append k30 w.heap.size rfl (.tmp 47) (.tmp 49) 22 30 (.agg #[(.int .i64 0), (.int .i64 0)]) 16 rfl Try.underlying22 info30 rfl (by decide) (by omega) (.slice (some ad183) x5_1.length co51) x5_1 (⟨wrap64 ((wrap64 (((rd_T30 x5_1 (ji13)).f0) + 1)) + t190), t192⟩ : S30) [.int .i64 (wrap64 ((wrap64 (((rd_T30 x5_1 (ji13)).f0) + 1)) + t190)), .int .i64 t192] (fun k_ => k_ ≠ gb184 ∧ k_ ≠ gb194) (fun _ => False) rfl (by first | (go_simp; done) | (go_simp; rfl)) ?aP (fun _ hk => hk.elim) ?aF ?aO (Below.refl _ _) ?aS ?aL ?_; (case aP => exact k30_mkM _ _ _ (⟨wrap64 ((wrap64 (((rd_T30 x5_1 (ji13)).f0) + 1)) + t190), t192⟩ : S30)); (case aF => exact (fun k_ hk => ⟨Kd.freshB (g := gb184) (o := .cells #[.int .i64 ((rd_T30 x5_1 (ji13)).f0), .int .i64 ((rd_T30 x5_1 (ji13)).f1)] 30 (0, 0)) (by (with_reducible repeat (first | refine blk_drewN ?_ _ | refine blk_drew ?_ | refine blk_alloc ?_ _)); refine blk_far ?_ NB184_194.out _; (with_reducible repeat (first | refine blk_drewN ?_ _ | refine blk_drew ?_ | refine blk_alloc ?_ _)); refine blk_far ?_ NB184_194.out _; (with_reducible repeat (first | refine blk_drewN ?_ _ | refine blk_drew ?_ | refine blk_alloc ?_ _)); exact BK184.out) k_ hk, Kd.freshB (g := gb194) (o := .cells #[.int .i64 (wrap64 ((wrap64 (((rd_T30 x5_1 (ji13)).f0) + 1)) + t190)), .int .i64 t192] 30 (0, 0)) (by (with_reducible repeat (first | refine blk_drewN ?_ _ | refine blk_drew ?_ | refine blk_alloc ?_ _)); refine blk_put (cs := #[.int .i64 (wrap64 ((wrap64 (((rd_T30 x5_1 (ji13)).f0) + 1)) + t190)), .int .i64 0]) ?_ 1 _ rfl; (with_reducible repeat (first | refine blk_drewN ?_ _ | refine blk_drew ?_ | refine blk_alloc ?_ _)); refine blk_put (cs := #[.int .i64 0, .int .i64 0]) ?_ 0 _ rfl; (with_reducible repeat (first | refine blk_drewN ?_ _ | refine blk_drew ?_ | refine blk_alloc ?_ _)); exact BK194.out) k_ hk⟩)); (case aO => exact (by (with_reducible repeat (first | apply Kd.R_alloc | apply Kd.R_drewN | apply Kd.R_drew)); exact Kd.R_mono (Kd.R_far (p := ⟨gb194, 1, none⟩) (Kd.R_far (p := ⟨gb194, 0, none⟩) (Kd.R_mono HO_5.out (fun k_ hk => (⟨hk, hk.2⟩ : _ ∧ k_ ≠ gb194))) (fun _ hk => hk.2) (.int .i64 (wrap64 ((wrap64 (((rd_T30 x5_1 (ji13)).f0) + 1)) + t190)))) (fun _ hk => hk.2) (.int .i64 t192)) (fun _ hk => ⟨hk.1.1, hk.1.2⟩))); (case aS => exact (keep_size (w := w) (g := g) (row := none) (by repeat (first | (with_reducible first | exact HK.out | apply KeepBut.set_ | apply keep_drewN | apply keep_drew | apply keep_alloc | refine keep_far ?_ GW184.out _ | refine keep_far ?_ GW194.out _) | exact HK.out)))); (case aL => have := LMc50.out; omega); intro v204 w70 ho hb hg hat; rw [← Ny203.out] at ho; have n0_ : Aside0 (IsS56 w0 w70 g s0_0 t193) := ⟨IsS56.grown (by repeat (first | (with_reducible first | exact HI0.out | apply IsS56.alloc | apply IsS56.drewN | apply IsS56.drew | apply IsS56.set_1 | refine IsS56.far ?_ NB0_184.out _ | refine IsS56.far ?_ NB0_194.out _) | exact HI0.out)) hg (IsS56.own_ne HI0.out HO_5.out (by decide))⟩; have n1_ := Aside0.mk (blk_grown (g := gb184) (o := .cells #[.int .i64 ((rd_T30 x5_1 (ji13)).f0), .int .i64 ((rd_T30 x5_1 (ji13)).f1)] 30 (0, 0)) (by (with_reducible repeat (first | refine blk_drewN ?_ _ | refine blk_drew ?_ | refine blk_alloc ?_ _)); refine blk_far ?_ NB184_194.out _; (with_reducible repeat (first | refine blk_drewN ?_ _ | refine blk_drew ?_ | refine blk_alloc ?_ _)); refine blk_far ?_ NB184_194.out _; (with_reducible repeat (first | refine blk_drewN ?_ _ | refine blk_drew ?_ | refine blk_alloc ?_ _)); exact BK184.out) hg (Kd.R_away HO_5.out (fun _ hk => hk.1))); have n3_ := Aside0.mk (blk_grown (g := gb194) (o := .cells #[.int .i64 (wrap64 ((wrap64 (((rd_T30 x5_1 (ji13)).f0) + 1)) + t190)), .int .i64 t192] 30 (0, 0)) (by (with_reducible repeat (first | refine blk_drewN ?_ _ | refine blk_drew ?_ | refine blk_alloc ?_ _)); refine blk_put (cs := #[.int .i64 (wrap64 ((wrap64 (((rd_T30 x5_1 (ji13)).f0) + 1)) + t190)), .int .i64 0]) ?_ 1 _ rfl; (with_reducible repeat (first | refine blk_drewN ?_ _ | refine blk_drew ?_ | refine blk_alloc ?_ _)); refine blk_put (cs := #[.int .i64 0, .int .i64 0]) ?_ 0 _ rfl; (with_reducible repeat (first | refine blk_drewN ?_ _ | refine blk_drew ?_ | refine blk_alloc ?_ _)); exact BK194.out) hg (Kd.R_away HO_5.out (fun _ hk => hk.2))); have n4_ := Aside0.mk (below_weaken (by repeat (first | (with_reducible first | exact HB.out | apply below_alloc | apply pw_below_drewN | apply below_drew1 | refine below_set ?_ (IsS56.ge HI0.out) | refine below_set ?_ GE184.out | refine below_set ?_ GE194.out) | exact HB.out)) HL.out hb); have n5_ := Aside0.mk (KeepBut.trans (by repeat (first | (with_reducible first | exact HK.out | apply KeepBut.set_ | apply keep_drewN | apply keep_drew | apply keep_alloc | refine keep_far ?_ GW184.out _ | refine keep_far ?_ GW194.out _) | exact HK.out)) (KeepBut.of_grown hg g) (Kd.R_base2 HO_5.out)); have n6_ := Aside0.mk (ho); clear HI0; clear BK184; clear HO189; clear BK194; clear HB; clear HK; clear HO_5; have HI0 := n0_; have BK184 := n1_; have BK194 := n3_; have HB := n4_; have HK := n5_; have HO205 := n6_; clear n0_ n1_ n3_ n4_ n5_ n6_; clear ho hb hg hat))
        go_roundg k1
        case measure => have := HK1.out; omega
        case rel => exact ⟨(y203), (wrap64 (x6_1 - 1)), (t193), (by first | rfl | (simp; done) | (simp [*]; done)), H', ⟨by have := HK1.out; omega⟩, ⟨by (with_reducible repeat (first | apply Kd.R_alloc | apply Kd.R_drewN | apply Kd.R_drew)); exact Kd.R_mono HO205.out (fun _ hk => trivial)⟩, ⟨by repeat (first | (with_reducible first | exact HI0.out | apply IsS56.alloc | apply IsS56.drewN | apply IsS56.drew | apply IsS56.set_1 | refine IsS56.far ?_ NB0_184.out _ | refine IsS56.far ?_ NB0_194.out _) | exact HI0.out)⟩, ⟨by repeat (first | (with_reducible first | exact HK.out | apply KeepBut.set_ | apply keep_drewN | apply keep_drew | apply keep_alloc | refine keep_far ?_ GW184.out _ | refine keep_far ?_ GW194.out _) | exact HK.out)⟩, ⟨by repeat (first | (with_reducible first | exact HB.out | apply below_alloc | apply pw_below_drewN | apply below_drew1 | refine below_set ?_ (IsS56.ge HI0.out) | refine below_set ?_ GE184.out | refine below_set ?_ GE194.out) | exact HB.out)⟩⟩
       ·
        rw [if_neg c50] at H
        exact absurd H (by simp)
     ·
      rw [if_neg c15] at H
      exact absurd H (by simp)
    ·
     rw [if_neg c14] at H
     exact absurd H (by simp)
   ·
    rw [if_neg c12] at H
    have c12b0 : decide (0 < x6_1) = false := decide_eq_false c12
    clear c12
    simp only [Option.some.injEq, Prod.mk.injEq] at H
    obtain ⟨rfl, rfl⟩ := H
    go_wp2
    go_ret
    exact ⟨_, by first | rfl | (simp [errW_none, errW_some] <;> rfl) | (simp [*, errW_none, errW_some] <;> rfl), by (with_reducible repeat (first | apply Kd.R_alloc | apply Kd.R_drewN | apply Kd.R_drew)); exact HO_5.out, by repeat (first | (with_reducible first | exact HI0.out | apply IsS56.alloc | apply IsS56.drewN | apply IsS56.drew | apply IsS56.set_1) | exact HI0.out), by repeat (first | (with_reducible first | exact HB.out | apply below_alloc | apply pw_below_drewN | apply below_drew1 | refine below_set ?_ (IsS56.ge HI0.out)) | exact HB.out), by repeat (first | (with_reducible first | exact HK.out | apply KeepBut.set_ | apply keep_drewN | apply keep_drew | apply keep_alloc) | exact HK.out)⟩

end Go.Proofs.Ytafoplpaoahdiaa.P
