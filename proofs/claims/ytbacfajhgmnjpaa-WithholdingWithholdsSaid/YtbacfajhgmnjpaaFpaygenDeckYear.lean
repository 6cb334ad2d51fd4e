/- Proved here: that the Go function paygen_Deck_Year computes the plain function of that name (the machine side of the laws, reworked from a print; no condition of its own). -/
import Derived.Test.YtbacfajhgmnjpaaProg
import Derived.Test.YtbacfajhgmnjpaaV1
import Derived.Test.YtbacfajhgmnjpaaV2
import Derived.Test.YtbacfajhgmnjpaaFPRE
import Derived.Test.YtbacfajhgmnjpaaFpaygen
import Derived.Test.YtbacfajhgmnjpaaFpaygenDeckBases
import Derived.Test.YtbacfajhgmnjpaaFpaygenDeckRecord
namespace Go.Proofs.Ytbacfajhgmnjpaa.P
open Go.RowKit Go.Proofs.YtbacfajhgmnjpaaW.PrintWords Go.Proofs.YtbacfajhgmnjpaaW.PrintLast Go.Proofs.YtbacfajhgmnjpaaW.PrintMore
attribute [local go_sem] max2_int min2_int max_two min_two max_three min_three max_four min_four   -- for this text's walks alone
set_option linter.unusedVariables false
set_option linter.unusedSimpArgs false

def paygen_Deck_Year.l0 : Nat → Int → Int → List Int → Int → Int → Int → Int → List Int → List (S61) → Option (Int × Int × Int × List Int × (List (S61)) × Int)
 | 0, _, _, _, _, _, _, _, _, _ => none
 | k + 1, x1, x6, x1000, x1001, x379000, x379001, x379002, x379003, x379004 => if x6 < x1 then ((paygen_Deck_Small.f x1000 x1001).bind fun bt379 => ((paygen_Deck_Next.f x1000 bt379.2 60000).bind fun bt381 => (paygen_Deck_Year.l0 k x1 (wrap64 (x6 + 1)) x1000 bt381.2 x379000 (wrap64 (x379001 + bt379.1)) (wrap64 (x379002 + bt381.1)) x379003 x379004))) else (some (x379000, x379001, x379002, x379003, x379004, x1001))
def paygen_Deck_Year.f (k : Nat) (s0_0 : List Int) (s0_1 : Int) (a1 : Int) : Option (Int × Int × Int × List Int × (List (S61)) × Int) := (paygen_Deck_Bases.f k s0_0 s0_1 a1).bind fun bt370 => ((paygen_Deck_Record.f k s0_0 bt370.2).bind fun bt374 => (paygen_Deck_Year.l0 k a1 0 s0_0 bt374.2 a1 0 0 bt370.1 bt374.1))
set_option maxHeartbeats 8000000 in
set_option maxRecDepth 100000 in
theorem paygen_Deck_Year.calls (k : Nat) (g : Nat) (s0_0 : List Int) (s0_1 : Int) (a1 : Int) (r1 : Int) (r2 : Int) (r3 : Int) (r4 : List Int) (r5 : List (S61)) (r6 : Int) (w0 w : World) (hI : IsS63 w0 w g s0_0 s0_1) (hB : Below w0.heap.size w0 w) (h : paygen_Deck_Year.f k s0_0 s0_1 a1 = some (r1, r2, r3, r4, r5, r6)) :
  Calls Try.prog 16 #[.pointer (some ⟨g, 0, none⟩), .int .i64 a1] w fun e w' => ∃ v3_ v4_ : Value, e = .returned (.agg #[.int .i64 r1, .int .i64 r2, .int .i64 r3, v3_, v4_]) ∧ Kd.R (Kd.int .i64) 3 w' w.heap.size (fun _ => True) v3_ r4 ∧ Kd.R k61 61 w' w.heap.size (fun _ => True) v4_ r5 ∧ IsS63 w0 w' g s0_0 r6 ∧ Below w0.heap.size w0 w' ∧ KeepBut w w' g none := by
 have hu25 := Try.underlying25
 have HI0 := Aside0.mk hI
 have HK := Aside0.mk (KeepBut.refl w g none)
 have HL := Aside0.mk hB.size
 clear hI
 have HW0 := Aside0.mk hB.size
 have HB := Aside0.mk hB
 clear hB
 have H : ((paygen_Deck_Bases.f k s0_0 s0_1 a1).bind fun bt370 => ((paygen_Deck_Record.f k s0_0 bt370.2).bind fun bt374 => (paygen_Deck_Year.l0 k a1 0 s0_0 bt374.2 a1 0 0 bt370.1 bt374.1))) = some (r1, r2, r3, r4, r5, r6) := h
 clear h
 replace H := Option.bind_eq_some_iff.mp H
 obtain ⟨⟨t370, t373⟩, A30, H⟩ := H
 try dsimp only at H
 have A3 := Aside0.mk A30
 clear A30
 replace H := Option.bind_eq_some_iff.mp H
 obtain ⟨⟨t374, t377⟩, A40, H⟩ := H
 try dsimp only at H
 have A4 := Aside0.mk A40
 clear A40
 have H' := Aside0.mk H
 clear H
 go_enter Try.func16, Try.ntmps16
 go_wp2_with (first | ((with_reducible refine gate_dst (N := 4) rfl ?_); refine box_event ?hg (N := 4) ?hd (cs := #[.int .i64 0, .int .i64 0, .int .i64 0, .slice none 0 0, .slice none 0 0]) (t := 25) ?hr ?_; (case hd => rfl); (case hg => rfl); (case hr => first | (go_simp; done) | (go_simp; rfl)); intro gb369 hg w5 hbox hb; have n0_ := Aside0.mk (IsS63.below q3 hb); have n1_ := Aside0.mk (KeepBut.trans q5 (KeepBut.of_below hb g none) (.inl rfl)); have n2_ := Aside0.mk (below_step q7 hb); have n3_ := Aside0.mk (hbox); have n4_ := Aside0.mk ((by rw [hg]; exact (keep_size (w := w) (g := g) (row := none) q5) : w.heap.size ≤ gb369)); have n5_ := Aside0.mk ((Nat.le_trans HW0.out (by rw [hg]; exact (keep_size (w := w) (g := g) (row := none) q5) : w.heap.size ≤ gb369) : w0.heap.size ≤ gb369)); have n6_ := Aside0.mk ((by rw [hg]; exact Nat.ne_of_lt (IsS63.lt (show IsS63 w0 _ g s0_0 s0_1 from q3)) : g ≠ gb369)); have n7_ := Aside0.mk ((by rw [hg]; exact Nat.ne_of_gt (IsS63.lt (show IsS63 w0 _ g s0_0 s0_1 from q3)) : gb369 ≠ g)); clear HI0; clear HK; clear HB; have HI0 := n0_; have HK := n1_; have HB := n2_; have BK369 := n3_; have GW369 := n4_; have GE369 := n5_; have NB0_369 := n6_; have NB369_0 := n7_; clear n0_ n1_ n2_ n3_ n4_ n5_ n6_ n7_; clear hb hbox hg) | ((with_reducible refine gate_callee (f := 30) rfl ?_); refine goesL_ (some 10) rfl rfl Try.func30 (by kernel_rfl) rfl #[.pointer (some ⟨g, 0, none⟩), .int .i64 a1] rfl q1 ?_; (with_reducible refine (paygen_Deck_Bases.calls k g s0_0 s0_1 a1 t370 t373 w0 _ ?side1 ?side2 A3.out).mono ?_); (case side1 => exact q120); (case side2 => exact (by repeat (first | (with_reducible first | exact HB.out | apply below_alloc | apply pw_below_drewN | apply below_drew1 | refine below_set ?_ (IsS63.ge HI0.out) | refine below_set ?_ GE369.out) | exact HB.out))); rintro e w6 ⟨v371, rfl, ho0, hi, hb, hk⟩; refine ⟨_, rfl, ?_⟩; have n0_ := Aside0.mk (KeepBut.blk hk BK369.out NB369_0.out (by simp)); have n1_ := Aside0.mk (Kd.R_lower ho0 (keep_size (w := w) (g := g) (row := none) q107)); have n2_ := Aside0.mk (KeepBut.trans q107 hk (.inl rfl)); have n3_ := Aside0.mk (hb); have n4_ := Aside0.mk (hi); clear BK369; clear HK; clear HB; clear HI0; have BK369 := n0_; have HO372 := n1_; have HK := n2_; have HB := n3_; have HI0 := n4_; clear n0_ n1_ n2_ n3_ n4_; (try clear hb); (try clear hb2); (try clear hk); (try clear hi); (try clear ho0)) | ((with_reducible refine gate_callee (f := 39) rfl ?_); refine goesL_ (some 12) rfl rfl Try.func39 (by kernel_rfl) rfl #[.pointer (some ⟨g, 0, none⟩)] rfl q1 ?_; (with_reducible refine (paygen_Deck_Record.calls k g s0_0 t373 t374 t377 w0 _ ?side1 ?side2 A4.out).mono ?_); (case side1 => exact q120); (case side2 => exact (by repeat (first | (with_reducible first | exact HB.out | apply below_alloc | apply pw_below_drewN | apply below_drew1 | refine below_set ?_ (IsS63.ge HI0.out) | refine below_set ?_ GE369.out) | exact HB.out))); rintro e w7 ⟨v375, rfl, ho0, hi, hb, hk⟩; refine ⟨_, rfl, ?_⟩; have n0_ := Aside0.mk (KeepBut.blk hk BK369.out NB369_0.out (by simp)); have n1_ := Aside0.mk (Kd.R_mono (Kd.R_keep (IsS63.apart (show IsS63 w0 _ g s0_0 t373 from q120) (by (with_reducible repeat (first | apply Kd.R_alloc | apply Kd.R_drewN | apply Kd.R_drew)); exact HO372.out) (by decide)) hk (fun _ h => h.2)) (fun _ h => h.1)); have n2_ := Aside0.mk (Kd.R_lower ho0 (keep_size (w := w) (g := g) (row := none) q107)); have n3_ := Aside0.mk (KeepBut.trans q107 hk (.inl rfl)); have n4_ := Aside0.mk (hb); have n5_ := Aside0.mk (hi); clear BK369; clear HO372; clear HK; clear HB; clear HI0; have BK369 := n0_; have HO372 := n1_; have HO376 := n2_; have HK := n3_; have HB := n4_; have HI0 := n5_; clear n0_ n1_ n2_ n3_ n4_ n5_; (try clear hb); (try clear hb2); (try clear hk); (try clear hi); (try clear ho0); obtain ⟨Ao8, co8, eo8⟩ := Kd.R_slice HO376.out; subst eo8; obtain ⟨Ao9, co9, eo9⟩ := Kd.R_slice HO372.out; subst eo9) | ((with_reducible refine gate_dst (N := 5) rfl ?_); refine box_event ?hg (N := 5) ?hd (cs := #[.int .i64 0, .int .i64 0, .int .i64 0, .slice none 0 0, .slice none 0 0]) (t := 25) ?hr ?_; (case hd => rfl); (case hg => rfl); (case hr => first | (go_simp; done) | (go_simp; rfl)); intro gb378 hg w10 hbox hb; have n0_ := Aside0.mk (Kd.R_below (by (with_reducible repeat (first | apply Kd.R_alloc | apply Kd.R_drewN | apply Kd.R_drew)); exact HO372.out) hb); have n1_ := Aside0.mk (Kd.R_below (by (with_reducible repeat (first | apply Kd.R_alloc | apply Kd.R_drewN | apply Kd.R_drew)); exact HO376.out) hb); have n2_ := Aside0.mk (IsS63.below q120 hb); have n3_ := Aside0.mk (blk_below BK369.out hb); have n4_ := Aside0.mk (KeepBut.trans q107 (KeepBut.of_below hb g none) (.inl rfl)); have n5_ := Aside0.mk (below_step (by repeat (first | (with_reducible first | exact HB.out | apply below_alloc | apply pw_below_drewN | apply below_drew1 | refine below_set ?_ (IsS63.ge HI0.out) | refine below_set ?_ GE369.out) | exact HB.out)) hb); have n6_ := Aside0.mk (hbox); have n7_ := Aside0.mk ((by rw [hg]; exact (keep_size (w := w) (g := g) (row := none) q107) : w.heap.size ≤ gb378)); have n8_ := Aside0.mk ((Nat.le_trans HW0.out (by rw [hg]; exact (keep_size (w := w) (g := g) (row := none) q107) : w.heap.size ≤ gb378) : w0.heap.size ≤ gb378)); have n9_ := Aside0.mk ((by rw [hg]; exact Nat.ne_of_lt (blk_lt BK369.out) : gb369 ≠ gb378)); have n10_ := Aside0.mk ((by rw [hg]; exact Nat.ne_of_gt (blk_lt BK369.out) : gb378 ≠ gb369)); have n11_ := Aside0.mk ((by rw [hg]; exact Nat.ne_of_lt (IsS63.lt (show IsS63 w0 _ g s0_0 t377 from q120)) : g ≠ gb378)); have n12_ := Aside0.mk ((by rw [hg]; exact Nat.ne_of_gt (IsS63.lt (show IsS63 w0 _ g s0_0 t377 from q120)) : gb378 ≠ g)); clear HO372; clear HO376; clear HI0; clear BK369; clear HK; clear HB; have HO372 := n0_; have HO376 := n1_; have HI0 := n2_; have BK369 := n3_; have HK := n4_; have HB := n5_; have BK378 := n6_; have GW378 := n7_; have GE378 := n8_; have NB369_378 := n9_; have NB378_369 := n10_; have NB0_378 := n11_; have NB378_0 := n12_; clear n0_ n1_ n2_ n3_ n4_ n5_ n6_ n7_ n8_ n9_ n10_ n11_ n12_; clear hb hbox hg; have hnb11 := NB378_369.out; have hnc11 := NB369_378.out; have hnb12 := NB378_0.out; have hnc12 := NB0_378.out; obtain ⟨hcz13_0, hcz13_1, hcz13_2, hcz13_3, hcz13_4, hfz13_0, hfz13_1, hfz13_2, hfz13_3, hfz13_4⟩ := blk5 BK378.out))
 go_loopg [6] k (fun kq v6 w' => ∃ (x6_1 : Int) (x1001_1 : Int) (x379001_1 : Int) (x379002_1 : Int), v6 = .int .i64 x6_1 ∧ Aside0 (paygen_Deck_Year.l0 kq a1 x6_1 s0_0 x1001_1 a1 x379001_1 x379002_1 t370 t374 = some (r1, r2, r3, r4, r5, r6)) ∧ Aside0 (kq ≤ k) ∧ Aside0 (Kd.R (Kd.int .i64) 3 w' w.heap.size (fun _ => True) (.slice Ao9 t370.length co9) t370) ∧ Aside0 (Kd.R k61 61 w' w.heap.size (fun _ => True) (.slice Ao8 t374.length co8) t374) ∧ Aside0 (w'.heap[gb369]? = some (.cells #[.int .i64 0, .int .i64 0, .int .i64 0, (.slice none 0 0), (.slice none 0 0)] 25 (0, 0))) ∧ Aside0 (w'.heap[gb378]? = some (.cells #[.int .i64 a1, .int .i64 x379001_1, .int .i64 x379002_1, (.slice Ao9 t370.length co9), (.slice Ao8 t374.length co8)] 25 (0, 0))) ∧ Aside0 (IsS63 w0 w' g s0_0 x1001_1) ∧ Aside0 (KeepBut w w' g none) ∧ Aside0 (Below w0.heap.size w0 w'))
 case atStart => exact ⟨(0), (t377), (0), (0), q26, H', ⟨Nat.le_refl _⟩, ⟨by (with_reducible repeat (first | apply Kd.R_alloc | apply Kd.R_drewN | apply Kd.R_drew)); exact Kd.R_mono (Kd.R_far (p := ⟨gb378, 4, none⟩) (Kd.R_far (p := ⟨gb378, 3, none⟩) (Kd.R_far (p := ⟨gb378, 2, none⟩) (Kd.R_far (p := ⟨gb378, 1, none⟩) (Kd.R_far (p := ⟨gb378, 0, none⟩) (Kd.R_types HO372.out BK378.out (by decide)) (fun _ hk => hk.2) (.int .i64 a1)) (fun _ hk => hk.2) (.int .i64 0)) (fun _ hk => hk.2) (.int .i64 0)) (fun _ hk => hk.2) (.slice Ao9 t370.length co9)) (fun _ hk => hk.2) (.slice Ao8 t374.length co8)) (fun _ hk => trivial)⟩, ⟨by (with_reducible repeat (first | apply Kd.R_alloc | apply Kd.R_drewN | apply Kd.R_drew)); exact Kd.R_mono (Kd.R_far (p := ⟨gb378, 4, none⟩) (Kd.R_far (p := ⟨gb378, 3, none⟩) (Kd.R_far (p := ⟨gb378, 2, none⟩) (Kd.R_far (p := ⟨gb378, 1, none⟩) (Kd.R_far (p := ⟨gb378, 0, none⟩) (Kd.R_types HO376.out BK378.out (by decide)) (fun _ hk => hk.2) (.int .i64 a1)) (fun _ hk => hk.2) (.int .i64 0)) (fun _ hk => hk.2) (.int .i64 0)) (fun _ hk => hk.2) (.slice Ao9 t370.length co9)) (fun _ hk => hk.2) (.slice Ao8 t374.length co8)) (fun _ hk => trivial)⟩, ⟨by (with_reducible repeat (first | refine blk_drewN ?_ _ | refine blk_drew ?_ | refine blk_alloc ?_ _)); refine blk_far ?_ NB369_378.out _; (with_reducible repeat (first | refine blk_drewN ?_ _ | refine blk_drew ?_ | refine blk_alloc ?_ _)); refine blk_far ?_ NB369_378.out _; (with_reducible repeat (first | refine blk_drewN ?_ _ | refine blk_drew ?_ | refine blk_alloc ?_ _)); refine blk_far ?_ NB369_378.out _; (with_reducible repeat (first | refine blk_drewN ?_ _ | refine blk_drew ?_ | refine blk_alloc ?_ _)); refine blk_far ?_ NB369_378.out _; (with_reducible repeat (first | refine blk_drewN ?_ _ | refine blk_drew ?_ | refine blk_alloc ?_ _)); refine blk_far ?_ NB369_378.out _; (with_reducible repeat (first | refine blk_drewN ?_ _ | refine blk_drew ?_ | refine blk_alloc ?_ _)); exact BK369.out⟩, ⟨by (with_reducible repeat (first | refine blk_drewN ?_ _ | refine blk_drew ?_ | refine blk_alloc ?_ _)); refine blk_put (cs := #[.int .i64 a1, .int .i64 0, .int .i64 0, .slice Ao9 t370.length co9, .slice none 0 0]) ?_ 4 _ rfl; (with_reducible repeat (first | refine blk_drewN ?_ _ | refine blk_drew ?_ | refine blk_alloc ?_ _)); refine blk_put (cs := #[.int .i64 a1, .int .i64 0, .int .i64 0, .slice none 0 0, .slice none 0 0]) ?_ 3 _ rfl; (with_reducible repeat (first | refine blk_drewN ?_ _ | refine blk_drew ?_ | refine blk_alloc ?_ _)); refine blk_put (cs := #[.int .i64 a1, .int .i64 0, .int .i64 0, .slice none 0 0, .slice none 0 0]) ?_ 2 _ rfl; (with_reducible repeat (first | refine blk_drewN ?_ _ | refine blk_drew ?_ | refine blk_alloc ?_ _)); refine blk_put (cs := #[.int .i64 a1, .int .i64 0, .int .i64 0, .slice none 0 0, .slice none 0 0]) ?_ 1 _ rfl; (with_reducible repeat (first | refine blk_drewN ?_ _ | refine blk_drew ?_ | refine blk_alloc ?_ _)); refine blk_put (cs := #[.int .i64 0, .int .i64 0, .int .i64 0, .slice none 0 0, .slice none 0 0]) ?_ 0 _ rfl; (with_reducible repeat (first | refine blk_drewN ?_ _ | refine blk_drew ?_ | refine blk_alloc ?_ _)); exact BK378.out⟩, ⟨q66⟩, ⟨q108⟩, ⟨q99⟩⟩
 case round =>
  clear H'
  try clear c1
  try clear p2
  try clear c3
  try clear c11
  try clear c12
  try clear hcz13_0
  try clear hcz13_1
  try clear hcz13_2
  try clear hcz13_3
  try clear hcz13_4
  try clear hfz13_0
  try clear hfz13_1
  try clear hfz13_2
  try clear hfz13_3
  try clear hfz13_4
  obtain ⟨x6_1, x1001_1, x379001_1, x379002_1, rfl, HA, HK1, HO_379003, HO_379004, BK369, BK378, HI0, HK, HB⟩ := hrel
  cases gk with
  | zero => exact absurd HA.out (by simp [paygen_Deck_Year.l0])
  | succ k1 =>
   have H := HA.out
   clear HA
   simp only [paygen_Deck_Year.l0] at H
   by_cases c14 : x6_1 < a1
   ·
    rw [if_pos c14] at H
    have c14b0 : decide (x6_1 < a1) = true := decide_eq_true c14
    clear c14
    replace H := Option.bind_eq_some_iff.mp H
    obtain ⟨⟨t379, t380⟩, A150, H⟩ := H
    try dsimp only at H
    have A15 := Aside0.mk A150
    clear A150
    replace H := Option.bind_eq_some_iff.mp H
    obtain ⟨⟨t381, t382⟩, A160, H⟩ := H
    try dsimp only at H
    have A16 := Aside0.mk A160
    clear A160
    have H' := Aside0.mk H
    clear H
    try go_wp2
    have n0_ := Aside0.mk (Kd.R_drew HO_379003.out)
    have n1_ := Aside0.mk (Kd.R_drew HO_379004.out)
    have n2_ := Aside0.mk (blk_drew BK369.out)
    have n3_ := Aside0.mk (blk_drew BK378.out)
    have n4_ := Aside0.mk (IsS63.drew HI0.out)
    have n5_ := Aside0.mk (keep_drew HK.out)
    have n6_ := Aside0.mk (below_drew1 HB.out)
    clear HO_379003
    clear HO_379004
    clear BK369
    clear BK378
    clear HI0
    clear HK
    clear HB
    have HO_379003 := n0_
    have HO_379004 := n1_
    have BK369 := n2_
    have BK378 := n3_
    have HI0 := n4_
    have HK := n5_
    have HB := n6_
    clear n0_ n1_ n2_ n3_ n4_ n5_ n6_
    refine start_ (n := 7) (S := fun w' => w'.cell? ⟨gb378, 0, none⟩ = some (.int .i64 a1) ∧ w'.cell? ⟨gb378, 1, none⟩ = some (.int .i64 x379001_1) ∧ w'.cell? ⟨gb378, 2, none⟩ = some (.int .i64 x379002_1) ∧ w'.cell? ⟨gb378, 3, none⟩ = some (.slice Ao9 t370.length co9) ∧ w'.cell? ⟨gb378, 4, none⟩ = some (.slice Ao8 t374.length co8)) (ds := [6]) #[false, false, false, false, false, false, false] (by kernel_rfl) rfl rfl ⟨(blk_cell BK378.out 0).trans rfl, (blk_cell BK378.out 1).trans rfl, (blk_cell BK378.out 2).trans rfl, (blk_cell BK378.out 3).trans rfl, (blk_cell BK378.out 4).trans rfl⟩ (fun hHeld => ?_)
    generalize wr.drew = w17 at HO_379003 HO_379004 BK369 BK378 HI0 HK HB hHeld ⊢
    refine pure_ (i := 0) (N := some 19) (v := ?_) (a' := ?_) #[true, false, false, false, false, false, false] rfl rfl (by kernel_rfl) (fun _ _ _ h => h) (Or.inl ⟨by rfl, ?_⟩) ?_ ?_
    rotate_left
    ·
     intro w'
     go_simp
     with_reducible rfl
    rotate_left
    ·
     simp only [Act.put, List.setIfInBounds_toArray, List.set_cons_zero, List.set_cons_succ, i64_w, i32_w]
     rfl
    refine pure_ (i := 2) (N := some 21) (v := ?_) (a' := ?_) #[true, false, true, false, false, false, false] rfl rfl (by kernel_rfl) (fun _ _ _ h => h) (Or.inl ⟨by rfl, ?_⟩) ?_ ?_
    rotate_left
    ·
     intro w'
     go_simp
     with_reducible rfl
    rotate_left
    ·
     simp only [Act.put, List.setIfInBounds_toArray, List.set_cons_zero, List.set_cons_succ, i64_w, i32_w]
     rfl
    refine take_ (i := 1) (N := some 20) (v := ?_) (a' := ?_) #[true, true, true, false, false, false, false] rfl rfl (by kernel_rfl) (fun _ _ _ h => h) (Or.inl ⟨by rfl, ?_⟩) hHeld ?_ ?_
    rotate_left
    ·
     rintro w' ⟨s0, s1, s2, s3, s4⟩
     go_simp
     with_reducible rfl
    rotate_left
    ·
     simp only [Act.put, List.setIfInBounds_toArray, List.set_cons_zero, List.set_cons_succ, i64_w, i32_w]
     rfl
    refine one_ (i := 3) (N := some 22) #[true, true, true, true, false, false, false] rfl rfl (by kernel_rfl) (by decide) (fun K hK => ?_)
    refine goes_ Try.func18 (by kernel_rfl) rfl #[.pointer (some ⟨g, 0, none⟩)] (by rfl) rfl rfl q1 ?_
    with_reducible refine (paygen_Deck_Small.calls g s0_0 x1001_1 t379 t380 w0 _ ?side1 ?side2 A15.out).mono ?_
    (case side1 => exact q66)
    (case side2 => exact q99)
    rintro e w18 ⟨rfl, hi, hb, hk⟩
    refine ⟨_, rfl, ?_⟩
    have n0_ := Aside0.mk (Kd.R_mono (Kd.R_keep (IsS63.apart (show IsS63 w0 _ g s0_0 x1001_1 from q66) (by (with_reducible repeat (first | apply Kd.R_alloc | apply Kd.R_drewN | apply Kd.R_drew)); exact HO_379003.out) (by decide)) hk (fun _ h => h.2)) (fun _ h => h.1))
    have n1_ := Aside0.mk (Kd.R_mono (Kd.R_keep (IsS63.apart (show IsS63 w0 _ g s0_0 x1001_1 from q66) (by (with_reducible repeat (first | apply Kd.R_alloc | apply Kd.R_drewN | apply Kd.R_drew)); exact HO_379004.out) (by decide)) hk (fun _ h => h.2)) (fun _ h => h.1))
    have n2_ := Aside0.mk (KeepBut.blk hk BK369.out NB369_0.out (by simp))
    have n3_ := Aside0.mk (KeepBut.blk hk BK378.out NB378_0.out (by simp))
    have n4_ := Aside0.mk (KeepBut.trans q108 hk (.inl rfl))
    have n5_ := Aside0.mk (hb)
    have n6_ := Aside0.mk (hi)
    clear HO_379003
    clear HO_379004
    clear BK369
    clear BK378
    clear HK
    clear HB
    clear HI0
    have HO_379003 := n0_
    have HO_379004 := n1_
    have BK369 := n2_
    have BK378 := n3_
    have HK := n4_
    have HB := n5_
    have HI0 := n6_
    clear n0_ n1_ n2_ n3_ n4_ n5_ n6_
    (try clear hb)
    (try clear hb2)
    (try clear hk)
    (try clear hi)
    refine hK.out _ _ ⟨(blk_cell BK378.out 0).trans rfl, (blk_cell BK378.out 1).trans rfl, (blk_cell BK378.out 2).trans rfl, (blk_cell BK378.out 3).trans rfl, (blk_cell BK378.out 4).trans rfl⟩ (fun hHeld => ?_)
    clear hK K
    refine norm_ (a' := ?_) ?_ ?_
    rotate_left
    ·
     show Act.put _ (some 22) _ = _
     simp only [Act.put, List.setIfInBounds_toArray, List.set_cons_zero, List.set_cons_succ, i64_w, i32_w]
     rfl
    refine pure_ (i := 4) (N := some 23) (v := ?_) (a' := ?_) #[true, true, true, true, true, false, false] rfl rfl (by kernel_rfl) (fun _ _ _ h => h) (Or.inl ⟨by rfl, ?_⟩) ?_ ?_
    rotate_left
    ·
     intro w'
     go_simp
     with_reducible rfl
    rotate_left
    ·
     simp only [Act.put, List.setIfInBounds_toArray, List.set_cons_zero, List.set_cons_succ, i64_w, i32_w]
     rfl
    refine pure_ (i := 5) (N := some 24) (v := ?_) (a' := ?_) #[true, true, true, true, true, true, false] rfl rfl (by kernel_rfl) (fun _ _ _ h => h) (Or.inl ⟨by rfl, ?_⟩) ?_ ?_
    rotate_left
    ·
     intro w'
     go_simp
     with_reducible rfl
    rotate_left
    ·
     simp only [Act.put, List.setIfInBounds_toArray, List.set_cons_zero, List.set_cons_succ, i64_w, i32_w]
     rfl
    refine last_ (i := 6) (N := none) #[true, true, true, true, true, true, true] rfl rfl (by kernel_rfl) (by decide) (fun K hK => ?_)
    have hs19 : w18.cell? ⟨gb378, 1, none⟩ = some (.int .i64 x379001_1) := (blk_cell BK378.out 1).trans rfl
    have hfs19 := blk_frozen BK378.out 1
    have hns19_0 := NB369_378.out
    have hms19_0 := NB378_369.out
    refine skip_ (w1 := ?_) (by rfl) rfl ?_ ?_
    rotate_left
    ·
     go_simp
     rfl
    refine hK.out _ _ ?_
    clear hK K
    refine done_ (by kernel_rfl) ?_
    try go_wp2
    have n0_ : Aside0 (Kd.R (Kd.int .i64) 3 (w18.setCell ⟨gb378, 1, none⟩ (.int .i64 (wrap64 (x379001_1 + t379)))) w.heap.size (fun _ => True) (.slice Ao9 t370.length co9) t370) := ⟨by (with_reducible repeat (first | apply Kd.R_alloc | apply Kd.R_drewN | apply Kd.R_drew)); exact Kd.R_mono (Kd.R_far (p := ⟨gb378, 1, none⟩) (Kd.R_types HO_379003.out BK378.out (by decide)) (fun _ hk => hk.2) (.int .i64 (wrap64 (x379001_1 + t379)))) (fun _ hk => trivial)⟩
    have n1_ : Aside0 (Kd.R k61 61 (w18.setCell ⟨gb378, 1, none⟩ (.int .i64 (wrap64 (x379001_1 + t379)))) w.heap.size (fun _ => True) (.slice Ao8 t374.length co8) t374) := ⟨by (with_reducible repeat (first | apply Kd.R_alloc | apply Kd.R_drewN | apply Kd.R_drew)); exact Kd.R_mono (Kd.R_far (p := ⟨gb378, 1, none⟩) (Kd.R_types HO_379004.out BK378.out (by decide)) (fun _ hk => hk.2) (.int .i64 (wrap64 (x379001_1 + t379)))) (fun _ hk => trivial)⟩
    have n2_ : Aside0 ((w18.setCell ⟨gb378, 1, none⟩ (.int .i64 (wrap64 (x379001_1 + t379)))).heap[gb369]? = some (.cells #[.int .i64 0, .int .i64 0, .int .i64 0, .slice none 0 0, .slice none 0 0] 25 (0, 0))) := ⟨by (with_reducible repeat (first | refine blk_drewN ?_ _ | refine blk_drew ?_ | refine blk_alloc ?_ _)); refine blk_far ?_ NB369_378.out _; (with_reducible repeat (first | refine blk_drewN ?_ _ | refine blk_drew ?_ | refine blk_alloc ?_ _)); exact BK369.out⟩
    have n3_ : Aside0 ((w18.setCell ⟨gb378, 1, none⟩ (.int .i64 (wrap64 (x379001_1 + t379)))).heap[gb378]? = some (.cells #[.int .i64 a1, .int .i64 (wrap64 (x379001_1 + t379)), .int .i64 x379002_1, .slice Ao9 t370.length co9, .slice Ao8 t374.length co8] 25 (0, 0))) := ⟨by (with_reducible repeat (first | refine blk_drewN ?_ _ | refine blk_drew ?_ | refine blk_alloc ?_ _)); refine blk_put (cs := #[.int .i64 a1, .int .i64 x379001_1, .int .i64 x379002_1, .slice Ao9 t370.length co9, .slice Ao8 t374.length co8]) ?_ 1 _ rfl; (with_reducible repeat (first | refine blk_drewN ?_ _ | refine blk_drew ?_ | refine blk_alloc ?_ _)); exact BK378.out⟩
    have n4_ : Aside0 (IsS63 w0 (w18.setCell ⟨gb378, 1, none⟩ (.int .i64 (wrap64 (x379001_1 + t379)))) g s0_0 t380) := ⟨q66⟩
    have n5_ : Aside0 (KeepBut w (w18.setCell ⟨gb378, 1, none⟩ (.int .i64 (wrap64 (x379001_1 + t379)))) g none) := ⟨q108⟩
    have n6_ : Aside0 (Below w0.heap.size w0 (w18.setCell ⟨gb378, 1, none⟩ (.int .i64 (wrap64 (x379001_1 + t379))))) := ⟨q99⟩
    (try clear HO_379003)
    (try clear HO_379004)
    (try clear BK369)
    (try clear BK378)
    (try clear HI0)
    (try clear HK)
    (try clear HB)
    generalize (w18.setCell ⟨gb378, 1, none⟩ (.int .i64 (wrap64 (x379001_1 + t379)))) = w20 at n0_ n1_ n2_ n3_ n4_ n5_ n6_ ⊢
    have HO_379003 := n0_
    have HO_379004 := n1_
    have BK369 := n2_
    have BK378 := n3_
    have HI0 := n4_
    have HK := n5_
    have HB := n6_
    clear n0_ n1_ n2_ n3_ n4_ n5_ n6_
    have n0_ := Aside0.mk (Kd.R_drew HO_379003.out)
    have n1_ := Aside0.mk (Kd.R_drew HO_379004.out)
    have n2_ := Aside0.mk (blk_drew BK369.out)
    have n3_ := Aside0.mk (blk_drew BK378.out)
    have n4_ := Aside0.mk (IsS63.drew HI0.out)
    have n5_ := Aside0.mk (keep_drew HK.out)
    have n6_ := Aside0.mk (below_drew1 HB.out)
    clear HO_379003
    clear HO_379004
    clear BK369
    clear BK378
    clear HI0
    clear HK
    clear HB
    have HO_379003 := n0_
    have HO_379004 := n1_
    have BK369 := n2_
    have BK378 := n3_
    have HI0 := n4_
    have HK := n5_
    have HB := n6_
    clear n0_ n1_ n2_ n3_ n4_ n5_ n6_
    refine start_ (n := 7) (S := fun w' => w'.cell? ⟨gb378, 0, none⟩ = some (.int .i64 a1) ∧ w'.cell? ⟨gb378, 1, none⟩ = some (.int .i64 (wrap64 (x379001_1 + t379))) ∧ w'.cell? ⟨gb378, 2, none⟩ = some (.int .i64 x379002_1) ∧ w'.cell? ⟨gb378, 3, none⟩ = some (.slice Ao9 t370.length co9) ∧ w'.cell? ⟨gb378, 4, none⟩ = some (.slice Ao8 t374.length co8)) (ds := [6]) #[false, false, false, false, false, false, false] (by kernel_rfl) rfl rfl ⟨(blk_cell BK378.out 0).trans rfl, (blk_cell BK378.out 1).trans rfl, (blk_cell BK378.out 2).trans rfl, (blk_cell BK378.out 3).trans rfl, (blk_cell BK378.out 4).trans rfl⟩ (fun hHeld => ?_)
    generalize w20.drew = w21 at HO_379003 HO_379004 BK369 BK378 HI0 HK HB hHeld ⊢
    refine pure_ (i := 0) (N := some 25) (v := ?_) (a' := ?_) #[true, false, false, false, false, false, false] rfl rfl (by kernel_rfl) (fun _ _ _ h => h) (Or.inl ⟨by rfl, ?_⟩) ?_ ?_
    rotate_left
    ·
     intro w'
     go_simp
     with_reducible rfl
    rotate_left
    ·
     simp only [Act.put, List.setIfInBounds_toArray, List.set_cons_zero, List.set_cons_succ, i64_w, i32_w]
     rfl
    refine pure_ (i := 2) (N := some 27) (v := ?_) (a' := ?_) #[true, false, true, false, false, false, false] rfl rfl (by kernel_rfl) (fun _ _ _ h => h) (Or.inl ⟨by rfl, ?_⟩) ?_ ?_
    rotate_left
    ·
     intro w'
     go_simp
     with_reducible rfl
    rotate_left
    ·
     simp only [Act.put, List.setIfInBounds_toArray, List.set_cons_zero, List.set_cons_succ, i64_w, i32_w]
     rfl
    refine take_ (i := 1) (N := some 26) (v := ?_) (a' := ?_) #[true, true, true, false, false, false, false] rfl rfl (by kernel_rfl) (fun _ _ _ h => h) (Or.inl ⟨by rfl, ?_⟩) hHeld ?_ ?_
    rotate_left
    ·
     rintro w' ⟨s0, s1, s2, s3, s4⟩
     go_simp
     with_reducible rfl
    rotate_left
    ·
     simp only [Act.put, List.setIfInBounds_toArray, List.set_cons_zero, List.set_cons_succ, i64_w, i32_w]
     rfl
    refine one_ (i := 3) (N := some 28) #[true, true, true, true, false, false, false] rfl rfl (by kernel_rfl) (by decide) (fun K hK => ?_)
    refine goes_ Try.func17 (by kernel_rfl) rfl #[.pointer (some ⟨g, 0, none⟩), .int .i64 60000] (by rfl) rfl rfl q1 ?_
    with_reducible refine (paygen_Deck_Next.calls g s0_0 t380 60000 t381 t382 w0 _ ?side1 ?side2 A16.out).mono ?_
    (case side1 => exact q66)
    (case side2 => exact q99)
    rintro e w22 ⟨rfl, hi, hb, hk⟩
    refine ⟨_, rfl, ?_⟩
    have n0_ := Aside0.mk (Kd.R_mono (Kd.R_keep (IsS63.apart (show IsS63 w0 _ g s0_0 t380 from q66) (by (with_reducible repeat (first | apply Kd.R_alloc | apply Kd.R_drewN | apply Kd.R_drew)); exact HO_379003.out) (by decide)) hk (fun _ h => h.2)) (fun _ h => h.1))
    have n1_ := Aside0.mk (Kd.R_mono (Kd.R_keep (IsS63.apart (show IsS63 w0 _ g s0_0 t380 from q66) (by (with_reducible repeat (first | apply Kd.R_alloc | apply Kd.R_drewN | apply Kd.R_drew)); exact HO_379004.out) (by decide)) hk (fun _ h => h.2)) (fun _ h => h.1))
    have n2_ := Aside0.mk (KeepBut.blk hk BK369.out NB369_0.out (by simp))
    have n3_ := Aside0.mk (KeepBut.blk hk BK378.out NB378_0.out (by simp))
    have n4_ := Aside0.mk (KeepBut.trans q108 hk (.inl rfl))
    have n5_ := Aside0.mk (hb)
    have n6_ := Aside0.mk (hi)
    clear HO_379003
    clear HO_379004
    clear BK369
    clear BK378
    clear HK
    clear HB
    clear HI0
    have HO_379003 := n0_
    have HO_379004 := n1_
    have BK369 := n2_
    have BK378 := n3_
    have HK := n4_
    have HB := n5_
    have HI0 := n6_
    clear n0_ n1_ n2_ n3_ n4_ n5_ n6_
    (try clear hb)
    (try clear hb2)
    (try clear hk)
    (try clear hi)
    refine hK.out _ _ ⟨(blk_cell BK378.out 0).trans rfl, (blk_cell BK378.out 1).trans rfl, (blk_cell BK378.out 2).trans rfl, (blk_cell BK378.out 3).trans rfl, (blk_cell BK378.out 4).trans rfl⟩ (fun hHeld => ?_)
    clear hK K
    refine norm_ (a' := ?_) ?_ ?_
    rotate_left
    ·
     show Act.put _ (some 28) _ = _
     simp only [Act.put, List.setIfInBounds_toArray, List.set_cons_zero, List.set_cons_succ, i64_w, i32_w]
     rfl
    refine pure_ (i := 4) (N := some 29) (v := ?_) (a' := ?_) #[true, true, true, true, true, false, false] rfl rfl (by kernel_rfl) (fun _ _ _ h => h) (Or.inl ⟨by rfl, ?_⟩) ?_ ?_
    rotate_left
    ·
     intro w'
     go_simp
     with_reducible rfl
    rotate_left
    ·
     simp only [Act.put, List.setIfInBounds_toArray, List.set_cons_zero, List.set_cons_succ, i64_w, i32_w]
     rfl
    refine pure_ (i := 5) (N := some 30) (v := ?_) (a' := ?_) #[true, true, true, true, true, true, false] rfl rfl (by kernel_rfl) (fun _ _ _ h => h) (Or.inl ⟨by rfl, ?_⟩) ?_ ?_
    rotate_left
    ·
     intro w'
     go_simp
     with_reducible rfl
    rotate_left
    ·
     simp only [Act.put, List.setIfInBounds_toArray, List.set_cons_zero, List.set_cons_succ, i64_w, i32_w]
     rfl
    refine last_ (i := 6) (N := none) #[true, true, true, true, true, true, true] rfl rfl (by kernel_rfl) (by decide) (fun K hK => ?_)
    have hs23 : w22.cell? ⟨gb378, 2, none⟩ = some (.int .i64 x379002_1) := (blk_cell BK378.out 2).trans rfl
    have hfs23 := blk_frozen BK378.out 2
    have hns23_0 := NB369_378.out
    have hms23_0 := NB378_369.out
    refine skip_ (w1 := ?_) (by rfl) rfl ?_ ?_
    rotate_left
    ·
     go_simp
     rfl
    refine hK.out _ _ ?_
    clear hK K
    refine done_ (by kernel_rfl) ?_
    try go_wp2
    go_roundg k1
    case measure => have := HK1.out; omega
    case rel => exact ⟨(wrap64 (x6_1 + 1)), (t382), (wrap64 (x379001_1 + t379)), (wrap64 (x379002_1 + t381)), q26, H', ⟨by have := HK1.out; omega⟩, ⟨by (with_reducible repeat (first | apply Kd.R_alloc | apply Kd.R_drewN | apply Kd.R_drew)); exact Kd.R_mono (Kd.R_far (p := ⟨gb378, 2, none⟩) (Kd.R_types HO_379003.out BK378.out (by decide)) (fun _ hk => hk.2) (.int .i64 (wrap64 (x379002_1 + t381)))) (fun _ hk => trivial)⟩, ⟨by (with_reducible repeat (first | apply Kd.R_alloc | apply Kd.R_drewN | apply Kd.R_drew)); exact Kd.R_mono (Kd.R_far (p := ⟨gb378, 2, none⟩) (Kd.R_types HO_379004.out BK378.out (by decide)) (fun _ hk => hk.2) (.int .i64 (wrap64 (x379002_1 + t381)))) (fun _ hk => trivial)⟩, ⟨by (with_reducible repeat (first | refine blk_drewN ?_ _ | refine blk_drew ?_ | refine blk_alloc ?_ _)); refine blk_far ?_ NB369_378.out _; (with_reducible repeat (first | refine blk_drewN ?_ _ | refine blk_drew ?_ | refine blk_alloc ?_ _)); exact BK369.out⟩, ⟨by (with_reducible repeat (first | refine blk_drewN ?_ _ | refine blk_drew ?_ | refine blk_alloc ?_ _)); refine blk_put (cs := #[.int .i64 a1, .int .i64 (wrap64 (x379001_1 + t379)), .int .i64 x379002_1, .slice Ao9 t370.length co9, .slice Ao8 t374.length co8]) ?_ 2 _ rfl; (with_reducible repeat (first | refine blk_drewN ?_ _ | refine blk_drew ?_ | refine blk_alloc ?_ _)); exact BK378.out⟩, ⟨q66⟩, ⟨q108⟩, ⟨q99⟩⟩
   ·
    rw [if_neg c14] at H
    have c14b0 : decide (x6_1 < a1) = false := decide_eq_false c14
    clear c14
    simp only [Option.some.injEq, Prod.mk.injEq] at H
    obtain ⟨rfl, rfl, rfl, rfl, rfl, rfl⟩ := H
    have hnb24 := NB378_369.out
    have hnc24 := NB369_378.out
    have hnb25 := NB378_0.out
    have hnc25 := NB0_378.out
    obtain ⟨hcz26_0, hcz26_1, hcz26_2, hcz26_3, hcz26_4, hfz26_0, hfz26_1, hfz26_2, hfz26_3, hfz26_4⟩ := blk5 BK378.out
    have hnb27 := NB369_0.out
    have hnc27 := NB0_369.out
    obtain ⟨hcz28_0, hcz28_1, hcz28_2, hcz28_3, hcz28_4, hfz28_0, hfz28_1, hfz28_2, hfz28_3, hfz28_4⟩ := blk5 BK369.out
    go_wp2
    refine bodyPost_ret (results_cell_row rfl _ _ gb369 25 #[.int .i64 a1, .int .i64 x379001_1, .int .i64 x379002_1, .slice Ao9 t370.length co9, .slice Ao8 t374.length co8] (0, 0) _ rfl (by (with_reducible repeat (first | refine blk_drewN ?_ _ | refine blk_drew ?_ | refine blk_alloc ?_ _)); refine blk_put (cs := #[.int .i64 a1, .int .i64 x379001_1, .int .i64 x379002_1, .slice Ao9 t370.length co9, .slice none 0 0]) ?_ 4 _ rfl; (with_reducible repeat (first | refine blk_drewN ?_ _ | refine blk_drew ?_ | refine blk_alloc ?_ _)); refine blk_put (cs := #[.int .i64 a1, .int .i64 x379001_1, .int .i64 x379002_1, .slice none 0 0, .slice none 0 0]) ?_ 3 _ rfl; (with_reducible repeat (first | refine blk_drewN ?_ _ | refine blk_drew ?_ | refine blk_alloc ?_ _)); refine blk_put (cs := #[.int .i64 a1, .int .i64 x379001_1, .int .i64 0, .slice none 0 0, .slice none 0 0]) ?_ 2 _ rfl; (with_reducible repeat (first | refine blk_drewN ?_ _ | refine blk_drew ?_ | refine blk_alloc ?_ _)); refine blk_put (cs := #[.int .i64 a1, .int .i64 0, .int .i64 0, .slice none 0 0, .slice none 0 0]) ?_ 1 _ rfl; (with_reducible repeat (first | refine blk_drewN ?_ _ | refine blk_drew ?_ | refine blk_alloc ?_ _)); refine blk_put (cs := #[.int .i64 0, .int .i64 0, .int .i64 0, .slice none 0 0, .slice none 0 0]) ?_ 0 _ rfl; (with_reducible repeat (first | refine blk_drewN ?_ _ | refine blk_drew ?_ | refine blk_alloc ?_ _)); exact BK369.out) Try.underlying25 rfl (by kernel_rfl)) rfl ?_
    exact ⟨_, _, by first | rfl | (simp [errW_none, errW_some] <;> rfl) | (simp [*, errW_none, errW_some] <;> rfl), by (with_reducible repeat (first | apply Kd.R_alloc | apply Kd.R_drewN | apply Kd.R_drew)); exact Kd.R_mono (Kd.R_far (p := ⟨gb369, 4, none⟩) (Kd.R_far (p := ⟨gb369, 3, none⟩) (Kd.R_far (p := ⟨gb369, 2, none⟩) (Kd.R_far (p := ⟨gb369, 1, none⟩) (Kd.R_far (p := ⟨gb369, 0, none⟩) (Kd.R_types HO_379003.out BK369.out (by decide)) (fun _ hk => hk.2) (.int .i64 a1)) (fun _ hk => hk.2) (.int .i64 x379001_1)) (fun _ hk => hk.2) (.int .i64 x379002_1)) (fun _ hk => hk.2) (.slice Ao9 t370.length co9)) (fun _ hk => hk.2) (.slice Ao8 t374.length co8)) (fun _ hk => trivial), by (with_reducible repeat (first | apply Kd.R_alloc | apply Kd.R_drewN | apply Kd.R_drew)); exact Kd.R_mono (Kd.R_far (p := ⟨gb369, 4, none⟩) (Kd.R_far (p := ⟨gb369, 3, none⟩) (Kd.R_far (p := ⟨gb369, 2, none⟩) (Kd.R_far (p := ⟨gb369, 1, none⟩) (Kd.R_far (p := ⟨gb369, 0, none⟩) (Kd.R_types HO_379004.out BK369.out (by decide)) (fun _ hk => hk.2) (.int .i64 a1)) (fun _ hk => hk.2) (.int .i64 x379001_1)) (fun _ hk => hk.2) (.int .i64 x379002_1)) (fun _ hk => hk.2) (.slice Ao9 t370.length co9)) (fun _ hk => hk.2) (.slice Ao8 t374.length co8)) (fun _ hk => trivial), q66, q99, q108⟩

end Go.Proofs.Ytbacfajhgmnjpaa.P
