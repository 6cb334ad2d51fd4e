/- Proved here: that the Go function payrollref7_frame computes the plain function of that name (the machine side of the laws, reworked from a print; no condition of its own). -/
import Derived.Test.YtopigdnffnondaaProg
import Derived.Test.YtopigdnffnondaaV1
import Derived.Test.YtopigdnffnondaaFPRE0
import Derived.Test.YtopigdnffnondaaFpayrollref7Sum
import Derived.Test.YtopigdnffnondaaFpayrollref7put
namespace Go.Proofs.Ytopigdnffnondaa.P
open Go.RowKit Go.Proofs.YtopigdnffnondaaW.PrintWords Go.Proofs.YtopigdnffnondaaW.PrintLast Go.Proofs.YtopigdnffnondaaW.PrintMore
attribute [local go_sem] max2_int min2_int max_two min_two max_three min_three max_four min_four   -- for this text's walks alone
set_option linter.unusedVariables false
set_option linter.unusedSimpArgs false

def payrollref7_frame.f (k : Nat) (a0_0 : Int) (a0_1 : Int) (a0_2 : Int) (a0_3 : Int) (a0_4 : Int) (a0_5 : Int) (a0_6 : Int) : Option (List Int) := (payrollref7_put.f k (([193, (a0_4) % 256] : List Int)) a0_0 2).bind fun t218 => ((payrollref7_put.f k t218 a0_1 4).bind fun t221 => ((payrollref7_put.f k t221 a0_2 4).bind fun t224 => ((payrollref7_put.f k t224 a0_3 4).bind fun t227 => ((payrollref7_put.f k t227 a0_5 2).bind fun t230 => ((payrollref7_put.f k t230 a0_6 4).bind fun t233 => ((payrollref7_Sum.f k t233).bind fun t236 => ((payrollref7_put.f k t233 t236 2).bind fun t237 => (some t237))))))))
theorem payrollref7_frame.mono : ∀ a0 a1 a2 a3 a4 a5 a6 k, LeO (payrollref7_frame.f k a0 a1 a2 a3 a4 a5 a6) (payrollref7_frame.f (k + 1) a0 a1 a2 a3 a4 a5 a6) := by
 intro a0 a1 a2 a3 a4 a5 a6 k
 unfold payrollref7_frame.f
 repeat' first
   | (with_reducible exact payrollref7_Sum.mono _ _)
   | (with_reducible exact payrollref7_put.mono _ _ _ _)
   | (with_reducible exact LeO.refl _)
   | (with_reducible exact LeO.none _)
   | (with_reducible refine LeO.ite ?_ ?_)
   | (with_reducible refine LeO.bind ?_ (fun _ => ?_))
   | exact payrollref7_Sum.mono _ _
   | exact payrollref7_put.mono _ _ _ _
   | exact LeO.none _
   | refine LeO.ite ?_ ?_
   | refine LeO.bind ?_ (fun _ => ?_)
def payrollref7_frame.T2 : Bool × List (List Nat × List Nat) := (true, [([], []), ([], []), ([1], [1]), ([2], [2]), ([0, 3], [0, 3]), ([], []), ([5], [5]), ([6], [6]), ([4, 7, 4], [4, 7]), ([8, 8, 0, 1, 2, 3, 4, 5, 6, 7, 8], [0, 8])])
def payrollref7_frame.B2 : List Nat := [0, 0, 2, 6, 15, 0, 32, 96, 255, 511]
theorem payrollref7_frame.tab2 : rtab .any (opsOf Try.f31 2) = payrollref7_frame.T2 := by kernel_rfl
theorem payrollref7_frame.bits2 : waitsOk payrollref7_frame.T2.2 payrollref7_frame.B2 = true := by kernel_rfl
def payrollref7_frame.T3 : Bool × List (List Nat × List Nat) := (true, [([], []), ([], []), ([1], [1]), ([0, 2], [0, 2]), ([], []), ([4], [4]), ([3, 5, 3], [3, 5]), ([6, 6, 0, 1, 2, 3, 4, 5, 6], [0, 6])])
def payrollref7_frame.B3 : List Nat := [0, 0, 2, 7, 0, 16, 63, 127]
theorem payrollref7_frame.tab3 : rtab .any (opsOf Try.f31 3) = payrollref7_frame.T3 := by kernel_rfl
theorem payrollref7_frame.bits3 : waitsOk payrollref7_frame.T3.2 payrollref7_frame.B3 = true := by kernel_rfl
def payrollref7_frame.T4 : Bool × List (List Nat × List Nat) := (true, [([], []), ([], []), ([1], [1]), ([2], [2]), ([0, 3], [0, 3]), ([], []), ([5], [5]), ([6], [6]), ([4, 7, 4], [4, 7]), ([8, 8, 0, 1, 2, 3, 4, 5, 6, 7, 8], [0, 8])])
def payrollref7_frame.B4 : List Nat := [0, 0, 2, 6, 15, 0, 32, 96, 255, 511]
theorem payrollref7_frame.tab4 : rtab .any (opsOf Try.f31 4) = payrollref7_frame.T4 := by kernel_rfl
theorem payrollref7_frame.bits4 : waitsOk payrollref7_frame.T4.2 payrollref7_frame.B4 = true := by kernel_rfl
set_option maxHeartbeats 8000000 in
set_option maxRecDepth 100000 in
theorem payrollref7_frame.calls (k : Nat) (a0_0 : Int) (a0_1 : Int) (a0_2 : Int) (a0_3 : Int) (a0_4 : Int) (a0_5 : Int) (a0_6 : Int) (r : List Int) (w : World) (h : payrollref7_frame.f k a0_0 a0_1 a0_2 a0_3 a0_4 a0_5 a0_6 = some r) :
  Calls Try.prog 31 #[.agg #[.int .i64 a0_0, .int .i64 a0_1, .int .i64 a0_2, .int .i64 a0_3, .int .i64 a0_4, .int .i64 a0_5, .int .i64 a0_6]] w fun e w' => ∃ v0_ : Value, e = .returned (v0_) ∧ Kd.R (Kd.int .u8) 5 w' w.heap.size (fun _ => True) v0_ r ∧ Below w.heap.size w w' := by
 have hu26 := Try.underlying26
 have HB := Aside0.mk (Below.refl w.heap.size w)
 have H : ((payrollref7_put.f k (([193, (a0_4) % 256] : List Int)) a0_0 2).bind fun t218 => ((payrollref7_put.f k t218 a0_1 4).bind fun t221 => ((payrollref7_put.f k t221 a0_2 4).bind fun t224 => ((payrollref7_put.f k t224 a0_3 4).bind fun t227 => ((payrollref7_put.f k t227 a0_5 2).bind fun t230 => ((payrollref7_put.f k t230 a0_6 4).bind fun t233 => ((payrollref7_Sum.f k t233).bind fun t236 => ((payrollref7_put.f k t233 t236 2).bind fun t237 => (some t237))))))))) = some r := h
 clear h
 obtain ⟨y215, hy215⟩ : ∃ y_ : List Int, y_ = (([193, (a0_4) % 256] : List Int)) := ⟨_, rfl⟩
 replace H : ((payrollref7_put.f k y215 a0_0 2).bind fun t218 => ((payrollref7_put.f k t218 a0_1 4).bind fun t221 => ((payrollref7_put.f k t221 a0_2 4).bind fun t224 => ((payrollref7_put.f k t224 a0_3 4).bind fun t227 => ((payrollref7_put.f k t227 a0_5 2).bind fun t230 => ((payrollref7_put.f k t230 a0_6 4).bind fun t233 => ((payrollref7_Sum.f k t233).bind fun t236 => ((payrollref7_put.f k t233 t236 2).bind fun t237 => (some t237))))))))) = some r := by first | (rw [hy215]; with_reducible exact H) | (have H2_ := (Option.bind_some _ _).symm.trans H; rw [hy215]; with_reducible exact H2_) | (have H2_ := (Option.bind_some _ _).symm.trans H; with_reducible exact H2_) | with_reducible exact H | (rw [hy215]; exact H) | exact H
 have Ny215 := Aside0.mk hy215
 clear hy215
 replace H := Option.bind_eq_some_iff.mp H
 obtain ⟨t218, A20, H⟩ := H
 replace H : ((payrollref7_put.f k t218 a0_1 4).bind fun t221 => ((payrollref7_put.f k t221 a0_2 4).bind fun t224 => ((payrollref7_put.f k t224 a0_3 4).bind fun t227 => ((payrollref7_put.f k t227 a0_5 2).bind fun t230 => ((payrollref7_put.f k t230 a0_6 4).bind fun t233 => ((payrollref7_Sum.f k t233).bind fun t236 => ((payrollref7_put.f k t233 t236 2).bind fun t237 => (some t237)))))))) = some r := H
 have A2 := Aside0.mk A20
 clear A20
 replace H := Option.bind_eq_some_iff.mp H
 obtain ⟨t221, A30, H⟩ := H
 replace H : ((payrollref7_put.f k t221 a0_2 4).bind fun t224 => ((payrollref7_put.f k t224 a0_3 4).bind fun t227 => ((payrollref7_put.f k t227 a0_5 2).bind fun t230 => ((payrollref7_put.f k t230 a0_6 4).bind fun t233 => ((payrollref7_Sum.f k t233).bind fun t236 => ((payrollref7_put.f k t233 t236 2).bind fun t237 => (some t237))))))) = some r := H
 have A3 := Aside0.mk A30
 clear A30
 replace H := Option.bind_eq_some_iff.mp H
 obtain ⟨t224, A40, H⟩ := H
 replace H : ((payrollref7_put.f k t224 a0_3 4).bind fun t227 => ((payrollref7_put.f k t227 a0_5 2).bind fun t230 => ((payrollref7_put.f k t230 a0_6 4).bind fun t233 => ((payrollref7_Sum.f k t233).bind fun t236 => ((payrollref7_put.f k t233 t236 2).bind fun t237 => (some t237)))))) = some r := H
 have A4 := Aside0.mk A40
 clear A40
 replace H := Option.bind_eq_some_iff.mp H
 obtain ⟨t227, A50, H⟩ := H
 replace H : ((payrollref7_put.f k t227 a0_5 2).bind fun t230 => ((payrollref7_put.f k t230 a0_6 4).bind fun t233 => ((payrollref7_Sum.f k t233).bind fun t236 => ((payrollref7_put.f k t233 t236 2).bind fun t237 => (some t237))))) = some r := H
 have A5 := Aside0.mk A50
 clear A50
 replace H := Option.bind_eq_some_iff.mp H
 obtain ⟨t230, A60, H⟩ := H
 replace H : ((payrollref7_put.f k t230 a0_6 4).bind fun t233 => ((payrollref7_Sum.f k t233).bind fun t236 => ((payrollref7_put.f k t233 t236 2).bind fun t237 => (some t237)))) = some r := H
 have A6 := Aside0.mk A60
 clear A60
 replace H := Option.bind_eq_some_iff.mp H
 obtain ⟨t233, A70, H⟩ := H
 replace H : ((payrollref7_Sum.f k t233).bind fun t236 => ((payrollref7_put.f k t233 t236 2).bind fun t237 => (some t237))) = some r := H
 have A7 := Aside0.mk A70
 clear A70
 replace H := Option.bind_eq_some_iff.mp H
 obtain ⟨t236, A80, H⟩ := H
 replace H : ((payrollref7_put.f k t233 t236 2).bind fun t237 => (some t237)) = some r := H
 have A8 := Aside0.mk A80
 clear A80
 replace H := Option.bind_eq_some_iff.mp H
 obtain ⟨t237, A90, H⟩ := H
 replace H : (some t237) = some r := H
 have A9 := Aside0.mk A90
 clear A90
 obtain rfl := Option.some.inj H
 go_enter Try.func31, Try.ntmps31
 try go_wp2_with (first | ((with_reducible refine gate_dst (N := 1) rfl ?_); refine box_event ?hg (N := 1) ?hd (cs := #[.int .i64 a0_0, .int .i64 a0_1, .int .i64 a0_2, .int .i64 a0_3, .int .i64 a0_4, .int .i64 a0_5, .int .i64 a0_6]) (t := 26) ?hr ?_; (case hd => rfl); (case hg => rfl); (case hr => first | (go_simp; done) | (go_simp; rfl)); intro gb214 hg w10 hbox hb; have n0_ := Aside0.mk (below_step (by repeat (first | (with_reducible first | exact HB.out | apply below_alloc | apply pw_below_drewN | apply below_drew1) | exact HB.out)) hb); have n1_ := Aside0.mk (hbox); have n2_ := Aside0.mk ((by rw [hg]; exact (below_size (by repeat (first | (with_reducible first | exact HB.out | apply below_alloc | apply pw_below_drewN | apply below_drew1) | exact HB.out))) : w.heap.size ≤ gb214)); have n3_ := Aside0.mk ((by rw [hg]; exact (below_size (by repeat (first | (with_reducible first | exact HB.out | apply below_alloc | apply pw_below_drewN | apply below_drew1) | exact HB.out))) : w.heap.size ≤ gb214)); clear HB; have HB := n0_; have BK214 := n1_; have GW214 := n2_; have GE214 := n3_; clear n0_ n1_ n2_ n3_; clear hb hbox hg; have hcz11_0 : w10.cell? ⟨gb214, 0, none⟩ = some (.int .i64 a0_0) := (blk_cell BK214.out 0).trans rfl; have hcz11_1 : w10.cell? ⟨gb214, 1, none⟩ = some (.int .i64 a0_1) := (blk_cell BK214.out 1).trans rfl; have hcz11_2 : w10.cell? ⟨gb214, 2, none⟩ = some (.int .i64 a0_2) := (blk_cell BK214.out 2).trans rfl; have hcz11_3 : w10.cell? ⟨gb214, 3, none⟩ = some (.int .i64 a0_3) := (blk_cell BK214.out 3).trans rfl; have hcz11_4 : w10.cell? ⟨gb214, 4, none⟩ = some (.int .i64 a0_4) := (blk_cell BK214.out 4).trans rfl; have hcz11_5 : w10.cell? ⟨gb214, 5, none⟩ = some (.int .i64 a0_5) := (blk_cell BK214.out 5).trans rfl; have hcz11_6 : w10.cell? ⟨gb214, 6, none⟩ = some (.int .i64 a0_6) := (blk_cell BK214.out 6).trans rfl; have hfz11_0 := blk_frozen BK214.out 0; have hfz11_1 := blk_frozen BK214.out 1; have hfz11_2 := blk_frozen BK214.out 2; have hfz11_3 := blk_frozen BK214.out 3; have hfz11_4 := blk_frozen BK214.out 4; have hfz11_5 := blk_frozen BK214.out 5; have hfz11_6 := blk_frozen BK214.out 6) | ((with_reducible refine gate_dst (N := 7) rfl ?_); refine Kd.R_lit (Kd.int .u8) _ 5 ?hg (N := 7) ?hd (xs := ([193, (a0_4) % 256] : List Int)) (inner := [.int .u8 193, .int .u8 ((a0_4) % 256)]) (ok := fun _ => True) (okp := fun _ => True) ?hr ?hp (fun _ hk => hk) trivial (Below.refl _ _) (Nat.le_refl _) (by simp) ?_; (case hd => rfl); (case hg => rfl); (case hr => first | (go_simp; done) | (go_simp; rfl)); (case hp => exact (Reps.one (show Kd.M (Kd.int .u8) _ _ _ 193 [.int .u8 193] from rfl) (Reps.one (show Kd.M (Kd.int .u8) _ _ _ ((a0_4) % 256) [.int .u8 ((a0_4) % 256)] from rfl) (Reps.none _ _)))); intro v216 w12 ho13 hb hg_ hnew_; clear hg_ hnew_; (first | rw [← Ny215.out] at ho13 | (simp only [Int.reduceToNat] at ho13; rw [← Ny215.out] at ho13)); have n0_ := Aside0.mk (Kd.R_lower ho13 (below_size (by repeat (first | (with_reducible first | exact HB.out | apply below_alloc | apply pw_below_drewN | apply below_drew1 | refine below_set ?_ GE214.out) | exact HB.out)))); have n1_ := Aside0.mk (blk_below (g := gb214) (o := .cells #[.int .i64 a0_0, .int .i64 a0_1, .int .i64 a0_2, .int .i64 a0_3, .int .i64 a0_4, .int .i64 a0_5, .int .i64 a0_6] 26 (0, 0)) (by (with_reducible repeat (first | refine blk_drewN ?_ _ | refine blk_drew ?_ | refine blk_alloc ?_ _)); exact BK214.out) hb); have n2_ := Aside0.mk (below_step (by repeat (first | (with_reducible first | exact HB.out | apply below_alloc | apply pw_below_drewN | apply below_drew1 | refine below_set ?_ GE214.out) | exact HB.out)) hb); clear BK214; clear HB; have HO217 := n0_; have BK214 := n1_; have HB := n2_; clear n0_ n1_ n2_; clear hb ho13))
 have n0_ := Aside0.mk (Kd.R_drew HO217.out)
 have n1_ := Aside0.mk (blk_drew BK214.out)
 have n2_ := Aside0.mk (below_drew1 HB.out)
 clear HO217
 clear BK214
 clear HB
 have HO217 := n0_
 have BK214 := n1_
 have HB := n2_
 clear n0_ n1_ n2_
 obtain ⟨Ao15, co15, eo15⟩ := Kd.R_slice HO217.out
 (first | subst eo15 | (injection eo15 with f1_ f2_ f3_; have f4_ := f1_.symm; have f5_ := f3_.symm; clear f1_ f2_ f3_; subst f4_; subst f5_))
 refine start_ (n := 10) (S := fun w' => w'.cell? ⟨gb214, 0, none⟩ = some (.int .i64 a0_0) ∧ w'.cell? ⟨gb214, 1, none⟩ = some (.int .i64 a0_1) ∧ w'.cell? ⟨gb214, 2, none⟩ = some (.int .i64 a0_2) ∧ w'.cell? ⟨gb214, 3, none⟩ = some (.int .i64 a0_3) ∧ w'.cell? ⟨gb214, 4, none⟩ = some (.int .i64 a0_4) ∧ w'.cell? ⟨gb214, 5, none⟩ = some (.int .i64 a0_5) ∧ w'.cell? ⟨gb214, 6, none⟩ = some (.int .i64 a0_6)) (ds := []) #[false, false, false, false, false, false, false, false, false, false] (by kernel_rfl) rfl rfl ⟨(blk_cell BK214.out 0).trans rfl, (blk_cell BK214.out 1).trans rfl, (blk_cell BK214.out 2).trans rfl, (blk_cell BK214.out 3).trans rfl, (blk_cell BK214.out 4).trans rfl, (blk_cell BK214.out 5).trans rfl, (blk_cell BK214.out 6).trans rfl⟩ (fun hHeld => ?_); refine with_tabW payrollref7_frame.tab2 payrollref7_frame.bits2 (fun HT_ HW_ => ?_)
 generalize w12.drew = w14 at HO217 BK214 HB hHeld ⊢
 refine pure_ (i := 0) (N := some 8) (v := ?_) (a' := ?_) #[true, false, false, false, false, false, false, false, false, false] rfl rfl (any_of HT_.out (by kernel_rfl)) (fun _ _ _ h => h) (Or.inl ⟨by rfl, ?_⟩) ?_ ?_
 rotate_left
 ·
  intro w'
  go_simp
  with_reducible rfl
 rotate_left
 ·
  simp only [Act.put, List.setIfInBounds_toArray, List.set_cons_zero, List.set_cons_succ, i64_w, i32_w]
  rfl
 refine pure_ (i := 1) (N := some 9) (v := ?_) (a' := ?_) #[true, true, false, false, false, false, false, false, false, false] rfl rfl (any_of HT_.out (by kernel_rfl)) (fun _ _ _ h => h) (Or.inl ⟨by rfl, ?_⟩) ?_ ?_
 rotate_left
 ·
  intro w'
  go_simp
  with_reducible rfl
 rotate_left
 ·
  simp only [Act.put, List.setIfInBounds_toArray, List.set_cons_zero, List.set_cons_succ, i64_w, i32_w]
  rfl
 refine pure_ (i := 2) (N := some 10) (v := ?_) (a' := ?_) #[true, true, true, false, false, false, false, false, false, false] rfl rfl (any_of HT_.out (by kernel_rfl)) (fun _ _ _ h => h) (Or.inl ⟨by rfl, ?_⟩) ?_ ?_
 rotate_left
 ·
  intro w'
  go_simp
  with_reducible rfl
 rotate_left
 ·
  simp only [Act.put, List.setIfInBounds_toArray, List.set_cons_zero, List.set_cons_succ, i64_w, i32_w]
  rfl
 refine pure_ (i := 5) (N := some 13) (v := ?_) (a' := ?_) #[true, true, true, false, false, true, false, false, false, false] rfl rfl (any_of HT_.out (by kernel_rfl)) (fun _ _ _ h => h) (Or.inl ⟨by rfl, ?_⟩) ?_ ?_
 rotate_left
 ·
  intro w'
  go_simp
  with_reducible rfl
 rotate_left
 ·
  simp only [Act.put, List.setIfInBounds_toArray, List.set_cons_zero, List.set_cons_succ, i64_w, i32_w]
  rfl
 refine pure_ (i := 6) (N := some 14) (v := ?_) (a' := ?_) #[true, true, true, false, false, true, true, false, false, false] rfl rfl (any_of HT_.out (by kernel_rfl)) (fun _ _ _ h => h) (Or.inl ⟨by rfl, ?_⟩) ?_ ?_
 rotate_left
 ·
  intro w'
  go_simp
  with_reducible rfl
 rotate_left
 ·
  simp only [Act.put, List.setIfInBounds_toArray, List.set_cons_zero, List.set_cons_succ, i64_w, i32_w]
  rfl
 refine take_ (i := 3) (N := some 11) (v := ?_) (a' := ?_) #[true, true, true, true, false, true, true, false, false, false] rfl rfl (take_ofW HT_.out HW_.out (by kernel_rfl)) (fun _ _ _ h => h) (Or.inl ⟨by rfl, ?_⟩) hHeld ?_ ?_
 rotate_left
 ·
  rintro w' ⟨s0, s1, s2, s3, s4, s5, s6⟩
  go_simp
  with_reducible rfl
 rotate_left
 ·
  simp only [Act.put, List.setIfInBounds_toArray, List.set_cons_zero, List.set_cons_succ, i64_w, i32_w]
  rfl
 refine take_ (i := 7) (N := some 15) (v := ?_) (a' := ?_) #[true, true, true, true, false, true, true, true, false, false] rfl rfl (take_ofW HT_.out HW_.out (by kernel_rfl)) (fun _ _ _ h => h) (Or.inl ⟨by rfl, ?_⟩) hHeld ?_ ?_
 rotate_left
 ·
  rintro w' ⟨s0, s1, s2, s3, s4, s5, s6⟩
  go_simp
  with_reducible rfl
 rotate_left
 ·
  simp only [Act.put, List.setIfInBounds_toArray, List.set_cons_zero, List.set_cons_succ, i64_w, i32_w]
  rfl
 refine one_ (i := 4) (N := some 12) #[true, true, true, true, true, true, true, true, false, false] rfl rfl (one_of HT_.out (by kernel_rfl)) (by decide) (fun K hK => ?_)
 refine goes_ Try.func36 (by kernel_rfl) rfl #[.slice Ao15 y215.length co15, .int .i64 a0_0, .int .i64 2] (by rfl) rfl rfl (by (try simp only [List.map_toArray, List.map_cons, List.map_nil]); first | done | rfl | (simp only [List.length_drop, List.length_take]; rfl)) ?_
 with_reducible refine (payrollref7_put.calls k (fun k_ => some k_ = (.slice Ao15 y215.length co15 : Value).ownBlock) (.slice Ao15 y215.length co15) y215 a0_0 2 t218 w _ ?side1 ?side2 A2.out).mono ?_
 (case side1 => repeat (first | (with_reducible first | exact HB.out | apply below_alloc | apply pw_below_drewN | apply below_drew1 | refine below_set ?_ GE214.out) | exact HB.out))
 (case side2 => exact Kd.R_tight rfl HO217.out)
 rintro e w16 ⟨v219, rfl, ho0, hb, hkp⟩
 refine ⟨_, rfl, ?_⟩
 have n0_ := Aside0.mk (blk_kept (by (with_reducible repeat (first | refine blk_drewN ?_ _ | refine blk_drew ?_ | refine blk_alloc ?_ _)); exact BK214.out) hkp (fun hs_ => (fun e_ => (Kd.R_ne HO217.out BK214.out (by decide)) e_) hs_))
 have n1_ := Aside0.mk (Kd.R_mono (ok' := fun k_ => True) ho0 (fun k_ hk_ => trivial))
 have n2_ := Aside0.mk (hb)
 clear BK214
 clear HB
 clear HO217
 have BK214 := n0_
 have HO220 := n1_
 have HB := n2_
 clear n0_ n1_ n2_
 (try clear hb)
 (try clear hkp)
 (try clear ho0)
 obtain ⟨Ao17, co17, eo17⟩ := Kd.R_slice HO220.out
 (first | subst eo17 | (injection eo17 with f1_ f2_ f3_; have f4_ := f1_.symm; have f5_ := f3_.symm; clear f1_ f2_ f3_; subst f4_; subst f5_))
 refine hK.out _ _ ⟨(blk_cell BK214.out 0).trans rfl, (blk_cell BK214.out 1).trans rfl, (blk_cell BK214.out 2).trans rfl, (blk_cell BK214.out 3).trans rfl, (blk_cell BK214.out 4).trans rfl, (blk_cell BK214.out 5).trans rfl, (blk_cell BK214.out 6).trans rfl⟩ (fun hHeld => ?_)
 clear hK K
 refine norm_ (a' := ?_) ?_ ?_
 rotate_left
 ·
  show Act.put _ (some 12) _ = _
  simp only [Act.put, List.setIfInBounds_toArray, List.set_cons_zero, List.set_cons_succ, i64_w, i32_w]
  rfl
 refine one_ (i := 8) (N := some 16) #[true, true, true, true, true, true, true, true, true, false] rfl rfl (one_of HT_.out (by kernel_rfl)) (by decide) (fun K hK => ?_)
 refine goes_ Try.func36 (by kernel_rfl) rfl #[.slice Ao17 t218.length co17, .int .i64 a0_1, .int .i64 4] (by rfl) rfl rfl (by (try simp only [List.map_toArray, List.map_cons, List.map_nil]); first | done | rfl | (simp only [List.length_drop, List.length_take]; rfl)) ?_
 with_reducible refine (payrollref7_put.calls k (fun k_ => some k_ = (.slice Ao17 t218.length co17 : Value).ownBlock) (.slice Ao17 t218.length co17) t218 a0_1 4 t221 w _ ?side1 ?side2 A3.out).mono ?_
 (case side1 => repeat (first | (with_reducible first | exact HB.out | apply below_alloc | apply pw_below_drewN | apply below_drew1 | refine below_set ?_ GE214.out) | exact HB.out))
 (case side2 => exact Kd.R_tight rfl HO220.out)
 rintro e w18 ⟨v222, rfl, ho0, hb, hkp⟩
 refine ⟨_, rfl, ?_⟩
 have n0_ := Aside0.mk (blk_kept (by (with_reducible repeat (first | refine blk_drewN ?_ _ | refine blk_drew ?_ | refine blk_alloc ?_ _)); exact BK214.out) hkp (fun hs_ => (fun e_ => (Kd.R_ne HO220.out BK214.out (by decide)) e_) hs_))
 have n1_ := Aside0.mk (Kd.R_mono (ok' := fun k_ => True) ho0 (fun k_ hk_ => trivial))
 have n2_ := Aside0.mk (hb)
 clear BK214
 clear HB
 clear HO220
 have BK214 := n0_
 have HO223 := n1_
 have HB := n2_
 clear n0_ n1_ n2_
 (try clear hb)
 (try clear hkp)
 (try clear ho0)
 refine hK.out _ _ ⟨(blk_cell BK214.out 0).trans rfl, (blk_cell BK214.out 1).trans rfl, (blk_cell BK214.out 2).trans rfl, (blk_cell BK214.out 3).trans rfl, (blk_cell BK214.out 4).trans rfl, (blk_cell BK214.out 5).trans rfl, (blk_cell BK214.out 6).trans rfl⟩ (fun hHeld => ?_)
 clear hK K
 refine norm_ (a' := ?_) ?_ ?_
 rotate_left
 ·
  show Act.put _ (some 16) _ = _
  simp only [Act.put, List.setIfInBounds_toArray, List.set_cons_zero, List.set_cons_succ, i64_w, i32_w]
  rfl
 refine pure_ (i := 9) (N := some 3) (v := ?_) (a' := ?_) #[true, true, true, true, true, true, true, true, true, true] rfl rfl (any_of HT_.out (by kernel_rfl)) (fun _ _ _ h => h) (Or.inl ⟨by rfl, ?_⟩) ?_ ?_
 rotate_left
 ·
  intro w'
  go_simp
  with_reducible rfl
 rotate_left
 ·
  simp only [Act.put, List.setIfInBounds_toArray, List.set_cons_zero, List.set_cons_succ, i64_w, i32_w]
  rfl
 refine done_ (done_of HT_.out (by kernel_rfl)) ?_
 try go_wp2
 have n0_ := Aside0.mk (Kd.R_drew HO223.out)
 have n1_ := Aside0.mk (blk_drew BK214.out)
 have n2_ := Aside0.mk (below_drew1 HB.out)
 clear HO223
 clear BK214
 clear HB
 have HO223 := n0_
 have BK214 := n1_
 have HB := n2_
 clear n0_ n1_ n2_
 obtain ⟨Ao20, co20, eo20⟩ := Kd.R_slice HO223.out
 (first | subst eo20 | (injection eo20 with f1_ f2_ f3_; have f4_ := f1_.symm; have f5_ := f3_.symm; clear f1_ f2_ f3_; subst f4_; subst f5_))
 refine start_ (n := 8) (S := fun w' => w'.cell? ⟨gb214, 0, none⟩ = some (.int .i64 a0_0) ∧ w'.cell? ⟨gb214, 1, none⟩ = some (.int .i64 a0_1) ∧ w'.cell? ⟨gb214, 2, none⟩ = some (.int .i64 a0_2) ∧ w'.cell? ⟨gb214, 3, none⟩ = some (.int .i64 a0_3) ∧ w'.cell? ⟨gb214, 4, none⟩ = some (.int .i64 a0_4) ∧ w'.cell? ⟨gb214, 5, none⟩ = some (.int .i64 a0_5) ∧ w'.cell? ⟨gb214, 6, none⟩ = some (.int .i64 a0_6)) (ds := []) #[false, false, false, false, false, false, false, false] (by kernel_rfl) rfl rfl ⟨(blk_cell BK214.out 0).trans rfl, (blk_cell BK214.out 1).trans rfl, (blk_cell BK214.out 2).trans rfl, (blk_cell BK214.out 3).trans rfl, (blk_cell BK214.out 4).trans rfl, (blk_cell BK214.out 5).trans rfl, (blk_cell BK214.out 6).trans rfl⟩ (fun hHeld => ?_); refine with_tabW payrollref7_frame.tab3 payrollref7_frame.bits3 (fun HT_ HW_ => ?_)
 generalize w18.drew = w19 at HO223 BK214 HB hHeld ⊢
 refine pure_ (i := 0) (N := some 17) (v := ?_) (a' := ?_) #[true, false, false, false, false, false, false, false] rfl rfl (any_of HT_.out (by kernel_rfl)) (fun _ _ _ h => h) (Or.inl ⟨by rfl, ?_⟩) ?_ ?_
 rotate_left
 ·
  intro w'
  go_simp
  with_reducible rfl
 rotate_left
 ·
  simp only [Act.put, List.setIfInBounds_toArray, List.set_cons_zero, List.set_cons_succ, i64_w, i32_w]
  rfl
 refine pure_ (i := 1) (N := some 18) (v := ?_) (a' := ?_) #[true, true, false, false, false, false, false, false] rfl rfl (any_of HT_.out (by kernel_rfl)) (fun _ _ _ h => h) (Or.inl ⟨by rfl, ?_⟩) ?_ ?_
 rotate_left
 ·
  intro w'
  go_simp
  with_reducible rfl
 rotate_left
 ·
  simp only [Act.put, List.setIfInBounds_toArray, List.set_cons_zero, List.set_cons_succ, i64_w, i32_w]
  rfl
 refine pure_ (i := 4) (N := some 21) (v := ?_) (a' := ?_) #[true, true, false, false, true, false, false, false] rfl rfl (any_of HT_.out (by kernel_rfl)) (fun _ _ _ h => h) (Or.inl ⟨by rfl, ?_⟩) ?_ ?_
 rotate_left
 ·
  intro w'
  go_simp
  with_reducible rfl
 rotate_left
 ·
  simp only [Act.put, List.setIfInBounds_toArray, List.set_cons_zero, List.set_cons_succ, i64_w, i32_w]
  rfl
 refine take_ (i := 2) (N := some 19) (v := ?_) (a' := ?_) #[true, true, true, false, true, false, false, false] rfl rfl (take_ofW HT_.out HW_.out (by kernel_rfl)) (fun _ _ _ h => h) (Or.inl ⟨by rfl, ?_⟩) hHeld ?_ ?_
 rotate_left
 ·
  rintro w' ⟨s0, s1, s2, s3, s4, s5, s6⟩
  go_simp
  with_reducible rfl
 rotate_left
 ·
  simp only [Act.put, List.setIfInBounds_toArray, List.set_cons_zero, List.set_cons_succ, i64_w, i32_w]
  rfl
 refine take_ (i := 5) (N := some 22) (v := ?_) (a' := ?_) #[true, true, true, false, true, true, false, false] rfl rfl (take_ofW HT_.out HW_.out (by kernel_rfl)) (fun _ _ _ h => h) (Or.inl ⟨by rfl, ?_⟩) hHeld ?_ ?_
 rotate_left
 ·
  rintro w' ⟨s0, s1, s2, s3, s4, s5, s6⟩
  go_simp
  with_reducible rfl
 rotate_left
 ·
  simp only [Act.put, List.setIfInBounds_toArray, List.set_cons_zero, List.set_cons_succ, i64_w, i32_w]
  rfl
 refine one_ (i := 3) (N := some 20) #[true, true, true, true, true, true, false, false] rfl rfl (one_of HT_.out (by kernel_rfl)) (by decide) (fun K hK => ?_)
 refine goes_ Try.func36 (by kernel_rfl) rfl #[.slice Ao20 t221.length co20, .int .i64 a0_2, .int .i64 4] (by rfl) rfl rfl (by (try simp only [List.map_toArray, List.map_cons, List.map_nil]); first | done | rfl | (simp only [List.length_drop, List.length_take]; rfl)) ?_
 with_reducible refine (payrollref7_put.calls k (fun k_ => some k_ = (.slice Ao20 t221.length co20 : Value).ownBlock) (.slice Ao20 t221.length co20) t221 a0_2 4 t224 w _ ?side1 ?side2 A4.out).mono ?_
 (case side1 => repeat (first | (with_reducible first | exact HB.out | apply below_alloc | apply pw_below_drewN | apply below_drew1 | refine below_set ?_ GE214.out) | exact HB.out))
 (case side2 => exact Kd.R_tight rfl HO223.out)
 rintro e w21 ⟨v225, rfl, ho0, hb, hkp⟩
 refine ⟨_, rfl, ?_⟩
 have n0_ := Aside0.mk (blk_kept (by (with_reducible repeat (first | refine blk_drewN ?_ _ | refine blk_drew ?_ | refine blk_alloc ?_ _)); exact BK214.out) hkp (fun hs_ => (fun e_ => (Kd.R_ne HO223.out BK214.out (by decide)) e_) hs_))
 have n1_ := Aside0.mk (Kd.R_mono (ok' := fun k_ => True) ho0 (fun k_ hk_ => trivial))
 have n2_ := Aside0.mk (hb)
 clear BK214
 clear HB
 clear HO223
 have BK214 := n0_
 have HO226 := n1_
 have HB := n2_
 clear n0_ n1_ n2_
 (try clear hb)
 (try clear hkp)
 (try clear ho0)
 obtain ⟨Ao22, co22, eo22⟩ := Kd.R_slice HO226.out
 (first | subst eo22 | (injection eo22 with f1_ f2_ f3_; have f4_ := f1_.symm; have f5_ := f3_.symm; clear f1_ f2_ f3_; subst f4_; subst f5_))
 refine hK.out _ _ ⟨(blk_cell BK214.out 0).trans rfl, (blk_cell BK214.out 1).trans rfl, (blk_cell BK214.out 2).trans rfl, (blk_cell BK214.out 3).trans rfl, (blk_cell BK214.out 4).trans rfl, (blk_cell BK214.out 5).trans rfl, (blk_cell BK214.out 6).trans rfl⟩ (fun hHeld => ?_)
 clear hK K
 refine norm_ (a' := ?_) ?_ ?_
 rotate_left
 ·
  show Act.put _ (some 20) _ = _
  simp only [Act.put, List.setIfInBounds_toArray, List.set_cons_zero, List.set_cons_succ, i64_w, i32_w]
  rfl
 refine one_ (i := 6) (N := some 23) #[true, true, true, true, true, true, true, false] rfl rfl (one_of HT_.out (by kernel_rfl)) (by decide) (fun K hK => ?_)
 refine goes_ Try.func36 (by kernel_rfl) rfl #[.slice Ao22 t224.length co22, .int .i64 a0_3, .int .i64 4] (by rfl) rfl rfl (by (try simp only [List.map_toArray, List.map_cons, List.map_nil]); first | done | rfl | (simp only [List.length_drop, List.length_take]; rfl)) ?_
 with_reducible refine (payrollref7_put.calls k (fun k_ => some k_ = (.slice Ao22 t224.length co22 : Value).ownBlock) (.slice Ao22 t224.length co22) t224 a0_3 4 t227 w _ ?side1 ?side2 A5.out).mono ?_
 (case side1 => repeat (first | (with_reducible first | exact HB.out | apply below_alloc | apply pw_below_drewN | apply below_drew1 | refine below_set ?_ GE214.out) | exact HB.out))
 (case side2 => exact Kd.R_tight rfl HO226.out)
 rintro e w23 ⟨v228, rfl, ho0, hb, hkp⟩
 refine ⟨_, rfl, ?_⟩
 have n0_ := Aside0.mk (blk_kept (by (with_reducible repeat (first | refine blk_drewN ?_ _ | refine blk_drew ?_ | refine blk_alloc ?_ _)); exact BK214.out) hkp (fun hs_ => (fun e_ => (Kd.R_ne HO226.out BK214.out (by decide)) e_) hs_))
 have n1_ := Aside0.mk (Kd.R_mono (ok' := fun k_ => True) ho0 (fun k_ hk_ => trivial))
 have n2_ := Aside0.mk (hb)
 clear BK214
 clear HB
 clear HO226
 have BK214 := n0_
 have HO229 := n1_
 have HB := n2_
 clear n0_ n1_ n2_
 (try clear hb)
 (try clear hkp)
 (try clear ho0)
 refine hK.out _ _ ⟨(blk_cell BK214.out 0).trans rfl, (blk_cell BK214.out 1).trans rfl, (blk_cell BK214.out 2).trans rfl, (blk_cell BK214.out 3).trans rfl, (blk_cell BK214.out 4).trans rfl, (blk_cell BK214.out 5).trans rfl, (blk_cell BK214.out 6).trans rfl⟩ (fun hHeld => ?_)
 clear hK K
 refine norm_ (a' := ?_) ?_ ?_
 rotate_left
 ·
  show Act.put _ (some 23) _ = _
  simp only [Act.put, List.setIfInBounds_toArray, List.set_cons_zero, List.set_cons_succ, i64_w, i32_w]
  rfl
 refine pure_ (i := 7) (N := some 3) (v := ?_) (a' := ?_) #[true, true, true, true, true, true, true, true] rfl rfl (any_of HT_.out (by kernel_rfl)) (fun _ _ _ h => h) (Or.inl ⟨by rfl, ?_⟩) ?_ ?_
 rotate_left
 ·
  intro w'
  go_simp
  with_reducible rfl
 rotate_left
 ·
  simp only [Act.put, List.setIfInBounds_toArray, List.set_cons_zero, List.set_cons_succ, i64_w, i32_w]
  rfl
 refine done_ (done_of HT_.out (by kernel_rfl)) ?_
 try go_wp2
 have n0_ := Aside0.mk (Kd.R_drew HO229.out)
 have n1_ := Aside0.mk (blk_drew BK214.out)
 have n2_ := Aside0.mk (below_drew1 HB.out)
 clear HO229
 clear BK214
 clear HB
 have HO229 := n0_
 have BK214 := n1_
 have HB := n2_
 clear n0_ n1_ n2_
 obtain ⟨Ao25, co25, eo25⟩ := Kd.R_slice HO229.out
 (first | subst eo25 | (injection eo25 with f1_ f2_ f3_; have f4_ := f1_.symm; have f5_ := f3_.symm; clear f1_ f2_ f3_; subst f4_; subst f5_))
 refine start_ (n := 10) (S := fun w' => w'.cell? ⟨gb214, 0, none⟩ = some (.int .i64 a0_0) ∧ w'.cell? ⟨gb214, 1, none⟩ = some (.int .i64 a0_1) ∧ w'.cell? ⟨gb214, 2, none⟩ = some (.int .i64 a0_2) ∧ w'.cell? ⟨gb214, 3, none⟩ = some (.int .i64 a0_3) ∧ w'.cell? ⟨gb214, 4, none⟩ = some (.int .i64 a0_4) ∧ w'.cell? ⟨gb214, 5, none⟩ = some (.int .i64 a0_5) ∧ w'.cell? ⟨gb214, 6, none⟩ = some (.int .i64 a0_6)) (ds := []) #[false, false, false, false, false, false, false, false, false, false] (by kernel_rfl) rfl rfl ⟨(blk_cell BK214.out 0).trans rfl, (blk_cell BK214.out 1).trans rfl, (blk_cell BK214.out 2).trans rfl, (blk_cell BK214.out 3).trans rfl, (blk_cell BK214.out 4).trans rfl, (blk_cell BK214.out 5).trans rfl, (blk_cell BK214.out 6).trans rfl⟩ (fun hHeld => ?_); refine with_tabW payrollref7_frame.tab4 payrollref7_frame.bits4 (fun HT_ HW_ => ?_)
 generalize w23.drew = w24 at HO229 BK214 HB hHeld ⊢
 refine pure_ (i := 0) (N := some 24) (v := ?_) (a' := ?_) #[true, false, false, false, false, false, false, false, false, false] rfl rfl (any_of HT_.out (by kernel_rfl)) (fun _ _ _ h => h) (Or.inl ⟨by rfl, ?_⟩) ?_ ?_
 rotate_left
 ·
  intro w'
  go_simp
  with_reducible rfl
 rotate_left
 ·
  simp only [Act.put, List.setIfInBounds_toArray, List.set_cons_zero, List.set_cons_succ, i64_w, i32_w]
  rfl
 refine pure_ (i := 1) (N := some 25) (v := ?_) (a' := ?_) #[true, true, false, false, false, false, false, false, false, false] rfl rfl (any_of HT_.out (by kernel_rfl)) (fun _ _ _ h => h) (Or.inl ⟨by rfl, ?_⟩) ?_ ?_
 rotate_left
 ·
  intro w'
  go_simp
  with_reducible rfl
 rotate_left
 ·
  simp only [Act.put, List.setIfInBounds_toArray, List.set_cons_zero, List.set_cons_succ, i64_w, i32_w]
  rfl
 refine pure_ (i := 2) (N := some 26) (v := ?_) (a' := ?_) #[true, true, true, false, false, false, false, false, false, false] rfl rfl (any_of HT_.out (by kernel_rfl)) (fun _ _ _ h => h) (Or.inl ⟨by rfl, ?_⟩) ?_ ?_
 rotate_left
 ·
  intro w'
  go_simp
  with_reducible rfl
 rotate_left
 ·
  simp only [Act.put, List.setIfInBounds_toArray, List.set_cons_zero, List.set_cons_succ, i64_w, i32_w]
  rfl
 refine pure_ (i := 5) (N := some 29) (v := ?_) (a' := ?_) #[true, true, true, false, false, true, false, false, false, false] rfl rfl (any_of HT_.out (by kernel_rfl)) (fun _ _ _ h => h) (Or.inl ⟨by rfl, ?_⟩) ?_ ?_
 rotate_left
 ·
  intro w'
  go_simp
  with_reducible rfl
 rotate_left
 ·
  simp only [Act.put, List.setIfInBounds_toArray, List.set_cons_zero, List.set_cons_succ, i64_w, i32_w]
  rfl
 refine pure_ (i := 6) (N := some 30) (v := ?_) (a' := ?_) #[true, true, true, false, false, true, true, false, false, false] rfl rfl (any_of HT_.out (by kernel_rfl)) (fun _ _ _ h => h) (Or.inl ⟨by rfl, ?_⟩) ?_ ?_
 rotate_left
 ·
  intro w'
  go_simp
  with_reducible rfl
 rotate_left
 ·
  simp only [Act.put, List.setIfInBounds_toArray, List.set_cons_zero, List.set_cons_succ, i64_w, i32_w]
  rfl
 refine take_ (i := 3) (N := some 27) (v := ?_) (a' := ?_) #[true, true, true, true, false, true, true, false, false, false] rfl rfl (take_ofW HT_.out HW_.out (by kernel_rfl)) (fun _ _ _ h => h) (Or.inl ⟨by rfl, ?_⟩) hHeld ?_ ?_
 rotate_left
 ·
  rintro w' ⟨s0, s1, s2, s3, s4, s5, s6⟩
  go_simp
  with_reducible rfl
 rotate_left
 ·
  simp only [Act.put, List.setIfInBounds_toArray, List.set_cons_zero, List.set_cons_succ, i64_w, i32_w]
  rfl
 refine take_ (i := 7) (N := some 31) (v := ?_) (a' := ?_) #[true, true, true, true, false, true, true, true, false, false] rfl rfl (take_ofW HT_.out HW_.out (by kernel_rfl)) (fun _ _ _ h => h) (Or.inl ⟨by rfl, ?_⟩) hHeld ?_ ?_
 rotate_left
 ·
  rintro w' ⟨s0, s1, s2, s3, s4, s5, s6⟩
  go_simp
  with_reducible rfl
 rotate_left
 ·
  simp only [Act.put, List.setIfInBounds_toArray, List.set_cons_zero, List.set_cons_succ, i64_w, i32_w]
  rfl
 refine one_ (i := 4) (N := some 28) #[true, true, true, true, true, true, true, true, false, false] rfl rfl (one_of HT_.out (by kernel_rfl)) (by decide) (fun K hK => ?_)
 refine goes_ Try.func36 (by kernel_rfl) rfl #[.slice Ao25 t227.length co25, .int .i64 a0_5, .int .i64 2] (by rfl) rfl rfl (by (try simp only [List.map_toArray, List.map_cons, List.map_nil]); first | done | rfl | (simp only [List.length_drop, List.length_take]; rfl)) ?_
 with_reducible refine (payrollref7_put.calls k (fun k_ => some k_ = (.slice Ao25 t227.length co25 : Value).ownBlock) (.slice Ao25 t227.length co25) t227 a0_5 2 t230 w _ ?side1 ?side2 A6.out).mono ?_
 (case side1 => repeat (first | (with_reducible first | exact HB.out | apply below_alloc | apply pw_below_drewN | apply below_drew1 | refine below_set ?_ GE214.out) | exact HB.out))
 (case side2 => exact Kd.R_tight rfl HO229.out)
 rintro e w26 ⟨v231, rfl, ho0, hb, hkp⟩
 refine ⟨_, rfl, ?_⟩
 have n0_ := Aside0.mk (blk_kept (by (with_reducible repeat (first | refine blk_drewN ?_ _ | refine blk_drew ?_ | refine blk_alloc ?_ _)); exact BK214.out) hkp (fun hs_ => (fun e_ => (Kd.R_ne HO229.out BK214.out (by decide)) e_) hs_))
 have n1_ := Aside0.mk (Kd.R_mono (ok' := fun k_ => True) ho0 (fun k_ hk_ => trivial))
 have n2_ := Aside0.mk (hb)
 clear BK214
 clear HB
 clear HO229
 have BK214 := n0_
 have HO232 := n1_
 have HB := n2_
 clear n0_ n1_ n2_
 (try clear hb)
 (try clear hkp)
 (try clear ho0)
 obtain ⟨Ao27, co27, eo27⟩ := Kd.R_slice HO232.out
 (first | subst eo27 | (injection eo27 with f1_ f2_ f3_; have f4_ := f1_.symm; have f5_ := f3_.symm; clear f1_ f2_ f3_; subst f4_; subst f5_))
 refine hK.out _ _ ⟨(blk_cell BK214.out 0).trans rfl, (blk_cell BK214.out 1).trans rfl, (blk_cell BK214.out 2).trans rfl, (blk_cell BK214.out 3).trans rfl, (blk_cell BK214.out 4).trans rfl, (blk_cell BK214.out 5).trans rfl, (blk_cell BK214.out 6).trans rfl⟩ (fun hHeld => ?_)
 clear hK K
 refine norm_ (a' := ?_) ?_ ?_
 rotate_left
 ·
  show Act.put _ (some 28) _ = _
  simp only [Act.put, List.setIfInBounds_toArray, List.set_cons_zero, List.set_cons_succ, i64_w, i32_w]
  rfl
 refine one_ (i := 8) (N := some 32) #[true, true, true, true, true, true, true, true, true, false] rfl rfl (one_of HT_.out (by kernel_rfl)) (by decide) (fun K hK => ?_)
 refine goes_ Try.func36 (by kernel_rfl) rfl #[.slice Ao27 t230.length co27, .int .i64 a0_6, .int .i64 4] (by rfl) rfl rfl (by (try simp only [List.map_toArray, List.map_cons, List.map_nil]); first | done | rfl | (simp only [List.length_drop, List.length_take]; rfl)) ?_
 with_reducible refine (payrollref7_put.calls k (fun k_ => some k_ = (.slice Ao27 t230.length co27 : Value).ownBlock) (.slice Ao27 t230.length co27) t230 a0_6 4 t233 w _ ?side1 ?side2 A7.out).mono ?_
 (case side1 => repeat (first | (with_reducible first | exact HB.out | apply below_alloc | apply pw_below_drewN | apply below_drew1 | refine below_set ?_ GE214.out) | exact HB.out))
 (case side2 => exact Kd.R_tight rfl HO232.out)
 rintro e w28 ⟨v234, rfl, ho0, hb, hkp⟩
 refine ⟨_, rfl, ?_⟩
 have n0_ := Aside0.mk (blk_kept (by (with_reducible repeat (first | refine blk_drewN ?_ _ | refine blk_drew ?_ | refine blk_alloc ?_ _)); exact BK214.out) hkp (fun hs_ => (fun e_ => (Kd.R_ne HO232.out BK214.out (by decide)) e_) hs_))
 have n1_ := Aside0.mk (Kd.R_mono (ok' := fun k_ => True) ho0 (fun k_ hk_ => trivial))
 have n2_ := Aside0.mk (hb)
 clear BK214
 clear HB
 clear HO232
 have BK214 := n0_
 have HO235 := n1_
 have HB := n2_
 clear n0_ n1_ n2_
 (try clear hb)
 (try clear hkp)
 (try clear ho0)
 refine hK.out _ _ ⟨(blk_cell BK214.out 0).trans rfl, (blk_cell BK214.out 1).trans rfl, (blk_cell BK214.out 2).trans rfl, (blk_cell BK214.out 3).trans rfl, (blk_cell BK214.out 4).trans rfl, (blk_cell BK214.out 5).trans rfl, (blk_cell BK214.out 6).trans rfl⟩ (fun hHeld => ?_)
 clear hK K
 refine norm_ (a' := ?_) ?_ ?_
 rotate_left
 ·
  show Act.put _ (some 32) _ = _
  simp only [Act.put, List.setIfInBounds_toArray, List.set_cons_zero, List.set_cons_succ, i64_w, i32_w]
  rfl
 refine pure_ (i := 9) (N := some 3) (v := ?_) (a' := ?_) #[true, true, true, true, true, true, true, true, true, true] rfl rfl (any_of HT_.out (by kernel_rfl)) (fun _ _ _ h => h) (Or.inl ⟨by rfl, ?_⟩) ?_ ?_
 rotate_left
 ·
  intro w'
  go_simp
  with_reducible rfl
 rotate_left
 ·
  simp only [Act.put, List.setIfInBounds_toArray, List.set_cons_zero, List.set_cons_succ, i64_w, i32_w]
  rfl
 refine done_ (done_of HT_.out (by kernel_rfl)) ?_
 obtain ⟨Ao29, co29, eo29⟩ := Kd.R_slice HO235.out
 subst eo29
 try go_wp2_with (first | ((with_reducible refine gate_callee (f := 17) rfl ?_); refine goesL_ (some 35) rfl rfl Try.func17 (by kernel_rfl) rfl #[.slice Ao29 t233.length co29] rfl (by (try simp only [List.map_toArray, List.map_cons, List.map_nil]); first | done | rfl | (simp only [List.length_drop, List.length_take]; rfl)) ?_; (with_reducible refine (payrollref7_Sum.calls k _ _ t233 t236 _ ?side1 ?side2 A8.out).mono ?_); (case side1 => repeat (first | exact (Kd.R_reads' HO235.out).2.2 | (with_reducible refine Kd.C_alloc ?_ _) | (with_reducible refine Kd.C_drewN ?_ _) | (with_reducible refine Kd.C_drew ?_))); (case side2 => exact (Kd.R_reads' HO235.out).2.1); rintro e w' ⟨rfl, ⟨nd, rfl⟩⟩; refine ⟨_, rfl, ?_⟩) | ((with_reducible refine gate_callee (f := 36) rfl ?_); refine goesL_ (some 36) rfl rfl Try.func36 (by kernel_rfl) rfl #[.slice Ao29 t233.length co29, .int .i64 t236, .int .i64 2] rfl (by (try simp only [List.map_toArray, List.map_cons, List.map_nil]); first | done | rfl | (simp only [List.length_drop, List.length_take]; rfl)) ?_; (with_reducible refine (payrollref7_put.calls k (fun k_ => some k_ = (.slice Ao29 t233.length co29 : Value).ownBlock) (.slice Ao29 t233.length co29) t233 t236 2 t237 w _ ?side1 ?side2 A9.out).mono ?_); (case side1 => repeat (first | (with_reducible first | exact HB.out | apply below_alloc | apply pw_below_drewN | apply below_drew1 | refine below_set ?_ GE214.out) | exact HB.out)); (case side2 => exact Kd.R_tight rfl HO235.out); rintro e w30 ⟨v238, rfl, ho0, hb, hkp⟩; refine ⟨_, rfl, ?_⟩; have n0_ := Aside0.mk (blk_kept (by (with_reducible repeat (first | refine blk_drewN ?_ _ | refine blk_drew ?_ | refine blk_alloc ?_ _)); exact BK214.out) hkp (fun hs_ => (fun e_ => (Kd.R_ne HO235.out BK214.out (by decide)) e_) hs_)); have n1_ := Aside0.mk (Kd.R_mono (ok' := fun k_ => True) ho0 (fun k_ hk_ => trivial)); have n2_ := Aside0.mk (hb); clear BK214; clear HB; clear HO235; have BK214 := n0_; have HO239 := n1_; have HB := n2_; clear n0_ n1_ n2_; (try clear hb); (try clear hkp); (try clear ho0)))
 go_ret
 exact ⟨_, by first | rfl | (simp [errW_none, errW_some] <;> rfl) | (simp [*, errW_none, errW_some] <;> rfl), by (with_reducible repeat (first | apply Kd.R_alloc | apply Kd.R_drewN | apply Kd.R_drew)); exact HO239.out, by repeat (first | (with_reducible first | exact HB.out | apply below_alloc | apply pw_below_drewN | apply below_drew1 | refine below_set ?_ GE214.out) | exact HB.out)⟩

end Go.Proofs.Ytopigdnffnondaa.P
