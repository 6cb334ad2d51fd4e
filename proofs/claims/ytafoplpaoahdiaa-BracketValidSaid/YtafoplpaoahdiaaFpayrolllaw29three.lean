/- Proved here: that the Go function payrolllaw29_three computes the plain function of that name (the machine side of the laws, reworked from a print; no condition of its own). -/
import Derived.Test.YtafoplpaoahdiaaProg
import Derived.Test.YtafoplpaoahdiaaV1
import Derived.Test.YtafoplpaoahdiaaFPRE0
import Derived.Test.YtafoplpaoahdiaaFPRE1
namespace Go.Proofs.Ytafoplpaoahdiaa.P
open Go.RowKit Go.Proofs.YtafoplpaoahdiaaW.PrintWords Go.Proofs.YtafoplpaoahdiaaW.PrintLast Go.Proofs.YtafoplpaoahdiaaW.PrintMore
attribute [local go_sem] max2_int min2_int max_two min_two max_three min_three max_four min_four   -- for this text's walks alone
set_option linter.unusedVariables false
set_option linter.unusedSimpArgs false

def payrolllaw29_three.f  : Option ((List (S30))) := some (([(⟨0, 0⟩ : S30), (⟨1000, 200000⟩ : S30), (⟨5000, 400000⟩ : S30)] : List (S30)))
set_option maxHeartbeats 8000000 in
set_option maxRecDepth 100000 in
theorem payrolllaw29_three.calls  (r : List (S30)) (w : World) (h : payrolllaw29_three.f  = some r) :
  Calls Try.prog 37 #[] w fun e w' => ∃ v0_ : Value, e = .returned (v0_) ∧ Kd.R k30 30 w' w.heap.size (fun _ => True) v0_ r ∧ Below w.heap.size w w' := by
 have hu30 := Try.underlying30
 have HB := Aside0.mk (Below.refl w.heap.size w)
 have H : (some (([(⟨0, 0⟩ : S30), (⟨1000, 200000⟩ : S30), (⟨5000, 400000⟩ : S30)] : List (S30)))) = some r := h
 clear h
 obtain ⟨y137, hy137⟩ : ∃ y_ : List (S30), y_ = (([(⟨0, 0⟩ : S30), (⟨1000, 200000⟩ : S30), (⟨5000, 400000⟩ : S30)] : List (S30))) := ⟨_, rfl⟩
 replace H : (some y137) = some r := by first | (rw [hy137]; with_reducible exact H) | (have H2_ := (Option.bind_some _ _).symm.trans H; rw [hy137]; with_reducible exact H2_) | (have H2_ := (Option.bind_some _ _).symm.trans H; with_reducible exact H2_) | with_reducible exact H | (rw [hy137]; exact H) | exact H
 have Ny137 := Aside0.mk hy137
 clear hy137
 obtain rfl := Option.some.inj H
 go_enter Try.func37, Try.ntmps37
 go_wp2_with (first | ((with_reducible refine gate_dst (N := 4) rfl ?_); refine Kd.R_lit k30 _ 30 ?hg (N := 4) ?hd (xs := ([(⟨0, 0⟩ : S30), (⟨1000, 200000⟩ : S30), (⟨5000, 400000⟩ : S30)] : List (S30))) (inner := [.int .i64 0, .int .i64 0, .int .i64 1000, .int .i64 200000, .int .i64 5000, .int .i64 400000]) (ok := fun _ => True) (okp := fun _ => True) ?hr ?hp (fun _ hk => hk) trivial (Below.refl _ _) (Nat.le_refl _) (by simp) ?_; (case hd => rfl); (case hg => rfl); (case hr => first | (go_simp; done) | (go_simp; rfl)); (case hp => exact (Reps.c2 (show Kd.M k30 _ _ _ (⟨0, 0⟩ : S30) [.int .i64 0, .int .i64 0] from (k30_mkM _ _ _ (⟨0, 0⟩ : S30) )) (Reps.c2 (show Kd.M k30 _ _ _ (⟨1000, 200000⟩ : S30) [.int .i64 1000, .int .i64 200000] from (k30_mkM _ _ _ (⟨1000, 200000⟩ : S30) )) (Reps.c2 (show Kd.M k30 _ _ _ (⟨5000, 400000⟩ : S30) [.int .i64 5000, .int .i64 400000] from (k30_mkM _ _ _ (⟨5000, 400000⟩ : S30) )) (Reps.none _ _))))); intro v138 w1 ho2 hb hg_ hnew_; clear hg_ hnew_; (first | rw [← Ny137.out] at ho2 | (simp only [Int.reduceToNat] at ho2; rw [← Ny137.out] at ho2)); have n0_ := Aside0.mk (Kd.R_lower ho2 (below_size (by repeat (first | (with_reducible first | exact HB.out | apply below_alloc | apply pw_below_drewN | apply below_drew1) | exact HB.out)))); have n1_ := Aside0.mk (below_step (by repeat (first | (with_reducible first | exact HB.out | apply below_alloc | apply pw_below_drewN | apply below_drew1) | exact HB.out)) hb); clear HB; have HO139 := n0_; have HB := n1_; clear n0_ n1_; clear hb ho2))
 go_ret
 exact ⟨_, by first | rfl | (simp [errW_none, errW_some] <;> rfl) | (simp [*, errW_none, errW_some] <;> rfl), by (with_reducible repeat (first | apply Kd.R_alloc | apply Kd.R_drewN | apply Kd.R_drew)); exact HO139.out, by repeat (first | (with_reducible first | exact HB.out | apply below_alloc | apply pw_below_drewN | apply below_drew1) | exact HB.out)⟩

end Go.Proofs.Ytafoplpaoahdiaa.P
