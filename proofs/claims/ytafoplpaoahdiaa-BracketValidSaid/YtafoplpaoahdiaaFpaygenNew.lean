/- Proved here: that the Go function paygen_New computes the plain function of that name (the machine side of the laws, reworked from a print; no condition of its own). -/
import Derived.Test.YtafoplpaoahdiaaProg
import Derived.Test.YtafoplpaoahdiaaV1
import Derived.Test.YtafoplpaoahdiaaFPRE3
namespace Go.Proofs.Ytafoplpaoahdiaa.P
open Go.RowKit Go.Proofs.YtafoplpaoahdiaaW.PrintWords Go.Proofs.YtafoplpaoahdiaaW.PrintLast Go.Proofs.YtafoplpaoahdiaaW.PrintMore
attribute [local go_sem] max2_int min2_int max_two min_two max_three min_three max_four min_four   -- for this text's walks alone
set_option linter.unusedVariables false
set_option linter.unusedSimpArgs false

def paygen_New.f (l0 : List Int) : Option (List Int × Int) := some (l0, 0)
set_option maxHeartbeats 8000000 in
set_option maxRecDepth 100000 in
theorem paygen_New.calls (A0 : Option Addr) (c0 : Nat) (l0 : List Int) (r1 : List Int) (r2 : Int) (w0 w : World) (hB : Below w0.heap.size w0 w) (hr0 : Kd.C (Kd.int .i64) w0 A0 l0.length l0) (hc0 : l0.length ≤ c0) (h : paygen_New.f l0 = some (r1, r2)) :
  Calls Try.prog 13 #[.slice A0 l0.length c0] w fun e w' => ∃ g_ : Nat, e = .returned (.pointer (some ⟨g_, 0, none⟩)) ∧ IsS56 w0 w' g_ r1 r2 ∧ Below w0.heap.size w0 w' ∧ Below w.heap.size w w' := by
 have hu56 := Try.underlying56
 have HR0 := Aside0.mk hr0
 have HC0 := Aside0.mk hc0
 clear hr0 hc0
 have HBW := Aside0.mk (Below.refl w.heap.size w)
 have HW0 := Aside0.mk hB.size
 have HB := Aside0.mk hB
 clear hB
 have H : (some (l0, 0)) = some (r1, r2) := h
 clear h
 simp only [Option.some.injEq, Prod.mk.injEq] at H
 obtain ⟨rfl, rfl⟩ := H
 go_enter Try.func13, Try.ntmps13
 go_wp2_with (first | ((with_reducible refine gate_dst (N := 5) rfl ?_); refine box_event ?hg (N := 5) ?hd (cs := #[.slice A0 l0.length c0, .int .i64 0]) (t := 56) ?hr ?_; (case hd => rfl); (case hg => rfl); (case hr => first | (go_simp; done) | (go_simp; rfl)); intro gb161 hg w2 hbox hb; have n0_ := Aside0.mk (below_step HBW.out hb); have n1_ := Aside0.mk (below_step (by repeat (first | (with_reducible first | exact HB.out | apply below_alloc | apply pw_below_drewN | apply below_drew1) | exact HB.out)) hb); have n2_ := Aside0.mk (hbox); have n3_ := Aside0.mk ((by rw [hg]; exact (below_size (by repeat (first | (with_reducible first | exact HBW.out | apply below_alloc | apply pw_below_drewN | apply below_drew1) | exact HBW.out))) : w.heap.size ≤ gb161)); have n4_ := Aside0.mk ((Nat.le_trans HW0.out (by rw [hg]; exact (below_size (by repeat (first | (with_reducible first | exact HBW.out | apply below_alloc | apply pw_below_drewN | apply below_drew1) | exact HBW.out))) : w.heap.size ≤ gb161) : w0.heap.size ≤ gb161)); clear HBW; clear HB; have HBW := n0_; have HB := n1_; have BK161 := n2_; have GW161 := n3_; have GE161 := n4_; clear n0_ n1_ n2_ n3_ n4_; clear hb hbox hg))
 go_ret
 exact ⟨_, rfl, (show IsS56 w0 _ gb161 l0 0 from ⟨_, _, by (with_reducible repeat (first | refine blk_drewN ?_ _ | refine blk_drew ?_ | refine blk_alloc ?_ _)); exact BK161.out, GE161.out, HR0.out⟩), by repeat (first | (with_reducible first | exact HB.out | apply below_alloc | apply pw_below_drewN | apply below_drew1 | refine below_set ?_ GE161.out) | exact HB.out), by repeat (first | (with_reducible first | exact HBW.out | apply below_alloc | apply pw_below_drewN | apply below_drew1 | refine below_set ?_ GW161.out) | exact HBW.out)⟩

end Go.Proofs.Ytafoplpaoahdiaa.P
