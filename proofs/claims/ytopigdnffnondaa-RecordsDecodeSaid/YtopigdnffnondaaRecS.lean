/- Plain lemmas for the laws of this seat: what its functions answer; no condition beyond those that each lemma states. -/
import Derived.Test.YtopigdnffnondaaRecB
import Derived.Test.YtopigdnffnondaaFpayrolllaw7same
namespace Go.Proofs.Ytopigdnffnondaa.RecS
open Go Go.RowKit Go.Proofs.YtopigdnffnondaaW.PrintWords Go.Proofs.YtopigdnffnondaaW.PrintMore Go.Proofs.Ytopigdnffnondaa.P Go.Proofs.Ytopigdnffnondaa.K Go.Proofs.Ytopigdnffnondaa.RecA Go.Proofs.Ytopigdnffnondaa.RecB
/-! records: equal lists are found equal. -/
theorem same_l1 (g : List S55) (hl : g.length ≤ 10000000) (d : Nat) : ∀ i, i + d = g.length → Ev (fun k => payrolllaw7_same.l1 k g g (i : Int)) true := by
  induction d with
  | zero =>
    intro i hi
    refine Ev.step (fun k => by rw [payrolllaw7_same.l1]) ?_
    exact ev_neg (by omega) (ev_some rfl)
  | succ d ih =>
    intro i hi
    have e1 : wrap64 ((i : Int) + 1) = ((i + 1 : Nat) : Int) := w64n (by omega) (by omega)
    refine Ev.step (fun k => by rw [payrolllaw7_same.l1]) ?_
    refine ev_pos (by omega) (ev_pos (by omega) (ev_pos (by omega) (ev_neg (by simp) ?_)))
    rw [e1]
    exact ih (i + 1) (by omega)
theorem same_l0 (es : List S26) (g : List S55) (he : es.length ≤ 10000000) (hl : g.length ≤ 10000000) (d : Nat) : ∀ i, i + d = es.length → Ev (fun k => payrolllaw7_same.l0 k es g es g (i : Int)) true := by
  induction d with
  | zero =>
    intro i hi
    refine Ev.step (fun k => by rw [payrolllaw7_same.l0]) ?_
    exact ev_neg (by omega) (same_l1 g hl g.length 0 (by omega))
  | succ d ih =>
    intro i hi
    have e1 : wrap64 ((i : Int) + 1) = ((i + 1 : Nat) : Int) := w64n (by omega) (by omega)
    refine Ev.step (fun k => by rw [payrolllaw7_same.l0]) ?_
    refine ev_pos (by omega) (ev_pos (by omega) (ev_pos (by omega) (ev_neg (by simp) ?_)))
    rw [e1]
    exact ih (i + 1) (by omega)
theorem same (es : List S26) (g : List S55) (he : es.length ≤ 10000000) (hl : g.length ≤ 10000000) : Ev (fun k => payrolllaw7_same.f k es g es g) true := by
  unfold payrolllaw7_same.f
  refine ev_pos rfl ?_
  refine Ev.step (fun k => by rw [payrolllaw7_same.j0]) ?_
  exact ev_neg (by simp) (same_l0 es g he hl es.length 0 (by omega))
end Go.Proofs.Ytopigdnffnondaa.RecS
