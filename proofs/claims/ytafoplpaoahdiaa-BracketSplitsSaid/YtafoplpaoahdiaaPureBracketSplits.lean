/- BracketSplits: for every list of numbers the law answers true (the parts of an income add up to it, each part is full before the next one begins, the exact tax is the sum of rates times parts). -/
import Derived.Test.YtafoplpaoahdiaaBrkB
import Derived.Test.YtafoplpaoahdiaaFpayrolllaw29BracketSplits
namespace Go.Proofs.Ytafoplpaoahdiaa.Pure
open Go.RowKit Go.Proofs.YtafoplpaoahdiaaW.PrintWords Go.Proofs.Ytafoplpaoahdiaa.P Go.Proofs.Ytafoplpaoahdiaa.K Go.Proofs.Ytafoplpaoahdiaa.BrkA Go.Proofs.Ytafoplpaoahdiaa.BrkG Go.Proofs.Ytafoplpaoahdiaa.BrkB
theorem splits_loop {t : List S30} (hv : VB t) {x : Int} (h0 : 0 ≤ x) (h1 : x ≤ 1000000000000) (d : Nat) : ∀ i, i + d = t.length →
    Ev (fun k => payrolllaw29_BracketSplits.l0 k t x (parts t x) (exa t x) (Brk.sum (Brk.part (F t) t.length x) i) (Brk.sum (fun i => R t i * Brk.part (F t) t.length x i) i) (i : Int)) true := by
  have hl := hv.2.1
  have hpl := parts_length t x
  induction d with
  | zero =>
    intro i hi
    obtain rfl : i = t.length := by omega
    refine Ev.step (fun k => by rw [payrolllaw29_BracketSplits.l0]) ?_
    exact ev_neg (by omega) (ev_pos (Brk.sum_part hv.ok h0) (ev_pos rfl (Ev.bind awake_ev (ev_some rfl))))
  | succ d ih =>
    intro i hi
    have ih := ih (i + 1) (by omega)
    have e1 : wrap64 ((i : Int) + 1) = ((i + 1 : Nat) : Int) := w64n (by omega) (by omega)
    have hb := term_bd hv h0 h1 i (by omega)
    have hs0 := Brk.partial_nonneg hv.ok x (i + 1) (by omega)
    have hs1 := Brk.partial_le hv.ok h0 (i + 1) (by omega)
    have hp0 := Brk.part_nonneg (F t) t.length x i
    have hq1 := Brk.sum_part_le hv.ok h0 (i + 1) (by omega)
    have hq0 := Brk.sum_nonneg (f := Brk.part (F t) t.length x) (i + 1) (fun j _ => Brk.part_nonneg (F t) t.length x j)
    have hq2 := Brk.sum_nonneg (f := Brk.part (F t) t.length x) i (fun j _ => Brk.part_nonneg (F t) t.length x j)
    simp only [Brk.sum] at hs0 hs1 ih hq0 hq1
    have g0 : rd (parts t x) (i : Int) = Brk.part (F t) t.length x i := parts_get t x i (by omega)
    have e2 : wrap64 (Brk.part (F t) t.length x i * (t.getD i z30).f1) = R t i * Brk.part (F t) t.length x i := by
      rw [Int.mul_comm]; exact w64 (by show _ ≤ R t i * _; omega) (by show R t i * _ ≤ _; omega)
    have e3 : wrap64 (Brk.sum (Brk.part (F t) t.length x) i + Brk.part (F t) t.length x i) = Brk.sum (Brk.part (F t) t.length x) i + Brk.part (F t) t.length x i := w64 (by omega) (by omega)
    have e4 : wrap64 (Brk.sum (fun i => R t i * Brk.part (F t) t.length x i) i + R t i * Brk.part (F t) t.length x i) = Brk.sum (fun i => R t i * Brk.part (F t) t.length x i) i + R t i * Brk.part (F t) t.length x i := w64 (by omega) (by omega)
    refine Ev.step (fun k => by rw [payrolllaw29_BracketSplits.l0]) ?_
    refine ev_pos (by omega) (ev_pos (by omega) (ev_pos (by omega) ?_))
    simp only [e1, rdF, g0, e2, e3, e4]
    by_cases hn : i + 1 < t.length
    · have g1 : rd (parts t x) ((i + 1 : Nat) : Int) = Brk.part (F t) t.length x (i + 1) := parts_get t x (i + 1) hn
      simp only [g1]
      have hf := hv.ok.asc i hn
      have hf0 := hv.ok.fpos i (by omega)
      have hf1 := hv.ok.ftop (i + 1) hn
      refine ev_pos (by omega) (ev_pos (by omega) ?_)
      by_cases hpos : Brk.part (F t) t.length x (i + 1) > 0
      · refine ev_pos hpos (ev_pos (by omega) (ev_pos ?_ (ev_neg (by omega) ih)))
        show Brk.part (F t) t.length x i = wrap64 (F t (i + 1) - F t i)
        rw [w64 (by omega) (by omega)]
        unfold Brk.part at hpos ⊢
        rw [if_pos hn]
        split at hpos <;> omega
      · exact ev_neg hpos (ev_neg (by omega) ih)
    · exact ev_neg (by omega) (ev_neg (by omega) ih)
theorem BracketSplits : payrolllaw29_BracketSplits.Pure := by
  intro l _ _ _
  obtain ⟨t, a1, ht, hg, htl, hv, ha0, ha1⟩ := brackets l false (a := 0) (by omega) (by omega)
  obtain ⟨x, a2, hx, hx0, hx1, hb0, hb1⟩ := income l hg htl (a := a1) ha0 (by omega)
  apply Ev.rounds
  unfold payrolllaw29_BracketSplits.f
  refine ev_bindc (a := (l, 0)) rfl (Ev.bind ht (ev_bindc hx (Ev.bind (split_ev t x) (Ev.bind (exact_ev t x) ?_))))
  rw [spl_ok hv hx0 hx1, exr_ok hv hx0 hx1]
  refine ev_pos rfl (ev_pos rfl (Ev.step (fun k => by rw [payrolllaw29_BracketSplits.j0]) ?_))
  refine ev_neg (by simp [parts_length]) ?_
  exact splits_loop hv hx0 hx1 t.length 0 (by omega)
end Go.Proofs.Ytafoplpaoahdiaa.Pure
