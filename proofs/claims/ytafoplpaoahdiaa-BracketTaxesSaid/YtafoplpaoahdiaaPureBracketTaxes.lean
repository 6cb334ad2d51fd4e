/- BracketTaxes: for every list of numbers and all numbers the law answers true (the parts, the exact tax, the marginal rate and the rounded tax, or the error, are those of the reference). -/
import Derived.Test.YtafoplpaoahdiaaBrkB
import Derived.Test.YtafoplpaoahdiaaBrkT
import Derived.Test.YtafoplpaoahdiaaFpayrolllaw29BracketTaxes
namespace Go.Proofs.Ytafoplpaoahdiaa.Pure
open Go.RowKit Go.Proofs.YtafoplpaoahdiaaW.PrintWords Go.Proofs.Ytafoplpaoahdiaa.P Go.Proofs.Ytafoplpaoahdiaa.K Go.Proofs.Ytafoplpaoahdiaa.BrkA Go.Proofs.Ytafoplpaoahdiaa.BrkG Go.Proofs.Ytafoplpaoahdiaa.BrkB Go.Proofs.Ytafoplpaoahdiaa.BrkT
theorem mode_draw (l : List Int) {a : Int} (h0 : 0 ≤ a) (h1 : a ≤ 1000000) : ∃ v, paygen_Deck_Mode.f l a = some (v, a + 1) ∧ 0 ≤ v ∧ v ≤ 6 := by
  unfold paygen_Deck_Mode.f
  obtain ⟨v, hv, hv0, hv1⟩ := Deck.next l (a := a) (n := 7) (by omega) (by omega) h0 (by omega)
  rw [hv]
  exact ⟨v, rfl, by omega, by omega⟩
theorem ints_loop (t : List Int) (hl : t.length ≤ 1000) (d : Nat) : ∀ i, i + d = t.length → Ev (fun k => payrolllaw29_ints.l0 k t t (i : Int)) true := by
  induction d with
  | zero =>
    intro i hi
    refine Ev.step (fun k => by rw [payrolllaw29_ints.l0]) ?_
    exact ev_neg (by omega) (ev_some rfl)
  | succ d ih =>
    intro i hi
    have ih := ih (i + 1) (by omega)
    have e1 : wrap64 ((i : Int) + 1) = ((i + 1 : Nat) : Int) := w64n (by omega) (by omega)
    refine Ev.step (fun k => by rw [payrolllaw29_ints.l0]) ?_
    refine ev_pos (by omega) (ev_pos (by omega) (ev_pos (by omega) (ev_pos rfl ?_)))
    rw [e1]
    exact ih
theorem ints_ev (t : List Int) (hl : t.length ≤ 1000) : Ev (fun k => payrolllaw29_ints.f k t t) true := by
  unfold payrolllaw29_ints.f
  exact ev_pos rfl (ints_loop t hl t.length 0 (by omega))
theorem ref_marginal_loop (t : List S30) (hl : t.length ≤ 24) (x : Int) (d : Nat) : ∀ i, i + d = t.length →
    Ev (fun k => payrollref29_Marginal.l0 k t x (Brk.marg (F t) (R t) x i) (i : Int)) (Brk.marg (F t) (R t) x t.length, 0) := by
  induction d with
  | zero =>
    intro i hi
    obtain rfl : i = t.length := by omega
    refine Ev.step (fun k => by rw [payrollref29_Marginal.l0]) ?_
    exact ev_neg (by omega) (ev_some rfl)
  | succ d ih =>
    intro i hi
    have ih := ih (i + 1) (by omega)
    have e1 : wrap64 ((i : Int) + 1) = ((i + 1 : Nat) : Int) := w64n (by omega) (by omega)
    refine Ev.step (fun k => by rw [payrollref29_Marginal.l0]) ?_
    refine ev_pos (by omega) (ev_pos (by omega) ?_)
    simp only [e1, rdF]
    simp only [Brk.marg] at ih
    by_cases h : F t i ≤ x
    · rw [if_pos h] at ih
      exact ev_pos h ih
    · rw [if_neg h] at ih
      exact ev_neg h ih
theorem ref_marginal_ev (t : List S30) (x : Int) : Ev (fun k => payrollref29_Marginal.f k t x) (mar t x) := by
  unfold payrollref29_Marginal.f mar
  refine Ev.bind (ref_check_ev t x) ?_
  by_cases h : chk t x = 0
  · obtain ⟨hv, h0, h1⟩ := chk_zero h
    have hl := hv.2.1
    simp only [if_pos h]
    exact ref_marginal_loop t hl x t.length 0 (by omega)
  · simp only [if_neg h]
    exact ev_some rfl
theorem spl_len {t : List S30} (hv : VB t) (x : Int) : (spl t x).1.length ≤ 1000 := by
  have := hv.2.1
  unfold spl
  split
  · rw [parts_length]; omega
  · simp
theorem taxes_loop {t : List S30} (hv : VB t) (xs us ms : List Int) (h1 : xs.length = 2) (h2 : us.length = 2) (h3 : ms.length = 2) (d : Nat) : ∀ i, i + d = 2 →
    Ev (fun k => payrolllaw29_BracketTaxes.l0 k t xs us ms (i : Int)) true := by
  induction d with
  | zero =>
    intro i hi
    exact Ev.step (fun k => by rw [payrolllaw29_BracketTaxes.l0]) (ev_neg (by omega) (Ev.bind awake_ev (ev_some rfl)))
  | succ d ih =>
    intro i hi
    have ih := ih (i + 1) (by omega)
    have e1 : wrap64 ((i : Int) + 1) = ((i + 1 : Nat) : Int) := w64n (by omega) (by omega)
    refine Ev.step (fun k => by rw [payrolllaw29_BracketTaxes.l0]) ?_
    refine ev_pos (by omega) (ev_pos (by omega) (ev_pos (by omega) ?_))
    refine Ev.bind (split_ev t _) (Ev.bind (ref_split_ev t _) (Ev.bind (exact_ev t _) (Ev.bind (ref_exact_ev t _) ?_)))
    refine ev_pos rfl (Ev.bind (ints_ev _ (spl_len hv _)) (ev_pos rfl (ev_pos rfl (Ev.step (fun k => by rw [payrolllaw29_BracketTaxes.j1]) ?_))))
    refine ev_neg (by simp) (ev_pos (by omega) (ev_pos (by omega) ?_))
    refine Ev.bind (marginal_ev t _) (Ev.bind (ref_marginal_ev t _) (ev_pos (by omega) (ev_pos (by omega) (Ev.bind (tax_ev t _ _ _) (Ev.bind (ref_tax_ev t _ _ _) ?_)))))
    refine ev_pos rfl (ev_pos rfl (ev_pos rfl (ev_pos rfl ?_)))
    rw [e1]
    exact ih
theorem BracketTaxes : payrolllaw29_BracketTaxes.Pure := by
  intro l n unit mode _ _ _ _ _ _
  obtain ⟨t, a1, ht, hg, htl, hv, ha0, ha1⟩ := brackets l false (a := 0) (by omega) (by omega)
  obtain ⟨x, a2, hx, hx0, hx1, hb0, hb1⟩ := income l hg htl (a := a1) ha0 (by omega)
  obtain ⟨u, hu, _⟩ := Deck.pick l (a := a2) [1, 100, 10, 1000000, 7] (by simp) (by simp) (by omega) (by omega)
  obtain ⟨m, hm, hm0, hm1⟩ := mode_draw l (a := a2 + 1) (by omega) (by omega)
  apply Ev.rounds
  unfold payrolllaw29_BracketTaxes.f
  refine ev_bindc (a := (l, 0)) rfl (Ev.bind ht (ev_bindc hx (ev_bindc hu (ev_bindc hm ?_))))
  exact taxes_loop hv _ _ _ rfl rfl rfl 2 0 rfl
end Go.Proofs.Ytafoplpaoahdiaa.Pure
