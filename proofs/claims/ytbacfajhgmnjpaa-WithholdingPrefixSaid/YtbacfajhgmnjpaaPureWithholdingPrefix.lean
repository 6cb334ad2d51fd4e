/- WithholdingPrefix: for every list of numbers the law answers true (after each period what has been withheld is the tax due, and it is withheld in one piece if nothing was withheld before). -/
import Derived.Test.YtbacfajhgmnjpaaWhY
import Derived.Test.YtbacfajhgmnjpaaFpayrolllaw30WithholdingPrefix
namespace Go.Proofs.Ytbacfajhgmnjpaa.Pure
open Go.RowKit Go.Proofs.YtbacfajhgmnjpaaW.PrintWords Go.Proofs.Ytbacfajhgmnjpaa.P Go.Proofs.Ytbacfajhgmnjpaa.K Go.Proofs.Ytbacfajhgmnjpaa.BrkA Go.Proofs.Ytbacfajhgmnjpaa.WhA Go.Proofs.Ytbacfajhgmnjpaa.WhB Go.Proofs.Ytbacfajhgmnjpaa.WhG Go.Proofs.Ytbacfajhgmnjpaa.WhY
theorem yl_get (t : List S58) (al cr u md n : Int) (xs : List Int) (j : Nat) : ∀ i, j < i → (yl t al cr u md n xs i).getD j 0 = dn t al cr u md n xs (j + 1) - dn t al cr u md n xs j
  | 0, h => by omega
  | i + 1, h => by
    simp only [yl]
    rw [List.getD_eq_getElem?_getD]
    rcases Nat.lt_or_ge j i with hlt | hge
    · rw [List.getElem?_append_left (by rw [yl_len]; exact hlt), ← List.getD_eq_getElem?_getD]
      exact yl_get t al cr u md n xs j i hlt
    · obtain rfl : j = i := by omega
      rw [List.getElem?_append_right (by rw [yl_len]; omega), yl_len]
      simp
theorem prefix_loop {m : Int} {t : List S58} {al cr u md : Int} {rs : List S80} (hv : VT m t al cr u md rs) {n : Nat} {xs : List Int} (h1 : 1 ≤ n) (h2 : n ≤ 53) (h3 : xs.length = n) (h : AllAm xs) (d : Nat) : ∀ i, i + d = n →
    Ev (fun k => payrolllaw30_WithholdingPrefix.l0 k (n : Int) xs (yl t al cr u md (n : Int) xs xs.length) (sm xs i) (dn t al cr u md (n : Int) xs i) (i : Int) m t al cr u md rs) true := by
  induction d with
  | zero =>
    intro i hi
    exact Ev.step (fun k => by rw [payrolllaw30_WithholdingPrefix.l0]) (ev_neg (by omega) (Ev.bind awake_ev (ev_some rfl)))
  | succ d ih =>
    intro i hi
    have ih := ih (i + 1) (by omega)
    have e1 : wrap64 ((i : Int) + 1) = ((i + 1 : Nat) : Int) := w64n (by omega) (by omega)
    obtain ⟨s0, s1⟩ := sm_bd h i (by omega)
    obtain ⟨s2, s3⟩ := sm_bd h (i + 1) (by omega)
    have e2 : wrap64 (sm xs i + rd xs (i : Int)) = sm xs (i + 1) := by
      have : sm xs i + rd xs (i : Int) = sm xs (i + 1) := rfl
      rw [this]; exact w64 (by omega) (by omega)
    obtain ⟨d0, d1⟩ := dn_bd m t al cr u md rs hv (n := (n : Int)) (by omega) (by omega) (by omega) h i (by omega)
    obtain ⟨d2, d3⟩ := dn_bd m t al cr u md rs hv (n := (n : Int)) (by omega) (by omega) (by omega) h (i + 1) (by omega)
    have e3 : wrap64 (dn t al cr u md (n : Int) xs i + rd (yl t al cr u md (n : Int) xs xs.length) (i : Int)) = dn t al cr u md (n : Int) xs (i + 1) := by
      rw [rd_nat, yl_get t al cr u md (n : Int) xs i xs.length (by omega), w64 (by omega) (by omega)]; omega
    refine Ev.step (fun k => by rw [payrolllaw30_WithholdingPrefix.l0]) ?_
    refine ev_pos (by omega) (ev_pos (by omega) (ev_pos (by omega) ?_))
    refine ev_pos (show (i : Int) < ((yl t al cr u md (n : Int) xs xs.length).length : Int) by rw [yl_len]; omega) ?_
    simp only [e1, e2, e3]
    refine Ev.bind (due_ev m t al cr u md rs _ _ _) (Ev.bind (cum_ev m t al cr u md rs _ _ _ _) ?_)
    have c1 : dur m t al cr u md rs (n : Int) ((i + 1 : Nat) : Int) (sm xs (i + 1)) = (dn t al cr u md (n : Int) xs (i + 1), 0) :=
      dur_ok m t al cr u md rs hv ⟨by omega, by omega, by omega⟩
    have c2 : cur m t al cr u md rs (n : Int) ((i + 1 : Nat) : Int) (sm xs (i + 1)) 0 = (dn t al cr u md (n : Int) xs (i + 1), 0) := by
      unfold cur
      rw [if_pos (B_pos hv), if_pos ⟨by omega, by omega, by omega, by omega⟩, Int.sub_zero]
      rfl
    rw [c1, c2]
    exact ev_pos rfl (ev_pos rfl (ev_pos rfl (ev_pos rfl ih)))
theorem WithholdingPrefix : payrolllaw30_WithholdingPrefix.Pure := by
  intro l _ _ _
  obtain ⟨m, t, al, cr, u, md, rs, a1, ht, hv, _, _, ha0, ha1⟩ := tariff l (a := 0) (which := 3) (by omega) (by omega) (.inr rfl)
  obtain ⟨c, hc, mc⟩ := Deck.pick l (a := a1) [12, 5] (by simp) (by simp) ha0 (by omega)
  simp only [List.mem_cons, List.not_mem_nil, or_false] at mc
  obtain ⟨n, rfl⟩ : ∃ n : Nat, c = n := ⟨c.toNat, by omega⟩
  obtain ⟨xs, a2, hx, hl, hA, _, _⟩ := bases l n (by omega) (a := a1 + 1) (by omega) (by omega)
  have hy : yer m t al cr u md rs (n : Int) xs = (yl t al cr u md (n : Int) xs xs.length, 0) := by
    unfold yer
    rw [if_pos (B_pos hv), if_pos ⟨by omega, by omega⟩, if_pos (B_pos hA)]
  apply Ev.rounds
  unfold payrolllaw30_WithholdingPrefix.f
  refine ev_bindc (a := (l, 0)) rfl (Ev.bind ht (ev_bindc hc (Ev.bind hx (Ev.bind (year_ev m t al cr u md rs _ _) ?_))))
  rw [hy]
  refine ev_pos rfl ?_
  have e : (((yl t al cr u md (n : Int) xs xs.length).length : Int) != (n : Int)) = false := by
    rw [yl_len, bne_eq_false_iff_eq]; omega
  simp only [e]
  refine Ev.step (fun k => by rw [payrolllaw30_WithholdingPrefix.j0]) (ev_neg (by decide) ?_)
  exact prefix_loop hv (by omega) (by omega) hl hA n 0 (by omega)
end Go.Proofs.Ytbacfajhgmnjpaa.Pure
