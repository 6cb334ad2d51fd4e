/- WithholdingSums: for every list of numbers and every number the law answers true (what is withheld in a year by the cumulative method adds up to the annual tax of the sum of the incomes, whatever their order). -/
import Derived.Test.YtbacfajhgmnjpaaWhY
import Derived.Test.YtbacfajhgmnjpaaFpayrolllaw30WithholdingSums
namespace Go.Proofs.Ytbacfajhgmnjpaa.Pure
open Go.RowKit Go.Proofs.YtbacfajhgmnjpaaW.PrintWords Go.Proofs.Ytbacfajhgmnjpaa.P Go.Proofs.Ytbacfajhgmnjpaa.K Go.Proofs.Ytbacfajhgmnjpaa.BrkA Go.Proofs.Ytbacfajhgmnjpaa.BrkS Go.Proofs.Ytbacfajhgmnjpaa.WhA Go.Proofs.Ytbacfajhgmnjpaa.WhB Go.Proofs.Ytbacfajhgmnjpaa.WhG Go.Proofs.Ytbacfajhgmnjpaa.WhY
theorem mod (x : Int) {n : Int} (hn : 0 < n) (hn1 : n ≤ 9223372036854775807) : ∃ v, paygen_Mod.f x n = some v ∧ 0 ≤ v ∧ v < n := by
  unfold paygen_Mod.f
  have hb := Deck.tmod_bd x hn
  rw [if_neg (by omega)]
  by_cases h : Int.tmod x n < 0
  · rw [if_pos h, w64 (by omega) (by omega)]
    exact ⟨_, rfl, by omega, by omega⟩
  · rw [if_neg h]
    exact ⟨_, rfl, by omega, by omega⟩
theorem yl_get (t : List S58) (al cr u md n : Int) (xs : List Int) (j : Nat) : ∀ i, j < i → (yl t al cr u md n xs i).getD j 0 = dn t al cr u md n xs (j + 1) - dn t al cr u md n xs j
  | 0, h => by omega
  | i + 1, h => by
    simp only [yl]
    rw [List.getD_eq_getElem?_getD]
    rcases Nat.lt_or_ge j i with hlt | hge
    · rw [List.getElem?_append_left (by rw [yl_len]; exact hlt), ← List.getD_eq_getElem?_getD]
      exact yl_get t al cr u md n xs j i hlt
    · obtain rfl : j = i := by omega
      rw [List.getElem?_append_right (by rw [yl_len]; omega), yl_len]
      simp
/-- The sum of a list. -/
theorem sm_sum : ∀ (xs : List Int), sm xs xs.length = xs.sum := by
  have key : ∀ (xs : List Int) (i : Nat), i ≤ xs.length → sm xs i = (xs.take i).sum := by
    intro xs i
    induction i with
    | zero => intro _; simp [sm]
    | succ i ih =>
      intro h
      have e : xs.take (i + 1) = xs.take i ++ [xs.getD i 0] := by
        rw [List.take_add_one, List.getD_eq_getElem?_getD, List.getElem?_eq_getElem (by omega)]
        rfl
      rw [e, List.sum_append, sm, ih (by omega)]
      simp
  intro xs
  rw [key xs xs.length (Nat.le_refl _), List.take_length]
theorem sum_turn (xs : List Int) (j : Nat) : (xs.drop j ++ xs.take j).sum = xs.sum := by
  have e : (xs.take j ++ xs.drop j).sum = xs.sum := by rw [List.take_append_drop]
  rw [List.sum_append] at e ⊢
  omega
theorem am_turn {xs : List Int} (h : AllAm xs) (j : Nat) : AllAm (xs.drop j ++ xs.take j) := by
  have key : ∀ x, x ∈ xs.drop j ++ xs.take j → 0 ≤ x ∧ x ≤ 1000000000 := by
    intro x hx
    have hm : x ∈ xs := by
      rcases List.mem_append.1 hx with h | h
      · exact List.mem_of_mem_drop h
      · exact List.mem_of_mem_take h
    obtain ⟨i, hi, rfl⟩ := List.getElem_of_mem hm
    have := h i hi
    rw [List.getD_eq_getElem?_getD, List.getElem?_eq_getElem hi] at this
    exact this
  intro i hi
  refine key _ ?_
  rw [List.getD_eq_getElem?_getD, List.getElem?_eq_getElem hi]
  exact List.getElem_mem hi
theorem sums_loop {m : Int} {t : List S58} {al cr u md : Int} {rs : List S80} (hv : VT m t al cr u md rs) {n : Nat} {xs ys : List Int} (h1 : 1 ≤ n) (h2 : n ≤ 53) (h3 : xs.length = n) (h4 : ys.length = n) (h : AllAm xs) (h' : AllAm ys)
    (hs : sm ys n = sm xs n) (d : Nat) : ∀ i, i + d = n →
    Ev (fun k => payrolllaw30_WithholdingSums.l0 k (n : Int) xs (yl t al cr u md (n : Int) xs xs.length) (yl t al cr u md (n : Int) ys ys.length) (sm xs i) (dn t al cr u md (n : Int) xs i) (dn t al cr u md (n : Int) ys i) (i : Int) m t al cr u md rs) true := by
  induction d with
  | zero =>
    intro i hi
    obtain rfl : i = n := by omega
    obtain ⟨s0, s1⟩ := sm_bd h i (by omega)
    refine Ev.step (fun k => by rw [payrolllaw30_WithholdingSums.l0]) (ev_neg (by omega) (Ev.bind (annual_ev m t al cr u md rs _) ?_))
    rw [anr_ok m t al cr u md rs hv s0 (by omega)]
    have key : ∀ zs : List Int, sm zs i = sm xs i → dn t al cr u md (i : Int) zs i = txv t al cr u md (sm xs i) := by
      intro zs hz
      obtain ⟨j, rfl⟩ : ∃ j, i = j + 1 := ⟨i - 1, by omega⟩
      have ha : acc t ((j + 1 : Nat) : Int) ((j + 1 : Nat) : Int) t.length = t := by
        rw [acc_one hv.vb (by omega) t.length (Nat.le_refl _), List.take_length]
      simp only [dn, dv]
      rw [ha, hz, Int.mul_ediv_cancel _ (show ((j + 1 : Nat) : Int) ≠ 0 by omega), Int.mul_ediv_cancel _ (show ((j + 1 : Nat) : Int) ≠ 0 by omega)]
    exact ev_pos rfl (ev_pos (key xs rfl) (ev_pos (key ys hs) (Ev.bind awake_ev (ev_some rfl))))
  | succ d ih =>
    intro i hi
    have ih := ih (i + 1) (by omega)
    have e1 : wrap64 ((i : Int) + 1) = ((i + 1 : Nat) : Int) := w64n (by omega) (by omega)
    obtain ⟨s0, s1⟩ := sm_bd h i (by omega)
    obtain ⟨s2, s3⟩ := sm_bd h (i + 1) (by omega)
    have e2 : wrap64 (sm xs i + rd xs (i : Int)) = sm xs (i + 1) := by
      have : sm xs i + rd xs (i : Int) = sm xs (i + 1) := rfl
      rw [this]; exact w64 (by omega) (by omega)
    have e3 : ∀ zs : List Int, zs.length = n → AllAm zs → wrap64 (dn t al cr u md (n : Int) zs i + rd (yl t al cr u md (n : Int) zs zs.length) (i : Int)) = dn t al cr u md (n : Int) zs (i + 1) := by
      intro zs hz hA
      obtain ⟨d0, d1⟩ := dn_bd m t al cr u md rs hv (n := (n : Int)) (by omega) (by omega) (by omega) hA i (by omega)
      obtain ⟨d2, d3⟩ := dn_bd m t al cr u md rs hv (n := (n : Int)) (by omega) (by omega) (by omega) hA (i + 1) (by omega)
      rw [rd_nat, yl_get t al cr u md (n : Int) zs i zs.length (by omega), w64 (by omega) (by omega)]; omega
    refine Ev.step (fun k => by rw [payrolllaw30_WithholdingSums.l0]) ?_
    refine ev_pos (by omega) (ev_pos (by omega) (ev_pos (by omega) ?_))
    refine ev_pos (show (i : Int) < ((yl t al cr u md (n : Int) xs xs.length).length : Int) by rw [yl_len]; omega) ?_
    refine ev_pos (show (i : Int) < ((yl t al cr u md (n : Int) ys ys.length).length : Int) by rw [yl_len]; omega) ?_
    simp only [e1, e2, e3 xs h3 h, e3 ys h4 h']
    exact ih
theorem WithholdingSums : payrolllaw30_WithholdingSums.Pure := by
  intro l turn _ _ _ _
  obtain ⟨m, t, al, cr, u, md, rs, a1, ht, hv, _, _, ha0, ha1⟩ := tariff l (a := 0) (which := 3) (by omega) (by omega) (.inr rfl)
  obtain ⟨c, hc, mc⟩ := Deck.pick l (a := a1) [12, 4, 1, 7] (by simp) (by simp) ha0 (by omega)
  simp only [List.mem_cons, List.not_mem_nil, or_false] at mc
  obtain ⟨n, rfl⟩ : ∃ n : Nat, c = n := ⟨c.toNat, by omega⟩
  obtain ⟨xs, a2, hx, hl, hA, _, _⟩ := bases l n (by omega) (a := a1 + 1) (by omega) (by omega)
  obtain ⟨v, hv1, v0, v1⟩ := mod turn (n := (n : Int)) (by omega) (by omega)
  have hl2 : (xs.drop v.toNat ++ xs.take v.toNat).length = n := by simp; omega
  have hA2 := am_turn hA v.toNat
  have hs : sm (xs.drop v.toNat ++ xs.take v.toNat) n = sm xs n := by
    have a := sm_sum (xs.drop v.toNat ++ xs.take v.toNat)
    have b := sm_sum xs
    rw [hl2] at a
    rw [hl] at b
    rw [a, b, sum_turn]
  have hy : ∀ zs : List Int, zs.length = n → AllAm zs → yer m t al cr u md rs (n : Int) zs = (yl t al cr u md (n : Int) zs zs.length, 0) := by
    intro zs hz hZ
    unfold yer
    rw [if_pos (B_pos hv), if_pos ⟨by omega, by omega⟩, if_pos (B_pos hZ)]
  apply Ev.rounds
  unfold payrolllaw30_WithholdingSums.f
  refine ev_bindc (a := (l, 0)) rfl (Ev.bind ht (ev_bindc hc (Ev.bind hx (ev_bindc hv1 (ev_bindc (a := ([] : List Int)) rfl ?_)))))
  refine ev_pos v0 (ev_pos (by show v ≤ (xs.length : Int); omega) (ev_bindc (a := xs.drop v.toNat) rfl ?_))
  refine ev_pos (by simp; omega) (ev_bindc (a := xs.drop v.toNat) rfl (ev_bindc (a := xs.take v.toNat) rfl ?_))
  refine ev_pos (by simp; omega) (Ev.bind (year_ev m t al cr u md rs _ _) (Ev.bind (year_ev m t al cr u md rs _ _) ?_))
  rw [hy xs hl hA, hy _ hl2 hA2]
  have e0 : ((yl t al cr u md (n : Int) xs xs.length).length : Int) = (n : Int) := by rw [yl_len, hl]
  have e : (((yl t al cr u md (n : Int) (xs.drop v.toNat ++ xs.take v.toNat) (xs.drop v.toNat ++ xs.take v.toNat).length).length : Int) != (n : Int)) = false := by
    rw [yl_len, hl2]; simp
  refine ev_pos rfl (ev_pos rfl (ev_pos e0 ?_))
  simp only [e]
  refine Ev.step (fun k => by rw [payrolllaw30_WithholdingSums.j0]) (ev_neg (by decide) ?_)
  exact sums_loop hv (by omega) (by omega) hl hl2 hA hA2 hs n 0 (by omega)
end Go.Proofs.Ytbacfajhgmnjpaa.Pure
