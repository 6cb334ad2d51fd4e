/- WithholdingWithholds: for every list of numbers, every year and all numbers the law answers true (what is withheld by each method, for drawn and for any years and incomes). -/
import Derived.Test.YtbacfajhgmnjpaaWhY
import Derived.Test.YtbacfajhgmnjpaaWhr
import Derived.Test.YtbacfajhgmnjpaaFpayrolllaw30WithholdingWithholds
namespace Go.Proofs.Ytbacfajhgmnjpaa.Pure
open Go.RowKit Go.Proofs.YtbacfajhgmnjpaaW.PrintWords Go.Proofs.Ytbacfajhgmnjpaa.P Go.Proofs.Ytbacfajhgmnjpaa.K Go.Proofs.Ytbacfajhgmnjpaa.BrkA Go.Proofs.Ytbacfajhgmnjpaa.WhA Go.Proofs.Ytbacfajhgmnjpaa.WhB Go.Proofs.Ytbacfajhgmnjpaa.WhG Go.Proofs.Ytbacfajhgmnjpaa.WhY
/-- The tax of the last of the first i rows that begins at x or below. -/
def lk (t : List S80) (x : Int) : Nat → Int
  | 0 => 0
  | i + 1 => if RF t i ≤ x then RT t i else lk t x i
theorem lookup_loop (t : List S80) (x : Int) (hl : t.length ≤ 256) (d : Nat) : ∀ i, i + d = t.length →
    Ev (fun k => withholding_Lookup.l0 k x (lk t x i) t (t.length : Int) (i : Int)) (lk t x t.length, 0) := by
  induction d with
  | zero =>
    intro i hi
    obtain rfl : i = t.length := by omega
    exact Ev.step (fun k => by rw [withholding_Lookup.l0]) (ev_neg (by omega) (ev_some rfl))
  | succ d ih =>
    intro i hi
    have ih := ih (i + 1) (by omega)
    have e1 : wrap64 ((i : Int) + 1) = ((i + 1 : Nat) : Int) := w64n (by omega) (by omega)
    refine Ev.step (fun k => by rw [withholding_Lookup.l0]) (ev_pos (by omega) (ev_pos (by omega) (ev_pos (by omega) ?_)))
    rw [e1]
    by_cases h : RF t i ≤ x
    · refine ev_pos h ?_
      have e : lk t x (i + 1) = RT t i := by simp [lk, h]
      rw [e] at ih
      exact ih
    · refine ev_neg h ?_
      have e : lk t x (i + 1) = lk t x i := by simp [lk, h]
      rw [e] at ih
      exact ih
theorem ref_lookup_loop (t : List S80) (x : Int) (hl : t.length ≤ 256) (d : Nat) : ∀ i, i + d = t.length →
    Ev (fun k => payrollref30_Lookup.l0 k t x (lk t x i) (i : Int)) (lk t x t.length, 0) := by
  induction d with
  | zero =>
    intro i hi
    obtain rfl : i = t.length := by omega
    exact Ev.step (fun k => by rw [payrollref30_Lookup.l0]) (ev_neg (by omega) (ev_some rfl))
  | succ d ih =>
    intro i hi
    have ih := ih (i + 1) (by omega)
    have e1 : wrap64 ((i : Int) + 1) = ((i + 1 : Nat) : Int) := w64n (by omega) (by omega)
    refine Ev.step (fun k => by rw [payrollref30_Lookup.l0]) (ev_pos (by omega) (ev_pos (by omega) ?_))
    rw [e1]
    by_cases h : RF t i ≤ x
    · refine ev_pos h ?_
      have e : lk t x (i + 1) = RT t i := by simp [lk, h]
      rw [e] at ih
      exact ih
    · refine ev_neg h ?_
      have e : lk t x (i + 1) = lk t x i := by simp [lk, h]
      rw [e] at ih
      exact ih
theorem lookup_both {t : List S80} (hv : VR t) {x : Int} (hx : 0 ≤ x ∧ x ≤ 1000000000) :
    ∃ v, Ev (fun k => withholding_Lookup.f k t x) v ∧ Ev (fun k => payrollref30_Lookup.f k t x) v := by
  refine ⟨(lk t x t.length, 0), ?_, ?_⟩
  · unfold withholding_Lookup.f
    exact Ev.bind (table_ev t) (ev_pos (B_pos hv) (ev_bindc (amount_eq x) (ev_pos (decide_eq_true hx) (lookup_loop t x hv.2.1 t.length 0 (by omega)))))
  · unfold payrollref30_Lookup.f
    exact Ev.bind (ref_table_ev t) (ev_pos (B_pos hv) (ev_bindc (in_eq x 1000000000) (ev_pos (decide_eq_true hx) (ref_lookup_loop t x hv.2.1 t.length 0 (by omega)))))
section
variable {m : Int} {t : List S58} {al cr u md : Int} {rs : List S80} (hv : VT m t al cr u md rs)
include hv
theorem last_both (n p i w x : Int) (hx : 0 ≤ x ∧ x ≤ 1000000000) (ins : List Int) (es : List S61) :
    ∃ v, Ev (fun k => withholding_Withhold.j1 k n x false m t al cr u md rs p i w ins es) v ∧ Ev (fun k => payrollref30_Withhold.j1 k n x false m t al cr u md rs p i w ins es) v := by
  have h0 := hv.m0
  have h1 := hv.m1
  by_cases m1 : m = 1
  · obtain ⟨v, e1, e2⟩ := lookup_both (hv.tb m1) hx
    exact ⟨(v.1, v.2), Ev.step (fun k => by rw [withholding_Withhold.j1]) (ev_neg (by decide) (ev_pos m1 (Ev.bind e1 (ev_some rfl)))),
      Ev.step (fun k => by rw [payrollref30_Withhold.j1]) (ev_neg (by decide) (ev_pos m1 (Ev.bind e2 (ev_some rfl))))⟩
  by_cases m2 : m = 2
  · exact ⟨_, Ev.step (fun k => by rw [withholding_Withhold.j1]) (ev_neg (by decide) (ev_neg m1 (ev_pos m2 (Ev.bind (formula_ev m t al cr u md rs x n) (ev_some rfl))))),
      Ev.step (fun k => by rw [payrollref30_Withhold.j1]) (ev_neg (by decide) (ev_neg m1 (ev_pos m2 (Ev.bind (ref_formula_ev m t al cr u md rs x n) (ev_some rfl)))))⟩
  · exact ⟨_, Ev.step (fun k => by rw [withholding_Withhold.j1]) (ev_neg (by decide) (ev_neg m1 (ev_neg m2 (ev_pos (by omega) (Ev.bind (cum_ev m t al cr u md rs n _ _ w) (ev_some rfl)))))),
      Ev.step (fun k => by rw [payrollref30_Withhold.j1]) (ev_neg (by decide) (ev_neg m1 (ev_neg m2 (Ev.bind (ref_cum_ev m t al cr u md rs n _ _ w) (ev_some rfl)))))⟩
omit hv in
theorem bad1 (n p i w x : Int) (ins : List Int) (es : List S61) (b : Bool) (hb : b = true) : Ev (fun k => withholding_Withhold.j1 k n x b m t al cr u md rs p i w ins es) (0, 2) :=
  Ev.step (fun k => by rw [withholding_Withhold.j1]) (ev_pos hb (ev_some rfl))
omit hv in
theorem ref_bad1 (n p i w x : Int) (ins : List Int) (es : List S61) (b : Bool) (hb : b = true) : Ev (fun k => payrollref30_Withhold.j1 k n x b m t al cr u md rs p i w ins es) (0, 2) :=
  Ev.step (fun k => by rw [payrollref30_Withhold.j1]) (ev_pos hb (ev_some rfl))
omit hv in
theorem bad0 (n p i w x : Int) (ins : List Int) (es : List S61) (b : Bool) (hb : b = true) : Ev (fun k => withholding_Withhold.j0 k n x b m t al cr u md rs p i w ins es) (0, 3) :=
  Ev.step (fun k => by rw [withholding_Withhold.j0]) (ev_pos hb (ev_some rfl))
omit hv in
theorem ref_bad0 (n p i w x : Int) (ins : List Int) (es : List S61) (b : Bool) (hb : b = true) : Ev (fun k => payrollref30_Withhold.j0 k n x b m t al cr u md rs p i w ins es) (0, 3) :=
  Ev.step (fun k => by rw [payrollref30_Withhold.j0]) (ev_pos hb (ev_some rfl))
theorem mid_both (n p i w x : Int) (ins : List Int) (es : List S61) :
    ∃ v, Ev (fun k => withholding_Withhold.j0 k n x false m t al cr u md rs p i w ins es) v ∧ Ev (fun k => payrollref30_Withhold.j0 k n x false m t al cr u md rs p i w ins es) v := by
  by_cases hx : 0 ≤ x ∧ x ≤ 1000000000
  case neg =>
   have dx : ¬ decide (0 ≤ x ∧ x ≤ 1000000000) = true := by rw [decide_eq_true_iff]; exact hx
   exact ⟨(0, 2), Ev.step (fun k => by rw [withholding_Withhold.j0]) (ev_neg (by decide) (ev_bindc (amount_eq x) (ev_neg dx (bad1 _ _ _ _ _ _ _ _ rfl)))),
    Ev.step (fun k => by rw [payrollref30_Withhold.j0]) (ev_neg (by decide) (ev_bindc (in_eq x 1000000000) (ev_neg dx (ref_bad1 _ _ _ _ _ _ _ _ rfl))))⟩
  have dx : decide (0 ≤ x ∧ x ≤ 1000000000) = true := decide_eq_true hx
  by_cases i0 : i < 0
  · exact ⟨(0, 2), Ev.step (fun k => by rw [withholding_Withhold.j0]) (ev_neg (by decide) (ev_bindc (amount_eq x) (ev_pos dx (ev_pos i0 (bad1 _ _ _ _ _ _ _ _ rfl))))),
      Ev.step (fun k => by rw [payrollref30_Withhold.j0]) (ev_neg (by decide) (ev_bindc (in_eq x 1000000000) (ev_pos dx (ev_bindc (in_eq i 999000000000) (ev_neg (show ¬ decide (0 ≤ i ∧ i ≤ 999000000000) = true by rw [decide_eq_true_iff]; omega) (ref_bad1 _ _ _ _ _ _ _ _ rfl))))))⟩
  by_cases i1 : i > 999000000000
  · exact ⟨(0, 2), Ev.step (fun k => by rw [withholding_Withhold.j0]) (ev_neg (by decide) (ev_bindc (amount_eq x) (ev_pos dx (ev_neg i0 (ev_pos i1 (bad1 _ _ _ _ _ _ _ _ rfl)))))),
      Ev.step (fun k => by rw [payrollref30_Withhold.j0]) (ev_neg (by decide) (ev_bindc (in_eq x 1000000000) (ev_pos dx (ev_bindc (in_eq i 999000000000) (ev_neg (show ¬ decide (0 ≤ i ∧ i ≤ 999000000000) = true by rw [decide_eq_true_iff]; omega) (ref_bad1 _ _ _ _ _ _ _ _ rfl))))))⟩
  have di : decide (0 ≤ i ∧ i ≤ 999000000000) = true := decide_eq_true (by omega)
  by_cases w0 : w < -1000000000000
  · exact ⟨(0, 2), Ev.step (fun k => by rw [withholding_Withhold.j0]) (ev_neg (by decide) (ev_bindc (amount_eq x) (ev_pos dx (ev_neg i0 (ev_neg i1 (ev_pos w0 (bad1 _ _ _ _ _ _ _ _ rfl))))))),
      Ev.step (fun k => by rw [payrollref30_Withhold.j0]) (ev_neg (by decide) (ev_bindc (in_eq x 1000000000) (ev_pos dx (ev_bindc (in_eq i 999000000000) (ev_pos di (ev_pos w0 (ref_bad1 _ _ _ _ _ _ _ _ rfl)))))))⟩
  by_cases w1 : w > 1000000000000
  · exact ⟨(0, 2), Ev.step (fun k => by rw [withholding_Withhold.j0]) (ev_neg (by decide) (ev_bindc (amount_eq x) (ev_pos dx (ev_neg i0 (ev_neg i1 (ev_neg w0 (bad1 _ _ _ _ _ _ _ _ (decide_eq_true w1)))))))),
      Ev.step (fun k => by rw [payrollref30_Withhold.j0]) (ev_neg (by decide) (ev_bindc (in_eq x 1000000000) (ev_pos dx (ev_bindc (in_eq i 999000000000) (ev_pos di (ev_neg w0 (ref_bad1 _ _ _ _ _ _ _ _ (decide_eq_true w1))))))))⟩
  obtain ⟨v, e1, e2⟩ := last_both hv n p i w x hx ins es
  have dw : decide (w > 1000000000000) = false := decide_eq_false w1
  refine ⟨v, Ev.step (fun k => by rw [withholding_Withhold.j0]) (ev_neg (by decide) (ev_bindc (amount_eq x) (ev_pos dx (ev_neg i0 (ev_neg i1 (ev_neg w0 ?_)))))),
      Ev.step (fun k => by rw [payrollref30_Withhold.j0]) (ev_neg (by decide) (ev_bindc (in_eq x 1000000000) (ev_pos dx (ev_bindc (in_eq i 999000000000) (ev_pos di (ev_neg w0 ?_))))))⟩
  · rw [dw]; exact e1
  · rw [dw]; exact e2
theorem withhold_both (n p i w x : Int) (ins : List Int) (es : List S61) :
    ∃ v, Ev (fun k => withholding_Withhold.f k m t al cr u md rs n p i w ins es x) v ∧ Ev (fun k => payrollref30_Withhold.f k m t al cr u md rs n p i w ins es x) v := by
  unfold withholding_Withhold.f payrollref30_Withhold.f
  have hb := B_pos hv
  by_cases n0 : n < 1
  · exact ⟨(0, 3), Ev.bind (tar_ev m t al cr u md rs) (ev_pos hb (ev_bindc (count_eq n) (ev_neg (by simp; omega) (bad0 _ _ _ _ _ _ _ _ rfl)))),
      Ev.bind (ref_tar_ev m t al cr u md rs) (ev_pos hb (ev_pos n0 (ref_bad0 _ _ _ _ _ _ _ _ rfl)))⟩
  by_cases n1 : n > 53
  · exact ⟨(0, 3), Ev.bind (tar_ev m t al cr u md rs) (ev_pos hb (ev_bindc (count_eq n) (ev_neg (by simp; omega) (bad0 _ _ _ _ _ _ _ _ rfl)))),
      Ev.bind (ref_tar_ev m t al cr u md rs) (ev_pos hb (ev_neg n0 (ev_pos n1 (ref_bad0 _ _ _ _ _ _ _ _ rfl))))⟩
  have dn : decide (1 ≤ n ∧ n ≤ 53) = true := decide_eq_true (by omega)
  by_cases p0 : p < 0
  · exact ⟨(0, 3), Ev.bind (tar_ev m t al cr u md rs) (ev_pos hb (ev_bindc (count_eq n) (ev_pos dn (ev_pos p0 (bad0 _ _ _ _ _ _ _ _ rfl))))),
      Ev.bind (ref_tar_ev m t al cr u md rs) (ev_pos hb (ev_neg n0 (ev_neg n1 (ev_pos p0 (ref_bad0 _ _ _ _ _ _ _ _ rfl)))))⟩
  by_cases p1 : p ≥ n
  · exact ⟨(0, 3), Ev.bind (tar_ev m t al cr u md rs) (ev_pos hb (ev_bindc (count_eq n) (ev_pos dn (ev_neg p0 (bad0 _ _ _ _ _ _ _ _ (decide_eq_true p1)))))),
      Ev.bind (ref_tar_ev m t al cr u md rs) (ev_pos hb (ev_neg n0 (ev_neg n1 (ev_neg p0 (ref_bad0 _ _ _ _ _ _ _ _ (decide_eq_true p1))))))⟩
  obtain ⟨v, e1, e2⟩ := mid_both hv n p i w x ins es
  have dp : decide (p ≥ n) = false := decide_eq_false p1
  refine ⟨v, Ev.bind (tar_ev m t al cr u md rs) (ev_pos hb (ev_bindc (count_eq n) (ev_pos dn (ev_neg p0 ?_)))),
      Ev.bind (ref_tar_ev m t al cr u md rs) (ev_pos hb (ev_neg n0 (ev_neg n1 (ev_neg p0 ?_))))⟩
  · rw [dp]; exact e1
  · rw [dp]; exact e2
end
/-! What is drawn answers at all. -/
theorem record_loop (l : List Int) (cs : List ByteArray) (hc : cs.length = 4) (d : Nat) : ∀ (i : Nat) (xs : List S61) (a : Int), i + d = 4 → xs.length ≤ i → 0 ≤ a → a + 4 * d ≤ 100000 →
    ∃ ys a', Ev (fun k => paygen_Deck_Record.l0 k xs cs (cs.length : Int) (i : Int) l a) (ys, a') ∧ 0 ≤ a' ∧ a' ≤ a + 4 * d := by
  induction d with
  | zero =>
    intro i xs a hi hx h0 h1
    exact ⟨xs, a, Ev.step (fun k => by rw [paygen_Deck_Record.l0]) (ev_neg (by omega) (ev_some rfl)), h0, by omega⟩
  | succ d ih =>
    intro i xs a hi hx h0 h1
    have e1 : wrap64 ((i : Int) + 1) = ((i + 1 : Nat) : Int) := w64n (by omega) (by omega)
    obtain ⟨c, hc1, c0, c1⟩ := Deck.next l (a := a) (n := 3) (by omega) (by omega) h0 (by omega)
    by_cases hz : c = 0
    · obtain ⟨s, a1, hs, _, _, b0, b1⟩ := small l (a := a + 1) (by omega) (by omega)
      obtain ⟨p, hp, _⟩ := Deck.pick l (a := a1) [0, 50, 100, 19999, 20000, s] (by simp) (by simp) b0 (by omega)
      obtain ⟨ys, a', he, f0, f1⟩ := ih (i + 1) (xs ++ [⟨rdOf ByteArray.empty cs i, p⟩]) (a1 + 1) (by omega) (by simp; omega) (by omega) (by omega)
      refine ⟨ys, a', Ev.step (fun k => by rw [paygen_Deck_Record.l0]) (ev_pos (by omega) (ev_pos (by omega) (ev_pos (by omega) (ev_bindc hc1 (ev_pos hz (ev_bindc hs (ev_bindc hp (ev_pos (show xs.length < 5864062014805 by omega) ?_)))))))), f0, by omega⟩
      rw [e1]; exact he
    · obtain ⟨ys, a', he, f0, f1⟩ := ih (i + 1) xs (a + 1) (by omega) (by omega) (by omega) (by omega)
      refine ⟨ys, a', Ev.step (fun k => by rw [paygen_Deck_Record.l0]) (ev_pos (by omega) (ev_pos (by omega) (ev_pos (by omega) (ev_bindc hc1 (ev_neg hz ?_))))), f0, by omega⟩
      rw [e1]; exact he
theorem record (l : List Int) {a : Int} (h0 : 0 ≤ a) (h1 : a ≤ 10000) : ∃ ys a', Ev (fun k => paygen_Deck_Record.f k l a) (ys, a') ∧ 0 ≤ a' ∧ a' ≤ a + 16 := by
  unfold paygen_Deck_Record.f
  obtain ⟨ys, a', he, f0, f1⟩ := record_loop l [(⟨#[99, 108, 117, 98]⟩ : ByteArray), (⟨#[108, 111, 97, 110]⟩ : ByteArray), (⟨#[112, 108, 97, 110]⟩ : ByteArray), (⟨#[117, 110, 105, 111, 110]⟩ : ByteArray)] rfl 4 0 [] a (by omega) (by simp) h0 (by omega)
  exact ⟨ys, a', ev_bindc rfl he, f0, by omega⟩
theorem deck_year_loop (l : List Int) (n : Nat) (hn : n ≤ 60) (p : Int) (ins : List Int) (es : List S61) (d : Nat) : ∀ (i : Nat) (a inc wh : Int), i + d = n → 0 ≤ a → a + 3 * d ≤ 100000 →
    ∃ inc' wh' a', Ev (fun k => paygen_Deck_Year.l0 k (n : Int) (i : Int) l a p inc wh ins es) (p, inc', wh', ins, es, a') ∧ 0 ≤ a' ∧ a' ≤ a + 3 * d := by
  induction d with
  | zero =>
    intro i a inc wh hi h0 h1
    exact ⟨inc, wh, a, Ev.step (fun k => by rw [paygen_Deck_Year.l0]) (ev_neg (by omega) (ev_some rfl)), h0, by omega⟩
  | succ d ih =>
    intro i a inc wh hi h0 h1
    have e1 : wrap64 ((i : Int) + 1) = ((i + 1 : Nat) : Int) := w64n (by omega) (by omega)
    obtain ⟨s, a1, hs, _, _, b0, b1⟩ := small l (a := a) h0 (by omega)
    obtain ⟨c, hc, _, _⟩ := Deck.next l (a := a1) (n := 60000) (by omega) (by omega) b0 (by omega)
    obtain ⟨inc', wh', a', he, f0, f1⟩ := ih (i + 1) (a1 + 1) (wrap64 (inc + s)) (wrap64 (wh + c)) (by omega) (by omega) (by omega)
    refine ⟨inc', wh', a', Ev.step (fun k => by rw [paygen_Deck_Year.l0]) (ev_pos (by omega) (ev_bindc hs (ev_bindc hc ?_))), f0, by omega⟩
    rw [e1]; exact he
theorem deck_year (l : List Int) (n : Nat) (hn : n ≤ 60) {a : Int} (h0 : 0 ≤ a) (h1 : a ≤ 1000) :
    ∃ p inc wh ins es a', Ev (fun k => paygen_Deck_Year.f k l a (n : Int)) (p, inc, wh, ins, es, a') ∧ 0 ≤ a' ∧ a' ≤ a + 600 := by
  obtain ⟨ins, a1, hb, _, _, b0, b1⟩ := bases l n hn (a := a) h0 (by omega)
  obtain ⟨es, a2, hr, c0, c1⟩ := record l (a := a1) b0 (by omega)
  obtain ⟨inc, wh, a', he, f0, f1⟩ := deck_year_loop l n hn (n : Int) ins es n 0 a2 0 0 (by omega) c0 (by omega)
  refine ⟨(n : Int), inc, wh, ins, es, a', ?_, f0, by omega⟩
  unfold paygen_Deck_Year.f
  exact Ev.bind hb (Ev.bind hr he)
theorem short_loop (es : List S61) (hl : es.length ≤ 140) (d : Nat) : ∀ i, i + d = es.length → ∃ b, Ev (fun k => paygen_ShortElements.l0 k es (i : Int)) b := by
  induction d with
  | zero =>
    intro i hi
    exact ⟨true, Ev.step (fun k => by rw [paygen_ShortElements.l0]) (ev_neg (by omega) (ev_some rfl))⟩
  | succ d ih =>
    intro i hi
    have e1 : wrap64 ((i : Int) + 1) = ((i + 1 : Nat) : Int) := w64n (by omega) (by omega)
    obtain ⟨b, hb⟩ := ih (i + 1) (by omega)
    by_cases h : (((rd_T61 es (i : Int)).f0).size : Int) > 60
    · exact ⟨false, Ev.step (fun k => by rw [paygen_ShortElements.l0]) (ev_pos (by omega) (ev_pos (by omega) (ev_pos h (ev_some rfl))))⟩
    · refine ⟨b, Ev.step (fun k => by rw [paygen_ShortElements.l0]) (ev_pos (by omega) (ev_pos (by omega) (ev_neg h ?_)))⟩
      rw [e1]; exact hb
theorem short (es : List S61) : ∃ b, Ev (fun k => paygen_ShortElements.f k es) b := by
  unfold paygen_ShortElements.f
  by_cases h : (es.length : Int) > 140
  · exact ⟨false, ev_pos h (ev_some rfl)⟩
  · obtain ⟨b, hb⟩ := short_loop es (by omega) es.length 0 (by omega)
    exact ⟨b, ev_neg h hb⟩
theorem withholds_main (l : List Int) (c' x' p i w : Int) (ins : List Int) (es : List S61) (b : Bool) : Ev (fun k => payrolllaw30_WithholdingWithholds.j0 k l c' x' b p i w ins es) true := by
  refine Ev.step (fun k => by rw [payrolllaw30_WithholdingWithholds.j0]) ?_
  cases b with
  | true => exact ev_pos rfl (Ev.bind awake_ev (ev_some rfl))
  | false =>
    refine ev_neg (by decide) ?_
    obtain ⟨m, t, al, cr, u, md, rs, a1, ht, hv, _, _, ha0, ha1⟩ := tariff l (a := 0) (which := 0) (by omega) (by omega) (.inl rfl)
    obtain ⟨c, hc, mc⟩ := Deck.pick l (a := a1) [12, 4, 53] (by simp) (by simp) ha0 (by omega)
    simp only [List.mem_cons, List.not_mem_nil, or_false] at mc
    have e1 : wrap64 (c + 1) = c + 1 := w64 (by omega) (by omega)
    obtain ⟨q, hq, q0, q1⟩ := Deck.next l (a := a1 + 1) (n := c + 1) (by omega) (by omega) (by omega) (by omega)
    obtain ⟨n, rfl⟩ : ∃ n : Nat, q = n := ⟨q.toNat, by omega⟩
    obtain ⟨yp, yi, yw, yn, ye, a2, hy, y0, y1⟩ := deck_year l n (by omega) (a := a1 + 1 + 1) (by omega) (by omega)
    obtain ⟨s, a3, hs, _, _, _, _⟩ := small l (a := a2) y0 (by omega)
    obtain ⟨v, v1, v2⟩ := withhold_both hv c yp yi yw s yn ye
    obtain ⟨z, z1, z2⟩ := withhold_both hv c' p i w x' ins es
    refine ev_bindc (a := (l, 0)) rfl (Ev.bind ht (ev_bindc hc (ev_bindc (show paygen_Deck_Next.f l (a1 + 1) (wrap64 (c + 1)) = _ by rw [e1]; exact hq) (Ev.bind hy (ev_bindc hs (Ev.bind v1 (Ev.bind v2 (Ev.bind z1 (Ev.bind z2 ?_)))))))))
    exact ev_pos rfl (ev_pos rfl (ev_pos rfl (ev_pos rfl (Ev.bind awake_ev (ev_some rfl)))))
theorem WithholdingWithholds (l : List Int) (p i w : Int) (ins : List Int) (es : List S61) (c' x' : Int) : ∃ k, payrolllaw30_WithholdingWithholds.f k l p i w ins es c' x' = some true := by
  apply Ev.rounds
  unfold payrolllaw30_WithholdingWithholds.f
  by_cases h : (ins.length : Int) > 60
  · exact ev_pos h (withholds_main _ _ _ _ _ _ _ _ _)
  · obtain ⟨b, hb⟩ := short es
    exact ev_neg h (Ev.bind hb (withholds_main _ _ _ _ _ _ _ _ _))
end Go.Proofs.Ytbacfajhgmnjpaa.Pure
