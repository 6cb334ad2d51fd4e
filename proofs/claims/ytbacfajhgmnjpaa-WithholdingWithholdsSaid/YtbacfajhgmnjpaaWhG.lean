/- Plain lemmas for the laws of this seat: what its functions answer; no condition beyond those that each lemma states. -/
import Derived.Test.YtbacfajhgmnjpaaWhB
import Derived.Test.YtbacfajhgmnjpaaFpaygenDeckTariff
import Derived.Test.YtbacfajhgmnjpaaFpaygen
import Derived.Test.YtbacfajhgmnjpaaFpayrolllaw30awake
namespace Go.Proofs.Ytbacfajhgmnjpaa.WhG
open Go.RowKit Go.Proofs.YtbacfajhgmnjpaaW.PrintWords Go.Proofs.Ytbacfajhgmnjpaa.P Go.Proofs.Ytbacfajhgmnjpaa.K Go.Proofs.Ytbacfajhgmnjpaa.BrkA Go.Proofs.Ytbacfajhgmnjpaa.BrkG Go.Proofs.Ytbacfajhgmnjpaa.WhA Go.Proofs.Ytbacfajhgmnjpaa.WhB
/-! paygen: a drawn tariff is valid. -/
theorem awake_ev : Ev (fun k => payrolllaw30_awake.f k) true := Ev.of (fun k => payrolllaw30_awake.mono k) (k := 80) (by decide +kernel)
theorem small (l : List Int) {a : Int} (h0 : 0 ≤ a) (h1 : a ≤ 1000000) : ∃ v a', paygen_Deck_Small.f l a = some (v, a') ∧ 0 ≤ v ∧ v < 600000 ∧ 0 ≤ a' ∧ a' ≤ a + 2 := by
  unfold paygen_Deck_Small.f
  obtain ⟨v, hv, hv0, hv1⟩ := Deck.next l (a := a) (n := 5) (by omega) (by omega) h0 (by omega)
  rw [hv]
  simp only [Option.bind_some]
  by_cases h : v = 0
  · rw [if_pos h]
    obtain ⟨u, hu, hm⟩ := Deck.pick l (a := a + 1) [0, 0, 1, 100] (by simp) (by simp) (by omega) (by omega)
    rw [hu]
    simp only [List.mem_cons, List.not_mem_nil, or_false] at hm
    exact ⟨u, _, rfl, by omega, by omega, by omega, by omega⟩
  · rw [if_neg h]
    obtain ⟨u, hu, hu0, hu1⟩ := Deck.next l (a := a + 1) (n := 600000) (by omega) (by omega) (by omega) (by omega)
    rw [hu]
    exact ⟨u, _, rfl, by omega, by omega, by omega, by omega⟩
theorem mode_draw (l : List Int) {a : Int} (h0 : 0 ≤ a) (h1 : a ≤ 1000000) : ∃ v, paygen_Deck_Mode.f l a = some (v, a + 1) ∧ 0 ≤ v ∧ v ≤ 6 := by
  unfold paygen_Deck_Mode.f
  obtain ⟨v, hv, hv0, hv1⟩ := Deck.next l (a := a) (n := 7) (by omega) (by omega) h0 (by omega)
  rw [hv]
  exact ⟨v, rfl, by omega, by omega⟩
theorem RF_app (t : List S80) (b : S80) (i : Nat) : RF (t ++ [b]) i = if i < t.length then RF t i else if i = t.length then b.f0 else 0 := by
  unfold RF
  by_cases h : i < t.length
  · simp [List.getD_eq_getElem?_getD, List.getElem?_append_left h, h]
  · rw [if_neg h]
    by_cases h2 : i = t.length
    · subst h2; simp [List.getD_eq_getElem?_getD]
    · rw [if_neg h2]
      have : (t ++ [b])[i]? = none := by rw [List.getElem?_eq_none_iff]; simp; omega
      simp [List.getD_eq_getElem?_getD, this, z80]
theorem RT_app (t : List S80) (b : S80) (i : Nat) : RT (t ++ [b]) i = if i < t.length then RT t i else if i = t.length then b.f1 else 0 := by
  unfold RT
  by_cases h : i < t.length
  · simp [List.getD_eq_getElem?_getD, List.getElem?_append_left h, h]
  · rw [if_neg h]
    by_cases h2 : i = t.length
    · subst h2; simp [List.getD_eq_getElem?_getD]
    · rw [if_neg h2]
      have : (t ++ [b])[i]? = none := by rw [List.getElem?_eq_none_iff]; simp; omega
      simp [List.getD_eq_getElem?_getD, this, z80]
/-- A table under way. -/
def Rw (r : List S80) : Prop := r.length ≠ 0 ∧ RF r 0 = 0 ∧ ∀ i, i < r.length → (0 < i → RF r (i - 1) < RF r i) ∧ 0 ≤ RF r i ∧ RF r i ≤ 200000 * i ∧ 0 ≤ RT r i ∧ RT r i ≤ 100 + 20000 * i
theorem rows_loop (l : List Int) (d : Nat) : ∀ (r : List S80) (a : Int), Rw r → r.length + d ≤ 10 → 0 ≤ a → a + 2 * d ≤ 100000 →
    ∃ r' a', Ev (fun k => paygen_Deck_Rows.l0 k r (d : Int) l a) (r', a') ∧ Rw r' ∧ r'.length ≤ 10 ∧ 0 ≤ a' ∧ a' ≤ a + 2 * d := by
  induction d with
  | zero =>
    intro r a hr hl h0 h1
    exact ⟨r, a, Ev.step (fun k => by rw [paygen_Deck_Rows.l0]) (ev_neg (by omega) (ev_some rfl)), hr, by omega, h0, by omega⟩
  | succ d ih =>
    intro r a hr hl h0 h1
    obtain ⟨hne, hz, hat⟩ := hr
    obtain ⟨x, hx, x0, x1⟩ := Deck.next l (a := a) (n := 100000) (by omega) (by omega) h0 (by omega)
    obtain ⟨y, hy, y0, y1⟩ := Deck.next l (a := a + 1) (n := 20000) (by omega) (by omega) (by omega) (by omega)
    obtain ⟨b1, b2, b3, b4, b5⟩ := hat (r.length - 1) (by omega)
    have e0 : wrap64 (((d + 1 : Nat) : Int) - 1) = (d : Int) := w64n (by omega) (by omega)
    have e1 : wrap64 ((r.length : Int) - 1) = ((r.length - 1 : Nat) : Int) := w64n (by omega) (by omega)
    have e2 : wrap64 (RF r (r.length - 1) + 1) = RF r (r.length - 1) + 1 := w64 (by omega) (by omega)
    have e3 : wrap64 (RF r (r.length - 1) + 1 + x) = RF r (r.length - 1) + 1 + x := w64 (by omega) (by omega)
    have e4 : wrap64 (RT r (r.length - 1) + y) = RT r (r.length - 1) + y := w64 (by omega) (by omega)
    have hnew : Rw (r ++ [⟨RF r (r.length - 1) + 1 + x, RT r (r.length - 1) + y⟩]) := by
      refine ⟨by simp, ?_, fun i hi => ?_⟩
      · rw [RF_app, if_pos (by omega)]; exact hz
      · simp only [List.length_append, List.length_cons, List.length_nil] at hi
        rw [RF_app, RT_app, RF_app]
        by_cases h : i < r.length
        · rw [if_pos h, if_pos h, if_pos (by omega)]; exact hat i h
        · obtain rfl : i = r.length := by omega
          rw [if_neg h, if_pos rfl, if_neg h, if_pos rfl, if_pos (by omega)]
          refine ⟨fun _ => ?_, ?_, ?_, ?_, ?_⟩ <;> simp only <;> omega
    obtain ⟨r', a', he, h3, h4, h5, h6⟩ := ih _ (a + 1 + 1) hnew (by simp; omega) (by omega) (by omega)
    refine ⟨r', a', ?_, h3, h4, h5, by omega⟩
    refine Ev.step (fun k => by rw [paygen_Deck_Rows.l0]) (ev_pos (by omega) ?_)
    simp only [e0, e1, rdR]
    refine ev_pos (by omega) (ev_pos (by omega) (ev_bindc hx (ev_bindc hy (ev_pos (by omega) ?_))))
    simp only [e2, e3, e4]
    exact he
theorem rows (l : List Int) {a : Int} (h0 : 0 ≤ a) (h1 : a ≤ 10000) : ∃ r a', Ev (fun k => paygen_Deck_Rows.f k l a) (r, a') ∧ VR r ∧ 0 ≤ a' ∧ a' ≤ a + 10 := by
  obtain ⟨v, hv, hm⟩ := Deck.pick l (a := a) [0, 0, 100] (by simp) (by simp) h0 (by omega)
  obtain ⟨n, hn, hn0, hn1⟩ := Deck.next l (a := a + 1) (n := 5) (by omega) (by omega) (by omega) (by omega)
  have hb : 0 ≤ v ∧ v ≤ 100 := by
    simp only [List.mem_cons, List.not_mem_nil, or_false] at hm; omega
  have hg : Rw [⟨0, v⟩] := by
    refine ⟨by simp, rfl, fun i hi => ?_⟩
    obtain rfl : i = 0 := by simpa using hi
    exact ⟨fun h => absurd h (by omega), by show (0 : Int) ≤ 0; omega, by show (0 : Int) ≤ _; omega, hb.1, by show v ≤ _; omega⟩
  obtain ⟨d, rfl⟩ : ∃ d : Nat, n = d := ⟨n.toNat, by omega⟩
  obtain ⟨r, a', he, h3, h4, h5, h6⟩ := rows_loop l d [⟨0, v⟩] (a + 1 + 1) hg (by simp; omega) (by omega) (by omega)
  refine ⟨r, a', ?_, ⟨h3.1, by omega, h3.2.1, fun i hi => ?_⟩, h5, by omega⟩
  · unfold paygen_Deck_Rows.f
    exact ev_bindc hv (ev_bindc hn he)
  · obtain ⟨c1, c2, c3, c4, c5⟩ := h3.2.2 i hi
    exact ⟨c1, by omega, c4, by omega⟩
theorem tariff (l : List Int) {a which : Int} (h0 : 0 ≤ a) (h1 : a ≤ 900) (hw : which = 0 ∨ which = 3) :
    ∃ m t al cr u md rs a', Ev (fun k => paygen_Deck_Tariff.f k l a which) (m, t, al, cr, u, md, rs, a') ∧ VT m t al cr u md rs ∧ (which = 3 → m = 3) ∧ t.length ≤ 4 ∧ 0 ≤ a' ∧ a' ≤ a + 40 := by
  obtain ⟨p, hp, p0, p1⟩ := Deck.next l (a := a) (n := 3) (by omega) (by omega) h0 (by omega)
  obtain ⟨t, a1, ht, hg, htl, hv, ha0, ha1⟩ := brackets l (decide (p > 0)) (a := a + 1) (by omega) (by omega)
  obtain ⟨al, hal, mal⟩ := Deck.pick l (a := a1) [0, 600000, 1200000, 7] (by simp) (by simp) ha0 (by omega)
  obtain ⟨cr, hcr, mcr⟩ := Deck.pick l (a := a1 + 1) [0, 0, 12000, 1] (by simp) (by simp) (by omega) (by omega)
  obtain ⟨u, hu, mu⟩ := Deck.pick l (a := a1 + 1 + 1) [1, 1, 100, 10] (by simp) (by simp) (by omega) (by omega)
  obtain ⟨md, hmd, d0, d1⟩ := mode_draw l (a := a1 + 1 + 1 + 1) (by omega) (by omega)
  simp only [List.mem_cons, List.not_mem_nil, or_false] at mal mcr mu
  have mk : ∀ (m : Int) (rs : List S80), 1 ≤ m → m ≤ 3 → (m = 1 → VR rs) → (m ≠ 1 → rs.length = 0) → VT m t al cr u md rs :=
    fun m rs a b c d => ⟨a, b, c, d, hv, by omega, by omega, by omega, by omega, by omega, by omega, by omega, by omega⟩
  unfold paygen_Deck_Tariff.f
  rcases hw with rfl | rfl
  · obtain ⟨q, hq, q0, q1⟩ := Deck.next l (a := a1 + 1 + 1 + 1 + 1) (n := 3) (by omega) (by omega) (by omega) (by omega)
    have e : wrap64 (1 + q) = 1 + q := w64 (by omega) (by omega)
    obtain ⟨rs, a2, hrs, vrs, r0, r1⟩ := rows l (a := a1 + 1 + 1 + 1 + 1 + 1) (by omega) (by omega)
    by_cases h : 1 + q = 1
    · refine ⟨1 + q, t, al, cr, u, md, rs, a2, ?_, mk _ _ (by omega) (by omega) (fun _ => vrs) (fun hn => absurd h hn), fun h => (by omega), htl, r0, by omega⟩
      refine ev_bindc hp (Ev.bind ht (ev_bindc hal (ev_bindc hcr (ev_bindc hu (ev_bindc hmd (ev_pos rfl (ev_bindc hq ?_)))))))
      simp only [e]
      exact ev_pos h (Ev.bind hrs (ev_some rfl))
    · refine ⟨1 + q, t, al, cr, u, md, [], a1 + 1 + 1 + 1 + 1 + 1, ?_, mk _ _ (by omega) (by omega) (fun hn => absurd hn h) (fun _ => rfl), fun h => (by omega), htl, by omega, by omega⟩
      refine ev_bindc hp (Ev.bind ht (ev_bindc hal (ev_bindc hcr (ev_bindc hu (ev_bindc hmd (ev_pos rfl (ev_bindc hq ?_)))))))
      simp only [e]
      exact ev_neg h (ev_some rfl)
  · refine ⟨3, t, al, cr, u, md, [], a1 + 1 + 1 + 1 + 1, ?_, mk _ _ (by omega) (by omega) (fun hn => (by omega)) (fun _ => rfl), fun _ => rfl, htl, by omega, by omega⟩
    exact ev_bindc hp (Ev.bind ht (ev_bindc hal (ev_bindc hcr (ev_bindc hu (ev_bindc hmd (ev_neg (by decide) (ev_neg (by decide) (ev_some rfl))))))))
end Go.Proofs.Ytbacfajhgmnjpaa.WhG
