/- Plain lemmas for the laws of this seat: what its functions answer; no condition beyond those that each lemma states. -/
import Derived.Test.YtbacfajhgmnjpaaBrkA
import Derived.Test.YtbacfajhgmnjpaaDeck
import Derived.Test.YtbacfajhgmnjpaaFpaygenDeckBrackets
namespace Go.Proofs.Ytbacfajhgmnjpaa.BrkG
open Go.RowKit Go.Proofs.YtbacfajhgmnjpaaW.PrintWords Go.Proofs.Ytbacfajhgmnjpaa.P Go.Proofs.Ytbacfajhgmnjpaa.K Go.Proofs.Ytbacfajhgmnjpaa.BrkA
/-! paygen: a drawn schedule is valid; with ascending rates, if that was asked. -/
theorem rate (l : List Int) {a : Int} (h0 : 0 ≤ a) (h1 : a ≤ 1000000) : ∃ v, paygen_Deck_Rate.f l a = some (v, a + 2) ∧ 0 ≤ v ∧ v ≤ 1000000 := by
  unfold paygen_Deck_Rate.f
  obtain ⟨v, hv, hv0, hv1⟩ := Deck.next l (a := a) (n := 1000001) (by omega) (by omega) h0 (by omega)
  rw [hv]
  simp only [Option.bind_some]
  obtain ⟨u, hu, hm⟩ := Deck.pick l (a := a + 1) [0, 1, 75000, 93000, 200000, 333333, 420000, 500000, 1000000, v] (by simp) (by simp) (by omega) (by omega)
  rw [hu]
  simp only [Option.bind_some]
  refine ⟨u, by rw [show a + 1 + 1 = a + 2 by omega], ?_⟩
  simp only [List.mem_cons, List.not_mem_nil, or_false] at hm
  omega
structure Sched (p : Bool) (t : List S58) : Prop where
  ne : t.length ≠ 0
  z : F t 0 = 0
  ok : ∀ i, i < t.length → okAt t i
  small : ∀ i, i < t.length → F t i ≤ 3000100 * i
  asc : p = true → ∀ i, i + 1 < t.length → R t i ≤ R t (i + 1)
  low : p = true → ∀ i, i < t.length → R t i ≤ 450000
theorem F_app (t : List S58) (b : S58) (i : Nat) : F (t ++ [b]) i = if i < t.length then F t i else if i = t.length then b.f0 else 0 := by
  unfold F
  rw [List.getD_eq_getElem?_getD, List.getD_eq_getElem?_getD, List.getElem?_append]
  by_cases h : i < t.length
  · rw [if_pos h, if_pos h]
  · rw [if_neg h, if_neg h]
    by_cases h2 : i = t.length
    · subst h2; simp
    · rw [if_neg h2]
      have : i - t.length ≠ 0 := by omega
      rw [List.getElem?_eq_none (by simp; omega)]
      rfl
theorem R_app (t : List S58) (b : S58) (i : Nat) : R (t ++ [b]) i = if i < t.length then R t i else if i = t.length then b.f1 else 0 := by
  unfold R
  rw [List.getD_eq_getElem?_getD, List.getD_eq_getElem?_getD, List.getElem?_append]
  by_cases h : i < t.length
  · rw [if_pos h, if_pos h]
  · rw [if_neg h, if_neg h]
    by_cases h2 : i = t.length
    · subst h2; simp
    · rw [if_neg h2]
      rw [List.getElem?_eq_none (by simp; omega)]
      rfl
theorem Sched.app {p : Bool} {t : List S58} (h : Sched p t) (hl : t.length ≤ 20) {b : S58} (h1 : F t (t.length - 1) < b.f0) (h2 : b.f0 ≤ F t (t.length - 1) + 3000100) (h3 : 0 ≤ b.f1) (h4 : b.f1 ≤ 1000000)
    (h5 : p = true → R t (t.length - 1) ≤ b.f1 ∧ b.f1 ≤ 450000) : Sched p (t ++ [b]) := by
  have hn := h.ne
  have hs := h.small (t.length - 1) (by omega)
  refine ⟨by simp, ?_, fun i hi => ?_, fun i hi => ?_, fun hp i hi => ?_, fun hp i hi => ?_⟩
  · rw [F_app, if_pos (by omega)]; exact h.z
  · simp only [List.length_append, List.length_cons, List.length_nil] at hi
    unfold okAt
    rw [F_app, F_app, R_app]
    by_cases hlt : i < t.length
    · rw [if_pos hlt, if_pos hlt, if_pos (by omega)]
      exact h.ok i hlt
    · obtain rfl : i = t.length := by omega
      rw [if_neg hlt, if_neg hlt, if_pos (by omega), if_pos rfl, if_pos rfl]
      have := h.ok (t.length - 1) (by omega)
      exact ⟨fun _ => h1, by omega, h3, h4⟩
  · simp only [List.length_append, List.length_cons, List.length_nil] at hi
    rw [F_app]
    by_cases hlt : i < t.length
    · rw [if_pos hlt]; exact h.small i hlt
    · obtain rfl : i = t.length := by omega
      rw [if_neg hlt, if_pos rfl]
      omega
  · simp only [List.length_append, List.length_cons, List.length_nil] at hi
    rw [R_app, R_app, if_pos (by omega)]
    by_cases hlt : i + 1 < t.length
    · rw [if_pos hlt]; exact h.asc hp i hlt
    · obtain rfl : i = t.length - 1 := by omega
      rw [if_neg hlt, if_pos (by omega)]
      exact (h5 hp).1
  · simp only [List.length_append, List.length_cons, List.length_nil] at hi
    rw [R_app]
    by_cases hlt : i < t.length
    · rw [if_pos hlt]; exact h.low hp i hlt
    · obtain rfl : i = t.length := by omega
      rw [if_neg hlt, if_pos rfl]
      exact (h5 hp).2
theorem loop (l : List Int) (p : Bool) (d : Nat) : ∀ (t : List S58) (a : Int), Sched p t → t.length + d ≤ 10 → 0 ≤ a → a + 5 * d ≤ 10000 →
    ∃ t' a', Ev (fun k => paygen_Deck_Brackets.l0 k p t (d : Int) l a) (t', a') ∧ Sched p t' ∧ t'.length ≤ t.length + d ∧ 0 ≤ a' ∧ a' ≤ a + 5 * d := by
  induction d with
  | zero =>
    intro t a hg hl h0 h1
    refine ⟨t, a, Ev.step (fun k => by rw [paygen_Deck_Brackets.l0]) (ev_neg (by omega) (ev_some rfl)), hg, by omega, h0, by omega⟩
  | succ d ih =>
    intro t a hg hl h0 h1
    have hn := hg.ne
    have hok := hg.ok (t.length - 1) (by omega)
    have hsm := hg.small (t.length - 1) (by omega)
    have hfp : 0 ≤ F t (t.length - 1) := by
      have hv : VB t := ⟨hn, by omega, hg.z, hg.ok⟩
      exact hv.ok.fpos _ (by omega)
    obtain ⟨hk1, hk2, hk3, hk4⟩ := hok
    have e1 : wrap64 ((t.length : Int) - 1) = ((t.length - 1 : Nat) : Int) := w64n (by omega) (by omega)
    have e2 : wrap64 (((d + 1 : Nat) : Int) - 1) = (d : Int) := w64n (by omega) (by omega)
    obtain ⟨v, hv, hv0, hv1⟩ := Deck.next l (a := a) (n := 3000000) (by omega) (by omega) h0 (by omega)
    obtain ⟨u, hu, hm⟩ := Deck.pick l (a := a + 1) [0, 99, v] (by simp) (by simp) (by omega) (by omega)
    obtain ⟨r, hr, hr0, hr1⟩ := rate l (a := a + 1 + 1) (by omega) (by omega)
    have hub : 0 ≤ u ∧ u ≤ 3000000 := by
      simp only [List.mem_cons, List.not_mem_nil, or_false] at hm; omega
    have e3 : wrap64 (F t (t.length - 1) + 1) = F t (t.length - 1) + 1 := w64 (by omega) (by omega)
    have e4 : wrap64 (F t (t.length - 1) + 1 + u) = F t (t.length - 1) + 1 + u := w64 (by omega) (by omega)
    cases p with
    | true =>
      obtain ⟨q, hq, hqm⟩ := Deck.pick l (a := a + 1 + 1 + 2) [0, 50000, 120000] (by simp) (by simp) (by omega) (by omega)
      have hqb : 0 ≤ q ∧ q ≤ 120000 := by
        simp only [List.mem_cons, List.not_mem_nil, or_false] at hqm; omega
      have hlow := hg.low rfl (t.length - 1) (by omega)
      have e5 : wrap64 (R t (t.length - 1) + q) = R t (t.length - 1) + q := w64 (by omega) (by omega)
      have hg' : Sched true (t ++ [⟨F t (t.length - 1) + 1 + u, min (R t (t.length - 1) + q) 450000⟩]) :=
        hg.app (by omega) (by show F t (t.length - 1) < F t (t.length - 1) + 1 + u; omega) (by show F t (t.length - 1) + 1 + u ≤ _; omega) (by show 0 ≤ min _ _; omega) (by show min _ _ ≤ _; omega) (fun _ => by
          show R t (t.length - 1) ≤ min _ _ ∧ min _ _ ≤ 450000
          omega)
      obtain ⟨t', a', he, h3, h4, h5, h6⟩ := ih _ (a + 1 + 1 + 2 + 1) hg' (by simp; omega) (by omega) (by omega)
      refine ⟨t', a', ?_, h3, by simp at h4; omega, h5, by omega⟩
      refine Ev.step (fun k => by rw [paygen_Deck_Brackets.l0]) ?_
      simp only [e1, e2, rdF, mn_eq]
      refine ev_pos (by omega) (ev_pos (by omega) (ev_pos (by omega) (ev_bindc hv (ev_bindc hu (ev_bindc hr (ev_pos trivial (ev_bindc hq (ev_pos (by omega) ?_))))))))
      show Ev (fun n => paygen_Deck_Brackets.l0 n true (t ++ [⟨wrap64 (wrap64 (F t (t.length - 1) + 1) + u), min (wrap64 (R t (t.length - 1) + q)) 450000⟩]) (d : Int) l (a + 1 + 1 + 2 + 1)) (t', a')
      rw [e3, e4, e5]
      exact he
    | false =>
      have hg' : Sched false (t ++ [⟨F t (t.length - 1) + 1 + u, r⟩]) :=
        hg.app (by omega) (by show F t (t.length - 1) < F t (t.length - 1) + 1 + u; omega) (by show F t (t.length - 1) + 1 + u ≤ _; omega) hr0 hr1 (fun h => by cases h)
      obtain ⟨t', a', he, h3, h4, h5, h6⟩ := ih _ (a + 1 + 1 + 2) hg' (by simp; omega) (by omega) (by omega)
      refine ⟨t', a', ?_, h3, by simp at h4; omega, h5, by omega⟩
      refine Ev.step (fun k => by rw [paygen_Deck_Brackets.l0]) ?_
      simp only [e1, e2, rdF, mn_eq]
      refine ev_pos (by omega) (ev_pos (by omega) (ev_pos (by omega) (ev_bindc hv (ev_bindc hu (ev_bindc hr (ev_neg (by decide) (ev_pos (by omega) ?_)))))))
      show Ev (fun n => paygen_Deck_Brackets.l0 n false (t ++ [⟨wrap64 (wrap64 (F t (t.length - 1) + 1) + u), r⟩]) (d : Int) l (a + 1 + 1 + 2)) (t', a')
      rw [e3, e4]
      exact he
theorem brackets (l : List Int) (p : Bool) {a : Int} (h0 : 0 ≤ a) (h1 : a ≤ 1000) :
    ∃ t a', Ev (fun k => paygen_Deck_Brackets.f k l a p) (t, a') ∧ Sched p t ∧ t.length ≤ 4 ∧ VB t ∧ 0 ≤ a' ∧ a' ≤ a + 17 := by
  obtain ⟨v, hv, hm⟩ := Deck.pick l (a := a) [0, 100000, 150000] (by simp) (by simp) h0 (by omega)
  obtain ⟨n, hn, hn0, hn1⟩ := Deck.next l (a := a + 1) (n := 4) (by omega) (by omega) (by omega) (by omega)
  have hb : 0 ≤ v ∧ v ≤ 150000 := by
    simp only [List.mem_cons, List.not_mem_nil, or_false] at hm; omega
  have hg : Sched p [⟨0, v⟩] := by
    refine ⟨by simp, rfl, fun i hi => ?_, fun i hi => ?_, fun _ i hi => ?_, fun _ i hi => ?_⟩
    · obtain rfl : i = 0 := by simpa using hi
      exact ⟨fun h => absurd h (by omega), by show (0 : Int) ≤ _; omega, hb.1, by show v ≤ _; omega⟩
    · obtain rfl : i = 0 := by simpa using hi
      show (0 : Int) ≤ _; omega
    · simp at hi
    · obtain rfl : i = 0 := by simpa using hi
      show v ≤ _; omega
  obtain ⟨d, rfl⟩ : ∃ d : Nat, n = d := ⟨n.toNat, by omega⟩
  obtain ⟨t, a', he, h3, h4, h5, h6⟩ := loop l p d [⟨0, v⟩] (a + 1 + 1) hg (by simp; omega) (by omega) (by omega)
  refine ⟨t, a', ?_, h3, by simp at h4; omega, ⟨h3.ne, by simp at h4; omega, h3.z, h3.ok⟩, h5, by omega⟩
  unfold paygen_Deck_Brackets.f
  exact ev_bindc hv (ev_bindc hn he)
end Go.Proofs.Ytbacfajhgmnjpaa.BrkG
