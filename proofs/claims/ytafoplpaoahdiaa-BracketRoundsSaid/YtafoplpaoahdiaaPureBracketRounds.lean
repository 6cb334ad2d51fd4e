/- BracketRounds: for every list of numbers the law answers true (the tax is a multiple of the unit that differs from the exact tax by less than a unit, in the direction of the mode, and by at most half a unit for the modes to the nearest). -/
import Derived.Test.YtafoplpaoahdiaaBrkB
import Derived.Test.YtafoplpaoahdiaaBrkT
import Derived.Test.YtafoplpaoahdiaaFpayrolllaw29BracketRounds
namespace Go.Proofs.Ytafoplpaoahdiaa.Pure
open Go.RowKit Go.Proofs.YtafoplpaoahdiaaW.PrintWords Go.Proofs.Ytafoplpaoahdiaa.P Go.Proofs.Ytafoplpaoahdiaa.K Go.Proofs.Ytafoplpaoahdiaa.BrkA Go.Proofs.Ytafoplpaoahdiaa.BrkG Go.Proofs.Ytafoplpaoahdiaa.BrkB Go.Proofs.Ytafoplpaoahdiaa.BrkT
theorem mode_draw (l : List Int) {a : Int} (h0 : 0 ≤ a) (h1 : a ≤ 1000000) : ∃ v, paygen_Deck_Mode.f l a = some (v, a + 1) ∧ 0 ≤ v ∧ v ≤ 6 := by
  unfold paygen_Deck_Mode.f
  obtain ⟨v, hv, hv0, hv1⟩ := Deck.next l (a := a) (n := 7) (by omega) (by omega) h0 (by omega)
  rw [hv]
  exact ⟨v, rfl, by omega, by omega⟩
theorem tail_ev {m d s : Int} (hs : 1000000 ≤ s) (hs1 : s ≤ 1000000000) (h1 : d < s) (h2 : -s < d) (h02 : m = 0 ∨ m = 2 → d ≤ 0) (h13 : m = 1 ∨ m = 3 → d ≥ 0) (hn : ¬ (m = 0 ∨ m = 1 ∨ m = 2 ∨ m = 3) → 2 * d ≤ s ∧ -(2 * d) ≤ s) (b : Bool) (hb : b = false) :
    Ev (fun k => payrolllaw29_BracketRounds.j0 k m d s b) true := by
  have e1 : wrap64 (2 * d) = 2 * d := w64 (by omega) (by omega)
  have e2 : wrap64 ((-2) * d) = (-2) * d := w64 (by omega) (by omega)
  refine Ev.step (fun k => by rw [payrolllaw29_BracketRounds.j0]) (ev_neg (by rw [hb]; decide) ?_)
  have key : ∀ c : Bool, (c = true ↔ (m = 0 ∨ m = 2)) → Ev (fun k => payrolllaw29_BracketRounds.j1 k d s m c) true := by
    intro c hc
    refine Ev.step (fun k => by rw [payrolllaw29_BracketRounds.j1]) ?_
    by_cases hct : c = true
    · exact ev_pos hct (ev_pos (h02 (hc.1 hct)) (Ev.bind awake_ev (ev_some rfl)))
    have h : ¬ (m = 0 ∨ m = 2) := fun h => hct (hc.2 h)
    refine ev_neg hct ?_
    have key2 : ∀ c : Bool, (c = true ↔ (m = 1 ∨ m = 3)) → Ev (fun k => payrolllaw29_BracketRounds.j2 k d s c) true := by
      intro c hc
      refine Ev.step (fun k => by rw [payrolllaw29_BracketRounds.j2]) ?_
      by_cases hct : c = true
      · exact ev_pos hct (ev_pos (h13 (hc.1 hct)) (Ev.bind awake_ev (ev_some rfl)))
      have h : ¬ (m = 1 ∨ m = 3) := fun h => hct (hc.2 h)
      have := hn (by omega)
      simp only [e1, e2]
      exact ev_neg hct (ev_pos (by omega) (ev_pos (by omega) (Ev.bind awake_ev (ev_some rfl))))
    by_cases h1 : m = 1
    · exact ev_pos h1 (key2 _ (by simp [h1]))
    · exact ev_neg h1 (key2 _ (by simp; omega))
  by_cases h0 : m = 0
  · exact ev_pos h0 (key _ (by simp [h0]))
  · exact ev_neg h0 (key _ (by simp; omega))
theorem BracketRounds : payrolllaw29_BracketRounds.Pure := by
  intro l _ _ _
  obtain ⟨t, a1, ht, hg, htl, hv, ha0, ha1⟩ := brackets l false (a := 0) (by omega) (by omega)
  obtain ⟨s, a2, hs, hs0, hs1, hb0, hb1⟩ := small l (a := a1) ha0 (by omega)
  obtain ⟨u, hu, hum⟩ := Deck.pick l (a := a2) [1, 5, 100, 1000] (by simp) (by simp) (by omega) (by omega)
  obtain ⟨m, hm, hm0, hm1⟩ := mode_draw l (a := a2 + 1) (by omega) (by omega)
  have hub : 1 ≤ u ∧ u ≤ 1000 := by
    simp only [List.mem_cons, List.not_mem_nil, or_false] at hum; omega
  clear hum
  apply Ev.rounds
  unfold payrolllaw29_BracketRounds.f
  have e1 : wrap64 (10 * s) = 10 * s := w64 (by omega) (by omega)
  have e2 : wrap64 (u * 1000000) = u * 1000000 := w64 (by omega) (by omega)
  refine ev_bindc (a := (l, 0)) rfl (Ev.bind ht (ev_bindc hs (ev_bindc hu (ev_bindc hm ?_))))
  simp only [e1, e2]
  refine Ev.bind (exact_ev t _) (Ev.bind (tax_ev t _ u m) ?_)
  have hck : chk t (10 * s) = 0 := chk_ok hv (by omega) (by omega)
  rw [exr_ok hv (x := 10 * s) (by omega) (by omega)]
  unfold taxr
  rw [if_pos hck, if_neg (by omega)]
  obtain ⟨b0, b1⟩ := exa_bd hv (x := 10 * s) (by omega) (by omega)
  obtain ⟨n, hn⟩ : ∃ n, n = exa t (10 * s) := ⟨_, rfl⟩
  rw [← hn] at b0 b1 ⊢
  obtain ⟨g1, g2, g3, g4, g5, g6, g7⟩ := facts b0 b1 (u := u) (by omega) (by omega)
  have hy : (rnd n u m * 1000000 - n = - (n % (u * 1000000)) ∧ ¬ upP m (n / (u * 1000000)) (n % (u * 1000000)) (u * 1000000)) ∨ (rnd n u m * 1000000 - n = u * 1000000 - n % (u * 1000000) ∧ upP m (n / (u * 1000000)) (n % (u * 1000000)) (u * 1000000)) := by
    unfold rnd
    by_cases h : upP m (n / (u * 1000000)) (n % (u * 1000000)) (u * 1000000)
    · rw [if_pos h, Int.add_mul]; exact .inr ⟨by omega, h⟩
    · rw [if_neg h]; exact .inl ⟨by omega, h⟩
  have hdv : Int.tmod (rnd n u m) u = 0 := by
    unfold rnd; exact Int.mul_tmod_left _ _
  have hw : 0 ≤ rnd n u m ∧ rnd n u m ≤ 1000000001000 := by
    unfold rnd
    split
    · rw [Int.add_mul]; omega
    · omega
  have e3 : wrap64 (rnd n u m * 1000000) = rnd n u m * 1000000 := w64 (by omega) (by omega)
  have e4 : wrap64 (rnd n u m * 1000000 - n) = rnd n u m * 1000000 - n := w64 (by omega) (by omega)
  have e5 : wrap64 (-(u * 1000000)) = -(u * 1000000) := w64 (by omega) (by omega)
  refine ev_pos rfl (ev_pos rfl (ev_neg (by omega) (ev_pos hdv ?_)))
  simp only [e3, e4, e5]
  unfold upP at hy
  refine ev_neg (by omega) (tail_ev (by omega) (by omega) (by omega) (by omega) (fun h => by omega) (fun h => by omega) (fun h => by omega) _ ?_)
  rw [decide_eq_false_iff_not]
  omega
end Go.Proofs.Ytafoplpaoahdiaa.Pure
