/- Plain lemmas for the laws of this seat: what its functions answer; no condition beyond those that each lemma states. -/
import Derived.Test.YtopigdnffnondaaRecB
namespace Go.Proofs.Ytopigdnffnondaa.RecG
open Go Go.RowKit Go.Proofs.YtopigdnffnondaaW.PrintWords Go.Proofs.YtopigdnffnondaaW.PrintMore Go.Proofs.Ytopigdnffnondaa.P Go.Proofs.Ytopigdnffnondaa.K Go.Proofs.Ytopigdnffnondaa.RecA Go.Proofs.Ytopigdnffnondaa.RecB
/-! records: each byte that was read lies in one frame or gap. -/
def at_ (gs : List S55) (j : Nat) : S55 := gs.getD j z55
def tot : List S55 → Int
  | [] => 0
  | g :: r => (g.f1 - g.f0) + tot r
theorem tot_snoc (gs : List S55) (x : S55) : tot (gs ++ [x]) = tot gs + (x.f1 - x.f0) := by
  induction gs with
  | nil => simp [tot]
  | cons g r ih => simp only [List.cons_append, tot, ih]; omega
theorem tot_set (x : S55) : ∀ (gs : List S55) (j : Nat), j < gs.length → tot (gs.set j x) = tot gs - ((at_ gs j).f1 - (at_ gs j).f0) + (x.f1 - x.f0)
  | [], _, h => by simp at h
  | g :: r, 0, _ => by simp [tot, at_]; omega
  | g :: r, j + 1, h => by
    have := tot_set x r j (by simpa using h)
    simp only [List.set_cons_succ, tot, this]
    have e : at_ (g :: r) (j + 1) = at_ r j := by simp [at_]
    rw [e]; omega
structure G (gs : List S55) (i : Nat) (n : Nat) : Prop where
  a : ∀ j, j < gs.length → 0 ≤ (at_ gs j).f0 ∧ (at_ gs j).f0 < (at_ gs j).f1 ∧ (at_ gs j).f1 ≤ (i : Int)
  b : ∀ j, j + 1 < gs.length → (at_ gs j).f1 < (at_ gs (j + 1)).f0
  t : tot gs + 24 * (n : Int) = (i : Int)
theorem at_snoc (gs : List S55) (x : S55) (j : Nat) : at_ (gs ++ [x]) j = if j < gs.length then at_ gs j else if j = gs.length then x else z55 := by
  unfold at_
  rw [List.getD_eq_getElem?_getD, List.getD_eq_getElem?_getD, List.getElem?_append]
  split
  · rfl
  · split
    · rename_i h; subst h; simp
    · rw [List.getElem?_eq_none (by simp; omega)]; rfl
theorem at_set (gs : List S55) (x : S55) (i j : Nat) (hi : i < gs.length) : at_ (gs.set i x) j = if j = i then x else at_ gs j := by
  unfold at_
  rw [List.getD_eq_getElem?_getD, List.getD_eq_getElem?_getD, List.getElem?_set]
  by_cases h : i = j
  · subst h; simp [hi]
  · rw [if_neg h, if_neg (fun h_ => h h_.symm)]
theorem G.gap {gs : List S55} {i n : Nat} (h : G gs i n) : G (gap gs i) (i + 1) n := by
  unfold RecB.gap
  by_cases hc : 0 < gs.length ∧ (lastT gs).f1 = (i : Int)
  · rw [if_pos hc]
    obtain ⟨h0, h1⟩ := hc
    have hl : at_ gs (gs.length - 1) = lastT gs := rfl
    have ha := h.a (gs.length - 1) (by omega)
    rw [hl] at ha
    refine ⟨fun j hj => ?_, fun j hj => ?_, ?_⟩
    · rw [List.length_set] at hj
      rw [at_set gs _ _ _ (by omega)]
      split
      · simp only []; omega
      · have := h.a j hj; omega
    · rw [List.length_set] at hj
      rw [at_set gs _ _ _ (by omega), at_set gs _ _ _ (by omega), if_neg (by omega)]
      have := h.b j hj
      split
      · rename_i h2
        rw [h2] at this
        exact this
      · exact this
    · rw [tot_set _ _ _ (by omega), hl]
      have := h.t
      simp only []
      omega
  · rw [if_neg hc]
    refine ⟨fun j hj => ?_, fun j hj => ?_, ?_⟩
    · rw [at_snoc]
      split
      · have := h.a j (by omega); omega
      · rw [if_pos (by simp at hj; omega)]; simp only []; omega
    · simp at hj
      rw [at_snoc, at_snoc, if_pos (by omega)]
      split
      · exact h.b j (by omega)
      · rw [if_pos (by omega)]
        have ha := h.a j (by omega)
        have : (at_ gs j).f1 ≠ (i : Int) := fun h_ => hc ⟨by omega, by
          have e : at_ gs j = lastT gs := by unfold at_ lastT; rw [show gs.length - 1 = j by omega]
          rw [← e]; exact h_⟩
        simp only []
        omega
    · rw [tot_snoc]
      have := h.t
      simp only []
      omega
theorem dec_inv (b : List Int) (d : Nat) : ∀ (i : Nat) (es : List S26) (gs : List S55), b.length < i + d → i ≤ b.length → G gs i es.length →
    ∃ m : Nat, (dec b d i es gs).2.2 = (m : Int) ∧ G (dec b d i es gs).2.1 m (dec b d i es gs).1.length ∧ m ≤ b.length ∧ b.length < m + 24 := by
  induction d with
  | zero => intro i es gs hd hi _; exact absurd hd (by omega)
  | succ d ih =>
    intro i es gs hd hi h
    unfold dec
    by_cases hc : i + 24 ≤ b.length
    · rw [if_pos hc]
      by_cases hf : isF (win b i) = true
      · rw [if_pos hf]
        exact ih (i + 24) _ gs (by omega) hc ⟨fun j hj => by have := h.a j hj; omega, h.b, by have := h.t; simp; omega⟩
      · rw [if_neg hf]
        exact ih (i + 1) es _ (by omega) (by omega) h.gap
    · rw [if_neg hc]
      exact ⟨i, rfl, h, hi, by omega⟩
end Go.Proofs.Ytopigdnffnondaa.RecG
