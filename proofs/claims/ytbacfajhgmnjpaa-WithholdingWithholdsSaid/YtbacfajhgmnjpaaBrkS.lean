/- Plain lemmas for the laws of this seat: what its functions answer; no condition beyond those that each lemma states. -/
import Derived.Test.YtbacfajhgmnjpaaBrkG
import Derived.Test.YtbacfajhgmnjpaaFbracketScale
namespace Go.Proofs.Ytbacfajhgmnjpaa.BrkS
open Go.RowKit Go.Proofs.YtbacfajhgmnjpaaW.PrintWords Go.Proofs.Ytbacfajhgmnjpaa.P Go.Proofs.Ytbacfajhgmnjpaa.K Go.Proofs.Ytbacfajhgmnjpaa.BrkA Go.Proofs.Ytbacfajhgmnjpaa.BrkG
/-! bracket.Scale, of the program and of the reference: one list, that is valid. -/
abbrev G (t : List S58) (num den : Int) (i : Nat) : Int := F t i * num / den
/-- What is kept of the first i brackets. -/
def acc (t : List S58) (num den : Int) : Nat → List S58
  | 0 => []
  | i + 1 => if i + 1 < t.length ∧ G t num den (i + 1) = G t num den i then acc t num den i else acc t num den i ++ [⟨G t num den i, R t i⟩]
theorem acc_len (t : List S58) (num den : Int) : ∀ i, (acc t num den i).length ≤ i
  | 0 => Nat.le_refl _
  | i + 1 => by
    have := acc_len t num den i
    unfold acc
    split
    · omega
    · simp; omega
section
variable {t : List S58} (hv : VB t) {num den : Int} (h0 : 0 ≤ num) (h1 : num ≤ den) (h2 : 1 ≤ den) (h3 : den ≤ 53)
include hv h0 h1 h2 h3
theorem g_bd (i : Nat) (hi : i < t.length) : 0 ≤ F t i * num ∧ F t i * num ≤ 53000000000000 ∧ 0 ≤ G t num den i ∧ G t num den i ≤ 1000000000000 := by
  have a := hv.ok.fpos i hi
  have b := hv.ok.ftop i hi
  have c := Int.mul_nonneg a h0
  have d := Int.mul_le_mul b (show num ≤ 53 by omega) h0 (by omega)
  have e := (Brk.ok_scaled hv.ok h0 (show 0 < den by omega) h1).ftop i hi
  exact ⟨c, by omega, Int.ediv_nonneg c (by omega), e⟩
/-- The program's list after i + 1 rounds. -/
theorem loop (d : Nat) : ∀ i, i + 1 + d = t.length → Ev (fun k => bracket_Scale.l0 k num den (acc t num den i ++ [⟨G t num den i, R t i⟩]) t (t.length : Int) ((i + 1 : Nat) : Int)) (acc t num den t.length, 0) := by
  have hl := hv.2.1
  induction d with
  | zero =>
    intro i hi
    refine Ev.step (fun k => by rw [bracket_Scale.l0]) ?_
    refine ev_neg (by omega) (ev_some ?_)
    have e : acc t num den t.length = acc t num den (i + 1) := by rw [← hi]
    rw [e, acc, if_neg (fun h => by omega)]
  | succ d ih =>
    intro i hi
    have ih := ih (i + 1) (by omega)
    have hal := acc_len t num den i
    have b1 := g_bd hv h0 h1 h2 h3 (i + 1) (by omega)
    have e1 : wrap64 (((i + 1 : Nat) : Int) + 1) = ((i + 1 + 1 : Nat) : Int) := w64n (by omega) (by omega)
    have f2 : wrap64 (F t (i + 1) * num) = F t (i + 1) * num := w64 (by omega) (by omega)
    have f3 : wrap64 (Int.tdiv (F t (i + 1) * num) den) = G t num den (i + 1) := by rw [tdiv_pos b1.1]; exact w64 (x := G t num den _) (by omega) (by omega)
    have hlen : (acc t num den i ++ [(⟨G t num den i, R t i⟩ : S58)]).length = (acc t num den i).length + 1 := by simp
    have e4 : wrap64 (((acc t num den i).length + 1 : Nat) - 1 : Int) = ((acc t num den i).length : Nat) := w64n (by omega) (by omega)
    have e5 : (acc t num den i ++ [(⟨G t num den i, R t i⟩ : S58)]).getD (acc t num den i).length z58 = ⟨G t num den i, R t i⟩ := by
      simp [List.getD_eq_getElem?_getD]
    have e6 : (acc t num den i ++ [(⟨G t num den i, R t i⟩ : S58)]).take (acc t num den i).length = acc t num den i := by simp
    refine Ev.step (fun k => by rw [bracket_Scale.l0]) ?_
    rw [hlen]
    refine ev_pos (by omega) (ev_pos (by omega) (ev_pos (by omega) (ev_neg (by omega) (ev_pos (by omega) ?_))))
    simp only [e1, rdF, f2, f3, e4, e5]
    refine ev_pos (by omega) (ev_pos (by omega) ?_)
    by_cases hg : G t num den i = G t num den (i + 1)
    · have ea : acc t num den (i + 1) = acc t num den i := by
        rw [acc, if_pos ⟨by omega, hg.symm⟩]
      rw [ea] at ih
      refine ev_pos hg (ev_pos (by omega) (ev_bindc rfl ?_))
      simp only [Int.toNat_natCast, e6]
      exact ev_pos (by omega) ih
    · have ea : acc t num den (i + 1) = acc t num den i ++ [⟨G t num den i, R t i⟩] := by
        rw [acc, if_neg (fun h => hg h.2.symm)]
      rw [ea] at ih
      exact ev_neg hg (ev_pos (by omega) ih)
end
/-- What Scale answers. -/
noncomputable def scr (t : List S58) (num den : Int) : List S58 × Int :=
  if vb t = true then (if den < 1 ∨ den > 53 ∨ num < 0 ∨ num > den then ([], 2) else (acc t num den t.length, 0)) else ([], 1)
theorem scale_ev (t : List S58) (num den : Int) : Ev (fun k => bracket_Scale.f k t num den) (scr t num den) := by
  unfold bracket_Scale.f
  refine Ev.bind (valid_ev t) ?_
  unfold scr
  by_cases h : vb t = true
  · simp only [if_pos h]
    have hv := vb_true.1 h
    by_cases a : den < 1 ∨ den > 53 ∨ num < 0 ∨ num > den
    · rw [if_pos a]
      have z : ∀ b : Bool, b = true → Ev (fun k => bracket_Scale.j0 k t num den b) (([] : List S58), 2) := by
        intro b hb
        exact Ev.step (fun k => by rw [bracket_Scale.j0]) (ev_pos hb (ev_some rfl))
      by_cases a1 : den < 1
      · exact ev_pos a1 (z _ rfl)
      refine ev_neg a1 ?_
      by_cases a2 : den > 53
      · exact ev_pos a2 (z _ rfl)
      refine ev_neg a2 ?_
      by_cases a3 : num < 0
      · exact ev_pos a3 (z _ rfl)
      refine ev_neg a3 (z _ ?_)
      simp; omega
    · rw [if_neg a]
      refine ev_neg (by omega) (ev_neg (by omega) (ev_neg (by omega) (Ev.step (fun k => by rw [bracket_Scale.j0]) (ev_neg (by simp; omega) ?_))))
      have hne := hv.1
      have b0 := g_bd hv (num := num) (den := den) (by omega) (by omega) (by omega) (by omega) 0 (by omega)
      have f2 : wrap64 (F t 0 * num) = F t 0 * num := w64 (by omega) (by omega)
      have f3 : wrap64 (Int.tdiv (F t 0 * num) den) = G t num den 0 := by rw [tdiv_pos b0.1]; exact w64 (x := G t num den _) (by omega) (by omega)
      have e1 : wrap64 ((0 : Int) + 1) = ((0 + 1 : Nat) : Int) := w64n (by omega) (by omega)
      refine Ev.step (fun k => by rw [bracket_Scale.l0]) ?_
      refine ev_pos (by omega) (ev_pos (by omega) (ev_pos (by omega) (ev_neg (by omega) (ev_neg (by simp) (ev_pos (by simp) ?_)))))
      rw [e1]
      show Ev (fun n => bracket_Scale.l0 n num den ([] ++ [⟨wrap64 (Int.tdiv (wrap64 (F t 0 * num)) den), R t 0⟩]) t (t.length : Int) ((0 + 1 : Nat) : Int)) _
      rw [f2, f3]
      exact loop hv (num := num) (den := den) (by omega) (by omega) (by omega) (by omega) (t.length - 1) 0 (by omega)
  · simp only [if_neg h]
    exact ev_some rfl
/-! ### what is kept is valid, and has the scaled marginal rates -/
section
variable {t : List S58} (hv : VB t) {num den : Int} (h0 : 0 ≤ num) (h1 : num ≤ den) (h2 : 1 ≤ den) (h3 : den ≤ 53)
include hv h0 h1 h2 h3
theorem acc_inv : ∀ i, i ≤ t.length →
    (∀ j, j < (acc t num den i).length → okAt (acc t num den i) j) ∧ ((acc t num den i).length ≠ 0 → F (acc t num den i) 0 = 0) ∧ ((acc t num den i).length = 0 → i < t.length → G t num den i = 0) ∧
    (∀ j, j < (acc t num den i).length → i < t.length → F (acc t num den i) j < G t num den i)
  | 0, hi => by
    refine ⟨fun j hj => by simp [acc] at hj, fun h => by simp [acc] at h, fun _ _ => ?_, fun j hj => by simp [acc] at hj⟩
    show F t 0 * num / den = 0
    rw [hv.2.2.1]; simp
  | i + 1, hi => by
    obtain ⟨a1, a2, a3, a4⟩ := acc_inv i (by omega)
    have gb := g_bd hv h0 h1 h2 h3 i (by omega)
    have hm : i + 1 < t.length → G t num den i ≤ G t num den (i + 1) := (Brk.ok_scaled hv.ok h0 (show 0 < den by omega) h1).asc i
    unfold acc
    split
    · rename_i hc
      exact ⟨a1, a2, fun h _ => by rw [hc.2]; exact a3 h (by omega), fun j hj _ => by rw [hc.2]; exact a4 j hj (by omega)⟩
    · rename_i hc
      have hok := hv.2.2.2 i (by omega)
      refine ⟨fun j hj => ?_, fun _ => ?_, fun h => by simp at h, fun j hj hlt => ?_⟩
      · simp only [List.length_append, List.length_cons, List.length_nil] at hj
        unfold okAt
        rw [F_app, F_app, R_app]
        by_cases hjl : j < (acc t num den i).length
        · rw [if_pos hjl, if_pos hjl, if_pos (by omega)]
          exact a1 j hjl
        · obtain rfl : j = (acc t num den i).length := by omega
          rw [if_neg hjl, if_neg hjl, if_pos rfl, if_pos rfl]
          refine ⟨fun hp => ?_, gb.2.2.2, hok.2.2⟩
          rw [if_pos (by omega)]
          exact a4 _ (by omega) (by omega)
      · rw [F_app]
        by_cases hz : 0 < (acc t num den i).length
        · rw [if_pos hz]; exact a2 (by omega)
        · rw [if_neg hz, if_pos (by omega)]
          exact a3 (by omega) (by omega)
      · simp only [List.length_append, List.length_cons, List.length_nil] at hj
        have hlt2 : G t num den i < G t num den (i + 1) := by
          have := hm hlt
          have : G t num den (i + 1) ≠ G t num den i := fun h => hc ⟨hlt, h⟩
          omega
        rw [F_app]
        by_cases hjl : j < (acc t num den i).length
        · rw [if_pos hjl]
          have := a4 j hjl (by omega)
          omega
        · rw [if_neg hjl, if_pos (by omega)]
          exact hlt2
omit h0 h1 h2 h3 in
theorem acc_ne : (acc t num den t.length).length ≠ 0 := by
  have hne := hv.1
  obtain ⟨m, hm⟩ : ∃ m, t.length = m + 1 := ⟨t.length - 1, by omega⟩
  rw [hm]
  unfold acc
  rw [if_neg (fun h => by omega)]
  simp
theorem acc_valid : VB (acc t num den t.length) := by
  obtain ⟨a1, a2, _, _⟩ := acc_inv hv h0 h1 h2 h3 t.length (Nat.le_refl _)
  have hne := acc_ne hv (num := num) (den := den)
  have := acc_len t num den t.length
  have := hv.2.1
  exact ⟨hne, by omega, a2 hne, a1⟩
omit hv h0 h1 h2 h3 in
theorem acc_marg (z : Int) : ∀ i, i ≤ t.length → ¬ (i < t.length ∧ G t num den i ≤ z) →
    Brk.marg (F (acc t num den i)) (R (acc t num den i)) z (acc t num den i).length = Brk.marg (G t num den) (R t) z i
  | 0, _, _ => rfl
  | i + 1, hi, hc => by
    unfold acc
    by_cases hg : i + 1 < t.length ∧ G t num den (i + 1) = G t num den i
    · rw [if_pos hg]
      have hz : ¬ G t num den i ≤ z := fun h => hc ⟨hg.1, by rw [hg.2]; exact h⟩
      rw [acc_marg z i (by omega) (fun h => hz h.2)]
      simp only [Brk.marg]
      rw [if_neg hz]
    · rw [if_neg hg]
      have e : (acc t num den i ++ [(⟨G t num den i, R t i⟩ : S58)]).length = (acc t num den i).length + 1 := by simp
      have eF : F (acc t num den i ++ [(⟨G t num den i, R t i⟩ : S58)]) (acc t num den i).length = G t num den i := by rw [F_app, if_neg (by omega), if_pos rfl]
      have eR : R (acc t num den i ++ [(⟨G t num den i, R t i⟩ : S58)]) (acc t num den i).length = R t i := by rw [R_app, if_neg (by omega), if_pos rfl]
      rw [e]
      simp only [Brk.marg]
      rw [eF, eR]
      by_cases hz : G t num den i ≤ z
      · rw [if_pos hz, if_pos hz]
      · rw [if_neg hz, if_neg hz, ← acc_marg z i (by omega) (fun h => hz h.2)]
        have cong : ∀ m, m ≤ (acc t num den i).length → Brk.marg (F (acc t num den i ++ [(⟨G t num den i, R t i⟩ : S58)])) (R (acc t num den i ++ [(⟨G t num den i, R t i⟩ : S58)])) z m = Brk.marg (F (acc t num den i)) (R (acc t num den i)) z m := by
          intro m
          induction m with
          | zero => intro _; rfl
          | succ m ihm =>
            intro hm
            simp only [Brk.marg]
            have fF : F (acc t num den i ++ [(⟨G t num den i, R t i⟩ : S58)]) m = F (acc t num den i) m := by rw [F_app, if_pos (by omega)]
            have fR : R (acc t num den i ++ [(⟨G t num den i, R t i⟩ : S58)]) m = R (acc t num den i) m := by rw [R_app, if_pos (by omega)]
            rw [fF, fR, ihm (by omega)]
        exact cong _ (Nat.le_refl _)
theorem acc_exact (y : Nat) : exa (acc t num den t.length) y = Brk.exact (G t num den) (R t) t.length y :=
  Brk.exact_of_marg (acc_valid hv h0 h1 h2 h3).ok (Brk.ok_scaled hv.ok h0 (show 0 < den by omega) h1) (fun z _ => acc_marg z t.length (Nat.le_refl _) (fun h => by omega)) y
end
/-- Scaled by 1. -/
theorem acc_one {t : List S58} (hv : VB t) {den : Int} (h2 : 1 ≤ den) : ∀ i, i ≤ t.length → acc t den den i = t.take i
  | 0, _ => by simp [acc]
  | i + 1, hi => by
    have g : ∀ j, G t den den j = F t j := fun j => Int.mul_ediv_cancel _ (show den ≠ 0 by omega)
    unfold acc
    rw [g, g]
    have hn : ¬ (i + 1 < t.length ∧ F t (i + 1) = F t i) := by
      rintro ⟨h, he⟩
      have := (hv.2.2.2 (i + 1) h).1 (by omega)
      simp only [Nat.add_sub_cancel] at this
      omega
    rw [if_neg hn, acc_one hv h2 i (by omega), List.take_succ_eq_append_getElem (by omega)]
    have : t[i] = ⟨F t i, R t i⟩ := by
      unfold F R
      rw [List.getD_eq_getElem?_getD, List.getElem?_eq_getElem (by omega)]
      rfl
    rw [this]
end Go.Proofs.Ytbacfajhgmnjpaa.BrkS
