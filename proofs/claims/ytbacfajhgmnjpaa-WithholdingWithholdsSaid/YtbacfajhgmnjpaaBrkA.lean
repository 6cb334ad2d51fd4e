/- Plain lemmas for the laws of this seat: what its functions answer; no condition beyond those that each lemma states. -/
import Derived.Test.YtbacfajhgmnjpaaKit
import Derived.Test.YtbacfajhgmnjpaaBrk
import Derived.Test.YtbacfajhgmnjpaaFbr
namespace Go.Proofs.Ytbacfajhgmnjpaa.BrkA
open Go.RowKit Go.Proofs.YtbacfajhgmnjpaaW.PrintWords Go.Proofs.Ytbacfajhgmnjpaa.P Go.Proofs.Ytbacfajhgmnjpaa.K
/-! bracket: Valid, check, Split, Exact, of the program and of the reference: what they answer. -/
abbrev F (t : List S58) (i : Nat) : Int := (t.getD i z58).f0
abbrev R (t : List S58) (i : Nat) : Int := (t.getD i z58).f1
theorem rdF (t : List S58) (i : Nat) : rd_T58 t (i : Int) = t.getD i z58 := rfl
def okAt (t : List S58) (i : Nat) : Prop := (0 < i → F t (i - 1) < F t i) ∧ F t i ≤ 1000000000000 ∧ 0 ≤ R t i ∧ R t i ≤ 1000000
def VB (t : List S58) : Prop := t.length ≠ 0 ∧ t.length ≤ 24 ∧ F t 0 = 0 ∧ ∀ i, i < t.length → okAt t i
noncomputable def vb (t : List S58) : Bool := @decide (VB t) (Classical.propDecidable _)
theorem vb_true {t : List S58} : vb t = true ↔ VB t := by unfold vb; exact @decide_eq_true_iff _ (Classical.propDecidable _)
theorem vb_false {t : List S58} : vb t = false ↔ ¬ VB t := by unfold vb; exact @decide_eq_false_iff_not _ (Classical.propDecidable _)
theorem VB.ok {t : List S58} (h : VB t) : Brk.Ok (F t) (R t) t.length := by
  obtain ⟨h1, h2, h3, h4⟩ := h
  refine ⟨by omega, h2, h3, fun i hi => ?_, fun i hi => (h4 i hi).2.1, fun i hi => (h4 i hi).2.2.1, fun i hi => (h4 i hi).2.2.2⟩
  have := (h4 (i + 1) hi).1 (by omega)
  exact Int.le_of_lt (by simpa using this)
section
open Classical
/-- The loop of Valid from round i on. -/
theorem valid_loop (t : List S58) (hl : t.length ≤ 24) (d : Nat) : ∀ i, i + d = t.length →
    Ev (fun k => bracket_Valid.l0 k t t (t.length : Int) (i : Int)) (decide (∀ j, i ≤ j → j < t.length → okAt t j)) := by
  induction d with
  | zero =>
    intro i hi
    refine Ev.step (fun k => by rw [bracket_Valid.l0]) ?_
    refine ev_neg (by omega) (ev_some ?_)
    symm; rw [decide_eq_true_iff]
    intro j h1 h2; omega
  | succ d ih =>
    intro i hi
    have ih := ih (i + 1) (by omega)
    have e1 : wrap64 ((i : Int) + 1) = ((i + 1 : Nat) : Int) := w64n (by omega) (by omega)
    refine Ev.step (fun k => by rw [bracket_Valid.l0]) ?_
    refine ev_pos (by omega) (ev_pos (by omega) (ev_pos (by omega) ?_))
    by_cases h0 : 0 < i
    · have e2 : wrap64 ((i : Int) - 1) = ((i - 1 : Nat) : Int) := w64n (by omega) (by omega)
      simp only [e1, e2, rdF]
      refine ev_pos (by omega) (ev_pos (by omega) (ev_pos (by omega) ?_))
      by_cases hok : okAt t i
      · obtain ⟨a1, a2, a3, a4⟩ := id hok
        have a1 := a1 h0
        refine ev_neg (by show ¬ F t (i - 1) ≥ F t i; omega) (ev_neg (by show ¬ F t i > _; omega) (ev_neg (by show ¬ R t i < 0; omega) (ev_neg (by show ¬ R t i > _; omega) (ev_to ih ?_))))
        rw [decide_eq_decide]
        constructor
        · intro h j h1 h2
          rcases Nat.lt_or_ge i j with hlt | hge
          · exact h j hlt h2
          · obtain rfl : j = i := by omega
            exact hok
        · intro h j h1 h2
          exact h j (by omega) h2
      · have hf : decide (∀ j, i ≤ j → j < t.length → okAt t j) = false := by
          rw [decide_eq_false_iff_not]
          intro h
          exact hok (h i (by omega) (by omega))
        rw [hf]
        by_cases b1 : F t (i - 1) ≥ F t i
        · exact ev_pos b1 (ev_some rfl)
        refine ev_neg b1 ?_
        by_cases b2 : F t i > 1000000000000
        · exact ev_pos b2 (ev_some rfl)
        refine ev_neg b2 ?_
        by_cases b3 : R t i < 0
        · exact ev_pos b3 (ev_some rfl)
        refine ev_neg b3 ?_
        by_cases b4 : R t i > 1000000
        · exact ev_pos b4 (ev_some rfl)
        exact absurd ⟨fun _ => by omega, by omega, by omega, by omega⟩ hok
    · simp only [e1, rdF]
      refine ev_neg (by omega) ?_
      by_cases hok : okAt t i
      · obtain ⟨a1, a2, a3, a4⟩ := id hok
        refine ev_neg (by show ¬ F t i > _; omega) (ev_neg (by show ¬ R t i < 0; omega) (ev_neg (by show ¬ R t i > _; omega) (ev_to ih ?_)))
        rw [decide_eq_decide]
        constructor
        · intro h j h1 h2
          rcases Nat.lt_or_ge i j with hlt | hge
          · exact h j hlt h2
          · obtain rfl : j = i := by omega
            exact hok
        · intro h j h1 h2
          exact h j (by omega) h2
      · have hf : decide (∀ j, i ≤ j → j < t.length → okAt t j) = false := by
          rw [decide_eq_false_iff_not]
          intro h
          exact hok (h i (by omega) (by omega))
        rw [hf]
        by_cases b2 : F t i > 1000000000000
        · exact ev_pos b2 (ev_some rfl)
        refine ev_neg b2 ?_
        by_cases b3 : R t i < 0
        · exact ev_pos b3 (ev_some rfl)
        refine ev_neg b3 ?_
        by_cases b4 : R t i > 1000000
        · exact ev_pos b4 (ev_some rfl)
        exact absurd ⟨fun h => absurd h h0, by omega, by omega, by omega⟩ hok
end
theorem all_iff {t : List S58} (h1 : t.length ≠ 0) (h2 : t.length ≤ 24) (h3 : F t 0 = 0) : (∀ j, 0 ≤ j → j < t.length → okAt t j) ↔ VB t :=
  ⟨fun h => ⟨h1, h2, h3, fun i hi => h i (Nat.zero_le _) hi⟩, fun h j _ hj => h.2.2.2 j hj⟩
theorem valid_ev (t : List S58) : Ev (fun k => bracket_Valid.f k t) (vb t) := by
  unfold bracket_Valid.f
  by_cases h1 : t.length = 0
  · refine ev_pos (by omega) (Ev.step (fun k => by rw [bracket_Valid.j0]) (ev_pos rfl (ev_some ?_)))
    rw [vb_false.2]; intro h; exact h.1 h1
  refine ev_neg (by omega) ?_
  by_cases h2 : t.length > 24
  · refine ev_pos (by omega) (Ev.step (fun k => by rw [bracket_Valid.j0]) (ev_pos rfl (ev_some ?_)))
    rw [vb_false.2]; intro h; have := h.2.1; omega
  refine ev_neg (by omega) (ev_pos (by omega) ?_)
  refine Ev.step (fun k => by rw [bracket_Valid.j0]) ?_
  by_cases h3 : F t 0 = 0
  · have h3' : (rd_T58 t 0).f0 = 0 := h3
    refine ev_neg (by simp [h3']) (ev_to (valid_loop t (by omega) t.length 0 (by omega)) ?_)
    unfold vb
    rw [decide_eq_decide]
    exact all_iff h1 (by omega) h3
  · have h3' : ¬ (rd_T58 t 0).f0 = 0 := h3
    refine ev_pos (by simp [h3']) (ev_some ?_)
    rw [vb_false.2]; intro h; exact h3 h.2.2.1
/-- What check answers. -/
noncomputable def chk (t : List S58) (x : Int) : Int := if vb t = true then (if x < 0 then 2 else if x > 1000000000000 then 2 else 0) else 1
theorem check_ev (t : List S58) (x : Int) : Ev (fun k => bracket_check.f k t x) (chk t x) := by
  unfold bracket_check.f
  refine Ev.bind (valid_ev t) ?_
  unfold chk
  by_cases h : vb t = true
  · simp only [if_pos h]
    by_cases h1 : x < 0
    · simp only [if_pos h1]; exact ev_some rfl
    · simp only [if_neg h1]
      by_cases h2 : x > 1000000000000
      · simp only [if_pos h2]; exact ev_some rfl
      · simp only [if_neg h2]; exact ev_some rfl
  · simp only [if_neg h]; exact ev_some rfl
theorem chk_zero {t : List S58} {x : Int} (h : chk t x = 0) : VB t ∧ 0 ≤ x ∧ x ≤ 1000000000000 := by
  unfold chk at h
  split at h
  · rename_i hv
    refine ⟨vb_true.1 hv, ?_⟩
    split at h
    · omega
    · split at h <;> omega
  · omega
theorem chk_ok {t : List S58} {x : Int} (h : VB t) (h0 : 0 ≤ x) (h1 : x ≤ 1000000000000) : chk t x = 0 := by
  unfold chk
  rw [if_pos (vb_true.2 h), if_neg (by omega), if_neg (by omega)]
/-! ### Split -/
/-- The list of the parts. -/
def parts (t : List S58) (x : Int) : List Int := (List.range t.length).map (Brk.part (F t) t.length x)
theorem parts_length (t : List S58) (x : Int) : (parts t x).length = t.length := by simp [parts]
theorem parts_get (t : List S58) (x : Int) (i : Nat) (hi : i < t.length) : (parts t x).getD i 0 = Brk.part (F t) t.length x i := by
  simp [parts, List.getD_eq_getElem?_getD, hi]
/-- Rounds done: the first i parts stand, the rest is as it was. -/
def upto (t : List S58) (x : Int) (i : Nat) : List Int := (parts t x).take i ++ List.replicate (t.length - i) 0
theorem upto_length (t : List S58) (x : Int) (i : Nat) (hi : i ≤ t.length) : (upto t x i).length = t.length := by
  simp [upto, parts_length]; omega
theorem upto_set (t : List S58) (x : Int) (i : Nat) (hi : i < t.length) : (upto t x i).set i (Brk.part (F t) t.length x i) = upto t x (i + 1) := by
  unfold upto
  have h1 : (List.take i (parts t x)).length = i := by simp [parts_length]; omega
  rw [List.set_append_right _ _ (by omega), h1, Nat.sub_self]
  have h2 : t.length - i = (t.length - (i + 1)) + 1 := by omega
  rw [h2, List.replicate_succ, List.set_cons_zero, List.take_succ_eq_append_getElem (by simp [parts_length]; omega), List.append_assoc]
  have h3 : (parts t x)[i]'(by simp [parts_length]; omega) = Brk.part (F t) t.length x i := by simp [parts]
  rw [h3]; rfl
theorem upto_all (t : List S58) (x : Int) : upto t x t.length = parts t x := by
  simp [upto, List.take_of_length_le (Nat.le_of_eq (parts_length t x))]
theorem upto_zero (t : List S58) (x : Int) : upto t x 0 = List.replicate t.length 0 := by simp [upto]
section
variable {t : List S58} (hv : VB t) {x : Int} (h0 : 0 ≤ x) (h1 : x ≤ 1000000000000)
include hv h0 h1
theorem split_loop (d : Nat) : ∀ i, i + d = t.length →
    Ev (fun k => bracket_Split.l0 k t x (upto t x i) (i : Int) ((i + 1 : Nat) : Int)) (parts t x, 0) := by
  have hl := hv.2.1
  induction d with
  | zero =>
    intro i hi
    obtain rfl : i = t.length := by omega
    refine Ev.step (fun k => by rw [bracket_Split.l0]) ?_
    refine ev_neg (by omega) (ev_some ?_)
    rw [upto_all]
  | succ d ih =>
    intro i hi
    have ih := ih (i + 1) (by omega)
    have hfp := hv.ok.fpos i (by omega)
    have hft := hv.ok.ftop i (by omega)
    have e1 : wrap64 ((i : Int) + 1) = ((i + 1 : Nat) : Int) := w64n (by omega) (by omega)
    have e2 : wrap64 (((i + 1 : Nat) : Int) + 1) = ((i + 1 + 1 : Nat) : Int) := w64n (by omega) (by omega)
    have hul := upto_length t x i (by omega)
    refine Ev.step (fun k => by rw [bracket_Split.l0]) ?_
    refine ev_pos (by omega) ?_
    simp only [e1, e2, rdF, mx_eq, mn_eq, Int.toNat_natCast]
    by_cases hn : i + 1 < t.length
    · have hfp' := hv.ok.fpos (i + 1) hn
      have hft' := hv.ok.ftop (i + 1) hn
      refine ev_pos (by omega) (ev_pos (by omega) (ev_pos (by omega) (ev_pos (by omega) ?_)))
      have e3 : wrap64 (min x (F t (i + 1)) - F t i) = min x (F t (i + 1)) - F t i := w64 (by omega) (by omega)
      have e4 : max (min x (F t (i + 1)) - F t i) 0 = Brk.part (F t) t.length x i := by unfold Brk.part; rw [if_pos hn]
      rw [e3, e4, upto_set t x i (by omega)]
      exact ih
    · refine ev_neg (by omega) (ev_pos (by omega) (ev_pos (by omega) ?_))
      have e3 : wrap64 (x - F t i) = x - F t i := w64 (by omega) (by omega)
      have e4 : max (x - F t i) 0 = Brk.part (F t) t.length x i := by unfold Brk.part; rw [if_neg hn]
      rw [e3, e4, upto_set t x i (by omega)]
      exact ih
end
/-- What Split answers. -/
noncomputable def spl (t : List S58) (x : Int) : List Int × Int := if chk t x = 0 then (parts t x, 0) else ([], chk t x)
theorem split_ev (t : List S58) (x : Int) : Ev (fun k => bracket_Split.f k t x) (spl t x) := by
  unfold bracket_Split.f spl
  refine Ev.bind (check_ev t x) ?_
  by_cases h : chk t x = 0
  · obtain ⟨hv, h0, h1⟩ := chk_zero h
    have hl := hv.2.1
    rw [if_pos h]
    refine ev_pos h (ev_pos (by omega) (ev_pos (by omega) ?_))
    have e : List.replicate (t.length : Int).toNat (0 : Int) = upto t x 0 := by rw [upto_zero]; rfl
    rw [e]
    exact split_loop hv h0 h1 t.length 0 (by omega)
  · rw [if_neg h]
    exact ev_neg h (ev_some rfl)
/-! ### Exact -/
noncomputable def exa (t : List S58) (x : Int) : Int := Brk.exact (F t) (R t) t.length x
section
variable {t : List S58} (hv : VB t) {x : Int} (h0 : 0 ≤ x) (h1 : x ≤ 1000000000000)
include hv h0 h1
theorem term_bd (i : Nat) (hi : i < t.length) : 0 ≤ R t i * Brk.part (F t) t.length x i ∧ R t i * Brk.part (F t) t.length x i ≤ 1000000000000000000 := by
  have a := Brk.part_nonneg (F t) t.length x i
  have b := Brk.part_le_x hv.ok h0 i hi
  have c := hv.ok.r0 i hi
  have d := hv.ok.r1 i hi
  refine ⟨Int.mul_nonneg c a, ?_⟩
  have := Int.mul_le_mul d (show Brk.part (F t) t.length x i ≤ 1000000000000 by omega) a (by omega)
  omega
theorem exact_loop (d : Nat) : ∀ i, i + d = t.length →
    Ev (fun k => bracket_Exact.l0 k t (Brk.sum (fun i => R t i * Brk.part (F t) t.length x i) i) (parts t x) (t.length : Int) (i : Int)) (exa t x, 0) := by
  have hl := hv.2.1
  have hpl := parts_length t x
  induction d with
  | zero =>
    intro i hi
    obtain rfl : i = t.length := by omega
    refine Ev.step (fun k => by rw [bracket_Exact.l0]) ?_
    exact ev_neg (by omega) (ev_some rfl)
  | succ d ih =>
    intro i hi
    have ih := ih (i + 1) (by omega)
    have e1 : wrap64 ((i : Int) + 1) = ((i + 1 : Nat) : Int) := w64n (by omega) (by omega)
    have hb := term_bd hv h0 h1 i (by omega)
    have hs0 := Brk.partial_nonneg hv.ok x (i + 1) (by omega)
    have hs1 := Brk.partial_le hv.ok h0 (i + 1) (by omega)
    simp only [Brk.sum] at hs0 hs1 ih
    refine Ev.step (fun k => by rw [bracket_Exact.l0]) ?_
    refine ev_pos (by omega) (ev_pos (by omega) (ev_pos (by omega) (ev_pos (by omega) ?_)))
    simp only [e1, rdF, rd_nat]
    rw [parts_get t x i (by omega)]
    have e2 : wrap64 ((t.getD i z58).f1 * Brk.part (F t) t.length x i) = R t i * Brk.part (F t) t.length x i := w64 (by show _ ≤ R t i * _; omega) (by show R t i * _ ≤ _; omega)
    rw [e2, w64 (by omega) (by omega)]
    exact ih
end
/-- What Exact answers. -/
noncomputable def exr (t : List S58) (x : Int) : Int × Int := if chk t x = 0 then (exa t x, 0) else (0, chk t x)
theorem exact_ev (t : List S58) (x : Int) : Ev (fun k => bracket_Exact.f k t x) (exr t x) := by
  unfold bracket_Exact.f
  refine Ev.bind (split_ev t x) ?_
  unfold spl exr
  by_cases h : chk t x = 0
  · obtain ⟨hv, h0, h1⟩ := chk_zero h
    simp only [if_pos h]
    refine ev_pos trivial ?_
    rw [parts_length]
    exact exact_loop hv h0 h1 t.length 0 (by omega)
  · simp only [if_neg h]
    exact ev_some rfl
theorem exr_ok {t : List S58} {x : Int} (h : VB t) (h0 : 0 ≤ x) (h1 : x ≤ 1000000000000) : exr t x = (exa t x, 0) := by
  unfold exr; rw [if_pos (chk_ok h h0 h1)]
theorem spl_ok {t : List S58} {x : Int} (h : VB t) (h0 : 0 ≤ x) (h1 : x ≤ 1000000000000) : spl t x = (parts t x, 0) := by
  unfold spl; rw [if_pos (chk_ok h h0 h1)]
end Go.Proofs.Ytbacfajhgmnjpaa.BrkA
