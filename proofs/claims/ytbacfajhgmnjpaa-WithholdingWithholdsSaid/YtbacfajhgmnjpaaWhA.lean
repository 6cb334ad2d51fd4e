/- Plain lemmas for the laws of this seat: what its functions answer; no condition beyond those that each lemma states. -/
import Derived.Test.YtbacfajhgmnjpaaBrkA
import Derived.Test.YtbacfajhgmnjpaaFwithholdingValid
import Derived.Test.YtbacfajhgmnjpaaFwh
namespace Go.Proofs.Ytbacfajhgmnjpaa.WhA
open Go.RowKit Go.Proofs.YtbacfajhgmnjpaaW.PrintWords Go.Proofs.Ytbacfajhgmnjpaa.P Go.Proofs.Ytbacfajhgmnjpaa.K Go.Proofs.Ytbacfajhgmnjpaa.BrkA
/-! withholding: which tariffs are valid, of the program and of the reference. -/
abbrev RF (t : List S80) (i : Nat) : Int := (t.getD i z80).f0
abbrev RT (t : List S80) (i : Nat) : Int := (t.getD i z80).f1
theorem rdR (t : List S80) (i : Nat) : rd_T80 t (i : Int) = t.getD i z80 := rfl
theorem amount_eq (n : Int) : withholding_amount.f n = some (decide (0 ≤ n ∧ n ≤ 1000000000)) := by
  unfold withholding_amount.f
  by_cases h : n ≥ 0
  · rw [if_pos h]; congr 1; rw [decide_eq_decide]; omega
  · rw [if_neg h]; congr 1; symm; rw [decide_eq_false_iff_not]; omega
theorem total_eq (n : Int) : withholding_total.f n = some (decide (0 ≤ n ∧ n ≤ 1000000000000)) := by
  unfold withholding_total.f
  by_cases h : n ≥ 0
  · rw [if_pos h]; congr 1; rw [decide_eq_decide]; omega
  · rw [if_neg h]; congr 1; symm; rw [decide_eq_false_iff_not]; omega
theorem count_eq (n : Int) : withholding_count.f n = some (decide (1 ≤ n ∧ n ≤ 53)) := by
  unfold withholding_count.f
  by_cases h : n ≥ 1
  · rw [if_pos h]; congr 1; rw [decide_eq_decide]; omega
  · rw [if_neg h]; congr 1; symm; rw [decide_eq_false_iff_not]; omega
def rowAt (t : List S80) (i : Nat) : Prop := (0 < i → RF t (i - 1) < RF t i) ∧ RF t i ≤ 1000000000 ∧ 0 ≤ RT t i ∧ RT t i ≤ 1000000000
def VR (t : List S80) : Prop := t.length ≠ 0 ∧ t.length ≤ 256 ∧ RF t 0 = 0 ∧ ∀ i, i < t.length → rowAt t i
section
open Classical
/-- One bool for a proposition. -/
noncomputable def B (p : Prop) : Bool := decide p
theorem B_true {p : Prop} : B p = true ↔ p := by unfold B; exact decide_eq_true_iff
theorem B_false {p : Prop} : B p = false ↔ ¬ p := by unfold B; exact decide_eq_false_iff_not
theorem B_pos {p : Prop} (h : p) : B p = true := B_true.2 h
theorem B_neg {p : Prop} (h : ¬ p) : B p = false := B_false.2 h
theorem B_eq {p q : Prop} (h : p ↔ q) : B p = B q := by rw [propext h]
theorem B_dec {p : Prop} [d : Decidable p] : decide p = B p := by unfold B; congr
theorem table_loop (t : List S80) (hl : t.length ≤ 256) (d : Nat) : ∀ i, i + d = t.length → Ev (fun k => withholding_table.l0 k t t (t.length : Int) (i : Int)) (B (∀ j, i ≤ j → j < t.length → rowAt t j)) := by
  induction d with
  | zero =>
    intro i hi
    refine Ev.step (fun k => by rw [withholding_table.l0]) (ev_neg (by omega) (ev_some ?_))
    symm; rw [B_true]; intro j h1 h2; omega
  | succ d ih =>
    intro i hi
    have ih := ih (i + 1) (by omega)
    have e1 : wrap64 ((i : Int) + 1) = ((i + 1 : Nat) : Int) := w64n (by omega) (by omega)
    have good : rowAt t i → B (∀ j, i + 1 ≤ j → j < t.length → rowAt t j) = B (∀ j, i ≤ j → j < t.length → rowAt t j) := by
      intro hok
      refine B_eq ⟨fun h j h1 h2 => ?_, fun h j h1 h2 => h j (by omega) h2⟩
      rcases Nat.lt_or_ge i j with hlt | hge
      · exact h j hlt h2
      · obtain rfl : j = i := by omega
        exact hok
    have bad : ¬ rowAt t i → false = B (∀ j, i ≤ j → j < t.length → rowAt t j) := fun hn => (B_neg (fun h => hn (h i (by omega) (by omega)))).symm
    refine Ev.step (fun k => by rw [withholding_table.l0]) ?_
    simp only [e1, rdR, amount_eq]
    refine ev_pos (by omega) (ev_pos (by omega) (ev_pos (by omega) ?_))
    have rest : (0 < i → RF t (i - 1) < RF t i) → Ev (fun k => if RF t i > 1000000000 then some false else (some (decide (0 ≤ RT t i ∧ RT t i ≤ 1000000000))).bind fun t106 => if t106 = true then withholding_table.l0 k t t (t.length : Int) ((i + 1 : Nat) : Int) else some false) (B (∀ j, i ≤ j → j < t.length → rowAt t j)) := by
      intro h0
      by_cases h1 : RF t i > 1000000000
      · exact ev_pos h1 (ev_some (bad (fun h => by have := h.2.1; omega)))
      refine ev_neg h1 (ev_bindc rfl ?_)
      by_cases h2 : 0 ≤ RT t i ∧ RT t i ≤ 1000000000
      · exact ev_pos (by simpa using h2) (ev_to ih (good ⟨h0, by omega, h2.1, h2.2⟩))
      · exact ev_neg (by simpa using h2) (ev_some (bad (fun h => h2 h.2.2)))
    by_cases hp : (i : Int) > 0
    · have e2 : wrap64 ((i : Int) - 1) = ((i - 1 : Nat) : Int) := w64n (by omega) (by omega)
      simp only [e2, rdR]
      refine ev_pos hp (ev_pos (by omega) (ev_pos (by omega) ?_))
      by_cases h0 : RF t (i - 1) ≥ RF t i
      · exact ev_pos h0 (ev_some (bad (fun h => by have := h.1 (by omega); omega)))
      · exact ev_neg h0 (rest (fun _ => by omega))
    · exact ev_neg hp (rest (fun h => by omega))
theorem table_ev (t : List S80) : Ev (fun k => withholding_table.f k t) (B (VR t)) := by
  unfold withholding_table.f
  have tt : ∀ b, b = true → ¬ VR t → Ev (fun k => withholding_table.j0 k t b) (B (VR t)) := by
    intro b hb hn
    exact Ev.step (fun k => by rw [withholding_table.j0]) (ev_pos hb (ev_some (B_neg hn).symm))
  by_cases h0 : (t.length : Int) = 0
  · exact ev_pos h0 (tt _ rfl (fun h => h.1 (by omega)))
  refine ev_neg h0 ?_
  by_cases h1 : (t.length : Int) > 256
  · exact ev_pos h1 (tt _ rfl (fun h => by have := h.2.1; omega))
  refine ev_neg h1 (ev_pos (by omega) ?_)
  by_cases h2 : RF t 0 = 0
  · have e : ((rd_T80 t 0).f0 != 0) = false := by
      have : (rd_T80 t 0).f0 = 0 := h2
      rw [this]; rfl
    rw [e]
    refine Ev.step (fun k => by rw [withholding_table.j0]) (ev_neg (by decide) ?_)
    exact ev_to (table_loop t (by omega) t.length 0 (by omega)) (B_eq ⟨fun h => ⟨by omega, by omega, h2, fun i hi => h i (by omega) hi⟩, fun h j _ hj => h.2.2.2 j hj⟩)
  · refine tt _ ?_ (fun h => h2 h.2.2.1)
    have : (rd_T80 t 0).f0 ≠ 0 := h2
    simp [this]
end
/-- A valid tariff. -/
structure VT (m : Int) (t : List S58) (al cr u md : Int) (rows : List S80) : Prop where
  m0 : 1 ≤ m
  m1 : m ≤ 3
  tb : m = 1 → VR rows
  nr : m ≠ 1 → rows.length = 0
  vb : VB t
  a0 : 0 ≤ al
  a1 : al ≤ 1000000000
  c0 : 0 ≤ cr
  c1 : cr ≤ 1000000000
  u0 : 1 ≤ u
  u1 : u ≤ 100
  d0 : 0 ≤ md
  d1 : md ≤ 6
theorem vb_B (t : List S58) : vb t = B (VB t) := rfl
section
variable (m : Int) (t : List S58) (al cr u md : Int) (rows : List S80)
theorem tail_ev (hm : 1 ≤ m ∧ m ≤ 3) (hr : (m = 1 → VR rows) ∧ (m ≠ 1 → rows.length = 0)) :
    Ev (fun k => (bracket_Valid.f k t).bind fun t114 => (if t114 = true then ((withholding_amount.f al).bind fun t115 => (if t115 = true then ((withholding_amount.f cr).bind fun t116 => (if t116 = true then (if u ≥ 1 then (if u ≤ 100 then (if md ≥ 0 then (some (decide (md ≤ 6))) else (some false)) else (some false)) else (some false)) else (some false))) else (some false))) else (some false)))
      (B (VT m t al cr u md rows)) := by
  have bad : (¬ (VT m t al cr u md rows)) → false = B (VT m t al cr u md rows) := fun h => (B_neg h).symm
  refine Ev.bind (valid_ev t) ?_
  simp only [amount_eq]
  by_cases h0 : VB t
  case neg =>
   exact ev_neg (by rw [vb_B, B_neg h0]; decide) (ev_some (bad (fun h => h0 h.vb)))
  refine ev_pos (by rw [vb_B, B_pos h0]) (ev_bindc rfl ?_)
  by_cases h1 : 0 ≤ al ∧ al ≤ 1000000000
  case neg =>
   exact ev_neg (by simpa using h1) (ev_some (bad (fun h => h1 ⟨h.a0, h.a1⟩)))
  refine ev_pos (by simpa using h1) (ev_bindc rfl ?_)
  by_cases h2 : 0 ≤ cr ∧ cr ≤ 1000000000
  case neg =>
   exact ev_neg (by simpa using h2) (ev_some (bad (fun h => h2 ⟨h.c0, h.c1⟩)))
  refine ev_pos (by simpa using h2) ?_
  by_cases h3 : u ≥ 1
  case neg =>
   exact ev_neg h3 (ev_some (bad (fun h => h3 h.u0)))
  refine ev_pos h3 ?_
  by_cases h4 : u ≤ 100
  case neg =>
   exact ev_neg h4 (ev_some (bad (fun h => h4 h.u1)))
  refine ev_pos h4 ?_
  by_cases h5 : md ≥ 0
  case neg =>
   exact ev_neg h5 (ev_some (bad (fun h => h5 h.d0)))
  refine ev_pos h5 (ev_some ?_)
  rw [B_dec]
  exact B_eq ⟨fun h => ⟨hm.1, hm.2, hr.1, hr.2, h0, h1.1, h1.2, h2.1, h2.2, h3, h4, h5, h⟩, fun h => h.d1⟩
theorem tar_ev : Ev (fun k => withholding_Valid.f k m t al cr u md rows) (B (VT m t al cr u md rows)) := by
  unfold withholding_Valid.f
  have bad : (¬ (VT m t al cr u md rows)) → false = B (VT m t al cr u md rows) := fun h => (B_neg h).symm
  by_cases h1 : m = 1
  · refine ev_pos h1 (Ev.bind (table_ev rows) ?_)
    by_cases h : VR rows
    · exact ev_pos (B_pos h) (tail_ev m t al cr u md rows (by omega) ⟨fun _ => h, fun hn => absurd h1 hn⟩)
    · exact ev_neg (by rw [B_neg h]; decide) (ev_some (bad (fun hh => h (hh.tb h1))))
  refine ev_neg h1 ?_
  have two : (m = 2 ∨ m = 3) → Ev (fun k => withholding_Valid.j0 k true m t al cr u md rows) (B (VT m t al cr u md rows)) := by
    intro hm
    refine Ev.step (fun k => by rw [withholding_Valid.j0]) (ev_pos rfl ?_)
    by_cases h : (rows.length : Int) > 0
    · exact ev_pos h (ev_some (bad (fun hh => by have := hh.nr h1; omega)))
    · exact ev_neg h (tail_ev m t al cr u md rows (by omega) ⟨fun hn => absurd hn h1, fun _ => by omega⟩)
  by_cases h2 : m = 2
  · refine ev_pos h2 ?_
    have e : (m == 2) = true := by simp [h2]
    rw [e]; exact two (.inl h2)
  refine ev_neg h2 ?_
  by_cases h3 : m = 3
  · have e : (m == 3) = true := by simp [h3]
    rw [e]; exact two (.inr h3)
  · have e : (m == 3) = false := by simp [h3]
    rw [e]
    exact Ev.step (fun k => by rw [withholding_Valid.j0]) (ev_neg (by decide) (ev_some (bad (fun hh => by have := hh.m0; have := hh.m1; omega))))
end
end Go.Proofs.Ytbacfajhgmnjpaa.WhA
