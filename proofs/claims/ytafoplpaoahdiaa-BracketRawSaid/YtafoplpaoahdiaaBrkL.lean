/- Plain lemmas for the laws of this seat: what its functions answer; no condition beyond those that each lemma states. -/
import Derived.Test.YtafoplpaoahdiaaBrkT
import Derived.Test.YtafoplpaoahdiaaFbracketLeast
import Derived.Test.YtafoplpaoahdiaaFpayrollref29Least
namespace Go.Proofs.Ytafoplpaoahdiaa.BrkL
open Go.RowKit Go.Proofs.YtafoplpaoahdiaaW.PrintWords Go.Proofs.Ytafoplpaoahdiaa.P Go.Proofs.Ytafoplpaoahdiaa.K Go.Proofs.Ytafoplpaoahdiaa.BrkA
/-! bracket.Least, of the program (by brackets) and of the reference (by halving): the least income with the exact tax. -/
/-- The exact tax at the beginning of bracket i. -/
def S (t : List S30) : Nat → Int
  | 0 => 0
  | i + 1 => S t i + R t i * (F t (i + 1) - F t i)
section
variable {t : List S30} (hv : VB t)
include hv
theorem sum_low (x : Int) : ∀ j, j < t.length → F t j ≤ x → Brk.sum (fun i => R t i * Brk.part (F t) t.length x i) j = S t j
  | 0, _, _ => rfl
  | j + 1, hj, hx => by
    have h1 := hv.ok.asc j hj
    simp only [Brk.sum, S]
    rw [sum_low x j (by omega) (by omega)]
    have : Brk.part (F t) t.length x j = F t (j + 1) - F t j := by
      unfold Brk.part; rw [if_pos hj]; omega
    rw [this]
theorem sum_high (x : Int) (i : Nat) (d : Nat) : ∀ j, j + d = t.length → i < j → (i + 1 < t.length → x ≤ F t (i + 1)) →
    Brk.sum (fun i => R t i * Brk.part (F t) t.length x i) t.length = Brk.sum (fun i => R t i * Brk.part (F t) t.length x i) j := by
  induction d with
  | zero => intro j hj _ _; obtain rfl : j = t.length := by omega
            rfl
  | succ d ih =>
    intro j hj hij hx
    rw [ih (j + 1) (by omega) (by omega) hx]
    simp only [Brk.sum]
    have h1 := hv.ok.mono (i + 1) j (by omega) (by omega)
    have hx := hx (by omega)
    have : Brk.part (F t) t.length x j = 0 := by
      unfold Brk.part
      split
      · have := hv.ok.asc j (by omega); omega
      · omega
    rw [this]; omega
/-- Inside bracket i. -/
theorem exa_in (x : Int) (i : Nat) (hi : i < t.length) (h0 : F t i ≤ x) (h1 : i + 1 < t.length → x ≤ F t (i + 1)) : exa t x = S t i + R t i * (x - F t i) := by
  show Brk.sum _ _ = _
  rw [sum_high hv x i (t.length - (i + 1)) (i + 1) (by omega) (by omega) h1]
  simp only [Brk.sum]
  rw [sum_low hv x i hi h0]
  have : Brk.part (F t) t.length x i = x - F t i := by
    unfold Brk.part
    split
    · have := h1 (by omega); omega
    · omega
  rw [this]
theorem s_exa (i : Nat) (hi : i < t.length) : exa t (F t i) = S t i := by
  rw [exa_in hv (F t i) i hi (Int.le_refl _) (fun h => hv.ok.asc i h)]
  simp
end
def LeastIs (t : List S30) (tax : Int) (n : Int) (ok : Bool) : Prop :=
  (ok = true → 0 ≤ n ∧ n ≤ 1000000000000 ∧ tax ≤ exa t n ∧ (0 < n → exa t (n - 1) < tax)) ∧ (ok = false → n = 0 ∧ exa t 1000000000000 < tax)
theorem LeastIs.uniq {t : List S30} (hv : VB t) {tax n m : Int} {a b : Bool} (h : LeastIs t tax n a) (h' : LeastIs t tax m b) : n = m ∧ a = b := by
  have top : ∀ n, 0 ≤ n → n ≤ 1000000000000 → exa t n ≤ exa t 1000000000000 := fun n h0 h1 => (Brk.exact_grows hv.ok h0 h1).1
  have less : ∀ n m, LeastIs t tax n true → LeastIs t tax m true → ¬ n < m := by
    intro n m h h' hlt
    obtain ⟨a0, a1, a2, a3⟩ := h.1 rfl
    obtain ⟨b0, b1, b2, b3⟩ := h'.1 rfl
    have := b3 (by omega)
    have := (Brk.exact_grows hv.ok a0 (show n ≤ m - 1 by omega)).1
    have e : Brk.exact (F t) (R t) t.length n = exa t n := rfl
    have e' : Brk.exact (F t) (R t) t.length (m - 1) = exa t (m - 1) := rfl
    omega
  cases a with
  | true =>
    cases b with
    | true => exact ⟨by have := less n m h h'; have := less m n h' h; omega, rfl⟩
    | false =>
      obtain ⟨a0, a1, a2, a3⟩ := h.1 rfl
      obtain ⟨b0, b1⟩ := h'.2 rfl
      have := top n a0 a1
      omega
  | false =>
    cases b with
    | true =>
      obtain ⟨a0, a1, a2, a3⟩ := h'.1 rfl
      obtain ⟨b0, b1⟩ := h.2 rfl
      have := top m a0 a1
      omega
    | false => exact ⟨by rw [(h.2 rfl).1, (h'.2 rfl).1], rfl⟩
section
variable {t : List S30} (hv : VB t) {tax : Int}
include hv
/-- A bracket in which the tax is reached. -/
theorem hit (_ht : 0 < tax) (_ht1 : tax ≤ 9223372036854775807) (i : Nat) (hi : i < t.length) (hs : S t i < tax) (e : Int) (he : F t i ≤ e) (he0 : e ≤ 1000000000000) (he1 : i + 1 < t.length → e = F t (i + 1)) (hh : tax ≤ S t i + R t i * (e - F t i)) :
    R t i ≠ 0 ∧ 0 ≤ tax - S t i - 1 ∧ F t i + (tax - S t i - 1) / R t i + 1 ≤ e ∧ 0 ≤ (tax - S t i - 1) / R t i ∧ LeastIs t tax (F t i + (tax - S t i - 1) / R t i + 1) true := by
  have r0 := hv.ok.r0 i hi
  have f0 := hv.ok.fpos i hi
  have rn : R t i ≠ 0 := by
    intro h; rw [h] at hh; omega
  obtain ⟨q, hq⟩ : ∃ q, q = (tax - S t i - 1) / R t i := ⟨_, rfl⟩
  have q0 : 0 ≤ q := by rw [hq]; exact Int.ediv_nonneg (by omega) r0
  have d1 := Int.mul_ediv_add_emod (tax - S t i - 1) (R t i)
  have d2 := Int.emod_nonneg (tax - S t i - 1) rn
  have d3 := Int.emod_lt_of_pos (tax - S t i - 1) (show 0 < R t i by omega)
  rw [← hq] at d1 ⊢
  have q1 : q < e - F t i := by
    rcases Int.lt_or_le q (e - F t i) with h | h
    · exact h
    · have := Int.mul_le_mul_of_nonneg_left h r0
      omega
  refine ⟨rn, by omega, by omega, q0, fun _ => ⟨by omega, by omega, ?_, fun _ => ?_⟩, fun h => by cases h⟩
  · rw [exa_in hv _ i hi (by omega) (fun h => by have := he1 h; omega)]
    have : F t i + q + 1 - F t i = q + 1 := by omega
    rw [this, Int.mul_add]
    omega
  · rw [exa_in hv _ i hi (by omega) (fun h => by have := he1 h; omega)]
    have : F t i + q + 1 - 1 - F t i = q := by omega
    rw [this]
    omega
theorem least_loop (ht : 0 < tax) (ht1 : tax ≤ 9223372036854775807) (d : Nat) : ∀ i, i + d = t.length → S t i < tax ∨ i = t.length → (i = t.length → exa t 1000000000000 < tax) →
    ∃ n ok, Ev (fun k => bracket_Least.l0 k t tax (if i < t.length then S t i else exa t 1000000000000) t (t.length : Int) (i : Int)) (n, ok) ∧ LeastIs t tax n ok := by
  have hl := hv.2.1
  induction d with
  | zero =>
    intro i hi _ hx
    refine ⟨0, false, Ev.step (fun k => by rw [bracket_Least.l0]) (ev_neg (by omega) (ev_some rfl)), fun h => (by cases h), fun _ => ⟨rfl, hx (by omega)⟩⟩
  | succ d ih =>
    intro i hi hs _
    have hs : S t i < tax := by omega
    rw [if_pos (by omega)]
    have e1 : wrap64 ((i : Int) + 1) = ((i + 1 : Nat) : Int) := w64n (by omega) (by omega)
    have f0 := hv.ok.fpos i (by omega)
    have f1 := hv.ok.ftop i (by omega)
    have r0 := hv.ok.r0 i (by omega)
    have r1 := hv.ok.r1 i (by omega)
    have s0 := Brk.exact_nonneg hv.ok (F t i)
    have s1 := Brk.exact_le hv.ok f0
    have s2 : Brk.exact (F t) (R t) t.length (F t i) = S t i := s_exa hv i (by omega)
    rw [s2] at s0 s1
    by_cases hn : i + 1 < t.length
    · have g0 := hv.ok.asc i hn
      have g1 := hv.ok.ftop (i + 1) hn
      have e2 : wrap64 (F t (i + 1) - F t i) = F t (i + 1) - F t i := w64 (by omega) (by omega)
      have p0 := Int.mul_nonneg r0 (show 0 ≤ F t (i + 1) - F t i by omega)
      have p1 := Int.mul_le_mul_of_nonneg_right r1 (show 0 ≤ F t (i + 1) - F t i by omega)
      have e3 : wrap64 (R t i * (F t (i + 1) - F t i)) = R t i * (F t (i + 1) - F t i) := w64 (by omega) (by omega)
      have e4 : wrap64 (S t i + R t i * (F t (i + 1) - F t i)) = S t i + R t i * (F t (i + 1) - F t i) := w64 (by omega) (by omega)
      by_cases hh : S t i + R t i * (F t (i + 1) - F t i) ≥ tax
      · obtain ⟨a1, a2, a3, a4, a5⟩ := hit hv ht ht1 i (by omega) hs (F t (i + 1)) g0 g1 (fun _ => rfl) hh
        refine ⟨_, true, ?_, a5⟩
        refine Ev.step (fun k => by rw [bracket_Least.l0]) ?_
        refine ev_pos (by omega) (ev_pos (by omega) (ev_pos (by omega) ?_))
        simp only [e1, rdF]
        refine ev_pos (by omega) (ev_pos (by omega) ?_)
        show Ev (fun n => if wrap64 (S t i + wrap64 (R t i * wrap64 (F t (i + 1) - F t i))) ≥ tax then (if R t i = 0 then none else some (wrap64 (wrap64 (F t i + wrap64 (Int.tdiv (wrap64 (wrap64 (tax - S t i) - 1)) (R t i))) + 1), true)) else _) _
        have c1 : wrap64 (tax - S t i) = tax - S t i := w64 (by omega) (by omega)
        have c2 : wrap64 (tax - S t i - 1) = tax - S t i - 1 := w64 (by omega) (by omega)
        have c3 : wrap64 (Int.tdiv (tax - S t i - 1) (R t i)) = (tax - S t i - 1) / R t i := by rw [tdiv_pos a2]; exact w64 (by omega) (by omega)
        have c4 : wrap64 (F t i + (tax - S t i - 1) / R t i) = F t i + (tax - S t i - 1) / R t i := w64 (by omega) (by omega)
        have c5 : wrap64 (F t i + (tax - S t i - 1) / R t i + 1) = F t i + (tax - S t i - 1) / R t i + 1 := w64 (by omega) (by omega)
        rw [e2, e3, e4, c1, c2, c3, c4, c5]
        exact ev_pos hh (ev_neg a1 (ev_some rfl))
      · obtain ⟨n, ok, he, hx⟩ := ih (i + 1) (by omega) (.inl (by simp only [S]; omega)) (fun h => by omega)
        rw [if_pos hn] at he
        simp only [S] at he
        refine ⟨n, ok, ?_, hx⟩
        refine Ev.step (fun k => by rw [bracket_Least.l0]) ?_
        refine ev_pos (by omega) (ev_pos (by omega) (ev_pos (by omega) ?_))
        simp only [e1, rdF]
        refine ev_pos (by omega) (ev_pos (by omega) ?_)
        show Ev (fun n => if wrap64 (S t i + wrap64 (R t i * wrap64 (F t (i + 1) - F t i))) ≥ tax then _ else bracket_Least.l0 n t tax (wrap64 (S t i + wrap64 (R t i * wrap64 (F t (i + 1) - F t i)))) t (t.length : Int) ((i + 1 : Nat) : Int)) _
        rw [e2, e3, e4]
        exact ev_neg hh he
    · have e2 : wrap64 (1000000000000 - F t i) = 1000000000000 - F t i := w64 (by omega) (by omega)
      have p0 := Int.mul_nonneg r0 (show 0 ≤ 1000000000000 - F t i by omega)
      have p1 := Int.mul_le_mul_of_nonneg_right r1 (show 0 ≤ 1000000000000 - F t i by omega)
      have e3 : wrap64 (R t i * (1000000000000 - F t i)) = R t i * (1000000000000 - F t i) := w64 (by omega) (by omega)
      have e4 : wrap64 (S t i + R t i * (1000000000000 - F t i)) = S t i + R t i * (1000000000000 - F t i) := w64 (by omega) (by omega)
      by_cases hh : S t i + R t i * (1000000000000 - F t i) ≥ tax
      · obtain ⟨a1, a2, a3, a4, a5⟩ := hit hv ht ht1 i (by omega) hs 1000000000000 f1 (by omega) (fun h => by omega) hh
        refine ⟨_, true, ?_, a5⟩
        refine Ev.step (fun k => by rw [bracket_Least.l0]) ?_
        refine ev_pos (by omega) (ev_pos (by omega) (ev_pos (by omega) ?_))
        simp only [e1, rdF]
        refine ev_neg (by omega) ?_
        show Ev (fun n => if wrap64 (S t i + wrap64 (R t i * wrap64 (1000000000000 - F t i))) ≥ tax then (if R t i = 0 then none else some (wrap64 (wrap64 (F t i + wrap64 (Int.tdiv (wrap64 (wrap64 (tax - S t i) - 1)) (R t i))) + 1), true)) else _) _
        have c1 : wrap64 (tax - S t i) = tax - S t i := w64 (by omega) (by omega)
        have c2 : wrap64 (tax - S t i - 1) = tax - S t i - 1 := w64 (by omega) (by omega)
        have c3 : wrap64 (Int.tdiv (tax - S t i - 1) (R t i)) = (tax - S t i - 1) / R t i := by rw [tdiv_pos a2]; exact w64 (by omega) (by omega)
        have c4 : wrap64 (F t i + (tax - S t i - 1) / R t i) = F t i + (tax - S t i - 1) / R t i := w64 (by omega) (by omega)
        have c5 : wrap64 (F t i + (tax - S t i - 1) / R t i + 1) = F t i + (tax - S t i - 1) / R t i + 1 := w64 (by omega) (by omega)
        rw [e2, e3, e4, c1, c2, c3, c4, c5]
        exact ev_pos hh (ev_neg a1 (ev_some rfl))
      · have ex : exa t 1000000000000 = S t i + R t i * (1000000000000 - F t i) := exa_in hv _ i (by omega) f1 (fun h => by omega)
        obtain ⟨n, ok, he, hx⟩ := ih (i + 1) (by omega) (.inr (by omega)) (fun _ => by omega)
        rw [if_neg hn, ex] at he
        refine ⟨n, ok, ?_, hx⟩
        refine Ev.step (fun k => by rw [bracket_Least.l0]) ?_
        refine ev_pos (by omega) (ev_pos (by omega) (ev_pos (by omega) ?_))
        simp only [e1, rdF]
        refine ev_neg (by omega) ?_
        show Ev (fun n => if wrap64 (S t i + wrap64 (R t i * wrap64 (1000000000000 - F t i))) ≥ tax then _ else bracket_Least.l0 n t tax (wrap64 (S t i + wrap64 (R t i * wrap64 (1000000000000 - F t i)))) t (t.length : Int) ((i + 1 : Nat) : Int)) _
        rw [e2, e3, e4]
        exact ev_neg hh he
theorem least_ev (ht1 : tax ≤ 9223372036854775807) : ∃ n ok, Ev (fun k => bracket_Least.f k t tax) (n, ok) ∧ LeastIs t tax n ok := by
  have hne := hv.1
  by_cases h : tax ≤ 0
  · refine ⟨0, true, ?_, fun _ => ⟨by omega, by omega, ?_, fun h => by omega⟩, fun h => by cases h⟩
    · unfold bracket_Least.f
      exact Ev.bind (valid_ev t) (ev_pos (vb_true.2 hv) (ev_pos h (ev_some rfl)))
    · have := Brk.exact_nonneg hv.ok 0
      have e : Brk.exact (F t) (R t) t.length 0 = exa t 0 := rfl
      omega
  · obtain ⟨n, ok, he, hx⟩ := least_loop hv (tax := tax) (by omega) ht1 t.length 0 (by omega) (.inl (by simp only [S]; omega)) (fun h => by omega)
    rw [if_pos (by omega)] at he
    refine ⟨n, ok, ?_, hx⟩
    unfold bracket_Least.f
    exact Ev.bind (valid_ev t) (ev_pos (vb_true.2 hv) (ev_neg h he))
theorem ref_least_loop (d : Nat) : ∀ lo hi : Int, -1 ≤ lo → lo < hi → hi ≤ 1000000000000 → hi - lo ≤ d + 1 → tax ≤ exa t hi → (0 ≤ lo → exa t lo < tax) →
    ∃ n, Ev (fun k => payrollref29_Least.l0 k t tax lo hi) (n, true) ∧ LeastIs t tax n true := by
  induction d with
  | zero =>
    intro lo hi h0 h1 h2 h3 h4 h5
    have e1 : wrap64 (hi - lo) = hi - lo := w64 (by omega) (by omega)
    refine ⟨hi, Ev.step (fun k => by rw [payrollref29_Least.l0]) (ev_neg (by rw [e1]; omega) (ev_some rfl)), fun _ => ⟨by omega, h2, h4, fun h => ?_⟩, fun h => by cases h⟩
    obtain rfl : lo = hi - 1 := by omega
    exact h5 (by omega)
  | succ d ih =>
    intro lo hi h0 h1 h2 h3 h4 h5
    by_cases hs : hi - lo > 1
    · have e1 : wrap64 (hi - lo) = hi - lo := w64 (by omega) (by omega)
      have e2 : wrap64 (lo + hi) = lo + hi := w64 (by omega) (by omega)
      have e3 : wrap64 (Int.tdiv (lo + hi) 2) = (lo + hi) / 2 := by rw [tdiv_pos (by omega)]; exact w64 (by omega) (by omega)
      have hmid : exr t ((lo + hi) / 2) = (exa t ((lo + hi) / 2), 0) := exr_ok hv (by omega) (by omega)
      by_cases hc : exa t ((lo + hi) / 2) ≥ tax
      · obtain ⟨n, he, hx⟩ := ih lo ((lo + hi) / 2) h0 (by omega) (by omega) (by omega) hc h5
        refine ⟨n, Ev.step (fun k => by rw [payrollref29_Least.l0]) ?_, hx⟩
        simp only [e1, e2, e3]
        refine ev_pos hs (Ev.bind (ref_exact_ev t _) ?_)
        rw [hmid]
        exact ev_pos hc he
      · obtain ⟨n, he, hx⟩ := ih ((lo + hi) / 2) hi (by omega) (by omega) h2 (by omega) h4 (fun _ => by omega)
        refine ⟨n, Ev.step (fun k => by rw [payrollref29_Least.l0]) ?_, hx⟩
        simp only [e1, e2, e3]
        refine ev_pos hs (Ev.bind (ref_exact_ev t _) ?_)
        rw [hmid]
        exact ev_neg hc he
    · have e1 : wrap64 (hi - lo) = hi - lo := w64 (by omega) (by omega)
      refine ⟨hi, Ev.step (fun k => by rw [payrollref29_Least.l0]) (ev_neg (by rw [e1]; omega) (ev_some rfl)), fun _ => ⟨by omega, h2, h4, fun h => ?_⟩, fun h => by cases h⟩
      obtain rfl : lo = hi - 1 := by omega
      exact h5 (by omega)
theorem ref_least_ev : ∃ n ok, Ev (fun k => payrollref29_Least.f k t tax) (n, ok) ∧ LeastIs t tax n ok := by
  have htop : exr t 1000000000000 = (exa t 1000000000000, 0) := exr_ok hv (by omega) (by omega)
  by_cases h : exa t 1000000000000 < tax
  · refine ⟨0, false, ?_, fun h => (by cases h), fun _ => ⟨rfl, h⟩⟩
    unfold payrollref29_Least.f
    refine Ev.bind (ref_valid_ev t) (ev_pos (vb_true.2 hv) (Ev.bind (ref_exact_ev t _) ?_))
    rw [htop]
    exact ev_pos h (ev_some rfl)
  · obtain ⟨n, he, hx⟩ := ref_least_loop hv (tax := tax) 1000000000001 (-1) 1000000000000 (by omega) (by omega) (by omega) (by omega) (by omega) (fun h => by omega)
    refine ⟨n, true, ?_, hx⟩
    unfold payrollref29_Least.f
    refine Ev.bind (ref_valid_ev t) (ev_pos (vb_true.2 hv) (Ev.bind (ref_exact_ev t _) ?_))
    rw [htop]
    exact ev_neg h he
end
theorem least_bad {t : List S30} (hv : ¬ VB t) (tax : Int) : Ev (fun k => bracket_Least.f k t tax) (0, false) ∧ Ev (fun k => payrollref29_Least.f k t tax) (0, false) := by
  have h := vb_false.2 hv
  constructor
  · unfold bracket_Least.f
    exact Ev.bind (valid_ev t) (ev_neg (by rw [h]; decide) (ev_some rfl))
  · unfold payrollref29_Least.f
    exact Ev.bind (ref_valid_ev t) (ev_neg (by rw [h]; decide) (ev_some rfl))
end Go.Proofs.Ytafoplpaoahdiaa.BrkL
