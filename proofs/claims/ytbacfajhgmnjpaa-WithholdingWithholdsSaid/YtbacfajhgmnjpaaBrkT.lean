/- Plain lemmas for the laws of this seat: what its functions answer; no condition beyond those that each lemma states. -/
import Derived.Test.YtbacfajhgmnjpaaBrkA
import Derived.Test.YtbacfajhgmnjpaaFbracketTax
namespace Go.Proofs.Ytbacfajhgmnjpaa.BrkT
open Go.RowKit Go.Proofs.YtbacfajhgmnjpaaW.PrintWords Go.Proofs.Ytbacfajhgmnjpaa.P Go.Proofs.Ytbacfajhgmnjpaa.K Go.Proofs.Ytbacfajhgmnjpaa.BrkA
/-! bracket.Tax, of the program and of the reference: one rounding. -/
/-- Is it rounded up? q and r: quotient and rest. -/
def upP (m q r step : Int) : Prop := ((m = 1 ∨ m = 3) ∧ r > 0) ∨ (m = 4 ∧ 2 * r ≥ step) ∨ (m = 5 ∧ 2 * r > step) ∨ (m = 6 ∧ (2 * r > step ∨ (2 * r = step ∧ q % 2 = 1)))
instance (m q r step : Int) : Decidable (upP m q r step) := by unfold upP; infer_instance
def rnd (n u m : Int) : Int := (if upP m (n / (u * 1000000)) (n % (u * 1000000)) (u * 1000000) then n / (u * 1000000) + 1 else n / (u * 1000000)) * u
section
variable {n u : Int} (n0 : 0 ≤ n) (n1 : n ≤ 1000000000000000000) (u0 : 1 ≤ u) (u1 : u ≤ 1000000)
include n0 n1 u0 u1
theorem facts : 0 ≤ n / (u * 1000000) ∧ n / (u * 1000000) ≤ 1000000000000 ∧ 0 ≤ n % (u * 1000000) ∧ n % (u * 1000000) < u * 1000000 ∧ 0 ≤ n / (u * 1000000) * u ∧ n / (u * 1000000) * u ≤ 1000000000000 ∧ n = n / (u * 1000000) * u * 1000000 + n % (u * 1000000) := by
  have h1 := Int.mul_ediv_add_emod n (u * 1000000)
  have h2 := Int.emod_nonneg n (show u * 1000000 ≠ 0 by omega)
  have h3 := Int.emod_lt_of_pos n (show 0 < u * 1000000 by omega)
  have h4 := Int.ediv_nonneg n0 (show 0 ≤ u * 1000000 by omega)
  have h5 := Int.mul_nonneg h4 (show 0 ≤ u by omega)
  have h6 : u * 1000000 * (n / (u * 1000000)) = n / (u * 1000000) * u * 1000000 := by
    rw [Int.mul_comm (u * 1000000), Int.mul_assoc]
  have h7 := Int.mul_le_mul_of_nonneg_left u0 h4
  omega
end
section
variable {q r u m step : Int} (q0 : 0 ≤ q) (q1 : q ≤ 1000000000000) (p0 : 0 ≤ q * u) (p1 : q * u ≤ 1000000000000) (u0 : 1 ≤ u) (u1 : u ≤ 1000000) (r0 : 0 ≤ r) (r1 : r < step) (s1 : step ≤ 1000000000000)
include q0 q1 p0 p1 u0 u1 r0 r1 s1
omit r0 r1 s1 in
theorem w_up : wrap64 (wrap64 (q + 1) * u) = (q + 1) * u := by
  rw [w64 (x := q + 1) (by omega) (by omega), Int.add_mul]
  exact w64 (by omega) (by omega)
theorem tax_mode (hm : 0 ≤ m ∧ m ≤ 6) (b : Bool) (hb : b = true ↔ (m = 0 ∨ m = 2)) :
    Ev (fun k => bracket_Tax.j1 k u step q r false m b) ((if upP m q r step then q + 1 else q) * u, 0) := by
  have wu := w_up q0 q1 p0 p1 u0 u1
  have wq : wrap64 (q * u) = q * u := w64 (by omega) (by omega)
  have w2 : wrap64 (2 * r) = 2 * r := w64 (by omega) (by omega)
  have tm : Int.tmod q 2 = q % 2 := tmod_pos q0
  refine Ev.step (fun k => by rw [bracket_Tax.j1]) ?_
  simp only [wu, wq]
  by_cases hbt : b = true
  · have h02 := hb.1 hbt
    refine ev_pos hbt (ev_neg (by decide) (ev_some ?_))
    rw [if_neg (by unfold upP; omega)]
  refine ev_neg hbt ?_
  have h02 : ¬ (m = 0 ∨ m = 2) := fun h => hbt (hb.2 h)
  have key : ∀ c : Bool, (c = true ↔ (m = 1 ∨ m = 3)) → Ev (fun k => bracket_Tax.j2 k u step q r m c) ((if upP m q r step then q + 1 else q) * u, 0) := by
    intro c hc
    refine Ev.step (fun k => by rw [bracket_Tax.j2]) ?_
    simp only [wu, wq, w2, tm]
    by_cases hct : c = true
    · have h13 := hc.1 hct
      refine ev_pos hct ?_
      by_cases hr : r > 0
      · refine ev_pos hr (ev_some ?_)
        rw [if_pos (by unfold upP; omega)]
      · refine ev_neg hr (ev_some ?_)
        rw [if_neg (by unfold upP; omega)]
    refine ev_neg hct ?_
    have h13 : ¬ (m = 1 ∨ m = 3) := fun h => hct (hc.2 h)
    by_cases h4 : m = 4
    · refine ev_pos h4 ?_
      by_cases hr : 2 * r ≥ step
      · refine ev_pos hr (ev_some ?_)
        rw [if_pos (by unfold upP; omega)]
      · refine ev_neg hr (ev_some ?_)
        rw [if_neg (by unfold upP; omega)]
    refine ev_neg h4 ?_
    by_cases h5 : m = 5
    · refine ev_pos h5 ?_
      by_cases hr : 2 * r > step
      · refine ev_pos hr (ev_some ?_)
        rw [if_pos (by unfold upP; omega)]
      · refine ev_neg hr (ev_some ?_)
        rw [if_neg (by unfold upP; omega)]
    refine ev_neg h5 (ev_pos (by omega) ?_)
    by_cases hr : 2 * r > step
    · refine ev_pos hr (ev_some ?_)
      rw [if_pos (by unfold upP; omega)]
    refine ev_neg hr ?_
    by_cases he : 2 * r = step
    · refine ev_pos he ?_
      by_cases ho : q % 2 = 1
      · refine ev_pos ho (ev_some ?_)
        rw [if_pos (by unfold upP; omega)]
      · refine ev_neg ho (ev_some ?_)
        rw [if_neg (by unfold upP; omega)]
    · refine ev_neg he (ev_some ?_)
      rw [if_neg (by unfold upP; omega)]
  by_cases h1 : m = 1
  · exact ev_pos h1 (key _ (by simp [h1]))
  · exact ev_neg h1 (key _ (by simp; omega))
end
/-- What Tax answers. -/
noncomputable def taxr (t : List S58) (x u m : Int) : Int × Int :=
  if chk t x = 0 then (if u < 1 ∨ u > 1000000 ∨ m < 0 ∨ m > 6 then (0, 2) else (rnd (exa t x) u m, 0)) else (0, chk t x)
theorem exa_bd {t : List S58} {x : Int} (h : VB t) (h0 : 0 ≤ x) (h1 : x ≤ 1000000000000) : 0 ≤ exa t x ∧ exa t x ≤ 1000000000000000000 := by
  have a := Brk.exact_nonneg h.ok x
  have b := Brk.exact_le h.ok h0
  exact ⟨a, by show Brk.exact _ _ _ _ ≤ _; omega⟩
theorem tax_ev (t : List S58) (x u m : Int) : Ev (fun k => bracket_Tax.f k t x u m) (taxr t x u m) := by
  unfold bracket_Tax.f taxr
  refine Ev.bind (exact_ev t x) ?_
  unfold exr
  by_cases h : chk t x = 0
  · obtain ⟨hv, h0, h1⟩ := chk_zero h
    obtain ⟨b0, b1⟩ := exa_bd hv h0 h1
    simp only [if_pos h]
    refine ev_pos trivial ?_
    by_cases a1 : u < 1
    · rw [if_pos (by omega)]
      exact ev_pos a1 (Ev.step (fun k => by rw [bracket_Tax.j0]) (ev_pos rfl (ev_some rfl)))
    refine ev_neg a1 (Ev.step (fun k => by rw [bracket_Tax.j0]) ?_)
    by_cases a2 : u > 1000000
    · rw [if_pos (by omega)]
      exact ev_pos (by simpa using a2) (ev_some rfl)
    refine ev_neg (by simpa using a2) ?_
    obtain ⟨g1, g2, g3, g4, g5, g6, g7⟩ := facts b0 b1 (u := u) (by omega) (by omega)
    have e1 : wrap64 (u * 1000000) = u * 1000000 := w64 (by omega) (by omega)
    have e2 : wrap64 (Int.tdiv (exa t x) (u * 1000000)) = exa t x / (u * 1000000) := by rw [tdiv_pos b0]; exact w64 (by omega) (by omega)
    have e3 : Int.tmod (exa t x) (u * 1000000) = exa t x % (u * 1000000) := tmod_pos b0
    simp only [e1, e2, e3]
    refine ev_neg (by omega) ?_
    by_cases a3 : m < 0 ∨ m > 6
    · rw [if_pos (by omega)]
      have z : Ev (fun k => bracket_Tax.j1 k u (u * 1000000) (exa t x / (u * 1000000)) (exa t x % (u * 1000000)) false m (m == 2)) ((0 : Int), (2 : Int)) := by
        refine Ev.step (fun k => by rw [bracket_Tax.j1]) ?_
        refine ev_neg (by simp; omega) (ev_neg (by omega) (Ev.step (fun k => by rw [bracket_Tax.j2]) ?_))
        exact ev_neg (by simp; omega) (ev_neg (by omega) (ev_neg (by omega) (ev_neg (by omega) (ev_some rfl))))
      exact ev_neg (by omega) z
    · rw [if_neg (by omega)]
      unfold rnd
      by_cases a4 : m = 0
      · exact ev_pos a4 (tax_mode g1 g2 g5 g6 (by omega) (by omega) g3 g4 (by omega) (by omega) _ (by simp [a4]))
      · exact ev_neg a4 (tax_mode g1 g2 g5 g6 (by omega) (by omega) g3 g4 (by omega) (by omega) _ (by simp; omega))
  · simp only [if_neg h]
    exact ev_some rfl
end Go.Proofs.Ytbacfajhgmnjpaa.BrkT
