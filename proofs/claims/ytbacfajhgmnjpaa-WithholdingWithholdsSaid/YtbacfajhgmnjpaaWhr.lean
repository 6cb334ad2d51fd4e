/- Proved here: the plain facts of several small texts of this seat, one behind the other; no condition of its own. -/
import Derived.Test.YtbacfajhgmnjpaaBrkA
import Derived.Test.YtbacfajhgmnjpaaFref
import Derived.Test.YtbacfajhgmnjpaaBrkS
import Derived.Test.YtbacfajhgmnjpaaFpayrollref29Scale
import Derived.Test.YtbacfajhgmnjpaaBrkT
import Derived.Test.YtbacfajhgmnjpaaWhA
import Derived.Test.YtbacfajhgmnjpaaFpayrollref30Valid
import Derived.Test.YtbacfajhgmnjpaaWhB
import Derived.Test.YtbacfajhgmnjpaaFpayrollref30Cumulative
import Derived.Test.YtbacfajhgmnjpaaFpayrollref30Formula
namespace Go.Proofs.Ytbacfajhgmnjpaa.BrkA
open Go.RowKit Go.Proofs.YtbacfajhgmnjpaaW.PrintWords Go.Proofs.Ytbacfajhgmnjpaa.P Go.Proofs.Ytbacfajhgmnjpaa.K
section
open Classical
theorem ref_valid_loop (t : List S58) (hl : t.length ≤ 24) (d : Nat) : ∀ i, i + d = t.length →
    Ev (fun k => payrollref29_Valid.l0 k t (i : Int)) (decide (∀ j, i ≤ j → j < t.length → okAt t j)) := by
  induction d with
  | zero =>
    intro i hi
    refine Ev.step (fun k => by rw [payrollref29_Valid.l0]) ?_
    refine ev_neg (by omega) (ev_some ?_)
    symm; rw [decide_eq_true_iff]
    intro j h1 h2; omega
  | succ d ih =>
    intro i hi
    have ih := ih (i + 1) (by omega)
    have e1 : wrap64 ((i : Int) + 1) = ((i + 1 : Nat) : Int) := w64n (by omega) (by omega)
    refine Ev.step (fun k => by rw [payrollref29_Valid.l0]) ?_
    refine ev_pos (by omega) ?_
    by_cases h0 : 0 < i
    · have e2 : wrap64 ((i : Int) - 1) = ((i - 1 : Nat) : Int) := w64n (by omega) (by omega)
      simp only [e1, e2, rdF]
      refine ev_pos (by omega) (ev_pos (by omega) (ev_pos (by omega) (ev_pos (by omega) ?_)))
      by_cases hok : okAt t i
      · obtain ⟨a1, a2, a3, a4⟩ := id hok
        have a1 := a1 h0
        refine ev_neg (by show ¬ F t i ≤ F t (i - 1); omega) (ev_neg (by show ¬ F t i > _; omega) (ev_neg (by show ¬ R t i < 0; omega) (ev_neg (by show ¬ R t i > _; omega) (ev_to ih ?_))))
        rw [decide_eq_decide]
        constructor
        · intro h j h1 h2
          rcases Nat.lt_or_ge i j with hlt | hge
          · exact h j hlt h2
          · obtain rfl : j = i := by omega
            exact hok
        · intro h j h1 h2
          exact h j (by omega) h2
      · have hf : decide (∀ j, i ≤ j → j < t.length → okAt t j) = false := by
          rw [decide_eq_false_iff_not]
          intro h
          exact hok (h i (by omega) (by omega))
        rw [hf]
        by_cases b1 : F t i ≤ F t (i - 1)
        · exact ev_pos b1 (ev_some rfl)
        refine ev_neg b1 ?_
        by_cases b2 : F t i > 1000000000000
        · exact ev_pos b2 (ev_some rfl)
        refine ev_neg b2 ?_
        by_cases b3 : R t i < 0
        · exact ev_pos b3 (ev_some rfl)
        refine ev_neg b3 ?_
        by_cases b4 : R t i > 1000000
        · exact ev_pos b4 (ev_some rfl)
        exact absurd ⟨fun _ => by omega, by omega, by omega, by omega⟩ hok
    · simp only [e1, rdF]
      refine ev_neg (by omega) (ev_pos (by omega) ?_)
      by_cases hok : okAt t i
      · obtain ⟨a1, a2, a3, a4⟩ := id hok
        refine ev_neg (by show ¬ F t i > _; omega) (ev_neg (by show ¬ R t i < 0; omega) (ev_neg (by show ¬ R t i > _; omega) (ev_to ih ?_)))
        rw [decide_eq_decide]
        constructor
        · intro h j h1 h2
          rcases Nat.lt_or_ge i j with hlt | hge
          · exact h j hlt h2
          · obtain rfl : j = i := by omega
            exact hok
        · intro h j h1 h2
          exact h j (by omega) h2
      · have hf : decide (∀ j, i ≤ j → j < t.length → okAt t j) = false := by
          rw [decide_eq_false_iff_not]
          intro h
          exact hok (h i (by omega) (by omega))
        rw [hf]
        by_cases b2 : F t i > 1000000000000
        · exact ev_pos b2 (ev_some rfl)
        refine ev_neg b2 ?_
        by_cases b3 : R t i < 0
        · exact ev_pos b3 (ev_some rfl)
        refine ev_neg b3 ?_
        by_cases b4 : R t i > 1000000
        · exact ev_pos b4 (ev_some rfl)
        exact absurd ⟨fun h => absurd h h0, by omega, by omega, by omega⟩ hok
end
theorem ref_valid_ev (t : List S58) : Ev (fun k => payrollref29_Valid.f k t) (vb t) := by
  unfold payrollref29_Valid.f
  by_cases h1 : t.length = 0
  · refine ev_pos (by omega) (Ev.step (fun k => by rw [payrollref29_Valid.j0]) (ev_pos rfl (ev_some ?_)))
    rw [vb_false.2]; intro h; exact h.1 h1
  refine ev_neg (by omega) ?_
  by_cases h2 : t.length > 24
  · refine ev_pos (by omega) (Ev.step (fun k => by rw [payrollref29_Valid.j0]) (ev_pos rfl (ev_some ?_)))
    rw [vb_false.2]; intro h; have := h.2.1; omega
  refine ev_neg (by omega) (ev_pos (by omega) ?_)
  refine Ev.step (fun k => by rw [payrollref29_Valid.j0]) ?_
  by_cases h3 : F t 0 = 0
  · have h3' : (rd_T58 t 0).f0 = 0 := h3
    refine ev_neg (by simp [h3']) (ev_to (ref_valid_loop t (by omega) t.length 0 (by omega)) ?_)
    unfold vb
    rw [decide_eq_decide]
    exact all_iff h1 (by omega) h3
  · have h3' : ¬ (rd_T58 t 0).f0 = 0 := h3
    refine ev_pos (by simp [h3']) (ev_some ?_)
    rw [vb_false.2]; intro h; exact h3 h.2.2.1
theorem ref_check_ev (t : List S58) (x : Int) : Ev (fun k => payrollref29_check.f k t x) (chk t x) := by
  unfold payrollref29_check.f
  refine Ev.bind (ref_valid_ev t) ?_
  unfold chk
  by_cases h : vb t = true
  · simp only [if_pos h]
    by_cases h1 : x < 0
    · simp only [if_pos h1]; exact ev_some rfl
    · simp only [if_neg h1]
      by_cases h2 : x > 1000000000000
      · simp only [if_pos h2]; exact ev_some rfl
      · simp only [if_neg h2]; exact ev_some rfl
  · simp only [if_neg h]; exact ev_some rfl
section
variable {t : List S58} (hv : VB t) {x : Int} (h0 : 0 ≤ x) (h1 : x ≤ 1000000000000)
include hv h0 h1
theorem ref_split_loop (d : Nat) : ∀ i, i + d = t.length →
    Ev (fun k => payrollref29_Split.l0 k t x (upto t x i) (i : Int)) (parts t x, 0) := by
  have hl := hv.2.1
  induction d with
  | zero =>
    intro i hi
    obtain rfl : i = t.length := by omega
    refine Ev.step (fun k => by rw [payrollref29_Split.l0]) ?_
    refine ev_neg (by omega) (ev_some ?_)
    rw [upto_all]
  | succ d ih =>
    intro i hi
    have ih := ih (i + 1) (by omega)
    have hfp := hv.ok.fpos i (by omega)
    have hft := hv.ok.ftop i (by omega)
    have e1 : wrap64 ((i : Int) + 1) = ((i + 1 : Nat) : Int) := w64n (by omega) (by omega)
    have hul := upto_length t x i (by omega)
    refine Ev.step (fun k => by rw [payrollref29_Split.l0]) ?_
    refine ev_pos (by omega) ?_
    simp only [e1, rdF, mx_eq, mn_eq, Int.toNat_natCast]
    by_cases hn : i + 1 < t.length
    · have hfp' := hv.ok.fpos (i + 1) hn
      have hft' := hv.ok.ftop (i + 1) hn
      refine ev_pos (by omega) (ev_pos (by omega) (ev_pos (by omega) (ev_pos (by omega) ?_)))
      have e3 : wrap64 (min x (F t (i + 1)) - F t i) = min x (F t (i + 1)) - F t i := w64 (by omega) (by omega)
      have e4 : max (min x (F t (i + 1)) - F t i) 0 = Brk.part (F t) t.length x i := by unfold Brk.part; rw [if_pos hn]
      rw [e3, e4, upto_set t x i (by omega)]
      exact ih
    · refine ev_neg (by omega) (ev_pos (by omega) (ev_pos (by omega) ?_))
      have e3 : wrap64 (x - F t i) = x - F t i := w64 (by omega) (by omega)
      have e4 : max (x - F t i) 0 = Brk.part (F t) t.length x i := by unfold Brk.part; rw [if_neg hn]
      rw [e3, e4, upto_set t x i (by omega)]
      exact ih
end
theorem ref_split_ev (t : List S58) (x : Int) : Ev (fun k => payrollref29_Split.f k t x) (spl t x) := by
  unfold payrollref29_Split.f spl
  refine Ev.bind (ref_check_ev t x) ?_
  by_cases h : chk t x = 0
  · obtain ⟨hv, h0, h1⟩ := chk_zero h
    have hl := hv.2.1
    rw [if_pos h]
    refine ev_pos h (ev_pos (by omega) (ev_pos (by omega) ?_))
    have e : List.replicate (t.length : Int).toNat (0 : Int) = upto t x 0 := by rw [upto_zero]; rfl
    rw [e]
    exact ref_split_loop hv h0 h1 t.length 0 (by omega)
  · rw [if_neg h]
    exact ev_neg h (ev_some rfl)
section
variable {t : List S58} (hv : VB t) {x : Int} (h0 : 0 ≤ x) (h1 : x ≤ 1000000000000)
include hv h0 h1
theorem ref_exact_loop (d : Nat) : ∀ i, i + d = t.length →
    Ev (fun k => payrollref29_Exact.l0 k t (parts t x) (Brk.sum (fun i => R t i * Brk.part (F t) t.length x i) i) (i : Int)) (exa t x, 0) := by
  have hl := hv.2.1
  have hpl := parts_length t x
  induction d with
  | zero =>
    intro i hi
    obtain rfl : i = t.length := by omega
    refine Ev.step (fun k => by rw [payrollref29_Exact.l0]) ?_
    exact ev_neg (by omega) (ev_some rfl)
  | succ d ih =>
    intro i hi
    have ih := ih (i + 1) (by omega)
    have e1 : wrap64 ((i : Int) + 1) = ((i + 1 : Nat) : Int) := w64n (by omega) (by omega)
    have hb := term_bd hv h0 h1 i (by omega)
    have hs0 := Brk.partial_nonneg hv.ok x (i + 1) (by omega)
    have hs1 := Brk.partial_le hv.ok h0 (i + 1) (by omega)
    simp only [Brk.sum] at hs0 hs1 ih
    refine Ev.step (fun k => by rw [payrollref29_Exact.l0]) ?_
    refine ev_pos (by omega) (ev_pos (by omega) (ev_pos (by omega) ?_))
    simp only [e1, rdF, rd_nat]
    rw [parts_get t x i (by omega)]
    have e2 : wrap64 (Brk.part (F t) t.length x i * (t.getD i z58).f1) = R t i * Brk.part (F t) t.length x i := by
      rw [Int.mul_comm]; exact w64 (by show _ ≤ R t i * _; omega) (by show R t i * _ ≤ _; omega)
    rw [e2, w64 (by omega) (by omega)]
    exact ih
end
theorem ref_exact_ev (t : List S58) (x : Int) : Ev (fun k => payrollref29_Exact.f k t x) (exr t x) := by
  unfold payrollref29_Exact.f
  refine Ev.bind (ref_split_ev t x) ?_
  unfold spl exr
  by_cases h : chk t x = 0
  · obtain ⟨hv, h0, h1⟩ := chk_zero h
    simp only [if_pos h]
    refine ev_pos trivial ?_
    exact ref_exact_loop hv h0 h1 t.length 0 (by omega)
  · simp only [if_neg h]
    exact ev_some rfl
end Go.Proofs.Ytbacfajhgmnjpaa.BrkA

namespace Go.Proofs.Ytbacfajhgmnjpaa.BrkS
open Go.RowKit Go.Proofs.YtbacfajhgmnjpaaW.PrintWords Go.Proofs.Ytbacfajhgmnjpaa.P Go.Proofs.Ytbacfajhgmnjpaa.K Go.Proofs.Ytbacfajhgmnjpaa.BrkA Go.Proofs.Ytbacfajhgmnjpaa.BrkG
section
variable {t : List S58} (hv : VB t) {num den : Int} (h0 : 0 ≤ num) (h1 : num ≤ den) (h2 : 1 ≤ den) (h3 : den ≤ 53)
include hv h0 h1 h2 h3
theorem ref_loop (d : Nat) : ∀ i, i + d = t.length → Ev (fun k => payrollref29_Scale.l0 k t num den (acc t num den i) (i : Int)) (acc t num den t.length, 0) := by
  have hl := hv.2.1
  induction d with
  | zero =>
    intro i hi
    obtain rfl : i = t.length := by omega
    refine Ev.step (fun k => by rw [payrollref29_Scale.l0]) ?_
    exact ev_neg (by omega) (ev_some rfl)
  | succ d ih =>
    intro i hi
    have ih := ih (i + 1) (by omega)
    have hal := acc_len t num den i
    have b0 := g_bd hv h0 h1 h2 h3 i (by omega)
    have e1 : wrap64 ((i : Int) + 1) = ((i + 1 : Nat) : Int) := w64n (by omega) (by omega)
    have e2 : wrap64 (F t i * num) = F t i * num := w64 (by omega) (by omega)
    have e3 : wrap64 (Int.tdiv (F t i * num) den) = G t num den i := by rw [tdiv_pos b0.1]; exact w64 (x := G t num den _) (by omega) (by omega)
    refine Ev.step (fun k => by rw [payrollref29_Scale.l0]) ?_
    refine ev_pos (by omega) (ev_pos (by omega) (ev_neg (by omega) ?_))
    simp only [e1, rdF, e2, e3]
    by_cases hn : i + 1 < t.length
    · have b1 := g_bd hv h0 h1 h2 h3 (i + 1) hn
      have f2 : wrap64 (F t (i + 1) * num) = F t (i + 1) * num := w64 (by omega) (by omega)
      have f3 : wrap64 (Int.tdiv (F t (i + 1) * num) den) = G t num den (i + 1) := by rw [tdiv_pos b1.1]; exact w64 (x := G t num den _) (by omega) (by omega)
      simp only [f2, f3]
      refine ev_pos (by omega) (ev_pos (by omega) ?_)
      by_cases hg : G t num den (i + 1) = G t num den i
      · have ea : acc t num den (i + 1) = acc t num den i := by rw [acc, if_pos ⟨hn, hg⟩]
        rw [ea] at ih
        exact ev_pos hg ih
      · have ea : acc t num den (i + 1) = acc t num den i ++ [⟨G t num den i, R t i⟩] := by rw [acc, if_neg (fun h => hg h.2)]
        rw [ea] at ih
        exact ev_neg hg (ev_pos (by omega) ih)
    · have ea : acc t num den (i + 1) = acc t num den i ++ [⟨G t num den i, R t i⟩] := by rw [acc, if_neg (fun h => hn h.1)]
      rw [ea] at ih
      exact ev_neg (by omega) (ev_pos (by omega) ih)
end
theorem ref_scale_ev (t : List S58) (num den : Int) : Ev (fun k => payrollref29_Scale.f k t num den) (scr t num den) := by
  unfold payrollref29_Scale.f
  refine Ev.bind (ref_valid_ev t) ?_
  unfold scr
  by_cases h : vb t = true
  · simp only [if_pos h]
    have hv := vb_true.1 h
    by_cases a : den < 1 ∨ den > 53 ∨ num < 0 ∨ num > den
    · rw [if_pos a]
      have z : ∀ b : Bool, b = true → Ev (fun k => payrollref29_Scale.j0 k t num den b) (([] : List S58), 2) := by
        intro b hb
        exact Ev.step (fun k => by rw [payrollref29_Scale.j0]) (ev_pos hb (ev_some rfl))
      by_cases a1 : den < 1
      · exact ev_pos a1 (z _ rfl)
      refine ev_neg a1 ?_
      by_cases a2 : den > 53
      · exact ev_pos a2 (z _ rfl)
      refine ev_neg a2 ?_
      by_cases a3 : num < 0
      · exact ev_pos a3 (z _ rfl)
      refine ev_neg a3 (z _ ?_)
      simp; omega
    · rw [if_neg a]
      refine ev_neg (by omega) (ev_neg (by omega) (ev_neg (by omega) (Ev.step (fun k => by rw [payrollref29_Scale.j0]) (ev_neg (by simp; omega) ?_))))
      exact ref_loop hv (num := num) (den := den) (by omega) (by omega) (by omega) (by omega) t.length 0 (by omega)
  · simp only [if_neg h]
    exact ev_some rfl
section
variable {t : List S58} (hv : VB t) {num den : Int} (h0 : 0 ≤ num) (h1 : num ≤ den) (h2 : 1 ≤ den) (h3 : den ≤ 53)
include hv h0 h1 h2 h3
omit h0 h1 h2 h3 in
omit hv h0 h1 h2 h3 in
end
end Go.Proofs.Ytbacfajhgmnjpaa.BrkS

namespace Go.Proofs.Ytbacfajhgmnjpaa.BrkT
open Go.RowKit Go.Proofs.YtbacfajhgmnjpaaW.PrintWords Go.Proofs.Ytbacfajhgmnjpaa.P Go.Proofs.Ytbacfajhgmnjpaa.K Go.Proofs.Ytbacfajhgmnjpaa.BrkA
section
variable {n u : Int} (n0 : 0 ≤ n) (n1 : n ≤ 1000000000000000000) (u0 : 1 ≤ u) (u1 : u ≤ 1000000)
include n0 n1 u0 u1
end
section
variable {q r u m step : Int} (q0 : 0 ≤ q) (q1 : q ≤ 1000000000000) (p0 : 0 ≤ q * u) (p1 : q * u ≤ 1000000000000) (u0 : 1 ≤ u) (u1 : u ≤ 1000000) (r0 : 0 ≤ r) (r1 : r < step) (s1 : step ≤ 1000000000000)
include q0 q1 p0 p1 u0 u1 r0 r1 s1
theorem ref_mode (hm : 0 ≤ m ∧ m ≤ 6) (b : Bool) (hb : b = true ↔ (m = 1 ∨ m = 3)) :
    Ev (fun k => payrollref29_round.j0 k u step q r false m b) ((if upP m q r step then q + 1 else q) * u) := by
  have wu := w_up q0 q1 p0 p1 u0 u1
  have wq : wrap64 (q * u) = q * u := w64 (by omega) (by omega)
  have w2 : wrap64 (2 * r) = 2 * r := w64 (by omega) (by omega)
  have tm : Int.tmod q 2 = q % 2 := tmod_pos q0
  refine Ev.step (fun k => by rw [payrollref29_round.j0]) ?_
  simp only [wu, wq, w2, tm]
  by_cases hct : b = true
  · have h13 := hb.1 hct
    refine ev_pos hct ?_
    by_cases hr : r > 0
    · refine ev_pos hr (ev_some ?_)
      rw [if_pos (by unfold upP; omega)]
    · refine ev_neg hr (ev_some ?_)
      rw [if_neg (by unfold upP; omega)]
  refine ev_neg hct ?_
  have h13 : ¬ (m = 1 ∨ m = 3) := fun h => hct (hb.2 h)
  by_cases h4 : m = 4
  · refine ev_pos h4 ?_
    by_cases hr : 2 * r ≥ step
    · refine ev_pos hr (ev_some ?_)
      rw [if_pos (by unfold upP; omega)]
    · refine ev_neg hr (ev_some ?_)
      rw [if_neg (by unfold upP; omega)]
  refine ev_neg h4 ?_
  by_cases h5 : m = 5
  · refine ev_pos h5 ?_
    by_cases hr : 2 * r > step
    · refine ev_pos hr (ev_some ?_)
      rw [if_pos (by unfold upP; omega)]
    · refine ev_neg hr (ev_some ?_)
      rw [if_neg (by unfold upP; omega)]
  refine ev_neg h5 ?_
  by_cases h6 : m = 6
  · refine ev_pos h6 ?_
    by_cases hr : 2 * r > step
    · refine ev_pos hr (ev_some ?_)
      rw [if_pos (by unfold upP; omega)]
    refine ev_neg hr ?_
    by_cases he : 2 * r = step
    · refine ev_pos he ?_
      by_cases ho : q % 2 = 1
      · refine ev_pos ho (ev_some ?_)
        rw [if_pos (by unfold upP; omega)]
      · refine ev_neg ho (ev_some ?_)
        rw [if_neg (by unfold upP; omega)]
    · refine ev_neg he (ev_some ?_)
      rw [if_neg (by unfold upP; omega)]
  · refine ev_neg h6 (ev_neg (by decide) (ev_some ?_))
    rw [if_neg (by unfold upP; omega)]
end
theorem ref_tax_ev (t : List S58) (x u m : Int) : Ev (fun k => payrollref29_Tax.f k t x u m) (taxr t x u m) := by
  unfold payrollref29_Tax.f taxr
  refine Ev.bind (ref_exact_ev t x) ?_
  unfold exr
  by_cases h : chk t x = 0
  · obtain ⟨hv, h0, h1⟩ := chk_zero h
    obtain ⟨b0, b1⟩ := exa_bd hv h0 h1
    simp only [if_pos h]
    refine ev_pos trivial ?_
    by_cases a1 : u < 1
    · rw [if_pos (by omega)]
      exact ev_pos a1 (ev_some rfl)
    refine ev_neg a1 ?_
    by_cases a2 : u > 1000000
    · rw [if_pos (by omega)]
      exact ev_pos a2 (ev_some rfl)
    refine ev_neg a2 ?_
    obtain ⟨g1, g2, g3, g4, g5, g6, g7⟩ := facts b0 b1 (u := u) (by omega) (by omega)
    have e1 : wrap64 (1000000 * u) = u * 1000000 := by rw [Int.mul_comm]; exact w64 (by omega) (by omega)
    have e2 : wrap64 (Int.tdiv (exa t x) (u * 1000000)) = exa t x / (u * 1000000) := by rw [tdiv_pos b0]; exact w64 (by omega) (by omega)
    have e3 : Int.tmod (exa t x) (u * 1000000) = exa t x % (u * 1000000) := tmod_pos b0
    have em : payrollref2_Mode.f m = some (decide (0 ≤ m ∧ m ≤ 6)) := by
      unfold payrollref2_Mode.f
      by_cases a4 : m ≥ 0
      · rw [if_pos a4]; congr 1; rw [decide_eq_decide]; omega
      · rw [if_neg a4]; congr 1; symm; rw [decide_eq_false_iff_not]; omega
    refine ev_bindc em ?_
    by_cases a3 : 0 ≤ m ∧ m ≤ 6
    · rw [if_neg (show ¬ (u < 1 ∨ u > 1000000 ∨ m < 0 ∨ m > 6) by omega)]
      refine ev_pos (by simpa using a3) ?_
      refine Ev.bind (a := rnd (exa t x) u m) ?_ (ev_some rfl)
      unfold payrollref29_round.f
      simp only [e1, e2, e3]
      refine ev_neg (by omega) ?_
      unfold rnd
      by_cases a4 : m = 1
      · exact ev_pos a4 (ref_mode g1 g2 g5 g6 (by omega) (by omega) g3 g4 (by omega) (by omega) _ (by simp [a4]))
      · exact ev_neg a4 (ref_mode g1 g2 g5 g6 (by omega) (by omega) g3 g4 (by omega) (by omega) _ (by simp; omega))
    · rw [if_pos (show u < 1 ∨ u > 1000000 ∨ m < 0 ∨ m > 6 by omega)]
      exact ev_neg (by simpa using a3) (ev_some rfl)
  · simp only [if_neg h]
    exact ev_some rfl
end Go.Proofs.Ytbacfajhgmnjpaa.BrkT

namespace Go.Proofs.Ytbacfajhgmnjpaa.WhA
open Go.RowKit Go.Proofs.YtbacfajhgmnjpaaW.PrintWords Go.Proofs.Ytbacfajhgmnjpaa.P Go.Proofs.Ytbacfajhgmnjpaa.K Go.Proofs.Ytbacfajhgmnjpaa.BrkA
theorem in_eq (n m : Int) : payrollref30_in.f n m = some (decide (0 ≤ n ∧ n ≤ m)) := by
  unfold payrollref30_in.f
  by_cases h : n ≥ 0
  · rw [if_pos h]; congr 1; rw [decide_eq_decide]; omega
  · rw [if_neg h]; congr 1; symm; rw [decide_eq_false_iff_not]; omega
theorem mode_eq (n : Int) : payrollref2_Mode.f n = some (decide (0 ≤ n ∧ n ≤ 6)) := by
  unfold payrollref2_Mode.f
  by_cases h : n ≥ 0
  · rw [if_pos h]; congr 1; rw [decide_eq_decide]; omega
  · rw [if_neg h]; congr 1; symm; rw [decide_eq_false_iff_not]; omega
section
open Classical
theorem ref_table_loop (t : List S80) (hl : t.length ≤ 256) (d : Nat) : ∀ i, i + d = t.length → Ev (fun k => payrollref30_Table.l0 k t (i : Int)) (B (∀ j, i ≤ j → j < t.length → rowAt t j)) := by
  induction d with
  | zero =>
    intro i hi
    refine Ev.step (fun k => by rw [payrollref30_Table.l0]) (ev_neg (by omega) (ev_some ?_))
    symm; rw [B_true]; intro j h1 h2; omega
  | succ d ih =>
    intro i hi
    have ih := ih (i + 1) (by omega)
    have e1 : wrap64 ((i : Int) + 1) = ((i + 1 : Nat) : Int) := w64n (by omega) (by omega)
    have good : rowAt t i → B (∀ j, i + 1 ≤ j → j < t.length → rowAt t j) = B (∀ j, i ≤ j → j < t.length → rowAt t j) := by
      intro hok
      refine B_eq ⟨fun h j h1 h2 => ?_, fun h j h1 h2 => h j (by omega) h2⟩
      rcases Nat.lt_or_ge i j with hlt | hge
      · exact h j hlt h2
      · obtain rfl : j = i := by omega
        exact hok
    have bad : ¬ rowAt t i → false = B (∀ j, i ≤ j → j < t.length → rowAt t j) := fun hn => (B_neg (fun h => hn (h i (by omega) (by omega)))).symm
    refine Ev.step (fun k => by rw [payrollref30_Table.l0]) ?_
    simp only [e1, rdR, in_eq]
    refine ev_pos (by omega) ?_
    have rest : (0 < i → RF t (i - 1) < RF t i) → Ev (fun k => if RF t i > 1000000000 then some false else (some (decide (0 ≤ RT t i ∧ RT t i ≤ 1000000000))).bind fun t106 => if t106 = true then payrollref30_Table.l0 k t ((i + 1 : Nat) : Int) else some false) (B (∀ j, i ≤ j → j < t.length → rowAt t j)) := by
      intro h0
      by_cases h1 : RF t i > 1000000000
      · exact ev_pos h1 (ev_some (bad (fun h => by have := h.2.1; omega)))
      refine ev_neg h1 (ev_bindc rfl ?_)
      by_cases h2 : 0 ≤ RT t i ∧ RT t i ≤ 1000000000
      · exact ev_pos (by simpa using h2) (ev_to ih (good ⟨h0, by omega, h2.1, h2.2⟩))
      · exact ev_neg (by simpa using h2) (ev_some (bad (fun h => h2 h.2.2)))
    by_cases hp : (i : Int) > 0
    · have e2 : wrap64 ((i : Int) - 1) = ((i - 1 : Nat) : Int) := w64n (by omega) (by omega)
      simp only [e2, rdR]
      refine ev_pos hp (ev_pos (by omega) (ev_pos (by omega) (ev_pos (by omega) ?_)))
      by_cases h0 : RF t i ≤ RF t (i - 1)
      · exact ev_pos h0 (ev_some (bad (fun h => by have := h.1 (by omega); omega)))
      · exact ev_neg h0 (rest (fun _ => by omega))
    · exact ev_neg hp (ev_pos (by omega) (rest (fun h => by omega)))
theorem ref_table_ev (t : List S80) : Ev (fun k => payrollref30_Table.f k t) (B (VR t)) := by
  unfold payrollref30_Table.f
  have tt : ∀ b, b = true → ¬ VR t → Ev (fun k => payrollref30_Table.j0 k t b) (B (VR t)) := by
    intro b hb hn
    exact Ev.step (fun k => by rw [payrollref30_Table.j0]) (ev_pos hb (ev_some (B_neg hn).symm))
  by_cases h0 : (t.length : Int) = 0
  · exact ev_pos h0 (tt _ rfl (fun h => h.1 (by omega)))
  refine ev_neg h0 ?_
  by_cases h1 : (t.length : Int) > 256
  · exact ev_pos h1 (tt _ rfl (fun h => by have := h.2.1; omega))
  refine ev_neg h1 (ev_pos (by omega) ?_)
  by_cases h2 : RF t 0 = 0
  · have e : ((rd_T80 t 0).f0 != 0) = false := by
      have : (rd_T80 t 0).f0 = 0 := h2
      rw [this]; rfl
    rw [e]
    refine Ev.step (fun k => by rw [payrollref30_Table.j0]) (ev_neg (by decide) ?_)
    exact ev_to (ref_table_loop t (by omega) t.length 0 (by omega)) (B_eq ⟨fun h => ⟨by omega, by omega, h2, fun i hi => h i (by omega) hi⟩, fun h j _ hj => h.2.2.2 j hj⟩)
  · refine tt _ ?_ (fun h => h2 h.2.2.1)
    have : (rd_T80 t 0).f0 ≠ 0 := h2
    simp [this]
end
section
variable (m : Int) (t : List S58) (al cr u md : Int) (rows : List S80)
theorem ref_tar_ev : Ev (fun k => payrollref30_Valid.f k m t al cr u md rows) (B (VT m t al cr u md rows)) := by
  unfold payrollref30_Valid.f
  simp only [in_eq, mode_eq]
  have bad : (¬ (VT m t al cr u md rows)) → Ev (fun k => payrollref30_Valid.j0 k true m t al cr u md rows) (B (VT m t al cr u md rows)) :=
    fun h => Ev.step (fun k => by rw [payrollref30_Valid.j0]) (ev_pos rfl (ev_some (B_neg h).symm))
  by_cases a1 : m < 1
  · exact ev_pos a1 (bad (fun h => by have := h.m0; omega))
  refine ev_neg a1 ?_
  by_cases a2 : m > 3
  · exact ev_pos a2 (bad (fun h => by have := h.m1; omega))
  refine ev_neg a2 (Ev.bind (ref_valid_ev t) ?_)
  by_cases h0 : VB t
  case neg =>
   exact ev_neg (by rw [vb_B, B_neg h0]; decide) (bad (fun h => h0 h.vb))
  refine ev_pos (by rw [vb_B, B_pos h0]) (ev_bindc rfl ?_)
  by_cases h1 : 0 ≤ al ∧ al ≤ 1000000000
  case neg =>
   exact ev_neg (by simpa using h1) (bad (fun h => h1 ⟨h.a0, h.a1⟩))
  refine ev_pos (by simpa using h1) (ev_bindc rfl ?_)
  by_cases h2 : 0 ≤ cr ∧ cr ≤ 1000000000
  case neg =>
   exact ev_neg (by simpa using h2) (bad (fun h => h2 ⟨h.c0, h.c1⟩))
  refine ev_pos (by simpa using h2) ?_
  by_cases h3 : u < 1
  · exact ev_pos h3 (bad (fun h => by have := h.u0; omega))
  refine ev_neg h3 ?_
  by_cases h4 : u > 100
  · exact ev_pos h4 (bad (fun h => by have := h.u1; omega))
  refine ev_neg h4 (ev_bindc rfl ?_)
  by_cases h5 : 0 ≤ md ∧ md ≤ 6
  case neg =>
    have e : (!decide (0 ≤ md ∧ md ≤ 6)) = true := by simp [decide_eq_false h5]
    rw [e]
    exact bad (fun h => h5 ⟨h.d0, h.d1⟩)
  have e : (!decide (0 ≤ md ∧ md ≤ 6)) = false := by simp [decide_eq_true h5]
  rw [e]
  refine Ev.step (fun k => by rw [payrollref30_Valid.j0]) (ev_neg (by decide) ?_)
  have mk : (m = 1 → VR rows) → (m ≠ 1 → rows.length = 0) → VT m t al cr u md rows :=
    fun p q => ⟨by omega, by omega, p, q, h0, h1.1, h1.2, h2.1, h2.2, by omega, by omega, h5.1, h5.2⟩
  by_cases b1 : m = 1
  · refine ev_pos b1 (Ev.bind (ref_table_ev rows) (ev_some ?_))
    exact B_eq ⟨fun h => mk (fun _ => h) (fun hn => absurd b1 hn), fun h => h.tb b1⟩
  · refine ev_neg b1 (ev_some ?_)
    by_cases hr : rows.length = 0
    · rw [B_pos (mk (fun h => absurd h b1) (fun _ => hr))]
      simp [hr]
    · rw [B_neg (fun h => hr (h.nr b1))]
      exact beq_eq_false_iff_ne.2 (by omega)
end
end Go.Proofs.Ytbacfajhgmnjpaa.WhA

namespace Go.Proofs.Ytbacfajhgmnjpaa.WhB
open Go.RowKit Go.Proofs.YtbacfajhgmnjpaaW.PrintWords Go.Proofs.Ytbacfajhgmnjpaa.P Go.Proofs.Ytbacfajhgmnjpaa.K Go.Proofs.Ytbacfajhgmnjpaa.BrkA Go.Proofs.Ytbacfajhgmnjpaa.BrkS Go.Proofs.Ytbacfajhgmnjpaa.BrkT Go.Proofs.Ytbacfajhgmnjpaa.WhA
section
variable {s : List S58} (hv : VB s) {al cr x u md : Int} (a0 : 0 ≤ al) (a1 : al ≤ 1000000000) (c0 : 0 ≤ cr) (c1 : cr ≤ 1000000000) (x0 : 0 ≤ x) (x1 : x ≤ 1000000000000) (u0 : 1 ≤ u) (u1 : u ≤ 100) (d0 : 0 ≤ md) (d1 : md ≤ 6)
include hv a0 a1 c0 c1 x0 x1 u0 u1 d0 d1
theorem ref_tax_ev' (m : Int) (t : List S58) (al' cr' : Int) (rows : List S80) : Ev (fun k => payrollref30_tax.f k m t al' cr' u md rows s al cr x) (txv s al cr u md x) := by
  obtain ⟨e1, ht, e2⟩ := tax_pre hv a0 a1 c0 c1 x0 x1 u0 u1 d0 d1
  unfold payrollref30_tax.f
  rw [e1]
  refine Ev.bind (ref_tax_ev s _ u md) ?_
  rw [ht]
  exact ev_some e2
end
section
variable (m : Int) (t : List S58) (al cr u md : Int) (rows : List S80)
theorem ref_formula_ev (x n : Int) : Ev (fun k => payrollref30_Formula.f k m t al cr u md rows x n) (fmr m t al cr u md rows x n) := by
  unfold payrollref30_Formula.f fmr
  refine Ev.bind (ref_tar_ev m t al cr u md rows) ?_
  by_cases h : B (VT m t al cr u md rows) = true
  · have hv := B_true.1 h
    simp only [if_pos h, in_eq]
    refine ev_bindc rfl ?_
    by_cases hx : 0 ≤ x ∧ x ≤ 1000000000
    case neg => exact ev_neg (by simpa using hx) (ev_some (by rw [if_neg (fun h => hx h.1)]))
    refine ev_pos (by simpa using hx) ?_
    by_cases h1 : n < 1
    · exact ev_pos h1 (ev_some (by rw [if_neg (by omega)]))
    refine ev_neg h1 ?_
    by_cases h2 : n > 53
    · exact ev_pos h2 (ev_some (by rw [if_neg (by omega)]))
    refine ev_neg h2 ?_
    rw [if_pos ⟨hx, by omega, by omega⟩]
    obtain ⟨p0, p1⟩ := prod_bd hx.1 hx.2 (n := n) (by omega) (by omega)
    have e1 : wrap64 (x * n) = x * n := w64 (by omega) (by omega)
    rw [e1]
    refine Ev.bind (ref_tax_ev' hv.vb hv.a0 hv.a1 hv.c0 hv.c1 p0 (by omega) hv.u0 hv.u1 hv.d0 hv.d1 m t al cr rows) ?_
    obtain ⟨q0, q1⟩ := txv_bd hv.vb (al := al) (cr := cr) (u := u) (md := md) (x := x * n) hv.a0 p0 (by omega) hv.c0 hv.u0 hv.u1
    obtain ⟨q2, q3⟩ := div_bd' q0 (show 1 ≤ n by omega)
    have e2 : wrap64 (Int.tdiv (txv t al cr u md (x * n)) n) = txv t al cr u md (x * n) / n := by rw [tdiv_pos q0]; exact w64 (by omega) (by omega)
    refine ev_neg (by omega) (ev_some ?_)
    simp only [e2]
  · simp only [if_neg h]; exact ev_some rfl
theorem ref_due_ev (n k x : Int) : Ev (fun j => payrollref30_Due.f j m t al cr u md rows n k x) (dur m t al cr u md rows n k x) := by
  unfold payrollref30_Due.f dur
  refine Ev.bind (ref_tar_ev m t al cr u md rows) ?_
  by_cases h : B (VT m t al cr u md rows) = true
  · have hv := B_true.1 h
    simp only [if_pos h, in_eq]
    have bad : ∀ b, b = true → ¬ ((1 ≤ n ∧ n ≤ 53) ∧ (1 ≤ k ∧ k ≤ n) ∧ (0 ≤ x ∧ x ≤ 1000000000000)) → Ev (fun j => payrollref30_Due.j0 j n k x b m t al cr u md rows) (if (1 ≤ n ∧ n ≤ 53) ∧ (1 ≤ k ∧ k ≤ n) ∧ (0 ≤ x ∧ x ≤ 1000000000000) then (dv t al cr u md n k x, 0) else (0, 2)) := by
      intro b hb hn
      rw [if_neg hn]
      exact Ev.step (fun k => by rw [payrollref30_Due.j0]) (ev_pos hb (ev_some rfl))
    by_cases b1 : n < 1
    · exact ev_pos b1 (bad true rfl (by omega))
    refine ev_neg b1 ?_
    by_cases b2 : n > 53
    · exact ev_pos b2 (bad true rfl (by omega))
    refine ev_neg b2 ?_
    by_cases h1 : k < 1
    · exact ev_pos h1 (bad true rfl (by omega))
    refine ev_neg h1 ?_
    by_cases h2 : k > n
    · exact ev_pos h2 (bad true rfl (by omega))
    refine ev_neg h2 (ev_bindc rfl ?_)
    by_cases hx : 0 ≤ x ∧ x ≤ 1000000000000
    case neg => exact bad _ (by simp [decide_eq_false hx]) (fun h => hx h.2.2)
    have e : (!decide (0 ≤ x ∧ x ≤ 1000000000000)) = false := by simp [decide_eq_true hx]
    rw [e, if_pos ⟨by omega, ⟨by omega, by omega⟩, hx⟩]
    refine Ev.step (fun k => by rw [payrollref30_Due.j0]) (ev_neg (by decide) (Ev.bind (ref_scale_ev t k n) ?_))
    rw [scr_ok hv.vb (by omega) (by omega) (by omega)]
    obtain ⟨p0, p1, p2, p3⟩ := part_bd hv.a0 hv.a1 (k := k) (n := n) (by omega) (by omega) (by omega)
    obtain ⟨q0, q1, q2, q3⟩ := part_bd hv.c0 hv.c1 (k := k) (n := n) (by omega) (by omega) (by omega)
    have e1 : wrap64 (al * k) = al * k := w64 (by omega) (by omega)
    have e2 : wrap64 (cr * k) = cr * k := w64 (by omega) (by omega)
    have e3 : wrap64 (Int.tdiv (al * k) n) = al * k / n := by rw [tdiv_pos p0]; exact w64 (by omega) (by omega)
    have e4 : wrap64 (Int.tdiv (cr * k) n) = cr * k / n := by rw [tdiv_pos q0]; exact w64 (by omega) (by omega)
    simp only [e1, e2, e3, e4]
    have hva := acc_valid hv.vb (num := k) (den := n) (by omega) (by omega) (by omega) (by omega)
    exact ev_neg (by omega) (Ev.bind (ref_tax_ev' hva p2 p3 q2 q3 hx.1 hx.2 hv.u0 hv.u1 hv.d0 hv.d1 m t al cr rows) (ev_some rfl))
  · simp only [if_neg h]; exact ev_some rfl
theorem ref_cum_ev (n k x w : Int) : Ev (fun j => payrollref30_Cumulative.f j m t al cr u md rows n k x w) (cur m t al cr u md rows n k x w) := by
  unfold payrollref30_Cumulative.f cur
  refine Ev.bind (ref_due_ev m t al cr u md rows n k x) ?_
  by_cases h : B (VT m t al cr u md rows) = true
  · have hv := B_true.1 h
    rw [if_pos h]
    by_cases hc : (1 ≤ n ∧ n ≤ 53) ∧ (1 ≤ k ∧ k ≤ n) ∧ (0 ≤ x ∧ x ≤ 1000000000000)
    · rw [dur_ok m t al cr u md rows hv hc]
      refine ev_pos rfl ?_
      by_cases h1 : w < -1000000000000
      · refine ev_pos h1 (ev_some ?_)
        rw [if_neg (by omega)]
      refine ev_neg h1 ?_
      by_cases h2 : w > 1000000000000
      · refine ev_pos h2 (ev_some ?_)
        rw [if_neg (by omega)]
      refine ev_neg h2 (ev_some ?_)
      rw [if_pos ⟨hc.1, hc.2.1, hc.2.2, by omega, by omega⟩]
      obtain ⟨g0, g1⟩ := dv_bd m t al cr u md rows hv hc.2.1.1 hc.2.1.2 hc.1.2 hc.2.2.1 hc.2.2.2
      have e : wrap64 (dv t al cr u md n k x - w) = dv t al cr u md n k x - w := w64 (by omega) (by omega)
      simp only [e]
    · rw [dur_bad m t al cr u md rows hv hc, if_neg (show ¬ ((1 ≤ n ∧ n ≤ 53) ∧ (1 ≤ k ∧ k ≤ n) ∧ (0 ≤ x ∧ x ≤ 1000000000000) ∧ (-1000000000000 ≤ w ∧ w ≤ 1000000000000)) from fun h => hc ⟨h.1, h.2.1, h.2.2.1⟩)]
      exact ev_neg (by decide) (ev_some rfl)
  · rw [if_neg h, dur_inv m t al cr u md rows (fun hv => h (B_pos hv))]
    exact ev_neg (by decide) (ev_some rfl)
end
end Go.Proofs.Ytbacfajhgmnjpaa.WhB
