/- Plain lemmas for the laws of this seat: what its functions answer; no condition beyond those that each lemma states. -/
import Derived.Test.YtafoplpaoahdiaaBrkG
import Derived.Test.YtafoplpaoahdiaaFpayrolllaw29awake
import Derived.Test.YtafoplpaoahdiaaFpayrolllaw29income
import Derived.Test.YtafoplpaoahdiaaFbracketMarginal
namespace Go.Proofs.Ytafoplpaoahdiaa.BrkB
open Go.RowKit Go.Proofs.YtafoplpaoahdiaaW.PrintWords Go.Proofs.Ytafoplpaoahdiaa.P Go.Proofs.Ytafoplpaoahdiaa.K Go.Proofs.Ytafoplpaoahdiaa.BrkA Go.Proofs.Ytafoplpaoahdiaa.BrkG
theorem awake_ev : Ev (fun k => payrolllaw29_awake.f k) true := Ev.of (fun k => payrolllaw29_awake.mono k) (k := 60) (by decide +kernel)
theorem small (l : List Int) {a : Int} (h0 : 0 ≤ a) (h1 : a ≤ 1000000) : ∃ v a', paygen_Deck_Small.f l a = some (v, a') ∧ 0 ≤ v ∧ v < 600000 ∧ 0 ≤ a' ∧ a' ≤ a + 2 := by
  unfold paygen_Deck_Small.f
  obtain ⟨v, hv, hv0, hv1⟩ := Deck.next l (a := a) (n := 5) (by omega) (by omega) h0 (by omega)
  rw [hv]
  simp only [Option.bind_some]
  by_cases h : v = 0
  · rw [if_pos h]
    obtain ⟨u, hu, hm⟩ := Deck.pick l (a := a + 1) [0, 0, 1, 100] (by simp) (by simp) (by omega) (by omega)
    rw [hu]
    simp only [List.mem_cons, List.not_mem_nil, or_false] at hm
    exact ⟨u, _, rfl, by omega, by omega, by omega, by omega⟩
  · rw [if_neg h]
    obtain ⟨u, hu, hu0, hu1⟩ := Deck.next l (a := a + 1) (n := 600000) (by omega) (by omega) (by omega) (by omega)
    rw [hu]
    exact ⟨u, _, rfl, by omega, by omega, by omega, by omega⟩
theorem amount (l : List Int) {a : Int} (h0 : 0 ≤ a) (h1 : a ≤ 1000000) : ∃ v a', paygen_Deck_Amount.f l a = some (v, a') ∧ 0 ≤ v ∧ v ≤ 1000000000 ∧ 0 ≤ a' ∧ a' ≤ a + 2 := by
  unfold paygen_Deck_Amount.f
  obtain ⟨v, hv, hv0, hv1⟩ := Deck.next l (a := a) (n := 6) (by omega) (by omega) h0 (by omega)
  rw [hv]
  simp only [Option.bind_some]
  by_cases h : v = 0
  · rw [if_pos h]
    obtain ⟨u, hu, hm⟩ := Deck.pick l (a := a + 1) [0, 1, 99, 100, 101] (by simp) (by simp) (by omega) (by omega)
    rw [hu]
    simp only [List.mem_cons, List.not_mem_nil, or_false] at hm
    exact ⟨u, _, rfl, by omega, by omega, by omega, by omega⟩
  rw [if_neg h]
  by_cases h2 : v = 1
  · rw [if_pos h2]
    obtain ⟨u, hu, hm⟩ := Deck.pick l (a := a + 1) [1000000000, 999999999, 500000000, 100000000] (by simp) (by simp) (by omega) (by omega)
    rw [hu]
    simp only [List.mem_cons, List.not_mem_nil, or_false] at hm
    exact ⟨u, _, rfl, by omega, by omega, by omega, by omega⟩
  · rw [if_neg h2]
    obtain ⟨u, hu, hu0, hu1⟩ := Deck.next l (a := a + 1) (n := 600000) (by omega) (by omega) (by omega) (by omega)
    rw [hu]
    exact ⟨u, _, rfl, by omega, by omega, by omega, by omega⟩
theorem income (l : List Int) {p : Bool} {t : List S30} (hg : Sched p t) (hl : t.length ≤ 4) {a : Int} (h0 : 0 ≤ a) (h1 : a ≤ 100000) :
    ∃ v a', payrolllaw29_income.f l a t = some (v, a') ∧ 0 ≤ v ∧ v ≤ 1000000000000 ∧ 0 ≤ a' ∧ a' ≤ a + 6 := by
  have hn := hg.ne
  unfold payrolllaw29_income.f
  obtain ⟨v, hv, hv0, hv1⟩ := Deck.next l (a := a) (n := 3) (by omega) (by omega) h0 (by omega)
  rw [hv]
  simp only [Option.bind_some]
  by_cases h : v = 0
  · rw [if_pos h]
    obtain ⟨u, hu, hu0, hu1⟩ := Deck.next l (a := a + 1) (n := (t.length : Int)) (by omega) (by omega) (by omega) (by omega)
    rw [hu]
    simp only [Option.bind_some]
    rw [if_pos hu0, if_pos hu1]
    obtain ⟨q, hq, hq0, hq1⟩ := Deck.next l (a := a + 1 + 1) (n := 3) (by omega) (by omega) (by omega) (by omega)
    rw [hq]
    obtain ⟨i, rfl⟩ : ∃ i : Nat, u = i := ⟨u.toNat, by omega⟩
    have hs := hg.small i (by omega)
    have hv : VB t := ⟨hn, by omega, hg.z, hg.ok⟩
    have hp := hv.ok.fpos i (by omega)
    refine ⟨_, _, rfl, ?_, ?_, by omega, by omega⟩
    · rw [mx_eq]; omega
    · rw [mx_eq, rdF]
      have e1 : wrap64 (F t i + q) = F t i + q := w64 (by omega) (by omega)
      have e2 : wrap64 (F t i + q - 1) = F t i + q - 1 := w64 (by omega) (by omega)
      show max (wrap64 (wrap64 (F t i + q) - 1)) 0 ≤ _
      rw [e1, e2]
      omega
  · rw [if_neg h]
    obtain ⟨x, a1, hx, hx0, hx1, ha0, ha1⟩ := amount l (a := a + 1) (by omega) (by omega)
    rw [hx]
    simp only [Option.bind_some]
    obtain ⟨y, a2, hy, hy0, hy1, hb0, hb1⟩ := small l (a := a1) (by omega) (by omega)
    rw [hy]
    simp only [Option.bind_some]
    have e1 : wrap64 (10 * y) = 10 * y := w64 (by omega) (by omega)
    rw [e1]
    obtain ⟨z, hz, hm⟩ := Deck.pick l (a := a2) [x, 10 * y, 1000000000000, 999999999999] (by simp) (by simp) (by omega) (by omega)
    rw [hz]
    simp only [List.mem_cons, List.not_mem_nil, or_false] at hm
    exact ⟨z, _, rfl, by omega, by omega, by omega, by omega⟩
theorem marginal_loop (t : List S30) (hl : t.length ≤ 24) (x : Int) (d : Nat) : ∀ i, i + d = t.length →
    Ev (fun k => bracket_Marginal.l0 k x (Brk.marg (F t) (R t) x i) t (t.length : Int) (i : Int)) (Brk.marg (F t) (R t) x t.length, 0) := by
  induction d with
  | zero =>
    intro i hi
    obtain rfl : i = t.length := by omega
    refine Ev.step (fun k => by rw [bracket_Marginal.l0]) ?_
    exact ev_neg (by omega) (ev_some rfl)
  | succ d ih =>
    intro i hi
    have ih := ih (i + 1) (by omega)
    have e1 : wrap64 ((i : Int) + 1) = ((i + 1 : Nat) : Int) := w64n (by omega) (by omega)
    refine Ev.step (fun k => by rw [bracket_Marginal.l0]) ?_
    refine ev_pos (by omega) (ev_pos (by omega) (ev_pos (by omega) ?_))
    simp only [e1, rdF]
    simp only [Brk.marg] at ih
    by_cases h : F t i ≤ x
    · rw [if_pos h] at ih
      exact ev_pos h ih
    · rw [if_neg h] at ih
      exact ev_neg h ih
noncomputable def mar (t : List S30) (x : Int) : Int × Int := if chk t x = 0 then (Brk.marg (F t) (R t) x t.length, 0) else (0, chk t x)
theorem marginal_ev (t : List S30) (x : Int) : Ev (fun k => bracket_Marginal.f k t x) (mar t x) := by
  unfold bracket_Marginal.f mar
  refine Ev.bind (check_ev t x) ?_
  by_cases h : chk t x = 0
  · obtain ⟨hv, h0, h1⟩ := chk_zero h
    have hl := hv.2.1
    simp only [if_pos h]
    exact marginal_loop t hl x t.length 0 (by omega)
  · simp only [if_neg h]
    exact ev_some rfl
theorem mar_ok {t : List S30} {x : Int} (h : VB t) (h0 : 0 ≤ x) (h1 : x ≤ 1000000000000) : mar t x = (Brk.marg (F t) (R t) x t.length, 0) := by
  unfold mar; rw [if_pos (chk_ok h h0 h1)]
end Go.Proofs.Ytafoplpaoahdiaa.BrkB
