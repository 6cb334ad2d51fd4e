/- Plain lemmas for the laws of this seat: what its functions answer; no condition beyond those that each lemma states. -/
import Derived.Test.YtjfdhlagnimkmaaClkB
import Derived.Test.YtjfdhlagnimkmaaFclockBegin
import Derived.Test.YtjfdhlagnimkmaaFclockDay
namespace Go.Proofs.Ytjfdhlagnimkmaa.ClkC
open Go.RowKit Go.Proofs.YtjfdhlagnimkmaaW.PrintWords Go.Proofs.Ytjfdhlagnimkmaa.P Go.Proofs.Ytjfdhlagnimkmaa.K Go.Proofs.Ytjfdhlagnimkmaa.ClkA Go.Proofs.Ytjfdhlagnimkmaa.ClkB
/-! clock: Begin and Day of the program, and what they mean. -/
def bg (o : Int) (c : List S42) (d : Int) : Int := if d = 0 then 0 else if d > 84005 then 120968640 else fir o c (d * 1440)
def begr (o : Int) (c : List S42) (d : Int) : Int × Int := if vz o c = 0 then (if d < 0 ∨ d > 84006 then (0, 2) else (bg o c d, 0)) else (0, vz o c)
theorem begin_ev (o : Int) (c : List S42) (d : Int) : Ev (fun k => clock_Begin.f k o c d) (begr o c d) := by
  unfold clock_Begin.f begr
  refine Ev.bind (valid_ev o c) ?_
  by_cases h : vz o c = 0
  · have hv := vz_zero h
    simp only [if_pos h]
    by_cases h1 : d < 0
    · rw [if_pos (show d < 0 ∨ d > 84006 by omega)]
      exact ev_pos h1 (Ev.step (fun k => by rw [clock_Begin.j0]) (ev_pos rfl (ev_some rfl)))
    refine ev_neg h1 ?_
    refine Ev.step (fun k => by rw [clock_Begin.j0]) ?_
    by_cases h2 : d > 84006
    · rw [if_pos (show d < 0 ∨ d > 84006 by omega)]
      exact ev_pos (decide_eq_true h2) (ev_some rfl)
    rw [if_neg (show ¬ (d < 0 ∨ d > 84006) by omega)]
    refine ev_neg (fun hh => h2 (of_decide_eq_true hh)) ?_
    unfold bg
    by_cases h3 : d = 0
    · rw [if_pos h3]; exact ev_pos h3 (ev_some rfl)
    rw [if_neg h3]
    refine ev_neg h3 ?_
    by_cases h4 : d > 84005
    · rw [if_pos h4]; exact ev_pos h4 (ev_some rfl)
    rw [if_neg h4]
    refine ev_neg h4 ?_
    have e : wrap64 (d * 1440) = d * 1440 := w64 (by omega) (by omega)
    rw [e]
    refine Ev.bind (first_ev o c _) ?_
    rw [firr_ok hv]
    exact ev_some rfl
  · simp only [if_neg h]
    exact ev_some rfl
theorem begr_ok {o : Int} {c : List S42} (h : VZ o c) {d : Int} (h0 : 0 ≤ d) (h1 : d ≤ 84006) : begr o c d = (bg o c d, 0) := by
  unfold begr; rw [if_pos h.zero, if_neg (by omega)]
/-- The greatest local minute up to t of listed segments, and at least m. -/
def mostL (t : Int) : Int → List S53 → Int
  | m, [] => m
  | m, p :: r => if p.f0 ≤ t then mostL t (max m (min t (p.f1 - 1) + p.f2)) r else mostL t m r
theorem day_loop {L : List S53} (hl : L.length ≤ 65) (hc : Chain 0 L) {t : Int} (t0 : 0 ≤ t) (t1 : t ≤ 120968639) (d : Nat) : ∀ i (m : Int), i + d = L.length → 0 ≤ m → m ≤ 200000000 →
    Ev (fun k => clock_Day.l0 k t m L (L.length : Int) (i : Int)) (min (mostL t m (L.drop i) / 1440) 84005, 0) := by
  induction d with
  | zero =>
    intro i m hi m0 m1
    refine Ev.step (fun k => by rw [clock_Day.l0]) ?_
    refine ev_neg (by omega) (ev_some ?_)
    rw [List.drop_eq_nil_of_le (by omega), mn_eq, tdiv_pos m0, w64 (by omega) (by omega)]
    rfl
  | succ d ih =>
    intro i m hi m0 m1
    have b := hc.at_ (Int.le_refl 0) (i := i) (by omega)
    have e1 : wrap64 ((i : Int) + 1) = ((i + 1 : Nat) : Int) := w64n (by omega) (by omega)
    have e2 : wrap64 ((L.getD i z53).f1 - 1) = (L.getD i z53).f1 - 1 := w64 (by omega) (by omega)
    have e3 : wrap64 (min t ((L.getD i z53).f1 - 1) + (L.getD i z53).f2) = min t ((L.getD i z53).f1 - 1) + (L.getD i z53).f2 := w64 (by omega) (by omega)
    refine Ev.step (fun k => by rw [clock_Day.l0]) ?_
    refine ev_pos (by omega) (ev_pos (by omega) (ev_pos (by omega) ?_))
    simp only [e1, rdP, mx_eq, mn_eq, e2, e3]
    rw [drop_cons (show i < L.length by omega)]
    unfold mostL
    by_cases h : (L.getD i z53).f0 ≤ t
    · rw [if_pos h]
      exact ev_pos h (ih (i + 1) _ (by omega) (by omega) (by omega))
    · rw [if_neg h]
      exact ev_neg h (ih (i + 1) m (by omega) m0 m1)
def most (o : Int) (c : List S42) (t : Int) : Int := mostL t 0 (pts o c)
def dy (o : Int) (c : List S42) (t : Int) : Int := min (most o c t / 1440) 84005
def dayr (o : Int) (c : List S42) (t : Int) : Int × Int := if ckd o c t = 0 then (dy o c t, 0) else (0, ckd o c t)
theorem day_ev (o : Int) (c : List S42) (t : Int) : Ev (fun k => clock_Day.f k o c t) (dayr o c t) := by
  unfold clock_Day.f dayr
  refine Ev.bind (checked_ev o c t) ?_
  by_cases h : ckd o c t = 0
  · obtain ⟨hv, h0, h1⟩ := ckd_zero h
    simp only [if_pos h]
    refine Ev.bind (parts_ev hv) ?_
    have := day_loop (pts_len hv) (chain_pts hv) h0 h1 (pts o c).length 0 0 (by omega) (by omega) (by omega)
    exact this
  · simp only [if_neg h]
    exact ev_some rfl
theorem dayr_ok {o : Int} {c : List S42} (h : VZ o c) {t : Int} (h0 : 0 ≤ t) (h1 : t ≤ 120968639) : dayr o c t = (dy o c t, 0) := by
  unfold dayr; rw [if_pos (ckd_ok h h0 h1)]
/-! ### what the greatest local minute means -/
def NE (l : List S53) : Prop := ∀ p ∈ l, p.f0 < p.f1
theorem ne_pts {o : Int} {c : List S42} (h : VZ o c) : NE (pts o c) := by
  have hs : segs o c = seg o c 0 :: segF o c c.length 1 := rfl
  have hr : ∀ p ∈ segF o c c.length 1, p.f0 < p.f1 := by
    intro p hp
    obtain ⟨j, h1, h2, rfl⟩ := mem_segF o c _ _ _ hp
    exact (frm_le h j (by omega)).2.2.2 (by omega)
  intro p hp
  unfold pts at hp
  rw [hs, dropE_cons] at hp
  split at hp
  · exact hr p hp
  · rename_i h0
    rcases List.mem_cons.1 hp with rfl | hp
    · have := (frm_le h 0 (by omega)).2.1
      have e0 : (seg o c 0).f0 = frm c 0 := rfl
      have e1 : (seg o c 0).f1 = tto c 0 := rfl
      omega
    · exact hr p hp
theorem most_spec {o : Int} {c : List S42} {t : Int} (t1 : t ≤ 120968639) : ∀ (l : List S53) (lo m : Int), Chain lo l → Tells o c l → NE l →
    m ≤ mostL t m l ∧ (∀ s, lo ≤ s → s ≤ t → s + off o c s ≤ mostL t m l) ∧ (mostL t m l = m ∨ ∃ s, lo ≤ s ∧ s ≤ t ∧ s + off o c s = mostL t m l)
  | [], lo, m, h, _, _ => by
    have h : lo = 120968640 := h
    simp only [mostL]
    exact ⟨Int.le_refl _, fun s h1 h2 => by omega, by simp⟩
  | p :: r, lo, m, h, hT, hN => by
    obtain ⟨a, b, d, e, f, g⟩ := h
    have hp := hT p List.mem_cons_self
    have hn := hN p List.mem_cons_self
    unfold mostL
    by_cases hc : p.f0 ≤ t
    · rw [if_pos hc]
      obtain ⟨i1, i2, i3⟩ := most_spec t1 r p.f1 (max m (min t (p.f1 - 1) + p.f2)) g (fun q hq => hT q (List.mem_cons_of_mem _ hq)) (fun q hq => hN q (List.mem_cons_of_mem _ hq))
      refine ⟨by omega, fun s h1 h2 => ?_, ?_⟩
      · rcases Int.lt_or_le s p.f1 with hlt | hge
        · rw [hp s (by omega) hlt]; omega
        · exact i2 s hge h2
      · rcases i3 with i3 | ⟨s, h1, h2, h3⟩
        · rw [i3]
          rcases Int.le_total (min t (p.f1 - 1) + p.f2) m with hm | hm
          · exact .inl (Int.max_eq_left hm)
          · refine .inr ⟨min t (p.f1 - 1), by omega, by omega, ?_⟩
            rw [hp _ (by omega) (by omega), Int.max_eq_right hm]
        · exact .inr ⟨s, by omega, h2, h3⟩
    · rw [if_neg hc]
      obtain ⟨i1, i2, i3⟩ := most_spec t1 r p.f1 m g (fun q hq => hT q (List.mem_cons_of_mem _ hq)) (fun q hq => hN q (List.mem_cons_of_mem _ hq))
      refine ⟨i1, fun s h1 h2 => by omega, ?_⟩
      rcases i3 with i3 | ⟨s, h1, h2, h3⟩
      · exact .inl i3
      · exact .inr ⟨s, by omega, h2, h3⟩
section
variable {o : Int} {c : List S42} (h : VZ o c)
include h
/-- A day has begun by t if its first local minute has been shown. -/
theorem bg_le {t : Int} (t0 : 0 ≤ t) (t1 : t ≤ 120968639) {d : Int} (d0 : 1 ≤ d) (d1 : d ≤ 84005) : bg o c d ≤ t ↔ d * 1440 ≤ most o c t := by
  obtain ⟨m1, m2, m3⟩ := most_spec (o := o) (c := c) t1 (pts o c) 0 0 (chain_pts h) (tells_pts h) (ne_pts h)
  obtain ⟨f1, f2, f3, f4⟩ := fir_spec h (d * 1440)
  unfold bg most
  rw [if_neg (by omega), if_neg (by omega)]
  constructor
  · intro hle
    have a := f3 (by omega)
    have b := m2 _ f1 hle
    omega
  · intro hle
    rcases m3 with m3 | ⟨s, s0, s1, s2⟩
    · omega
    · rcases Int.lt_or_le s (fir o c (d * 1440)) with hlt | hge
      · have := f4 s s0 hlt
        omega
      · omega
theorem most_nonneg {t : Int} (t1 : t ≤ 120968639) : 0 ≤ most o c t := (most_spec (o := o) (c := c) t1 (pts o c) 0 0 (chain_pts h) (tells_pts h) (ne_pts h)).1
theorem dy_bd {t : Int} (t1 : t ≤ 120968639) : 0 ≤ dy o c t ∧ dy o c t ≤ 84005 := by
  have := most_nonneg h t1
  unfold dy
  omega
theorem bg_iff {t : Int} (t0 : 0 ≤ t) (t1 : t ≤ 120968639) {d : Int} (d0 : 0 ≤ d) (d1 : d ≤ 84006) : bg o c d ≤ t ↔ d ≤ dy o c t := by
  have hm := most_nonneg h t1
  have hb := dy_bd h t1
  by_cases h0 : d = 0
  · subst h0
    unfold bg
    rw [if_pos rfl]
    omega
  by_cases h1 : d = 84006
  · subst h1
    unfold bg
    rw [if_neg (by omega), if_pos (by omega)]
    omega
  rw [bg_le h t0 t1 (by omega) (by omega)]
  unfold dy
  omega
end
end Go.Proofs.Ytjfdhlagnimkmaa.ClkC
