/- Plain lemmas for the laws of this seat: what its functions answer; no condition beyond those that each lemma states. -/
import Derived.Test.YtjfdhlagnimkmaaClkA
import Derived.Test.YtjfdhlagnimkmaaTape
import Derived.Test.YtjfdhlagnimkmaaFpayrollgenTapeZone
import Derived.Test.YtjfdhlagnimkmaaFpayrollgenTapeNear
namespace Go.Proofs.Ytjfdhlagnimkmaa.ClkB
open Go.RowKit Go.Proofs.YtjfdhlagnimkmaaW.PrintWords Go.Proofs.Ytjfdhlagnimkmaa.P Go.Proofs.Ytjfdhlagnimkmaa.K Go.Proofs.Ytjfdhlagnimkmaa.ClkA Go.Proofs.Ytjfdhlagnimkmaa.Tape
/-! clock: what First and Instants mean; drawn zones. -/
section
variable {o : Int} {c : List S42} (h : VZ o c)
include h
theorem asc_le (i j : Nat) (hij : i ≤ j) (hj : j < c.length) : A c i ≤ A c j := by
  induction j with
  | zero => obtain rfl : i = 0 := by omega
            exact Int.le_refl _
  | succ j ih =>
    rcases Nat.lt_or_ge j i with hlt | hge
    · obtain rfl : i = j + 1 := by omega
      exact Int.le_refl _
    · have := ih hge (by omega); have := h.asc j hj; omega
omit h in
theorem off_top (t : Int) (i : Nat) : ∀ j, i ≤ j → j ≤ c.length → (∀ k, i ≤ k → k < j → t < A c k) → offA o c t j = offA o c t i
  | 0, hi, _, _ => by obtain rfl : i = 0 := by omega
                      rfl
  | j + 1, hi, hj, hk => by
    rcases Nat.lt_or_ge j i with hlt | hge
    · obtain rfl : i = j + 1 := by omega
      rfl
    · have := hk j hge (by omega)
      rw [offA, if_neg (by omega), off_top t i j hge (by omega) (fun k h1 h2 => hk k h1 (by omega))]
theorem seg_off (i : Nat) (hi : i ≤ c.length) (t : Int) (h0 : frm c i ≤ t) (h1 : t < tto c i) : off o c t = ofs o c i := by
  unfold off
  rw [off_top t i c.length hi (Nat.le_refl _) (fun k hk1 hk2 => by
    have := asc_le h i k hk1 hk2
    unfold tto at h1
    rw [if_pos (by omega)] at h1
    omega)]
  unfold frm at h0
  unfold ofs
  cases i with
  | zero => rfl
  | succ i =>
    rw [if_neg (by omega)] at h0 ⊢
    simp only [Nat.add_sub_cancel] at h0 ⊢
    rw [offA, if_pos h0]
end
/-- Every listed segment has the zone's offset. -/
def Tells (o : Int) (c : List S42) (l : List S53) : Prop := ∀ p ∈ l, ∀ t, p.f0 ≤ t → t < p.f1 → off o c t = p.f2
theorem mem_segF (o : Int) (c : List S42) (d : Nat) : ∀ i p, p ∈ segF o c d i → ∃ j, i ≤ j ∧ j < i + d ∧ p = seg o c j := by
  induction d with
  | zero => intro i p hp; simp [segF] at hp
  | succ d ih =>
    intro i p hp
    simp only [segF, List.mem_cons] at hp
    rcases hp with rfl | hp
    · exact ⟨i, Nat.le_refl _, by omega, rfl⟩
    · obtain ⟨j, h1, h2, h3⟩ := ih (i + 1) p hp
      exact ⟨j, by omega, by omega, h3⟩
theorem tells_segs {o : Int} {c : List S42} (h : VZ o c) : Tells o c (segs o c) := by
  intro p hp t h0 h1
  obtain ⟨j, _, h2, rfl⟩ := mem_segF o c _ _ _ hp
  exact seg_off h j (by omega) t h0 h1
theorem tells_pts {o : Int} {c : List S42} (h : VZ o c) : Tells o c (pts o c) := by
  intro p hp
  refine tells_segs h p ?_
  unfold pts at hp
  cases hs : segs o c with
  | nil => rw [hs] at hp; exact hp
  | cons q r =>
    rw [hs, dropE_cons] at hp
    split at hp
    · exact List.mem_cons_of_mem _ hp
    · exact hp
theorem first_spec {o : Int} {c : List S42} (x : Int) : ∀ (l : List S53) (lo : Int), Chain lo l → Tells o c l →
    lo ≤ firstL x l ∧ firstL x l ≤ 120968640 ∧ (firstL x l ≤ 120968639 → x ≤ firstL x l + off o c (firstL x l)) ∧ (∀ t, lo ≤ t → t < firstL x l → t + off o c t < x)
  | [], lo, h, _ => by
    have h : lo = 120968640 := h
    simp only [firstL]
    exact ⟨by omega, by omega, fun h => by omega, fun t h1 h2 => by omega⟩
  | p :: r, lo, h, hT => by
    obtain ⟨a, b, d, e, f, g⟩ := h
    have hp := hT p List.mem_cons_self
    obtain ⟨i1, i2, i3, i4⟩ := first_spec x r p.f1 g (fun q hq => hT q (List.mem_cons_of_mem _ hq))
    unfold firstL
    by_cases hc : max (x - p.f2) p.f0 < p.f1
    · rw [if_pos hc]
      refine ⟨by omega, by omega, fun _ => ?_, fun t h1 h2 => ?_⟩
      · rw [hp _ (by omega) hc]; omega
      · rw [hp t (by omega) (by omega)]; omega
    · rw [if_neg hc]
      refine ⟨by omega, i2, i3, fun t h1 h2 => ?_⟩
      rcases Int.lt_or_le t p.f1 with hlt | hge
      · rw [hp t (by omega) hlt]; omega
      · exact i4 t hge h2
section
variable {o : Int} {c : List S42} (h : VZ o c)
include h
theorem fir_spec (x : Int) : 0 ≤ fir o c x ∧ fir o c x ≤ 120968640 ∧ (fir o c x ≤ 120968639 → x ≤ fir o c x + off o c (fir o c x)) ∧ (∀ t, 0 ≤ t → t < fir o c x → t + off o c t < x) :=
  first_spec x _ 0 (chain_pts h) (tells_pts h)
theorem firr_ok (x : Int) : firr o c x = (fir o c x, 0) := by
  unfold firr; rw [if_pos h.zero]
end
theorem inst_spec {o : Int} {c : List S42} (x : Int) : ∀ (l : List S53) (lo : Int), Chain lo l → Tells o c l →
    (∀ y ∈ instL x l, lo ≤ y ∧ y ≤ 120968639 ∧ y + off o c y = x) ∧ (instL x l).Pairwise (· < ·) ∧ (instL x l).length ≤ l.length ∧ (∀ t, lo ≤ t → t ≤ 120968639 → t + off o c t = x → t ∈ instL x l)
  | [], lo, h, _ => by
    have h : lo = 120968640 := h
    simp only [instL]
    exact ⟨fun y hy => by simp at hy, List.Pairwise.nil, by simp, fun t h1 h2 => by omega⟩
  | p :: r, lo, h, hT => by
    obtain ⟨a, b, d, e, f, g⟩ := h
    have hp := hT p List.mem_cons_self
    obtain ⟨i1, i2, i3, i4⟩ := inst_spec x r p.f1 g (fun q hq => hT q (List.mem_cons_of_mem _ hq))
    unfold instL
    by_cases hc : x - p.f2 ≥ p.f0 ∧ x - p.f2 < p.f1
    · rw [if_pos hc]
      refine ⟨fun y hy => ?_, ?_, by simp; omega, fun t h1 h2 h3 => ?_⟩
      · rcases List.mem_cons.1 hy with rfl | hy
        · exact ⟨by omega, by omega, by rw [hp _ hc.1 hc.2]; omega⟩
        · obtain ⟨j1, j2, j3⟩ := i1 y hy
          exact ⟨by omega, j2, j3⟩
      · refine List.pairwise_cons.2 ⟨fun y hy => ?_, i2⟩
        have := (i1 y hy).1
        omega
      · rcases Int.lt_or_le t p.f1 with hlt | hge
        · rw [hp t (by omega) hlt] at h3
          exact List.mem_cons.2 (.inl (by omega))
        · exact List.mem_cons.2 (.inr (i4 t hge h2 h3))
    · rw [if_neg hc]
      refine ⟨fun y hy => ?_, i2, by simp; omega, fun t h1 h2 h3 => ?_⟩
      · obtain ⟨j1, j2, j3⟩ := i1 y hy
        exact ⟨by omega, j2, j3⟩
      · rcases Int.lt_or_le t p.f1 with hlt | hge
        · rw [hp t (by omega) hlt] at h3
          omega
        · exact i4 t hge h2 h3
theorem pts_len' {o : Int} {c : List S42} : (pts o c).length ≤ c.length + 1 := by
  have := segF_len o c (c.length + 1) 0
  unfold pts
  cases hs : segs o c with
  | nil => simp [dropE]
  | cons p r =>
    have hs' : segF o c (c.length + 1) 0 = p :: r := hs
    rw [hs'] at this
    rw [dropE_cons]
    split <;> simp at * <;> omega
/-! ### drawn zones -/
theorem near {l : List Int} {a : Int} (hT : Tp l a) : ∃ v a', payrollgen_Tape_Near.f l a = some (v, a') ∧ 29453760 ≤ v ∧ v ≤ 29468161 ∧ Tp l a' := by
  obtain ⟨x, a1, hx, x0, x1, h1⟩ := next hT (n := 10) (by omega) (by omega)
  obtain ⟨y, a2, hy, y0, y1, h2⟩ := next h1 (n := 97) (by omega) (by omega)
  obtain ⟨z, a3, hz, z0, z1, h3⟩ := next h2 (n := 8) (by omega) (by omega)
  unfold payrollgen_Tape_Near.f
  rw [hx]
  simp only [Option.bind_some]
  rw [hy]
  simp only [Option.bind_some]
  rw [hz]
  simp only [Option.bind_some]
  have e1 : wrap64 (x * 1440) = x * 1440 := w64 (by omega) (by omega)
  have e2 : wrap64 (29453760 + x * 1440) = 29453760 + x * 1440 := w64 (by omega) (by omega)
  have e3 : wrap64 (y * 15) = y * 15 := w64 (by omega) (by omega)
  have e4 : wrap64 (29453760 + x * 1440 + y * 15) = 29453760 + x * 1440 + y * 15 := w64 (by omega) (by omega)
  have e5 : wrap64 (Int.tdiv z 6) = z / 6 := by rw [tdiv_pos z0]; exact w64 (by omega) (by omega)
  have e6 : wrap64 (29453760 + x * 1440 + y * 15 + z / 6) = 29453760 + x * 1440 + y * 15 + z / 6 := w64 (by omega) (by omega)
  rw [e1, e2, e3, e4, e5, e6]
  exact ⟨_, a3, rfl, by omega, by omega, h3⟩
theorem A_app (t : List S42) (b : S42) (i : Nat) : A (t ++ [b]) i = if i < t.length then A t i else if i = t.length then b.f0 else 0 := by
  unfold A
  rw [List.getD_eq_getElem?_getD, List.getD_eq_getElem?_getD, List.getElem?_append]
  by_cases h : i < t.length
  · rw [if_pos h, if_pos h]
  · rw [if_neg h, if_neg h]
    by_cases h2 : i = t.length
    · subst h2; simp
    · rw [if_neg h2, List.getElem?_eq_none (by simp; omega)]
      rfl
theorem O_app (t : List S42) (b : S42) (i : Nat) : O (t ++ [b]) i = if i < t.length then O t i else if i = t.length then b.f1 else 0 := by
  unfold O
  rw [List.getD_eq_getElem?_getD, List.getD_eq_getElem?_getD, List.getElem?_append]
  by_cases h : i < t.length
  · rw [if_pos h, if_pos h]
  · rw [if_neg h, if_neg h]
    by_cases h2 : i = t.length
    · subst h2; simp
    · rw [if_neg h2, List.getElem?_eq_none (by simp; omega)]
      rfl
theorem VZ.app {o : Int} {c : List S42} (h : VZ o c) {b : S42} (hl : c.length ≤ 63) (h0 : 0 ≤ b.f0) (h1 : b.f0 ≤ 120968639) (h2 : -840 ≤ b.f1) (h3 : b.f1 ≤ 840) (h4 : ∀ i, i < c.length → A c i < b.f0) : VZ o (c ++ [b]) := by
  have len : (c ++ [b]).length = c.length + 1 := by simp
  refine ⟨by omega, h.o0, h.o1, fun i hi => ?_, fun i hi => ?_, fun i hi => ?_, fun i hi => ?_, fun i hi => ?_⟩
  · rw [A_app]
    by_cases hlt : i < c.length
    · rw [if_pos hlt]; exact h.a0 i hlt
    · rw [if_neg hlt, if_pos (by omega)]; exact h0
  · rw [A_app]
    by_cases hlt : i < c.length
    · rw [if_pos hlt]; exact h.a1 i hlt
    · rw [if_neg hlt, if_pos (by omega)]; exact h1
  · rw [O_app]
    by_cases hlt : i < c.length
    · rw [if_pos hlt]; exact h.f0 i hlt
    · rw [if_neg hlt, if_pos (by omega)]; exact h2
  · rw [O_app]
    by_cases hlt : i < c.length
    · rw [if_pos hlt]; exact h.f1 i hlt
    · rw [if_neg hlt, if_pos (by omega)]; exact h3
  · rw [A_app, A_app, if_pos (by omega)]
    by_cases hlt : i + 1 < c.length
    · rw [if_pos hlt]; exact h.asc i hlt
    · rw [if_neg hlt, if_pos (by omega)]; exact h4 i (by omega)
theorem zone_loop {l : List Int} (d : Nat) : ∀ (x : Int) (a : Int) (o : Int) (c : List S42), Tp l a → VZ o c → c.length + d ≤ 10 → 0 ≤ x → x + 4320 * d ≤ 30000000 → (∀ i, i < c.length → A c i < x) →
    ∃ c' a', Ev (fun k => payrollgen_Tape_Zone.l0 k x (d : Int) l a o c) (o, c', a') ∧ VZ o c' ∧ c'.length ≤ c.length + d ∧ Tp l a' := by
  induction d with
  | zero =>
    intro x a o c hT hv _ _ _ _
    refine ⟨c, a, ?_, hv, by omega, hT⟩
    refine Ev.step (fun k => by rw [payrollgen_Tape_Zone.l0]) ?_
    exact ev_neg (by omega) (ev_some rfl)
  | succ d ih =>
    intro x a o c hT hv hl h0 h1 hA
    obtain ⟨u, a1, hu, um, hT1⟩ := pick hT [60, 120, 0, (-300), 840, (-840)] (by simp) (by simp)
    obtain ⟨w, a2, hw, wm, hT2⟩ := pick hT1 [60, 1440, 30, 4320, 1] (by simp) (by simp)
    have ub : -840 ≤ u ∧ u ≤ 840 := by simp only [List.mem_cons, List.not_mem_nil, or_false] at um; omega
    have wb : 1 ≤ w ∧ w ≤ 4320 := by simp only [List.mem_cons, List.not_mem_nil, or_false] at wm; omega
    clear um wm
    have hv' : VZ o (c ++ [⟨x, u⟩]) := VZ.app hv (by omega) h0 (by show x ≤ _; omega) ub.1 ub.2 hA
    obtain ⟨c', a', he, h3, h4, h5⟩ := ih (x + w) a2 o _ hT2 hv' (by simp; omega) (by omega) (by omega) (fun i hi => by
      rw [A_app]
      by_cases hlt : i < c.length
      · rw [if_pos hlt]; have := hA i hlt; omega
      · simp at hi
        rw [if_neg hlt, if_pos (by omega)]
        show x < x + w; omega)
    have e1 : wrap64 (x + w) = x + w := w64 (by omega) (by omega)
    have e2 : wrap64 (((d + 1 : Nat) : Int) - 1) = (d : Int) := w64n (by omega) (by omega)
    refine ⟨c', a', ?_, h3, by simp at h4; omega, h5⟩
    refine Ev.step (fun k => by rw [payrollgen_Tape_Zone.l0]) ?_
    refine ev_pos (by omega) (ev_bindc hu (ev_pos (by omega) (ev_bindc hw ?_)))
    rw [e1, e2]
    exact he
theorem zone {l : List Int} {a : Int} (hT : Tp l a) : ∃ o c a', Ev (fun k => payrollgen_Tape_Zone.f k l a) (o, c, a') ∧ VZ o c ∧ c.length ≤ 3 ∧ Tp l a' := by
  obtain ⟨o, a1, ho, om, h1⟩ := pick hT [0, 60, (-300), 840, (-840), 570] (by simp) (by simp)
  obtain ⟨x, a2, hx, xm, h2⟩ := pick h1 [0, 29453760, 29455200, 29456700, 29453060] (by simp) (by simp)
  obtain ⟨n, a3, hn, n0, n1, h3⟩ := next h2 (n := 4) (by omega) (by omega)
  have ob : -840 ≤ o ∧ o ≤ 840 := by simp only [List.mem_cons, List.not_mem_nil, or_false] at om; omega
  have xb : 0 ≤ x ∧ x ≤ 29456700 := by simp only [List.mem_cons, List.not_mem_nil, or_false] at xm; omega
  clear om xm
  obtain ⟨d, rfl⟩ : ∃ d : Nat, n = d := ⟨n.toNat, by omega⟩
  have hv : VZ o [] := ⟨by simp, ob.1, ob.2, fun i hi => by simp at hi, fun i hi => by simp at hi, fun i hi => by simp at hi, fun i hi => by simp at hi, fun i hi => by simp at hi⟩
  obtain ⟨c, a', he, h4, h5, h6⟩ := zone_loop d x a3 o [] h3 hv (by simp; omega) xb.1 (by omega) (fun i hi => by simp at hi)
  refine ⟨o, c, a', ?_, h4, by simp at h5; omega, h6⟩
  unfold payrollgen_Tape_Zone.f
  exact ev_bindc ho (ev_bindc hx (ev_bindc hn he))
end Go.Proofs.Ytjfdhlagnimkmaa.ClkB
