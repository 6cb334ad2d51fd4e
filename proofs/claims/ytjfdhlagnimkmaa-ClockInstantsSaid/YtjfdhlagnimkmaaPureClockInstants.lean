/- ClockInstants: for every list of numbers and every number the law answers true (an instant is one of the instants of its local minute, and these have this local minute, in ascending order). -/
import Derived.Test.YtjfdhlagnimkmaaClkD
import Derived.Test.YtjfdhlagnimkmaaFpayrolllaw4ClockInstants
namespace Go.Proofs.Ytjfdhlagnimkmaa.Pure
open Go.RowKit Go.Proofs.YtjfdhlagnimkmaaW.PrintWords Go.Proofs.Ytjfdhlagnimkmaa.P Go.Proofs.Ytjfdhlagnimkmaa.K Go.Proofs.Ytjfdhlagnimkmaa.ClkA Go.Proofs.Ytjfdhlagnimkmaa.ClkB Go.Proofs.Ytjfdhlagnimkmaa.ClkC Go.Proofs.Ytjfdhlagnimkmaa.ClkD Go.Proofs.Ytjfdhlagnimkmaa.Tape
theorem insr_ok {o : Int} {c : List S42} (h : VZ o c) (x : Int) : insr o c x = (instL x (pts o c), 0) := by
  unfold insr; rw [if_pos h.zero]
theorem getD_mem {l : List Int} {i : Nat} (hi : i < l.length) : l.getD i 0 ∈ l := by
  simp [List.getD_eq_getElem?_getD, hi]
theorem inst_loop1 {o : Int} {c : List S42} (h : VZ o c) (x : Int) (L : List Int) (hl : L.length ≤ 65) (hL : ∀ y ∈ L, 0 ≤ y ∧ y ≤ 120968639 ∧ y + off o c y = x) (hn : L.length ≤ c.length + 1) (d : Nat) : ∀ i, i + d = L.length →
    Ev (fun k => payrolllaw4_ClockInstants.l1 k x true L 0 (i : Int) o c) true := by
  have hcl := h.len
  induction d with
  | zero =>
    intro i hi
    have e : wrap64 ((c.length : Int) + 1) = (c.length : Int) + 1 := w64 (by omega) (by omega)
    refine Ev.step (fun k => by rw [payrolllaw4_ClockInstants.l1]) ?_
    exact ev_neg (by omega) (ev_pos rfl (ev_pos rfl (ev_pos (by rw [e]; omega) (Ev.bind sane_ev (ev_some rfl)))))
  | succ d ih =>
    intro i hi
    have ih := ih (i + 1) (by omega)
    have e1 : wrap64 ((i : Int) + 1) = ((i + 1 : Nat) : Int) := w64n (by omega) (by omega)
    obtain ⟨y0, y1, y2⟩ := hL _ (getD_mem (show i < L.length by omega))
    refine Ev.step (fun k => by rw [payrolllaw4_ClockInstants.l1]) ?_
    simp only [e1, rd_nat]
    refine ev_pos (by omega) (ev_pos (by omega) (Ev.bind (local_ev o c _) ?_))
    rw [locr_ok h y0 y1]
    exact ev_pos rfl (ev_pos y2 ih)
theorem inst_loop0 {o : Int} {c : List S42} (h : VZ o c) (x local_ n : Int) (L : List Int) (hl : L.length ≤ 65) (hL : ∀ y ∈ L, 0 ≤ y ∧ y ≤ 120968639 ∧ y + off o c y = x) (hs : L.Pairwise (· < ·)) (_hn : n ∈ L) (d : Nat) : ∀ i (f : Bool), i + d = L.length → (f = true ∨ n ∈ L.drop i) →
    Ev (fun k => payrolllaw4_ClockInstants.l0 k local_ n x L f (i : Int) o c) true := by
  induction d with
  | zero =>
    intro i f hi hf
    have hf : f = true := by
      rcases hf with hf | hf
      · exact hf
      · rw [List.drop_eq_nil_of_le (by omega)] at hf; simp at hf
    obtain ⟨i1, i2, i3, i4⟩ := inst_spec (o := o) (c := c) local_ (pts o c) 0 (chain_pts h) (tells_pts h)
    have i5 := pts_len h
    have i6 := pts_len' (o := o) (c := c)
    refine Ev.step (fun k => by rw [payrolllaw4_ClockInstants.l0]) ?_
    refine ev_neg (by omega) (Ev.bind (instants_ev o c local_) ?_)
    rw [insr_ok h, hf]
    exact inst_loop1 h local_ _ (by omega) i1 (by omega) (instL local_ (pts o c)).length 0 (by omega)
  | succ d ih =>
    intro i f hi hf
    have e1 : wrap64 ((i : Int) + 1) = ((i + 1 : Nat) : Int) := w64n (by omega) (by omega)
    obtain ⟨y0, y1, y2⟩ := hL _ (getD_mem (show i < L.length by omega))
    have hd : L.drop i = L.getD i 0 :: L.drop (i + 1) := by
      rw [List.drop_eq_getElem_cons (show i < L.length by omega)]
      simp [List.getD_eq_getElem?_getD, show i < L.length by omega]
    have fin : Ev (fun k => if f = true then payrolllaw4_ClockInstants.l0 k local_ n x L true ((i + 1 : Nat) : Int) o c else payrolllaw4_ClockInstants.l0 k local_ n x L (L.getD i 0 == n) ((i + 1 : Nat) : Int) o c) true := by
      by_cases hft : f = true
      · exact ev_pos hft (ih (i + 1) true (by omega) (.inl rfl))
      · refine ev_neg hft (ih (i + 1) _ (by omega) ?_)
        rcases hf with hf | hf
        · exact absurd hf hft
        · rw [hd] at hf
          rcases List.mem_cons.1 hf with he | he
          · exact .inl (by simp [he])
          · exact .inr he
    refine Ev.step (fun k => by rw [payrolllaw4_ClockInstants.l0]) ?_
    refine ev_pos (by omega) (ev_pos (by omega) ?_)
    simp only [e1, rd_nat]
    refine Ev.bind (local_ev o c _) ?_
    rw [locr_ok h y0 y1]
    refine ev_pos rfl (ev_pos y2 ?_)
    by_cases h0 : (i : Int) > 0
    · have e2 : wrap64 ((i : Int) - 1) = ((i - 1 : Nat) : Int) := w64n (by omega) (by omega)
      refine ev_pos h0 ?_
      simp only [e2, rd_nat]
      have hlt : L.getD (i - 1) 0 < L.getD i 0 := by
        have := List.pairwise_iff_getElem.1 hs (i - 1) i (by omega) (by omega) (by omega)
        simpa [List.getD_eq_getElem?_getD, show i < L.length by omega, show i - 1 < L.length by omega] using this
      exact ev_pos (by omega) (ev_pos (by omega) (ev_neg (by omega) fin))
    · exact ev_neg h0 fin
theorem ClockInstants : payrolllaw4_ClockInstants.Pure := by
  intro l x _ hl _ _
  obtain ⟨o, c, a1, hz, hv, hcl, hT1⟩ := zone (tp_new hl)
  obtain ⟨n, a2, hn, n0, n1, hT2⟩ := near hT1
  apply Ev.rounds
  unfold payrolllaw4_ClockInstants.f
  obtain ⟨i1, i2, i3, i4⟩ := inst_spec (o := o) (c := c) (n + off o c n) (pts o c) 0 (chain_pts hv) (tells_pts hv)
  have i5 := pts_len hv
  refine ev_bindc (a := (l, 0)) rfl (Ev.bind hz (ev_bindc hn (Ev.bind (local_ev o c n) (Ev.bind (instants_ev o c _) ?_))))
  rw [locr_ok hv (by omega) (by omega)]
  show Ev (fun k => if (0 : Int) = 0 then payrolllaw4_ClockInstants.j0 k x n (n + off o c n) (insr o c (n + off o c n)).1 ((insr o c (n + off o c n)).2 != 0) o c else _) true
  rw [insr_ok hv]
  refine ev_pos rfl ?_
  refine Ev.step (fun k => by rw [payrolllaw4_ClockInstants.j0]) ?_
  refine ev_neg (by simp) ?_
  have hmem := i4 n (by omega) (by omega) rfl
  exact inst_loop0 hv _ x n _ (by omega) i1 i2 hmem _ 0 false (Nat.zero_add _) (.inr hmem)
end Go.Proofs.Ytjfdhlagnimkmaa.Pure
