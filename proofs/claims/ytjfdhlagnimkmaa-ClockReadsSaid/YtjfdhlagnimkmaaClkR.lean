/- Plain lemmas for the laws of this seat: what its functions answer; no condition beyond those that each lemma states. -/
import Derived.Test.YtjfdhlagnimkmaaClkC
import Derived.Test.YtjfdhlagnimkmaaFpayrolllaw4reads
namespace Go.Proofs.Ytjfdhlagnimkmaa.ClkR
open Go.RowKit Go.Proofs.YtjfdhlagnimkmaaW.PrintWords Go.Proofs.Ytjfdhlagnimkmaa.P Go.Proofs.Ytjfdhlagnimkmaa.K Go.Proofs.Ytjfdhlagnimkmaa.ClkA Go.Proofs.Ytjfdhlagnimkmaa.ClkB Go.Proofs.Ytjfdhlagnimkmaa.ClkC
/-! clock: the reference answers what the program answers. -/
theorem isInstant (t : Int) : payrollref4_IsInstant.f t = some (decide (0 ≤ t ∧ t ≤ 120968639)) := by
  unfold payrollref4_IsInstant.f
  by_cases h : t ≥ 0
  · rw [if_pos h]; congr 1; rw [decide_eq_decide]; omega
  · rw [if_neg h]; congr 1; symm; rw [decide_eq_false_iff_not]; omega
theorem isOffset (t : Int) : payrollref4_IsOffset.f t = some (decide (-840 ≤ t ∧ t ≤ 840)) := by
  unfold payrollref4_IsOffset.f
  by_cases h : t ≥ -840
  · rw [if_pos h]; congr 1; rw [decide_eq_decide]; omega
  · rw [if_neg h]; congr 1; symm; rw [decide_eq_false_iff_not]; omega
theorem valid_loop (o : Int) (c : List S42) (hl : c.length ≤ 64) (d : Nat) : ∀ i, i + d = c.length →
    Ev (fun k => payrollref4_Valid.l0 k (i : Int) o c) (verr c d i) := by
  induction d with
  | zero =>
    intro i hi
    refine Ev.step (fun k => by rw [payrollref4_Valid.l0]) ?_
    exact ev_neg (by omega) (ev_some rfl)
  | succ d ih =>
    intro i hi
    have ih := ih (i + 1) (by omega)
    have e1 : wrap64 ((i : Int) + 1) = ((i + 1 : Nat) : Int) := w64n (by omega) (by omega)
    have bad : ∀ b : Bool, b = true → Ev (fun k => payrollref4_Valid.j1 k (i : Int) b o c (A c i) (O c i)) 2 := fun b hb =>
      Ev.step (fun k => by rw [payrollref4_Valid.j1]) (ev_pos hb (ev_some rfl))
    refine Ev.step (fun k => by rw [payrollref4_Valid.l0]) ?_
    refine ev_pos (by omega) (ev_pos (by omega) ?_)
    simp only [rdA]
    unfold verr
    refine ev_bindc (isInstant _) ?_
    by_cases b1 : 0 ≤ A c i ∧ A c i ≤ 120968639
    · refine ev_pos (decide_eq_true b1) (ev_bindc (isOffset _) ?_)
      by_cases b2 : -840 ≤ O c i ∧ O c i ≤ 840
      · rw [if_neg (show ¬ (A c i < 0 ∨ A c i > 120968639 ∨ O c i < -840 ∨ O c i > 840) by omega)]
        have ed : decide (-840 ≤ O c i ∧ O c i ≤ 840) = true := decide_eq_true b2
        show Ev (fun k => payrollref4_Valid.j1 k (i : Int) (!decide (-840 ≤ O c i ∧ O c i ≤ 840)) o c (A c i) (O c i)) _
        rw [ed]
        refine Ev.step (fun k => by rw [payrollref4_Valid.j1]) ?_
        refine ev_neg (by decide) ?_
        simp only [e1]
        by_cases h0 : 0 < i
        · have e2 : wrap64 ((i : Int) - 1) = ((i - 1 : Nat) : Int) := w64n (by omega) (by omega)
          simp only [e2, rdA]
          refine ev_pos (by omega) (ev_pos (by omega) (ev_pos (by omega) ?_))
          by_cases b5 : A c i ≤ A c (i - 1)
          · rw [if_pos ⟨h0, b5⟩]; exact ev_pos b5 (ev_some rfl)
          · rw [if_neg (fun h => b5 h.2)]; exact ev_neg b5 ih
        · rw [if_neg (fun h => h0 h.1)]
          exact ev_neg (by omega) ih
      · rw [if_pos (show A c i < 0 ∨ A c i > 120968639 ∨ O c i < -840 ∨ O c i > 840 by omega)]
        refine bad _ ?_
        show (!decide (-840 ≤ O c i ∧ O c i ≤ 840)) = true
        rw [decide_eq_false b2]; rfl
    · rw [if_pos (show A c i < 0 ∨ A c i > 120968639 ∨ O c i < -840 ∨ O c i > 840 by omega)]
      exact ev_neg (fun hh => b1 (of_decide_eq_true hh)) (bad _ rfl)
theorem valid_ev (o : Int) (c : List S42) : Ev (fun k => payrollref4_Valid.f k o c) (vz o c) := by
  unfold payrollref4_Valid.f vz
  by_cases h : c.length > 64
  · rw [if_pos h]; exact ev_pos (by omega) (ev_some rfl)
  rw [if_neg h]
  refine ev_neg (by omega) (ev_bindc (isOffset o) ?_)
  by_cases h1 : -840 ≤ o ∧ o ≤ 840
  · rw [if_neg (show ¬ (o < -840 ∨ o > 840) by omega)]
    exact ev_pos (decide_eq_true h1) (valid_loop o c (by omega) c.length 0 (by omega))
  · rw [if_pos (show o < -840 ∨ o > 840 by omega)]
    exact ev_neg (fun hh => h1 (of_decide_eq_true hh)) (ev_some rfl)
theorem shift_loop {o : Int} {c : List S42} (hl : c.length ≤ 64) (t : Int) : ∀ j, j ≤ c.length → Ev (fun k => payrollref4_Shift.l0 k t ((j : Int) - 1) o c) (offA o c t j)
  | 0, _ => by
    refine Ev.step (fun k => by rw [payrollref4_Shift.l0]) ?_
    exact ev_neg (by omega) (ev_some rfl)
  | j + 1, hj => by
    have ih := shift_loop (o := o) hl t j (by omega)
    have e1 : wrap64 ((j : Int) - 1) = (j : Int) - 1 := w64 (by omega) (by omega)
    have e2 : (((j + 1 : Nat) : Int) - 1) = (j : Int) := by omega
    rw [e2]
    refine Ev.step (fun k => by rw [payrollref4_Shift.l0]) (ev_pos (by omega) (ev_pos (by omega) (ev_pos (by omega) ?_)))
    simp only [rdA, e1]
    unfold offA
    by_cases h : A c j ≤ t
    · rw [if_pos h]; exact ev_pos h (ev_some rfl)
    · rw [if_neg h]; exact ev_neg h ih
theorem offset_ev (o : Int) (c : List S42) (t : Int) : Ev (fun k => payrollref4_Offset.f k o c t) (offr o c t) := by
  unfold payrollref4_Offset.f offr
  refine Ev.bind (valid_ev o c) ?_
  by_cases h : vz o c = 0
  · have hl := (vz_zero h).len
    refine ev_pos h (ev_bindc (isInstant t) ?_)
    by_cases h1 : 0 ≤ t ∧ t ≤ 120968639
    · rw [if_pos (ckd_ok (vz_zero h) h1.1 h1.2)]
      refine ev_pos (decide_eq_true h1) (Ev.bind (a := off o c t) ?_ (ev_some rfl))
      unfold payrollref4_Shift.f off
      rw [w64 (x := (c.length : Int) - 1) (by omega) (by omega)]
      exact shift_loop hl t c.length (Nat.le_refl _)
    · have e : ckd o c t = 2 := by unfold ckd; rw [if_pos h, if_pos (by omega)]
      rw [e]
      exact ev_neg (fun hh => h1 (of_decide_eq_true hh)) (ev_some rfl)
  · have e : ckd o c t = vz o c := by unfold ckd; rw [if_neg h]
    rw [e, if_neg h]
    exact ev_neg h (ev_some rfl)
theorem local_ev (o : Int) (c : List S42) (t : Int) : Ev (fun k => payrollref4_Local.f k o c t) (locr o c t) := by
  unfold payrollref4_Local.f
  refine Ev.bind (offset_ev o c t) ?_
  unfold offr locr
  by_cases h : ckd o c t = 0
  · obtain ⟨hv, h0, h1⟩ := ckd_zero h
    have hb := off_bd hv t
    simp only [if_pos h]
    refine ev_pos trivial (ev_some ?_)
    rw [w64 (by omega) (by omega)]
  · simp only [if_neg h]
    exact ev_some rfl
/-! ### segments -/
section
variable {o : Int} {c : List S42} (h : VZ o c)
include h
theorem segment_eq (i : Nat) (hi : i ≤ c.length) : payrollref4_segment.f o c (i : Int) = some (frm c i, tto c i - 1, ofs o c i) := by
  have hl := h.len
  unfold payrollref4_segment.f frm tto ofs
  by_cases h0 : i = 0
  · subst h0
    rw [if_neg (by omega), if_pos rfl, if_pos rfl]
    by_cases h1 : 0 < c.length
    · have a0 := h.a0 0 h1
      have a1 := h.a1 0 h1
      rw [if_pos (by omega), if_pos (by omega), if_pos h1]
      have e : wrap64 ((rd_T42 c ((0 : Nat) : Int)).f0 - 1) = A c 0 - 1 := by rw [rdA]; exact w64 (x := A c 0 - 1) (by omega) (by omega)
      rw [e]
    · rw [if_neg (by omega), if_neg h1]; rfl
  · have e2 : wrap64 ((i : Int) - 1) = ((i - 1 : Nat) : Int) := w64n (by omega) (by omega)
    rw [if_pos (by omega), e2, if_pos (by omega), if_pos (by omega), if_neg h0, if_neg h0]
    by_cases h1 : i < c.length
    · have a0 := h.a0 i h1
      have a1 := h.a1 i h1
      rw [if_pos (by omega), if_pos (by omega), if_pos h1]
      have e : wrap64 ((rd_T42 c (i : Int)).f0 - 1) = A c i - 1 := by rw [rdA]; exact w64 (x := A c i - 1) (by omega) (by omega)
      rw [e, rdA]
    · rw [if_neg (by omega), if_neg h1, rdA]; rfl
omit h in
/-- An empty first segment says nothing. -/
theorem inst_pts (x : Int) : instL x (segs o c) = instL x (pts o c) := by
  unfold pts
  cases hs : segs o c with
  | nil => rfl
  | cons p r =>
    rw [dropE_cons]
    split
    · rename_i he
      rw [instL, if_neg (by omega)]
    · rfl
omit h in
theorem first_pts (x : Int) : firstL x (segs o c) = firstL x (pts o c) := by
  unfold pts
  cases hs : segs o c with
  | nil => rfl
  | cons p r =>
    rw [dropE_cons]
    split
    · rename_i he
      rw [firstL, if_neg (by omega)]
    · rfl
theorem inst_loop (x : Int) (d : Nat) : ∀ i (out : List Int), i + d = c.length + 1 → out.length ≤ i →
    Ev (fun k => payrollref4_Instants.l0 k x out (i : Int) o c) (out ++ instL x (segF o c d i), 0) := by
  have hl := h.len
  induction d with
  | zero =>
    intro i out hi ho
    refine Ev.step (fun k => by rw [payrollref4_Instants.l0]) ?_
    refine ev_neg (by omega) (ev_some ?_)
    simp [segF, instL]
  | succ d ih =>
    intro i out hi ho
    have b := frm_le h i (by omega)
    have g := ofs_bd h i (by omega)
    have e1 : wrap64 ((i : Int) + 1) = ((i + 1 : Nat) : Int) := w64n (by omega) (by omega)
    have e2 : wrap64 (frm c i + ofs o c i) = frm c i + ofs o c i := w64 (by omega) (by omega)
    have e3 : wrap64 (tto c i - 1 + ofs o c i) = tto c i - 1 + ofs o c i := w64 (by omega) (by omega)
    refine Ev.step (fun k => by rw [payrollref4_Instants.l0]) ?_
    refine ev_pos (by omega) (ev_bindc (segment_eq h i (by omega)) ?_)
    simp only [e1, e2, e3]
    rw [segF, instL]
    have q0 : (seg o c i).f0 = frm c i := rfl
    have q1 : (seg o c i).f1 = tto c i := rfl
    have q2 : (seg o c i).f2 = ofs o c i := rfl
    rw [q0, q1, q2]
    by_cases h1 : x ≥ frm c i + ofs o c i
    · refine ev_pos h1 ?_
      by_cases h2 : x ≤ tto c i - 1 + ofs o c i
      · have e4 : wrap64 (x - ofs o c i) = x - ofs o c i := w64 (by omega) (by omega)
        rw [if_pos (by omega), e4]
        refine ev_pos h2 (ev_pos (by omega) ?_)
        have := ih (i + 1) (out ++ [x - ofs o c i]) (by omega) (by simp; omega)
        rw [List.append_assoc] at this
        exact this
      · rw [if_neg (by omega)]
        exact ev_neg h2 (ih (i + 1) out (by omega) (by omega))
    · rw [if_neg (by omega)]
      exact ev_neg h1 (ih (i + 1) out (by omega) (by omega))
theorem first_loop (x : Int) (d : Nat) : ∀ i, i + d = c.length + 1 →
    Ev (fun k => payrollref4_first.l0 k x (i : Int) o c) (firstL x (segF o c d i)) := by
  have hl := h.len
  induction d with
  | zero =>
    intro i hi
    refine Ev.step (fun k => by rw [payrollref4_first.l0]) ?_
    refine ev_neg (by omega) (ev_some ?_)
    simp [segF, firstL]
  | succ d ih =>
    intro i hi
    have ih := ih (i + 1) (by omega)
    have b := frm_le h i (by omega)
    have g := ofs_bd h i (by omega)
    have e1 : wrap64 ((i : Int) + 1) = ((i + 1 : Nat) : Int) := w64n (by omega) (by omega)
    have e2 : wrap64 (frm c i + ofs o c i) = frm c i + ofs o c i := w64 (by omega) (by omega)
    have e3 : wrap64 (tto c i - 1 + ofs o c i) = tto c i - 1 + ofs o c i := w64 (by omega) (by omega)
    have next : ∀ b : Bool, b = true → Ev (fun k => payrollref4_first.j1 k x (i : Int) (frm c i) (ofs o c i) b o c) (firstL x (segF o c d (i + 1))) := by
      intro b hb
      refine Ev.step (fun k => by rw [payrollref4_first.j1]) ?_
      rw [e1]
      exact ev_pos hb ih
    refine Ev.step (fun k => by rw [payrollref4_first.l0]) ?_
    refine ev_pos (by omega) (ev_bindc (segment_eq h i (by omega)) ?_)
    rw [segF, firstL]
    have q0 : (seg o c i).f0 = frm c i := rfl
    have q1 : (seg o c i).f1 = tto c i := rfl
    have q2 : (seg o c i).f2 = ofs o c i := rfl
    rw [q0, q1, q2]
    by_cases h1 : frm c i > tto c i - 1
    · rw [if_neg (by omega)]
      exact ev_pos h1 (next _ rfl)
    refine ev_neg h1 ?_
    show Ev (fun k => payrollref4_first.j1 k x (i : Int) (frm c i) (ofs o c i) (decide (wrap64 (tto c i - 1 + ofs o c i) < x)) o c) _
    rw [e3]
    by_cases h2 : tto c i - 1 + ofs o c i < x
    · rw [if_neg (by omega)]
      exact next _ (decide_eq_true h2)
    · rw [if_pos (by omega)]
      refine Ev.step (fun k => by rw [payrollref4_first.j1]) ?_
      refine ev_neg (fun hh => h2 (of_decide_eq_true hh)) ?_
      rw [e2]
      by_cases h3 : frm c i + ofs o c i ≥ x
      · exact ev_pos h3 (ev_some (by omega))
      · refine ev_neg h3 (ev_some ?_)
        rw [w64 (by omega) (by omega)]; omega
theorem first_in (x : Int) : Ev (fun k => payrollref4_first.f k o c x) (fir o c x) := by
  unfold payrollref4_first.f fir
  rw [← first_pts]
  exact first_loop h x (c.length + 1) 0 (by omega)
theorem begin_in {d : Int} (d0 : 0 ≤ d) (d1 : d ≤ 84006) : Ev (fun k => payrollref4_begin.f k o c d) (bg o c d) := by
  unfold payrollref4_begin.f bg
  by_cases h0 : d = 0
  · rw [if_pos h0]; exact ev_pos h0 (ev_some rfl)
  rw [if_neg h0]
  refine ev_neg h0 ?_
  by_cases h1 : d = 84006
  · rw [if_pos (by omega)]; exact ev_pos h1 (ev_some rfl)
  rw [if_neg (by omega)]
  refine ev_neg h1 ?_
  rw [w64 (x := d * 1440) (by omega) (by omega)]
  exact Ev.bind (first_in h _) (ev_some rfl)
theorem day_loop {t : Int} (t0 : 0 ≤ t) (t1 : t ≤ 120968639) (n : Nat) : ∀ d : Int, dy o c t ≤ d → d ≤ 84005 → d = dy o c t + n →
    Ev (fun k => payrollref4_Day.l0 k t d o c) (dy o c t, 0) := by
  have hb := dy_bd h t1
  induction n with
  | zero =>
    intro d h0 h1 h2
    obtain rfl : d = dy o c t := by omega
    have := (bg_iff h t0 t1 hb.1 (by omega)).2 (Int.le_refl _)
    refine Ev.step (fun k => by rw [payrollref4_Day.l0]) ?_
    exact Ev.bind (begin_in h hb.1 (by omega)) (ev_neg (by omega) (ev_some rfl))
  | succ n ih =>
    intro d h0 h1 h2
    have hn : ¬ bg o c d ≤ t := fun hh => by
      have := (bg_iff h t0 t1 (d := d) (by omega) (by omega)).1 hh
      omega
    have e : wrap64 (d - 1) = d - 1 := w64 (by omega) (by omega)
    refine Ev.step (fun k => by rw [payrollref4_Day.l0]) ?_
    refine Ev.bind (begin_in h (by omega) (by omega)) (ev_pos (by omega) ?_)
    rw [e]
    exact ih (d - 1) (by omega) (by omega) (by omega)
end
theorem instants_ev (o : Int) (c : List S42) (x : Int) : Ev (fun k => payrollref4_Instants.f k o c x) (insr o c x) := by
  unfold payrollref4_Instants.f insr
  refine Ev.bind (valid_ev o c) ?_
  by_cases h : vz o c = 0
  · have hv := vz_zero h
    simp only [if_pos h]
    rw [← inst_pts]
    exact inst_loop hv x (c.length + 1) 0 [] (by omega) (by simp)
  · simp only [if_neg h]
    exact ev_some rfl
theorem first_ev (o : Int) (c : List S42) (x : Int) : Ev (fun k => payrollref4_First.f k o c x) (firr o c x) := by
  unfold payrollref4_First.f firr
  refine Ev.bind (valid_ev o c) ?_
  by_cases h : vz o c = 0
  · have hv := vz_zero h
    simp only [if_pos h]
    exact Ev.bind (first_in hv x) (ev_some rfl)
  · simp only [if_neg h]
    exact ev_some rfl
theorem begin_ev (o : Int) (c : List S42) (d : Int) : Ev (fun k => payrollref4_Begin.f k o c d) (begr o c d) := by
  unfold payrollref4_Begin.f begr
  refine Ev.bind (valid_ev o c) ?_
  by_cases h : vz o c = 0
  · have hv := vz_zero h
    simp only [if_pos h]
    by_cases h1 : d < 0
    · rw [if_pos (show d < 0 ∨ d > 84006 by omega)]; exact ev_pos h1 (ev_some rfl)
    refine ev_neg h1 ?_
    by_cases h2 : d > 84006
    · rw [if_pos (show d < 0 ∨ d > 84006 by omega)]; exact ev_pos h2 (ev_some rfl)
    rw [if_neg (show ¬ (d < 0 ∨ d > 84006) by omega)]
    exact ev_neg h2 (Ev.bind (begin_in hv (by omega) (by omega)) (ev_some rfl))
  · simp only [if_neg h]
    exact ev_some rfl
theorem day_ev (o : Int) (c : List S42) (t : Int) : Ev (fun k => payrollref4_Day.f k o c t) (dayr o c t) := by
  unfold payrollref4_Day.f
  refine Ev.bind (offset_ev o c t) ?_
  unfold offr dayr
  by_cases h : ckd o c t = 0
  · obtain ⟨hv, h0, h1⟩ := ckd_zero h
    have hb := dy_bd hv h1
    obtain ⟨m1, m2, m3⟩ := most_spec (o := o) (c := c) h1 (pts o c) 0 0 (chain_pts hv) (tells_pts hv) (ne_pts hv)
    have hm : most o c t ≤ t + 840 := by
      unfold most
      rcases m3 with m3 | ⟨s, s0, s1, s2⟩
      · omega
      · have := off_bd hv s; omega
    have hd : dy o c t ≤ t / 1440 + 2 := by unfold dy; omega
    simp only [if_pos h]
    refine ev_pos trivial ?_
    have e : wrap64 (wrap64 (Int.tdiv t 1440) + 2) = t / 1440 + 2 := by
      rw [tdiv_pos h0, w64 (x := t / 1440) (by omega) (by omega)]
      exact w64 (by omega) (by omega)
    rw [e, mn_eq]
    exact day_loop hv h0 h1 (min (t / 1440 + 2) 84005 - dy o c t).toNat _ (by omega) (by omega) (by omega)
  · simp only [if_neg h]
    exact ev_some rfl
/-! ### the two are compared -/
theorem reads_loop (o : Int) (c : List S42) (t x d : Int) (L : List Int) (hl : L.length ≤ 65) (n : Nat) : ∀ i, i + n = L.length →
    Ev (fun k => payrolllaw4_reads.l0 k t x d L L (i : Int) o c) true := by
  induction n with
  | zero =>
    intro i hi
    refine Ev.step (fun k => by rw [payrolllaw4_reads.l0]) ?_
    refine ev_neg (by omega) (Ev.bind (ClkA.first_ev o c x) (Ev.bind (first_ev o c x) (Ev.bind (ClkC.begin_ev o c d) (Ev.bind (begin_ev o c d) (Ev.bind (ClkC.day_ev o c t) (Ev.bind (day_ev o c t) ?_))))))
    exact ev_pos rfl (ev_pos rfl (ev_pos rfl (ev_pos rfl (ev_pos rfl (ev_some (by simp))))))
  | succ n ih =>
    intro i hi
    have ih := ih (i + 1) (by omega)
    have e1 : wrap64 ((i : Int) + 1) = ((i + 1 : Nat) : Int) := w64n (by omega) (by omega)
    refine Ev.step (fun k => by rw [payrolllaw4_reads.l0]) ?_
    refine ev_pos (by omega) (ev_pos (by omega) (ev_pos (by omega) (ev_pos rfl ?_)))
    rw [e1]
    exact ih
theorem insr_len (o : Int) (c : List S42) (x : Int) : (insr o c x).1.length ≤ 65 := by
  unfold insr
  split
  · rename_i h
    have hv := vz_zero h
    have := (inst_spec (o := o) (c := c) x (pts o c) 0 (chain_pts hv) (tells_pts hv)).2.2.1
    have := pts_len hv
    show (instL x (pts o c)).length ≤ 65
    omega
  · simp
theorem reads_ev (o : Int) (c : List S42) (t x d : Int) : Ev (fun k => payrolllaw4_reads.f k o c t x d) true := by
  unfold payrolllaw4_reads.f
  refine Ev.bind (ClkA.offset_ev o c t) (Ev.bind (offset_ev o c t) (Ev.bind (ClkA.local_ev o c t) (Ev.bind (local_ev o c t) (Ev.bind (ClkA.instants_ev o c x) (Ev.bind (instants_ev o c x) ?_)))))
  refine ev_pos rfl (ev_pos rfl (ev_pos rfl (ev_pos rfl (ev_pos rfl (ev_pos rfl (Ev.bind (ClkA.valid_ev o c) (Ev.bind (valid_ev o c) ?_)))))))
  refine Ev.step (fun k => by rw [payrolllaw4_reads.j0]) ?_
  exact ev_neg (by simp) (reads_loop o c t x d _ (insr_len o c x) _ 0 (Nat.zero_add _))
end Go.Proofs.Ytjfdhlagnimkmaa.ClkR
