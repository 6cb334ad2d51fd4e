/- Plain lemmas for the laws of this seat: what its functions answer; no condition beyond those that each lemma states. -/
import Derived.Test.YtjfdhlagnimkmaaKit
import Derived.Test.YtjfdhlagnimkmaaFclockInstants
import Derived.Test.YtjfdhlagnimkmaaFclockFirst
import Derived.Test.YtjfdhlagnimkmaaFclockLocal
namespace Go.Proofs.Ytjfdhlagnimkmaa.ClkA
open Go.RowKit Go.Proofs.YtjfdhlagnimkmaaW.PrintWords Go.Proofs.Ytjfdhlagnimkmaa.P Go.Proofs.Ytjfdhlagnimkmaa.K
/-! clock: Valid, the segments of a zone, and what the program's Offset, Local, Instants and First answer. -/
abbrev A (c : List S42) (i : Nat) : Int := (c.getD i z42).f0
abbrev O (c : List S42) (i : Nat) : Int := (c.getD i z42).f1
theorem rdA (c : List S42) (i : Nat) : rd_T42 c (i : Int) = c.getD i z42 := rfl
theorem rdP (c : List S53) (i : Nat) : rd_T53 c (i : Int) = c.getD i z53 := rfl
/-! ### Valid -/
/-- The first error of the changes from i on. -/
def verr (c : List S42) : Nat → Nat → Int
  | 0, _ => 0
  | d + 1, i => if A c i < 0 ∨ A c i > 120968639 ∨ O c i < -840 ∨ O c i > 840 then 2 else if 0 < i ∧ A c i ≤ A c (i - 1) then 1 else verr c d (i + 1)
def vz (o : Int) (c : List S42) : Int := if c.length > 64 then 3 else if o < -840 ∨ o > 840 then 2 else verr c c.length 0
structure VZ (o : Int) (c : List S42) : Prop where
  len : c.length ≤ 64
  o0 : -840 ≤ o
  o1 : o ≤ 840
  a0 : ∀ i, i < c.length → 0 ≤ A c i
  a1 : ∀ i, i < c.length → A c i ≤ 120968639
  f0 : ∀ i, i < c.length → -840 ≤ O c i
  f1 : ∀ i, i < c.length → O c i ≤ 840
  asc : ∀ i, i + 1 < c.length → A c i < A c (i + 1)
theorem verr_zero (c : List S42) (d : Nat) : ∀ i, i + d = c.length → verr c d i = 0 →
    ∀ j, i ≤ j → j < c.length → 0 ≤ A c j ∧ A c j ≤ 120968639 ∧ -840 ≤ O c j ∧ O c j ≤ 840 ∧ (0 < j → A c (j - 1) < A c j) := by
  induction d with
  | zero => intro i hi _ j h1 h2; omega
  | succ d ih =>
    intro i hi h j h1 h2
    unfold verr at h
    split at h
    · omega
    · split at h
      · omega
      · rcases Nat.lt_or_ge i j with hlt | hge
        · exact ih (i + 1) (by omega) h j hlt h2
        · obtain rfl : j = i := by omega
          omega
theorem vz_zero {o : Int} {c : List S42} (h : vz o c = 0) : VZ o c := by
  unfold vz at h
  split at h
  · omega
  · split at h
    · omega
    · have g := verr_zero c c.length 0 (by omega) h
      exact ⟨by omega, by omega, by omega, fun i hi => (g i (by omega) hi).1, fun i hi => (g i (by omega) hi).2.1, fun i hi => (g i (by omega) hi).2.2.1, fun i hi => (g i (by omega) hi).2.2.2.1,
        fun i hi => by have := (g (i + 1) (by omega) hi).2.2.2.2 (by omega); simpa using this⟩
theorem VZ.zero {o : Int} {c : List S42} (h : VZ o c) : vz o c = 0 := by
  have hl := h.len
  have h1 := h.o0
  have h2 := h.o1
  unfold vz
  rw [if_neg (by omega), if_neg (by omega)]
  have go : ∀ d i, i + d = c.length → verr c d i = 0 := by
    intro d
    induction d with
    | zero => intro i _; rfl
    | succ d ih =>
      intro i hi
      have g0 := h.a0 i (by omega)
      have g1 := h.a1 i (by omega)
      have g2 := h.f0 i (by omega)
      have g3 := h.f1 i (by omega)
      unfold verr
      rw [if_neg (by omega), if_neg, ih (i + 1) (by omega)]
      rintro ⟨h3, h4⟩
      have := h.asc (i - 1) (by omega)
      rw [show i - 1 + 1 = i by omega] at this
      omega
  exact go c.length 0 (by omega)
theorem valid_loop (o : Int) (c : List S42) (hl : c.length ≤ 64) (d : Nat) : ∀ i, i + d = c.length →
    Ev (fun k => clock_Valid.l0 k c (c.length : Int) (i : Int) o c) (verr c d i) := by
  induction d with
  | zero =>
    intro i hi
    refine Ev.step (fun k => by rw [clock_Valid.l0]) ?_
    exact ev_neg (by omega) (ev_some rfl)
  | succ d ih =>
    intro i hi
    have ih := ih (i + 1) (by omega)
    have e1 : wrap64 ((i : Int) + 1) = ((i + 1 : Nat) : Int) := w64n (by omega) (by omega)
    have bad : ∀ b : Bool, b = true → Ev (fun k => clock_Valid.j2 k (i : Int) c (c.length : Int) (i : Int) b o c (A c i) (O c i)) 2 := fun b hb =>
      Ev.step (fun k => by rw [clock_Valid.j2]) (ev_pos hb (ev_some rfl))
    refine Ev.step (fun k => by rw [clock_Valid.l0]) ?_
    refine ev_pos (by omega) (ev_pos (by omega) (ev_pos (by omega) ?_))
    simp only [rdA]
    unfold verr
    by_cases b1 : A c i < 0
    · rw [if_pos (by omega)]; exact ev_pos b1 (bad _ rfl)
    refine ev_neg b1 ?_
    by_cases b2 : A c i > 120968639
    · rw [if_pos (by omega)]; exact ev_pos b2 (bad _ rfl)
    refine ev_neg b2 ?_
    by_cases b3 : O c i < -840
    · rw [if_pos (by omega)]; exact ev_pos b3 (bad _ rfl)
    refine ev_neg b3 ?_
    by_cases b4 : O c i > 840
    · rw [if_pos (by omega)]; exact bad _ (decide_eq_true b4)
    rw [if_neg (by omega)]
    refine Ev.step (fun k => by rw [clock_Valid.j2]) ?_
    refine ev_neg (fun hh => b4 (of_decide_eq_true hh)) ?_
    simp only [e1]
    by_cases h0 : 0 < i
    · have e2 : wrap64 ((i : Int) - 1) = ((i - 1 : Nat) : Int) := w64n (by omega) (by omega)
      simp only [e2, rdA]
      refine ev_pos (by omega) (ev_pos (by omega) (ev_pos (by omega) ?_))
      by_cases b5 : A c i ≤ A c (i - 1)
      · rw [if_pos ⟨h0, b5⟩]; exact ev_pos b5 (ev_some rfl)
      · rw [if_neg (fun h => b5 h.2)]; exact ev_neg b5 ih
    · rw [if_neg (fun h => h0 h.1)]
      exact ev_neg (by omega) ih
theorem valid_ev (o : Int) (c : List S42) : Ev (fun k => clock_Valid.f k o c) (vz o c) := by
  unfold clock_Valid.f vz
  by_cases h : c.length > 64
  · rw [if_pos h]; exact ev_pos (by omega) (ev_some rfl)
  rw [if_neg h]
  refine ev_neg (by omega) ?_
  by_cases h1 : o < -840
  · rw [if_pos (by omega)]
    exact ev_pos h1 (Ev.step (fun k => by rw [clock_Valid.j0]) (ev_pos rfl (ev_some rfl)))
  refine ev_neg h1 (Ev.step (fun k => by rw [clock_Valid.j0]) ?_)
  by_cases h2 : o > 840
  · rw [if_pos (by omega)]
    exact ev_pos (by simpa using h2) (ev_some rfl)
  · rw [if_neg (by omega)]
    exact ev_neg (by simpa using h2) (valid_loop o c (by omega) c.length 0 (by omega))
/-- What checked answers. -/
def ckd (o : Int) (c : List S42) (t : Int) : Int := if vz o c = 0 then (if t < 0 ∨ t > 120968639 then 2 else 0) else vz o c
theorem checked_ev (o : Int) (c : List S42) (t : Int) : Ev (fun k => clock_checked.f k o c t) (ckd o c t) := by
  unfold clock_checked.f ckd
  refine Ev.bind (valid_ev o c) ?_
  by_cases h : vz o c = 0
  · simp only [if_pos h]
    by_cases h1 : t < 0
    · rw [if_pos (show t < 0 ∨ t > 120968639 by omega)]; exact ev_pos h1 (ev_some rfl)
    refine ev_neg h1 ?_
    by_cases h2 : t > 120968639
    · rw [if_pos (show t < 0 ∨ t > 120968639 by omega)]; exact ev_pos h2 (ev_some rfl)
    · rw [if_neg (show ¬ (t < 0 ∨ t > 120968639) by omega)]; exact ev_neg h2 (ev_some rfl)
  · simp only [if_neg h]
    exact ev_some rfl
theorem ckd_zero {o : Int} {c : List S42} {t : Int} (h : ckd o c t = 0) : VZ o c ∧ 0 ≤ t ∧ t ≤ 120968639 := by
  unfold ckd at h
  split at h
  · rename_i hv
    refine ⟨vz_zero hv, ?_⟩
    split at h <;> omega
  · omega
theorem ckd_ok {o : Int} {c : List S42} {t : Int} (h : VZ o c) (h0 : 0 ≤ t) (h1 : t ≤ 120968639) : ckd o c t = 0 := by
  unfold ckd; rw [if_pos h.zero, if_neg (by omega)]
/-! ### Offset -/
/-- The offset by the first j changes. -/
def offA (o : Int) (c : List S42) (t : Int) : Nat → Int
  | 0 => o
  | j + 1 => if A c j ≤ t then O c j else offA o c t j
def off (o : Int) (c : List S42) (t : Int) : Int := offA o c t c.length
theorem offA_bd {o : Int} {c : List S42} (h : VZ o c) (t : Int) : ∀ j, j ≤ c.length → -840 ≤ offA o c t j ∧ offA o c t j ≤ 840
  | 0, _ => ⟨h.o0, h.o1⟩
  | j + 1, hj => by
    unfold offA
    split
    · exact ⟨h.f0 j (by omega), h.f1 j (by omega)⟩
    · exact offA_bd h t j (by omega)
theorem off_bd {o : Int} {c : List S42} (h : VZ o c) (t : Int) : -840 ≤ off o c t ∧ off o c t ≤ 840 := offA_bd h t c.length (Nat.le_refl _)
theorem offset_loop {o : Int} {c : List S42} (hl : c.length ≤ 64) (t : Int) : ∀ j, j ≤ c.length → Ev (fun k => clock_Offset.l0 k t ((j : Int) - 1) o c) (offA o c t j, 0)
  | 0, _ => by
    refine Ev.step (fun k => by rw [clock_Offset.l0]) ?_
    exact ev_neg (by omega) (ev_some rfl)
  | j + 1, hj => by
    have ih := offset_loop (o := o) hl t j (by omega)
    have e1 : wrap64 ((j : Int) - 1) = (j : Int) - 1 := w64 (by omega) (by omega)
    have e2 : (((j + 1 : Nat) : Int) - 1) = (j : Int) := by omega
    rw [e2]
    refine Ev.step (fun k => by rw [clock_Offset.l0]) (ev_pos (by omega) (ev_pos (by omega) (ev_pos (by omega) ?_)))
    simp only [rdA, e1]
    unfold offA
    by_cases h : A c j ≤ t
    · rw [if_pos h]; exact ev_pos h (ev_some rfl)
    · rw [if_neg h]; exact ev_neg h ih
def offr (o : Int) (c : List S42) (t : Int) : Int × Int := if ckd o c t = 0 then (off o c t, 0) else (0, ckd o c t)
theorem offset_ev (o : Int) (c : List S42) (t : Int) : Ev (fun k => clock_Offset.f k o c t) (offr o c t) := by
  unfold clock_Offset.f offr
  refine Ev.bind (checked_ev o c t) ?_
  by_cases h : ckd o c t = 0
  · obtain ⟨hv, h0, h1⟩ := ckd_zero h
    have hl := hv.len
    simp only [if_pos h]
    rw [w64 (x := (c.length : Int) - 1) (by omega) (by omega)]
    exact offset_loop hl t c.length (Nat.le_refl _)
  · simp only [if_neg h]
    exact ev_some rfl
def locr (o : Int) (c : List S42) (t : Int) : Int × Int := if ckd o c t = 0 then (t + off o c t, 0) else (0, ckd o c t)
theorem local_ev (o : Int) (c : List S42) (t : Int) : Ev (fun k => clock_Local.f k o c t) (locr o c t) := by
  unfold clock_Local.f
  refine Ev.bind (offset_ev o c t) ?_
  unfold offr locr
  by_cases h : ckd o c t = 0
  · obtain ⟨hv, h0, h1⟩ := ckd_zero h
    have hb := off_bd hv t
    simp only [if_pos h]
    refine ev_pos trivial (ev_some ?_)
    rw [w64 (by omega) (by omega)]
  · simp only [if_neg h]
    exact ev_some rfl
theorem locr_ok {o : Int} {c : List S42} {t : Int} (h : VZ o c) (h0 : 0 ≤ t) (h1 : t ≤ 120968639) : locr o c t = (t + off o c t, 0) := by
  unfold locr; rw [if_pos (ckd_ok h h0 h1)]
/-! ### the segments -/
def frm (c : List S42) (i : Nat) : Int := if i = 0 then 0 else A c (i - 1)
def tto (c : List S42) (i : Nat) : Int := if i < c.length then A c i else 120968640
def ofs (o : Int) (c : List S42) (i : Nat) : Int := if i = 0 then o else O c (i - 1)
def seg (o : Int) (c : List S42) (i : Nat) : S53 := ⟨frm c i, tto c i, ofs o c i⟩
/-- The segments from i on. -/
def segF (o : Int) (c : List S42) : Nat → Nat → List S53
  | 0, _ => []
  | d + 1, i => seg o c i :: segF o c d (i + 1)
def segs (o : Int) (c : List S42) : List S53 := segF o c (c.length + 1) 0
/-- Segments one behind the other, from lo to the end of time. -/
def Chain : Int → List S53 → Prop
  | lo, [] => lo = 120968640
  | lo, p :: r => p.f0 = lo ∧ p.f0 ≤ p.f1 ∧ p.f1 ≤ 120968640 ∧ -840 ≤ p.f2 ∧ p.f2 ≤ 840 ∧ Chain p.f1 r
section
variable {o : Int} {c : List S42} (h : VZ o c)
include h
theorem ofs_bd (i : Nat) (hi : i ≤ c.length) : -840 ≤ ofs o c i ∧ ofs o c i ≤ 840 := by
  unfold ofs
  split
  · exact ⟨h.o0, h.o1⟩
  · exact ⟨h.f0 _ (by omega), h.f1 _ (by omega)⟩
theorem frm_le (i : Nat) (hi : i ≤ c.length) : 0 ≤ frm c i ∧ frm c i ≤ tto c i ∧ tto c i ≤ 120968640 ∧ (0 < i → frm c i < tto c i) := by
  unfold frm tto
  by_cases h0 : i = 0
  · rw [if_pos h0]
    split
    · have := h.a0 i (by omega); have := h.a1 i (by omega); omega
    · omega
  · rw [if_neg h0]
    have a := h.a0 (i - 1) (by omega)
    have b := h.a1 (i - 1) (by omega)
    split
    · rename_i hlt
      have := h.asc (i - 1) (by omega)
      rw [show i - 1 + 1 = i by omega] at this
      have := h.a1 i hlt
      omega
    · omega
theorem chain_from (d : Nat) : ∀ i, i + d = c.length + 1 → 0 < d → Chain (frm c i) (segF o c d i) := by
  induction d with
  | zero => intro i _ h0; omega
  | succ d ih =>
    intro i hi _
    have b := frm_le h i (by omega)
    have g := ofs_bd h i (by omega)
    refine ⟨rfl, b.2.1, b.2.2.1, g.1, g.2, ?_⟩
    show Chain (tto c i) (segF o c d (i + 1))
    rcases Nat.eq_zero_or_pos d with h0 | h0
    · subst h0
      show tto c i = 120968640
      unfold tto; rw [if_neg (by omega)]
    · have := ih (i + 1) (by omega) h0
      have e : frm c (i + 1) = tto c i := by
        unfold frm tto
        rw [if_neg (by omega), if_pos (by omega)]
        rfl
      rw [← e]; exact this
theorem chain_segs : Chain 0 (segs o c) := chain_from h (c.length + 1) 0 (by omega) (by omega)
end
/-- The program's parts: the segments that have instants. -/
def dropE : List S53 → List S53
  | [] => []
  | p :: r => if p.f0 = p.f1 then r else p :: r
theorem dropE_cons (p : S53) (r : List S53) : dropE (p :: r) = if p.f0 = p.f1 then r else p :: r := rfl
def pts (o : Int) (c : List S42) : List S53 := dropE (segs o c)
theorem segF_len (o : Int) (c : List S42) (d i : Nat) : (segF o c d i).length = d := by
  induction d generalizing i with
  | zero => rfl
  | succ d ih => simp [segF, ih]
theorem segF_snoc (o : Int) (c : List S42) (d : Nat) : ∀ i, segF o c (d + 1) i = segF o c d i ++ [seg o c (i + d)] := by
  induction d with
  | zero => intro i; rfl
  | succ d ih =>
    intro i
    rw [segF, ih (i + 1)]
    simp only [segF, List.cons_append]
    rw [show i + 1 + d = i + (d + 1) by omega]
theorem getD_snoc (l : List S53) (x : S53) : (l ++ [x]).getD l.length z53 = x := by simp [List.getD_eq_getElem?_getD]
theorem set_snoc (l : List S53) (x y : S53) : (l ++ [x]).set l.length y = l ++ [y] := by simp
theorem take_snoc (l : List S53) (x : S53) : (l ++ [x]).take l.length = l := by simp
section
variable {o : Int} {c : List S42} (h : VZ o c)
include h
/-- The program's list after i changes: closed segments, and the open one. -/
theorem parts_loop (d : Nat) : ∀ i, i + d = c.length →
    Ev (fun k => clock_parts.l0 k (dropE (segF o c i 0) ++ [⟨frm c i, 120968640, ofs o c i⟩]) c (c.length : Int) (i : Int)) (pts o c) := by
  have hl := h.len
  induction d with
  | zero =>
    intro i hi
    refine Ev.step (fun k => by rw [clock_parts.l0]) (ev_neg (by omega) (ev_some ?_))
    obtain rfl : i = c.length := by omega
    unfold pts segs
    rw [segF_snoc]
    have b := frm_le h c.length (Nat.le_refl _)
    have e : seg o c (0 + c.length) = ⟨frm c c.length, 120968640, ofs o c c.length⟩ := by
      rw [Nat.zero_add]; unfold seg tto; rw [if_neg (by omega)]
    rw [e]
    rcases Nat.eq_zero_or_pos c.length with h0 | h0
    · rw [h0]
      show [_] = dropE [_]
      rw [dropE_cons, if_neg]
      show ¬ frm c 0 = 120968640
      unfold frm; rw [if_pos rfl]; omega
    · obtain ⟨m, hm⟩ : ∃ m, c.length = m + 1 := ⟨c.length - 1, by omega⟩
      rw [hm]
      show dropE (seg o c 0 :: segF o c m 1) ++ _ = dropE ((seg o c 0 :: segF o c m 1) ++ _)
      simp only [dropE, List.cons_append]
      split <;> rfl
  | succ d ih =>
    intro i hi
    have ih := ih (i + 1) (by omega)
    have b := frm_le h i (by omega)
    have ha0 := h.a0 i (by omega)
    obtain ⟨L, hL⟩ : ∃ L, L = dropE (segF o c i 0) := ⟨_, rfl⟩
    have hLl : L.length ≤ i := by
      rw [hL]
      have := segF_len o c i 0
      unfold dropE
      split
      · simp
      · rename_i p r he
        rw [he] at this
        split <;> simp at * <;> omega
    rw [← hL]
    have e1 : wrap64 ((i : Int) + 1) = ((i + 1 : Nat) : Int) := w64n (by omega) (by omega)
    have e2 : (L ++ [(⟨frm c i, 120968640, ofs o c i⟩ : S53)]).length = L.length + 1 := by simp
    have e3 : wrap64 (((L.length + 1 : Nat) : Int) - 1) = ((L.length : Nat) : Int) := w64n (by omega) (by omega)
    have hto : tto c i = A c i := by unfold tto; rw [if_pos (by omega)]
    have hfr : frm c (i + 1) = A c i := by unfold frm; rw [if_neg (by omega)]; rfl
    have hof : ofs o c (i + 1) = O c i := by unfold ofs; rw [if_neg (by omega)]; rfl
    rw [hfr, hof] at ih
    refine Ev.step (fun k => by rw [clock_parts.l0]) ?_
    rw [e2]
    refine ev_pos (by omega) (ev_pos (by omega) (ev_pos (by omega) ?_))
    simp only [e1, e3, rdA, rdP, Int.toNat_natCast, getD_snoc, set_snoc]
    refine ev_pos (by omega) (ev_pos (by omega) (ev_bindc rfl ?_))
    rw [getD_snoc]
    have hsn : dropE (segF o c (i + 1) 0) = if A c i = frm c i then L else L ++ [⟨frm c i, A c i, ofs o c i⟩] := by
      rw [segF_snoc, Nat.zero_add, hL]
      have es : seg o c i = ⟨frm c i, A c i, ofs o c i⟩ := by unfold seg; rw [hto]
      rw [es]
      rcases Nat.eq_zero_or_pos i with h0 | h0
      · subst h0
        show dropE [_] = _
        rw [dropE_cons]
        show (if frm c 0 = A c 0 then [] else [_]) = if A c 0 = frm c 0 then [] else [] ++ [_]
        by_cases hc : frm c 0 = A c 0
        · rw [if_pos hc, if_pos hc.symm]
        · rw [if_neg hc, if_neg (fun e => hc e.symm)]; rfl
      · have hne : ¬ A c i = frm c i := by have := b.2.2.2 h0; omega
        rw [if_neg hne]
        obtain ⟨m, hm⟩ : ∃ m, i = m + 1 := ⟨i - 1, by omega⟩
        rw [hm]
        show dropE ((seg o c 0 :: segF o c m 1) ++ _) = dropE (seg o c 0 :: segF o c m 1) ++ _
        simp only [dropE, List.cons_append]
        split <;> rfl
    rw [hsn] at ih
    by_cases hc : A c i = frm c i
    · rw [if_pos hc] at ih
      refine ev_pos hc (ev_pos (by omega) (ev_bindc rfl ?_))
      rw [take_snoc]
      exact ev_pos (by omega) ih
    · rw [if_neg hc] at ih
      refine ev_neg hc (ev_pos (by simp; omega) ?_)
      exact ih
theorem parts_ev : Ev (fun k => clock_parts.f k o c) (pts o c) := by
  unfold clock_parts.f
  exact parts_loop h c.length 0 (by omega)
theorem pts_len : (pts o c).length ≤ 65 := by
  have hl := h.len
  have := segF_len o c (c.length + 1) 0
  unfold pts segs dropE
  split
  · simp
  · rename_i p r he
    rw [he] at this
    split <;> simp at * <;> omega
theorem chain_pts : Chain 0 (pts o c) := by
  have hc := chain_segs h
  unfold pts dropE
  split
  · rename_i he
    rw [he] at hc; exact hc
  · rename_i p r he
    rw [he] at hc
    split
    · rename_i h0
      have := hc.2.2.2.2.2
      rw [← h0, hc.1] at this
      exact this
    · exact hc
end
/-! ### Instants and First over a list of segments -/
def instL (x : Int) : List S53 → List Int
  | [] => []
  | p :: r => if x - p.f2 ≥ p.f0 ∧ x - p.f2 < p.f1 then (x - p.f2) :: instL x r else instL x r
def firstL (x : Int) : List S53 → Int
  | [] => 120968640
  | p :: r => if max (x - p.f2) p.f0 < p.f1 then max (x - p.f2) p.f0 else firstL x r
theorem drop_cons {l : List S53} {i : Nat} (hi : i < l.length) : l.drop i = l.getD i z53 :: l.drop (i + 1) := by
  rw [List.drop_eq_getElem_cons hi]
  simp [List.getD_eq_getElem?_getD, hi]
theorem Chain.drop {lo : Int} {l : List S53} (h : Chain lo l) (i : Nat) : ∃ lo', lo ≤ lo' ∧ Chain lo' (l.drop i) := by
  induction i generalizing lo l with
  | zero => exact ⟨lo, Int.le_refl _, by simpa using h⟩
  | succ i ih =>
    cases l with
    | nil => exact ⟨lo, Int.le_refl _, by simpa using h⟩
    | cons p r =>
      obtain ⟨h1, h2, _, _, _, h3⟩ := h
      obtain ⟨lo', h4, h5⟩ := ih h3
      exact ⟨lo', by omega, by simpa using h5⟩
theorem Chain.at_ {lo : Int} {l : List S53} (h : Chain lo l) (h0 : 0 ≤ lo) {i : Nat} (hi : i < l.length) :
    0 ≤ (l.getD i z53).f0 ∧ (l.getD i z53).f0 ≤ (l.getD i z53).f1 ∧ (l.getD i z53).f1 ≤ 120968640 ∧ -840 ≤ (l.getD i z53).f2 ∧ (l.getD i z53).f2 ≤ 840 := by
  obtain ⟨lo', h1, h2⟩ := h.drop i
  rw [drop_cons hi] at h2
  obtain ⟨a, b, d, e, f, _⟩ := h2
  exact ⟨by omega, b, d, e, f⟩
theorem inst_loop {L : List S53} (hl : L.length ≤ 65) (hc : Chain 0 L) {x : Int} (x0 : -840 ≤ x) (x1 : x ≤ 120969479) (d : Nat) : ∀ i (out : List Int), i + d = L.length → out.length ≤ i →
    Ev (fun k => clock_Instants.l0 k x out L (L.length : Int) (i : Int)) (out ++ instL x (L.drop i), 0) := by
  induction d with
  | zero =>
    intro i out hi ho
    refine Ev.step (fun k => by rw [clock_Instants.l0]) (ev_neg (by omega) (ev_some ?_))
    rw [List.drop_eq_nil_of_le (by omega)]
    simp [instL]
  | succ d ih =>
    intro i out hi ho
    have b := hc.at_ (Int.le_refl 0) (i := i) (by omega)
    have e1 : wrap64 ((i : Int) + 1) = ((i + 1 : Nat) : Int) := w64n (by omega) (by omega)
    have e2 : wrap64 (x - (L.getD i z53).f2) = x - (L.getD i z53).f2 := w64 (by omega) (by omega)
    refine Ev.step (fun k => by rw [clock_Instants.l0]) (ev_pos (by omega) (ev_pos (by omega) (ev_pos (by omega) ?_)))
    simp only [e1, rdP, e2]
    rw [drop_cons (show i < L.length by omega)]
    unfold instL
    by_cases h1 : x - (L.getD i z53).f2 ≥ (L.getD i z53).f0
    · refine ev_pos h1 ?_
      by_cases h2 : x - (L.getD i z53).f2 < (L.getD i z53).f1
      · rw [if_pos ⟨h1, h2⟩]
        refine ev_pos h2 (ev_pos (by omega) ?_)
        have := ih (i + 1) (out ++ [x - (L.getD i z53).f2]) (by omega) (by simp; omega)
        rw [List.append_assoc] at this
        exact this
      · rw [if_neg (fun h => h2 h.2)]
        exact ev_neg h2 (ih (i + 1) out (by omega) (by omega))
    · rw [if_neg (fun h => h1 h.1)]
      exact ev_neg h1 (ih (i + 1) out (by omega) (by omega))
theorem first_loop {L : List S53} (hl : L.length ≤ 65) (hc : Chain 0 L) {x : Int} (x0 : -840 ≤ x) (x1 : x ≤ 120969479) (d : Nat) : ∀ i, i + d = L.length →
    Ev (fun k => clock_First.l0 k x L (L.length : Int) (i : Int)) (firstL x (L.drop i), 0) := by
  induction d with
  | zero =>
    intro i hi
    refine Ev.step (fun k => by rw [clock_First.l0]) (ev_neg (by omega) (ev_some ?_))
    rw [List.drop_eq_nil_of_le (by omega)]
    simp [firstL]
  | succ d ih =>
    intro i hi
    have b := hc.at_ (Int.le_refl 0) (i := i) (by omega)
    have e1 : wrap64 ((i : Int) + 1) = ((i + 1 : Nat) : Int) := w64n (by omega) (by omega)
    have e2 : wrap64 (x - (L.getD i z53).f2) = x - (L.getD i z53).f2 := w64 (by omega) (by omega)
    refine Ev.step (fun k => by rw [clock_First.l0]) (ev_pos (by omega) (ev_pos (by omega) (ev_pos (by omega) ?_)))
    simp only [e1, rdP, e2, mx_eq]
    rw [drop_cons (show i < L.length by omega)]
    unfold firstL
    by_cases h1 : max (x - (L.getD i z53).f2) (L.getD i z53).f0 < (L.getD i z53).f1
    · rw [if_pos h1]; exact ev_pos h1 (ev_some rfl)
    · rw [if_neg h1]; exact ev_neg h1 (ih (i + 1) (by omega))
/-- Outside the reach of the clock. -/
theorem instL_far {x : Int} (hx : x < -840 ∨ x > 120969479) : ∀ (l : List S53) (lo : Int), 0 ≤ lo → Chain lo l → instL x l = []
  | [], _, _, _ => rfl
  | p :: r, lo, h0, h => by
    obtain ⟨a, b, d, e, f, g⟩ := h
    unfold instL
    rw [if_neg (by omega), instL_far hx r p.f1 (by omega) g]
theorem firstL_low {x : Int} (hx : x ≤ -840) : ∀ (l : List S53), Chain 0 l → firstL x l = 0
  | [], h => by simp [Chain] at h
  | p :: r, h => by
    obtain ⟨a, b, d, e, f, g⟩ := h
    unfold firstL
    by_cases hp : p.f0 = p.f1
    · rw [if_neg (by omega)]
      rw [← hp, a] at g
      exact firstL_low hx r g
    · rw [if_pos (by omega)]; omega
theorem firstL_high {x : Int} (hx : x > 120969479) : ∀ (l : List S53) (lo : Int), 0 ≤ lo → Chain lo l → firstL x l = 120968640
  | [], _, _, _ => rfl
  | p :: r, lo, h0, h => by
    obtain ⟨a, b, d, e, f, g⟩ := h
    unfold firstL
    rw [if_neg (by omega), firstL_high hx r p.f1 (by omega) g]
def insr (o : Int) (c : List S42) (x : Int) : List Int × Int := if vz o c = 0 then (instL x (pts o c), 0) else ([], vz o c)
theorem instants_ev (o : Int) (c : List S42) (x : Int) : Ev (fun k => clock_Instants.f k o c x) (insr o c x) := by
  unfold clock_Instants.f insr
  refine Ev.bind (valid_ev o c) ?_
  by_cases h : vz o c = 0
  · have hv := vz_zero h
    simp only [if_pos h]
    by_cases h1 : x < -840
    · rw [instL_far (.inl h1) _ 0 (Int.le_refl _) (chain_pts hv)]
      exact ev_pos h1 (Ev.step (fun k => by rw [clock_Instants.j0]) (ev_pos rfl (ev_some rfl)))
    refine ev_neg h1 (Ev.step (fun k => by rw [clock_Instants.j0]) ?_)
    by_cases h2 : x > 120969479
    · rw [instL_far (.inr h2) _ 0 (Int.le_refl _) (chain_pts hv)]
      exact ev_pos (by simpa using h2) (ev_some rfl)
    · refine ev_neg (by simpa using h2) (Ev.bind (parts_ev hv) ?_)
      have := inst_loop (pts_len hv) (chain_pts hv) (x := x) (by omega) (by omega) (pts o c).length 0 [] (by omega) (by simp)
      simpa using this
  · simp only [if_neg h]
    exact ev_some rfl
def fir (o : Int) (c : List S42) (x : Int) : Int := firstL x (pts o c)
def firr (o : Int) (c : List S42) (x : Int) : Int × Int := if vz o c = 0 then (fir o c x, 0) else (0, vz o c)
theorem first_ev (o : Int) (c : List S42) (x : Int) : Ev (fun k => clock_First.f k o c x) (firr o c x) := by
  unfold clock_First.f firr fir
  refine Ev.bind (valid_ev o c) ?_
  by_cases h : vz o c = 0
  · have hv := vz_zero h
    simp only [if_pos h]
    by_cases h1 : x ≤ -840
    · rw [firstL_low h1 _ (chain_pts hv)]
      exact ev_pos h1 (ev_some rfl)
    refine ev_neg h1 ?_
    by_cases h2 : x > 120969479
    · rw [firstL_high h2 _ 0 (Int.le_refl _) (chain_pts hv)]
      exact ev_pos h2 (ev_some rfl)
    · refine ev_neg h2 (Ev.bind (parts_ev hv) ?_)
      have := first_loop (pts_len hv) (chain_pts hv) (x := x) (by omega) (by omega) (pts o c).length 0 (by omega)
      simpa using this
  · simp only [if_neg h]
    exact ev_some rfl
end Go.Proofs.Ytjfdhlagnimkmaa.ClkA
