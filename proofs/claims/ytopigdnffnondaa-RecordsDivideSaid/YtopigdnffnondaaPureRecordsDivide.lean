/- RecordsDivide: for every list of numbers, place and bytes the law answers true (decoding in two parts gives the events of the whole). -/
import Derived.Test.YtopigdnffnondaaRecF
import Derived.Test.YtopigdnffnondaaRecS
import Derived.Test.YtopigdnffnondaaFpayrolllaw7RecordsDivide
namespace Go.Proofs.Ytopigdnffnondaa.Pure
open Go Go.RowKit Go.Proofs.YtopigdnffnondaaW.PrintWords Go.Proofs.Ytopigdnffnondaa.P Go.Proofs.Ytopigdnffnondaa.K Go.Proofs.Ytopigdnffnondaa.RecA Go.Proofs.Ytopigdnffnondaa.RecB Go.Proofs.Ytopigdnffnondaa.RecC Go.Proofs.Ytopigdnffnondaa.RecF Go.Proofs.Ytopigdnffnondaa.Tape
/-- The events from a place on, and where reading ends. -/
def run (b : List Int) : Nat → Nat → List S26 × Nat
  | 0, i => ([], i)
  | d + 1, i => if i + 24 ≤ b.length then (if isF (win b i) = true then (evOf (win b i) :: (run b d (i + 24)).1, (run b d (i + 24)).2) else run b d (i + 1)) else ([], i)
theorem dec_run (b : List Int) : ∀ (d i : Nat) (es : List S26) (gs : List S55), (dec b d i es gs).1 = es ++ (run b d i).1 ∧ (dec b d i es gs).2.2 = ((run b d i).2 : Int)
  | 0, i, es, gs => by simp [dec, run]
  | d + 1, i, es, gs => by
    unfold dec run
    by_cases h : i + 24 ≤ b.length
    · rw [if_pos h, if_pos h]
      by_cases hf : isF (win b i) = true
      · rw [if_pos hf, if_pos hf]
        have := dec_run b d (i + 24) (es ++ [evOf (win b i)]) gs
        simpa using this
      · rw [if_neg hf, if_neg hf]
        exact dec_run b d (i + 1) es _
    · rw [if_neg h, if_neg h]; simp
theorem run_fuel (b : List Int) : ∀ (d d' i : Nat), b.length < i + d → b.length < i + d' → run b d i = run b d' i
  | 0, 0, _, _, _ => rfl
  | 0, d' + 1, i, h, _ => by
    unfold run
    rw [if_neg (by omega)]
  | d + 1, 0, i, _, h => by
    unfold run
    rw [if_neg (by omega)]
  | d + 1, d' + 1, i, h, h' => by
    unfold run
    by_cases hc : i + 24 ≤ b.length
    · rw [if_pos hc, if_pos hc, run_fuel b d d' (i + 24) (by omega) (by omega), run_fuel b d d' (i + 1) (by omega) (by omega)]
    · rw [if_neg hc, if_neg hc]
theorem run_end (b : List Int) : ∀ (d i : Nat), b.length < i + d → i ≤ b.length → i ≤ (run b d i).2 ∧ (run b d i).2 ≤ b.length ∧ b.length < (run b d i).2 + 24 ∧ (run b d i).1.length ≤ (run b d i).2 - i
  | 0, i, h, hi => by omega
  | d + 1, i, h, hi => by
    unfold run
    by_cases hc : i + 24 ≤ b.length
    · rw [if_pos hc]
      by_cases hf : isF (win b i) = true
      · rw [if_pos hf]
        have := run_end b d (i + 24) (by omega) hc
        simp only [List.length_cons]
        omega
      · rw [if_neg hf]
        have := run_end b d (i + 1) (by omega) (by omega)
        omega
    · rw [if_neg hc]
      simp only [List.length_nil]
      omega
theorem win_take {b : List Int} {c i : Nat} (h : i + 24 ≤ c) : win (b.take c) i = win b i := by
  unfold win
  rw [List.take_take, Nat.min_eq_left h]
theorem win_drop (b : List Int) (u i : Nat) : win (b.drop u) i = win b (u + i) := by
  unfold win
  rw [List.take_drop, List.drop_drop, Nat.add_assoc]
theorem run_cut (b : List Int) (c : Nat) (hc : c ≤ b.length) : ∀ (d i D : Nat), c < i + d → b.length < i + D →
    ∀ D', b.length < (run (b.take c) d i).2 + D' → run b D i = ((run (b.take c) d i).1 ++ (run b D' (run (b.take c) d i).2).1, (run b D' (run (b.take c) d i).2).2)
  | 0, i, D, _, h2, D', h3 => by
    simp only [run, List.nil_append] at h3 ⊢
    rw [run_fuel b D D' i h2 h3]
  | d + 1, i, D, h1, h2, D', h3 => by
    have hl : (b.take c).length = c := by rw [List.length_take]; omega
    by_cases hi : i + 24 ≤ c
    · have e : run (b.take c) (d + 1) i = if isF (win b i) = true then (evOf (win b i) :: (run (b.take c) d (i + 24)).1, (run (b.take c) d (i + 24)).2) else run (b.take c) d (i + 1) := by
        rw [run, if_pos (by omega), win_take hi]
      rcases D with _ | D
      · omega
      have e2 : run b (D + 1) i = if isF (win b i) = true then (evOf (win b i) :: (run b D (i + 24)).1, (run b D (i + 24)).2) else run b D (i + 1) := by
        rw [run, if_pos (by omega)]
      by_cases hf : isF (win b i) = true
      · rw [if_pos hf] at e e2
        rw [e] at h3 ⊢
        rw [e2]
        simp only at h3 ⊢
        rw [run_cut b c hc d (i + 24) D (by omega) (by omega) D' h3]
        simp
      · rw [if_neg hf] at e e2
        rw [e] at h3 ⊢
        rw [e2]
        exact run_cut b c hc d (i + 1) D (by omega) (by omega) D' h3
    · have e : run (b.take c) (d + 1) i = ([], i) := by rw [run, if_neg (by omega)]
      rw [e] at h3 ⊢
      simp only [List.nil_append] at h3 ⊢
      rw [run_fuel b D D' i h2 h3]
theorem run_shift (b : List Int) (u : Nat) (hu : u ≤ b.length) : ∀ (d i : Nat), (run b d (u + i)).1 = (run (b.drop u) d i).1 ∧ (run b d (u + i)).2 = u + (run (b.drop u) d i).2
  | 0, i => by simp [run]
  | d + 1, i => by
    have hl : (b.drop u).length = b.length - u := by rw [List.length_drop]
    by_cases h : u + i + 24 ≤ b.length
    · have c1 : run b (d + 1) (u + i) = if isF (win b (u + i)) = true then (evOf (win b (u + i)) :: (run b d (u + i + 24)).1, (run b d (u + i + 24)).2) else run b d (u + i + 1) := by rw [run, if_pos h]
      have c2 : run (b.drop u) (d + 1) i = if isF (win b (u + i)) = true then (evOf (win b (u + i)) :: (run (b.drop u) d (i + 24)).1, (run (b.drop u) d (i + 24)).2) else run (b.drop u) d (i + 1) := by rw [run, if_pos (by omega), win_drop]
      rw [c1, c2]
      by_cases hf : isF (win b (u + i)) = true
      · rw [if_pos hf, if_pos hf]
        have := run_shift b u hu d (i + 24)
        rw [← Nat.add_assoc] at this
        simp only [this.1, this.2, and_self]
      · rw [if_neg hf, if_neg hf]
        have := run_shift b u hu d (i + 1)
        rw [← Nat.add_assoc] at this
        exact this
    · have c1 : run b (d + 1) (u + i) = ([], u + i) := by rw [run, if_neg h]
      have c2 : run (b.drop u) (d + 1) i = ([], i) := by rw [run, if_neg (by omega)]
      rw [c1, c2]
      simp
theorem divide_j0 {b : List Int} (hb : Bs b) (hl : b.length ≤ 100000) (at_ : Int) : Ev (fun k => payrolllaw7_RecordsDivide.j0 k at_ b) true := by
  refine Ev.step (fun k => by rw [payrolllaw7_RecordsDivide.j0]) ?_
  rw [w64 (x := (b.length : Int) + 1) (by omega) (by omega)]
  obtain ⟨c, hc, c0, c1⟩ := Tape.mod at_ (n := (b.length : Int) + 1) (by omega) (by omega)
  rw [hc]
  simp only [Option.bind_some]
  obtain ⟨m, rfl⟩ := Int.eq_ofNat_of_zero_le c0
  have hm : m ≤ b.length := by omega
  have hlt : (b.take m).length = m := by rw [List.length_take]; omega
  refine Ev.bind (RecB.decode hb (by omega)) (ev_pos c0 (ev_pos (by omega) ?_))
  rw [Int.toNat_natCast]
  refine Ev.bind (RecB.decode (hb.take m) (by omega)) ?_
  have hall := dec_run b (b.length + 1) 0 [] []
  have hx := dec_run (b.take m) ((b.take m).length + 1) 0 [] []
  have hend := run_end (b.take m) ((b.take m).length + 1) 0 (by omega) (by omega)
  have hcut := run_cut b m hm ((b.take m).length + 1) 0 (b.length + 1) (by omega) (by omega) (b.length + 1) (by omega)
  generalize run (b.take m) ((b.take m).length + 1) 0 = rx at hx hend hcut
  obtain ⟨xs, u⟩ := rx
  simp only at hx hend hcut
  rw [hlt] at hend
  have hsh := run_shift b u (by omega) (b.length + 1) 0
  simp only [Nat.add_zero] at hsh
  have hlu : (b.drop u).length = b.length - u := by rw [List.length_drop]
  have hy := dec_run (b.drop u) ((b.drop u).length + 1) 0 [] []
  rw [run_fuel (b.drop u) ((b.drop u).length + 1) (b.length + 1) 0 (by omega) (by omega)] at hy
  have hyend := run_end (b.drop u) (b.length + 1) 0 (by omega) (by omega)
  rw [hall.1, hall.2, hx.1, hx.2, hcut, hsh.1, hsh.2]
  simp only [List.nil_append]
  refine ev_neg (by omega) (ev_neg (by omega) ?_)
  refine Ev.step (fun k => by rw [payrolllaw7_RecordsDivide.j1]) ?_
  refine ev_neg (by rw [w64 (by omega) (by omega)]; simp; omega) (ev_pos (by omega) (ev_pos (by omega) ?_))
  rw [Int.toNat_natCast]
  refine Ev.bind (RecB.decode (hb.drop u) (by omega)) ?_
  rw [hy.1, hy.2]
  generalize run (b.drop u) (b.length + 1) 0 = ry at hyend
  obtain ⟨ys, v⟩ := ry
  simp only at hyend
  simp only [Option.bind_some, List.nil_append, List.length_nil, Nat.zero_add]
  refine ev_pos (by omega) (ev_pos (by omega) ?_)
  refine Ev.bind (RecS.same (xs ++ ys) [] (by rw [List.length_append]; omega) (by simp)) ?_
  refine ev_pos rfl (ev_pos ?_ (Ev.bind RecC.sane (ev_some rfl)))
  rw [w64 (by omega) (by omega)]
  omega
/-- The law's plain statement. -/
theorem RecordsDivide : payrolllaw7_RecordsDivide.Pure := by
  intro l0 a1 l2 _ hl0 _ _ hm1 hl2 hw2
  refine Ev.rounds ?_
  unfold payrolllaw7_RecordsDivide.f payrollgen_New.f
  simp only [Option.bind_some]
  obtain ⟨b, a', e, hb, hlb, _⟩ := frames (tp_new hl0) (n := 5) (by omega) (by omega)
  refine Ev.bind e ?_
  by_cases h : (l2.length : Int) ≤ 2000
  · exact ev_pos h (ev_pos (by simp only; omega) (divide_j0 (hb.append (RecF.bytes hw2)) (by rw [List.length_append]; omega) a1))
  · exact ev_neg h (divide_j0 hb (by omega) a1)
end Go.Proofs.Ytopigdnffnondaa.Pure
