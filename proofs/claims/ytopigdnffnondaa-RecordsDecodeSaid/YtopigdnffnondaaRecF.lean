/- Plain lemmas for the laws of this seat: what its functions answer; no condition beyond those that each lemma states. -/
import Derived.Test.YtopigdnffnondaaRecC
import Derived.Test.YtopigdnffnondaaRecR
import Derived.Test.YtopigdnffnondaaFpayrolllaw7frames
namespace Go.Proofs.Ytopigdnffnondaa.RecF
open Go Go.RowKit Go.Proofs.YtopigdnffnondaaW.PrintWords Go.Proofs.YtopigdnffnondaaW.PrintMore Go.Proofs.Ytopigdnffnondaa.P Go.Proofs.Ytopigdnffnondaa.K Go.Proofs.Ytopigdnffnondaa.RecA Go.Proofs.Ytopigdnffnondaa.RecB Go.Proofs.Ytopigdnffnondaa.RecC Go.Proofs.Ytopigdnffnondaa.Tape
/-! records: made bytes are bytes, and few. -/
theorem frames_j2 {l : List Int} {b : List Int} (hb : Bs b) (hl : b.length ≤ 1000000) (x : Bool) (hx : x = true → 0 < b.length) {a : Int} (hT : Tp l a) :
    ∃ b' a', Ev (fun k => payrolllaw7_frames.j2 k b x l a) (b', a') ∧ Bs b' ∧ b'.length = b.length ∧ Tp l a' := by
  cases x with
  | false =>
    refine ⟨b, a, ?_, hb, rfl, hT⟩
    refine Ev.step (fun k => by rw [payrolllaw7_frames.j2]) ?_
    exact ev_neg (by simp) (ev_some rfl)
  | true =>
    have h0 := hx rfl
    obtain ⟨v, a1, h1, v0, v1, hT1⟩ := next hT (n := (b.length : Int)) (by omega) (by omega)
    obtain ⟨u, a2, h2, u0, u1, hT2⟩ := next hT1 (n := 255) (by omega) (by omega)
    refine ⟨b.set v.toNat (bits .xor .u8 (rd b v) (wrap64 (1 + u) % 256)), a2, ?_, ?_, ?_, hT2⟩
    · refine Ev.step (fun k => by rw [payrolllaw7_frames.j2]) ?_
      refine ev_pos rfl ?_
      rw [h1]
      simp only [Option.bind_some]
      rw [h2]
      simp only [Option.bind_some]
      exact ev_pos v0 (ev_pos v1 (ev_some rfl))
    · intro y hy
      rcases List.mem_or_eq_of_mem_set hy with hy | hy
      · exact hb y hy
      · have hr := hb.at_ v
        obtain ⟨m, hm⟩ := Int.eq_ofNat_of_zero_le hr.1
        have e1 : wrap64 (1 + u) % 256 = 1 + u := by rw [w64 (by omega) (by omega)]; omega
        obtain ⟨n, hn⟩ := Int.eq_ofNat_of_zero_le (a := 1 + u) (by omega)
        rw [e1, hm, hn, bxor .u8 8 (by decide) wraps_u8 m n (by omega) (by omega)] at hy
        have : m ^^^ n < 2 ^ 8 := Nat.xor_lt_two_pow (by omega) (by omega)
        omega
    · simp
theorem frames_l0 {l : List Int} (d : Nat) : ∀ (n : Nat) (b : List Int) (a : Int), n = d → Bs b → b.length + 28 * n ≤ 1000 → Tp l a →
    ∃ b' a', Ev (fun k => payrolllaw7_frames.l0 k b (n : Int) l a) (b', a') ∧ Bs b' ∧ b'.length ≤ b.length + 28 * n ∧ Tp l a' := by
  induction d with
  | zero =>
    intro n b a hn hb hl hT
    subst hn
    by_cases h : (b.length : Int) > 0
    · obtain ⟨v, a1, h1, v0, v1, hT1⟩ := next hT (n := 2) (by omega) (by omega)
      obtain ⟨b', a', e, hb', hl', hT'⟩ := frames_j2 hb (by omega) (v == 0) (fun _ => by omega) hT1
      refine ⟨b', a', ?_, hb', by omega, hT'⟩
      refine Ev.step (fun k => by rw [payrolllaw7_frames.l0]) ?_
      refine ev_neg (by omega) (ev_pos h ?_)
      rw [h1]
      simpa using e
    · obtain ⟨b', a', e, hb', hl', hT'⟩ := frames_j2 hb (by omega) false (fun h => by cases h) hT
      refine ⟨b', a', ?_, hb', by omega, hT'⟩
      refine Ev.step (fun k => by rw [payrolllaw7_frames.l0]) ?_
      exact ev_neg (by omega) (ev_neg h e)
  | succ d ih =>
    intro n b a hn hb hl hT
    have tail : ∀ (j : Nat) (b1 : List Int) (a1 : Int), Bs b1 → b1.length + j ≤ b.length + 4 → Tp l a1 → ∃ b' a', Ev (fun k => payrolllaw7_frames.l1 k b1 (n : Int) (j : Int) l a1) (b', a') ∧ Bs b' ∧ b'.length ≤ b.length + 28 * n ∧ Tp l a' := by
      intro j
      induction j with
      | zero =>
        intro b1 a1 hb1 hl1 hT1
        obtain ⟨e, a2, h2, ho, hT2⟩ := tapeEvent hT1
        have e1 : wrap64 ((n : Int) - 1) = ((n - 1 : Nat) : Int) := w64n (by omega) (by omega)
        obtain ⟨b', a', e', hb', hl', hT'⟩ := ih (n - 1) (b1 ++ frame e) a2 (by omega) (hb1.append (frame_bs e)) (by rw [List.length_append, frame_len]; omega) hT2
        refine ⟨b', a', ?_, hb', by rw [List.length_append, frame_len] at hl'; omega, hT'⟩
        refine Ev.step (fun k => by rw [payrolllaw7_frames.l1]) ?_
        refine ev_neg (by omega) ?_
        rw [h2]
        simp only [Option.bind_some]
        refine Ev.bind (RecR.encode e) ?_
        rw [if_pos ho]
        refine ev_pos (by rw [frame_len]; omega) ?_
        rw [e1]
        exact e'
      | succ j ihj =>
        intro b1 a1 hb1 hl1 hT1
        obtain ⟨v, a2, h2, v0, v1, hT2⟩ := next hT1 (n := 256) (by omega) (by omega)
        obtain ⟨p, a3, h3, hp, hT3⟩ := pick hT2 [0, 193, v] (by simp) (by simp)
        have e1 : wrap64 (((j + 1 : Nat) : Int) - 1) = (j : Int) := w64n (by omega) (by omega)
        obtain ⟨b', a', e', hb', hl', hT'⟩ := ihj (b1 ++ [p % 256]) a3 (hb1.append (Bs.cons (by omega) (by omega) Bs.nil)) (by simp; omega) hT3
        refine ⟨b', a', ?_, hb', hl', hT'⟩
        refine Ev.step (fun k => by rw [payrolllaw7_frames.l1]) ?_
        refine ev_pos (by omega) ?_
        rw [h2]
        simp only [Option.bind_some]
        rw [h3]
        simp only [Option.bind_some]
        refine ev_pos (by omega) ?_
        rw [e1]
        exact e'
    obtain ⟨u, a1, h1, u0, u1, hT1⟩ := next hT (n := 3) (by omega) (by omega)
    obtain ⟨v, a2, h2, v0, v1, hT2⟩ := next hT1 (n := 3) (by omega) (by omega)
    have huv : 0 ≤ u * v ∧ u * v ≤ 4 := by
      have hu : u = 0 ∨ u = 1 ∨ u = 2 := by omega
      have hv : v = 0 ∨ v = 1 ∨ v = 2 := by omega
      rcases hu with rfl | rfl | rfl <;> rcases hv with rfl | rfl | rfl <;> decide
    obtain ⟨j, hj⟩ := Int.eq_ofNat_of_zero_le huv.1
    obtain ⟨b', a', e', hb', hl', hT'⟩ := tail j b a2 hb (by omega) hT2
    refine ⟨b', a', ?_, hb', hl', hT'⟩
    refine Ev.step (fun k => by rw [payrolllaw7_frames.l0]) ?_
    refine ev_pos (by omega) ?_
    rw [h1]
    simp only [Option.bind_some]
    rw [h2]
    simp only [Option.bind_some]
    rw [w64 (x := u * v) (by omega) (by omega), hj]
    exact e'
theorem frames {l : List Int} {a : Int} (hT : Tp l a) {n : Int} (h0 : 0 ≤ n) (h1 : n ≤ 10) : ∃ b a', Ev (fun k => payrolllaw7_frames.f k l a n) (b, a') ∧ Bs b ∧ b.length ≤ 300 ∧ Tp l a' := by
  obtain ⟨v, a1, hv, v0, v1, hT1⟩ := next hT (n := n + 1) (by omega) (by omega)
  obtain ⟨m, rfl⟩ := Int.eq_ofNat_of_zero_le v0
  obtain ⟨b', a', e', hb', hl', hT'⟩ := frames_l0 m m [] a1 rfl Bs.nil (by simp; omega) hT1
  refine ⟨b', a', ?_, hb', by simp at hl'; omega, hT'⟩
  unfold payrolllaw7_frames.f
  rw [w64 (x := n + 1) (by omega) (by omega), hv]
  simpa using e'
theorem bytes {l : List Int} (h : ∀ x ∈ l, (Lit.int .u8 x).wf = true) : Bs l := fun x hx => by
  have := h x hx
  simp only [Lit.wf, Bool.and_eq_true, decide_eq_true_eq] at this
  have e1 : IntKind.u8.min = 0 := by decide
  have e2 : IntKind.u8.max = 255 := by decide
  omega
end Go.Proofs.Ytopigdnffnondaa.RecF
