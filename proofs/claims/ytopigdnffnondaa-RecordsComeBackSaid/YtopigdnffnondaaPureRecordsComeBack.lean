/- RecordsComeBack: for every list of numbers the law answers true (the frames of made events, one behind the other, decode to these events without gaps). -/
import Derived.Test.YtopigdnffnondaaRecC
import Derived.Test.YtopigdnffnondaaRecS
import Derived.Test.YtopigdnffnondaaFpayrolllaw7RecordsComeBack
namespace Go.Proofs.Ytopigdnffnondaa.Pure
open Go Go.RowKit Go.Proofs.YtopigdnffnondaaW.PrintWords Go.Proofs.Ytopigdnffnondaa.P Go.Proofs.Ytopigdnffnondaa.K Go.Proofs.Ytopigdnffnondaa.RecA Go.Proofs.Ytopigdnffnondaa.RecB Go.Proofs.Ytopigdnffnondaa.RecC Go.Proofs.Ytopigdnffnondaa.Tape
theorem events_l0 {l : List Int} (d : Nat) : ∀ (n : Nat) (es : List S26) (a : Int), n = d → (∀ e ∈ es, okS e = true) → es.length + n ≤ 100 → Tp l a →
    ∃ es' a', Ev (fun k => payrollgen_Tape_Events.l0 k es (n : Int) l a) (es', a') ∧ (∀ e ∈ es', okS e = true) ∧ es'.length ≤ es.length + n := by
  induction d with
  | zero =>
    intro n es a hn he hl hT
    refine ⟨es, a, ?_, he, by omega⟩
    refine Ev.step (fun k => by rw [payrollgen_Tape_Events.l0]) ?_
    exact ev_neg (by omega) (ev_some rfl)
  | succ d ih =>
    intro n es a hn he hl hT
    have e1 : wrap64 ((n : Int) - 1) = ((n - 1 : Nat) : Int) := w64n (by omega) (by omega)
    have j1 : ∀ (x : Bool) (a1 : Int), (x = true → 0 < es.length) → Tp l a1 → ∃ es' a', Ev (fun k => payrollgen_Tape_Events.j1 k es (n : Int) x l a1) (es', a') ∧ (∀ e ∈ es', okS e = true) ∧ es'.length ≤ es.length + n := by
      intro x a1 hx hT1
      cases x with
      | true =>
        have h0 := hx rfl
        obtain ⟨v, a2, h2, v0, v1, hT2⟩ := next hT1 (n := (es.length : Int)) (by omega) (by omega)
        have hm : rd_T26 es v ∈ es := by
          unfold rd_T26
          rw [List.getD_eq_getElem?_getD, List.getElem?_eq_getElem (by omega)]
          exact List.getElem_mem _
        obtain ⟨es', a', e', he', hl'⟩ := ih (n - 1) (es ++ [rd_T26 es v]) a2 (by omega) (fun e hE => by
          rcases List.mem_append.1 hE with hE | hE
          · exact he e hE
          · rw [List.mem_singleton.1 hE]; exact he _ hm) (by simp; omega) hT2
        refine ⟨es', a', ?_, he', by simp at hl'; omega⟩
        refine Ev.step (fun k => by rw [payrollgen_Tape_Events.j1]) ?_
        refine ev_pos rfl ?_
        rw [h2]
        simp only [Option.bind_some]
        refine ev_pos v0 (ev_pos v1 (ev_pos (by omega) ?_))
        rw [e1]
        exact e'
      | false =>
        obtain ⟨e, a2, h2, ho, hT2⟩ := tapeEvent hT1
        obtain ⟨es', a', e', he', hl'⟩ := ih (n - 1) (es ++ [e]) a2 (by omega) (fun x hE => by
          rcases List.mem_append.1 hE with hE | hE
          · exact he x hE
          · rw [List.mem_singleton.1 hE]; exact ho) (by simp; omega) hT2
        refine ⟨es', a', ?_, he', by simp at hl'; omega⟩
        refine Ev.step (fun k => by rw [payrollgen_Tape_Events.j1]) ?_
        refine ev_neg (by simp) ?_
        rw [h2]
        simp only [Option.bind_some]
        refine ev_pos (by omega) ?_
        rw [e1]
        exact e'
    by_cases h : (es.length : Int) > 0
    · obtain ⟨v, a1, h1, v0, v1, hT1⟩ := next hT (n := 8) (by omega) (by omega)
      obtain ⟨es', a', e', he', hl'⟩ := j1 (v == 7) a1 (fun _ => by omega) hT1
      refine ⟨es', a', ?_, he', hl'⟩
      refine Ev.step (fun k => by rw [payrollgen_Tape_Events.l0]) ?_
      refine ev_pos (by omega) (ev_pos h ?_)
      rw [h1]
      exact e'
    · obtain ⟨es', a', e', he', hl'⟩ := j1 false a (fun h_ => by cases h_) hT
      refine ⟨es', a', ?_, he', hl'⟩
      refine Ev.step (fun k => by rw [payrollgen_Tape_Events.l0]) ?_
      exact ev_pos (by omega) (ev_neg h e')
def flat : List S26 → List Int
  | [] => []
  | e :: r => frame e ++ flat r
theorem flat_bs : ∀ (es : List S26), Bs (flat es)
  | [] => Bs.nil
  | e :: r => (frame_bs e).append (flat_bs r)
theorem flat_len : ∀ (es : List S26), (flat es).length = 24 * es.length
  | [] => rfl
  | e :: r => by rw [flat, List.length_append, frame_len, flat_len r, List.length_cons]; omega
theorem flat_snoc (e : S26) : ∀ (pre : List S26), flat (pre ++ [e]) = flat pre ++ frame e
  | [] => by simp [flat]
  | x :: p => by rw [List.cons_append, flat, flat_snoc e p, flat, List.append_assoc]
theorem dec_flat (b : List Int) : ∀ (post : List S26) (pre : List Int) (es : List S26) (d : Nat), b = pre ++ flat post → (∀ e ∈ post, okS e = true) → post.length < d →
    dec b d pre.length es [] = (es ++ post, [], (b.length : Int))
  | [], pre, es, d + 1, hb, _, _ => by
    subst hb
    unfold dec
    rw [if_neg (by simp [flat])]
    simp [flat]
  | e :: r, pre, es, d + 1, hb, he, hd => by
    have hw : win b pre.length = frame e := by
      subst hb
      unfold win
      rw [flat, ← List.append_assoc, List.take_append_of_le_length (by rw [List.length_append, frame_len]; omega), List.take_of_length_le (by rw [List.length_append, frame_len]; omega), List.drop_left]
    have ho := he e (by simp)
    unfold dec
    rw [if_pos (by rw [hb, List.length_append, flat, List.length_append, frame_len]; omega), hw, if_pos (isF_frame ho), evOf_frame ho]
    have := dec_flat b r (pre ++ frame e) (es ++ [e]) d (by rw [hb, flat, List.append_assoc]) (fun x hx => he x (by simp [hx])) (by simpa using hd)
    rw [List.length_append, frame_len] at this
    rw [this]
    simp
theorem come_loop (es : List S26) (he : ∀ e ∈ es, okS e = true) (hl : es.length ≤ 100) : ∀ (post pre : List S26), es = pre ++ post →
    Ev (fun k => payrolllaw7_RecordsComeBack.l0 k es (flat pre) (pre.length : Int)) true
  | [], pre, hs => by
    rw [List.append_nil] at hs
    subst hs
    refine Ev.step (fun k => by rw [payrolllaw7_RecordsComeBack.l0]) ?_
    refine ev_neg (by omega) ?_
    refine Ev.bind (RecB.decode (flat_bs es) (by rw [flat_len]; omega)) ?_
    have := dec_flat (flat es) es [] [] ((flat es).length + 1) (by simp) he (by rw [flat_len]; omega)
    rw [List.length_nil] at this
    rw [this]
    refine Ev.bind (RecS.same es [] (by omega) (by simp)) ?_
    exact ev_pos rfl (ev_pos rfl (Ev.bind RecC.sane (ev_some rfl)))
  | e :: r, pre, hs => by
    have hr : rd_T26 es (pre.length : Int) = e := by
      subst hs
      unfold rd_T26
      rw [Int.toNat_natCast, List.getD_eq_getElem?_getD, List.getElem?_append_right (by omega)]
      simp
    have hlen : pre.length < es.length := by rw [hs]; simp
    have ho := he e (by rw [hs]; simp)
    have e1 : wrap64 ((pre.length : Int) + 1) = (((pre ++ [e]).length : Nat) : Int) := w64n (by simp) (by omega)
    have hf := flat_snoc e pre
    have ih := come_loop es he hl r (pre ++ [e]) (by rw [hs]; simp)
    refine Ev.step (fun k => by rw [payrolllaw7_RecordsComeBack.l0]) ?_
    refine ev_pos (by omega) (ev_pos (by omega) ?_)
    rw [hr]
    refine Ev.bind (RecB.encode e) ?_
    rw [if_pos ho]
    refine ev_pos rfl (ev_pos (by rw [frame_len]; rfl) (ev_pos (by rw [flat_len, frame_len]; omega) ?_))
    rw [e1]
    rw [hf] at ih
    exact ih
/-- The law's plain statement. -/
theorem RecordsComeBack : payrolllaw7_RecordsComeBack.Pure := by
  intro l0 _ hl0 _
  refine Ev.rounds ?_
  unfold payrolllaw7_RecordsComeBack.f payrollgen_New.f payrollgen_Tape_Events.f
  simp only [Option.bind_some]
  obtain ⟨v, a1, h1, v0, v1, hT1⟩ := next (tp_new hl0) (n := 7) (by omega) (by omega)
  obtain ⟨m, rfl⟩ := Int.eq_ofNat_of_zero_le v0
  obtain ⟨es, a', e', he, hl⟩ := events_l0 m m [] a1 rfl (by simp) (by simp; omega) hT1
  rw [w64 (x := 6 + 1) (by omega) (by omega), show (6 : Int) + 1 = 7 from rfl, h1]
  simp only [Option.bind_some]
  refine Ev.bind e' ?_
  exact come_loop es he (by simp at hl; omega) es [] rfl
end Go.Proofs.Ytopigdnffnondaa.Pure
