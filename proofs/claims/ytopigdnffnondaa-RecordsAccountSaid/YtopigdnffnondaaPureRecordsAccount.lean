/- RecordsAccount: for every list of numbers and bytes the law answers true (each byte that was read lies in exactly one frame or gap). -/
import Derived.Test.YtopigdnffnondaaRecF
import Derived.Test.YtopigdnffnondaaRecG
import Derived.Test.YtopigdnffnondaaFpayrolllaw7RecordsAccount
namespace Go.Proofs.Ytopigdnffnondaa.Pure
open Go Go.RowKit Go.Proofs.YtopigdnffnondaaW.PrintWords Go.Proofs.Ytopigdnffnondaa.P Go.Proofs.Ytopigdnffnondaa.K Go.Proofs.Ytopigdnffnondaa.RecA Go.Proofs.Ytopigdnffnondaa.RecB Go.Proofs.Ytopigdnffnondaa.RecC Go.Proofs.Ytopigdnffnondaa.RecF Go.Proofs.Ytopigdnffnondaa.RecG Go.Proofs.Ytopigdnffnondaa.Tape
theorem account_loop (b : List Int) (gs : List S55) (n m : Nat) (h : G gs m n) (hm : m ≤ b.length) (hm1 : b.length < m + 24) (hb : b.length ≤ 1000000) (hg : gs.length ≤ 1000000) (d : Nat) :
    ∀ (j : Nat) (s lst : Int), j + d = gs.length → s + tot (gs.drop j) = (m : Int) → 0 ≤ s → s ≤ (m : Int) → (j = 0 → lst = 0) → (∀ q, j = q + 1 → lst = (at_ gs q).f1) →
      Ev (fun k => payrolllaw7_RecordsAccount.l0 k b gs (m : Int) s lst (j : Int)) true := by
  induction d with
  | zero =>
    intro j s lst hj hs hs0 hs1 _ _
    refine Ev.step (fun k => by rw [payrolllaw7_RecordsAccount.l0]) ?_
    rw [List.drop_of_length_le (by omega), tot] at hs
    refine ev_neg (by omega) (ev_pos (by omega) ?_)
    rw [w64 (x := (b.length : Int) - m) (by omega) (by omega)]
    refine ev_pos (by omega) (ev_pos (by omega) ?_)
    exact Ev.bind RecC.sane (ev_some rfl)
  | succ d ih =>
    intro j s lst hj hs hs0 hs1 h0 h1
    have e1 : wrap64 ((j : Int) + 1) = ((j + 1 : Nat) : Int) := w64n (by omega) (by omega)
    have ha := h.a j (by omega)
    have hr : rd_T55 gs (j : Int) = at_ gs j := rfl
    have hd : gs.drop j = at_ gs j :: gs.drop (j + 1) := by
      rw [List.drop_eq_getElem_cons (by omega)]
      congr 1
      unfold at_
      rw [List.getD_eq_getElem?_getD, List.getElem?_eq_getElem (by omega)]
      rfl
    have hpos : ∀ (l : List S55), (∀ x ∈ l, x.f0 < x.f1) → 0 ≤ tot l := by
      intro l
      induction l with
      | nil => intro _; simp [tot]
      | cons x r ihr =>
        intro hx
        have := ihr (fun y hy => hx y (by simp [hy]))
        have := hx x (by simp)
        simp only [tot]; omega
    have ht : 0 ≤ tot (gs.drop (j + 1)) := hpos _ (fun x hx => by
      obtain ⟨q, hq⟩ := List.mem_iff_getElem?.1 (List.mem_of_mem_drop hx)
      have hlt : q < gs.length := (List.getElem?_eq_some_iff.1 hq).1
      have := (h.a q hlt).2.1
      have e : at_ gs q = x := by unfold at_; rw [List.getD_eq_getElem?_getD, hq]; rfl
      rw [e] at this
      exact this)
    rw [hd, tot] at hs
    have hlst : lst ≤ (at_ gs j).f0 ∧ (0 < j → lst ≠ (at_ gs j).f0) := by
      rcases j with _ | q
      · rw [h0 rfl]; exact ⟨ha.1, fun h_ => by omega⟩
      · have := h.b q (by omega)
        rw [h1 q rfl]
        exact ⟨by omega, fun _ => by omega⟩
    refine Ev.step (fun k => by rw [payrolllaw7_RecordsAccount.l0]) ?_
    rw [hr, e1]
    refine ev_pos (by omega) (ev_pos (by omega) (ev_neg (by omega) (ev_neg (by omega) (ev_neg (by omega) ?_))))
    rw [w64 (x := s + (at_ gs j).f1) (by omega) (by omega), w64 (x := s + (at_ gs j).f1 - (at_ gs j).f0) (by omega) (by omega)]
    have hnext := ih (j + 1) (s + (at_ gs j).f1 - (at_ gs j).f0) (at_ gs j).f1 (by omega) (by omega) (by omega) (by omega) (fun h_ => by omega) (fun q hq => by rw [show q = j by omega])
    by_cases hj0 : (j : Int) > 0
    · exact ev_pos hj0 (ev_neg (fun h_ => hlst.2 (by omega) h_.symm) hnext)
    · exact ev_neg hj0 hnext
theorem account_j0 {b : List Int} (hb : Bs b) (hl : b.length ≤ 100000) : Ev (fun k => payrolllaw7_RecordsAccount.j0 k b) true := by
  refine Ev.step (fun k => by rw [payrolllaw7_RecordsAccount.j0]) ?_
  refine Ev.bind (RecB.decode hb (by omega)) ?_
  obtain ⟨m, hm, hG, h1, h2⟩ := dec_inv b (b.length + 1) 0 [] [] (by omega) (by omega) ⟨fun j hj => by simp at hj, fun j hj => by simp at hj, by simp [tot]⟩
  generalize dec b (b.length + 1) 0 [] [] = r at hm hG ⊢
  obtain ⟨es, gs, n⟩ := r
  simp only at hm hG ⊢
  subst hm
  have hpos : ∀ (l : List S55), (∀ x ∈ l, x.f0 < x.f1) → (l.length : Int) ≤ tot l := by
    intro l
    induction l with
    | nil => intro _; simp [tot]
    | cons x r ihr =>
      intro hx
      have := ihr (fun y hy => hx y (by simp [hy]))
      have := hx x (by simp)
      simp only [tot, List.length_cons]; omega
  have ht := hpos gs (fun x hx => by
    obtain ⟨q, hq⟩ := List.mem_iff_getElem?.1 hx
    have hlt : q < gs.length := (List.getElem?_eq_some_iff.1 hq).1
    have := (hG.a q hlt).2.1
    have e : at_ gs q = x := by unfold at_; rw [List.getD_eq_getElem?_getD, hq]; rfl
    rw [e] at this
    exact this)
  have hT := hG.t
  rw [w64 (x := 24 * (es.length : Int)) (by omega) (by omega)]
  exact account_loop b gs es.length m hG h1 h2 (by omega) (by omega) gs.length 0 _ 0 (by omega) (by rw [List.drop_zero]; omega) (by omega) (by omega) (fun _ => rfl) (fun q hq => by omega)
/-- The law's plain statement. -/
theorem RecordsAccount : payrolllaw7_RecordsAccount.Pure := by
  intro l0 l1 _ hl0 _ hm1 hl1 hw1
  refine Ev.rounds ?_
  unfold payrolllaw7_RecordsAccount.f payrollgen_New.f
  simp only [Option.bind_some]
  obtain ⟨b, a', e, hb, hlb, _⟩ := frames (tp_new hl0) (n := 4) (by omega) (by omega)
  refine Ev.bind e ?_
  by_cases h : (l1.length : Int) ≤ 2000
  · exact ev_pos h (ev_pos (by simp only; omega) (account_j0 (hb.append (RecF.bytes hw1)) (by rw [List.length_append]; simp only; omega)))
  · exact ev_neg h (account_j0 hb (by simp only; omega))
end Go.Proofs.Ytopigdnffnondaa.Pure
