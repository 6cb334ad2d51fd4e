/- BracketValid: for every schedule, every list of numbers and every number the law answers true (the program's and the reference's answer on the schedule, and on a drawn one with one number changed, are equal). -/
import Derived.Test.YtafoplpaoahdiaaBrkG
import Derived.Test.YtafoplpaoahdiaaFpayrolllaw29BracketValid
namespace Go.Proofs.Ytafoplpaoahdiaa.Pure
open Go.RowKit Go.Proofs.YtafoplpaoahdiaaW.PrintWords Go.Proofs.Ytafoplpaoahdiaa.P Go.Proofs.Ytafoplpaoahdiaa.K Go.Proofs.Ytafoplpaoahdiaa.BrkA Go.Proofs.Ytafoplpaoahdiaa.BrkG
theorem valid_awake : Ev (fun k => payrolllaw29_awake.f k) true := Ev.of (fun k => payrolllaw29_awake.mono k) (k := 60) (by decide +kernel)
theorem valid_mod (a : Int) {n : Int} (hn : 0 < n) (hn1 : n ≤ 1000) : ∃ v, paygen_Mod.f a n = some v ∧ 0 ≤ v ∧ v < n := by
  unfold paygen_Mod.f
  have hb := Deck.tmod_bd a hn
  rw [if_neg (by omega)]
  by_cases h2 : Int.tmod a n < 0
  · rw [if_pos h2, w64 (by omega) (by omega)]
    exact ⟨_, rfl, by omega, by omega⟩
  · rw [if_neg h2]
    exact ⟨_, rfl, by omega, by omega⟩
theorem valid_end (t u : List S30) : Ev (fun k => payrolllaw29_BracketValid.j0 k t u) true := by
  refine Ev.step (fun k => by rw [payrolllaw29_BracketValid.j0]) ?_
  exact Ev.bind (valid_ev t) (Ev.bind (ref_valid_ev t) (ev_pos (by simp) (Ev.bind (valid_ev u) (Ev.bind (ref_valid_ev u) (ev_pos (by simp) (Ev.bind valid_awake (ev_some rfl)))))))
theorem BracketValid (t : List S30) (l : List Int) (a : Int) : ∃ k, payrolllaw29_BracketValid.f k t l a = some true := by
  apply Ev.rounds
  unfold payrolllaw29_BracketValid.f
  by_cases hl : (t.length : Int) > 30
  · exact ev_pos hl (Ev.bind valid_awake (ev_some rfl))
  obtain ⟨u, b, hu, _, hu4, hv, hb0, hb1⟩ := brackets l false (a := 0) (by omega) (by omega)
  have hne := hv.1
  obtain ⟨i, hi, hi0, hi1⟩ := Deck.next l (a := b) (n := (u.length : Int)) (by omega) (by omega) (by omega) (by omega)
  obtain ⟨c, hc, hc0, hc1⟩ := Deck.next l (a := b + 1) (n := 2) (by omega) (by omega) (by omega) (by omega)
  refine ev_neg hl (ev_bindc (show paygen_New.f l = some (l, 0) from rfl) (Ev.bind hu (ev_bindc hi (ev_pos hi0 (ev_pos hi1 (ev_bindc hc ?_))))))
  by_cases h : c = 0
  · obtain ⟨m, hm, hm0, hm1⟩ := valid_mod a (n := 4) (by omega) (by omega)
    exact ev_pos h (ev_bindc rfl (ev_bindc hm (ev_pos hm0 (ev_pos hm1 (ev_pos hi0 (ev_pos hi1 (valid_end _ _)))))))
  · obtain ⟨m, hm, hm0, hm1⟩ := valid_mod a (n := 5) (by omega) (by omega)
    exact ev_neg h (ev_bindc rfl (ev_bindc hm (ev_pos hm0 (ev_pos hm1 (ev_pos hi0 (ev_pos hi1 (valid_end _ _)))))))
end Go.Proofs.Ytafoplpaoahdiaa.Pure
