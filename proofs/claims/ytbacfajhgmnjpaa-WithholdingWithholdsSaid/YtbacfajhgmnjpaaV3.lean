/- The steps of a region once more, with default proofs for what is alike at each step; no condition of its own. -/
import Derived.Test.YtbacfajhgmnjpaaV1
namespace Go.Proofs.YtbacfajhgmnjpaaW.PrintLast
open Go Go.RowKit Go.Proofs.YtbacfajhgmnjpaaW.PrintWords
variable {P : Program} {ops : Array Oper} {Q : Exit → Act → World → Prop} {md : Region.Mode} {S : World → Prop} {ds : List Nat}
theorem pv_ {i : Nat} {N : Option Tmp} {oi : Oper} {v : Value} {fuel : Nat} {l : Array Bool} {a : Act} {w : World} (l' : Array Bool) {a' : Act} (hi : ops[i]? = some oi := by exact rfl) (hN : oi.dst = N := by exact rfl) (hc : anyB md ops l l' i = true := by exact any_of HT_.out (by kernel_rfl))
    (hQ : ∀ c a w, Q (.panic c) (a.put oi.dst v) w → Q (.panic c) a w := by exact fun _ _ _ h => h) (hy : Yields P ops oi v a := by exact Or.inl ⟨by rfl, by intro w'; go_simp; with_reducible rfl⟩) (ha : a.put N v = a' := by (simp only [Act.put, List.setIfInBounds_toArray, List.set_cons_zero, List.set_cons_succ, i64_w, i32_w]; rfl))
    (h : wpAnyLast P md ops Q S ds fuel l' a' w) : wpAnyLast P md ops Q S ds (fuel + 1) l a w := pure_ l' hi hN hc hQ hy ha h
theorem pn_ {i : Nat} {N : Option Tmp} {oi : Oper} {fuel : Nat} {l : Array Bool} {a : Act} {w : World} (l' : Array Bool) {a' : Act} (hi : ops[i]? = some oi := by exact rfl) (hN : oi.dst = N := by exact rfl) (hc : anyB md ops l l' i = true := by exact any_of HT_.out (by kernel_rfl))
    (hQ : ∀ c a w, Q (.panic c) (a.put oi.dst undef) w → Q (.panic c) a w := by exact fun _ _ _ h => h) (hy : Yields P ops oi undef a := by exact Or.inr ⟨by rfl, rfl⟩) (ha : a.put N undef = a' := by (simp only [Act.put, List.setIfInBounds_toArray, List.set_cons_zero, List.set_cons_succ, i64_w, i32_w]; rfl))
    (h : wpAnyLast P md ops Q S ds fuel l' a' w) : wpAnyLast P md ops Q S ds (fuel + 1) l a w := pure_ l' hi hN hc hQ hy ha h
theorem setCells_all {w : World} {g : Nat} {e : TypeId} {cur vs : Array Value} (hh : w.heap[g]? = some (.cells cur e (0, 0))) (hsz : vs.size = cur.size) : (w.setCells g 0 vs.toList).heap[g]? = some (.cells vs e (0, 0)) ∧ w.grownBy (w.setCells g 0 vs.toList) (some g) := by
  obtain ⟨cur', h1, h2, h3⟩ := setCells_row vs.toList 0 w cur hh (by simp; omega)
  have e1 : cur' = vs := by
    apply Array.toList_inj.1
    rw [h3]
    simp [hsz]
  subst e1
  obtain ⟨s1, s2, s3, s4⟩ := setCells_same g cur'.toList 0 w
  exact ⟨h1, s1, s2, s3, by rw [s4]; exact Nat.le_refl _, fun k _ hk => setCells_far _ _ k (fun he => hk (by rw [he]))⟩
theorem fillL_ {rest : List Oper} {oi : Oper} {a : Act} {w : World} {t : TypeId} {p x : Operand} {g : Nat} {e : TypeId} {cur : Array Value} {u : Value} (vs : Array Value) (hg : oi.guard = none) (hN : oi.dst = none) (ho : oi.op = .store t p x) (haddr : a.eval p = .pointer (some ⟨g, 0, none⟩)) (hx : a.eval x = u) (hu : u.cells = vs)
    (hh : w.heap[g]? = some (.cells cur e (0, 0))) (hsz : vs.size = cur.size) (ht : (P.info? t).map (·.size) = some vs.size) (h1 : vs.toList.all (·.oneCell') = true) (h : ∀ w1, w1.heap[g]? = some (.cells vs e (0, 0)) → w.grownBy w1 (some g) → wpList P ops Q rest a w1) : wpList P ops Q (oi :: rest) a w := by
  have hrun := run_store_run (P := P) (o := 0) t u vs.toList hh (by rw [hu]) (by rw [ht]; simp) (by simp; omega) (fun q hq => List.all_eq_true.1 h1 q hq)
  refine wpList_plain hg fun K hK => ?_
  unfold Oper.wp execOp
  simp only [ho, haddr, hx, Sem.run_bind, Sem.run_pure, Result.andThen_ok, hrun]
  show K (a.put oi.dst undef) _
  rw [hN]
  exact hK a _ (h _ (setCells_all hh hsz).1 (setCells_all hh hsz).2)
end Go.Proofs.YtbacfajhgmnjpaaW.PrintLast
