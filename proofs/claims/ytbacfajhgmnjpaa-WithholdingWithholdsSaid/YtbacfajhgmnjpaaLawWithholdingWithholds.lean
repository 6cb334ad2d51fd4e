/- WithholdingWithholds: for every input the call returns true, and each argument reads behind the call as it read before. Conditions: none beyond the row. -/
import Derived.Test.YtbacfajhgmnjpaaRows
import Derived.Test.YtbacfajhgmnjpaaFpayrolllaw30WithholdingWithholds
import Derived.Test.YtbacfajhgmnjpaaPureWithholdingWithholds
import Derived.Lib.SmallJoins
import Derived.Deep.Slices
import Derived.ChangeSame
import Derived.WalkKit
import Derived.ProofKit
import Derived.OpenShut
import Derived.ShutString
import Derived.ChangeOld
import Derived.Below
import Derived.SizedLaws
import Derived.Test.YtbacfajhgmnjpaaV1
namespace Go.Proofs.Ytbacfajhgmnjpaa.withholdingWithholds
open Go.ChangeShapes Go.WideShapes Go.ChangeAt Go.RowKit Go.Joins Go.Deep Go.Proofs.YtbacfajhgmnjpaaW.PrintWords Go.Proofs.Ytbacfajhgmnjpaa.P
open Go.ChangeMaps (open_string shut_string)
set_option linter.unusedVariables false
theorem own : ownKnob Try.prog.godebug = none := by kernel_rfl
theorem laidOut : laidOutB Try.prog = true := by kernel_rfl
section
variable {H : Type} {enc : TypeId × Value → H} {P : Program} {w : World} {base : Nat} {spare : Nat → Bool} {held : Bool}
/-- A slice of structs of a text and a whole number, read as data: its cells. -/
theorem open_elems {t e : TypeId} {f0 f1 : Field} {A : Option Addr} {len cap fuel : Nat} {x : DataW H × List MemPlace} (ht : P.underlying t = some (.slice e)) (he : P.underlying e = some (.struct #[f0, f1]))
    (h0 : P.underlying f0.type = some .string) (h1 : P.underlying f1.type = some (.int .i64)) (o0 : f0.offset = 0) (o1 : f1.offset = 1) (c0 : P.cellsOf f0.type = 1) (c1 : P.cellsOf f1.type = 1) (hC : P.cellsOf e = 2)
    (h : DataW.trod enc P w base spare held fuel t (Value.slice A len cap).cells.toList = some x) :
    len ≤ cap ∧ len ≤ 9223372036854775807 ∧ ∃ g : Nat → ByteArray × Int, (0 < len → ∃ a, A = some a ∧ ∀ i, i < len → w.cell? (a.add (i * 2)) = some (.string (g i).1) ∧ w.cell? (a.add (i * 2 + 1)) = some (.int .i64 (g i).2)) := by
  rcases open_slice ht h with ⟨hcs, _⟩ | ⟨a, l, c, m, n, D, Pl, hcs, _, hl, hm, hmm, _, hi⟩
  · simp [Value.cells] at hcs
    obtain ⟨rfl, rfl, rfl⟩ := hcs
    exact ⟨Nat.le_refl _, by omega, fun _ => (ByteArray.empty, 0), fun h => by omega⟩
  · simp [Value.cells] at hcs
    obtain ⟨rfl, rfl, rfl⟩ := hcs
    unfold maxLen at hm
    have each : ∀ i, i < len → ∃ p : ByteArray × Int, w.cell? (a.add (i * 2)) = some (.string p.1) ∧ w.cell? (a.add (i * 2 + 1)) = some (.int .i64 p.2) := by
      intro i hil
      obtain ⟨cs', hc, ht'⟩ := hi i (by rw [hmm]; split <;> omega)
      obtain ⟨_, hcl, hat⟩ := World.cells?_some hc
      rw [hC] at hcl hat
      obtain ⟨y0, y1, k, _, _, g0, g1⟩ := trod_struct2 he ht'
      rw [o0, c0] at g0
      rw [o1, c1] at g1
      match cs', hcl with
      | [u, v], _ =>
        obtain ⟨p0, e0, _, _⟩ := DataW.trod_string h0 g0
        obtain ⟨p1, e1, _, _⟩ := DataW.trod_int h1 g1
        simp at e0 e1
        subst e0
        subst e1
        have q0 := hat 0 (by omega)
        have q1 := hat 1 (by omega)
        refine ⟨(p0, p1), ?_, ?_⟩
        · rw [Go.Deep.add_add] at q0; simpa using q0
        · rw [Go.Deep.add_add] at q1; simpa using q1
    refine ⟨hl, by omega, fun i => if h : i < len then Classical.choose (each i h) else (ByteArray.empty, 0), fun _ => ⟨a, rfl, fun i hil => ?_⟩⟩
    simp only [dif_pos hil]
    exact Classical.choose_spec (each i hil)
/-- The form of a cell that reads as a slice. -/
theorem slice_cell {t e : TypeId} {v : Value} {fuel : Nat} {x : DataW H × List MemPlace} (ht : P.underlying t = some (.slice e)) (h : DataW.trod enc P w base spare held fuel t [v] = some x) :
    ∃ A len cap, v = .slice A len cap := by
  rcases open_slice ht h with ⟨hcs, _⟩ | ⟨a, l, c, m, n, D, Pl, hcs, _⟩
  · simp at hcs; exact ⟨_, _, _, hcs⟩
  · simp at hcs; exact ⟨_, _, _, hcs⟩
end
theorem array5 {α : Type} {cs : Array α} (h : cs.size = 5) : ∃ c0 c1 c2 c3 c4, cs = #[c0, c1, c2, c3, c4] := by
  obtain ⟨l⟩ := cs
  match l, h with
  | [c0, c1, c2, c3, c4], _ => exact ⟨c0, c1, c2, c3, c4, rfl⟩
theorem five {α : Type} {l : List α} (h : l.length = 5) : ∃ c0 c1 c2 c3 c4, l = [c0, c1, c2, c3, c4] := by
  match l, h with
  | [c0, c1, c2, c3, c4], _ => exact ⟨c0, c1, c2, c3, c4, rfl⟩
/-- A list of whole numbers, read as data. -/
theorem open_list {H : Type} {enc : TypeId × Value → H} {w : World} {base : Nat} {held : Bool} {A : Option Addr} {len cap fuel : Nat} {x : DataW H × List MemPlace}
    (h : DataW.trod enc Try.prog w base (fun _ => true) held fuel 22 (Value.slice A len cap).cells.toList = some x) : ∃ l : List Int, len = l.length ∧ Kd.C (Kd.int .i64) w A l.length l ∧ l.length ≤ cap := by
  obtain ⟨z0, w0⟩ : ∃ zs : List Int, (A = none ∧ len = 0 ∧ cap = 0 ∧ zs = []) ∨ ∃ x, A = some x ∧ len ≤ cap ∧ cap ≤ maxLen ∧ zs.length = cap ∧ (∀ i, i < zs.length → w.cell? (x.add i) = some (.int .i64 (zs.getD i 0))) ∧ ∀ n ∈ zs, (Lit.int .i64 n).wf = true := by
    rcases open_ints Try.underlying22 Try.underlying3 (by kernel_rfl) h with ⟨hcs, _⟩ | ⟨x, l, c, zs, hcs, _, hl, hm, hz, _, hcell, hwz⟩
    · simp [Value.cells] at hcs
      obtain ⟨rfl, rfl, rfl⟩ := hcs
      exact ⟨[], .inl ⟨rfl, rfl, rfl, rfl⟩⟩
    · simp [Value.cells] at hcs
      obtain ⟨rfl, rfl, rfl⟩ := hcs
      exact ⟨zs, .inr ⟨_, rfl, hl, hm, by simpa using hz, hcell, hwz⟩⟩
  obtain ⟨l0, rfl, hr0, hm0, hw0, hc0⟩ := ReadsInt.ofRowC w0
  exact ⟨l0, rfl, Kd.C_of_reads (d := (0 : Int)) (h1 := fun _ => rfl) hr0, hc0⟩
/-- A list of elements, read as data. -/
theorem open_taken {H : Type} {enc : TypeId × Value → H} {w : World} {base : Nat} {spare : Nat → Bool} {held : Bool} {A : Option Addr} {len cap fuel : Nat} {x : DataW H × List MemPlace}
    (h : DataW.trod enc Try.prog w base spare held fuel 23 (Value.slice A len cap).cells.toList = some x) : ∃ l : List S61, len = l.length ∧ Kd.C k61 w A l.length l ∧ l.length ≤ cap := by
  obtain ⟨hc, hm, g, hg⟩ := open_elems Try.underlying23 Try.underlying61 Try.underlying9 Try.underlying3 rfl rfl (by kernel_rfl) (by kernel_rfl) (by kernel_rfl) h
  refine ⟨(List.range len).map (fun i => ⟨(g i).1, (g i).2⟩), by simp, ⟨by simp, by simpa using hm, fun hpos => ?_⟩, by simpa using hc⟩
  obtain ⟨a, ha, hcell⟩ := hg (by simpa using hpos)
  refine ⟨a, ha, fun j p hj => ?_⟩
  obtain ⟨hjl, rfl⟩ : j < len ∧ p = ⟨(g j).1, (g j).2⟩ := by
    rw [List.getElem?_map] at hj
    obtain ⟨b, hb, rfl⟩ := Option.map_eq_some_iff.1 hj
    have := List.getElem?_eq_some_iff.1 hb
    obtain ⟨hl, rfl⟩ := this
    simp at hl
    simp [hl]
  obtain ⟨c0, c1⟩ := hcell j hjl
  refine ⟨[.string (g j).1, .int .i64 (g j).2], rfl, ⟨[.string (g j).1], [.int .i64 (g j).2], rfl, rfl, rfl⟩, fun i u hu => ?_⟩
  match i, hu with
  | 0, hu => cases hu; exact c0
  | 1, hu => cases hu; exact c1
/-- A year by value: its numbers and its two lists. -/
theorem open_year {H : Type} {enc : TypeId × Value → H} {w : World} {base : Nat} {held : Bool} {b0 : Nat} {v : Value} {d : DataW H} {p : List MemPlace}
    (hv : Value.okWide Try.prog w .any b0 25 v) (h : DataW.Trod enc Try.prog w base (fun _ => true) held 25 v d p) : ∃ (a0 a1 a2 : Int) (A3 : Option Addr) (c3 : Nat) (l3 : List Int) (A4 : Option Addr) (c4 : Nat) (l4 : List S61),
      v = .agg #[.int .i64 a0, .int .i64 a1, .int .i64 a2, .slice A3 l3.length c3, .slice A4 l4.length c4] ∧ Kd.C (Kd.int .i64) w A3 l3.length l3 ∧ l3.length ≤ c3 ∧ Kd.C k61 w A4 l4.length l4 ∧ l4.length ≤ c4 := by
  have k25 : Try.prog.cellsOf 25 = 5 := by kernel_rfl
  have k22 : Try.prog.cellsOf 22 = 1 := by kernel_rfl
  have k23 : Try.prog.cellsOf 23 = 1 := by kernel_rfl
  have k3 : Try.prog.cellsOf 3 = 1 := by kernel_rfl
  obtain ⟨cs, rfl, hsz⟩ := okWide_struct Try.underlying25 hv
  obtain ⟨c0, c1, c2, c3, c4, rfl⟩ := array5 (hsz.trans k25)
  obtain ⟨fuel, hf⟩ := h
  obtain ⟨xs, n, _, _, _, hlen, hfld⟩ := DataW.trod_struct Try.underlying25 hf
  obtain ⟨x0, x1, x2, x3, x4, rfl⟩ := five (l := xs) hlen
  have g0 : DataW.trod enc Try.prog w base (fun _ => true) held n 3 [c0] = some x0 := by have h_ := hfld 0 _ rfl; simpa [k22, k23, k3, Value.cells] using h_
  have g1 : DataW.trod enc Try.prog w base (fun _ => true) held n 3 [c1] = some x1 := by have h_ := hfld 1 _ rfl; simpa [k22, k23, k3, Value.cells] using h_
  have g2 : DataW.trod enc Try.prog w base (fun _ => true) held n 3 [c2] = some x2 := by have h_ := hfld 2 _ rfl; simpa [k22, k23, k3, Value.cells] using h_
  have g3 : DataW.trod enc Try.prog w base (fun _ => true) held n 22 [c3] = some x3 := by have h_ := hfld 3 _ rfl; simpa [k22, k23, k3, Value.cells] using h_
  have g4 : DataW.trod enc Try.prog w base (fun _ => true) held n 23 [c4] = some x4 := by have h_ := hfld 4 _ rfl; simpa [k22, k23, k3, Value.cells] using h_
  obtain ⟨a0, e0, _, _⟩ := DataW.trod_int Try.underlying3 g0
  obtain ⟨a1, e1, _, _⟩ := DataW.trod_int Try.underlying3 g1
  obtain ⟨a2, e2, _, _⟩ := DataW.trod_int Try.underlying3 g2
  simp at e0 e1 e2
  subst e0; subst e1; subst e2
  obtain ⟨A3, len3, cap3, rfl⟩ := slice_cell Try.underlying22 g3
  obtain ⟨A4, len4, cap4, rfl⟩ := slice_cell Try.underlying23 g4
  obtain ⟨l3, rfl, h3, m3⟩ := open_list g3
  obtain ⟨l4, rfl, h4, m4⟩ := open_taken g4
  exact ⟨a0, a1, a2, A3, cap3, l3, A4, cap4, l4, rfl, h3, m3, h4, m4⟩
set_option maxRecDepth 100000 in
theorem lifted (os : Os) (started : os.Started) (H : Type) (enc : TypeId × Value → H) :
    ReturnsInHanded {} Try.checked os 3 .any (Rows.withholdingWithholdsSpec.pre6 enc Try.prog Try.f3 Rows.withholdingWithholdsRow.domain false) (Rows.withholdingWithholdsSpec.post enc Try.prog Try.f3 false true false false) := by
  refine returnsInHanded_of_change_sized (C := Try.checked) own started (by kernel_rfl) Try.func3
    (ChangeSpec.witness6 (enc := enc) (C := Try.checked) false ⟨#[], #[.slice none 0 0, .agg #[.int .i64 0, .int .i64 0, .int .i64 0, .slice none 0 0, .slice none 0 0], .int .i64 0, .int .i64 0], []⟩ 8 (by kernel_rfl) (by kernel_rfl) (by kernel_rfl) (by kernel_rfl)) ?_
  intro W base args ds gs before hval0 hW hcnd hsz0 _
  have hval : ∀ (j : Nat) t v, Try.f3.params[j]? = some t → args[j]? = some v → Value.okWide Try.prog W .any base t v := hval0
  have hW' := hW
  obtain ⟨p, q, hA0, hV, rfl, hfz, hnd⟩ := hW
  have hA : DataW.TrodAll enc Try.prog W 0 (fun _ => true) true Try.f3.params.toList args.toList ds p := hA0
  rw [Try.params3] at hA hval
  obtain ⟨v0, vs0, d0, ds0, p0, q0, hargs, rfl, rfl, h0, r0⟩ := trodAll_cons hA
  obtain ⟨v1, vs1, d1, ds1, p1, q1, rfl, rfl, rfl, h1, r1⟩ := trodAll_cons r0
  obtain ⟨v2, vs2, d2, ds2, p2, q2, rfl, rfl, rfl, h2, r2⟩ := trodAll_cons r1
  obtain ⟨v3, vs3, d3, ds3, p3, q3, rfl, rfl, rfl, h3, r3⟩ := trodAll_cons r2
  obtain ⟨rfl, rfl, rfl⟩ := trodAll_nil r3
  obtain rfl : args = #[v0, v1, v2, v3] := by cases args; simp_all
  obtain ⟨rfl, rfl⟩ := trodVars_none hV
  obtain ⟨a0, len0, cap0, rfl⟩ := okWide_slice Try.underlying22 (hval 0 22 v0 rfl rfl)
  have k0 := h0
  have k1 := h1
  have lt0 : ∀ x ∈ p0, x.block < W.heap.size := by obtain ⟨m, hm⟩ := k0; exact DataW.trod_lt m _ _ _ hm
  have lt1 : ∀ x ∈ p1, x.block < W.heap.size := by obtain ⟨m, hm⟩ := k1; exact DataW.trod_lt m _ _ _ hm
  obtain ⟨l0, rfl, C0, m0⟩ : ∃ l : List Int, len0 = l.length ∧ Kd.C (Kd.int .i64) W a0 l.length l ∧ l.length ≤ cap0 := by
    obtain ⟨fuel, hf⟩ := h0
    exact open_list hf
  obtain ⟨b0, b1, b2, A3, c3, l3, A4, c4, l4, rfl, C3, m3, C4, m4⟩ := open_year (hval 1 25 v1 rfl rfl) h1
  obtain ⟨a2, rfl, rfl, rfl, w2⟩ := open_int Try.underlying3 (hval 2 3 v2 rfl rfl) h2
  obtain ⟨a3, rfl, rfl, rfl, w3⟩ := open_int Try.underlying3 (hval 3 3 v3 rfl rfl) h3
  clear hA0 hval0 hsz0
  obtain ⟨k, hk⟩ := Pure.WithholdingWithholds l0 b0 b1 b2 l3 l4 a2 a3
  refine (P.payrolllaw30_WithholdingWithholds.calls k a0 cap0 l0 b0 b1 b2 A3 c3 l3 A4 c4 l4 a2 a3 true W C0 m0 C3 m3 C4 m4 hk rfl).mono fun e W' ⟨he, bel⟩ => ?_
  subst he
  exact ⟨_, rfl, _, _, _, [], _, [], hW', trodAll_mk1 (shut_bool Try.underlying4 _), (trodAll_cons_mk (Below.trod laidOut (by kernel_rfl) (of_decide_eq_true (by kernel_rfl)) k0 bel lt0) (trodAll_cons_mk (Below.trod laidOut (by kernel_rfl) (of_decide_eq_true (by kernel_rfl)) k1 bel lt1) (trodAll_cons_mk (shut_int Try.underlying3 w2) (trodAll_cons_mk (shut_int Try.underlying3 w3) trodAll_mk0)))), rfl, bel.frame _, fun h => by cases h⟩
theorem over : Rows.withholdingWithholdsRow.holds Try.pinned (OpenSpec.ofChange Rows.withholdingWithholdsSpec) :=
  OpenClaim.holds_of_wide 3 Try.f3 rfl rfl rfl rfl rfl rfl rfl ⟨rfl, rfl, rfl, rfl, rfl⟩ rfl rfl rfl rfl rfl (by kernel_rfl) Try.func3 (by kernel_rfl)
    (of_decide_eq_true (by kernel_rfl)) (by unfold Func.isWrapper; first | (rw [if_pos (by decide +kernel)]; kernel_rfl) | (rw [if_neg (by decide +kernel)]; exact ⟨rfl, rfl⟩))
    (fun os started H enc _ => lifted os started H enc)
theorem proved : Rows.WithholdingWithholdsSaid := over
#print axioms proved
end Go.Proofs.Ytbacfajhgmnjpaa.withholdingWithholds
namespace Go.Proofs.Ytbacfajhgmnjpaa
/-- The row, under a short name, for the claim. -/
theorem withholdingWithholds_holds : Rows.WithholdingWithholdsSaid := withholdingWithholds.proved
end Go.Proofs.Ytbacfajhgmnjpaa
