/- ClockReads: for every input the call returns true, and each argument reads behind the call as it read before. Conditions: none beyond the row. -/
import Derived.Test.YtjfdhlagnimkmaaRows
import Derived.Test.YtjfdhlagnimkmaaFpayrolllaw4ClockReads
import Derived.Test.YtjfdhlagnimkmaaPureClockReads
import Derived.Test.YtjfdhlagnimkmaaPairs
import Derived.Lib.SmallJoins
import Derived.WalkKit
import Derived.ProofKit
import Derived.OpenShut
import Derived.ShutString
import Derived.ChangeOld
import Derived.Below
import Derived.SizedLaws
import Derived.Test.YtjfdhlagnimkmaaV1
namespace Go.Proofs.Ytjfdhlagnimkmaa.clockReads
open Go.ChangeShapes Go.WideShapes Go.ChangeAt Go.RowKit Go.Joins Go.Proofs.YtjfdhlagnimkmaaW.PrintWords Go.Proofs.Ytjfdhlagnimkmaa.P
open Go.ChangeMaps (open_string shut_string)
set_option linter.unusedVariables false
theorem own : ownKnob Try.prog.godebug = none := by kernel_rfl
theorem laidOut : laidOutB Try.prog = true := by kernel_rfl
set_option maxRecDepth 100000 in
theorem lifted (os : Os) (started : os.Started) (H : Type) (enc : TypeId × Value → H) :
    ReturnsInHanded {} Try.checked os 7 .any (Rows.clockReadsSpec.pre6 enc Try.prog Try.f7 Rows.clockReadsRow.domain false) (Rows.clockReadsSpec.post enc Try.prog Try.f7 false true false false) := by
  refine returnsInHanded_of_change_sized (C := Try.checked) own started (by kernel_rfl) Try.func7
    (ChangeSpec.witness6 (enc := enc) (C := Try.checked) false ⟨#[], #[.slice none 0 0, .agg #[.int .i64 0, .slice none 0 0], .int .i64 0, .int .i64 0, .int .i64 0], []⟩ 8 (by kernel_rfl) (by kernel_rfl) (by kernel_rfl) (by kernel_rfl)) ?_
  intro W base args ds gs before hval0 hW hcnd hsz0 _
  have hsz : (DataW.weightsEach Try.prog (Try.f7.params.toList ++ Rows.clockReadsSpec.plain.varTypes Try.prog) (ds ++ gs)).all (· ≤ reachBytes) = true := hsz0
  have hval : ∀ (j : Nat) t v, Try.f7.params[j]? = some t → args[j]? = some v → Value.okWide Try.prog W .any base t v := hval0
  have hW' := hW
  obtain ⟨p, q, hA0, hV, rfl, hfz, hnd⟩ := hW
  have hA : DataW.TrodAll enc Try.prog W 0 (fun _ => true) true Try.f7.params.toList args.toList ds p := hA0
  rw [Try.params7] at hA hval hsz
  obtain ⟨v0, vs0, d0, ds0, p0, q0, hargs, rfl, rfl, h0, r0⟩ := trodAll_cons hA
  obtain ⟨v1, vs1, d1, ds1, p1, q1, rfl, rfl, rfl, h1, r1⟩ := trodAll_cons r0
  obtain ⟨v2, vs2, d2, ds2, p2, q2, rfl, rfl, rfl, h2, r2⟩ := trodAll_cons r1
  obtain ⟨v3, vs3, d3, ds3, p3, q3, rfl, rfl, rfl, h3, r3⟩ := trodAll_cons r2
  obtain ⟨v4, vs4, d4, ds4, p4, q4, rfl, rfl, rfl, h4, r4⟩ := trodAll_cons r3
  obtain ⟨rfl, rfl, rfl⟩ := trodAll_nil r4
  obtain rfl : args = #[v0, v1, v2, v3, v4] := by cases args; simp_all
  obtain ⟨rfl, rfl⟩ := trodVars_none hV
  obtain ⟨a0, len0, cap0, rfl⟩ := okWide_slice Try.underlying22 (hval 0 22 v0 rfl rfl)
  have k0 := h0
  have k1 := h1
  have lt0 : ∀ x ∈ p0, x.block < W.heap.size := by obtain ⟨m, hm⟩ := k0; exact DataW.trod_lt m _ _ _ hm
  have lt1 : ∀ x ∈ p1, x.block < W.heap.size := by obtain ⟨m, hm⟩ := k1; exact DataW.trod_lt m _ _ _ hm
  obtain ⟨z0, w0⟩ : ∃ zs : List Int, (a0 = none ∧ len0 = 0 ∧ cap0 = 0 ∧ zs = []) ∨ ∃ x, a0 = some x ∧ len0 ≤ cap0 ∧ cap0 ≤ maxLen ∧ zs.length = cap0 ∧ (∀ i, i < zs.length → W.cell? (x.add i) = some (.int .i64 (zs.getD i 0))) ∧ ∀ n ∈ zs, (Lit.int .i64 n).wf = true := by
    obtain ⟨fuel, hf⟩ := h0
    rcases open_ints Try.underlying22 Try.underlying3 (by kernel_rfl) hf with ⟨hcs, _⟩ | ⟨x, l, c, zs, hcs, _, hl, hm, hz, _, hcell, hwz⟩
    · simp [Value.cells] at hcs
      obtain ⟨rfl, rfl, rfl⟩ := hcs
      exact ⟨[], .inl ⟨rfl, rfl, rfl, rfl⟩⟩
    · simp [Value.cells] at hcs
      obtain ⟨rfl, rfl, rfl⟩ := hcs
      exact ⟨zs, .inr ⟨_, rfl, hl, hm, by simpa using hz, hcell, hwz⟩⟩
  have y0 : len0 * 8 ≤ 140737488351232 := YtjfdhlagnimkmaaW.PrintWords.sized_ints hsz (j := 0) (t := 22) rfl rfl Try.underlying22 Try.underlying3 (by kernel_rfl) (by kernel_rfl) h0
  obtain ⟨l0, rfl, hr0, hm0, hw0, hc0⟩ := ReadsInt.ofRowC w0
  have C0 := Kd.C_of_reads (d := (0 : Int)) (h1 := fun _ => rfl) hr0
  obtain ⟨u0, u1, s0, s1, m1, rfl, rfl, rfl, hs0, hs1⟩ := open_agg2 Try.underlying27 (by kernel_rfl) (by kernel_rfl) (hval 1 27 v1 rfl rfl) h1
  obtain ⟨o, e0, rfl, wo⟩ := DataW.trod_int Try.underlying3 hs0
  simp at e0
  subst e0
  obtain ⟨A1, len1, cap1, rfl⟩ := Pairs.slice_cell Try.underlying25 hs1
  obtain ⟨hc1, t, rfl, w1⟩ : len1 ≤ cap1 ∧ ∃ t : List S42, t.length = len1 ∧ Kd.C k42 W A1 t.length t := by
    obtain ⟨hc, hm, g, hg⟩ := Pairs.open_pairs Try.underlying25 Try.underlying42 Try.underlying3 Try.underlying3 rfl rfl (by kernel_rfl) (by kernel_rfl) (by kernel_rfl) hs1
    refine ⟨hc, (List.range len1).map (fun i => ⟨(g i).1, (g i).2⟩), by simp, by simp, by simpa using hm, fun hpos => ?_⟩
    obtain ⟨a, ha, hcell⟩ := hg (by simpa using hpos)
    refine ⟨a, ha, fun j p hj => ?_⟩
    obtain ⟨hjl, rfl⟩ : j < len1 ∧ p = ⟨(g j).1, (g j).2⟩ := by
      rw [List.getElem?_map] at hj
      obtain ⟨b, hb, rfl⟩ := Option.map_eq_some_iff.1 hj
      have := List.getElem?_eq_some_iff.1 hb
      obtain ⟨hl, rfl⟩ := this
      simp at hl
      simp [hl]
    obtain ⟨c0, c1⟩ := hcell j hjl
    refine ⟨[.int .i64 (g j).1, .int .i64 (g j).2], rfl, ⟨[.int .i64 (g j).1], [.int .i64 (g j).2], rfl, rfl, rfl⟩, fun i u hu => ?_⟩
    match i, hu with
    | 0, hu => cases hu; exact c0
    | 1, hu => cases hu; exact c1
  obtain ⟨a2, rfl, rfl, rfl, w2⟩ := open_int Try.underlying3 (hval 2 3 v2 rfl rfl) h2
  obtain ⟨a3, rfl, rfl, rfl, w3⟩ := open_int Try.underlying3 (hval 3 3 v3 rfl rfl) h3
  obtain ⟨a4, rfl, rfl, rfl, w4⟩ := open_int Try.underlying3 (hval 4 3 v4 rfl rfl) h4
  clear hA0 hval0 hsz0 hsz
  obtain ⟨k, hk⟩ := Pure.ClockReads l0 y0 o t a2 a3 a4
  refine (P.payrolllaw4_ClockReads.calls k a0 cap0 l0 o A1 cap1 t a2 a3 a4 true W C0 hc0 w1 hc1 hk).mono fun e W' ⟨he, bel⟩ => ?_
  subst he
  exact ⟨_, rfl, _, _, _, [], _, [], hW', trodAll_mk1 (shut_bool Try.underlying4 _), (trodAll_cons_mk (Below.trod laidOut (by kernel_rfl) (of_decide_eq_true (by kernel_rfl)) k0 bel lt0) (trodAll_cons_mk (Below.trod laidOut (by kernel_rfl) (of_decide_eq_true (by kernel_rfl)) k1 bel lt1) (trodAll_cons_mk (shut_int Try.underlying3 w2) (trodAll_cons_mk (shut_int Try.underlying3 w3) (trodAll_cons_mk (shut_int Try.underlying3 w4) trodAll_mk0))))), rfl, bel.frame _, fun h => by cases h⟩
theorem over : Rows.clockReadsRow.holds Try.pinned (OpenSpec.ofChange Rows.clockReadsSpec) :=
  OpenClaim.holds_of_wide 7 Try.f7 rfl rfl rfl rfl rfl rfl rfl ⟨rfl, rfl, rfl, rfl, rfl⟩ rfl rfl rfl rfl rfl (by kernel_rfl) Try.func7 (by kernel_rfl)
    (of_decide_eq_true (by kernel_rfl)) (by unfold Func.isWrapper; first | (rw [if_pos (by decide +kernel)]; kernel_rfl) | (rw [if_neg (by decide +kernel)]; exact ⟨rfl, rfl⟩))
    (fun os started H enc _ => lifted os started H enc)
theorem proved : Rows.ClockReadsSaid := over
#print axioms proved
end Go.Proofs.Ytjfdhlagnimkmaa.clockReads
namespace Go.Proofs.Ytjfdhlagnimkmaa
/-- The row, under a short name, for the claim. -/
theorem clockReads_holds : Rows.ClockReadsSaid := clockReads.proved
end Go.Proofs.Ytjfdhlagnimkmaa
