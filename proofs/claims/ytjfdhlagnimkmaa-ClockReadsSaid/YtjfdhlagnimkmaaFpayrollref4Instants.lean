/- Proved here: that the Go function payrollref4_Instants computes the plain function of that name (the machine side of the laws, reworked from a print; no condition of its own). -/
import Derived.Test.YtjfdhlagnimkmaaProg
import Derived.Test.YtjfdhlagnimkmaaV1
import Derived.Test.YtjfdhlagnimkmaaFPRE0
import Derived.Test.YtjfdhlagnimkmaaFPRE1
import Derived.Test.YtjfdhlagnimkmaaFpayrollref4Valid
import Derived.Test.YtjfdhlagnimkmaaFpayrollref4segment
namespace Go.Proofs.Ytjfdhlagnimkmaa.P
open Go.RowKit Go.Proofs.YtjfdhlagnimkmaaW.PrintWords Go.Proofs.YtjfdhlagnimkmaaW.PrintLast Go.Proofs.YtjfdhlagnimkmaaW.PrintMore
attribute [local go_sem] max2_int min2_int max_two min_two max_three min_three max_four min_four   -- for this text's walks alone
set_option linter.unusedVariables false
set_option linter.unusedSimpArgs false

def payrollref4_Instants.l0 : Nat → Int → List Int → Int → Int → List (S42) → Option (List Int × Int)
 | 0, _, _, _, _, _ => none
 | k + 1, x1, x7, x8, x321000, x321001 => if x8 ≤ (x321001.length : Int) then ((payrollref4_segment.f x321000 x321001 x8).bind fun bt322 => (if x1 ≥ (wrap64 (bt322.1 + bt322.2.2)) then (if x1 ≤ (wrap64 (bt322.2.1 + bt322.2.2)) then (if x7.length < 17592186044416 then (payrollref4_Instants.l0 k x1 (x7 ++ [wrap64 (x1 - bt322.2.2)]) (wrap64 (x8 + 1)) x321000 x321001) else (none)) else (payrollref4_Instants.l0 k x1 x7 (wrap64 (x8 + 1)) x321000 x321001)) else (payrollref4_Instants.l0 k x1 x7 (wrap64 (x8 + 1)) x321000 x321001))) else (some (x7, 0))
def payrollref4_Instants.f (k : Nat) (a0_0 : Int) (l0_1 : List (S42)) (a1 : Int) : Option (List Int × Int) := (payrollref4_Valid.f k a0_0 l0_1).bind fun t321 => (if t321 = 0 then (payrollref4_Instants.l0 k a1 ([] : List Int) 0 a0_0 l0_1) else (some (([] : List Int), t321)))
theorem payrollref4_Instants.mono_l : ∀ k, (∀ y0 y1 y2 y3 y4, LeO (payrollref4_Instants.l0 k y0 y1 y2 y3 y4) (payrollref4_Instants.l0 (k + 1) y0 y1 y2 y3 y4))
 | 0 => fun _ _ _ _ _ r h => by simp [payrollref4_Instants.l0] at h
 | k + 1 => by
  have ih0 := payrollref4_Instants.mono_l k
  ·
   intro y0 y1 y2 y3 y4
   unfold payrollref4_Instants.l0
   repeat' first
   | (with_reducible exact ih0 _ _ _ _ _)
   | (with_reducible exact payrollref4_Valid.mono _ _ _)
   | (with_reducible exact LeO.refl _)
   | (with_reducible exact LeO.none _)
   | (with_reducible refine LeO.ite ?_ ?_)
   | (with_reducible refine LeO.bind ?_ (fun _ => ?_))
   | exact ih0 _ _ _ _ _
   | exact payrollref4_Valid.mono _ _ _
   | exact LeO.none _
   | refine LeO.ite ?_ ?_
   | refine LeO.bind ?_ (fun _ => ?_)
theorem payrollref4_Instants.mono : ∀ a0 a1 a2 k, LeO (payrollref4_Instants.f k a0 a1 a2) (payrollref4_Instants.f (k + 1) a0 a1 a2) := by
 intro a0 a1 a2 k
 have ih0 := payrollref4_Instants.mono_l k
 unfold payrollref4_Instants.f
 repeat' first
   | (with_reducible exact ih0 _ _ _ _ _)
   | (with_reducible exact payrollref4_Valid.mono _ _ _)
   | (with_reducible exact LeO.refl _)
   | (with_reducible exact LeO.none _)
   | (with_reducible refine LeO.ite ?_ ?_)
   | (with_reducible refine LeO.bind ?_ (fun _ => ?_))
   | exact ih0 _ _ _ _ _
   | exact payrollref4_Valid.mono _ _ _
   | exact LeO.none _
   | refine LeO.ite ?_ ?_
   | refine LeO.bind ?_ (fun _ => ?_)
set_option maxHeartbeats 8000000 in
set_option maxRecDepth 100000 in
theorem payrollref4_Instants.calls (k : Nat) (a0_0 : Int) (A0_1 : Option Addr) (c0_1 : Nat) (l0_1 : List (S42)) (a1 : Int) (r1 : List Int) (r2 : Int) (w : World) (hr0_1 : Kd.C k42 w A0_1 l0_1.length l0_1) (hc0_1 : l0_1.length ≤ c0_1) (h : payrollref4_Instants.f k a0_0 l0_1 a1 = some (r1, r2)) :
  Calls Try.prog 28 #[.agg #[.int .i64 a0_0, .slice A0_1 l0_1.length c0_1], .int .i64 a1] w fun e w' => ∃ v0_ : Value, e = .returned (.tuple #[v0_, .int .i64 r2]) ∧ Kd.R (Kd.int .i64) 3 w' w.heap.size (fun _ => True) v0_ r1 ∧ Below w.heap.size w w' := by
 have hu27 := Try.underlying27
 have HR0_1 := Aside0.mk hr0_1
 have HC0_1 := Aside0.mk hc0_1
 clear hr0_1 hc0_1
 have HB := Aside0.mk (Below.refl w.heap.size w)
 have H : ((payrollref4_Valid.f k a0_0 l0_1).bind fun t321 => (if t321 = 0 then (payrollref4_Instants.l0 k a1 ([] : List Int) 0 a0_0 l0_1) else (some (([] : List Int), t321)))) = some (r1, r2) := h
 clear h
 replace H := Option.bind_eq_some_iff.mp H
 obtain ⟨t321, A30, H⟩ := H
 replace H : (if t321 = 0 then (payrollref4_Instants.l0 k a1 ([] : List Int) 0 a0_0 l0_1) else (some (([] : List Int), t321))) = some (r1, r2) := H
 have A3 := Aside0.mk A30
 clear A30
 by_cases c4 : t321 = 0
 ·
  rw [if_pos c4] at H
  have c4b0 : (t321 == 0) = true := beq_iff_eq.mpr c4
  have c4b1 : (t321 != 0) = false := bne_eq_false_iff_eq.mpr c4
  clear c4
  have H' := Aside0.mk H
  clear H
  go_enter Try.func28, Try.ntmps28
  go_wp2_with (first | ((with_reducible refine gate_dst (N := 2) rfl ?_); refine box_event ?hg (N := 2) ?hd (cs := #[.int .i64 a0_0, .slice A0_1 l0_1.length c0_1]) (t := 27) ?hr ?_; (case hd => rfl); (case hg => rfl); (case hr => first | (go_simp; done) | (go_simp; rfl)); intro gb320 hg w5 hbox hb; have n0_ := Aside0.mk (below_step (by repeat (first | (with_reducible first | exact HB.out | apply below_alloc | apply pw_below_drewN | apply below_drew1) | exact HB.out)) hb); have n1_ := Aside0.mk (hbox); have n2_ := Aside0.mk ((by rw [hg]; exact (below_size (by repeat (first | (with_reducible first | exact HB.out | apply below_alloc | apply pw_below_drewN | apply below_drew1) | exact HB.out))) : w.heap.size ≤ gb320)); have n3_ := Aside0.mk ((by rw [hg]; exact (below_size (by repeat (first | (with_reducible first | exact HB.out | apply below_alloc | apply pw_below_drewN | apply below_drew1) | exact HB.out))) : w.heap.size ≤ gb320)); clear HB; have HB := n0_; have BK320 := n1_; have GW320 := n2_; have GE320 := n3_; clear n0_ n1_ n2_ n3_; clear hb hbox hg; have hcz6_0 : w5.cell? ⟨gb320, 0, none⟩ = some (.int .i64 a0_0) := (blk_cell BK320.out 0).trans rfl; have hcz6_1 : w5.cell? ⟨gb320, 1, none⟩ = some (.slice A0_1 l0_1.length c0_1) := (blk_cell BK320.out 1).trans rfl; have hfz6_0 := blk_frozen BK320.out 0; have hfz6_1 := blk_frozen BK320.out 1) | ((with_reducible refine gate_callee (f := 29) rfl ?_); refine goesL_ (some 13) rfl rfl Try.func29 (by kernel_rfl) rfl #[.agg #[.int .i64 a0_0, .slice A0_1 l0_1.length c0_1]] rfl (by (try simp only [List.map_toArray, List.map_cons, List.map_nil]); first | done | rfl | (simp only [List.length_drop, List.length_take]; rfl)) ?_; (with_reducible refine (payrollref4_Valid.calls k a0_0 _ _ l0_1 t321 _ ?side1 ?side2 A3.out).mono ?_); (case side1 => repeat (first | exact (Kd.C_below HR0_1.out HB.out) | (with_reducible refine Kd.C_alloc ?_ _) | (with_reducible refine Kd.C_drewN ?_ _) | (with_reducible refine Kd.C_drew ?_))); (case side2 => exact HC0_1.out); rintro e w7 ⟨rfl, hb⟩; refine ⟨_, rfl, ?_⟩; have n0_ := Aside0.mk (blk_below (g := gb320) (o := .cells #[.int .i64 a0_0, .slice A0_1 l0_1.length c0_1] 27 (0, 0)) (by (with_reducible repeat (first | refine blk_drewN ?_ _ | refine blk_drew ?_ | refine blk_alloc ?_ _)); exact BK320.out) hb); have n1_ := Aside0.mk (below_step (by repeat (first | (with_reducible first | exact HB.out | apply below_alloc | apply pw_below_drewN | apply below_drew1 | refine below_set ?_ GE320.out) | exact HB.out)) hb); clear BK320; clear HB; have BK320 := n0_; have HB := n1_; clear n0_ n1_; (try clear hb); (try clear hb2); (try clear hk); (try clear hi)))
  go_loopg [7, 8] k (fun kq v7 v8 w' => ∃ (x7_1 : List Int) (x8_1 : Int), v8 = .int .i64 x8_1 ∧ Aside0 (payrollref4_Instants.l0 kq a1 x7_1 x8_1 a0_0 l0_1 = some (r1, r2)) ∧ Aside0 (kq ≤ k) ∧ Aside0 (Kd.R (Kd.int .i64) 3 w' w.heap.size (fun _ => True) v7 x7_1) ∧ Aside0 (w'.heap[gb320]? = some (.cells #[.int .i64 a0_0, (.slice A0_1 l0_1.length c0_1)] 27 (0, 0))) ∧ Aside0 (Below w.heap.size w w'))
  case atStart => exact ⟨(([] : List Int)), (0), (by first | rfl | (simp; done) | (simp [*]; done)), H', ⟨Nat.le_refl _⟩, ⟨by first | exact Kd.R_nil _ _ _ _ _ | exact Kd.N_nil _ _ _ _ _ | exact Kd.V_nil _ _ _ _ _ | exact Kd.Q_nil _ _ _ _ _ | exact Kd.S_nil _ _ _ _ _⟩, ⟨by (with_reducible repeat (first | refine blk_drewN ?_ _ | refine blk_drew ?_ | refine blk_alloc ?_ _)); exact BK320.out⟩, ⟨by repeat (first | (with_reducible first | exact HB.out | apply below_alloc | apply pw_below_drewN | apply below_drew1 | refine below_set ?_ GE320.out) | exact HB.out)⟩⟩
  case round =>
   clear H'
   try clear c2
   try clear p2
   try clear c4
   try clear c4b0
   try clear c4b1
   try clear hcz6_0
   try clear hcz6_1
   try clear hfz6_0
   try clear hfz6_1
   obtain ⟨x7_1, x8_1, rfl, HA, HK1, HO_7, BK320, HB⟩ := hrel
   cases gk with
   | zero => exact absurd HA.out (by simp [payrollref4_Instants.l0])
   | succ k1 =>
    have H := HA.out
    clear HA
    simp only [payrollref4_Instants.l0] at H
    by_cases c8 : x8_1 ≤ (l0_1.length : Int)
    ·
     rw [if_pos c8] at H
     have c8b0 : decide (x8_1 ≤ (l0_1.length : Int)) = true := decide_eq_true c8
     clear c8
     replace H := Option.bind_eq_some_iff.mp H
     obtain ⟨⟨t322, t323, t324⟩, A90, H⟩ := H
     replace H : (if a1 ≥ (wrap64 (t322 + t324)) then (if a1 ≤ (wrap64 (t323 + t324)) then (if x7_1.length < 17592186044416 then (payrollref4_Instants.l0 k1 a1 (x7_1 ++ [wrap64 (a1 - t324)]) (wrap64 (x8_1 + 1)) a0_0 l0_1) else (none)) else (payrollref4_Instants.l0 k1 a1 x7_1 (wrap64 (x8_1 + 1)) a0_0 l0_1)) else (payrollref4_Instants.l0 k1 a1 x7_1 (wrap64 (x8_1 + 1)) a0_0 l0_1)) = some (r1, r2) := H
     have A9 := Aside0.mk A90
     clear A90
     by_cases c10 : a1 ≥ (wrap64 (t322 + t324))
     ·
      rw [if_pos c10] at H
      have c10b0 : decide ((wrap64 (t322 + t324)) ≤ a1) = true := decide_eq_true c10
      clear c10
      by_cases c11 : a1 ≤ (wrap64 (t323 + t324))
      ·
       rw [if_pos c11] at H
       have c11b0 : decide (a1 ≤ (wrap64 (t323 + t324))) = true := decide_eq_true c11
       clear c11
       by_cases c12 : x7_1.length < 17592186044416
       ·
        rw [if_pos c12] at H
        have LMc12 := Aside0.mk c12
        clear c12
        obtain ⟨y325, hy325⟩ : ∃ y_ : List Int, y_ = (x7_1 ++ [wrap64 (a1 - t324)]) := ⟨_, rfl⟩
        replace H : (payrollref4_Instants.l0 k1 a1 y325 (wrap64 (x8_1 + 1)) a0_0 l0_1) = some (r1, r2) := by first | (rw [hy325]; with_reducible exact H) | (have H2_ := (Option.bind_some _ _).symm.trans H; rw [hy325]; with_reducible exact H2_) | (have H2_ := (Option.bind_some _ _).symm.trans H; with_reducible exact H2_) | with_reducible exact H | (rw [hy325]; exact H) | exact H
        have Ny325 := Aside0.mk hy325
        clear hy325
        have H' := Aside0.mk H
        clear H
        have hcz13_0 : wr.cell? ⟨gb320, 0, none⟩ = some (.int .i64 a0_0) := (blk_cell BK320.out 0).trans rfl
        have hcz13_1 : wr.cell? ⟨gb320, 1, none⟩ = some (.slice A0_1 l0_1.length c0_1) := (blk_cell BK320.out 1).trans rfl
        have hfz13_0 := blk_frozen BK320.out 0
        have hfz13_1 := blk_frozen BK320.out 1
        go_wp2_with (first | ((with_reducible refine gate_callee (f := 36) rfl ?_); refine goesL_ (some 27) rfl rfl Try.func36 (by kernel_rfl) rfl #[.agg #[.int .i64 a0_0, .slice A0_1 l0_1.length c0_1], .int .i64 x8_1] rfl (by (try simp only [List.map_toArray, List.map_cons, List.map_nil]); first | done | rfl | (simp only [List.length_drop, List.length_take]; rfl)) ?_; (with_reducible refine (payrollref4_segment.calls a0_0 _ _ l0_1 x8_1 t322 t323 t324 _ ?side1 ?side2 A9.out).mono ?_); (case side1 => repeat (first | exact (Kd.C_below HR0_1.out HB.out) | (with_reducible refine Kd.C_alloc ?_ _) | (with_reducible refine Kd.C_drewN ?_ _) | (with_reducible refine Kd.C_drew ?_))); (case side2 => exact HC0_1.out); rintro e w14 ⟨rfl, hb⟩; refine ⟨_, rfl, ?_⟩; have n0_ := Aside0.mk (Kd.R_below (by (with_reducible repeat (first | apply Kd.R_alloc | apply Kd.R_drewN | apply Kd.R_drew)); exact HO_7.out) hb); have n1_ := Aside0.mk (blk_below (g := gb320) (o := .cells #[.int .i64 a0_0, .slice A0_1 l0_1.length c0_1] 27 (0, 0)) (by (with_reducible repeat (first | refine blk_drewN ?_ _ | refine blk_drew ?_ | refine blk_alloc ?_ _)); exact BK320.out) hb); have n2_ := Aside0.mk (below_step (by repeat (first | (with_reducible first | exact HB.out | apply below_alloc | apply pw_below_drewN | apply below_drew1 | refine below_set ?_ GE320.out) | exact HB.out)) hb); clear HO_7; clear BK320; clear HB; have HO_7 := n0_; have BK320 := n1_; have HB := n2_; clear n0_ n1_ n2_; (try clear hb); (try clear hb2); (try clear hk); (try clear hi)) | ((with_reducible refine gate_builtin (b := .append) (xs := #[.tmp 43, .tmp 47]) rfl ?_); at_builtin; refine Kd.R_append (Kd.int .i64) (w0 := w) w.heap.size rfl (.tmp 43) (.tmp 47) 22 3 (.int .i64 0) 8 rfl Try.underlying22 info3 rfl (by decide) (by omega) u7 x7_1 (wrap64 (a1 - t324)) [.int .i64 (wrap64 (a1 - t324))] (fun _ => True) (fun _ => False) rfl rfl ?aP (fun _ hk => hk.elim) ?aF ?aO ?aB ?aS ?aL ?_; (case aP => exact rfl); (case aB => exact (by repeat (first | (with_reducible first | exact HB.out | apply below_alloc | apply pw_below_drewN | apply below_drew1 | refine below_set ?_ GE320.out) | exact HB.out))); (case aF => exact (fun _ _ => trivial)); (case aO => exact (by (with_reducible repeat (first | apply Kd.R_alloc | apply Kd.R_drewN | apply Kd.R_drew)); exact HO_7.out)); (case aS => exact (below_size (by repeat (first | (with_reducible first | exact HB.out | apply below_alloc | apply pw_below_drewN | apply below_drew1 | refine below_set ?_ GE320.out) | exact HB.out)))); (case aL => have := LMc12.out; omega); intro v326 w15 ho hb hg hat; rw [← Ny325.out] at ho; have n0_ := Aside0.mk (blk_grown (g := gb320) (o := .cells #[.int .i64 a0_0, .slice A0_1 l0_1.length c0_1] 27 (0, 0)) (by (with_reducible repeat (first | refine blk_drewN ?_ _ | refine blk_drew ?_ | refine blk_alloc ?_ _)); exact BK320.out) hg (Kd.R_ne HO_7.out BK320.out (by decide))); have n1_ := Aside0.mk (hb); have n2_ := Aside0.mk (ho); clear BK320; clear HB; clear HO_7; have BK320 := n0_; have HB := n1_; have HO327 := n2_; clear n0_ n1_ n2_; clear ho hb hg hat))
        go_roundg k1
        case measure => have := HK1.out; omega
        case rel => exact ⟨(y325), (wrap64 (x8_1 + 1)), (by first | rfl | (simp; done) | (simp [*]; done)), H', ⟨by have := HK1.out; omega⟩, ⟨by (with_reducible repeat (first | apply Kd.R_alloc | apply Kd.R_drewN | apply Kd.R_drew)); exact HO327.out⟩, ⟨by (with_reducible repeat (first | refine blk_drewN ?_ _ | refine blk_drew ?_ | refine blk_alloc ?_ _)); exact BK320.out⟩, ⟨by repeat (first | (with_reducible first | exact HB.out | apply below_alloc | apply pw_below_drewN | apply below_drew1 | refine below_set ?_ GE320.out) | exact HB.out)⟩⟩
       ·
        rw [if_neg c12] at H
        exact absurd H (by simp)
      ·
       rw [if_neg c11] at H
       have c11b0 : decide (a1 ≤ (wrap64 (t323 + t324))) = false := decide_eq_false c11
       clear c11
       have H' := Aside0.mk H
       clear H
       have hcz16_0 : wr.cell? ⟨gb320, 0, none⟩ = some (.int .i64 a0_0) := (blk_cell BK320.out 0).trans rfl
       have hcz16_1 : wr.cell? ⟨gb320, 1, none⟩ = some (.slice A0_1 l0_1.length c0_1) := (blk_cell BK320.out 1).trans rfl
       have hfz16_0 := blk_frozen BK320.out 0
       have hfz16_1 := blk_frozen BK320.out 1
       go_wp2_with (first | ((with_reducible refine gate_callee (f := 36) rfl ?_); refine goesL_ (some 27) rfl rfl Try.func36 (by kernel_rfl) rfl #[.agg #[.int .i64 a0_0, .slice A0_1 l0_1.length c0_1], .int .i64 x8_1] rfl (by (try simp only [List.map_toArray, List.map_cons, List.map_nil]); first | done | rfl | (simp only [List.length_drop, List.length_take]; rfl)) ?_; (with_reducible refine (payrollref4_segment.calls a0_0 _ _ l0_1 x8_1 t322 t323 t324 _ ?side1 ?side2 A9.out).mono ?_); (case side1 => repeat (first | exact (Kd.C_below HR0_1.out HB.out) | (with_reducible refine Kd.C_alloc ?_ _) | (with_reducible refine Kd.C_drewN ?_ _) | (with_reducible refine Kd.C_drew ?_))); (case side2 => exact HC0_1.out); rintro e w17 ⟨rfl, hb⟩; refine ⟨_, rfl, ?_⟩; have n0_ := Aside0.mk (Kd.R_below (by (with_reducible repeat (first | apply Kd.R_alloc | apply Kd.R_drewN | apply Kd.R_drew)); exact HO_7.out) hb); have n1_ := Aside0.mk (blk_below (g := gb320) (o := .cells #[.int .i64 a0_0, .slice A0_1 l0_1.length c0_1] 27 (0, 0)) (by (with_reducible repeat (first | refine blk_drewN ?_ _ | refine blk_drew ?_ | refine blk_alloc ?_ _)); exact BK320.out) hb); have n2_ := Aside0.mk (below_step (by repeat (first | (with_reducible first | exact HB.out | apply below_alloc | apply pw_below_drewN | apply below_drew1 | refine below_set ?_ GE320.out) | exact HB.out)) hb); clear HO_7; clear BK320; clear HB; have HO_7 := n0_; have BK320 := n1_; have HB := n2_; clear n0_ n1_ n2_; (try clear hb); (try clear hb2); (try clear hk); (try clear hi)))
       go_roundg k1
       case measure => have := HK1.out; omega
       case rel => exact ⟨(x7_1), (wrap64 (x8_1 + 1)), (by first | rfl | (simp; done) | (simp [*]; done)), H', ⟨by have := HK1.out; omega⟩, ⟨by (with_reducible repeat (first | apply Kd.R_alloc | apply Kd.R_drewN | apply Kd.R_drew)); exact HO_7.out⟩, ⟨by (with_reducible repeat (first | refine blk_drewN ?_ _ | refine blk_drew ?_ | refine blk_alloc ?_ _)); exact BK320.out⟩, ⟨by repeat (first | (with_reducible first | exact HB.out | apply below_alloc | apply pw_below_drewN | apply below_drew1 | refine below_set ?_ GE320.out) | exact HB.out)⟩⟩
     ·
      rw [if_neg c10] at H
      have c10b0 : decide ((wrap64 (t322 + t324)) ≤ a1) = false := decide_eq_false c10
      clear c10
      have H' := Aside0.mk H
      clear H
      have hcz18_0 : wr.cell? ⟨gb320, 0, none⟩ = some (.int .i64 a0_0) := (blk_cell BK320.out 0).trans rfl
      have hcz18_1 : wr.cell? ⟨gb320, 1, none⟩ = some (.slice A0_1 l0_1.length c0_1) := (blk_cell BK320.out 1).trans rfl
      have hfz18_0 := blk_frozen BK320.out 0
      have hfz18_1 := blk_frozen BK320.out 1
      go_wp2_with (first | ((with_reducible refine gate_callee (f := 36) rfl ?_); refine goesL_ (some 27) rfl rfl Try.func36 (by kernel_rfl) rfl #[.agg #[.int .i64 a0_0, .slice A0_1 l0_1.length c0_1], .int .i64 x8_1] rfl (by (try simp only [List.map_toArray, List.map_cons, List.map_nil]); first | done | rfl | (simp only [List.length_drop, List.length_take]; rfl)) ?_; (with_reducible refine (payrollref4_segment.calls a0_0 _ _ l0_1 x8_1 t322 t323 t324 _ ?side1 ?side2 A9.out).mono ?_); (case side1 => repeat (first | exact (Kd.C_below HR0_1.out HB.out) | (with_reducible refine Kd.C_alloc ?_ _) | (with_reducible refine Kd.C_drewN ?_ _) | (with_reducible refine Kd.C_drew ?_))); (case side2 => exact HC0_1.out); rintro e w19 ⟨rfl, hb⟩; refine ⟨_, rfl, ?_⟩; have n0_ := Aside0.mk (Kd.R_below (by (with_reducible repeat (first | apply Kd.R_alloc | apply Kd.R_drewN | apply Kd.R_drew)); exact HO_7.out) hb); have n1_ := Aside0.mk (blk_below (g := gb320) (o := .cells #[.int .i64 a0_0, .slice A0_1 l0_1.length c0_1] 27 (0, 0)) (by (with_reducible repeat (first | refine blk_drewN ?_ _ | refine blk_drew ?_ | refine blk_alloc ?_ _)); exact BK320.out) hb); have n2_ := Aside0.mk (below_step (by repeat (first | (with_reducible first | exact HB.out | apply below_alloc | apply pw_below_drewN | apply below_drew1 | refine below_set ?_ GE320.out) | exact HB.out)) hb); clear HO_7; clear BK320; clear HB; have HO_7 := n0_; have BK320 := n1_; have HB := n2_; clear n0_ n1_ n2_; (try clear hb); (try clear hb2); (try clear hk); (try clear hi)))
      go_roundg k1
      case measure => have := HK1.out; omega
      case rel => exact ⟨(x7_1), (wrap64 (x8_1 + 1)), (by first | rfl | (simp; done) | (simp [*]; done)), H', ⟨by have := HK1.out; omega⟩, ⟨by (with_reducible repeat (first | apply Kd.R_alloc | apply Kd.R_drewN | apply Kd.R_drew)); exact HO_7.out⟩, ⟨by (with_reducible repeat (first | refine blk_drewN ?_ _ | refine blk_drew ?_ | refine blk_alloc ?_ _)); exact BK320.out⟩, ⟨by repeat (first | (with_reducible first | exact HB.out | apply below_alloc | apply pw_below_drewN | apply below_drew1 | refine below_set ?_ GE320.out) | exact HB.out)⟩⟩
    ·
     rw [if_neg c8] at H
     have c8b0 : decide (x8_1 ≤ (l0_1.length : Int)) = false := decide_eq_false c8
     clear c8
     simp only [Option.some.injEq, Prod.mk.injEq] at H
     obtain ⟨rfl, rfl⟩ := H
     have hcz20_0 : wr.cell? ⟨gb320, 0, none⟩ = some (.int .i64 a0_0) := (blk_cell BK320.out 0).trans rfl
     have hcz20_1 : wr.cell? ⟨gb320, 1, none⟩ = some (.slice A0_1 l0_1.length c0_1) := (blk_cell BK320.out 1).trans rfl
     have hfz20_0 := blk_frozen BK320.out 0
     have hfz20_1 := blk_frozen BK320.out 1
     go_wp2
     go_ret2
     exact ⟨_, by first | rfl | (simp [errW_none, errW_some] <;> rfl) | (simp [*, errW_none, errW_some] <;> rfl), by (with_reducible repeat (first | apply Kd.R_alloc | apply Kd.R_drewN | apply Kd.R_drew)); exact HO_7.out, by repeat (first | (with_reducible first | exact HB.out | apply below_alloc | apply pw_below_drewN | apply below_drew1 | refine below_set ?_ GE320.out) | exact HB.out)⟩
 ·
  rw [if_neg c4] at H
  have c4b0 : (t321 == 0) = false := beq_eq_false_iff_ne.mpr c4
  have c4b1 : (t321 != 0) = true := bne_iff_ne.mpr c4
  simp only [Option.some.injEq, Prod.mk.injEq] at H
  obtain ⟨rfl, rfl⟩ := H
  go_enter Try.func28, Try.ntmps28
  go_wp2_with (first | ((with_reducible refine gate_dst (N := 2) rfl ?_); refine box_event ?hg (N := 2) ?hd (cs := #[.int .i64 a0_0, .slice A0_1 l0_1.length c0_1]) (t := 27) ?hr ?_; (case hd => rfl); (case hg => rfl); (case hr => first | (go_simp; done) | (go_simp; rfl)); intro gb320 hg w21 hbox hb; have n0_ := Aside0.mk (below_step (by repeat (first | (with_reducible first | exact HB.out | apply below_alloc | apply pw_below_drewN | apply below_drew1) | exact HB.out)) hb); have n1_ := Aside0.mk (hbox); have n2_ := Aside0.mk ((by rw [hg]; exact (below_size (by repeat (first | (with_reducible first | exact HB.out | apply below_alloc | apply pw_below_drewN | apply below_drew1) | exact HB.out))) : w.heap.size ≤ gb320)); have n3_ := Aside0.mk ((by rw [hg]; exact (below_size (by repeat (first | (with_reducible first | exact HB.out | apply below_alloc | apply pw_below_drewN | apply below_drew1) | exact HB.out))) : w.heap.size ≤ gb320)); clear HB; have HB := n0_; have BK320 := n1_; have GW320 := n2_; have GE320 := n3_; clear n0_ n1_ n2_ n3_; clear hb hbox hg; have hcz22_0 : w21.cell? ⟨gb320, 0, none⟩ = some (.int .i64 a0_0) := (blk_cell BK320.out 0).trans rfl; have hcz22_1 : w21.cell? ⟨gb320, 1, none⟩ = some (.slice A0_1 l0_1.length c0_1) := (blk_cell BK320.out 1).trans rfl; have hfz22_0 := blk_frozen BK320.out 0; have hfz22_1 := blk_frozen BK320.out 1) | ((with_reducible refine gate_callee (f := 29) rfl ?_); refine goesL_ (some 13) rfl rfl Try.func29 (by kernel_rfl) rfl #[.agg #[.int .i64 a0_0, .slice A0_1 l0_1.length c0_1]] rfl (by (try simp only [List.map_toArray, List.map_cons, List.map_nil]); first | done | rfl | (simp only [List.length_drop, List.length_take]; rfl)) ?_; (with_reducible refine (payrollref4_Valid.calls k a0_0 _ _ l0_1 t321 _ ?side1 ?side2 A3.out).mono ?_); (case side1 => repeat (first | exact (Kd.C_below HR0_1.out HB.out) | (with_reducible refine Kd.C_alloc ?_ _) | (with_reducible refine Kd.C_drewN ?_ _) | (with_reducible refine Kd.C_drew ?_))); (case side2 => exact HC0_1.out); rintro e w23 ⟨rfl, hb⟩; refine ⟨_, rfl, ?_⟩; have n0_ := Aside0.mk (blk_below (g := gb320) (o := .cells #[.int .i64 a0_0, .slice A0_1 l0_1.length c0_1] 27 (0, 0)) (by (with_reducible repeat (first | refine blk_drewN ?_ _ | refine blk_drew ?_ | refine blk_alloc ?_ _)); exact BK320.out) hb); have n1_ := Aside0.mk (below_step (by repeat (first | (with_reducible first | exact HB.out | apply below_alloc | apply pw_below_drewN | apply below_drew1 | refine below_set ?_ GE320.out) | exact HB.out)) hb); clear BK320; clear HB; have BK320 := n0_; have HB := n1_; clear n0_ n1_; (try clear hb); (try clear hb2); (try clear hk); (try clear hi)))
  go_ret2
  exact ⟨_, by first | rfl | (simp [errW_none, errW_some] <;> rfl) | (simp [*, errW_none, errW_some] <;> rfl), by first | exact Kd.R_nil _ _ _ _ _ | exact Kd.N_nil _ _ _ _ _ | exact Kd.V_nil _ _ _ _ _ | exact Kd.Q_nil _ _ _ _ _ | exact Kd.S_nil _ _ _ _ _, by repeat (first | (with_reducible first | exact HB.out | apply below_alloc | apply pw_below_drewN | apply below_drew1 | refine below_set ?_ GE320.out) | exact HB.out)⟩

end Go.Proofs.Ytjfdhlagnimkmaa.P
