/- Proved here: that the Go function payrolllaw7_RecordsComeBack computes the plain function of that name (the machine side of the laws, reworked from a print; no condition of its own). -/
import Derived.Test.YtopigdnffnondaaProg
import Derived.Test.YtopigdnffnondaaV1
import Derived.Test.YtopigdnffnondaaFPRE0
import Derived.Test.YtopigdnffnondaaFPRE1
import Derived.Test.YtopigdnffnondaaFPRE3
import Derived.Test.YtopigdnffnondaaFPRE7
import Derived.Test.YtopigdnffnondaaFpayrollgenNew
import Derived.Test.YtopigdnffnondaaFrecordsEncode
import Derived.Test.YtopigdnffnondaaFrecordsDecode
import Derived.Test.YtopigdnffnondaaFpayrolllaw7sane
import Derived.Test.YtopigdnffnondaaFpayrolllaw7same
import Derived.Test.YtopigdnffnondaaFpayrollgenTapeEvents
namespace Go.Proofs.Ytopigdnffnondaa.P
open Go.RowKit Go.Proofs.YtopigdnffnondaaW.PrintWords Go.Proofs.YtopigdnffnondaaW.PrintLast Go.Proofs.YtopigdnffnondaaW.PrintMore
attribute [local go_sem] max2_int min2_int max_two min_two max_three min_three max_four min_four   -- for this text's walks alone
set_option linter.unusedVariables false
set_option linter.unusedSimpArgs false

def payrolllaw7_RecordsComeBack.l0 : Nat → List (S26) → List Int → Int → Option (Bool)
 | 0, _, _, _ => none
 | k + 1, x3, x4, x5 => if x5 < (x3.length : Int) then (if 0 ≤ x5 then ((records_Encode.f k ((rd_T26 x3 x5).f0.f0) ((rd_T26 x3 x5).f0.f1) ((rd_T26 x3 x5).f1) ((rd_T26 x3 x5).f2) ((rd_T26 x3 x5).f3) ((rd_T26 x3 x5).f4.f0) ((rd_T26 x3 x5).f4.f1)).bind fun bt538 => (if bt538.2 = 0 then (if (bt538.1.length : Int) = 24 then (if x4.length + bt538.1.length < 140737488355328 then (payrolllaw7_RecordsComeBack.l0 k x3 (x4 ++ bt538.1) (wrap64 (x5 + 1))) else (none)) else (some false)) else (some false))) else (none)) else ((records_Decode.f k x4).bind fun bt545 => ((payrolllaw7_same.f k x3 ([] : List (S55)) bt545.1 bt545.2.1).bind fun t552 => (if t552 = true then (if bt545.2.2 = (x4.length : Int) then ((payrolllaw7_sane.f k).bind fun t553 => (some t553)) else (some false)) else (some false))))
def payrolllaw7_RecordsComeBack.f (k : Nat) (l0 : List Int) : Option (Bool) := (payrollgen_New.f l0).bind fun bt530 => ((payrollgen_Tape_Events.f k bt530.1 bt530.2 6).bind fun bt533 => (payrolllaw7_RecordsComeBack.l0 k bt533.1 ([] : List Int) 0))
theorem payrolllaw7_RecordsComeBack.mono_l : ∀ k, (∀ y0 y1 y2, LeO (payrolllaw7_RecordsComeBack.l0 k y0 y1 y2) (payrolllaw7_RecordsComeBack.l0 (k + 1) y0 y1 y2))
 | 0 => fun _ _ _ r h => by simp [payrolllaw7_RecordsComeBack.l0] at h
 | k + 1 => by
  have ih0 := payrolllaw7_RecordsComeBack.mono_l k
  ·
   intro y0 y1 y2
   unfold payrolllaw7_RecordsComeBack.l0
   repeat' first
   | (with_reducible exact ih0 _ _ _)
   | (with_reducible exact payrollgen_Tape_Events.mono _ _ _ _)
   | (with_reducible exact payrolllaw7_same.mono _ _ _ _ _)
   | (with_reducible exact payrolllaw7_sane.mono _)
   | (with_reducible exact records_Decode.mono _ _)
   | (with_reducible exact records_Encode.mono _ _ _ _ _ _ _ _)
   | (with_reducible exact LeO.refl _)
   | (with_reducible exact LeO.none _)
   | (with_reducible refine LeO.ite ?_ ?_)
   | (with_reducible refine LeO.bind ?_ (fun _ => ?_))
   | exact ih0 _ _ _
   | exact payrollgen_Tape_Events.mono _ _ _ _
   | exact payrolllaw7_same.mono _ _ _ _ _
   | exact payrolllaw7_sane.mono _
   | exact records_Decode.mono _ _
   | exact records_Encode.mono _ _ _ _ _ _ _ _
   | exact LeO.none _
   | refine LeO.ite ?_ ?_
   | refine LeO.bind ?_ (fun _ => ?_)
theorem payrolllaw7_RecordsComeBack.mono : ∀ a0 k, LeO (payrolllaw7_RecordsComeBack.f k a0) (payrolllaw7_RecordsComeBack.f (k + 1) a0) := by
 intro a0 k
 have ih0 := payrolllaw7_RecordsComeBack.mono_l k
 unfold payrolllaw7_RecordsComeBack.f
 repeat' first
   | (with_reducible exact ih0 _ _ _)
   | (with_reducible exact payrollgen_Tape_Events.mono _ _ _ _)
   | (with_reducible exact payrolllaw7_same.mono _ _ _ _ _)
   | (with_reducible exact payrolllaw7_sane.mono _)
   | (with_reducible exact records_Decode.mono _ _)
   | (with_reducible exact records_Encode.mono _ _ _ _ _ _ _ _)
   | (with_reducible exact LeO.refl _)
   | (with_reducible exact LeO.none _)
   | (with_reducible refine LeO.ite ?_ ?_)
   | (with_reducible refine LeO.bind ?_ (fun _ => ?_))
   | exact ih0 _ _ _
   | exact payrollgen_Tape_Events.mono _ _ _ _
   | exact payrolllaw7_same.mono _ _ _ _ _
   | exact payrolllaw7_sane.mono _
   | exact records_Decode.mono _ _
   | exact records_Encode.mono _ _ _ _ _ _ _ _
   | exact LeO.none _
   | refine LeO.ite ?_ ?_
   | refine LeO.bind ?_ (fun _ => ?_)
set_option maxHeartbeats 8000000 in
set_option maxRecDepth 100000 in
theorem payrolllaw7_RecordsComeBack.calls (k : Nat) (A0 : Option Addr) (c0 : Nat) (l0 : List Int) (r : Bool) (w : World) (hr0 : Kd.C (Kd.int .i64) w A0 l0.length l0) (hc0 : l0.length ≤ c0) (h : payrolllaw7_RecordsComeBack.f k l0 = some r) (hT : r = true) :
  Calls Try.prog 5 #[.slice A0 l0.length c0] w fun e w' => e = .returned (.bool r) ∧ Below w.heap.size w w' := by
 have HT := Aside0.mk hT
 clear hT
 have hu26 := Try.underlying26
 have HR0 := Aside0.mk hr0
 have HC0 := Aside0.mk hc0
 clear hr0 hc0
 have HB := Aside0.mk (Below.refl w.heap.size w)
 have H : ((payrollgen_New.f l0).bind fun bt530 => ((payrollgen_Tape_Events.f k bt530.1 bt530.2 6).bind fun bt533 => (payrolllaw7_RecordsComeBack.l0 k bt533.1 ([] : List Int) 0))) = some r := h
 clear h
 replace H := Option.bind_eq_some_iff.mp H
 obtain ⟨⟨t530, t531⟩, A20, H⟩ := H
 replace H : ((payrollgen_Tape_Events.f k t530 t531 6).bind fun bt533 => (payrolllaw7_RecordsComeBack.l0 k bt533.1 ([] : List Int) 0)) = some r := H
 have A2 := Aside0.mk A20
 clear A20
 replace H := Option.bind_eq_some_iff.mp H
 obtain ⟨⟨t533, t536⟩, A30, H⟩ := H
 replace H : (payrolllaw7_RecordsComeBack.l0 k t533 ([] : List Int) 0) = some r := H
 have A3 := Aside0.mk A30
 clear A30
 have H' := Aside0.mk H
 clear H
 go_enter Try.func5, Try.ntmps5
 go_wp2_with (first | ((with_reducible refine gate_callee (f := 9) rfl ?_); refine goesL_ (some 12) rfl rfl Try.func9 (by kernel_rfl) rfl #[.slice A0 l0.length c0] rfl (by (try simp only [List.map_toArray, List.map_cons, List.map_nil]); first | done | rfl | (simp only [List.length_drop, List.length_take]; rfl)) ?_; (with_reducible refine (payrollgen_New.calls _ _ l0 t530 t531 w _ ?side1 ?side2 ?side3 A2.out).mono ?_); (case side1 => repeat (first | (with_reducible first | exact HB.out | apply below_alloc | apply pw_below_drewN | apply below_drew1) | exact HB.out)); (case side2 => exact HR0.out); (case side3 => exact HC0.out); rintro e w4 ⟨g532, rfl, hi, hb, hb2⟩; refine ⟨_, rfl, ?_⟩; have n0_ := Aside0.mk (hb); have n1_ := Aside0.mk (hi); clear HB; have HB := n0_; have HI532 := n1_; clear n0_ n1_; (try clear hb); (try clear hb2); (try clear hk); (try clear hi)) | ((with_reducible refine gate_callee (f := 23) rfl ?_); refine goesL_ (some 13) rfl rfl Try.func23 (by kernel_rfl) rfl #[.pointer (some ⟨g532, 0, none⟩), .int .i64 6] rfl (by (try simp only [List.map_toArray, List.map_cons, List.map_nil]); first | done | rfl | (simp only [List.length_drop, List.length_take]; rfl)) ?_; (with_reducible refine (payrollgen_Tape_Events.calls k g532 t530 t531 6 t533 t536 w _ ?side1 ?side2 A3.out).mono ?_); (case side1 => repeat (first | (with_reducible first | exact HI532.out | apply IsS57.alloc | apply IsS57.drewN | apply IsS57.drew | apply IsS57.set_1) | exact HI532.out)); (case side2 => repeat (first | (with_reducible first | exact HB.out | apply below_alloc | apply pw_below_drewN | apply below_drew1 | refine below_set ?_ (IsS57.ge HI532.out)) | exact HB.out)); rintro e w5 ⟨v534, rfl, ho0, hi, hb, hk⟩; refine ⟨_, rfl, ?_⟩; have n0_ := Aside0.mk (Kd.R_lower ho0 (below_size (by repeat (first | (with_reducible first | exact HB.out | apply below_alloc | apply pw_below_drewN | apply below_drew1 | refine below_set ?_ (IsS57.ge HI532.out)) | exact HB.out)))); have n1_ := Aside0.mk (hb); have n2_ := Aside0.mk (hi); clear HB; clear HI532; have HO535 := n0_; have HB := n1_; have HI532 := n2_; clear n0_ n1_ n2_; (try clear hb); (try clear hb2); (try clear hk); (try clear hi); (try clear ho0)))
 go_loopg [4, 5] k (fun kq v4 v5 w' => ∃ (x4_1 : List Int) (x5_1 : Int), v5 = .int .i64 x5_1 ∧ Aside0 (payrolllaw7_RecordsComeBack.l0 kq t533 x4_1 x5_1 = some r) ∧ Aside0 (kq ≤ k) ∧ Aside0 (Kd.R k26 26 w' w.heap.size (fun _ => True) v534 t533) ∧ Aside0 (Kd.R (Kd.int .u8) 5 w' w.heap.size (fun _ => True) v4 x4_1) ∧ Aside0 (Below w.heap.size w w'))
 case atStart => exact ⟨(([] : List Int)), (0), (by first | rfl | (simp; done) | (simp [*]; done)), H', ⟨Nat.le_refl _⟩, ⟨by (with_reducible repeat (first | apply Kd.R_alloc | apply Kd.R_drewN | apply Kd.R_drew)); exact HO535.out⟩, ⟨by first | exact Kd.R_nil _ _ _ _ _ | exact Kd.N_nil _ _ _ _ _ | exact Kd.V_nil _ _ _ _ _ | exact Kd.Q_nil _ _ _ _ _ | exact Kd.S_nil _ _ _ _ _⟩, ⟨by repeat (first | (with_reducible first | exact HB.out | apply below_alloc | apply pw_below_drewN | apply below_drew1 | refine below_set ?_ (IsS57.ge HI532.out)) | exact HB.out)⟩⟩
 case round =>
  clear H'
  try clear c2
  try clear p2
  try clear c5
  obtain ⟨x4_1, x5_1, rfl, HA, HK1, HO_3, HO_4, HB⟩ := hrel
  cases gk with
  | zero => exact absurd HA.out (by simp [payrolllaw7_RecordsComeBack.l0])
  | succ k1 =>
   have H := HA.out
   clear HA
   simp only [payrolllaw7_RecordsComeBack.l0] at H
   by_cases c6 : x5_1 < (t533.length : Int)
   ·
    rw [if_pos c6] at H
    have c6b0 : decide (x5_1 < (t533.length : Int)) = true := decide_eq_true c6
    clear c6
    by_cases c7 : 0 ≤ x5_1
    ·
     rw [if_pos c7] at H
     have c7b0 : decide (0 ≤ x5_1) = true := decide_eq_true c7
     clear c7
     replace H := Option.bind_eq_some_iff.mp H
     obtain ⟨⟨t538, t541⟩, A80, H⟩ := H
     replace H : (if t541 = 0 then (if (t538.length : Int) = 24 then (if x4_1.length + t538.length < 140737488355328 then (payrolllaw7_RecordsComeBack.l0 k1 t533 (x4_1 ++ t538) (wrap64 (x5_1 + 1))) else (none)) else (some false)) else (some false)) = some r := H
     have A8 := Aside0.mk A80
     clear A80
     by_cases c9 : t541 = 0
     ·
      rw [if_pos c9] at H
      have c9b0 : (t541 == 0) = true := beq_iff_eq.mpr c9
      have c9b1 : (t541 != 0) = false := bne_eq_false_iff_eq.mpr c9
      clear c9
      by_cases c10 : (t538.length : Int) = 24
      ·
       rw [if_pos c10] at H
       have c10b0 : ((t538.length : Int) == 24) = true := beq_iff_eq.mpr c10
       have c10b1 : ((t538.length : Int) != 24) = false := bne_eq_false_iff_eq.mpr c10
       clear c10
       by_cases c11 : x4_1.length + t538.length < 140737488355328
       ·
        rw [if_pos c11] at H
        have LMc11 := Aside0.mk c11
        clear c11
        obtain ⟨y542, hy542⟩ : ∃ y_ : List Int, y_ = (x4_1 ++ t538) := ⟨_, rfl⟩
        replace H : (payrolllaw7_RecordsComeBack.l0 k1 t533 y542 (wrap64 (x5_1 + 1))) = some r := by first | (rw [hy542]; with_reducible exact H) | (have H2_ := (Option.bind_some _ _).symm.trans H; rw [hy542]; with_reducible exact H2_) | (have H2_ := (Option.bind_some _ _).symm.trans H; with_reducible exact H2_) | with_reducible exact H | (rw [hy542]; exact H) | exact H
        have Ny542 := Aside0.mk hy542
        clear hy542
        have H' := Aside0.mk H
        clear H
        obtain ⟨Ao12, co12, eo12⟩ := Kd.R_slice HO_3.out
        subst eo12
        have p537 : 0 ≤ (x5_1 : Int) := of_decide_eq_true (by first | (with_reducible assumption) | assumption)
        have q537 : x5_1 < (t533.length : Int) := of_decide_eq_true (by first | (with_reducible assumption) | assumption)
        obtain ⟨ad537, e537, hx537_0, hx537_1, hx537_2, hx537_3, hx537_4, hx537_5, hx537_6⟩ := at_T26 (Kd.R_reads' HO_3.out).2.2 x5_1 p537 q537
        cases e537
        replace p537 := eq_true p537
        replace q537 := eq_true q537
        go_wp2_with (first | ((with_reducible refine gate_callee (f := 12) rfl ?_); refine goesL_ (some 25) rfl rfl Try.func12 (by kernel_rfl) rfl #[.agg #[.int .i64 ((rd_T26 t533 x5_1).f0.f0), .int .i64 ((rd_T26 t533 x5_1).f0.f1), .int .i64 ((rd_T26 t533 x5_1).f1), .int .i64 ((rd_T26 t533 x5_1).f2), .int .i64 ((rd_T26 t533 x5_1).f3), .int .i64 ((rd_T26 t533 x5_1).f4.f0), .int .i64 ((rd_T26 t533 x5_1).f4.f1)]] rfl (by (try simp only [List.map_toArray, List.map_cons, List.map_nil]); first | done | rfl | (simp only [List.length_drop, List.length_take]; rfl)) ?_; (with_reducible refine (records_Encode.calls k1 ((rd_T26 t533 x5_1).f0.f0) ((rd_T26 t533 x5_1).f0.f1) ((rd_T26 t533 x5_1).f1) ((rd_T26 t533 x5_1).f2) ((rd_T26 t533 x5_1).f3) ((rd_T26 t533 x5_1).f4.f0) ((rd_T26 t533 x5_1).f4.f1) t538 t541 _ A8.out).mono ?_); rintro e w13 ⟨v539, rfl, ho0, hb⟩; refine ⟨_, rfl, ?_⟩; have n0_ := Aside0.mk (Kd.R_below (by (with_reducible repeat (first | apply Kd.R_alloc | apply Kd.R_drewN | apply Kd.R_drew)); exact HO_3.out) hb); have n1_ := Aside0.mk (Kd.R_elder' (by (with_reducible repeat (first | apply Kd.R_alloc | apply Kd.R_drewN | apply Kd.R_drew)); exact HO_4.out) (Kd.R_base ho0) hb); have n2_ := Aside0.mk (Kd.R_lower (Kd.R_new' ho0 (Kd.R_lt (by (with_reducible repeat (first | apply Kd.R_alloc | apply Kd.R_drewN | apply Kd.R_drew)); exact HO_4.out))) (below_size (by repeat (first | (with_reducible first | exact HB.out | apply below_alloc | apply pw_below_drewN | apply below_drew1) | exact HB.out)))); have n3_ := Aside0.mk (below_step (by repeat (first | (with_reducible first | exact HB.out | apply below_alloc | apply pw_below_drewN | apply below_drew1) | exact HB.out)) hb); clear HO_3; clear HO_4; clear HB; have HO_3 := n0_; have HO_4 := n1_; have HO540 := n2_; have HB := n3_; clear n0_ n1_ n2_ n3_; (try clear hb); (try clear hb2); (try clear hk); (try clear hi); (try clear ho0); obtain ⟨Ao14, co14, eo14⟩ := Kd.R_slice HO540.out; subst eo14) | ((with_reducible refine gate_builtin (b := .append) (xs := #[.tmp 35, .tmp 36]) rfl ?_); (try (refine gate_guard (by rfl) ?_; dsimp only)); at_builtin; refine Kd.R_append_rows (Kd.int .u8) (w0 := w) w.heap.size rfl (.tmp 35) (.tmp 36) 27 5 (.int .u8 0) 1 rfl Try.underlying27 info5 rfl (by decide) (by omega) u4 x4_1 t538 _ _ _ (fun k_ => some k_ ≠ (.slice Ao14 t538.length co14 : Value).ownBlock) (fun _ => False) rfl rfl ?aO ?aR (fun _ _ h => h) (fun _ h => h.elim) ?aF ?aB ?aS ?aL ?_; (case aR => repeat (first | exact (Kd.R_reads' HO540.out).2.2 | (with_reducible refine Kd.C_alloc ?_ _) | (with_reducible refine Kd.C_drewN ?_ _) | (with_reducible refine Kd.C_drew ?_))); (case aB => exact (by repeat (first | (with_reducible first | exact HB.out | apply below_alloc | apply pw_below_drewN | apply below_drew1) | exact HB.out))); (case aF => exact (fun k_ hk => Kd.fresh' (Kd.R_lt (by (with_reducible repeat (first | apply Kd.R_alloc | apply Kd.R_drewN | apply Kd.R_drew)); exact HO540.out)) k_ hk)); (case aO => exact (by (with_reducible repeat (first | apply Kd.R_alloc | apply Kd.R_drewN | apply Kd.R_drew)); exact Kd.R_mono HO_4.out (fun _ hk => hk.2))); (case aS => exact (below_size (by repeat (first | (with_reducible first | exact HB.out | apply below_alloc | apply pw_below_drewN | apply below_drew1) | exact HB.out)))); (case aL => have := LMc11.out; omega); intro v543 w15 ho hb hg hat; rw [← Ny542.out] at ho; have n0_ := Aside0.mk (Kd.R_over' (by (with_reducible repeat (first | apply Kd.R_alloc | apply Kd.R_drewN | apply Kd.R_drew)); exact HO_3.out) (Kd.R_typed (by (with_reducible repeat (first | apply Kd.R_alloc | apply Kd.R_drewN | apply Kd.R_drew)); exact HO_4.out)) (by decide) hg); have n1_ := Aside0.mk (Kd.R_after (ok := (fun _ => True)) (by (with_reducible repeat (first | apply Kd.R_alloc | apply Kd.R_drewN | apply Kd.R_drew)); exact HO540.out) hg hat); have n2_ := Aside0.mk (hb); have n3_ := Aside0.mk (ho); clear HO_3; clear HO540; clear HB; clear HO_4; have HO_3 := n0_; have HO540 := n1_; have HB := n2_; have HO544 := n3_; clear n0_ n1_ n2_ n3_; clear ho hb hg hat))
        go_roundg k1
        case measure => have := HK1.out; omega
        case rel => exact ⟨(y542), (wrap64 (x5_1 + 1)), (by first | rfl | (simp; done) | (simp [*]; done)), H', ⟨by have := HK1.out; omega⟩, ⟨by (with_reducible repeat (first | apply Kd.R_alloc | apply Kd.R_drewN | apply Kd.R_drew)); exact HO_3.out⟩, ⟨by (with_reducible repeat (first | apply Kd.R_alloc | apply Kd.R_drewN | apply Kd.R_drew)); exact Kd.R_mono HO544.out (fun _ hk => trivial)⟩, ⟨by repeat (first | (with_reducible first | exact HB.out | apply below_alloc | apply pw_below_drewN | apply below_drew1) | exact HB.out)⟩⟩
       ·
        rw [if_neg c11] at H
        exact absurd H (by simp)
      ·
       rw [if_neg c10] at H
       have c10b0 : ((t538.length : Int) == 24) = false := beq_eq_false_iff_ne.mpr c10
       have c10b1 : ((t538.length : Int) != 24) = true := bne_iff_ne.mpr c10
       exact absurd (Option.some.inj H) (by rw [HT.out]; decide)
     ·
      rw [if_neg c9] at H
      have c9b0 : (t541 == 0) = false := beq_eq_false_iff_ne.mpr c9
      have c9b1 : (t541 != 0) = true := bne_iff_ne.mpr c9
      exact absurd (Option.some.inj H) (by rw [HT.out]; decide)
    ·
     rw [if_neg c7] at H
     exact absurd H (by simp)
   ·
    rw [if_neg c6] at H
    have c6b0 : decide (x5_1 < (t533.length : Int)) = false := decide_eq_false c6
    clear c6
    replace H := Option.bind_eq_some_iff.mp H
    obtain ⟨⟨t545, t546, t547⟩, A210, H⟩ := H
    replace H : ((payrolllaw7_same.f k1 t533 ([] : List (S55)) t545 t546).bind fun t552 => (if t552 = true then (if t547 = (x4_1.length : Int) then ((payrolllaw7_sane.f k1).bind fun t553 => (some t553)) else (some false)) else (some false))) = some r := H
    have A21 := Aside0.mk A210
    clear A210
    replace H := Option.bind_eq_some_iff.mp H
    obtain ⟨t552, A220, H⟩ := H
    replace H : (if t552 = true then (if t547 = (x4_1.length : Int) then ((payrolllaw7_sane.f k1).bind fun t553 => (some t553)) else (some false)) else (some false)) = some r := H
    have A22 := Aside0.mk A220
    clear A220
    by_cases c23 : t552 = true
    ·
     subst c23
     have H1 : (if t547 = (x4_1.length : Int) then ((payrolllaw7_sane.f k1).bind fun t553 => (some t553)) else (some false)) = some r := by rw [if_pos rfl] at H; exact H
     clear H
     have H := H1
     clear H1
     by_cases c24 : t547 = (x4_1.length : Int)
     ·
      rw [if_pos c24] at H
      have c24b0 : (t547 == (x4_1.length : Int)) = true := beq_iff_eq.mpr c24
      have c24b1 : (t547 != (x4_1.length : Int)) = false := bne_eq_false_iff_eq.mpr c24
      clear c24
      replace H := Option.bind_eq_some_iff.mp H
      obtain ⟨t553, A250, H⟩ := H
      replace H : (some t553) = some r := H
      have A25 := Aside0.mk A250
      clear A250
      obtain rfl := Option.some.inj H
      obtain ⟨Ao26, co26, eo26⟩ := Kd.R_slice HO_3.out
      subst eo26
      obtain ⟨Ao27, co27, eo27⟩ := Kd.R_slice HO_4.out
      subst eo27
      go_wp2_with (first | ((with_reducible refine gate_callee (f := 24) rfl ?_); refine goesL_ (some 40) rfl rfl Try.func24 (by kernel_rfl) rfl #[.slice Ao27 x4_1.length co27] rfl (by (try simp only [List.map_toArray, List.map_cons, List.map_nil]); first | done | rfl | (simp only [List.length_drop, List.length_take]; rfl)) ?_; (with_reducible refine (records_Decode.calls k1 _ _ x4_1 t545 t546 t547 _ ?side1 ?side2 A21.out).mono ?_); (case side1 => repeat (first | exact (Kd.R_reads' HO_4.out).2.2 | (with_reducible refine Kd.C_alloc ?_ _) | (with_reducible refine Kd.C_drewN ?_ _) | (with_reducible refine Kd.C_drew ?_))); (case side2 => exact (Kd.R_reads' HO_4.out).2.1); rintro e w28 ⟨v548, v550, rfl, ho0, ho1, hb⟩; refine ⟨_, rfl, ?_⟩; have n0_ := Aside0.mk (Kd.R_elder' (by (with_reducible repeat (first | apply Kd.R_alloc | apply Kd.R_drewN | apply Kd.R_drew)); exact HO_3.out) (Kd.R_base ho0) hb); have n1_ := Aside0.mk (Kd.R_below (by (with_reducible repeat (first | apply Kd.R_alloc | apply Kd.R_drewN | apply Kd.R_drew)); exact HO_4.out) hb); have n2_ := Aside0.mk (Kd.R_lower (Kd.R_new' ho0 (Kd.R_lt (by (with_reducible repeat (first | apply Kd.R_alloc | apply Kd.R_drewN | apply Kd.R_drew)); exact HO_3.out))) (below_size (by repeat (first | (with_reducible first | exact HB.out | apply below_alloc | apply pw_below_drewN | apply below_drew1) | exact HB.out)))); have n3_ := Aside0.mk (Kd.R_lower ho1 (below_size (by repeat (first | (with_reducible first | exact HB.out | apply below_alloc | apply pw_below_drewN | apply below_drew1) | exact HB.out)))); have n4_ := Aside0.mk (below_step (by repeat (first | (with_reducible first | exact HB.out | apply below_alloc | apply pw_below_drewN | apply below_drew1) | exact HB.out)) hb); clear HO_3; clear HO_4; clear HB; have HO_3 := n0_; have HO_4 := n1_; have HO549 := n2_; have HO551 := n3_; have HB := n4_; clear n0_ n1_ n2_ n3_ n4_; (try clear hb); (try clear hb2); (try clear hk); (try clear hi); (try clear ho0); (try clear ho1); obtain ⟨Ao29, co29, eo29⟩ := Kd.R_slice HO549.out; subst eo29; obtain ⟨Ao30, co30, eo30⟩ := Kd.R_slice HO551.out; subst eo30) | ((with_reducible refine gate_callee (f := 25) rfl ?_); refine goesL_ (some 47) rfl rfl Try.func25 (by kernel_rfl) rfl #[.slice Ao26 t533.length co26, .slice none 0 0, .slice Ao29 t545.length co29, .slice Ao30 t546.length co30] rfl (by (try simp only [List.map_toArray, List.map_cons, List.map_nil]); first | done | rfl | (simp only [List.length_drop, List.length_take]; rfl)) ?_; (refine (payrolllaw7_same.calls k1 _ _ t533 _ _ ([] : List (S55)) _ _ t545 _ _ t546 true _ ?side1 ?side2 ?side3 ?side4 ?side5 ?side6 ?side7 ?side8 A22.out).mono ?_); (case side1 => repeat (first | exact (Kd.R_reads' HO_3.out).2.2 | (with_reducible refine Kd.C_alloc ?_ _) | (with_reducible refine Kd.C_drewN ?_ _) | (with_reducible refine Kd.C_drew ?_))); (case side2 => exact (Kd.R_reads' HO_3.out).2.1); (case side3 => exact Kd.C_nil _ _); (case side4 => exact Nat.le_refl _); (case side5 => repeat (first | exact (Kd.R_reads' HO549.out).2.2 | (with_reducible refine Kd.C_alloc ?_ _) | (with_reducible refine Kd.C_drewN ?_ _) | (with_reducible refine Kd.C_drew ?_))); (case side6 => exact (Kd.R_reads' HO549.out).2.1); (case side7 => repeat (first | exact (Kd.R_reads' HO551.out).2.2 | (with_reducible refine Kd.C_alloc ?_ _) | (with_reducible refine Kd.C_drewN ?_ _) | (with_reducible refine Kd.C_drew ?_))); (case side8 => exact (Kd.R_reads' HO551.out).2.1); rintro e w' ⟨rfl, ⟨nd, rfl⟩⟩; refine ⟨_, rfl, ?_⟩) | (go_at_call 18; (with_reducible refine (payrolllaw7_sane.calls k1  t553 _ A25.out).mono ?_); rintro e w31 ⟨rfl, hb⟩; have n0_ := Aside0.mk (Kd.R_below (by (with_reducible repeat (first | apply Kd.R_alloc | apply Kd.R_drewN | apply Kd.R_drew)); exact HO_3.out) hb); have n1_ := Aside0.mk (Kd.R_below (by (with_reducible repeat (first | apply Kd.R_alloc | apply Kd.R_drewN | apply Kd.R_drew)); exact HO_4.out) hb); have n2_ := Aside0.mk (Kd.R_below (by (with_reducible repeat (first | apply Kd.R_alloc | apply Kd.R_drewN | apply Kd.R_drew)); exact HO549.out) hb); have n3_ := Aside0.mk (Kd.R_below (by (with_reducible repeat (first | apply Kd.R_alloc | apply Kd.R_drewN | apply Kd.R_drew)); exact HO551.out) hb); have n4_ := Aside0.mk (below_step (by repeat (first | (with_reducible first | exact HB.out | apply below_alloc | apply pw_below_drewN | apply below_drew1) | exact HB.out)) hb); clear HO_3; clear HO_4; clear HO549; clear HO551; clear HB; have HO_3 := n0_; have HO_4 := n1_; have HO549 := n2_; have HO551 := n3_; have HB := n4_; clear n0_ n1_ n2_ n3_ n4_; (try clear hb); (try clear hb2); (try clear hk); (try clear hi)))
      go_ret
      exact ⟨by first | rfl | (simp [errW_none, errW_some] <;> rfl) | (simp [*, errW_none, errW_some] <;> rfl), by repeat (first | (with_reducible first | exact HB.out | apply below_alloc | apply pw_below_drewN | apply below_drew1) | exact HB.out)⟩
     ·
      rw [if_neg c24] at H
      have c24b0 : (t547 == (x4_1.length : Int)) = false := beq_eq_false_iff_ne.mpr c24
      have c24b1 : (t547 != (x4_1.length : Int)) = true := bne_iff_ne.mpr c24
      exact absurd (Option.some.inj H) (by rw [HT.out]; decide)
    ·
     replace c23 := Bool.eq_false_iff.mpr c23
     subst c23
     have H1 : (some false) = some r := by rw [if_neg (show ¬ (false = true) by decide)] at H; exact H
     clear H
     have H := H1
     clear H1
     obtain rfl := Option.some.inj H
     obtain ⟨Ao37, co37, eo37⟩ := Kd.R_slice HO_3.out
     subst eo37
     obtain ⟨Ao38, co38, eo38⟩ := Kd.R_slice HO_4.out
     subst eo38
     go_wp2_with (first | ((with_reducible refine gate_callee (f := 24) rfl ?_); refine goesL_ (some 40) rfl rfl Try.func24 (by kernel_rfl) rfl #[.slice Ao38 x4_1.length co38] rfl (by (try simp only [List.map_toArray, List.map_cons, List.map_nil]); first | done | rfl | (simp only [List.length_drop, List.length_take]; rfl)) ?_; (with_reducible refine (records_Decode.calls k1 _ _ x4_1 t545 t546 t547 _ ?side1 ?side2 A21.out).mono ?_); (case side1 => repeat (first | exact (Kd.R_reads' HO_4.out).2.2 | (with_reducible refine Kd.C_alloc ?_ _) | (with_reducible refine Kd.C_drewN ?_ _) | (with_reducible refine Kd.C_drew ?_))); (case side2 => exact (Kd.R_reads' HO_4.out).2.1); rintro e w39 ⟨v548, v550, rfl, ho0, ho1, hb⟩; refine ⟨_, rfl, ?_⟩; have n0_ := Aside0.mk (Kd.R_elder' (by (with_reducible repeat (first | apply Kd.R_alloc | apply Kd.R_drewN | apply Kd.R_drew)); exact HO_3.out) (Kd.R_base ho0) hb); have n1_ := Aside0.mk (Kd.R_below (by (with_reducible repeat (first | apply Kd.R_alloc | apply Kd.R_drewN | apply Kd.R_drew)); exact HO_4.out) hb); have n2_ := Aside0.mk (Kd.R_lower (Kd.R_new' ho0 (Kd.R_lt (by (with_reducible repeat (first | apply Kd.R_alloc | apply Kd.R_drewN | apply Kd.R_drew)); exact HO_3.out))) (below_size (by repeat (first | (with_reducible first | exact HB.out | apply below_alloc | apply pw_below_drewN | apply below_drew1) | exact HB.out)))); have n3_ := Aside0.mk (Kd.R_lower ho1 (below_size (by repeat (first | (with_reducible first | exact HB.out | apply below_alloc | apply pw_below_drewN | apply below_drew1) | exact HB.out)))); have n4_ := Aside0.mk (below_step (by repeat (first | (with_reducible first | exact HB.out | apply below_alloc | apply pw_below_drewN | apply below_drew1) | exact HB.out)) hb); clear HO_3; clear HO_4; clear HB; have HO_3 := n0_; have HO_4 := n1_; have HO549 := n2_; have HO551 := n3_; have HB := n4_; clear n0_ n1_ n2_ n3_ n4_; (try clear hb); (try clear hb2); (try clear hk); (try clear hi); (try clear ho0); (try clear ho1); obtain ⟨Ao40, co40, eo40⟩ := Kd.R_slice HO549.out; subst eo40; obtain ⟨Ao41, co41, eo41⟩ := Kd.R_slice HO551.out; subst eo41) | ((with_reducible refine gate_callee (f := 25) rfl ?_); refine goesL_ (some 47) rfl rfl Try.func25 (by kernel_rfl) rfl #[.slice Ao37 t533.length co37, .slice none 0 0, .slice Ao40 t545.length co40, .slice Ao41 t546.length co41] rfl (by (try simp only [List.map_toArray, List.map_cons, List.map_nil]); first | done | rfl | (simp only [List.length_drop, List.length_take]; rfl)) ?_; (refine (payrolllaw7_same.calls k1 _ _ t533 _ _ ([] : List (S55)) _ _ t545 _ _ t546 false _ ?side1 ?side2 ?side3 ?side4 ?side5 ?side6 ?side7 ?side8 A22.out).mono ?_); (case side1 => repeat (first | exact (Kd.R_reads' HO_3.out).2.2 | (with_reducible refine Kd.C_alloc ?_ _) | (with_reducible refine Kd.C_drewN ?_ _) | (with_reducible refine Kd.C_drew ?_))); (case side2 => exact (Kd.R_reads' HO_3.out).2.1); (case side3 => exact Kd.C_nil _ _); (case side4 => exact Nat.le_refl _); (case side5 => repeat (first | exact (Kd.R_reads' HO549.out).2.2 | (with_reducible refine Kd.C_alloc ?_ _) | (with_reducible refine Kd.C_drewN ?_ _) | (with_reducible refine Kd.C_drew ?_))); (case side6 => exact (Kd.R_reads' HO549.out).2.1); (case side7 => repeat (first | exact (Kd.R_reads' HO551.out).2.2 | (with_reducible refine Kd.C_alloc ?_ _) | (with_reducible refine Kd.C_drewN ?_ _) | (with_reducible refine Kd.C_drew ?_))); (case side8 => exact (Kd.R_reads' HO551.out).2.1); rintro e w' ⟨rfl, ⟨nd, rfl⟩⟩; refine ⟨_, rfl, ?_⟩))
     go_ret
     exact ⟨by first | rfl | (simp [errW_none, errW_some] <;> rfl) | (simp [*, errW_none, errW_some] <;> rfl), by repeat (first | (with_reducible first | exact HB.out | apply below_alloc | apply pw_below_drewN | apply below_drew1) | exact HB.out)⟩

/-- THE ONE PURE STATEMENT of payrolllaw7_RecordsComeBack: yours. -/
def payrolllaw7_RecordsComeBack.Pure : Prop := ∀ (l0 : List Int), l0.length ≤ maxLen → l0.length * 8 ≤ 140737488351232 → (∀ x ∈ l0, (Lit.int .i64 x).wf = true) → ∃ k, payrolllaw7_RecordsComeBack.f k l0 = some true
theorem payrolllaw7_RecordsComeBack.walk (P : payrolllaw7_RecordsComeBack.Pure) (a0 : Option Addr) (len0 cap0 : Nat) (z0 : List Int) (w : World) (w0 : (a0 = none ∧ len0 = 0 ∧ cap0 = 0 ∧ z0 = []) ∨ ∃ x, a0 = some x ∧ len0 ≤ cap0 ∧ cap0 ≤ maxLen ∧ z0.length = cap0 ∧ (∀ i, i < z0.length → w.cell? (x.add i) = some (.int .i64 (z0.getD i 0))) ∧ ∀ n ∈ z0, (Lit.int .i64 n).wf = true) (y0 : len0 * 8 ≤ 140737488351232) :
  Calls Try.prog 5 #[.slice a0 len0 cap0] w fun e w' => e = .returned (.bool true) ∧ Below w.heap.size w w' := by
 obtain ⟨l0, rfl, hr0, hm0, hw0, hc0⟩ := ReadsInt.ofRowC w0
 obtain ⟨k, h⟩ := P l0 hm0 y0 hw0
 refine (payrolllaw7_RecordsComeBack.calls k _ _ l0 true w (Kd.C_of_reads (d := (0 : Int)) (h1 := fun _ => rfl) hr0) hc0 h rfl).mono ?_
 rintro e w' ⟨rfl, hd⟩
 exact ⟨rfl, hd⟩

end Go.Proofs.Ytopigdnffnondaa.P
