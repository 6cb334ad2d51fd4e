/- Proved here: that the Go function payrolllaw7_RecordsAccount computes the plain function of that name (the machine side of the laws, reworked from a print; no condition of its own). -/
import Derived.Test.YtopigdnffnondaaProg
import Derived.Test.YtopigdnffnondaaV1
import Derived.Test.YtopigdnffnondaaFPRE0
import Derived.Test.YtopigdnffnondaaFPRE1
import Derived.Test.YtopigdnffnondaaFPRE7
import Derived.Test.YtopigdnffnondaaFpayrollgenNew
import Derived.Test.YtopigdnffnondaaFrecordsDecode
import Derived.Test.YtopigdnffnondaaFpayrolllaw7sane
import Derived.Test.YtopigdnffnondaaFpayrolllaw7frames
namespace Go.Proofs.Ytopigdnffnondaa.P
open Go.RowKit Go.Proofs.YtopigdnffnondaaW.PrintWords Go.Proofs.YtopigdnffnondaaW.PrintLast Go.Proofs.YtopigdnffnondaaW.PrintMore
attribute [local go_sem] max2_int min2_int max_two min_two max_three min_three max_four min_four   -- for this text's walks alone
set_option linter.unusedVariables false
set_option linter.unusedSimpArgs false

mutual
def payrolllaw7_RecordsAccount.j0 : Nat → List Int → Option (Bool)
 | 0, _ => none
 | k + 1, x5 => (records_Decode.f k x5).bind fun bt670 => (payrolllaw7_RecordsAccount.l0 k x5 bt670.2.1 bt670.2.2 (wrap64 (24 * (bt670.1.length : Int))) 0 0)
def payrolllaw7_RecordsAccount.l0 : Nat → List Int → List (S55) → Int → Int → Int → Int → Option (Bool)
 | 0, _, _, _, _, _, _ => none
 | k + 1, x5, x7, x8, x9, x10, x11 => if x11 < (x7.length : Int) then (if 0 ≤ x11 then (if ((rd_T55 x7 x11).f0) < x10 then (some false) else (if ((rd_T55 x7 x11).f0) ≥ ((rd_T55 x7 x11).f1) then (some false) else (if ((rd_T55 x7 x11).f1) > x8 then (some false) else (if x11 > 0 then (if ((rd_T55 x7 x11).f0) = x10 then (some false) else (payrolllaw7_RecordsAccount.l0 k x5 x7 x8 (wrap64 ((wrap64 (x9 + ((rd_T55 x7 x11).f1))) - ((rd_T55 x7 x11).f0))) ((rd_T55 x7 x11).f1) (wrap64 (x11 + 1)))) else (payrolllaw7_RecordsAccount.l0 k x5 x7 x8 (wrap64 ((wrap64 (x9 + ((rd_T55 x7 x11).f1))) - ((rd_T55 x7 x11).f0))) ((rd_T55 x7 x11).f1) (wrap64 (x11 + 1))))))) else (none)) else (if x9 = x8 then (if (wrap64 ((x5.length : Int) - x8)) ≥ 0 then (if (wrap64 ((x5.length : Int) - x8)) < 24 then ((payrolllaw7_sane.f k).bind fun t688 => (some t688)) else (some false)) else (some false)) else (some false))
end
def payrolllaw7_RecordsAccount.f (k : Nat) (l0 : List Int) (l1 : List Int) : Option (Bool) := (payrollgen_New.f l0).bind fun bt660 => ((payrolllaw7_frames.f k bt660.1 bt660.2 4).bind fun bt663 => (if (l1.length : Int) ≤ 2000 then (if bt663.1.length + l1.length < 140737488355328 then (payrolllaw7_RecordsAccount.j0 k (bt663.1 ++ l1)) else (none)) else (payrolllaw7_RecordsAccount.j0 k bt663.1)))
theorem payrolllaw7_RecordsAccount.mono_l : ∀ k, (∀ y0, LeO (payrolllaw7_RecordsAccount.j0 k y0) (payrolllaw7_RecordsAccount.j0 (k + 1) y0)) ∧ (∀ y0 y1 y2 y3 y4 y5, LeO (payrolllaw7_RecordsAccount.l0 k y0 y1 y2 y3 y4 y5) (payrolllaw7_RecordsAccount.l0 (k + 1) y0 y1 y2 y3 y4 y5))
 | 0 => ⟨fun _ r h => by simp [payrolllaw7_RecordsAccount.j0] at h, fun _ _ _ _ _ _ r h => by simp [payrolllaw7_RecordsAccount.l0] at h⟩
 | k + 1 => by
  obtain ⟨ih0, ih1⟩ := payrolllaw7_RecordsAccount.mono_l k
  refine ⟨?_, ?_⟩
  ·
   intro y0
   unfold payrolllaw7_RecordsAccount.j0
   repeat' first
   | (with_reducible exact ih0 _)
   | (with_reducible exact ih1 _ _ _ _ _ _)
   | (with_reducible exact payrolllaw7_frames.mono _ _ _ _)
   | (with_reducible exact payrolllaw7_sane.mono _)
   | (with_reducible exact records_Decode.mono _ _)
   | (with_reducible exact LeO.refl _)
   | (with_reducible exact LeO.none _)
   | (with_reducible refine LeO.ite ?_ ?_)
   | (with_reducible refine LeO.bind ?_ (fun _ => ?_))
   | exact ih0 _
   | exact ih1 _ _ _ _ _ _
   | exact payrolllaw7_frames.mono _ _ _ _
   | exact payrolllaw7_sane.mono _
   | exact records_Decode.mono _ _
   | exact LeO.none _
   | refine LeO.ite ?_ ?_
   | refine LeO.bind ?_ (fun _ => ?_)
  ·
   intro y0 y1 y2 y3 y4 y5
   unfold payrolllaw7_RecordsAccount.l0
   repeat' first
   | (with_reducible exact ih0 _)
   | (with_reducible exact ih1 _ _ _ _ _ _)
   | (with_reducible exact payrolllaw7_frames.mono _ _ _ _)
   | (with_reducible exact payrolllaw7_sane.mono _)
   | (with_reducible exact records_Decode.mono _ _)
   | (with_reducible exact LeO.refl _)
   | (with_reducible exact LeO.none _)
   | (with_reducible refine LeO.ite ?_ ?_)
   | (with_reducible refine LeO.bind ?_ (fun _ => ?_))
   | exact ih0 _
   | exact ih1 _ _ _ _ _ _
   | exact payrolllaw7_frames.mono _ _ _ _
   | exact payrolllaw7_sane.mono _
   | exact records_Decode.mono _ _
   | exact LeO.none _
   | refine LeO.ite ?_ ?_
   | refine LeO.bind ?_ (fun _ => ?_)
theorem payrolllaw7_RecordsAccount.mono : ∀ a0 a1 k, LeO (payrolllaw7_RecordsAccount.f k a0 a1) (payrolllaw7_RecordsAccount.f (k + 1) a0 a1) := by
 intro a0 a1 k
 obtain ⟨ih0, ih1⟩ := payrolllaw7_RecordsAccount.mono_l k
 unfold payrolllaw7_RecordsAccount.f
 repeat' first
   | (with_reducible exact ih0 _)
   | (with_reducible exact ih1 _ _ _ _ _ _)
   | (with_reducible exact payrolllaw7_frames.mono _ _ _ _)
   | (with_reducible exact payrolllaw7_sane.mono _)
   | (with_reducible exact records_Decode.mono _ _)
   | (with_reducible exact LeO.refl _)
   | (with_reducible exact LeO.none _)
   | (with_reducible refine LeO.ite ?_ ?_)
   | (with_reducible refine LeO.bind ?_ (fun _ => ?_))
   | exact ih0 _
   | exact ih1 _ _ _ _ _ _
   | exact payrolllaw7_frames.mono _ _ _ _
   | exact payrolllaw7_sane.mono _
   | exact records_Decode.mono _ _
   | exact LeO.none _
   | refine LeO.ite ?_ ?_
   | refine LeO.bind ?_ (fun _ => ?_)
set_option maxHeartbeats 8000000 in
set_option maxRecDepth 100000 in
theorem payrolllaw7_RecordsAccount.calls (k : Nat) (A0 : Option Addr) (c0 : Nat) (l0 : List Int) (A1 : Option Addr) (c1 : Nat) (l1 : List Int) (r : Bool) (w : World) (hr0 : Kd.C (Kd.int .i64) w A0 l0.length l0) (hc0 : l0.length ≤ c0) (hr1 : Kd.C (Kd.int .u8) w A1 l1.length l1) (hc1 : l1.length ≤ c1) (h : payrolllaw7_RecordsAccount.f k l0 l1 = some r) (hT : r = true) :
  Calls Try.prog 8 #[.slice A0 l0.length c0, .slice A1 l1.length c1] w fun e w' => e = .returned (.bool r) ∧ Below w.heap.size w w' := by
 have HT := Aside0.mk hT
 clear hT
 have HR0 := Aside0.mk hr0
 have HC0 := Aside0.mk hc0
 clear hr0 hc0
 have HR1 := Aside0.mk hr1
 have HC1 := Aside0.mk hc1
 clear hr1 hc1
 have HB := Aside0.mk (Below.refl w.heap.size w)
 have H : ((payrollgen_New.f l0).bind fun bt660 => ((payrolllaw7_frames.f k bt660.1 bt660.2 4).bind fun bt663 => (if (l1.length : Int) ≤ 2000 then (if bt663.1.length + l1.length < 140737488355328 then (payrolllaw7_RecordsAccount.j0 k (bt663.1 ++ l1)) else (none)) else (payrolllaw7_RecordsAccount.j0 k bt663.1)))) = some r := h
 clear h
 replace H := Option.bind_eq_some_iff.mp H
 obtain ⟨⟨t660, t661⟩, A30, H⟩ := H
 replace H : ((payrolllaw7_frames.f k t660 t661 4).bind fun bt663 => (if (l1.length : Int) ≤ 2000 then (if bt663.1.length + l1.length < 140737488355328 then (payrolllaw7_RecordsAccount.j0 k (bt663.1 ++ l1)) else (none)) else (payrolllaw7_RecordsAccount.j0 k bt663.1))) = some r := H
 have A3 := Aside0.mk A30
 clear A30
 replace H := Option.bind_eq_some_iff.mp H
 obtain ⟨⟨t663, t666⟩, A40, H⟩ := H
 replace H : (if (l1.length : Int) ≤ 2000 then (if t663.length + l1.length < 140737488355328 then (payrolllaw7_RecordsAccount.j0 k (t663 ++ l1)) else (none)) else (payrolllaw7_RecordsAccount.j0 k t663)) = some r := H
 have A4 := Aside0.mk A40
 clear A40
 have HC5 := Aside0.mk H
 clear H
 go_enter Try.func8, Try.ntmps8
 go_upto_if 17 with (first | (go_at_call 9; (with_reducible refine (payrollgen_New.calls _ _ l0 t660 t661 w _ ?side1 ?side2 ?side3 A3.out).mono ?_); (case side1 => repeat (first | (with_reducible first | exact HB.out | apply below_alloc | apply pw_below_drewN | apply below_drew1) | exact HB.out)); (case side2 => exact HR0.out); (case side3 => exact HC0.out); rintro e w6 ⟨g662, rfl, hi, hb, hb2⟩; have n0_ := Aside0.mk (hb); have n1_ := Aside0.mk (hi); clear HB; have HB := n0_; have HI662 := n1_; clear n0_ n1_; (try clear hb); (try clear hb2); (try clear hk); (try clear hi)) | (go_at_call 20; (with_reducible refine (payrolllaw7_frames.calls k g662 t660 t661 4 t663 t666 w _ ?side1 ?side2 A4.out).mono ?_); (case side1 => repeat (first | (with_reducible first | exact HI662.out | apply IsS57.alloc | apply IsS57.drewN | apply IsS57.drew | apply IsS57.set_1) | exact HI662.out)); (case side2 => repeat (first | (with_reducible first | exact HB.out | apply below_alloc | apply pw_below_drewN | apply below_drew1 | refine below_set ?_ (IsS57.ge HI662.out)) | exact HB.out)); rintro e w7 ⟨v664, rfl, ho0, hi, hb, hk⟩; have n0_ := Aside0.mk (Kd.R_lower ho0 (below_size (by repeat (first | (with_reducible first | exact HB.out | apply below_alloc | apply pw_below_drewN | apply below_drew1 | refine below_set ?_ (IsS57.ge HI662.out)) | exact HB.out)))); have n1_ := Aside0.mk (hb); have n2_ := Aside0.mk (hi); clear HB; clear HI662; have HO665 := n0_; have HB := n1_; have HI662 := n2_; clear n0_ n1_ n2_; (try clear hb); (try clear hb2); (try clear hk); (try clear hi); (try clear ho0)))
 repeat (go_quiet (first | fail); go_upto_if 17 with (first | fail))
 (try simp only [Act.put, List.setIfInBounds_toArray, List.set_cons_zero, List.set_cons_succ])
 go_cut [5] (fun v5 wc => ∃ (kq : Nat) (x5_4 : List Int), Aside0 (payrolllaw7_RecordsAccount.j0 kq x5_4 = some r) ∧ Aside0 (kq ≤ k) ∧ Aside0 (Kd.R (Kd.int .u8) 5 wc w.heap.size (fun _ => True) v5 x5_4) ∧ Aside0 (Below w.heap.size w wc))
 case first =>
  have H := HC5.out
  clear HC5
  by_cases c8 : (l1.length : Int) ≤ 2000
  ·
   rw [if_pos c8] at H
   have c8b0 : decide ((l1.length : Int) ≤ 2000) = true := decide_eq_true c8
   have c8b1 : decide (l1.length ≤ 2000) = true := decide_eq_true (by omega)
   clear c8
   (first | rw [c8b0] | (simp only [i64_w, i32_w]; rw [c8b0]) | skip)
   by_cases c9 : t663.length + l1.length < 140737488355328
   ·
    rw [if_pos c9] at H
    have LMc9 := Aside0.mk c9
    clear c9
    obtain ⟨y667, hy667⟩ : ∃ y_ : List Int, y_ = (t663 ++ l1) := ⟨_, rfl⟩
    replace H : (payrolllaw7_RecordsAccount.j0 k y667) = some r := by first | (rw [hy667]; with_reducible exact H) | (have H2_ := (Option.bind_some _ _).symm.trans H; rw [hy667]; with_reducible exact H2_) | (have H2_ := (Option.bind_some _ _).symm.trans H; with_reducible exact H2_) | with_reducible exact H | (rw [hy667]; exact H) | exact H
    have Ny667 := Aside0.mk hy667
    clear hy667
    have H' := Aside0.mk H
    clear H
    go_wp2_with (first | ((with_reducible refine gate_builtin (b := .append) (xs := #[.tmp 18, .tmp 19]) rfl ?_); (try (refine gate_guard (by rfl) ?_; dsimp only)); at_builtin; refine Kd.R_append_rows (Kd.int .u8) (w0 := w) w.heap.size rfl (.tmp 18) (.tmp 19) 27 5 (.int .u8 0) 1 rfl Try.underlying27 info5 rfl (by decide) (by omega) v664 t663 l1 _ _ _ (fun _ => True) (fun _ => False) rfl rfl ?aO ?aR (fun _ _ h => h) (fun _ h => h.elim) ?aF ?aB ?aS ?aL ?_; (case aR => repeat (first | exact (Kd.C_below HR1.out HB.out) | (with_reducible refine Kd.C_alloc ?_ _) | (with_reducible refine Kd.C_drewN ?_ _) | (with_reducible refine Kd.C_drew ?_))); (case aB => exact (by repeat (first | (with_reducible first | exact HB.out | apply below_alloc | apply pw_below_drewN | apply below_drew1 | refine below_set ?_ (IsS57.ge HI662.out)) | exact HB.out))); (case aF => exact (fun _ _ => trivial)); (case aO => exact (by (with_reducible repeat (first | apply Kd.R_alloc | apply Kd.R_drewN | apply Kd.R_drew)); exact HO665.out)); (case aS => exact (below_size (by repeat (first | (with_reducible first | exact HB.out | apply below_alloc | apply pw_below_drewN | apply below_drew1 | refine below_set ?_ (IsS57.ge HI662.out)) | exact HB.out)))); (case aL => have := LMc9.out; omega); intro v668 w10 ho hb hg hat; rw [← Ny667.out] at ho; have n0_ := Aside0.mk (IsS57.grown (by repeat (first | (with_reducible first | exact HI662.out | apply IsS57.alloc | apply IsS57.drewN | apply IsS57.drew | apply IsS57.set_1) | exact HI662.out)) hg (IsS57.own_ne HI662.out HO665.out (by decide))); have n1_ := Aside0.mk (hb); have n2_ := Aside0.mk (ho); clear HI662; clear HB; clear HO665; have HI662 := n0_; have HB := n1_; have HO669 := n2_; clear n0_ n1_ n2_; clear ho hb hg hat))
    repeat (go_quiet (first | fail); try go_wp2_with (first | fail))
    go_meet
    case rel => exact ⟨_, (y667), H', ⟨by first | omega | exact Nat.le_refl _⟩, ⟨by (with_reducible repeat (first | apply Kd.R_alloc | apply Kd.R_drewN | apply Kd.R_drew)); exact HO669.out⟩, ⟨by repeat (first | (with_reducible first | exact HB.out | apply below_alloc | apply pw_below_drewN | apply below_drew1 | refine below_set ?_ (IsS57.ge HI662.out)) | exact HB.out)⟩⟩
   ·
    rw [if_neg c9] at H
    exact absurd H (by simp)
  ·
   rw [if_neg c8] at H
   have c8b0 : decide ((l1.length : Int) ≤ 2000) = false := decide_eq_false c8
   have c8b1 : decide (l1.length ≤ 2000) = false := decide_eq_false (by omega)
   clear c8
   (first | rw [c8b0] | (simp only [i64_w, i32_w]; rw [c8b0]) | skip)
   have H' := Aside0.mk H
   clear H
   go_wp2
   repeat (go_quiet (fail); try go_wp2)
   go_meet
   case rel => exact ⟨_, (t663), H', ⟨by first | omega | exact Nat.le_refl _⟩, ⟨by (with_reducible repeat (first | apply Kd.R_alloc | apply Kd.R_drewN | apply Kd.R_drew)); exact HO665.out⟩, ⟨by repeat (first | (with_reducible first | exact HB.out | apply below_alloc | apply pw_below_drewN | apply below_drew1 | refine below_set ?_ (IsS57.ge HI662.out)) | exact HB.out)⟩⟩
 case rest =>
  clear HC5
  try clear c1
  try clear p2
  try clear c8
  try clear c8b0
  try clear c8b1
  try clear c9
  obtain ⟨kq, x5_4, HA, HJ4, HO_5, HB⟩ := hcut
  cases kq with
  | zero => exact absurd HA.out (by simp [payrolllaw7_RecordsAccount.j0])
  | succ kj4 =>
   have H := HA.out
   clear HA
   simp only [payrolllaw7_RecordsAccount.j0] at H
   replace H := Option.bind_eq_some_iff.mp H
   obtain ⟨⟨t670, t671, t672⟩, A110, H⟩ := H
   replace H : (payrolllaw7_RecordsAccount.l0 kj4 x5_4 t671 t672 (wrap64 (24 * (t670.length : Int))) 0 0) = some r := H
   have A11 := Aside0.mk A110
   clear A110
   have H' := Aside0.mk H
   clear H
   obtain ⟨Ao12, co12, eo12⟩ := Kd.R_slice HO_5.out
   subst eo12
   go_wp2_with (first | (go_at_call 24; (with_reducible refine (records_Decode.calls kj4 _ _ x5_4 t670 t671 t672 _ ?side1 ?side2 A11.out).mono ?_); (case side1 => repeat (first | exact (Kd.R_reads' HO_5.out).2.2 | (with_reducible refine Kd.C_alloc ?_ _) | (with_reducible refine Kd.C_drewN ?_ _) | (with_reducible refine Kd.C_drew ?_))); (case side2 => exact (Kd.R_reads' HO_5.out).2.1); rintro e w13 ⟨v673, v675, rfl, ho0, ho1, hb⟩; have n0_ := Aside0.mk (Kd.R_below (by (with_reducible repeat (first | apply Kd.R_alloc | apply Kd.R_drewN | apply Kd.R_drew)); exact HO_5.out) hb); have n1_ := Aside0.mk (Kd.R_lower ho0 (below_size (by repeat (first | (with_reducible first | exact HB.out | apply below_alloc | apply pw_below_drewN | apply below_drew1) | exact HB.out)))); have n2_ := Aside0.mk (Kd.R_lower ho1 (below_size (by repeat (first | (with_reducible first | exact HB.out | apply below_alloc | apply pw_below_drewN | apply below_drew1) | exact HB.out)))); have n3_ := Aside0.mk (below_step (by repeat (first | (with_reducible first | exact HB.out | apply below_alloc | apply pw_below_drewN | apply below_drew1) | exact HB.out)) hb); clear HO_5; clear HB; have HO_5 := n0_; have HO674 := n1_; have HO676 := n2_; have HB := n3_; clear n0_ n1_ n2_ n3_; (try clear hb); (try clear hb2); (try clear hk); (try clear hi); (try clear ho0); (try clear ho1); obtain ⟨Ao14, co14, eo14⟩ := Kd.R_slice HO674.out; subst eo14))
   repeat (go_quiet (first | fail); try go_wp2_with (first | fail))
   go_loopg [9, 10, 11] kj4 (fun kq v9 v10 v11 w' => ∃ (x9_2 : Int) (x10_2 : Int) (x11_2 : Int), v9 = .int .i64 x9_2 ∧ v10 = .int .i64 x10_2 ∧ v11 = .int .i64 x11_2 ∧ Aside0 (payrolllaw7_RecordsAccount.l0 kq x5_4 t671 t672 x9_2 x10_2 x11_2 = some r) ∧ Aside0 (kq ≤ kj4) ∧ Aside0 (Kd.R (Kd.int .u8) 5 w' w.heap.size (fun _ => True) (.slice Ao12 x5_4.length co12) x5_4) ∧ Aside0 (Kd.R k55 55 w' w.heap.size (fun _ => True) v675 t671) ∧ Aside0 (Below w.heap.size w w'))
   case atStart => exact ⟨(wrap64 (24 * (t670.length : Int))), (0), (0), (by first | rfl | (simp; done) | (simp [*]; done)), (by first | rfl | (simp; done) | (simp [*]; done)), (by first | rfl | (simp; done) | (simp [*]; done)), H', ⟨Nat.le_refl _⟩, ⟨by (with_reducible repeat (first | apply Kd.R_alloc | apply Kd.R_drewN | apply Kd.R_drew)); exact HO_5.out⟩, ⟨by (with_reducible repeat (first | apply Kd.R_alloc | apply Kd.R_drewN | apply Kd.R_drew)); exact HO676.out⟩, ⟨by repeat (first | (with_reducible first | exact HB.out | apply below_alloc | apply pw_below_drewN | apply below_drew1) | exact HB.out)⟩⟩
   case round =>
    clear H'
    try clear c1
    try clear p2
    try clear p6
    try clear c8
    try clear c8b0
    try clear c8b1
    try clear c9
    try clear p2
    obtain ⟨x9_2, x10_2, x11_2, rfl, rfl, rfl, HA, HK2, HO_5, HO_7, HB⟩ := hrel
    cases gk with
    | zero => exact absurd HA.out (by simp [payrolllaw7_RecordsAccount.l0])
    | succ k2 =>
     have H := HA.out
     clear HA
     simp only [payrolllaw7_RecordsAccount.l0] at H
     by_cases c15 : x11_2 < (t671.length : Int)
     ·
      rw [if_pos c15] at H
      have c15b0 : decide (x11_2 < (t671.length : Int)) = true := decide_eq_true c15
      clear c15
      by_cases c16 : 0 ≤ x11_2
      ·
       rw [if_pos c16] at H
       have c16b0 : decide (0 ≤ x11_2) = true := decide_eq_true c16
       clear c16
       by_cases c17 : ((rd_T55 t671 x11_2).f0) < x10_2
       ·
        rw [if_pos c17] at H
        have c17b0 : decide (((rd_T55 t671 x11_2).f0) < x10_2) = true := decide_eq_true c17
        clear c17
        obtain rfl := Option.some.inj H
        obtain ⟨Ao18, co18, eo18⟩ := Kd.R_slice HO_7.out
        subst eo18
        have p677 : 0 ≤ (x11_2 : Int) := of_decide_eq_true (by first | (with_reducible assumption) | assumption)
        have q677 : x11_2 < (t671.length : Int) := of_decide_eq_true (by first | (with_reducible assumption) | assumption)
        obtain ⟨ad677, e677, hx677_0, hx677_1⟩ := at_T55 (Kd.R_reads' HO_7.out).2.2 x11_2 p677 q677
        cases e677
        replace p677 := eq_true p677
        replace q677 := eq_true q677
        go_wp2
        repeat (go_quiet (fail); try go_wp2)
        go_ret
        exact ⟨by first | rfl | (simp [errW_none, errW_some] <;> rfl) | (simp [*, errW_none, errW_some] <;> rfl), by repeat (first | (with_reducible first | exact HB.out | apply below_alloc | apply pw_below_drewN | apply below_drew1) | exact HB.out)⟩
       ·
        rw [if_neg c17] at H
        have c17b0 : decide (((rd_T55 t671 x11_2).f0) < x10_2) = false := decide_eq_false c17
        clear c17
        by_cases c19 : ((rd_T55 t671 x11_2).f0) ≥ ((rd_T55 t671 x11_2).f1)
        ·
         rw [if_pos c19] at H
         have c19b0 : decide (((rd_T55 t671 x11_2).f1) ≤ ((rd_T55 t671 x11_2).f0)) = true := decide_eq_true c19
         clear c19
         obtain rfl := Option.some.inj H
         obtain ⟨Ao20, co20, eo20⟩ := Kd.R_slice HO_7.out
         subst eo20
         have p677 : 0 ≤ (x11_2 : Int) := of_decide_eq_true (by first | (with_reducible assumption) | assumption)
         have q677 : x11_2 < (t671.length : Int) := of_decide_eq_true (by first | (with_reducible assumption) | assumption)
         obtain ⟨ad677, e677, hx677_0, hx677_1⟩ := at_T55 (Kd.R_reads' HO_7.out).2.2 x11_2 p677 q677
         cases e677
         replace p677 := eq_true p677
         replace q677 := eq_true q677
         have p678 : 0 ≤ (x11_2 : Int) := of_decide_eq_true (by first | (with_reducible assumption) | assumption)
         have q678 : x11_2 < (t671.length : Int) := of_decide_eq_true (by first | (with_reducible assumption) | assumption)
         obtain ⟨ad678, e678, hx678_0, hx678_1⟩ := at_T55 (Kd.R_reads' HO_7.out).2.2 x11_2 p678 q678
         obtain rfl : ad677 = ad678 := (by injection e678)
         replace p678 := eq_true p678
         replace q678 := eq_true q678
         have p679 : 0 ≤ (x11_2 : Int) := of_decide_eq_true (by first | (with_reducible assumption) | assumption)
         have q679 : x11_2 < (t671.length : Int) := of_decide_eq_true (by first | (with_reducible assumption) | assumption)
         obtain ⟨ad679, e679, hx679_0, hx679_1⟩ := at_T55 (Kd.R_reads' HO_7.out).2.2 x11_2 p679 q679
         obtain rfl : ad677 = ad679 := (by injection e679)
         replace p679 := eq_true p679
         replace q679 := eq_true q679
         go_wp2
         repeat (go_quiet (fail); try go_wp2)
         go_ret
         exact ⟨by first | rfl | (simp [errW_none, errW_some] <;> rfl) | (simp [*, errW_none, errW_some] <;> rfl), by repeat (first | (with_reducible first | exact HB.out | apply below_alloc | apply pw_below_drewN | apply below_drew1) | exact HB.out)⟩
        ·
         rw [if_neg c19] at H
         have c19b0 : decide (((rd_T55 t671 x11_2).f1) ≤ ((rd_T55 t671 x11_2).f0)) = false := decide_eq_false c19
         clear c19
         by_cases c21 : ((rd_T55 t671 x11_2).f1) > t672
         ·
          rw [if_pos c21] at H
          have c21b0 : decide (t672 < ((rd_T55 t671 x11_2).f1)) = true := decide_eq_true c21
          clear c21
          obtain rfl := Option.some.inj H
          obtain ⟨Ao22, co22, eo22⟩ := Kd.R_slice HO_7.out
          subst eo22
          have p677 : 0 ≤ (x11_2 : Int) := of_decide_eq_true (by first | (with_reducible assumption) | assumption)
          have q677 : x11_2 < (t671.length : Int) := of_decide_eq_true (by first | (with_reducible assumption) | assumption)
          obtain ⟨ad677, e677, hx677_0, hx677_1⟩ := at_T55 (Kd.R_reads' HO_7.out).2.2 x11_2 p677 q677
          cases e677
          replace p677 := eq_true p677
          replace q677 := eq_true q677
          have p678 : 0 ≤ (x11_2 : Int) := of_decide_eq_true (by first | (with_reducible assumption) | assumption)
          have q678 : x11_2 < (t671.length : Int) := of_decide_eq_true (by first | (with_reducible assumption) | assumption)
          obtain ⟨ad678, e678, hx678_0, hx678_1⟩ := at_T55 (Kd.R_reads' HO_7.out).2.2 x11_2 p678 q678
          obtain rfl : ad677 = ad678 := (by injection e678)
          replace p678 := eq_true p678
          replace q678 := eq_true q678
          have p679 : 0 ≤ (x11_2 : Int) := of_decide_eq_true (by first | (with_reducible assumption) | assumption)
          have q679 : x11_2 < (t671.length : Int) := of_decide_eq_true (by first | (with_reducible assumption) | assumption)
          obtain ⟨ad679, e679, hx679_0, hx679_1⟩ := at_T55 (Kd.R_reads' HO_7.out).2.2 x11_2 p679 q679
          obtain rfl : ad677 = ad679 := (by injection e679)
          replace p679 := eq_true p679
          replace q679 := eq_true q679
          have p680 : 0 ≤ (x11_2 : Int) := of_decide_eq_true (by first | (with_reducible assumption) | assumption)
          have q680 : x11_2 < (t671.length : Int) := of_decide_eq_true (by first | (with_reducible assumption) | assumption)
          obtain ⟨ad680, e680, hx680_0, hx680_1⟩ := at_T55 (Kd.R_reads' HO_7.out).2.2 x11_2 p680 q680
          obtain rfl : ad677 = ad680 := (by injection e680)
          replace p680 := eq_true p680
          replace q680 := eq_true q680
          go_wp2
          repeat (go_quiet (fail); try go_wp2)
          go_ret
          exact ⟨by first | rfl | (simp [errW_none, errW_some] <;> rfl) | (simp [*, errW_none, errW_some] <;> rfl), by repeat (first | (with_reducible first | exact HB.out | apply below_alloc | apply pw_below_drewN | apply below_drew1) | exact HB.out)⟩
         ·
          rw [if_neg c21] at H
          have c21b0 : decide (t672 < ((rd_T55 t671 x11_2).f1)) = false := decide_eq_false c21
          clear c21
          by_cases c23 : x11_2 > 0
          ·
           rw [if_pos c23] at H
           have c23b0 : decide (0 < x11_2) = true := decide_eq_true c23
           clear c23
           by_cases c24 : ((rd_T55 t671 x11_2).f0) = x10_2
           ·
            rw [if_pos c24] at H
            have c24b0 : (((rd_T55 t671 x11_2).f0) == x10_2) = true := beq_iff_eq.mpr c24
            have c24b1 : (((rd_T55 t671 x11_2).f0) != x10_2) = false := bne_eq_false_iff_eq.mpr c24
            clear c24
            obtain rfl := Option.some.inj H
            obtain ⟨Ao25, co25, eo25⟩ := Kd.R_slice HO_7.out
            subst eo25
            have p677 : 0 ≤ (x11_2 : Int) := of_decide_eq_true (by first | (with_reducible assumption) | assumption)
            have q677 : x11_2 < (t671.length : Int) := of_decide_eq_true (by first | (with_reducible assumption) | assumption)
            obtain ⟨ad677, e677, hx677_0, hx677_1⟩ := at_T55 (Kd.R_reads' HO_7.out).2.2 x11_2 p677 q677
            cases e677
            replace p677 := eq_true p677
            replace q677 := eq_true q677
            have p678 : 0 ≤ (x11_2 : Int) := of_decide_eq_true (by first | (with_reducible assumption) | assumption)
            have q678 : x11_2 < (t671.length : Int) := of_decide_eq_true (by first | (with_reducible assumption) | assumption)
            obtain ⟨ad678, e678, hx678_0, hx678_1⟩ := at_T55 (Kd.R_reads' HO_7.out).2.2 x11_2 p678 q678
            obtain rfl : ad677 = ad678 := (by injection e678)
            replace p678 := eq_true p678
            replace q678 := eq_true q678
            have p679 : 0 ≤ (x11_2 : Int) := of_decide_eq_true (by first | (with_reducible assumption) | assumption)
            have q679 : x11_2 < (t671.length : Int) := of_decide_eq_true (by first | (with_reducible assumption) | assumption)
            obtain ⟨ad679, e679, hx679_0, hx679_1⟩ := at_T55 (Kd.R_reads' HO_7.out).2.2 x11_2 p679 q679
            obtain rfl : ad677 = ad679 := (by injection e679)
            replace p679 := eq_true p679
            replace q679 := eq_true q679
            have p680 : 0 ≤ (x11_2 : Int) := of_decide_eq_true (by first | (with_reducible assumption) | assumption)
            have q680 : x11_2 < (t671.length : Int) := of_decide_eq_true (by first | (with_reducible assumption) | assumption)
            obtain ⟨ad680, e680, hx680_0, hx680_1⟩ := at_T55 (Kd.R_reads' HO_7.out).2.2 x11_2 p680 q680
            obtain rfl : ad677 = ad680 := (by injection e680)
            replace p680 := eq_true p680
            replace q680 := eq_true q680
            have p681 : 0 ≤ (x11_2 : Int) := of_decide_eq_true (by first | (with_reducible assumption) | assumption)
            have q681 : x11_2 < (t671.length : Int) := of_decide_eq_true (by first | (with_reducible assumption) | assumption)
            obtain ⟨ad681, e681, hx681_0, hx681_1⟩ := at_T55 (Kd.R_reads' HO_7.out).2.2 x11_2 p681 q681
            obtain rfl : ad677 = ad681 := (by injection e681)
            replace p681 := eq_true p681
            replace q681 := eq_true q681
            go_wp2
            repeat (go_quiet (fail); try go_wp2)
            go_ret
            exact ⟨by first | rfl | (simp [errW_none, errW_some] <;> rfl) | (simp [*, errW_none, errW_some] <;> rfl), by repeat (first | (with_reducible first | exact HB.out | apply below_alloc | apply pw_below_drewN | apply below_drew1) | exact HB.out)⟩
           ·
            rw [if_neg c24] at H
            have c24b0 : (((rd_T55 t671 x11_2).f0) == x10_2) = false := beq_eq_false_iff_ne.mpr c24
            have c24b1 : (((rd_T55 t671 x11_2).f0) != x10_2) = true := bne_iff_ne.mpr c24
            have H' := Aside0.mk H
            clear H
            obtain ⟨Ao26, co26, eo26⟩ := Kd.R_slice HO_7.out
            subst eo26
            have p677 : 0 ≤ (x11_2 : Int) := of_decide_eq_true (by first | (with_reducible assumption) | assumption)
            have q677 : x11_2 < (t671.length : Int) := of_decide_eq_true (by first | (with_reducible assumption) | assumption)
            obtain ⟨ad677, e677, hx677_0, hx677_1⟩ := at_T55 (Kd.R_reads' HO_7.out).2.2 x11_2 p677 q677
            cases e677
            replace p677 := eq_true p677
            replace q677 := eq_true q677
            have p678 : 0 ≤ (x11_2 : Int) := of_decide_eq_true (by first | (with_reducible assumption) | assumption)
            have q678 : x11_2 < (t671.length : Int) := of_decide_eq_true (by first | (with_reducible assumption) | assumption)
            obtain ⟨ad678, e678, hx678_0, hx678_1⟩ := at_T55 (Kd.R_reads' HO_7.out).2.2 x11_2 p678 q678
            obtain rfl : ad677 = ad678 := (by injection e678)
            replace p678 := eq_true p678
            replace q678 := eq_true q678
            have p679 : 0 ≤ (x11_2 : Int) := of_decide_eq_true (by first | (with_reducible assumption) | assumption)
            have q679 : x11_2 < (t671.length : Int) := of_decide_eq_true (by first | (with_reducible assumption) | assumption)
            obtain ⟨ad679, e679, hx679_0, hx679_1⟩ := at_T55 (Kd.R_reads' HO_7.out).2.2 x11_2 p679 q679
            obtain rfl : ad677 = ad679 := (by injection e679)
            replace p679 := eq_true p679
            replace q679 := eq_true q679
            have p680 : 0 ≤ (x11_2 : Int) := of_decide_eq_true (by first | (with_reducible assumption) | assumption)
            have q680 : x11_2 < (t671.length : Int) := of_decide_eq_true (by first | (with_reducible assumption) | assumption)
            obtain ⟨ad680, e680, hx680_0, hx680_1⟩ := at_T55 (Kd.R_reads' HO_7.out).2.2 x11_2 p680 q680
            obtain rfl : ad677 = ad680 := (by injection e680)
            replace p680 := eq_true p680
            replace q680 := eq_true q680
            have p681 : 0 ≤ (x11_2 : Int) := of_decide_eq_true (by first | (with_reducible assumption) | assumption)
            have q681 : x11_2 < (t671.length : Int) := of_decide_eq_true (by first | (with_reducible assumption) | assumption)
            obtain ⟨ad681, e681, hx681_0, hx681_1⟩ := at_T55 (Kd.R_reads' HO_7.out).2.2 x11_2 p681 q681
            obtain rfl : ad677 = ad681 := (by injection e681)
            replace p681 := eq_true p681
            replace q681 := eq_true q681
            have p682 : 0 ≤ (x11_2 : Int) := of_decide_eq_true (by first | (with_reducible assumption) | assumption)
            have q682 : x11_2 < (t671.length : Int) := of_decide_eq_true (by first | (with_reducible assumption) | assumption)
            obtain ⟨ad682, e682, hx682_0, hx682_1⟩ := at_T55 (Kd.R_reads' HO_7.out).2.2 x11_2 p682 q682
            obtain rfl : ad677 = ad682 := (by injection e682)
            replace p682 := eq_true p682
            replace q682 := eq_true q682
            have p683 : 0 ≤ (x11_2 : Int) := of_decide_eq_true (by first | (with_reducible assumption) | assumption)
            have q683 : x11_2 < (t671.length : Int) := of_decide_eq_true (by first | (with_reducible assumption) | assumption)
            obtain ⟨ad683, e683, hx683_0, hx683_1⟩ := at_T55 (Kd.R_reads' HO_7.out).2.2 x11_2 p683 q683
            obtain rfl : ad677 = ad683 := (by injection e683)
            replace p683 := eq_true p683
            replace q683 := eq_true q683
            have p684 : 0 ≤ (x11_2 : Int) := of_decide_eq_true (by first | (with_reducible assumption) | assumption)
            have q684 : x11_2 < (t671.length : Int) := of_decide_eq_true (by first | (with_reducible assumption) | assumption)
            obtain ⟨ad684, e684, hx684_0, hx684_1⟩ := at_T55 (Kd.R_reads' HO_7.out).2.2 x11_2 p684 q684
            obtain rfl : ad677 = ad684 := (by injection e684)
            replace p684 := eq_true p684
            replace q684 := eq_true q684
            go_wp2
            repeat (go_quiet (fail); try go_wp2)
            go_roundg k2
            case measure => have := HJ4.out; have := HK2.out; omega
            case rel => exact ⟨(wrap64 ((wrap64 (x9_2 + ((rd_T55 t671 x11_2).f1))) - ((rd_T55 t671 x11_2).f0))), ((rd_T55 t671 x11_2).f1), (wrap64 (x11_2 + 1)), (by first | rfl | (simp; done) | (simp [*]; done)), (by first | rfl | (simp; done) | (simp [*]; done)), (by first | rfl | (simp; done) | (simp [*]; done)), H', ⟨by have := HJ4.out; have := HK2.out; omega⟩, ⟨by (with_reducible repeat (first | apply Kd.R_alloc | apply Kd.R_drewN | apply Kd.R_drew)); exact HO_5.out⟩, ⟨by (with_reducible repeat (first | apply Kd.R_alloc | apply Kd.R_drewN | apply Kd.R_drew)); exact HO_7.out⟩, ⟨by repeat (first | (with_reducible first | exact HB.out | apply below_alloc | apply pw_below_drewN | apply below_drew1) | exact HB.out)⟩⟩
          ·
           rw [if_neg c23] at H
           have c23b0 : decide (0 < x11_2) = false := decide_eq_false c23
           clear c23
           have H' := Aside0.mk H
           clear H
           obtain ⟨Ao27, co27, eo27⟩ := Kd.R_slice HO_7.out
           subst eo27
           have p677 : 0 ≤ (x11_2 : Int) := of_decide_eq_true (by first | (with_reducible assumption) | assumption)
           have q677 : x11_2 < (t671.length : Int) := of_decide_eq_true (by first | (with_reducible assumption) | assumption)
           obtain ⟨ad677, e677, hx677_0, hx677_1⟩ := at_T55 (Kd.R_reads' HO_7.out).2.2 x11_2 p677 q677
           cases e677
           replace p677 := eq_true p677
           replace q677 := eq_true q677
           have p678 : 0 ≤ (x11_2 : Int) := of_decide_eq_true (by first | (with_reducible assumption) | assumption)
           have q678 : x11_2 < (t671.length : Int) := of_decide_eq_true (by first | (with_reducible assumption) | assumption)
           obtain ⟨ad678, e678, hx678_0, hx678_1⟩ := at_T55 (Kd.R_reads' HO_7.out).2.2 x11_2 p678 q678
           obtain rfl : ad677 = ad678 := (by injection e678)
           replace p678 := eq_true p678
           replace q678 := eq_true q678
           have p679 : 0 ≤ (x11_2 : Int) := of_decide_eq_true (by first | (with_reducible assumption) | assumption)
           have q679 : x11_2 < (t671.length : Int) := of_decide_eq_true (by first | (with_reducible assumption) | assumption)
           obtain ⟨ad679, e679, hx679_0, hx679_1⟩ := at_T55 (Kd.R_reads' HO_7.out).2.2 x11_2 p679 q679
           obtain rfl : ad677 = ad679 := (by injection e679)
           replace p679 := eq_true p679
           replace q679 := eq_true q679
           have p680 : 0 ≤ (x11_2 : Int) := of_decide_eq_true (by first | (with_reducible assumption) | assumption)
           have q680 : x11_2 < (t671.length : Int) := of_decide_eq_true (by first | (with_reducible assumption) | assumption)
           obtain ⟨ad680, e680, hx680_0, hx680_1⟩ := at_T55 (Kd.R_reads' HO_7.out).2.2 x11_2 p680 q680
           obtain rfl : ad677 = ad680 := (by injection e680)
           replace p680 := eq_true p680
           replace q680 := eq_true q680
           have p685 : 0 ≤ (x11_2 : Int) := of_decide_eq_true (by first | (with_reducible assumption) | assumption)
           have q685 : x11_2 < (t671.length : Int) := of_decide_eq_true (by first | (with_reducible assumption) | assumption)
           obtain ⟨ad685, e685, hx685_0, hx685_1⟩ := at_T55 (Kd.R_reads' HO_7.out).2.2 x11_2 p685 q685
           obtain rfl : ad677 = ad685 := (by injection e685)
           replace p685 := eq_true p685
           replace q685 := eq_true q685
           have p686 : 0 ≤ (x11_2 : Int) := of_decide_eq_true (by first | (with_reducible assumption) | assumption)
           have q686 : x11_2 < (t671.length : Int) := of_decide_eq_true (by first | (with_reducible assumption) | assumption)
           obtain ⟨ad686, e686, hx686_0, hx686_1⟩ := at_T55 (Kd.R_reads' HO_7.out).2.2 x11_2 p686 q686
           obtain rfl : ad677 = ad686 := (by injection e686)
           replace p686 := eq_true p686
           replace q686 := eq_true q686
           have p687 : 0 ≤ (x11_2 : Int) := of_decide_eq_true (by first | (with_reducible assumption) | assumption)
           have q687 : x11_2 < (t671.length : Int) := of_decide_eq_true (by first | (with_reducible assumption) | assumption)
           obtain ⟨ad687, e687, hx687_0, hx687_1⟩ := at_T55 (Kd.R_reads' HO_7.out).2.2 x11_2 p687 q687
           obtain rfl : ad677 = ad687 := (by injection e687)
           replace p687 := eq_true p687
           replace q687 := eq_true q687
           go_wp2
           repeat (go_quiet (fail); try go_wp2)
           go_roundg k2
           case measure => have := HJ4.out; have := HK2.out; omega
           case rel => exact ⟨(wrap64 ((wrap64 (x9_2 + ((rd_T55 t671 x11_2).f1))) - ((rd_T55 t671 x11_2).f0))), ((rd_T55 t671 x11_2).f1), (wrap64 (x11_2 + 1)), (by first | rfl | (simp; done) | (simp [*]; done)), (by first | rfl | (simp; done) | (simp [*]; done)), (by first | rfl | (simp; done) | (simp [*]; done)), H', ⟨by have := HJ4.out; have := HK2.out; omega⟩, ⟨by (with_reducible repeat (first | apply Kd.R_alloc | apply Kd.R_drewN | apply Kd.R_drew)); exact HO_5.out⟩, ⟨by (with_reducible repeat (first | apply Kd.R_alloc | apply Kd.R_drewN | apply Kd.R_drew)); exact HO_7.out⟩, ⟨by repeat (first | (with_reducible first | exact HB.out | apply below_alloc | apply pw_below_drewN | apply below_drew1) | exact HB.out)⟩⟩
      ·
       rw [if_neg c16] at H
       exact absurd H (by simp)
     ·
      rw [if_neg c15] at H
      have c15b0 : decide (x11_2 < (t671.length : Int)) = false := decide_eq_false c15
      clear c15
      by_cases c28 : x9_2 = t672
      ·
       rw [if_pos c28] at H
       have c28b0 : (x9_2 == t672) = true := beq_iff_eq.mpr c28
       have c28b1 : (x9_2 != t672) = false := bne_eq_false_iff_eq.mpr c28
       clear c28
       by_cases c29 : (wrap64 ((x5_4.length : Int) - t672)) ≥ 0
       ·
        rw [if_pos c29] at H
        have c29b0 : decide (0 ≤ (wrap64 ((x5_4.length : Int) - t672))) = true := decide_eq_true c29
        clear c29
        by_cases c30 : (wrap64 ((x5_4.length : Int) - t672)) < 24
        ·
         rw [if_pos c30] at H
         have c30b0 : decide ((wrap64 ((x5_4.length : Int) - t672)) < 24) = true := decide_eq_true c30
         clear c30
         replace H := Option.bind_eq_some_iff.mp H
         obtain ⟨t688, A310, H⟩ := H
         replace H : (some t688) = some r := H
         have A31 := Aside0.mk A310
         clear A310
         obtain rfl := Option.some.inj H
         obtain ⟨Ao32, co32, eo32⟩ := Kd.R_slice HO_7.out
         subst eo32
         go_wp2_with (first | (go_at_call 18; (with_reducible refine (payrolllaw7_sane.calls k2  t688 _ A31.out).mono ?_); rintro e w33 ⟨rfl, hb⟩; have n0_ := Aside0.mk (Kd.R_below (by (with_reducible repeat (first | apply Kd.R_alloc | apply Kd.R_drewN | apply Kd.R_drew)); exact HO_5.out) hb); have n1_ := Aside0.mk (Kd.R_below (by (with_reducible repeat (first | apply Kd.R_alloc | apply Kd.R_drewN | apply Kd.R_drew)); exact HO_7.out) hb); have n2_ := Aside0.mk (below_step (by repeat (first | (with_reducible first | exact HB.out | apply below_alloc | apply pw_below_drewN | apply below_drew1) | exact HB.out)) hb); clear HO_5; clear HO_7; clear HB; have HO_5 := n0_; have HO_7 := n1_; have HB := n2_; clear n0_ n1_ n2_; (try clear hb); (try clear hb2); (try clear hk); (try clear hi)))
         repeat (go_quiet (first | fail); try go_wp2_with (first | fail))
         go_ret
         exact ⟨by first | rfl | (simp [errW_none, errW_some] <;> rfl) | (simp [*, errW_none, errW_some] <;> rfl), by repeat (first | (with_reducible first | exact HB.out | apply below_alloc | apply pw_below_drewN | apply below_drew1) | exact HB.out)⟩
        ·
         rw [if_neg c30] at H
         have c30b0 : decide ((wrap64 ((x5_4.length : Int) - t672)) < 24) = false := decide_eq_false c30
         clear c30
         exact absurd (Option.some.inj H) (by rw [HT.out]; decide)
       ·
        rw [if_neg c29] at H
        have c29b0 : decide (0 ≤ (wrap64 ((x5_4.length : Int) - t672))) = false := decide_eq_false c29
        clear c29
        exact absurd (Option.some.inj H) (by rw [HT.out]; decide)
      ·
       rw [if_neg c28] at H
       have c28b0 : (x9_2 == t672) = false := beq_eq_false_iff_ne.mpr c28
       have c28b1 : (x9_2 != t672) = true := bne_iff_ne.mpr c28
       exact absurd (Option.some.inj H) (by rw [HT.out]; decide)

/-- THE ONE PURE STATEMENT of payrolllaw7_RecordsAccount: yours. -/
def payrolllaw7_RecordsAccount.Pure : Prop := ∀ (l0 : List Int) (l1 : List Int), l0.length ≤ maxLen → l0.length * 8 ≤ 140737488351232 → (∀ x ∈ l0, (Lit.int .i64 x).wf = true) → l1.length ≤ maxLen → l1.length * 1 ≤ 140737488351232 → (∀ x ∈ l1, (Lit.int .u8 x).wf = true) → ∃ k, payrolllaw7_RecordsAccount.f k l0 l1 = some true
theorem payrolllaw7_RecordsAccount.walk (P : payrolllaw7_RecordsAccount.Pure) (a0 : Option Addr) (len0 cap0 : Nat) (z0 : List Int) (a1 : Option Addr) (len1 cap1 : Nat) (z1 : List Int) (w : World) (w0 : (a0 = none ∧ len0 = 0 ∧ cap0 = 0 ∧ z0 = []) ∨ ∃ x, a0 = some x ∧ len0 ≤ cap0 ∧ cap0 ≤ maxLen ∧ z0.length = cap0 ∧ (∀ i, i < z0.length → w.cell? (x.add i) = some (.int .i64 (z0.getD i 0))) ∧ ∀ n ∈ z0, (Lit.int .i64 n).wf = true) (y0 : len0 * 8 ≤ 140737488351232) (w1 : (a1 = none ∧ len1 = 0 ∧ cap1 = 0 ∧ z1 = []) ∨ ∃ x, a1 = some x ∧ len1 ≤ cap1 ∧ cap1 ≤ maxLen ∧ z1.length = cap1 ∧ (∀ i, i < z1.length → w.cell? (x.add i) = some (.int .u8 (z1.getD i 0))) ∧ ∀ n ∈ z1, (Lit.int .u8 n).wf = true) (y1 : len1 * 1 ≤ 140737488351232) :
  Calls Try.prog 8 #[.slice a0 len0 cap0, .slice a1 len1 cap1] w fun e w' => e = .returned (.bool true) ∧ Below w.heap.size w w' := by
 obtain ⟨l0, rfl, hr0, hm0, hw0, hc0⟩ := ReadsInt.ofRowC w0
 obtain ⟨l1, rfl, hr1, hm1, hw1, hc1⟩ := ReadsInt.ofRowC w1
 obtain ⟨k, h⟩ := P l0 l1 hm0 y0 hw0 hm1 y1 hw1
 refine (payrolllaw7_RecordsAccount.calls k _ _ l0 _ _ l1 true w (Kd.C_of_reads (d := (0 : Int)) (h1 := fun _ => rfl) hr0) hc0 (Kd.C_of_reads (d := (0 : Int)) (h1 := fun _ => rfl) hr1) hc1 h rfl).mono ?_
 rintro e w' ⟨rfl, hd⟩
 exact ⟨rfl, hd⟩

end Go.Proofs.Ytopigdnffnondaa.P
