/- Proved here: that the Go function payrollgen_Tape_Events computes the plain function of that name (the machine side of the laws, reworked from a print; no condition of its own). -/
import Derived.Test.YtopigdnffnondaaProg
import Derived.Test.YtopigdnffnondaaV1
import Derived.Test.YtopigdnffnondaaFPRE0
import Derived.Test.YtopigdnffnondaaFPRE2
import Derived.Test.YtopigdnffnondaaFPRE3
import Derived.Test.YtopigdnffnondaaFPRE7
import Derived.Test.YtopigdnffnondaaFpayrollgenTapeNext
import Derived.Test.YtopigdnffnondaaFpayrollgenTapeEvent
namespace Go.Proofs.Ytopigdnffnondaa.P
open Go.RowKit Go.Proofs.YtopigdnffnondaaW.PrintWords Go.Proofs.YtopigdnffnondaaW.PrintLast Go.Proofs.YtopigdnffnondaaW.PrintMore
attribute [local go_sem] max2_int min2_int max_two min_two max_three min_three max_four min_four   -- for this text's walks alone
set_option linter.unusedVariables false
set_option linter.unusedSimpArgs false

mutual
def payrollgen_Tape_Events.l0 : Nat → List (S26) → Int → List Int → Int → Option ((List (S26)) × Int)
 | 0, _, _, _, _ => none
 | k + 1, x5, x6, x1000, x1001 => if x6 > 0 then (if (x5.length : Int) > 0 then ((payrollgen_Tape_Next.f x1000 x1001 8).bind fun bt511 => (payrollgen_Tape_Events.j1 k x5 x6 (bt511.1 == 7) x1000 bt511.2)) else (payrollgen_Tape_Events.j1 k x5 x6 false x1000 x1001)) else (some (x5, x1001))
def payrollgen_Tape_Events.j1 : Nat → List (S26) → Int → Bool → List Int → Int → Option ((List (S26)) × Int)
 | 0, _, _, _, _, _ => none
 | k + 1, x5, x6, x22, x1000, x1001 => if x22 = true then ((payrollgen_Tape_Next.f x1000 x1001 (x5.length : Int)).bind fun bt513 => (if 0 ≤ bt513.1 then (if bt513.1 < (x5.length : Int) then (if x5.length < 2513169434916 then (payrollgen_Tape_Events.l0 k (x5 ++ [(⟨(⟨(rd_T26 x5 bt513.1).f0.f0, (rd_T26 x5 bt513.1).f0.f1⟩ : S24), (rd_T26 x5 bt513.1).f1, (rd_T26 x5 bt513.1).f2, (rd_T26 x5 bt513.1).f3, (⟨(rd_T26 x5 bt513.1).f4.f0, (rd_T26 x5 bt513.1).f4.f1⟩ : S24)⟩ : S26)]) (wrap64 (x6 - 1)) x1000 bt513.2) else (none)) else (none)) else (none))) else ((payrollgen_Tape_Event.f x1000 x1001).bind fun bt519 => (if x5.length < 2513169434916 then (payrollgen_Tape_Events.l0 k (x5 ++ [(⟨(⟨bt519.1, bt519.2.1⟩ : S24), bt519.2.2.1, bt519.2.2.2.1, bt519.2.2.2.2.1, (⟨bt519.2.2.2.2.2.1, bt519.2.2.2.2.2.2.1⟩ : S24)⟩ : S26)]) (wrap64 (x6 - 1)) x1000 bt519.2.2.2.2.2.2.2) else (none)))
end
def payrollgen_Tape_Events.f (k : Nat) (s0_0 : List Int) (s0_1 : Int) (a1 : Int) : Option ((List (S26)) × Int) := (payrollgen_Tape_Next.f s0_0 s0_1 (wrap64 (a1 + 1))).bind fun bt509 => (payrollgen_Tape_Events.l0 k ([] : List (S26)) bt509.1 s0_0 bt509.2)
theorem payrollgen_Tape_Events.mono_l : ∀ k, (∀ y0 y1 y2 y3, LeO (payrollgen_Tape_Events.l0 k y0 y1 y2 y3) (payrollgen_Tape_Events.l0 (k + 1) y0 y1 y2 y3)) ∧ (∀ y0 y1 y2 y3 y4, LeO (payrollgen_Tape_Events.j1 k y0 y1 y2 y3 y4) (payrollgen_Tape_Events.j1 (k + 1) y0 y1 y2 y3 y4))
 | 0 => ⟨fun _ _ _ _ r h => by simp [payrollgen_Tape_Events.l0] at h, fun _ _ _ _ _ r h => by simp [payrollgen_Tape_Events.j1] at h⟩
 | k + 1 => by
  obtain ⟨ih0, ih1⟩ := payrollgen_Tape_Events.mono_l k
  refine ⟨?_, ?_⟩
  ·
   intro y0 y1 y2 y3
   unfold payrollgen_Tape_Events.l0
   repeat' first
   | (with_reducible exact ih0 _ _ _ _)
   | (with_reducible exact ih1 _ _ _ _ _)
   | (with_reducible exact LeO.refl _)
   | (with_reducible exact LeO.none _)
   | (with_reducible refine LeO.ite ?_ ?_)
   | (with_reducible refine LeO.bind ?_ (fun _ => ?_))
   | exact ih0 _ _ _ _
   | exact ih1 _ _ _ _ _
   | exact LeO.none _
   | refine LeO.ite ?_ ?_
   | refine LeO.bind ?_ (fun _ => ?_)
  ·
   intro y0 y1 y2 y3 y4
   unfold payrollgen_Tape_Events.j1
   repeat' first
   | (with_reducible exact ih0 _ _ _ _)
   | (with_reducible exact ih1 _ _ _ _ _)
   | (with_reducible exact LeO.refl _)
   | (with_reducible exact LeO.none _)
   | (with_reducible refine LeO.ite ?_ ?_)
   | (with_reducible refine LeO.bind ?_ (fun _ => ?_))
   | exact ih0 _ _ _ _
   | exact ih1 _ _ _ _ _
   | exact LeO.none _
   | refine LeO.ite ?_ ?_
   | refine LeO.bind ?_ (fun _ => ?_)
theorem payrollgen_Tape_Events.mono : ∀ a0 a1 a2 k, LeO (payrollgen_Tape_Events.f k a0 a1 a2) (payrollgen_Tape_Events.f (k + 1) a0 a1 a2) := by
 intro a0 a1 a2 k
 obtain ⟨ih0, ih1⟩ := payrollgen_Tape_Events.mono_l k
 unfold payrollgen_Tape_Events.f
 repeat' first
   | (with_reducible exact ih0 _ _ _ _)
   | (with_reducible exact ih1 _ _ _ _ _)
   | (with_reducible exact LeO.refl _)
   | (with_reducible exact LeO.none _)
   | (with_reducible refine LeO.ite ?_ ?_)
   | (with_reducible refine LeO.bind ?_ (fun _ => ?_))
   | exact ih0 _ _ _ _
   | exact ih1 _ _ _ _ _
   | exact LeO.none _
   | refine LeO.ite ?_ ?_
   | refine LeO.bind ?_ (fun _ => ?_)
set_option maxHeartbeats 8000000 in
set_option maxRecDepth 100000 in
theorem payrollgen_Tape_Events.calls (k : Nat) (g : Nat) (s0_0 : List Int) (s0_1 : Int) (a1 : Int) (r1 : List (S26)) (r2 : Int) (w0 w : World) (hI : IsS57 w0 w g s0_0 s0_1) (hB : Below w0.heap.size w0 w) (h : payrollgen_Tape_Events.f k s0_0 s0_1 a1 = some (r1, r2)) :
  Calls Try.prog 23 #[.pointer (some ⟨g, 0, none⟩), .int .i64 a1] w fun e w' => ∃ v0_ : Value, e = .returned (v0_) ∧ Kd.R k26 26 w' w.heap.size (fun _ => True) v0_ r1 ∧ IsS57 w0 w' g s0_0 r2 ∧ Below w0.heap.size w0 w' ∧ KeepBut w w' g none := by
 have hu26 := Try.underlying26
 have HI0 := Aside0.mk hI
 have HK := Aside0.mk (KeepBut.refl w g none)
 have HL := Aside0.mk hB.size
 clear hI
 have HW0 := Aside0.mk hB.size
 have HB := Aside0.mk hB
 clear hB
 have H : ((payrollgen_Tape_Next.f s0_0 s0_1 (wrap64 (a1 + 1))).bind fun bt509 => (payrollgen_Tape_Events.l0 k ([] : List (S26)) bt509.1 s0_0 bt509.2)) = some (r1, r2) := h
 clear h
 replace H := Option.bind_eq_some_iff.mp H
 obtain ⟨⟨t509, t510⟩, A30, H⟩ := H
 replace H : (payrollgen_Tape_Events.l0 k ([] : List (S26)) t509 s0_0 t510) = some (r1, r2) := H
 have A3 := Aside0.mk A30
 clear A30
 have H' := Aside0.mk H
 clear H
 go_enter Try.func23, Try.ntmps23
 go_wp2_with (first | ((with_reducible refine gate_callee (f := 22) rfl ?_); refine goesL_ (some 10) rfl rfl Try.func22 (by kernel_rfl) rfl #[.pointer (some ⟨g, 0, none⟩), .int .i64 (wrap64 (a1 + 1))] rfl (by (try simp only [List.map_toArray, List.map_cons, List.map_nil]); first | done | rfl | (simp only [List.length_drop, List.length_take]; rfl)) ?_; (with_reducible refine (payrollgen_Tape_Next.calls g s0_0 s0_1 (wrap64 (a1 + 1)) t509 t510 w0 _ ?side1 ?side2 A3.out).mono ?_); (case side1 => repeat (first | (with_reducible first | exact HI0.out | apply IsS57.alloc | apply IsS57.drewN | apply IsS57.drew | apply IsS57.set_1) | exact HI0.out)); (case side2 => repeat (first | (with_reducible first | exact HB.out | apply below_alloc | apply pw_below_drewN | apply below_drew1 | refine below_set ?_ (IsS57.ge HI0.out)) | exact HB.out)); rintro e w4 ⟨rfl, hi, hb, hk⟩; refine ⟨_, rfl, ?_⟩; have n0_ := Aside0.mk (KeepBut.trans (by repeat (first | (with_reducible first | exact HK.out | apply KeepBut.set_ | apply keep_drewN | apply keep_drew | apply keep_alloc) | exact HK.out)) hk (.inl rfl)); have n1_ := Aside0.mk (hb); have n2_ := Aside0.mk (hi); clear HK; clear HB; clear HI0; have HK := n0_; have HB := n1_; have HI0 := n2_; clear n0_ n1_ n2_; (try clear hb); (try clear hb2); (try clear hk); (try clear hi)))
 go_loopg [5, 6] k (fun kq v5 v6 w' => ∃ (x5_1 : List (S26)) (x6_1 : Int) (x1001_1 : Int), v6 = .int .i64 x6_1 ∧ Aside0 (payrollgen_Tape_Events.l0 kq x5_1 x6_1 s0_0 x1001_1 = some (r1, r2)) ∧ Aside0 (kq ≤ k) ∧ Aside0 (Kd.R k26 26 w' w.heap.size (fun _ => True) v5 x5_1) ∧ Aside0 (IsS57 w0 w' g s0_0 x1001_1) ∧ Aside0 (KeepBut w w' g none) ∧ Aside0 (Below w0.heap.size w0 w'))
 case atStart => exact ⟨(([] : List (S26))), (t509), (t510), (by first | rfl | (simp; done) | (simp [*]; done)), H', ⟨Nat.le_refl _⟩, ⟨by first | exact Kd.R_nil _ _ _ _ _ | exact Kd.N_nil _ _ _ _ _ | exact Kd.V_nil _ _ _ _ _ | exact Kd.Q_nil _ _ _ _ _ | exact Kd.S_nil _ _ _ _ _⟩, ⟨by repeat (first | (with_reducible first | exact HI0.out | apply IsS57.alloc | apply IsS57.drewN | apply IsS57.drew | apply IsS57.set_1) | exact HI0.out)⟩, ⟨by repeat (first | (with_reducible first | exact HK.out | apply KeepBut.set_ | apply keep_drewN | apply keep_drew | apply keep_alloc) | exact HK.out)⟩, ⟨by repeat (first | (with_reducible first | exact HB.out | apply below_alloc | apply pw_below_drewN | apply below_drew1 | refine below_set ?_ (IsS57.ge HI0.out)) | exact HB.out)⟩⟩
 case round =>
  clear H'
  try clear c2
  try clear p2
  obtain ⟨x5_1, x6_1, x1001_1, rfl, HA, HK1, HO_5, HI0, HK, HB⟩ := hrel
  cases gk with
  | zero => exact absurd HA.out (by simp [payrollgen_Tape_Events.l0])
  | succ k1 =>
   have H := HA.out
   clear HA
   simp only [payrollgen_Tape_Events.l0] at H
   by_cases c5 : x6_1 > 0
   ·
    rw [if_pos c5] at H
    have c5b0 : decide (0 < x6_1) = true := decide_eq_true c5
    clear c5
    have HC6 := Aside0.mk H
    clear H
    go_upto_region 5 with (fail)
    go_cut [22] (fun v22 wc => ∃ (kq : Nat) (x22_5 : Bool) (x1001_5 : Int), v22 = .bool x22_5 ∧ Aside0 (payrollgen_Tape_Events.j1 kq x5_1 x6_1 x22_5 s0_0 x1001_5 = some (r1, r2)) ∧ Aside0 (kq ≤ k1) ∧ Aside0 (Kd.R k26 26 wc w.heap.size (fun _ => True) u5 x5_1) ∧ Aside0 (IsS57 w0 wc g s0_0 x1001_5) ∧ Aside0 (KeepBut w wc g none) ∧ Aside0 (Below w0.heap.size w0 wc))
    case first =>
     have H := HC6.out
     clear HC6
     by_cases c7 : (x5_1.length : Int) > 0
     ·
      rw [if_pos c7] at H
      have c7b0 : decide (0 < (x5_1.length : Int)) = true := decide_eq_true c7
      have c7b1 : decide (0 < x5_1.length) = true := decide_eq_true (by omega)
      clear c7
      (first | rw [c7b0] | (simp only [i64_w, i32_w]; rw [c7b0]) | skip)
      replace H := Option.bind_eq_some_iff.mp H
      obtain ⟨⟨t511, t512⟩, A80, H⟩ := H
      replace H : (payrollgen_Tape_Events.j1 k1 x5_1 x6_1 (t511 == 7) s0_0 t512) = some (r1, r2) := H
      have A8 := Aside0.mk A80
      clear A80
      have H' := Aside0.mk H
      clear H
      obtain ⟨Ao9, co9, eo9⟩ := Kd.R_slice HO_5.out
      subst eo9
      go_wp2_with (first | (go_at_call 22; (with_reducible refine (payrollgen_Tape_Next.calls g s0_0 x1001_1 8 t511 t512 w0 _ ?side1 ?side2 A8.out).mono ?_); (case side1 => repeat (first | (with_reducible first | exact HI0.out | apply IsS57.alloc | apply IsS57.drewN | apply IsS57.drew | apply IsS57.set_1) | exact HI0.out)); (case side2 => repeat (first | (with_reducible first | exact HB.out | apply below_alloc | apply pw_below_drewN | apply below_drew1 | refine below_set ?_ (IsS57.ge HI0.out)) | exact HB.out)); rintro e w10 ⟨rfl, hi, hb, hk⟩; have n0_ := Aside0.mk (Kd.R_mono (Kd.R_keep (IsS57.apart (show IsS57 w0 _ g s0_0 x1001_1 from by repeat (first | (with_reducible first | exact HI0.out | apply IsS57.alloc | apply IsS57.drewN | apply IsS57.drew | apply IsS57.set_1) | exact HI0.out)) (by (with_reducible repeat (first | apply Kd.R_alloc | apply Kd.R_drewN | apply Kd.R_drew)); exact HO_5.out) (by decide)) hk (fun _ h => h.2)) (fun _ h => h.1)); have n1_ := Aside0.mk (KeepBut.trans (by repeat (first | (with_reducible first | exact HK.out | apply KeepBut.set_ | apply keep_drewN | apply keep_drew | apply keep_alloc) | exact HK.out)) hk (.inl rfl)); have n2_ := Aside0.mk (hb); have n3_ := Aside0.mk (hi); clear HO_5; clear HK; clear HB; clear HI0; have HO_5 := n0_; have HK := n1_; have HB := n2_; have HI0 := n3_; clear n0_ n1_ n2_ n3_; (try clear hb); (try clear hb2); (try clear hk); (try clear hi)))
      go_meet
      case rel => exact ⟨_, ((t511 == 7)), (t512), (by first | rfl | (simp; done) | (simp [*]; done)), H', ⟨by have := HK1.out; first | omega | exact Nat.le_refl _⟩, ⟨by (with_reducible repeat (first | apply Kd.R_alloc | apply Kd.R_drewN | apply Kd.R_drew)); exact HO_5.out⟩, ⟨by repeat (first | (with_reducible first | exact HI0.out | apply IsS57.alloc | apply IsS57.drewN | apply IsS57.drew | apply IsS57.set_1) | exact HI0.out)⟩, ⟨by repeat (first | (with_reducible first | exact HK.out | apply KeepBut.set_ | apply keep_drewN | apply keep_drew | apply keep_alloc) | exact HK.out)⟩, ⟨by repeat (first | (with_reducible first | exact HB.out | apply below_alloc | apply pw_below_drewN | apply below_drew1 | refine below_set ?_ (IsS57.ge HI0.out)) | exact HB.out)⟩⟩
     ·
      rw [if_neg c7] at H
      have c7b0 : decide (0 < (x5_1.length : Int)) = false := decide_eq_false c7
      have c7b1 : decide (0 < x5_1.length) = false := decide_eq_false (by omega)
      clear c7
      (first | rw [c7b0] | (simp only [i64_w, i32_w]; rw [c7b0]) | skip)
      have H' := Aside0.mk H
      clear H
      obtain ⟨Ao11, co11, eo11⟩ := Kd.R_slice HO_5.out
      subst eo11
      go_wp2
      go_meet
      case rel => exact ⟨_, (false), (x1001_1), (by first | rfl | (simp; done) | (simp [*]; done)), H', ⟨by have := HK1.out; first | omega | exact Nat.le_refl _⟩, ⟨by (with_reducible repeat (first | apply Kd.R_alloc | apply Kd.R_drewN | apply Kd.R_drew)); exact HO_5.out⟩, ⟨by repeat (first | (with_reducible first | exact HI0.out | apply IsS57.alloc | apply IsS57.drewN | apply IsS57.drew | apply IsS57.set_1) | exact HI0.out)⟩, ⟨by repeat (first | (with_reducible first | exact HK.out | apply KeepBut.set_ | apply keep_drewN | apply keep_drew | apply keep_alloc) | exact HK.out)⟩, ⟨by repeat (first | (with_reducible first | exact HB.out | apply below_alloc | apply pw_below_drewN | apply below_drew1 | refine below_set ?_ (IsS57.ge HI0.out)) | exact HB.out)⟩⟩
    case rest =>
     clear HC6
     try clear c2
     try clear p2
     try clear c5
     try clear c5b0
     try clear p6
     try clear c7
     try clear c7b0
     try clear c7b1
     try clear p2
     obtain ⟨kq, x22_5, x1001_5, rfl, HA, HJ5, HO_5, HI0, HK, HB⟩ := hcut
     cases kq with
     | zero => exact absurd HA.out (by simp [payrollgen_Tape_Events.j1])
     | succ kj5 =>
      have H := HA.out
      clear HA
      simp only [payrollgen_Tape_Events.j1] at H
      by_cases c12 : x22_5 = true
      ·
       subst c12
       have H1 : ((payrollgen_Tape_Next.f s0_0 x1001_5 (x5_1.length : Int)).bind fun bt513 => (if 0 ≤ bt513.1 then (if bt513.1 < (x5_1.length : Int) then (if x5_1.length < 2513169434916 then (payrollgen_Tape_Events.l0 kj5 (x5_1 ++ [(⟨(⟨(rd_T26 x5_1 bt513.1).f0.f0, (rd_T26 x5_1 bt513.1).f0.f1⟩ : S24), (rd_T26 x5_1 bt513.1).f1, (rd_T26 x5_1 bt513.1).f2, (rd_T26 x5_1 bt513.1).f3, (⟨(rd_T26 x5_1 bt513.1).f4.f0, (rd_T26 x5_1 bt513.1).f4.f1⟩ : S24)⟩ : S26)]) (wrap64 (x6_1 - 1)) s0_0 bt513.2) else (none)) else (none)) else (none))) = some (r1, r2) := by rw [if_pos rfl] at H; exact H
       clear H
       have H := H1
       clear H1
       replace H := Option.bind_eq_some_iff.mp H
       obtain ⟨⟨t513, t514⟩, A130, H⟩ := H
       replace H : (if 0 ≤ t513 then (if t513 < (x5_1.length : Int) then (if x5_1.length < 2513169434916 then (payrollgen_Tape_Events.l0 kj5 (x5_1 ++ [(⟨(⟨(rd_T26 x5_1 t513).f0.f0, (rd_T26 x5_1 t513).f0.f1⟩ : S24), (rd_T26 x5_1 t513).f1, (rd_T26 x5_1 t513).f2, (rd_T26 x5_1 t513).f3, (⟨(rd_T26 x5_1 t513).f4.f0, (rd_T26 x5_1 t513).f4.f1⟩ : S24)⟩ : S26)]) (wrap64 (x6_1 - 1)) s0_0 t514) else (none)) else (none)) else (none)) = some (r1, r2) := H
       have A13 := Aside0.mk A130
       clear A130
       by_cases c14 : 0 ≤ t513
       ·
        rw [if_pos c14] at H
        have c14b0 : decide (0 ≤ t513) = true := decide_eq_true c14
        clear c14
        by_cases c15 : t513 < (x5_1.length : Int)
        ·
         rw [if_pos c15] at H
         have c15b0 : decide (t513 < (x5_1.length : Int)) = true := decide_eq_true c15
         clear c15
         by_cases c16 : x5_1.length < 2513169434916
         ·
          rw [if_pos c16] at H
          have LMc16 := Aside0.mk c16
          clear c16
          obtain ⟨y516, hy516⟩ : ∃ y_ : List (S26), y_ = (x5_1 ++ [(⟨(⟨(rd_T26 x5_1 t513).f0.f0, (rd_T26 x5_1 t513).f0.f1⟩ : S24), (rd_T26 x5_1 t513).f1, (rd_T26 x5_1 t513).f2, (rd_T26 x5_1 t513).f3, (⟨(rd_T26 x5_1 t513).f4.f0, (rd_T26 x5_1 t513).f4.f1⟩ : S24)⟩ : S26)]) := ⟨_, rfl⟩
          replace H : (payrollgen_Tape_Events.l0 kj5 y516 (wrap64 (x6_1 - 1)) s0_0 t514) = some (r1, r2) := by first | (rw [hy516]; with_reducible exact H) | (have H2_ := (Option.bind_some _ _).symm.trans H; rw [hy516]; with_reducible exact H2_) | (have H2_ := (Option.bind_some _ _).symm.trans H; with_reducible exact H2_) | with_reducible exact H | (rw [hy516]; exact H) | exact H
          have Ny516 := Aside0.mk hy516
          clear hy516
          have H' := Aside0.mk H
          clear H
          obtain ⟨Ao17, co17, eo17⟩ := Kd.R_slice HO_5.out
          subst eo17
          go_wp2_with (first | ((with_reducible refine gate_callee (f := 22) rfl ?_); refine goesL_ (some 28) rfl rfl Try.func22 (by kernel_rfl) rfl #[.pointer (some ⟨g, 0, none⟩), .int .i64 (x5_1.length : Int)] rfl (by (try simp only [List.map_toArray, List.map_cons, List.map_nil]); first | done | rfl | (simp only [List.length_drop, List.length_take]; rfl)) ?_; (with_reducible refine (payrollgen_Tape_Next.calls g s0_0 x1001_5 (x5_1.length : Int) t513 t514 w0 _ ?side1 ?side2 A13.out).mono ?_); (case side1 => repeat (first | (with_reducible first | exact HI0.out | apply IsS57.alloc | apply IsS57.drewN | apply IsS57.drew | apply IsS57.set_1) | exact HI0.out)); (case side2 => repeat (first | (with_reducible first | exact HB.out | apply below_alloc | apply pw_below_drewN | apply below_drew1 | refine below_set ?_ (IsS57.ge HI0.out)) | exact HB.out)); rintro e w18 ⟨rfl, hi, hb, hk⟩; refine ⟨_, rfl, ?_⟩; have n0_ := Aside0.mk (Kd.R_mono (Kd.R_keep (IsS57.apart (show IsS57 w0 _ g s0_0 x1001_5 from by repeat (first | (with_reducible first | exact HI0.out | apply IsS57.alloc | apply IsS57.drewN | apply IsS57.drew | apply IsS57.set_1) | exact HI0.out)) (by (with_reducible repeat (first | apply Kd.R_alloc | apply Kd.R_drewN | apply Kd.R_drew)); exact HO_5.out) (by decide)) hk (fun _ h => h.2)) (fun _ h => h.1)); have n1_ := Aside0.mk (KeepBut.trans (by repeat (first | (with_reducible first | exact HK.out | apply KeepBut.set_ | apply keep_drewN | apply keep_drew | apply keep_alloc) | exact HK.out)) hk (.inl rfl)); have n2_ := Aside0.mk (hb); have n3_ := Aside0.mk (hi); clear HO_5; clear HK; clear HB; clear HI0; have HO_5 := n0_; have HK := n1_; have HB := n2_; have HI0 := n3_; clear n0_ n1_ n2_ n3_; (try clear hb); (try clear hb2); (try clear hk); (try clear hi); have p515 : 0 ≤ (t513 : Int) := of_decide_eq_true (by first | (with_reducible assumption) | assumption); have q515 : t513 < (x5_1.length : Int) := of_decide_eq_true (by first | (with_reducible assumption) | assumption); obtain ⟨ad515, e515, hx515_0, hx515_1, hx515_2, hx515_3, hx515_4, hx515_5, hx515_6⟩ := at_T26 (Kd.R_reads' HO_5.out).2.2 t513 p515 q515; cases e515; replace p515 := eq_true p515; replace q515 := eq_true q515) | ((with_reducible refine gate_builtin (b := .append) (xs := #[.tmp 23, .tmp 31]) rfl ?_); at_builtin; refine Kd.R_append k26 w.heap.size rfl (.tmp 23) (.tmp 31) 44 26 (.agg #[(.int .i64 0), (.int .i64 0), (.int .i64 0), (.int .i64 0), (.int .i64 0), (.int .i64 0), (.int .i64 0)]) 56 rfl Try.underlying44 info26 rfl (by decide) (by omega) (.slice (some ad515) x5_1.length co17) x5_1 (⟨(⟨(rd_T26 x5_1 t513).f0.f0, (rd_T26 x5_1 t513).f0.f1⟩ : S24), (rd_T26 x5_1 t513).f1, (rd_T26 x5_1 t513).f2, (rd_T26 x5_1 t513).f3, (⟨(rd_T26 x5_1 t513).f4.f0, (rd_T26 x5_1 t513).f4.f1⟩ : S24)⟩ : S26) [.int .i64 ((rd_T26 x5_1 t513).f0.f0), .int .i64 ((rd_T26 x5_1 t513).f0.f1), .int .i64 ((rd_T26 x5_1 t513).f1), .int .i64 ((rd_T26 x5_1 t513).f2), .int .i64 ((rd_T26 x5_1 t513).f3), .int .i64 ((rd_T26 x5_1 t513).f4.f0), .int .i64 ((rd_T26 x5_1 t513).f4.f1)] (fun _ => True) (fun _ => False) rfl rfl ?aP (fun _ hk => hk.elim) ?aF ?aO (Below.refl _ _) ?aS ?aL ?_; (case aP => exact k26_mkM _ _ _ (⟨(⟨(rd_T26 x5_1 t513).f0.f0, (rd_T26 x5_1 t513).f0.f1⟩ : S24), (rd_T26 x5_1 t513).f1, (rd_T26 x5_1 t513).f2, (rd_T26 x5_1 t513).f3, (⟨(rd_T26 x5_1 t513).f4.f0, (rd_T26 x5_1 t513).f4.f1⟩ : S24)⟩ : S26)); (case aF => exact (fun _ _ => trivial)); (case aO => exact (by (with_reducible repeat (first | apply Kd.R_alloc | apply Kd.R_drewN | apply Kd.R_drew)); exact HO_5.out)); (case aS => exact (keep_size (w := w) (g := g) (row := none) (by repeat (first | (with_reducible first | exact HK.out | apply KeepBut.set_ | apply keep_drewN | apply keep_drew | apply keep_alloc) | exact HK.out)))); (case aL => have := LMc16.out; omega); intro v517 w19 ho hb hg hat; rw [← Ny516.out] at ho; have n0_ := Aside0.mk (IsS57.grown (by repeat (first | (with_reducible first | exact HI0.out | apply IsS57.alloc | apply IsS57.drewN | apply IsS57.drew | apply IsS57.set_1) | exact HI0.out)) hg (IsS57.own_ne HI0.out HO_5.out (by decide))); have n1_ := Aside0.mk (below_weaken (by repeat (first | (with_reducible first | exact HB.out | apply below_alloc | apply pw_below_drewN | apply below_drew1 | refine below_set ?_ (IsS57.ge HI0.out)) | exact HB.out)) HL.out hb); have n2_ := Aside0.mk (KeepBut.trans (by repeat (first | (with_reducible first | exact HK.out | apply KeepBut.set_ | apply keep_drewN | apply keep_drew | apply keep_alloc) | exact HK.out)) (KeepBut.of_grown hg g) (Kd.R_base2 HO_5.out)); have n3_ := Aside0.mk (ho); clear HI0; clear HB; clear HK; clear HO_5; have HI0 := n0_; have HB := n1_; have HK := n2_; have HO518 := n3_; clear n0_ n1_ n2_ n3_; clear ho hb hg hat))
          go_roundg kj5
          case measure => have := HK1.out; have := HJ5.out; omega
          case rel => exact ⟨(y516), (wrap64 (x6_1 - 1)), (t514), (by first | rfl | (simp; done) | (simp [*]; done)), H', ⟨by have := HK1.out; have := HJ5.out; omega⟩, ⟨by (with_reducible repeat (first | apply Kd.R_alloc | apply Kd.R_drewN | apply Kd.R_drew)); exact HO518.out⟩, ⟨by repeat (first | (with_reducible first | exact HI0.out | apply IsS57.alloc | apply IsS57.drewN | apply IsS57.drew | apply IsS57.set_1) | exact HI0.out)⟩, ⟨by repeat (first | (with_reducible first | exact HK.out | apply KeepBut.set_ | apply keep_drewN | apply keep_drew | apply keep_alloc) | exact HK.out)⟩, ⟨by repeat (first | (with_reducible first | exact HB.out | apply below_alloc | apply pw_below_drewN | apply below_drew1 | refine below_set ?_ (IsS57.ge HI0.out)) | exact HB.out)⟩⟩
         ·
          rw [if_neg c16] at H
          exact absurd H (by simp)
        ·
         rw [if_neg c15] at H
         exact absurd H (by simp)
       ·
        rw [if_neg c14] at H
        exact absurd H (by simp)
      ·
       replace c12 := Bool.eq_false_iff.mpr c12
       subst c12
       have H1 : ((payrollgen_Tape_Event.f s0_0 x1001_5).bind fun bt519 => (if x5_1.length < 2513169434916 then (payrollgen_Tape_Events.l0 kj5 (x5_1 ++ [(⟨(⟨bt519.1, bt519.2.1⟩ : S24), bt519.2.2.1, bt519.2.2.2.1, bt519.2.2.2.2.1, (⟨bt519.2.2.2.2.2.1, bt519.2.2.2.2.2.2.1⟩ : S24)⟩ : S26)]) (wrap64 (x6_1 - 1)) s0_0 bt519.2.2.2.2.2.2.2) else (none))) = some (r1, r2) := by rw [if_neg (show ¬ (false = true) by decide)] at H; exact H
       clear H
       have H := H1
       clear H1
       replace H := Option.bind_eq_some_iff.mp H
       obtain ⟨⟨t519, t520, t521, t522, t523, t524, t525, t526⟩, A200, H⟩ := H
       replace H : (if x5_1.length < 2513169434916 then (payrollgen_Tape_Events.l0 kj5 (x5_1 ++ [(⟨(⟨t519, t520⟩ : S24), t521, t522, t523, (⟨t524, t525⟩ : S24)⟩ : S26)]) (wrap64 (x6_1 - 1)) s0_0 t526) else (none)) = some (r1, r2) := H
       have A20 := Aside0.mk A200
       clear A200
       by_cases c21 : x5_1.length < 2513169434916
       ·
        rw [if_pos c21] at H
        have LMc21 := Aside0.mk c21
        clear c21
        obtain ⟨y527, hy527⟩ : ∃ y_ : List (S26), y_ = (x5_1 ++ [(⟨(⟨t519, t520⟩ : S24), t521, t522, t523, (⟨t524, t525⟩ : S24)⟩ : S26)]) := ⟨_, rfl⟩
        replace H : (payrollgen_Tape_Events.l0 kj5 y527 (wrap64 (x6_1 - 1)) s0_0 t526) = some (r1, r2) := by first | (rw [hy527]; with_reducible exact H) | (have H2_ := (Option.bind_some _ _).symm.trans H; rw [hy527]; with_reducible exact H2_) | (have H2_ := (Option.bind_some _ _).symm.trans H; with_reducible exact H2_) | with_reducible exact H | (rw [hy527]; exact H) | exact H
        have Ny527 := Aside0.mk hy527
        clear hy527
        have H' := Aside0.mk H
        clear H
        go_wp2_with (first | ((with_reducible refine gate_callee (f := 10) rfl ?_); refine goesL_ (some 35) rfl rfl Try.func10 (by kernel_rfl) rfl #[.pointer (some ⟨g, 0, none⟩)] rfl (by (try simp only [List.map_toArray, List.map_cons, List.map_nil]); first | done | rfl | (simp only [List.length_drop, List.length_take]; rfl)) ?_; (with_reducible refine (payrollgen_Tape_Event.calls g s0_0 x1001_5 t519 t520 t521 t522 t523 t524 t525 t526 w0 _ ?side1 ?side2 A20.out).mono ?_); (case side1 => repeat (first | (with_reducible first | exact HI0.out | apply IsS57.alloc | apply IsS57.drewN | apply IsS57.drew | apply IsS57.set_1) | exact HI0.out)); (case side2 => repeat (first | (with_reducible first | exact HB.out | apply below_alloc | apply pw_below_drewN | apply below_drew1 | refine below_set ?_ (IsS57.ge HI0.out)) | exact HB.out)); rintro e w22 ⟨rfl, hi, hb, hk⟩; refine ⟨_, rfl, ?_⟩; have n0_ := Aside0.mk (Kd.R_mono (Kd.R_keep (IsS57.apart (show IsS57 w0 _ g s0_0 x1001_5 from by repeat (first | (with_reducible first | exact HI0.out | apply IsS57.alloc | apply IsS57.drewN | apply IsS57.drew | apply IsS57.set_1) | exact HI0.out)) (by (with_reducible repeat (first | apply Kd.R_alloc | apply Kd.R_drewN | apply Kd.R_drew)); exact HO_5.out) (by decide)) hk (fun _ h => h.2)) (fun _ h => h.1)); have n1_ := Aside0.mk (KeepBut.trans (by repeat (first | (with_reducible first | exact HK.out | apply KeepBut.set_ | apply keep_drewN | apply keep_drew | apply keep_alloc) | exact HK.out)) hk (.inl rfl)); have n2_ := Aside0.mk (hb); have n3_ := Aside0.mk (hi); clear HO_5; clear HK; clear HB; clear HI0; have HO_5 := n0_; have HK := n1_; have HB := n2_; have HI0 := n3_; clear n0_ n1_ n2_ n3_; (try clear hb); (try clear hb2); (try clear hk); (try clear hi)) | ((with_reducible refine gate_builtin (b := .append) (xs := #[.tmp 33, .tmp 36]) rfl ?_); at_builtin; refine Kd.R_append k26 w.heap.size rfl (.tmp 33) (.tmp 36) 44 26 (.agg #[(.int .i64 0), (.int .i64 0), (.int .i64 0), (.int .i64 0), (.int .i64 0), (.int .i64 0), (.int .i64 0)]) 56 rfl Try.underlying44 info26 rfl (by decide) (by omega) u5 x5_1 (⟨(⟨t519, t520⟩ : S24), t521, t522, t523, (⟨t524, t525⟩ : S24)⟩ : S26) [.int .i64 t519, .int .i64 t520, .int .i64 t521, .int .i64 t522, .int .i64 t523, .int .i64 t524, .int .i64 t525] (fun _ => True) (fun _ => False) rfl rfl ?aP (fun _ hk => hk.elim) ?aF ?aO (Below.refl _ _) ?aS ?aL ?_; (case aP => exact k26_mkM _ _ _ (⟨(⟨t519, t520⟩ : S24), t521, t522, t523, (⟨t524, t525⟩ : S24)⟩ : S26)); (case aF => exact (fun _ _ => trivial)); (case aO => exact (by (with_reducible repeat (first | apply Kd.R_alloc | apply Kd.R_drewN | apply Kd.R_drew)); exact HO_5.out)); (case aS => exact (keep_size (w := w) (g := g) (row := none) (by repeat (first | (with_reducible first | exact HK.out | apply KeepBut.set_ | apply keep_drewN | apply keep_drew | apply keep_alloc) | exact HK.out)))); (case aL => have := LMc21.out; omega); intro v528 w23 ho hb hg hat; rw [← Ny527.out] at ho; have n0_ := Aside0.mk (IsS57.grown (by repeat (first | (with_reducible first | exact HI0.out | apply IsS57.alloc | apply IsS57.drewN | apply IsS57.drew | apply IsS57.set_1) | exact HI0.out)) hg (IsS57.own_ne HI0.out HO_5.out (by decide))); have n1_ := Aside0.mk (below_weaken (by repeat (first | (with_reducible first | exact HB.out | apply below_alloc | apply pw_below_drewN | apply below_drew1 | refine below_set ?_ (IsS57.ge HI0.out)) | exact HB.out)) HL.out hb); have n2_ := Aside0.mk (KeepBut.trans (by repeat (first | (with_reducible first | exact HK.out | apply KeepBut.set_ | apply keep_drewN | apply keep_drew | apply keep_alloc) | exact HK.out)) (KeepBut.of_grown hg g) (Kd.R_base2 HO_5.out)); have n3_ := Aside0.mk (ho); clear HI0; clear HB; clear HK; clear HO_5; have HI0 := n0_; have HB := n1_; have HK := n2_; have HO529 := n3_; clear n0_ n1_ n2_ n3_; clear ho hb hg hat))
        go_roundg kj5
        case measure => have := HK1.out; have := HJ5.out; omega
        case rel => exact ⟨(y527), (wrap64 (x6_1 - 1)), (t526), (by first | rfl | (simp; done) | (simp [*]; done)), H', ⟨by have := HK1.out; have := HJ5.out; omega⟩, ⟨by (with_reducible repeat (first | apply Kd.R_alloc | apply Kd.R_drewN | apply Kd.R_drew)); exact HO529.out⟩, ⟨by repeat (first | (with_reducible first | exact HI0.out | apply IsS57.alloc | apply IsS57.drewN | apply IsS57.drew | apply IsS57.set_1) | exact HI0.out)⟩, ⟨by repeat (first | (with_reducible first | exact HK.out | apply KeepBut.set_ | apply keep_drewN | apply keep_drew | apply keep_alloc) | exact HK.out)⟩, ⟨by repeat (first | (with_reducible first | exact HB.out | apply below_alloc | apply pw_below_drewN | apply below_drew1 | refine below_set ?_ (IsS57.ge HI0.out)) | exact HB.out)⟩⟩
       ·
        rw [if_neg c21] at H
        exact absurd H (by simp)
   ·
    rw [if_neg c5] at H
    have c5b0 : decide (0 < x6_1) = false := decide_eq_false c5
    clear c5
    simp only [Option.some.injEq, Prod.mk.injEq] at H
    obtain ⟨rfl, rfl⟩ := H
    go_wp2
    go_ret
    exact ⟨_, by first | rfl | (simp [errW_none, errW_some] <;> rfl) | (simp [*, errW_none, errW_some] <;> rfl), by (with_reducible repeat (first | apply Kd.R_alloc | apply Kd.R_drewN | apply Kd.R_drew)); exact HO_5.out, by repeat (first | (with_reducible first | exact HI0.out | apply IsS57.alloc | apply IsS57.drewN | apply IsS57.drew | apply IsS57.set_1) | exact HI0.out), by repeat (first | (with_reducible first | exact HB.out | apply below_alloc | apply pw_below_drewN | apply below_drew1 | refine below_set ?_ (IsS57.ge HI0.out)) | exact HB.out), by repeat (first | (with_reducible first | exact HK.out | apply KeepBut.set_ | apply keep_drewN | apply keep_drew | apply keep_alloc) | exact HK.out)⟩

end Go.Proofs.Ytopigdnffnondaa.P
