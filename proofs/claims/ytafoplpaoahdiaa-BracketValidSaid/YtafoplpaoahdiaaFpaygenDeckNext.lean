/- Proved here: that the Go function paygen_Deck_Next computes the plain function of that name (the machine side of the laws, reworked from a print; no condition of its own). -/
import Derived.Test.YtafoplpaoahdiaaProg
import Derived.Test.YtafoplpaoahdiaaV1
import Derived.Test.YtafoplpaoahdiaaFPRE0
import Derived.Test.YtafoplpaoahdiaaFPRE3
namespace Go.Proofs.Ytafoplpaoahdiaa.P
open Go.RowKit Go.Proofs.YtafoplpaoahdiaaW.PrintWords Go.Proofs.YtafoplpaoahdiaaW.PrintLast Go.Proofs.YtafoplpaoahdiaaW.PrintMore
attribute [local go_sem] max2_int min2_int max_two min_two max_three min_three max_four min_four   -- for this text's walks alone
set_option linter.unusedVariables false
set_option linter.unusedSimpArgs false

def paygen_Deck_Next.f (s0_0 : List Int) (s0_1 : Int) (a1 : Int) : Option (Int × Int) := if s0_1 < (s0_0.length : Int) then (if 0 ≤ s0_1 then (if a1 = 0 then (none) else (if (Int.tmod (rd s0_0 s0_1) a1) < 0 then (some (wrap64 ((Int.tmod (rd s0_0 s0_1) a1) + a1), wrap64 (s0_1 + 1))) else (some (Int.tmod (rd s0_0 s0_1) a1, wrap64 (s0_1 + 1))))) else (none)) else (if a1 = 0 then (none) else (if (Int.tmod (wrap64 ((wrap64 (5 * s0_1)) + 2)) a1) < 0 then (some (wrap64 ((Int.tmod (wrap64 ((wrap64 (5 * s0_1)) + 2)) a1) + a1), wrap64 (s0_1 + 1))) else (some (Int.tmod (wrap64 ((wrap64 (5 * s0_1)) + 2)) a1, wrap64 (s0_1 + 1)))))
set_option maxHeartbeats 8000000 in
set_option maxRecDepth 100000 in
theorem paygen_Deck_Next.calls (g : Nat) (s0_0 : List Int) (s0_1 : Int) (a1 : Int) (r1 : Int) (r2 : Int) (w0 w : World) (hI : IsS56 w0 w g s0_0 s0_1) (hB : Below w0.heap.size w0 w) (h : paygen_Deck_Next.f s0_0 s0_1 a1 = some (r1, r2)) :
  Calls Try.prog 15 #[.pointer (some ⟨g, 0, none⟩), .int .i64 a1] w fun e w' => e = .returned (.int .i64 r1) ∧ IsS56 w0 w' g s0_0 r2 ∧ Below w0.heap.size w0 w' ∧ KeepBut w w' g none := by
 have HI0 := Aside0.mk hI
 have HK := Aside0.mk (KeepBut.refl w g none)
 have HL := Aside0.mk hB.size
 clear hI
 have HW0 := Aside0.mk hB.size
 have HB := Aside0.mk hB
 clear hB
 have H : (if s0_1 < (s0_0.length : Int) then (if 0 ≤ s0_1 then (if a1 = 0 then (none) else (if (Int.tmod (rd s0_0 s0_1) a1) < 0 then (some (wrap64 ((Int.tmod (rd s0_0 s0_1) a1) + a1), wrap64 (s0_1 + 1))) else (some (Int.tmod (rd s0_0 s0_1) a1, wrap64 (s0_1 + 1))))) else (none)) else (if a1 = 0 then (none) else (if (Int.tmod (wrap64 ((wrap64 (5 * s0_1)) + 2)) a1) < 0 then (some (wrap64 ((Int.tmod (wrap64 ((wrap64 (5 * s0_1)) + 2)) a1) + a1), wrap64 (s0_1 + 1))) else (some (Int.tmod (wrap64 ((wrap64 (5 * s0_1)) + 2)) a1, wrap64 (s0_1 + 1)))))) = some (r1, r2) := h
 clear h
 by_cases c3 : s0_1 < (s0_0.length : Int)
 ·
  rw [if_pos c3] at H
  have c3b0 : decide (s0_1 < (s0_0.length : Int)) = true := decide_eq_true c3
  clear c3
  by_cases c4 : 0 ≤ s0_1
  ·
   rw [if_pos c4] at H
   have c4b0 : decide (0 ≤ s0_1) = true := decide_eq_true c4
   clear c4
   by_cases c5 : a1 = 0
   ·
    rw [if_pos c5] at H
    exact absurd H (by simp)
   ·
    rw [if_neg c5] at H
    have c5b0 : (a1 == 0) = false := beq_eq_false_iff_ne.mpr c5
    have c5b1 : (a1 != 0) = true := bne_iff_ne.mpr c5
    by_cases c6 : (Int.tmod (rd s0_0 s0_1) a1) < 0
    ·
     rw [if_pos c6] at H
     have c6b0 : decide ((Int.tmod (rd s0_0 s0_1) a1) < 0) = true := decide_eq_true c6
     clear c6
     simp only [Option.some.injEq, Prod.mk.injEq] at H
     obtain ⟨rfl, rfl⟩ := H
     obtain ⟨ASz7_0, cSz7_0, HGz7, hgz7, HSz7_0⟩ := HI0.out
     have hcz7_0 := cellS56_0 HGz7
     have hcz7_1 := cellS56_1 HGz7
     have hfz7_1 := blk_frozen HGz7 1
     clear HGz7 hgz7
     have p162 : 0 ≤ (s0_1 : Int) := of_decide_eq_true (by first | (with_reducible assumption) | assumption)
     have q162 : s0_1 < (s0_0.length : Int) := of_decide_eq_true (by first | (with_reducible assumption) | assumption)
     obtain ⟨ad162, e162, hx162_0⟩ := Kd.at_int HSz7_0 s0_1 p162 q162
     cases e162
     replace hx162_0 := pw_cell_below HB.out hx162_0
     replace p162 := eq_true p162
     replace q162 := eq_true q162
     go_enter Try.func15, Try.ntmps15
     go_wp2
     repeat (go_quiet (fail); try go_wp2)
     go_ret
     exact ⟨by first | rfl | (simp [errW_none, errW_some] <;> rfl) | (simp [*, errW_none, errW_some] <;> rfl), by repeat (first | (with_reducible first | exact HI0.out | apply IsS56.alloc | apply IsS56.drewN | apply IsS56.drew | apply IsS56.set_1) | exact HI0.out), by repeat (first | (with_reducible first | exact HB.out | apply below_alloc | apply pw_below_drewN | apply below_drew1 | refine below_set ?_ (IsS56.ge HI0.out)) | exact HB.out), by repeat (first | (with_reducible first | exact HK.out | apply KeepBut.set_ | apply keep_drewN | apply keep_drew | apply keep_alloc) | exact HK.out)⟩
    ·
     rw [if_neg c6] at H
     have c6b0 : decide ((Int.tmod (rd s0_0 s0_1) a1) < 0) = false := decide_eq_false c6
     clear c6
     simp only [Option.some.injEq, Prod.mk.injEq] at H
     obtain ⟨rfl, rfl⟩ := H
     obtain ⟨ASz8_0, cSz8_0, HGz8, hgz8, HSz8_0⟩ := HI0.out
     have hcz8_0 := cellS56_0 HGz8
     have hcz8_1 := cellS56_1 HGz8
     have hfz8_1 := blk_frozen HGz8 1
     clear HGz8 hgz8
     have p162 : 0 ≤ (s0_1 : Int) := of_decide_eq_true (by first | (with_reducible assumption) | assumption)
     have q162 : s0_1 < (s0_0.length : Int) := of_decide_eq_true (by first | (with_reducible assumption) | assumption)
     obtain ⟨ad162, e162, hx162_0⟩ := Kd.at_int HSz8_0 s0_1 p162 q162
     cases e162
     replace hx162_0 := pw_cell_below HB.out hx162_0
     replace p162 := eq_true p162
     replace q162 := eq_true q162
     go_enter Try.func15, Try.ntmps15
     go_wp2
     repeat (go_quiet (fail); try go_wp2)
     go_ret
     exact ⟨by first | rfl | (simp [errW_none, errW_some] <;> rfl) | (simp [*, errW_none, errW_some] <;> rfl), by repeat (first | (with_reducible first | exact HI0.out | apply IsS56.alloc | apply IsS56.drewN | apply IsS56.drew | apply IsS56.set_1) | exact HI0.out), by repeat (first | (with_reducible first | exact HB.out | apply below_alloc | apply pw_below_drewN | apply below_drew1 | refine below_set ?_ (IsS56.ge HI0.out)) | exact HB.out), by repeat (first | (with_reducible first | exact HK.out | apply KeepBut.set_ | apply keep_drewN | apply keep_drew | apply keep_alloc) | exact HK.out)⟩
  ·
   rw [if_neg c4] at H
   exact absurd H (by simp)
 ·
  rw [if_neg c3] at H
  have c3b0 : decide (s0_1 < (s0_0.length : Int)) = false := decide_eq_false c3
  clear c3
  by_cases c9 : a1 = 0
  ·
   rw [if_pos c9] at H
   exact absurd H (by simp)
  ·
   rw [if_neg c9] at H
   have c9b0 : (a1 == 0) = false := beq_eq_false_iff_ne.mpr c9
   have c9b1 : (a1 != 0) = true := bne_iff_ne.mpr c9
   by_cases c10 : (Int.tmod (wrap64 ((wrap64 (5 * s0_1)) + 2)) a1) < 0
   ·
    rw [if_pos c10] at H
    have c10b0 : decide ((Int.tmod (wrap64 ((wrap64 (5 * s0_1)) + 2)) a1) < 0) = true := decide_eq_true c10
    clear c10
    simp only [Option.some.injEq, Prod.mk.injEq] at H
    obtain ⟨rfl, rfl⟩ := H
    obtain ⟨ASz11_0, cSz11_0, HGz11, hgz11, HSz11_0⟩ := HI0.out
    have hcz11_0 := cellS56_0 HGz11
    have hcz11_1 := cellS56_1 HGz11
    have hfz11_1 := blk_frozen HGz11 1
    clear HGz11 hgz11
    go_enter Try.func15, Try.ntmps15
    go_wp2
    repeat (go_quiet (fail); try go_wp2)
    go_ret
    exact ⟨by first | rfl | (simp [errW_none, errW_some] <;> rfl) | (simp [*, errW_none, errW_some] <;> rfl), by repeat (first | (with_reducible first | exact HI0.out | apply IsS56.alloc | apply IsS56.drewN | apply IsS56.drew | apply IsS56.set_1) | exact HI0.out), by repeat (first | (with_reducible first | exact HB.out | apply below_alloc | apply pw_below_drewN | apply below_drew1 | refine below_set ?_ (IsS56.ge HI0.out)) | exact HB.out), by repeat (first | (with_reducible first | exact HK.out | apply KeepBut.set_ | apply keep_drewN | apply keep_drew | apply keep_alloc) | exact HK.out)⟩
   ·
    rw [if_neg c10] at H
    have c10b0 : decide ((Int.tmod (wrap64 ((wrap64 (5 * s0_1)) + 2)) a1) < 0) = false := decide_eq_false c10
    clear c10
    simp only [Option.some.injEq, Prod.mk.injEq] at H
    obtain ⟨rfl, rfl⟩ := H
    obtain ⟨ASz12_0, cSz12_0, HGz12, hgz12, HSz12_0⟩ := HI0.out
    have hcz12_0 := cellS56_0 HGz12
    have hcz12_1 := cellS56_1 HGz12
    have hfz12_1 := blk_frozen HGz12 1
    clear HGz12 hgz12
    go_enter Try.func15, Try.ntmps15
    go_wp2
    repeat (go_quiet (fail); try go_wp2)
    go_ret
    exact ⟨by first | rfl | (simp [errW_none, errW_some] <;> rfl) | (simp [*, errW_none, errW_some] <;> rfl), by repeat (first | (with_reducible first | exact HI0.out | apply IsS56.alloc | apply IsS56.drewN | apply IsS56.drew | apply IsS56.set_1) | exact HI0.out), by repeat (first | (with_reducible first | exact HB.out | apply below_alloc | apply pw_below_drewN | apply below_drew1 | refine below_set ?_ (IsS56.ge HI0.out)) | exact HB.out), by repeat (first | (with_reducible first | exact HK.out | apply KeepBut.set_ | apply keep_drewN | apply keep_drew | apply keep_alloc) | exact HK.out)⟩

end Go.Proofs.Ytafoplpaoahdiaa.P
