/- Proved here: that the Go function payrolllaw29_BracketValid computes the plain function of that name (the machine side of the laws, reworked from a print; no condition of its own). -/
import Derived.Test.YtafoplpaoahdiaaProg
import Derived.Test.YtafoplpaoahdiaaV1
import Derived.Test.YtafoplpaoahdiaaFPRE0
import Derived.Test.YtafoplpaoahdiaaFPRE1
import Derived.Test.YtafoplpaoahdiaaFbracketValid
import Derived.Test.YtafoplpaoahdiaaFpayrolllaw29awake
import Derived.Test.YtafoplpaoahdiaaFPRE3
import Derived.Test.YtafoplpaoahdiaaFpaygenNew
import Derived.Test.YtafoplpaoahdiaaFpaygenDeckNext
import Derived.Test.YtafoplpaoahdiaaFpaygenDeckBrackets
import Derived.Test.YtafoplpaoahdiaaFpaygenMod
import Derived.Test.YtafoplpaoahdiaaFpayrollref29Valid
namespace Go.Proofs.Ytafoplpaoahdiaa.P
open Go.RowKit Go.Proofs.YtafoplpaoahdiaaW.PrintWords Go.Proofs.YtafoplpaoahdiaaW.PrintLast Go.Proofs.YtafoplpaoahdiaaW.PrintMore
attribute [local go_sem] max2_int min2_int max_two min_two max_three min_three max_four min_four   -- for this text's walks alone
set_option linter.unusedVariables false
set_option linter.unusedSimpArgs false

def payrolllaw29_BracketValid.j0 : Nat → List (S30) → List (S30) → Option (Bool)
 | 0, _, _ => none
 | k + 1, x0, x8 => (bracket_Valid.f k x0).bind fun t239 => ((payrollref29_Valid.f k x0).bind fun t240 => (if (t239 == t240) = true then ((bracket_Valid.f k x8).bind fun t241 => ((payrollref29_Valid.f k x8).bind fun t242 => (if (t241 == t242) = true then ((payrolllaw29_awake.f k).bind fun t243 => (some t243)) else (some false)))) else (some false)))
def payrolllaw29_BracketValid.f (k : Nat) (l0 : List (S30)) (l1 : List Int) (a2 : Int) : Option (Bool) := if (l0.length : Int) > 30 then ((payrolllaw29_awake.f k).bind fun t215 => (some t215)) else ((paygen_New.f l1).bind fun bt216 => ((paygen_Deck_Brackets.f k bt216.1 bt216.2 false).bind fun bt219 => ((paygen_Deck_Next.f bt216.1 bt219.2 (bt219.1.length : Int)).bind fun bt223 => (if 0 ≤ bt223.1 then (if bt223.1 < (bt219.1.length : Int) then ((paygen_Deck_Next.f bt216.1 bt223.2 2).bind fun bt225 => (if bt225.1 = 0 then ((some (([(-1), 0, 1000000, 1000001] : List Int) : List Int)).bind fun y227 => ((paygen_Mod.f a2 4).bind fun t230 => (if 0 ≤ t230 then (if t230 < (y227.length : Int) then (if 0 ≤ bt223.1 then (if bt223.1 < (bt219.1.length : Int) then (payrolllaw29_BracketValid.j0 k l0 (bt219.1.set (bt223.1 : Int).toNat (⟨(rd_T30 bt219.1 bt223.1).f0, rd y227 t230⟩ : S30))) else (none)) else (none)) else (none)) else (none)))) else ((some (([(-1), 0, 1, 1000000000000, 1000000000001] : List Int) : List Int)).bind fun y233 => ((paygen_Mod.f a2 5).bind fun t236 => (if 0 ≤ t236 then (if t236 < (y233.length : Int) then (if 0 ≤ bt223.1 then (if bt223.1 < (bt219.1.length : Int) then (payrolllaw29_BracketValid.j0 k l0 (bt219.1.set (bt223.1 : Int).toNat (⟨rd y233 t236, (rd_T30 bt219.1 bt223.1).f1⟩ : S30))) else (none)) else (none)) else (none)) else (none)))))) else (none)) else (none)))))
theorem payrolllaw29_BracketValid.mono_l : ∀ k, (∀ y0 y1, LeO (payrolllaw29_BracketValid.j0 k y0 y1) (payrolllaw29_BracketValid.j0 (k + 1) y0 y1))
 | 0 => fun _ _ r h => by simp [payrolllaw29_BracketValid.j0] at h
 | k + 1 => by
  have ih0 := payrolllaw29_BracketValid.mono_l k
  ·
   intro y0 y1
   unfold payrolllaw29_BracketValid.j0
   repeat' first
   | (with_reducible exact ih0 _ _)
   | (with_reducible exact bracket_Valid.mono _ _)
   | (with_reducible exact paygen_Deck_Brackets.mono _ _ _ _)
   | (with_reducible exact payrolllaw29_awake.mono _)
   | (with_reducible exact payrollref29_Valid.mono _ _)
   | (with_reducible exact LeO.refl _)
   | (with_reducible exact LeO.none _)
   | (with_reducible refine LeO.ite ?_ ?_)
   | (with_reducible refine LeO.bind ?_ (fun _ => ?_))
   | exact ih0 _ _
   | exact bracket_Valid.mono _ _
   | exact paygen_Deck_Brackets.mono _ _ _ _
   | exact payrolllaw29_awake.mono _
   | exact payrollref29_Valid.mono _ _
   | exact LeO.none _
   | refine LeO.ite ?_ ?_
   | refine LeO.bind ?_ (fun _ => ?_)
theorem payrolllaw29_BracketValid.mono : ∀ a0 a1 a2 k, LeO (payrolllaw29_BracketValid.f k a0 a1 a2) (payrolllaw29_BracketValid.f (k + 1) a0 a1 a2) := by
 intro a0 a1 a2 k
 have ih0 := payrolllaw29_BracketValid.mono_l k
 unfold payrolllaw29_BracketValid.f
 repeat' first
   | (with_reducible exact ih0 _ _)
   | (with_reducible exact bracket_Valid.mono _ _)
   | (with_reducible exact paygen_Deck_Brackets.mono _ _ _ _)
   | (with_reducible exact payrolllaw29_awake.mono _)
   | (with_reducible exact payrollref29_Valid.mono _ _)
   | (with_reducible exact LeO.refl _)
   | (with_reducible exact LeO.none _)
   | (with_reducible refine LeO.ite ?_ ?_)
   | (with_reducible refine LeO.bind ?_ (fun _ => ?_))
   | exact ih0 _ _
   | exact bracket_Valid.mono _ _
   | exact paygen_Deck_Brackets.mono _ _ _ _
   | exact payrolllaw29_awake.mono _
   | exact payrollref29_Valid.mono _ _
   | exact LeO.none _
   | refine LeO.ite ?_ ?_
   | refine LeO.bind ?_ (fun _ => ?_)
set_option maxHeartbeats 8000000 in
set_option maxRecDepth 100000 in
theorem payrolllaw29_BracketValid.calls (k : Nat) (A0 : Option Addr) (c0 : Nat) (l0 : List (S30)) (A1 : Option Addr) (c1 : Nat) (l1 : List Int) (a2 : Int) (r : Bool) (w : World) (hr0 : Kd.C k30 w A0 l0.length l0) (hc0 : l0.length ≤ c0) (hr1 : Kd.C (Kd.int .i64) w A1 l1.length l1) (hc1 : l1.length ≤ c1) (h : payrolllaw29_BracketValid.f k l0 l1 a2 = some r) :
  Calls Try.prog 3 #[.slice A0 l0.length c0, .slice A1 l1.length c1, .int .i64 a2] w fun e w' => e = .returned (.bool r) ∧ Below w.heap.size w w' := by
 have HR0 := Aside0.mk hr0
 have HC0 := Aside0.mk hc0
 clear hr0 hc0
 have HR1 := Aside0.mk hr1
 have HC1 := Aside0.mk hc1
 clear hr1 hc1
 have HB := Aside0.mk (Below.refl w.heap.size w)
 have H : (if (l0.length : Int) > 30 then ((payrolllaw29_awake.f k).bind fun t215 => (some t215)) else ((paygen_New.f l1).bind fun bt216 => ((paygen_Deck_Brackets.f k bt216.1 bt216.2 false).bind fun bt219 => ((paygen_Deck_Next.f bt216.1 bt219.2 (bt219.1.length : Int)).bind fun bt223 => (if 0 ≤ bt223.1 then (if bt223.1 < (bt219.1.length : Int) then ((paygen_Deck_Next.f bt216.1 bt223.2 2).bind fun bt225 => (if bt225.1 = 0 then ((some (([(-1), 0, 1000000, 1000001] : List Int) : List Int)).bind fun y227 => ((paygen_Mod.f a2 4).bind fun t230 => (if 0 ≤ t230 then (if t230 < (y227.length : Int) then (if 0 ≤ bt223.1 then (if bt223.1 < (bt219.1.length : Int) then (payrolllaw29_BracketValid.j0 k l0 (bt219.1.set (bt223.1 : Int).toNat (⟨(rd_T30 bt219.1 bt223.1).f0, rd y227 t230⟩ : S30))) else (none)) else (none)) else (none)) else (none)))) else ((some (([(-1), 0, 1, 1000000000000, 1000000000001] : List Int) : List Int)).bind fun y233 => ((paygen_Mod.f a2 5).bind fun t236 => (if 0 ≤ t236 then (if t236 < (y233.length : Int) then (if 0 ≤ bt223.1 then (if bt223.1 < (bt219.1.length : Int) then (payrolllaw29_BracketValid.j0 k l0 (bt219.1.set (bt223.1 : Int).toNat (⟨rd y233 t236, (rd_T30 bt219.1 bt223.1).f1⟩ : S30))) else (none)) else (none)) else (none)) else (none)))))) else (none)) else (none)))))) = some r := h
 clear h
 by_cases c4 : (l0.length : Int) > 30
 ·
  rw [if_pos c4] at H
  have c4b0 : decide (30 < (l0.length : Int)) = true := decide_eq_true c4
  have c4b1 : decide (30 < l0.length) = true := decide_eq_true (by omega)
  clear c4
  replace H := Option.bind_eq_some_iff.mp H
  obtain ⟨t215, A50, H⟩ := H
  replace H : (some t215) = some r := H
  have A5 := Aside0.mk A50
  clear A50
  obtain rfl := Option.some.inj H
  go_enter Try.func3, Try.ntmps3
  go_wp2_with (first | ((with_reducible refine gate_callee (f := 12) rfl ?_); refine goesL_ (some 13) rfl rfl Try.func12 (by kernel_rfl) rfl #[] rfl (by (try simp only [List.map_toArray, List.map_cons, List.map_nil]); first | done | rfl | (simp only [List.length_drop, List.length_take]; rfl)) ?_; (with_reducible refine (payrolllaw29_awake.calls k  t215 _ A5.out).mono ?_); rintro e w6 ⟨rfl, hb⟩; refine ⟨_, rfl, ?_⟩; have n0_ := Aside0.mk (below_step (by repeat (first | (with_reducible first | exact HB.out | apply below_alloc | apply pw_below_drewN | apply below_drew1) | exact HB.out)) hb); clear HB; have HB := n0_; clear n0_; (try clear hb); (try clear hb2); (try clear hk); (try clear hi)))
  go_ret
  exact ⟨by first | rfl | (simp [errW_none, errW_some] <;> rfl) | (simp [*, errW_none, errW_some] <;> rfl), by repeat (first | (with_reducible first | exact HB.out | apply below_alloc | apply pw_below_drewN | apply below_drew1) | exact HB.out)⟩
 ·
  rw [if_neg c4] at H
  have c4b0 : decide (30 < (l0.length : Int)) = false := decide_eq_false c4
  have c4b1 : decide (30 < l0.length) = false := decide_eq_false (by omega)
  clear c4
  replace H := Option.bind_eq_some_iff.mp H
  obtain ⟨⟨t216, t217⟩, A70, H⟩ := H
  replace H : ((paygen_Deck_Brackets.f k t216 t217 false).bind fun bt219 => ((paygen_Deck_Next.f t216 bt219.2 (bt219.1.length : Int)).bind fun bt223 => (if 0 ≤ bt223.1 then (if bt223.1 < (bt219.1.length : Int) then ((paygen_Deck_Next.f t216 bt223.2 2).bind fun bt225 => (if bt225.1 = 0 then ((some (([(-1), 0, 1000000, 1000001] : List Int) : List Int)).bind fun y227 => ((paygen_Mod.f a2 4).bind fun t230 => (if 0 ≤ t230 then (if t230 < (y227.length : Int) then (if 0 ≤ bt223.1 then (if bt223.1 < (bt219.1.length : Int) then (payrolllaw29_BracketValid.j0 k l0 (bt219.1.set (bt223.1 : Int).toNat (⟨(rd_T30 bt219.1 bt223.1).f0, rd y227 t230⟩ : S30))) else (none)) else (none)) else (none)) else (none)))) else ((some (([(-1), 0, 1, 1000000000000, 1000000000001] : List Int) : List Int)).bind fun y233 => ((paygen_Mod.f a2 5).bind fun t236 => (if 0 ≤ t236 then (if t236 < (y233.length : Int) then (if 0 ≤ bt223.1 then (if bt223.1 < (bt219.1.length : Int) then (payrolllaw29_BracketValid.j0 k l0 (bt219.1.set (bt223.1 : Int).toNat (⟨rd y233 t236, (rd_T30 bt219.1 bt223.1).f1⟩ : S30))) else (none)) else (none)) else (none)) else (none)))))) else (none)) else (none)))) = some r := H
  have A7 := Aside0.mk A70
  clear A70
  replace H := Option.bind_eq_some_iff.mp H
  obtain ⟨⟨t219, t222⟩, A80, H⟩ := H
  replace H : ((paygen_Deck_Next.f t216 t222 (t219.length : Int)).bind fun bt223 => (if 0 ≤ bt223.1 then (if bt223.1 < (t219.length : Int) then ((paygen_Deck_Next.f t216 bt223.2 2).bind fun bt225 => (if bt225.1 = 0 then ((some (([(-1), 0, 1000000, 1000001] : List Int) : List Int)).bind fun y227 => ((paygen_Mod.f a2 4).bind fun t230 => (if 0 ≤ t230 then (if t230 < (y227.length : Int) then (if 0 ≤ bt223.1 then (if bt223.1 < (t219.length : Int) then (payrolllaw29_BracketValid.j0 k l0 (t219.set (bt223.1 : Int).toNat (⟨(rd_T30 t219 bt223.1).f0, rd y227 t230⟩ : S30))) else (none)) else (none)) else (none)) else (none)))) else ((some (([(-1), 0, 1, 1000000000000, 1000000000001] : List Int) : List Int)).bind fun y233 => ((paygen_Mod.f a2 5).bind fun t236 => (if 0 ≤ t236 then (if t236 < (y233.length : Int) then (if 0 ≤ bt223.1 then (if bt223.1 < (t219.length : Int) then (payrolllaw29_BracketValid.j0 k l0 (t219.set (bt223.1 : Int).toNat (⟨rd y233 t236, (rd_T30 t219 bt223.1).f1⟩ : S30))) else (none)) else (none)) else (none)) else (none)))))) else (none)) else (none))) = some r := H
  have A8 := Aside0.mk A80
  clear A80
  replace H := Option.bind_eq_some_iff.mp H
  obtain ⟨⟨t223, t224⟩, A90, H⟩ := H
  replace H : (if 0 ≤ t223 then (if t223 < (t219.length : Int) then ((paygen_Deck_Next.f t216 t224 2).bind fun bt225 => (if bt225.1 = 0 then ((some (([(-1), 0, 1000000, 1000001] : List Int) : List Int)).bind fun y227 => ((paygen_Mod.f a2 4).bind fun t230 => (if 0 ≤ t230 then (if t230 < (y227.length : Int) then (if 0 ≤ t223 then (if t223 < (t219.length : Int) then (payrolllaw29_BracketValid.j0 k l0 (t219.set (t223 : Int).toNat (⟨(rd_T30 t219 t223).f0, rd y227 t230⟩ : S30))) else (none)) else (none)) else (none)) else (none)))) else ((some (([(-1), 0, 1, 1000000000000, 1000000000001] : List Int) : List Int)).bind fun y233 => ((paygen_Mod.f a2 5).bind fun t236 => (if 0 ≤ t236 then (if t236 < (y233.length : Int) then (if 0 ≤ t223 then (if t223 < (t219.length : Int) then (payrolllaw29_BracketValid.j0 k l0 (t219.set (t223 : Int).toNat (⟨rd y233 t236, (rd_T30 t219 t223).f1⟩ : S30))) else (none)) else (none)) else (none)) else (none)))))) else (none)) else (none)) = some r := H
  have z21 : 0 ≤ t223 := by
   by_cases z : 0 ≤ t223
   · exact z
   · rw [if_neg z] at H; exact absurd H (by simp)
  rw [if_pos z21] at H
  have z22 : t223 < (t219.length : Int) := by
   by_cases z : t223 < (t219.length : Int)
   · exact z
   · rw [if_neg z] at H; exact absurd H (by simp)
  rw [if_pos z22] at H
  have p23 := eq_true z21
  have q23 := eq_true z22
  have A9 := Aside0.mk A90
  clear A90
  replace H := Option.bind_eq_some_iff.mp H
  obtain ⟨⟨t225, t226⟩, A100, H⟩ := H
  replace H : (if t225 = 0 then ((some (([(-1), 0, 1000000, 1000001] : List Int) : List Int)).bind fun y227 => ((paygen_Mod.f a2 4).bind fun t230 => (if 0 ≤ t230 then (if t230 < (y227.length : Int) then (if 0 ≤ t223 then (if t223 < (t219.length : Int) then (payrolllaw29_BracketValid.j0 k l0 (t219.set (t223 : Int).toNat (⟨(rd_T30 t219 t223).f0, rd y227 t230⟩ : S30))) else (none)) else (none)) else (none)) else (none)))) else ((some (([(-1), 0, 1, 1000000000000, 1000000000001] : List Int) : List Int)).bind fun y233 => ((paygen_Mod.f a2 5).bind fun t236 => (if 0 ≤ t236 then (if t236 < (y233.length : Int) then (if 0 ≤ t223 then (if t223 < (t219.length : Int) then (payrolllaw29_BracketValid.j0 k l0 (t219.set (t223 : Int).toNat (⟨rd y233 t236, (rd_T30 t219 t223).f1⟩ : S30))) else (none)) else (none)) else (none)) else (none))))) = some r := H
  have A10 := Aside0.mk A100
  clear A100
  have HC11 := Aside0.mk H
  clear H
  go_enter Try.func3, Try.ntmps3
  go_upto_if 26 with (first | ((with_reducible refine gate_callee (f := 13) rfl ?_); refine goesL_ (some 15) rfl rfl Try.func13 (by kernel_rfl) rfl #[.slice A1 l1.length c1] rfl (by (try simp only [List.map_toArray, List.map_cons, List.map_nil]); first | done | rfl | (simp only [List.length_drop, List.length_take]; rfl)) ?_; (with_reducible refine (paygen_New.calls _ _ l1 t216 t217 w _ ?side1 ?side2 ?side3 A7.out).mono ?_); (case side1 => repeat (first | (with_reducible first | exact HB.out | apply below_alloc | apply pw_below_drewN | apply below_drew1) | exact HB.out)); (case side2 => exact HR1.out); (case side3 => exact HC1.out); rintro e w12 ⟨g218, rfl, hi, hb, hb2⟩; refine ⟨_, rfl, ?_⟩; have n0_ := Aside0.mk (hb); have n1_ := Aside0.mk (hi); clear HB; have HB := n0_; have HI218 := n1_; clear n0_ n1_; (try clear hb); (try clear hb2); (try clear hk); (try clear hi)) | ((with_reducible refine gate_callee (f := 14) rfl ?_); refine goesL_ (some 17) rfl rfl Try.func14 (by kernel_rfl) rfl #[.pointer (some ⟨g218, 0, none⟩), .bool false] rfl (by (try simp only [List.map_toArray, List.map_cons, List.map_nil]); first | done | rfl | (simp only [List.length_drop, List.length_take]; rfl)) ?_; (with_reducible refine (paygen_Deck_Brackets.calls k g218 t216 t217 false t219 t222 w _ ?side1 ?side2 A8.out).mono ?_); (case side1 => repeat (first | (with_reducible first | exact HI218.out | apply IsS56.alloc | apply IsS56.drewN | apply IsS56.drew | apply IsS56.set_1) | exact HI218.out)); (case side2 => repeat (first | (with_reducible first | exact HB.out | apply below_alloc | apply pw_below_drewN | apply below_drew1 | refine below_set ?_ (IsS56.ge HI218.out)) | exact HB.out)); rintro e w13 ⟨v220, rfl, ho0, hi, hb, hk⟩; refine ⟨_, rfl, ?_⟩; have n0_ := Aside0.mk (Kd.R_lower ho0 (below_size (by repeat (first | (with_reducible first | exact HB.out | apply below_alloc | apply pw_below_drewN | apply below_drew1 | refine below_set ?_ (IsS56.ge HI218.out)) | exact HB.out)))); have n1_ := Aside0.mk (hb); have n2_ := Aside0.mk (hi); clear HB; clear HI218; have HO221 := n0_; have HB := n1_; have HI218 := n2_; clear n0_ n1_ n2_; (try clear hb); (try clear hb2); (try clear hk); (try clear hi); (try clear ho0); obtain ⟨Ao14, co14, eo14⟩ := Kd.R_slice HO221.out; subst eo14) | ((with_reducible refine gate_callee (f := 15) rfl ?_); refine goesL_ (some 22) rfl rfl Try.func15 (by kernel_rfl) rfl #[.pointer (some ⟨g218, 0, none⟩), .int .i64 (t219.length : Int)] rfl (by (try simp only [List.map_toArray, List.map_cons, List.map_nil]); first | done | rfl | (simp only [List.length_drop, List.length_take]; rfl)) ?_; (with_reducible refine (paygen_Deck_Next.calls g218 t216 t222 (t219.length : Int) t223 t224 w _ ?side1 ?side2 A9.out).mono ?_); (case side1 => repeat (first | (with_reducible first | exact HI218.out | apply IsS56.alloc | apply IsS56.drewN | apply IsS56.drew | apply IsS56.set_1) | exact HI218.out)); (case side2 => repeat (first | (with_reducible first | exact HB.out | apply below_alloc | apply pw_below_drewN | apply below_drew1 | refine below_set ?_ (IsS56.ge HI218.out)) | exact HB.out)); rintro e w15 ⟨rfl, hi, hb, hk⟩; refine ⟨_, rfl, ?_⟩; have n0_ := Aside0.mk (Kd.R_mono (Kd.R_keep (IsS56.apart (show IsS56 w _ g218 t216 t222 from by repeat (first | (with_reducible first | exact HI218.out | apply IsS56.alloc | apply IsS56.drewN | apply IsS56.drew | apply IsS56.set_1) | exact HI218.out)) (by (with_reducible repeat (first | apply Kd.R_alloc | apply Kd.R_drewN | apply Kd.R_drew)); exact HO221.out) (by decide)) hk (fun _ h => h.2)) (fun _ h => h.1)); have n1_ := Aside0.mk (hb); have n2_ := Aside0.mk (hi); clear HO221; clear HB; clear HI218; have HO221 := n0_; have HB := n1_; have HI218 := n2_; clear n0_ n1_ n2_; (try clear hb); (try clear hb2); (try clear hk); (try clear hi); obtain ⟨go23, co23, eo23, gb23, gl23, cl23, HG23⟩ := Kd.R_form HO221.out (by omega); (first | cases eo23 | (injection eo23 with ea_ en_ ec_; (first | subst ea_ | (injection ea_ with ea_; subst ea_)); subst ec_; clear en_)); have GB23 := Aside0.mk gb23; clear gb23 gl23 HG23) | ((with_reducible refine gate_callee (f := 15) rfl ?_); refine goesL_ (some 25) rfl rfl Try.func15 (by kernel_rfl) rfl #[.pointer (some ⟨g218, 0, none⟩), .int .i64 2] rfl (by (try simp only [List.map_toArray, List.map_cons, List.map_nil]); first | done | rfl | (simp only [List.length_drop, List.length_take]; rfl)) ?_; (with_reducible refine (paygen_Deck_Next.calls g218 t216 t224 2 t225 t226 w _ ?side1 ?side2 A10.out).mono ?_); (case side1 => repeat (first | (with_reducible first | exact HI218.out | apply IsS56.alloc | apply IsS56.drewN | apply IsS56.drew | apply IsS56.set_1) | exact HI218.out)); (case side2 => repeat (first | (with_reducible first | exact HB.out | apply below_alloc | apply pw_below_drewN | apply below_drew1 | refine below_set ?_ (IsS56.ge HI218.out)) | exact HB.out)); rintro e w16 ⟨rfl, hi, hb, hk⟩; refine ⟨_, rfl, ?_⟩; have n0_ := Aside0.mk (Kd.R_mono (Kd.R_keep (IsS56.apart (show IsS56 w _ g218 t216 t224 from by repeat (first | (with_reducible first | exact HI218.out | apply IsS56.alloc | apply IsS56.drewN | apply IsS56.drew | apply IsS56.set_1) | exact HI218.out)) (by (with_reducible repeat (first | apply Kd.R_alloc | apply Kd.R_drewN | apply Kd.R_drew)); exact HO221.out) (by decide)) hk (fun _ h => h.2)) (fun _ h => h.1)); have n1_ := Aside0.mk (hb); have n2_ := Aside0.mk (hi); clear HO221; clear HB; clear HI218; have HO221 := n0_; have HB := n1_; have HI218 := n2_; clear n0_ n1_ n2_; (try clear hb); (try clear hb2); (try clear hk); (try clear hi)))
  (try simp only [Act.put, List.setIfInBounds_toArray, List.set_cons_zero, List.set_cons_succ])
  go_cut [] (fun wc => ∃ (kq : Nat) (x8_10 : List (S30)), Aside0 (payrolllaw29_BracketValid.j0 kq l0 x8_10 = some r) ∧ Aside0 (kq ≤ k) ∧ Aside0 (Kd.R k30 30 wc w.heap.size (fun _ => True) (.slice (some ⟨go23, 0, none⟩) t219.length co14) x8_10) ∧ Aside0 (Below w.heap.size w wc))
  case first =>
   have H := HC11.out
   clear HC11
   by_cases c17 : t225 = 0
   ·
    rw [if_pos c17] at H
    have c17b0 : (t225 == 0) = true := beq_iff_eq.mpr c17
    have c17b1 : (t225 != 0) = false := bne_eq_false_iff_eq.mpr c17
    clear c17
    (first | rw [c17b0] | (simp only [i64_w, i32_w]; rw [c17b0]) | skip)
    obtain ⟨y227, hy227⟩ : ∃ y_ : List Int, y_ = (([(-1), 0, 1000000, 1000001] : List Int)) := ⟨_, rfl⟩
    replace H : ((paygen_Mod.f a2 4).bind fun t230 => (if 0 ≤ t230 then (if t230 < (y227.length : Int) then (if 0 ≤ t223 then (if t223 < (t219.length : Int) then (payrolllaw29_BracketValid.j0 k l0 (t219.set (t223 : Int).toNat (⟨(rd_T30 t219 t223).f0, rd y227 t230⟩ : S30))) else (none)) else (none)) else (none)) else (none))) = some r := by first | (rw [hy227]; with_reducible exact H) | (have H2_ := (Option.bind_some _ _).symm.trans H; rw [hy227]; with_reducible exact H2_) | (have H2_ := (Option.bind_some _ _).symm.trans H; with_reducible exact H2_) | with_reducible exact H | (rw [hy227]; exact H) | exact H
    have Ny227 := Aside0.mk hy227
    clear hy227
    replace H := Option.bind_eq_some_iff.mp H
    obtain ⟨t230, A180, H⟩ := H
    replace H : (if 0 ≤ t230 then (if t230 < (y227.length : Int) then (if 0 ≤ t223 then (if t223 < (t219.length : Int) then (payrolllaw29_BracketValid.j0 k l0 (t219.set (t223 : Int).toNat (⟨(rd_T30 t219 t223).f0, rd y227 t230⟩ : S30))) else (none)) else (none)) else (none)) else (none)) = some r := H
    have A18 := Aside0.mk A180
    clear A180
    by_cases c19 : 0 ≤ t230
    ·
     rw [if_pos c19] at H
     have c19b0 : decide (0 ≤ t230) = true := decide_eq_true c19
     clear c19
     by_cases c20 : t230 < (y227.length : Int)
     ·
      rw [if_pos c20] at H
      have c20b0 : decide (t230 < (y227.length : Int)) = true := decide_eq_true c20
      clear c20
      by_cases c21 : 0 ≤ t223
      ·
       rw [if_pos c21] at H
       have c21b0 : decide (0 ≤ t223) = true := decide_eq_true c21
       clear c21
       by_cases c22 : t223 < (t219.length : Int)
       ·
        rw [if_pos c22] at H
        have c22b0 : decide (t223 < (t219.length : Int)) = true := decide_eq_true c22
        clear c22
        obtain ⟨y232, hy232⟩ : ∃ y_ : List (S30), y_ = (t219.set (t223 : Int).toNat (⟨(rd_T30 t219 t223).f0, rd y227 t230⟩ : S30)) := ⟨_, rfl⟩
        replace H : (payrolllaw29_BracketValid.j0 k l0 y232) = some r := by first | (rw [hy232]; with_reducible exact H) | (have H2_ := (Option.bind_some _ _).symm.trans H; rw [hy232]; with_reducible exact H2_) | (have H2_ := (Option.bind_some _ _).symm.trans H; with_reducible exact H2_) | with_reducible exact H | (rw [hy232]; exact H) | exact H
        have Ny232 := Aside0.mk hy232
        clear hy232
        have H' := Aside0.mk H
        clear H
        go_wp2_with (first | ((with_reducible refine gate_dst (N := 28) rfl ?_); refine Kd.R_lit (Kd.int .i64) _ 3 ?hg (N := 28) ?hd (xs := ([(-1), 0, 1000000, 1000001] : List Int)) (inner := [.int .i64 (-1), .int .i64 0, .int .i64 1000000, .int .i64 1000001]) (ok := fun _ => True) (okp := fun _ => True) ?hr ?hp (fun _ hk => hk) trivial (Below.refl _ _) (Nat.le_refl _) (by simp) ?_; (case hd => rfl); (case hg => rfl); (case hr => first | (go_simp; done) | (go_simp; rfl)); (case hp => exact (Reps.one (show Kd.M (Kd.int .i64) _ _ _ (-1) [.int .i64 (-1)] from rfl) (Reps.one (show Kd.M (Kd.int .i64) _ _ _ 0 [.int .i64 0] from rfl) (Reps.one (show Kd.M (Kd.int .i64) _ _ _ 1000000 [.int .i64 1000000] from rfl) (Reps.one (show Kd.M (Kd.int .i64) _ _ _ 1000001 [.int .i64 1000001] from rfl) (Reps.none _ _)))))); intro v228 w24 ho25 hb hg_ hnew_; clear hg_ hnew_; (first | rw [← Ny227.out] at ho25 | (simp only [Int.reduceToNat] at ho25; rw [← Ny227.out] at ho25)); have n0_ := Aside0.mk (Kd.R_below (by (with_reducible repeat (first | apply Kd.R_alloc | apply Kd.R_drewN | apply Kd.R_drew)); exact HO221.out) hb); have n1_ := Aside0.mk (Kd.R_lower ho25 (below_size (by repeat (first | (with_reducible first | exact HB.out | apply below_alloc | apply pw_below_drewN | apply below_drew1 | refine below_set ?_ (IsS56.ge HI218.out)) | exact HB.out)))); have n2_ := Aside0.mk (IsS56.below (by repeat (first | (with_reducible first | exact HI218.out | apply IsS56.alloc | apply IsS56.drewN | apply IsS56.drew | apply IsS56.set_1) | exact HI218.out)) hb); have n3_ := Aside0.mk (below_step (by repeat (first | (with_reducible first | exact HB.out | apply below_alloc | apply pw_below_drewN | apply below_drew1 | refine below_set ?_ (IsS56.ge HI218.out)) | exact HB.out)) hb); clear HO221; clear HI218; clear HB; have HO221 := n0_; have HO229 := n1_; have HI218 := n2_; have HB := n3_; clear n0_ n1_ n2_ n3_; clear hb ho25) | ((with_reducible refine gate_callee (f := 16) rfl ?_); refine goesL_ (some 30) rfl rfl Try.func16 (by kernel_rfl) rfl #[.int .i64 a2, .int .i64 4] rfl (by (try simp only [List.map_toArray, List.map_cons, List.map_nil]); first | done | rfl | (simp only [List.length_drop, List.length_take]; rfl)) ?_; (with_reducible refine (paygen_Mod.calls a2 4 t230 _ A18.out).mono ?_); rintro e w' ⟨rfl, ⟨nd, rfl⟩⟩; refine ⟨_, rfl, ?_⟩; (try (rw [drewN_self w24]; generalize hq_ : World.drewN w24 _ = w24; have n0_ : Aside0 (Kd.R k30 30 w24 w.heap.size (fun _ => True) (.slice (some ⟨go23, 0, none⟩) t219.length co14) t219) := ⟨by rw [← hq_]; exact (by (with_reducible repeat (first | apply Kd.R_alloc | apply Kd.R_drewN | apply Kd.R_drew)); exact HO221.out)⟩; have n1_ : Aside0 (Kd.R (Kd.int .i64) 3 w24 w.heap.size (fun _ => True) v228 y227) := ⟨by rw [← hq_]; exact (by (with_reducible repeat (first | apply Kd.R_alloc | apply Kd.R_drewN | apply Kd.R_drew)); exact HO229.out)⟩; have n2_ : Aside0 (IsS56 w w24 g218 t216 t226) := ⟨by rw [← hq_]; exact (by repeat (first | (with_reducible first | exact HI218.out | apply IsS56.alloc | apply IsS56.drewN | apply IsS56.drew | apply IsS56.set_1) | exact HI218.out))⟩; have n3_ : Aside0 (Below w.heap.size w w24) := ⟨by rw [← hq_]; exact (by repeat (first | (with_reducible first | exact HB.out | apply below_alloc | apply pw_below_drewN | apply below_drew1 | refine below_set ?_ (IsS56.ge HI218.out)) | exact HB.out))⟩; clear HO221 HO229 HI218 HB hq_; have HO221 := n0_; have HO229 := n1_; have HI218 := n2_; have HB := n3_; clear n0_ n1_ n2_ n3_)); obtain ⟨Ao26, co26, eo26⟩ := Kd.R_slice HO229.out; subst eo26; have p231 : 0 ≤ (t230 : Int) := of_decide_eq_true (by first | (with_reducible assumption) | assumption); have q231 : t230 < (y227.length : Int) := of_decide_eq_true (by first | (with_reducible assumption) | assumption); obtain ⟨ad231, e231, hx231_0⟩ := Kd.at_int (Kd.R_reads' HO229.out).2.2 t230 p231 q231; cases e231; replace p231 := eq_true p231; replace q231 := eq_true q231; have p23 : 0 ≤ (t223 : Int) := of_decide_eq_true (by first | (with_reducible assumption) | assumption); have q23 : (t223 : Int) < ((t219.length : Int) : Int) := of_decide_eq_true (by first | (with_reducible assumption) | assumption); obtain ⟨ce23, hcl23, hM23, hcc23, hfr23⟩ := Kd.R_elem HO221.out z30 (t223 : Int) p23 q23; obtain rfl := k30_openM hM23; have hx23_0 : w24.cell? ⟨go23, (t223 : Int).toNat * 2, none⟩ = some (.int .i64 ((rd_T30 t219 t223).f0)) := hcc23 0 _ rfl; have hx23_1 : w24.cell? ⟨go23, (t223 : Int).toNat * 2 + 1, none⟩ = some (.int .i64 ((rd_T30 t219 t223).f1)) := hcc23 1 _ rfl; have hf23_0 : w24.frozen? ⟨go23, (t223 : Int).toNat * 2, none⟩ = false := hfr23 0; have hf23_1 : w24.frozen? ⟨go23, (t223 : Int).toNat * 2 + 1, none⟩ = false := hfr23 1; clear hcl23 hcc23 hfr23 hM23; replace p23 := eq_true p23; replace q23 := eq_true q23; have HX27 := Aside0.mk (show Kd.R k30 30 w24 w.heap.size (fun _ => True) (.slice (some ⟨go23, 0, none⟩) t219.length co14) t219 from (by (with_reducible repeat (first | apply Kd.R_alloc | apply Kd.R_drewN | apply Kd.R_drew)); exact HO221.out)); obtain ⟨ce27, hcl27, hM27, hcc27, hfr27⟩ := Kd.R_elem HX27.out z30 (t223 : Int) (of_decide_eq_true (by first | (with_reducible assumption) | assumption)) (by have h_ : (t223 : Int) < ((t219.length : Int) : Int) := of_decide_eq_true (by first | (with_reducible assumption) | assumption); first | exact h_ | (have e_ := (Kd.R_reads' HO221.out).1; omega) | simpa using h_); obtain rfl := k30_openM hM27; have HP27 := Kd.R_seg HX27.out (t223 : Int) (of_decide_eq_true (by first | (with_reducible assumption) | assumption)) (by have h_ : (t223 : Int) < ((t219.length : Int) : Int) := of_decide_eq_true (by first | (with_reducible assumption) | assumption); first | exact h_ | (have e_ := (Kd.R_reads' HO221.out).1; omega) | simpa using h_) (seg := [.int .i64 (rd y227 t230)]) (j := 1) hcl27 hcc27 (show 2 ≤ 2 from by decide) (x' := (⟨(rd_T30 t219 t223).f0, rd y227 t230⟩ : S30)) (k30_mkM _ _ _ (⟨(rd_T30 t219 t223).f0, rd y227 t230⟩ : S30) ) (fun _ hk => hk); have hx27_1 := hcc27 1 _ rfl; (try simp only [show (k30).sz = 2 from rfl, Nat.mul_one, Nat.add_zero] at hx27_1); have hf27_1 := hfr27 1; (try simp only [show (k30).sz = 2 from rfl, Nat.mul_one, Nat.add_zero] at hf27_1); clear hcl27 hcc27 hfr27 hM27) | ((with_reducible refine gate_store (t := 3) (p := 34) rfl ?_); refine store_event (t := 3) (p := 34) (v := ?vo_w28) (w1 := (w24.setCell ⟨go23, (t223 : Int).toNat * 2 + 1, none⟩ (.int .i64 (rd y227 t230)))) ?hg ?ho ?hn ?hr ?_; (case ho => rfl); (case hg => rfl); (case hn => rfl); (case hr => first | (go_simp; done) | (go_simp; rfl)); intro w28 hw; have hg : w24.grownBy w28 (some go23) := (by rw [hw]; exact HP27.2); have hp_ : Kd.R k30 30 w28 w.heap.size (fun _ => True) (.slice (some ⟨go23, 0, none⟩) t219.length co14) y232 := (by rw [hw, Ny232.out]; exact HP27.1); clear HP27; have n0_ := Aside0.mk (IsS56.grown (by repeat (first | (with_reducible first | exact HI218.out | apply IsS56.alloc | apply IsS56.drewN | apply IsS56.drew | apply IsS56.set_1) | exact HI218.out)) hg (IsS56.own_ne HI218.out HO221.out (by decide))); have n1_ := Aside0.mk (hp_); have n2_ := Aside0.mk (Kd.R_over' (v := (.slice (some ⟨go23, 0, none⟩) t219.length co14)) (by (with_reducible repeat (first | apply Kd.R_alloc | apply Kd.R_drewN | apply Kd.R_drew)); exact HO229.out) (Kd.R_typed HO221.out) (by decide) hg); have n3_ := Aside0.mk ((by rw [hw]; exact below_set (HB.out) GB23.out : Below w.heap.size w w28)); clear HI218; clear HO221; clear HO229; clear HB; have HI218 := n0_; have HO221 := n1_; have HO229 := n2_; have HB := n3_; clear n0_ n1_ n2_ n3_; clear hg hw hp_))
        go_meet
        case rel => exact ⟨_, (y232), H', ⟨by first | omega | exact Nat.le_refl _⟩, ⟨by (with_reducible repeat (first | apply Kd.R_alloc | apply Kd.R_drewN | apply Kd.R_drew)); exact HO221.out⟩, ⟨by repeat (first | (with_reducible first | exact HB.out | apply below_alloc | apply pw_below_drewN | apply below_drew1 | refine below_set ?_ (IsS56.ge HI218.out)) | exact HB.out)⟩⟩
       ·
        rw [if_neg c22] at H
        exact absurd H (by simp)
      ·
       rw [if_neg c21] at H
       exact absurd H (by simp)
     ·
      rw [if_neg c20] at H
      exact absurd H (by simp)
    ·
     rw [if_neg c19] at H
     exact absurd H (by simp)
   ·
    rw [if_neg c17] at H
    have c17b0 : (t225 == 0) = false := beq_eq_false_iff_ne.mpr c17
    have c17b1 : (t225 != 0) = true := bne_iff_ne.mpr c17
    (first | rw [c17b0] | (simp only [i64_w, i32_w]; rw [c17b0]) | skip)
    obtain ⟨y233, hy233⟩ : ∃ y_ : List Int, y_ = (([(-1), 0, 1, 1000000000000, 1000000000001] : List Int)) := ⟨_, rfl⟩
    replace H : ((paygen_Mod.f a2 5).bind fun t236 => (if 0 ≤ t236 then (if t236 < (y233.length : Int) then (if 0 ≤ t223 then (if t223 < (t219.length : Int) then (payrolllaw29_BracketValid.j0 k l0 (t219.set (t223 : Int).toNat (⟨rd y233 t236, (rd_T30 t219 t223).f1⟩ : S30))) else (none)) else (none)) else (none)) else (none))) = some r := by first | (rw [hy233]; with_reducible exact H) | (have H2_ := (Option.bind_some _ _).symm.trans H; rw [hy233]; with_reducible exact H2_) | (have H2_ := (Option.bind_some _ _).symm.trans H; with_reducible exact H2_) | with_reducible exact H | (rw [hy233]; exact H) | exact H
    have Ny233 := Aside0.mk hy233
    clear hy233
    replace H := Option.bind_eq_some_iff.mp H
    obtain ⟨t236, A290, H⟩ := H
    replace H : (if 0 ≤ t236 then (if t236 < (y233.length : Int) then (if 0 ≤ t223 then (if t223 < (t219.length : Int) then (payrolllaw29_BracketValid.j0 k l0 (t219.set (t223 : Int).toNat (⟨rd y233 t236, (rd_T30 t219 t223).f1⟩ : S30))) else (none)) else (none)) else (none)) else (none)) = some r := H
    have A29 := Aside0.mk A290
    clear A290
    by_cases c30 : 0 ≤ t236
    ·
     rw [if_pos c30] at H
     have c30b0 : decide (0 ≤ t236) = true := decide_eq_true c30
     clear c30
     by_cases c31 : t236 < (y233.length : Int)
     ·
      rw [if_pos c31] at H
      have c31b0 : decide (t236 < (y233.length : Int)) = true := decide_eq_true c31
      clear c31
      by_cases c32 : 0 ≤ t223
      ·
       rw [if_pos c32] at H
       have c32b0 : decide (0 ≤ t223) = true := decide_eq_true c32
       clear c32
       by_cases c33 : t223 < (t219.length : Int)
       ·
        rw [if_pos c33] at H
        have c33b0 : decide (t223 < (t219.length : Int)) = true := decide_eq_true c33
        clear c33
        obtain ⟨y238, hy238⟩ : ∃ y_ : List (S30), y_ = (t219.set (t223 : Int).toNat (⟨rd y233 t236, (rd_T30 t219 t223).f1⟩ : S30)) := ⟨_, rfl⟩
        replace H : (payrolllaw29_BracketValid.j0 k l0 y238) = some r := by first | (rw [hy238]; with_reducible exact H) | (have H2_ := (Option.bind_some _ _).symm.trans H; rw [hy238]; with_reducible exact H2_) | (have H2_ := (Option.bind_some _ _).symm.trans H; with_reducible exact H2_) | with_reducible exact H | (rw [hy238]; exact H) | exact H
        have Ny238 := Aside0.mk hy238
        clear hy238
        have H' := Aside0.mk H
        clear H
        go_wp2_with (first | ((with_reducible refine gate_dst (N := 36) rfl ?_); refine Kd.R_lit (Kd.int .i64) _ 3 ?hg (N := 36) ?hd (xs := ([(-1), 0, 1, 1000000000000, 1000000000001] : List Int)) (inner := [.int .i64 (-1), .int .i64 0, .int .i64 1, .int .i64 1000000000000, .int .i64 1000000000001]) (ok := fun _ => True) (okp := fun _ => True) ?hr ?hp (fun _ hk => hk) trivial (Below.refl _ _) (Nat.le_refl _) (by simp) ?_; (case hd => rfl); (case hg => rfl); (case hr => first | (go_simp; done) | (go_simp; rfl)); (case hp => exact (Reps.one (show Kd.M (Kd.int .i64) _ _ _ (-1) [.int .i64 (-1)] from rfl) (Reps.one (show Kd.M (Kd.int .i64) _ _ _ 0 [.int .i64 0] from rfl) (Reps.one (show Kd.M (Kd.int .i64) _ _ _ 1 [.int .i64 1] from rfl) (Reps.one (show Kd.M (Kd.int .i64) _ _ _ 1000000000000 [.int .i64 1000000000000] from rfl) (Reps.one (show Kd.M (Kd.int .i64) _ _ _ 1000000000001 [.int .i64 1000000000001] from rfl) (Reps.none _ _))))))); intro v234 w35 ho36 hb hg_ hnew_; clear hg_ hnew_; (first | rw [← Ny233.out] at ho36 | (simp only [Int.reduceToNat] at ho36; rw [← Ny233.out] at ho36)); have n0_ := Aside0.mk (Kd.R_below (by (with_reducible repeat (first | apply Kd.R_alloc | apply Kd.R_drewN | apply Kd.R_drew)); exact HO221.out) hb); have n1_ := Aside0.mk (Kd.R_lower ho36 (below_size (by repeat (first | (with_reducible first | exact HB.out | apply below_alloc | apply pw_below_drewN | apply below_drew1 | refine below_set ?_ (IsS56.ge HI218.out)) | exact HB.out)))); have n2_ := Aside0.mk (IsS56.below (by repeat (first | (with_reducible first | exact HI218.out | apply IsS56.alloc | apply IsS56.drewN | apply IsS56.drew | apply IsS56.set_1) | exact HI218.out)) hb); have n3_ := Aside0.mk (below_step (by repeat (first | (with_reducible first | exact HB.out | apply below_alloc | apply pw_below_drewN | apply below_drew1 | refine below_set ?_ (IsS56.ge HI218.out)) | exact HB.out)) hb); clear HO221; clear HI218; clear HB; have HO221 := n0_; have HO235 := n1_; have HI218 := n2_; have HB := n3_; clear n0_ n1_ n2_ n3_; clear hb ho36) | ((with_reducible refine gate_callee (f := 16) rfl ?_); refine goesL_ (some 38) rfl rfl Try.func16 (by kernel_rfl) rfl #[.int .i64 a2, .int .i64 5] rfl (by (try simp only [List.map_toArray, List.map_cons, List.map_nil]); first | done | rfl | (simp only [List.length_drop, List.length_take]; rfl)) ?_; (with_reducible refine (paygen_Mod.calls a2 5 t236 _ A29.out).mono ?_); rintro e w' ⟨rfl, ⟨nd, rfl⟩⟩; refine ⟨_, rfl, ?_⟩; (try (rw [drewN_self w35]; generalize hq_ : World.drewN w35 _ = w35; have n0_ : Aside0 (Kd.R k30 30 w35 w.heap.size (fun _ => True) (.slice (some ⟨go23, 0, none⟩) t219.length co14) t219) := ⟨by rw [← hq_]; exact (by (with_reducible repeat (first | apply Kd.R_alloc | apply Kd.R_drewN | apply Kd.R_drew)); exact HO221.out)⟩; have n1_ : Aside0 (Kd.R (Kd.int .i64) 3 w35 w.heap.size (fun _ => True) v234 y233) := ⟨by rw [← hq_]; exact (by (with_reducible repeat (first | apply Kd.R_alloc | apply Kd.R_drewN | apply Kd.R_drew)); exact HO235.out)⟩; have n2_ : Aside0 (IsS56 w w35 g218 t216 t226) := ⟨by rw [← hq_]; exact (by repeat (first | (with_reducible first | exact HI218.out | apply IsS56.alloc | apply IsS56.drewN | apply IsS56.drew | apply IsS56.set_1) | exact HI218.out))⟩; have n3_ : Aside0 (Below w.heap.size w w35) := ⟨by rw [← hq_]; exact (by repeat (first | (with_reducible first | exact HB.out | apply below_alloc | apply pw_below_drewN | apply below_drew1 | refine below_set ?_ (IsS56.ge HI218.out)) | exact HB.out))⟩; clear HO221 HO235 HI218 HB hq_; have HO221 := n0_; have HO235 := n1_; have HI218 := n2_; have HB := n3_; clear n0_ n1_ n2_ n3_)); obtain ⟨Ao37, co37, eo37⟩ := Kd.R_slice HO235.out; subst eo37; have p237 : 0 ≤ (t236 : Int) := of_decide_eq_true (by first | (with_reducible assumption) | assumption); have q237 : t236 < (y233.length : Int) := of_decide_eq_true (by first | (with_reducible assumption) | assumption); obtain ⟨ad237, e237, hx237_0⟩ := Kd.at_int (Kd.R_reads' HO235.out).2.2 t236 p237 q237; cases e237; replace p237 := eq_true p237; replace q237 := eq_true q237; have p34 : 0 ≤ (t223 : Int) := of_decide_eq_true (by first | (with_reducible assumption) | assumption); have q34 : (t223 : Int) < ((t219.length : Int) : Int) := of_decide_eq_true (by first | (with_reducible assumption) | assumption); obtain ⟨ce34, hcl34, hM34, hcc34, hfr34⟩ := Kd.R_elem HO221.out z30 (t223 : Int) p34 q34; obtain rfl := k30_openM hM34; have hx34_0 : w35.cell? ⟨go23, (t223 : Int).toNat * 2, none⟩ = some (.int .i64 ((rd_T30 t219 t223).f0)) := hcc34 0 _ rfl; have hx34_1 : w35.cell? ⟨go23, (t223 : Int).toNat * 2 + 1, none⟩ = some (.int .i64 ((rd_T30 t219 t223).f1)) := hcc34 1 _ rfl; have hf34_0 : w35.frozen? ⟨go23, (t223 : Int).toNat * 2, none⟩ = false := hfr34 0; have hf34_1 : w35.frozen? ⟨go23, (t223 : Int).toNat * 2 + 1, none⟩ = false := hfr34 1; clear hcl34 hcc34 hfr34 hM34; replace p34 := eq_true p34; replace q34 := eq_true q34; have HX38 := Aside0.mk (show Kd.R k30 30 w35 w.heap.size (fun _ => True) (.slice (some ⟨go23, 0, none⟩) t219.length co14) t219 from (by (with_reducible repeat (first | apply Kd.R_alloc | apply Kd.R_drewN | apply Kd.R_drew)); exact HO221.out)); obtain ⟨ce38, hcl38, hM38, hcc38, hfr38⟩ := Kd.R_elem HX38.out z30 (t223 : Int) (of_decide_eq_true (by first | (with_reducible assumption) | assumption)) (by have h_ : (t223 : Int) < ((t219.length : Int) : Int) := of_decide_eq_true (by first | (with_reducible assumption) | assumption); first | exact h_ | (have e_ := (Kd.R_reads' HO221.out).1; omega) | simpa using h_); obtain rfl := k30_openM hM38; have HP38 := Kd.R_seg HX38.out (t223 : Int) (of_decide_eq_true (by first | (with_reducible assumption) | assumption)) (by have h_ : (t223 : Int) < ((t219.length : Int) : Int) := of_decide_eq_true (by first | (with_reducible assumption) | assumption); first | exact h_ | (have e_ := (Kd.R_reads' HO221.out).1; omega) | simpa using h_) (seg := [.int .i64 (rd y233 t236)]) (j := 0) hcl38 hcc38 (show 1 ≤ 2 from by decide) (x' := (⟨rd y233 t236, (rd_T30 t219 t223).f1⟩ : S30)) (k30_mkM _ _ _ (⟨rd y233 t236, (rd_T30 t219 t223).f1⟩ : S30) ) (fun _ hk => hk); have hx38_0 := hcc38 0 _ rfl; (try simp only [show (k30).sz = 2 from rfl, Nat.mul_one, Nat.add_zero] at hx38_0); have hf38_0 := hfr38 0; (try simp only [show (k30).sz = 2 from rfl, Nat.mul_one, Nat.add_zero] at hf38_0); clear hcl38 hcc38 hfr38 hM38) | ((with_reducible refine gate_store (t := 3) (p := 42) rfl ?_); refine store_event (t := 3) (p := 42) (v := ?vo_w39) (w1 := (w35.setCell ⟨go23, (t223 : Int).toNat * 2, none⟩ (.int .i64 (rd y233 t236)))) ?hg ?ho ?hn ?hr ?_; (case ho => rfl); (case hg => rfl); (case hn => rfl); (case hr => first | (go_simp; done) | (go_simp; rfl)); intro w39 hw; have hg : w35.grownBy w39 (some go23) := (by rw [hw]; exact HP38.2); have hp_ : Kd.R k30 30 w39 w.heap.size (fun _ => True) (.slice (some ⟨go23, 0, none⟩) t219.length co14) y238 := (by rw [hw, Ny238.out]; exact HP38.1); clear HP38; have n0_ := Aside0.mk (IsS56.grown (by repeat (first | (with_reducible first | exact HI218.out | apply IsS56.alloc | apply IsS56.drewN | apply IsS56.drew | apply IsS56.set_1) | exact HI218.out)) hg (IsS56.own_ne HI218.out HO221.out (by decide))); have n1_ := Aside0.mk (hp_); have n2_ := Aside0.mk (Kd.R_over' (v := (.slice (some ⟨go23, 0, none⟩) t219.length co14)) (by (with_reducible repeat (first | apply Kd.R_alloc | apply Kd.R_drewN | apply Kd.R_drew)); exact HO235.out) (Kd.R_typed HO221.out) (by decide) hg); have n3_ := Aside0.mk ((by rw [hw]; exact below_set (HB.out) GB23.out : Below w.heap.size w w39)); clear HI218; clear HO221; clear HO235; clear HB; have HI218 := n0_; have HO221 := n1_; have HO235 := n2_; have HB := n3_; clear n0_ n1_ n2_ n3_; clear hg hw hp_))
        go_meet
        case rel => exact ⟨_, (y238), H', ⟨by first | omega | exact Nat.le_refl _⟩, ⟨by (with_reducible repeat (first | apply Kd.R_alloc | apply Kd.R_drewN | apply Kd.R_drew)); exact HO221.out⟩, ⟨by repeat (first | (with_reducible first | exact HB.out | apply below_alloc | apply pw_below_drewN | apply below_drew1 | refine below_set ?_ (IsS56.ge HI218.out)) | exact HB.out)⟩⟩
       ·
        rw [if_neg c33] at H
        exact absurd H (by simp)
      ·
       rw [if_neg c32] at H
       exact absurd H (by simp)
     ·
      rw [if_neg c31] at H
      exact absurd H (by simp)
    ·
     rw [if_neg c30] at H
     exact absurd H (by simp)
  case rest =>
   clear HC11
   try clear c1
   try clear c2
   try clear p2
   try clear q2
   try clear hx2
   try clear c3
   try clear p3
   try clear q3
   try clear hx3
   try clear hf3
   try clear c4
   try clear c4b0
   try clear c4b1
   try clear c12
   try clear c13
   try clear c14
   try clear c15
   try clear c16
   try clear c17
   try clear c17b0
   try clear c17b1
   try clear c19
   try clear c19b0
   try clear c20
   try clear c20b0
   try clear c21
   try clear c21b0
   try clear c22
   try clear c22b0
   try clear c23
   try clear p23
   try clear q23
   try clear hx23
   try clear hf23
   try clear c27
   try clear hx27
   try clear hf27
   try clear c30
   try clear c30b0
   try clear c31
   try clear c31b0
   try clear c32
   try clear c32b0
   try clear c33
   try clear c33b0
   try clear c34
   try clear p34
   try clear q34
   try clear hx34
   try clear hf34
   try clear c38
   try clear hx38
   try clear hf38
   try clear hx231_0
   try clear hx237_0
   try clear hx23_0
   try clear hx23_1
   try clear hx27_1
   try clear hx34_0
   try clear hx34_1
   try clear hx38_0
   try clear p23
   try clear p231
   try clear p237
   try clear p34
   try clear q23
   try clear q231
   try clear q237
   try clear q34
   obtain ⟨kq, x8_10, HA, HJ10, HO_8, HB⟩ := hcut
   have hl8_10 := (Kd.R_reads' HO_8.out).1
   rw [hl8_10] at HO_8
   (try simp only [hl8_10])
   cases kq with
   | zero => exact absurd HA.out (by simp [payrolllaw29_BracketValid.j0])
   | succ kj10 =>
    have H := HA.out
    clear HA
    simp only [payrolllaw29_BracketValid.j0] at H
    replace H := Option.bind_eq_some_iff.mp H
    obtain ⟨t239, A400, H⟩ := H
    replace H : ((payrollref29_Valid.f kj10 l0).bind fun t240 => (if (t239 == t240) = true then ((bracket_Valid.f kj10 x8_10).bind fun t241 => ((payrollref29_Valid.f kj10 x8_10).bind fun t242 => (if (t241 == t242) = true then ((payrolllaw29_awake.f kj10).bind fun t243 => (some t243)) else (some false)))) else (some false))) = some r := H
    have A40 := Aside0.mk A400
    clear A400
    replace H := Option.bind_eq_some_iff.mp H
    obtain ⟨t240, A410, H⟩ := H
    replace H : (if (t239 == t240) = true then ((bracket_Valid.f kj10 x8_10).bind fun t241 => ((payrollref29_Valid.f kj10 x8_10).bind fun t242 => (if (t241 == t242) = true then ((payrolllaw29_awake.f kj10).bind fun t243 => (some t243)) else (some false)))) else (some false)) = some r := H
    have A41 := Aside0.mk A410
    clear A410
    by_cases c42 : (t239 == t240) = true
    ·
     rw [if_pos c42] at H
     have c42b0 : (t239 == t240) = true := c42
     (try (have c42b1 : decide (t239 = t240) = true := by simpa using c42))
     (try (have c42b2 : (t239 == t240) = true := by simpa using c42))
     clear c42
     replace H := Option.bind_eq_some_iff.mp H
     obtain ⟨t241, A430, H⟩ := H
     replace H : ((payrollref29_Valid.f kj10 x8_10).bind fun t242 => (if (t241 == t242) = true then ((payrolllaw29_awake.f kj10).bind fun t243 => (some t243)) else (some false))) = some r := H
     have A43 := Aside0.mk A430
     clear A430
     replace H := Option.bind_eq_some_iff.mp H
     obtain ⟨t242, A440, H⟩ := H
     replace H : (if (t241 == t242) = true then ((payrolllaw29_awake.f kj10).bind fun t243 => (some t243)) else (some false)) = some r := H
     have A44 := Aside0.mk A440
     clear A440
     by_cases c45 : (t241 == t242) = true
     ·
      rw [if_pos c45] at H
      have c45b0 : (t241 == t242) = true := c45
      (try (have c45b1 : decide (t241 = t242) = true := by simpa using c45))
      (try (have c45b2 : (t241 == t242) = true := by simpa using c45))
      clear c45
      replace H := Option.bind_eq_some_iff.mp H
      obtain ⟨t243, A460, H⟩ := H
      replace H : (some t243) = some r := H
      have A46 := Aside0.mk A460
      clear A460
      obtain rfl := Option.some.inj H
      go_wp2_with (first | ((with_reducible refine gate_callee (f := 17) rfl ?_); refine goesL_ (some 44) rfl rfl Try.func17 (by kernel_rfl) rfl #[.slice A0 l0.length c0] rfl (by (try simp only [List.map_toArray, List.map_cons, List.map_nil]); first | done | rfl | (simp only [List.length_drop, List.length_take]; rfl)) ?_; (with_reducible refine (bracket_Valid.calls kj10 _ _ l0 t239 _ ?side1 ?side2 A40.out).mono ?_); (case side1 => repeat (first | exact (Kd.C_below HR0.out HB.out) | (with_reducible refine Kd.C_alloc ?_ _) | (with_reducible refine Kd.C_drewN ?_ _) | (with_reducible refine Kd.C_drew ?_))); (case side2 => exact HC0.out); rintro e w47 ⟨rfl, hb⟩; refine ⟨_, rfl, ?_⟩; have n0_ := Aside0.mk (Kd.R_below (by (with_reducible repeat (first | apply Kd.R_alloc | apply Kd.R_drewN | apply Kd.R_drew)); exact HO_8.out) hb); have n1_ := Aside0.mk (below_step (by repeat (first | (with_reducible first | exact HB.out | apply below_alloc | apply pw_below_drewN | apply below_drew1) | exact HB.out)) hb); clear HO_8; clear HB; have HO_8 := n0_; have HB := n1_; clear n0_ n1_; (try clear hb); (try clear hb2); (try clear hk); (try clear hi)) | ((with_reducible refine gate_callee (f := 18) rfl ?_); refine goesL_ (some 46) rfl rfl Try.func18 (by kernel_rfl) rfl #[.slice A0 l0.length c0] rfl (by (try simp only [List.map_toArray, List.map_cons, List.map_nil]); first | done | rfl | (simp only [List.length_drop, List.length_take]; rfl)) ?_; (with_reducible refine (payrollref29_Valid.calls kj10 _ _ l0 t240 _ ?side1 ?side2 A41.out).mono ?_); (case side1 => repeat (first | exact (Kd.C_below HR0.out HB.out) | (with_reducible refine Kd.C_alloc ?_ _) | (with_reducible refine Kd.C_drewN ?_ _) | (with_reducible refine Kd.C_drew ?_))); (case side2 => exact HC0.out); rintro e w' ⟨rfl, ⟨nd, rfl⟩⟩; refine ⟨_, rfl, ?_⟩) | (go_at_call 17; (with_reducible refine (bracket_Valid.calls kj10 _ _ x8_10 t241 _ ?side1 ?side2 A43.out).mono ?_); (case side1 => repeat (first | exact (Kd.R_reads' HO_8.out).2.2 | (with_reducible refine Kd.C_alloc ?_ _) | (with_reducible refine Kd.C_drewN ?_ _) | (with_reducible refine Kd.C_drew ?_))); (case side2 => exact (Kd.R_reads' HO_8.out).2.1); rintro e w48 ⟨rfl, hb⟩; have n0_ := Aside0.mk (Kd.R_below (by (with_reducible repeat (first | apply Kd.R_alloc | apply Kd.R_drewN | apply Kd.R_drew)); exact HO_8.out) hb); have n1_ := Aside0.mk (below_step (by repeat (first | (with_reducible first | exact HB.out | apply below_alloc | apply pw_below_drewN | apply below_drew1) | exact HB.out)) hb); clear HO_8; clear HB; have HO_8 := n0_; have HB := n1_; clear n0_ n1_; (try clear hb); (try clear hb2); (try clear hk); (try clear hi)) | (go_at_call 18; (with_reducible refine (payrollref29_Valid.calls kj10 _ _ x8_10 t242 _ ?side1 ?side2 A44.out).mono ?_); (case side1 => repeat (first | exact (Kd.R_reads' HO_8.out).2.2 | (with_reducible refine Kd.C_alloc ?_ _) | (with_reducible refine Kd.C_drewN ?_ _) | (with_reducible refine Kd.C_drew ?_))); (case side2 => exact (Kd.R_reads' HO_8.out).2.1); rintro e w' ⟨rfl, ⟨nd, rfl⟩⟩) | (go_at_call 12; (with_reducible refine (payrolllaw29_awake.calls kj10  t243 _ A46.out).mono ?_); rintro e w49 ⟨rfl, hb⟩; have n0_ := Aside0.mk (Kd.R_below (by (with_reducible repeat (first | apply Kd.R_alloc | apply Kd.R_drewN | apply Kd.R_drew)); exact HO_8.out) hb); have n1_ := Aside0.mk (below_step (by repeat (first | (with_reducible first | exact HB.out | apply below_alloc | apply pw_below_drewN | apply below_drew1) | exact HB.out)) hb); clear HO_8; clear HB; have HO_8 := n0_; have HB := n1_; clear n0_ n1_; (try clear hb); (try clear hb2); (try clear hk); (try clear hi)))
      go_ret
      exact ⟨by first | rfl | (simp [errW_none, errW_some] <;> rfl) | (simp [*, errW_none, errW_some] <;> rfl), by repeat (first | (with_reducible first | exact HB.out | apply below_alloc | apply pw_below_drewN | apply below_drew1) | exact HB.out)⟩
     ·
      rw [if_neg c45] at H
      have c45b0 : (t241 == t242) = false := by simpa using c45
      (try (have c45b1 : decide (t241 = t242) = false := by simpa using c45))
      (try (have c45b2 : (t241 == t242) = false := by simpa using c45))
      (try (have c45b3 : ¬ (t241 = t242) := by simpa using c45))
      clear c45
      obtain rfl := Option.some.inj H
      go_wp2_with (first | ((with_reducible refine gate_callee (f := 17) rfl ?_); refine goesL_ (some 44) rfl rfl Try.func17 (by kernel_rfl) rfl #[.slice A0 l0.length c0] rfl (by (try simp only [List.map_toArray, List.map_cons, List.map_nil]); first | done | rfl | (simp only [List.length_drop, List.length_take]; rfl)) ?_; (with_reducible refine (bracket_Valid.calls kj10 _ _ l0 t239 _ ?side1 ?side2 A40.out).mono ?_); (case side1 => repeat (first | exact (Kd.C_below HR0.out HB.out) | (with_reducible refine Kd.C_alloc ?_ _) | (with_reducible refine Kd.C_drewN ?_ _) | (with_reducible refine Kd.C_drew ?_))); (case side2 => exact HC0.out); rintro e w50 ⟨rfl, hb⟩; refine ⟨_, rfl, ?_⟩; have n0_ := Aside0.mk (Kd.R_below (by (with_reducible repeat (first | apply Kd.R_alloc | apply Kd.R_drewN | apply Kd.R_drew)); exact HO_8.out) hb); have n1_ := Aside0.mk (below_step (by repeat (first | (with_reducible first | exact HB.out | apply below_alloc | apply pw_below_drewN | apply below_drew1) | exact HB.out)) hb); clear HO_8; clear HB; have HO_8 := n0_; have HB := n1_; clear n0_ n1_; (try clear hb); (try clear hb2); (try clear hk); (try clear hi)) | ((with_reducible refine gate_callee (f := 18) rfl ?_); refine goesL_ (some 46) rfl rfl Try.func18 (by kernel_rfl) rfl #[.slice A0 l0.length c0] rfl (by (try simp only [List.map_toArray, List.map_cons, List.map_nil]); first | done | rfl | (simp only [List.length_drop, List.length_take]; rfl)) ?_; (with_reducible refine (payrollref29_Valid.calls kj10 _ _ l0 t240 _ ?side1 ?side2 A41.out).mono ?_); (case side1 => repeat (first | exact (Kd.C_below HR0.out HB.out) | (with_reducible refine Kd.C_alloc ?_ _) | (with_reducible refine Kd.C_drewN ?_ _) | (with_reducible refine Kd.C_drew ?_))); (case side2 => exact HC0.out); rintro e w' ⟨rfl, ⟨nd, rfl⟩⟩; refine ⟨_, rfl, ?_⟩) | (go_at_call 17; (with_reducible refine (bracket_Valid.calls kj10 _ _ x8_10 t241 _ ?side1 ?side2 A43.out).mono ?_); (case side1 => repeat (first | exact (Kd.R_reads' HO_8.out).2.2 | (with_reducible refine Kd.C_alloc ?_ _) | (with_reducible refine Kd.C_drewN ?_ _) | (with_reducible refine Kd.C_drew ?_))); (case side2 => exact (Kd.R_reads' HO_8.out).2.1); rintro e w51 ⟨rfl, hb⟩; have n0_ := Aside0.mk (Kd.R_below (by (with_reducible repeat (first | apply Kd.R_alloc | apply Kd.R_drewN | apply Kd.R_drew)); exact HO_8.out) hb); have n1_ := Aside0.mk (below_step (by repeat (first | (with_reducible first | exact HB.out | apply below_alloc | apply pw_below_drewN | apply below_drew1) | exact HB.out)) hb); clear HO_8; clear HB; have HO_8 := n0_; have HB := n1_; clear n0_ n1_; (try clear hb); (try clear hb2); (try clear hk); (try clear hi)) | (go_at_call 18; (with_reducible refine (payrollref29_Valid.calls kj10 _ _ x8_10 t242 _ ?side1 ?side2 A44.out).mono ?_); (case side1 => repeat (first | exact (Kd.R_reads' HO_8.out).2.2 | (with_reducible refine Kd.C_alloc ?_ _) | (with_reducible refine Kd.C_drewN ?_ _) | (with_reducible refine Kd.C_drew ?_))); (case side2 => exact (Kd.R_reads' HO_8.out).2.1); rintro e w' ⟨rfl, ⟨nd, rfl⟩⟩))
      go_ret
      exact ⟨by first | rfl | (simp [errW_none, errW_some] <;> rfl) | (simp [*, errW_none, errW_some] <;> rfl), by repeat (first | (with_reducible first | exact HB.out | apply below_alloc | apply pw_below_drewN | apply below_drew1) | exact HB.out)⟩
    ·
     rw [if_neg c42] at H
     have c42b0 : (t239 == t240) = false := by simpa using c42
     (try (have c42b1 : decide (t239 = t240) = false := by simpa using c42))
     (try (have c42b2 : (t239 == t240) = false := by simpa using c42))
     (try (have c42b3 : ¬ (t239 = t240) := by simpa using c42))
     clear c42
     obtain rfl := Option.some.inj H
     go_wp2_with (first | ((with_reducible refine gate_callee (f := 17) rfl ?_); refine goesL_ (some 44) rfl rfl Try.func17 (by kernel_rfl) rfl #[.slice A0 l0.length c0] rfl (by (try simp only [List.map_toArray, List.map_cons, List.map_nil]); first | done | rfl | (simp only [List.length_drop, List.length_take]; rfl)) ?_; (with_reducible refine (bracket_Valid.calls kj10 _ _ l0 t239 _ ?side1 ?side2 A40.out).mono ?_); (case side1 => repeat (first | exact (Kd.C_below HR0.out HB.out) | (with_reducible refine Kd.C_alloc ?_ _) | (with_reducible refine Kd.C_drewN ?_ _) | (with_reducible refine Kd.C_drew ?_))); (case side2 => exact HC0.out); rintro e w52 ⟨rfl, hb⟩; refine ⟨_, rfl, ?_⟩; have n0_ := Aside0.mk (Kd.R_below (by (with_reducible repeat (first | apply Kd.R_alloc | apply Kd.R_drewN | apply Kd.R_drew)); exact HO_8.out) hb); have n1_ := Aside0.mk (below_step (by repeat (first | (with_reducible first | exact HB.out | apply below_alloc | apply pw_below_drewN | apply below_drew1) | exact HB.out)) hb); clear HO_8; clear HB; have HO_8 := n0_; have HB := n1_; clear n0_ n1_; (try clear hb); (try clear hb2); (try clear hk); (try clear hi)) | ((with_reducible refine gate_callee (f := 18) rfl ?_); refine goesL_ (some 46) rfl rfl Try.func18 (by kernel_rfl) rfl #[.slice A0 l0.length c0] rfl (by (try simp only [List.map_toArray, List.map_cons, List.map_nil]); first | done | rfl | (simp only [List.length_drop, List.length_take]; rfl)) ?_; (with_reducible refine (payrollref29_Valid.calls kj10 _ _ l0 t240 _ ?side1 ?side2 A41.out).mono ?_); (case side1 => repeat (first | exact (Kd.C_below HR0.out HB.out) | (with_reducible refine Kd.C_alloc ?_ _) | (with_reducible refine Kd.C_drewN ?_ _) | (with_reducible refine Kd.C_drew ?_))); (case side2 => exact HC0.out); rintro e w' ⟨rfl, ⟨nd, rfl⟩⟩; refine ⟨_, rfl, ?_⟩))
     go_ret
     exact ⟨by first | rfl | (simp [errW_none, errW_some] <;> rfl) | (simp [*, errW_none, errW_some] <;> rfl), by repeat (first | (with_reducible first | exact HB.out | apply below_alloc | apply pw_below_drewN | apply below_drew1) | exact HB.out)⟩

end Go.Proofs.Ytafoplpaoahdiaa.P
