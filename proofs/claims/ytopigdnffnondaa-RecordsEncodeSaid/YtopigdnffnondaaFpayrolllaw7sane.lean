/- Proved here: that the Go function payrolllaw7_sane computes the plain function of that name (the machine side of the laws, reworked from a print; no condition of its own). -/
import Derived.Test.YtopigdnffnondaaProg
import Derived.Test.YtopigdnffnondaaV1
import Derived.Lib.SlBytesConst
import Derived.Test.YtopigdnffnondaaFPRE0
import Derived.Test.YtopigdnffnondaaFPRE1
import Derived.Test.YtopigdnffnondaaFPRE3
import Derived.Test.YtopigdnffnondaaFPRE5
import Derived.Test.YtopigdnffnondaaFPRE6
import Derived.Test.YtopigdnffnondaaFrecordsSum
import Derived.Test.YtopigdnffnondaaFrecordsEncode
import Derived.Test.YtopigdnffnondaaFpayrolllaw7some
import Derived.Test.YtopigdnffnondaaFrecordsDecode
namespace Go.Proofs.Ytopigdnffnondaa.P
open Go.RowKit Go.Proofs.YtopigdnffnondaaW.PrintWords Go.Proofs.YtopigdnffnondaaW.PrintLast Go.Proofs.YtopigdnffnondaaW.PrintMore
attribute [local go_sem] max2_int min2_int max_two min_two max_three min_three max_four min_four   -- for this text's walks alone
set_option linter.unusedVariables false
set_option linter.unusedSimpArgs false

attribute [local go_sem high] eqA26 eqA55
def payrolllaw7_sane.f (k : Nat)  : Option (Bool) := (payrolllaw7_some.f).bind fun bt290 => ((records_Encode.f k bt290.1 bt290.2.1 bt290.2.2.1 bt290.2.2.2.1 bt290.2.2.2.2.1 bt290.2.2.2.2.2.1 bt290.2.2.2.2.2.2).bind fun bt297 => ((some (([1, 2, 3] : List Int) : List Int)).bind fun y301 => (if y301.length + bt297.1.length < 140737488355328 then ((records_Decode.f k (y301 ++ bt297.1)).bind fun bt307 => ((records_Encode.f k 0 0 0 0 0 0 0).bind fun bt314 => (if bt297.2 = 0 then (if (bt297.1.length : Int) = 24 then (if (bt307.1.length : Int) = 1 then (if 0 < (bt307.1.length : Int) then ((payrolllaw7_some.f).bind fun bt319 => (if ((((rd_T26 bt307.1 0).f0.f0) == bt319.1 && (((rd_T26 bt307.1 0).f0.f1) == bt319.2.1)) && (((rd_T26 bt307.1 0).f1) == bt319.2.2.1 && (((rd_T26 bt307.1 0).f2) == bt319.2.2.2.1 && (((rd_T26 bt307.1 0).f3) == bt319.2.2.2.2.1 && ((((rd_T26 bt307.1 0).f4.f0) == bt319.2.2.2.2.2.1 && (((rd_T26 bt307.1 0).f4.f1) == bt319.2.2.2.2.2.2))))))) = true then (if (bt307.2.1.length : Int) = 1 then (if 0 < (bt307.2.1.length : Int) then (if (((rd_T55 bt307.2.1 0).f0) == 0 && (((rd_T55 bt307.2.1 0).f1) == 3)) = true then (if bt307.2.2 = 27 then (if bt314.2 = 1 then ((records_Sum.f k ([] : List Int)).bind fun t327 => (if t327 = 65535 then ((records_Sum.f k (([49, 50, 51, 52, 53, 54, 55, 56, 57] : List Int))).bind fun t331 => (some (t331 == 10673))) else (some false))) else (some false)) else (some false)) else (some false)) else (none)) else (some false)) else (some false))) else (none)) else (some false)) else (some false)) else (some false)))) else (none))))
theorem payrolllaw7_sane.mono : ∀ k, LeO (payrolllaw7_sane.f k ) (payrolllaw7_sane.f (k + 1) ) := by
 intro  k
 unfold payrolllaw7_sane.f
 repeat' first
   | (with_reducible exact records_Decode.mono _ _)
   | (with_reducible exact records_Encode.mono _ _ _ _ _ _ _ _)
   | (with_reducible exact records_Sum.mono _ _)
   | (with_reducible exact LeO.refl _)
   | (with_reducible exact LeO.none _)
   | (with_reducible refine LeO.ite ?_ ?_)
   | (with_reducible refine LeO.bind ?_ (fun _ => ?_))
   | exact records_Decode.mono _ _
   | exact records_Encode.mono _ _ _ _ _ _ _ _
   | exact records_Sum.mono _ _
   | exact LeO.none _
   | refine LeO.ite ?_ ?_
   | refine LeO.bind ?_ (fun _ => ?_)
def payrolllaw7_sane.T4 : Bool × List (List Nat × List Nat) := (true, [([], []), ([0], [0]), ([1], [1]), ([2], [2]), ([3, 2], [2, 3]), ([4, 2], [2, 4]), ([2, 5], [2, 5]), ([6, 2], [6]), ([7], [7]), ([8, 7], [7, 8]), ([9, 7], [7, 9]), ([7, 10], [7, 10]), ([11, 7], [11]), ([12], [12]), ([13, 12], [12, 13]), ([14, 12], [12, 14]), ([12, 12], [12]), ([15, 16, 12], [12, 15, 16]), ([12, 17], [12, 17]), ([18, 16], [18]), ([19], [19]), ([20, 19], [19, 20]), ([21, 19], [19, 21]), ([19, 22], [19, 22]), ([23, 19], [23]), ([24], [24]), ([25, 24], [24, 25]), ([26, 24], [24, 26]), ([24], [24]), ([27, 28, 24], [24, 27, 28]), ([24, 29], [24, 29]), ([30, 24], [30]), ([31], [31]), ([32, 31], [31, 32]), ([31, 33], [31, 33]), ([34, 31], [34]), ([35], [35]), ([36, 35], [35, 36]), ([35, 37], [35, 37]), ([38, 35], [38]), ([39, 39], [39]), ([40, 39], [39, 40]), ([39, 41], [39, 41]), ([42, 40], [42]), ([43], [43]), ([44, 43], [43, 44]), ([45, 43, 43], [43, 45]), ([46, 43], [43, 46]), ([43, 47], [43, 47]), ([48, 46, 0, 1, 2, 3, 4, 5, 6, 7, 8, 9, 10, 11, 12, 13, 14, 15, 16, 17, 18, 19, 20, 21, 22, 23, 24, 25, 26, 27, 28, 29, 30, 31, 32, 33, 34, 35, 36, 37, 38, 39, 40, 41, 42, 43, 44, 45, 46, 47, 48], [48])])
def payrolllaw7_sane.B4 : List Nat := [0, 1, 3, 7, 15, 31, 63, 127, 255, 511, 1023, 2047, 4095, 8191, 16383, 32767, 8191, 131071, 262143, 524287, 1048575, 2097151, 4194303, 8388607, 16777215, 33554431, 67108863, 134217727, 33554431, 536870911, 1073741823, 2147483647, 4294967295, 8589934591, 17179869183, 34359738367, 68719476735, 137438953471, 274877906943, 549755813887, 1099511627775, 2199023255551, 4398046511103, 8796093022207, 17592186044415, 35184372088831, 70368744177663, 140737488355327, 281474976710655, 562949953421311]
theorem payrolllaw7_sane.tab4 : rtab .any (opsOf Try.f18 4) = payrolllaw7_sane.T4 := by kernel_rfl
theorem payrolllaw7_sane.bits4 : waitsOk payrolllaw7_sane.T4.2 payrolllaw7_sane.B4 = true := by kernel_rfl
set_option maxHeartbeats 8000000 in
set_option maxRecDepth 100000 in
theorem payrolllaw7_sane.calls (k : Nat)  (r : Bool) (w : World) (h : payrolllaw7_sane.f k  = some r) (hT : r = true := by first | rfl | exact HT.out) :
  Calls Try.prog 18 #[] w fun e w' => e = .returned (.bool r) ∧ Below w.heap.size w w' := by
 have HT := Aside0.mk hT
 clear hT
 have hu26 := Try.underlying26
 have hu55 := Try.underlying55
 have HB := Aside0.mk (Below.refl w.heap.size w)
 have H : ((payrolllaw7_some.f).bind fun bt290 => ((records_Encode.f k bt290.1 bt290.2.1 bt290.2.2.1 bt290.2.2.2.1 bt290.2.2.2.2.1 bt290.2.2.2.2.2.1 bt290.2.2.2.2.2.2).bind fun bt297 => ((some (([1, 2, 3] : List Int) : List Int)).bind fun y301 => (if y301.length + bt297.1.length < 140737488355328 then ((records_Decode.f k (y301 ++ bt297.1)).bind fun bt307 => ((records_Encode.f k 0 0 0 0 0 0 0).bind fun bt314 => (if bt297.2 = 0 then (if (bt297.1.length : Int) = 24 then (if (bt307.1.length : Int) = 1 then (if 0 < (bt307.1.length : Int) then ((payrolllaw7_some.f).bind fun bt319 => (if ((((rd_T26 bt307.1 0).f0.f0) == bt319.1 && (((rd_T26 bt307.1 0).f0.f1) == bt319.2.1)) && (((rd_T26 bt307.1 0).f1) == bt319.2.2.1 && (((rd_T26 bt307.1 0).f2) == bt319.2.2.2.1 && (((rd_T26 bt307.1 0).f3) == bt319.2.2.2.2.1 && ((((rd_T26 bt307.1 0).f4.f0) == bt319.2.2.2.2.2.1 && (((rd_T26 bt307.1 0).f4.f1) == bt319.2.2.2.2.2.2))))))) = true then (if (bt307.2.1.length : Int) = 1 then (if 0 < (bt307.2.1.length : Int) then (if (((rd_T55 bt307.2.1 0).f0) == 0 && (((rd_T55 bt307.2.1 0).f1) == 3)) = true then (if bt307.2.2 = 27 then (if bt314.2 = 1 then ((records_Sum.f k ([] : List Int)).bind fun t327 => (if t327 = 65535 then ((records_Sum.f k (([49, 50, 51, 52, 53, 54, 55, 56, 57] : List Int))).bind fun t331 => (some (t331 == 10673))) else (some false))) else (some false)) else (some false)) else (some false)) else (none)) else (some false)) else (some false))) else (none)) else (some false)) else (some false)) else (some false)))) else (none))))) = some r := h
 clear h
 replace H := Option.bind_eq_some_iff.mp H
 obtain ⟨⟨t290, t291, t292, t293, t294, t295, t296⟩, A10, H⟩ := H
 replace H : ((records_Encode.f k t290 t291 t292 t293 t294 t295 t296).bind fun bt297 => ((some (([1, 2, 3] : List Int) : List Int)).bind fun y301 => (if y301.length + bt297.1.length < 140737488355328 then ((records_Decode.f k (y301 ++ bt297.1)).bind fun bt307 => ((records_Encode.f k 0 0 0 0 0 0 0).bind fun bt314 => (if bt297.2 = 0 then (if (bt297.1.length : Int) = 24 then (if (bt307.1.length : Int) = 1 then (if 0 < (bt307.1.length : Int) then ((payrolllaw7_some.f).bind fun bt319 => (if ((((rd_T26 bt307.1 0).f0.f0) == bt319.1 && (((rd_T26 bt307.1 0).f0.f1) == bt319.2.1)) && (((rd_T26 bt307.1 0).f1) == bt319.2.2.1 && (((rd_T26 bt307.1 0).f2) == bt319.2.2.2.1 && (((rd_T26 bt307.1 0).f3) == bt319.2.2.2.2.1 && ((((rd_T26 bt307.1 0).f4.f0) == bt319.2.2.2.2.2.1 && (((rd_T26 bt307.1 0).f4.f1) == bt319.2.2.2.2.2.2))))))) = true then (if (bt307.2.1.length : Int) = 1 then (if 0 < (bt307.2.1.length : Int) then (if (((rd_T55 bt307.2.1 0).f0) == 0 && (((rd_T55 bt307.2.1 0).f1) == 3)) = true then (if bt307.2.2 = 27 then (if bt314.2 = 1 then ((records_Sum.f k ([] : List Int)).bind fun t327 => (if t327 = 65535 then ((records_Sum.f k (([49, 50, 51, 52, 53, 54, 55, 56, 57] : List Int))).bind fun t331 => (some (t331 == 10673))) else (some false))) else (some false)) else (some false)) else (some false)) else (none)) else (some false)) else (some false))) else (none)) else (some false)) else (some false)) else (some false)))) else (none)))) = some r := H
 have A1 := Aside0.mk A10
 clear A10
 replace H := Option.bind_eq_some_iff.mp H
 obtain ⟨⟨t297, t300⟩, A20, H⟩ := H
 replace H : ((some (([1, 2, 3] : List Int) : List Int)).bind fun y301 => (if y301.length + t297.length < 140737488355328 then ((records_Decode.f k (y301 ++ t297)).bind fun bt307 => ((records_Encode.f k 0 0 0 0 0 0 0).bind fun bt314 => (if t300 = 0 then (if (t297.length : Int) = 24 then (if (bt307.1.length : Int) = 1 then (if 0 < (bt307.1.length : Int) then ((payrolllaw7_some.f).bind fun bt319 => (if ((((rd_T26 bt307.1 0).f0.f0) == bt319.1 && (((rd_T26 bt307.1 0).f0.f1) == bt319.2.1)) && (((rd_T26 bt307.1 0).f1) == bt319.2.2.1 && (((rd_T26 bt307.1 0).f2) == bt319.2.2.2.1 && (((rd_T26 bt307.1 0).f3) == bt319.2.2.2.2.1 && ((((rd_T26 bt307.1 0).f4.f0) == bt319.2.2.2.2.2.1 && (((rd_T26 bt307.1 0).f4.f1) == bt319.2.2.2.2.2.2))))))) = true then (if (bt307.2.1.length : Int) = 1 then (if 0 < (bt307.2.1.length : Int) then (if (((rd_T55 bt307.2.1 0).f0) == 0 && (((rd_T55 bt307.2.1 0).f1) == 3)) = true then (if bt307.2.2 = 27 then (if bt314.2 = 1 then ((records_Sum.f k ([] : List Int)).bind fun t327 => (if t327 = 65535 then ((records_Sum.f k (([49, 50, 51, 52, 53, 54, 55, 56, 57] : List Int))).bind fun t331 => (some (t331 == 10673))) else (some false))) else (some false)) else (some false)) else (some false)) else (none)) else (some false)) else (some false))) else (none)) else (some false)) else (some false)) else (some false)))) else (none))) = some r := H
 have A2 := Aside0.mk A20
 clear A20
 obtain ⟨y301, hy301⟩ : ∃ y_ : List Int, y_ = (([1, 2, 3] : List Int)) := ⟨_, rfl⟩
 replace H : (if y301.length + t297.length < 140737488355328 then ((records_Decode.f k (y301 ++ t297)).bind fun bt307 => ((records_Encode.f k 0 0 0 0 0 0 0).bind fun bt314 => (if t300 = 0 then (if (t297.length : Int) = 24 then (if (bt307.1.length : Int) = 1 then (if 0 < (bt307.1.length : Int) then ((payrolllaw7_some.f).bind fun bt319 => (if ((((rd_T26 bt307.1 0).f0.f0) == bt319.1 && (((rd_T26 bt307.1 0).f0.f1) == bt319.2.1)) && (((rd_T26 bt307.1 0).f1) == bt319.2.2.1 && (((rd_T26 bt307.1 0).f2) == bt319.2.2.2.1 && (((rd_T26 bt307.1 0).f3) == bt319.2.2.2.2.1 && ((((rd_T26 bt307.1 0).f4.f0) == bt319.2.2.2.2.2.1 && (((rd_T26 bt307.1 0).f4.f1) == bt319.2.2.2.2.2.2))))))) = true then (if (bt307.2.1.length : Int) = 1 then (if 0 < (bt307.2.1.length : Int) then (if (((rd_T55 bt307.2.1 0).f0) == 0 && (((rd_T55 bt307.2.1 0).f1) == 3)) = true then (if bt307.2.2 = 27 then (if bt314.2 = 1 then ((records_Sum.f k ([] : List Int)).bind fun t327 => (if t327 = 65535 then ((records_Sum.f k (([49, 50, 51, 52, 53, 54, 55, 56, 57] : List Int))).bind fun t331 => (some (t331 == 10673))) else (some false))) else (some false)) else (some false)) else (some false)) else (none)) else (some false)) else (some false))) else (none)) else (some false)) else (some false)) else (some false)))) else (none)) = some r := by first | (rw [hy301]; with_reducible exact H) | (have H2_ := (Option.bind_some _ _).symm.trans H; rw [hy301]; with_reducible exact H2_) | (have H2_ := (Option.bind_some _ _).symm.trans H; with_reducible exact H2_) | with_reducible exact H | (rw [hy301]; exact H) | exact H
 have Ny301 := Aside0.mk hy301
 clear hy301
 by_cases c3 : y301.length + t297.length < 140737488355328
 ·
  rw [if_pos c3] at H
  have LMc3 := Aside0.mk c3
  clear c3
  obtain ⟨y304, hy304⟩ : ∃ y_ : List Int, y_ = (y301 ++ t297) := ⟨_, rfl⟩
  replace H : ((records_Decode.f k y304).bind fun bt307 => ((records_Encode.f k 0 0 0 0 0 0 0).bind fun bt314 => (if t300 = 0 then (if (t297.length : Int) = 24 then (if (bt307.1.length : Int) = 1 then (if 0 < (bt307.1.length : Int) then ((payrolllaw7_some.f).bind fun bt319 => (if ((((rd_T26 bt307.1 0).f0.f0) == bt319.1 && (((rd_T26 bt307.1 0).f0.f1) == bt319.2.1)) && (((rd_T26 bt307.1 0).f1) == bt319.2.2.1 && (((rd_T26 bt307.1 0).f2) == bt319.2.2.2.1 && (((rd_T26 bt307.1 0).f3) == bt319.2.2.2.2.1 && ((((rd_T26 bt307.1 0).f4.f0) == bt319.2.2.2.2.2.1 && (((rd_T26 bt307.1 0).f4.f1) == bt319.2.2.2.2.2.2))))))) = true then (if (bt307.2.1.length : Int) = 1 then (if 0 < (bt307.2.1.length : Int) then (if (((rd_T55 bt307.2.1 0).f0) == 0 && (((rd_T55 bt307.2.1 0).f1) == 3)) = true then (if bt307.2.2 = 27 then (if bt314.2 = 1 then ((records_Sum.f k ([] : List Int)).bind fun t327 => (if t327 = 65535 then ((records_Sum.f k (([49, 50, 51, 52, 53, 54, 55, 56, 57] : List Int))).bind fun t331 => (some (t331 == 10673))) else (some false))) else (some false)) else (some false)) else (some false)) else (none)) else (some false)) else (some false))) else (none)) else (some false)) else (some false)) else (some false)))) = some r := by first | (rw [hy304]; with_reducible exact H) | (have H2_ := (Option.bind_some _ _).symm.trans H; rw [hy304]; with_reducible exact H2_) | (have H2_ := (Option.bind_some _ _).symm.trans H; with_reducible exact H2_) | with_reducible exact H | (rw [hy304]; exact H) | exact H
  have Ny304 := Aside0.mk hy304
  clear hy304
  replace H := Option.bind_eq_some_iff.mp H
  obtain ⟨⟨t307, t308, t309⟩, A40, H⟩ := H
  replace H : ((records_Encode.f k 0 0 0 0 0 0 0).bind fun bt314 => (if t300 = 0 then (if (t297.length : Int) = 24 then (if (t307.length : Int) = 1 then (if 0 < (t307.length : Int) then ((payrolllaw7_some.f).bind fun bt319 => (if ((((rd_T26 t307 0).f0.f0) == bt319.1 && (((rd_T26 t307 0).f0.f1) == bt319.2.1)) && (((rd_T26 t307 0).f1) == bt319.2.2.1 && (((rd_T26 t307 0).f2) == bt319.2.2.2.1 && (((rd_T26 t307 0).f3) == bt319.2.2.2.2.1 && ((((rd_T26 t307 0).f4.f0) == bt319.2.2.2.2.2.1 && (((rd_T26 t307 0).f4.f1) == bt319.2.2.2.2.2.2))))))) = true then (if (t308.length : Int) = 1 then (if 0 < (t308.length : Int) then (if (((rd_T55 t308 0).f0) == 0 && (((rd_T55 t308 0).f1) == 3)) = true then (if t309 = 27 then (if bt314.2 = 1 then ((records_Sum.f k ([] : List Int)).bind fun t327 => (if t327 = 65535 then ((records_Sum.f k (([49, 50, 51, 52, 53, 54, 55, 56, 57] : List Int))).bind fun t331 => (some (t331 == 10673))) else (some false))) else (some false)) else (some false)) else (some false)) else (none)) else (some false)) else (some false))) else (none)) else (some false)) else (some false)) else (some false))) = some r := H
  have A4 := Aside0.mk A40
  clear A40
  replace H := Option.bind_eq_some_iff.mp H
  obtain ⟨⟨t314, t317⟩, A50, H⟩ := H
  replace H : (if t300 = 0 then (if (t297.length : Int) = 24 then (if (t307.length : Int) = 1 then (if 0 < (t307.length : Int) then ((payrolllaw7_some.f).bind fun bt319 => (if ((((rd_T26 t307 0).f0.f0) == bt319.1 && (((rd_T26 t307 0).f0.f1) == bt319.2.1)) && (((rd_T26 t307 0).f1) == bt319.2.2.1 && (((rd_T26 t307 0).f2) == bt319.2.2.2.1 && (((rd_T26 t307 0).f3) == bt319.2.2.2.2.1 && ((((rd_T26 t307 0).f4.f0) == bt319.2.2.2.2.2.1 && (((rd_T26 t307 0).f4.f1) == bt319.2.2.2.2.2.2))))))) = true then (if (t308.length : Int) = 1 then (if 0 < (t308.length : Int) then (if (((rd_T55 t308 0).f0) == 0 && (((rd_T55 t308 0).f1) == 3)) = true then (if t309 = 27 then (if t317 = 1 then ((records_Sum.f k ([] : List Int)).bind fun t327 => (if t327 = 65535 then ((records_Sum.f k (([49, 50, 51, 52, 53, 54, 55, 56, 57] : List Int))).bind fun t331 => (some (t331 == 10673))) else (some false))) else (some false)) else (some false)) else (some false)) else (none)) else (some false)) else (some false))) else (none)) else (some false)) else (some false)) else (some false)) = some r := H
  have A5 := Aside0.mk A50
  clear A50
  by_cases c6 : t300 = 0
  ·
   rw [if_pos c6] at H
   have c6b0 : (t300 == 0) = true := beq_iff_eq.mpr c6
   have c6b1 : (t300 != 0) = false := bne_eq_false_iff_eq.mpr c6
   clear c6
   by_cases c7 : (t297.length : Int) = 24
   ·
    rw [if_pos c7] at H
    have c7b0 : ((t297.length : Int) == 24) = true := beq_iff_eq.mpr c7
    have c7b1 : ((t297.length : Int) != 24) = false := bne_eq_false_iff_eq.mpr c7
    clear c7
    by_cases c8 : (t307.length : Int) = 1
    ·
     rw [if_pos c8] at H
     have c8b0 : ((t307.length : Int) == 1) = true := beq_iff_eq.mpr c8
     have c8b1 : ((t307.length : Int) != 1) = false := bne_eq_false_iff_eq.mpr c8
     clear c8
     by_cases c9 : 0 < (t307.length : Int)
     ·
      rw [if_pos c9] at H
      have c9b0 : decide (0 < (t307.length : Int)) = true := decide_eq_true c9
      have c9b1 : decide (0 < t307.length) = true := decide_eq_true (by omega)
      clear c9
      replace H := Option.bind_eq_some_iff.mp H
      obtain ⟨⟨t319, t320, t321, t322, t323, t324, t325⟩, A100, H⟩ := H
      replace H : (if ((((rd_T26 t307 0).f0.f0) == t319 && (((rd_T26 t307 0).f0.f1) == t320)) && (((rd_T26 t307 0).f1) == t321 && (((rd_T26 t307 0).f2) == t322 && (((rd_T26 t307 0).f3) == t323 && ((((rd_T26 t307 0).f4.f0) == t324 && (((rd_T26 t307 0).f4.f1) == t325))))))) = true then (if (t308.length : Int) = 1 then (if 0 < (t308.length : Int) then (if (((rd_T55 t308 0).f0) == 0 && (((rd_T55 t308 0).f1) == 3)) = true then (if t309 = 27 then (if t317 = 1 then ((records_Sum.f k ([] : List Int)).bind fun t327 => (if t327 = 65535 then ((records_Sum.f k (([49, 50, 51, 52, 53, 54, 55, 56, 57] : List Int))).bind fun t331 => (some (t331 == 10673))) else (some false))) else (some false)) else (some false)) else (some false)) else (none)) else (some false)) else (some false)) = some r := H
      have A10 := Aside0.mk A100
      clear A100
      by_cases c11 : ((((rd_T26 t307 0).f0.f0) == t319 && (((rd_T26 t307 0).f0.f1) == t320)) && (((rd_T26 t307 0).f1) == t321 && (((rd_T26 t307 0).f2) == t322 && (((rd_T26 t307 0).f3) == t323 && ((((rd_T26 t307 0).f4.f0) == t324 && (((rd_T26 t307 0).f4.f1) == t325))))))) = true
      ·
       rw [if_pos c11] at H
       have c11b0 : ((((rd_T26 t307 0).f0.f0) == t319 && (((rd_T26 t307 0).f0.f1) == t320)) && (((rd_T26 t307 0).f1) == t321 && (((rd_T26 t307 0).f2) == t322 && (((rd_T26 t307 0).f3) == t323 && ((((rd_T26 t307 0).f4.f0) == t324 && (((rd_T26 t307 0).f4.f1) == t325))))))) = true := c11
       clear c11
       by_cases c12 : (t308.length : Int) = 1
       ·
        rw [if_pos c12] at H
        have c12b0 : ((t308.length : Int) == 1) = true := beq_iff_eq.mpr c12
        have c12b1 : ((t308.length : Int) != 1) = false := bne_eq_false_iff_eq.mpr c12
        clear c12
        by_cases c13 : 0 < (t308.length : Int)
        ·
         rw [if_pos c13] at H
         have c13b0 : decide (0 < (t308.length : Int)) = true := decide_eq_true c13
         have c13b1 : decide (0 < t308.length) = true := decide_eq_true (by omega)
         clear c13
         by_cases c14 : (((rd_T55 t308 0).f0) == 0 && (((rd_T55 t308 0).f1) == 3)) = true
         ·
          rw [if_pos c14] at H
          have c14b0 : (((rd_T55 t308 0).f0) == 0 && (((rd_T55 t308 0).f1) == 3)) = true := c14
          (try (have c14b1 : decide (((rd_T55 t308 0).f0) = 0 && (((rd_T55 t308 0).f1) == 3)) = true := by simpa using c14))
          (try (have c14b2 : (((rd_T55 t308 0).f0) == 0 && (((rd_T55 t308 0).f1) == 3)) = true := by simpa using c14))
          clear c14
          by_cases c15 : t309 = 27
          ·
           rw [if_pos c15] at H
           have c15b0 : (t309 == 27) = true := beq_iff_eq.mpr c15
           have c15b1 : (t309 != 27) = false := bne_eq_false_iff_eq.mpr c15
           clear c15
           by_cases c16 : t317 = 1
           ·
            rw [if_pos c16] at H
            have c16b0 : (t317 == 1) = true := beq_iff_eq.mpr c16
            have c16b1 : (t317 != 1) = false := bne_eq_false_iff_eq.mpr c16
            clear c16
            replace H := Option.bind_eq_some_iff.mp H
            obtain ⟨t327, A170, H⟩ := H
            replace H : (if t327 = 65535 then ((records_Sum.f k (([49, 50, 51, 52, 53, 54, 55, 56, 57] : List Int))).bind fun t331 => (some (t331 == 10673))) else (some false)) = some r := H
            have A17 := Aside0.mk A170
            clear A170
            by_cases c18 : t327 = 65535
            ·
             rw [if_pos c18] at H
             have c18b0 : (t327 == 65535) = true := beq_iff_eq.mpr c18
             have c18b1 : (t327 != 65535) = false := bne_eq_false_iff_eq.mpr c18
             clear c18
             obtain ⟨y328, hy328⟩ : ∃ y_ : List Int, y_ = (([49, 50, 51, 52, 53, 54, 55, 56, 57] : List Int)) := ⟨_, rfl⟩
             replace H : ((records_Sum.f k y328).bind fun t331 => (some (t331 == 10673))) = some r := by first | (rw [hy328]; with_reducible exact H) | (have H2_ := (Option.bind_some _ _).symm.trans H; rw [hy328]; with_reducible exact H2_) | (have H2_ := (Option.bind_some _ _).symm.trans H; with_reducible exact H2_) | with_reducible exact H | (rw [hy328]; exact H) | exact H
             have Ny328 := Aside0.mk hy328
             clear hy328
             replace H := Option.bind_eq_some_iff.mp H
             obtain ⟨t331, A190, H⟩ := H
             replace H : (some (t331 == 10673)) = some r := H
             have A19 := Aside0.mk A190
             clear A190
             obtain rfl := Option.some.inj H
             go_enter Try.func18, Try.ntmps18
             try go_wp2_with (first | ((with_reducible refine gate_callee (f := 21) rfl ?_); refine goesL_ (some 9) rfl rfl Try.func21 (by kernel_rfl) rfl #[] rfl (by (try simp only [List.map_toArray, List.map_cons, List.map_nil]); first | done | rfl | (simp only [List.length_drop, List.length_take]; rfl)) ?_; (with_reducible refine (payrolllaw7_some.calls  t290 t291 t292 t293 t294 t295 t296 _ A1.out).mono ?_); rintro e w20 ⟨rfl, hb⟩; refine ⟨_, rfl, ?_⟩; have n0_ := Aside0.mk (below_step (by repeat (first | (with_reducible first | exact HB.out | apply below_alloc | apply pw_below_drewN | apply below_drew1) | exact HB.out)) hb); clear HB; have HB := n0_; clear n0_; (try clear hb); (try clear hb2); (try clear hk); (try clear hi)) | ((with_reducible refine gate_callee (f := 12) rfl ?_); refine goesL_ (some 10) rfl rfl Try.func12 (by kernel_rfl) rfl #[.agg #[.int .i64 t290, .int .i64 t291, .int .i64 t292, .int .i64 t293, .int .i64 t294, .int .i64 t295, .int .i64 t296]] rfl (by (try simp only [List.map_toArray, List.map_cons, List.map_nil]); first | done | rfl | (simp only [List.length_drop, List.length_take]; rfl)) ?_; (with_reducible refine (records_Encode.calls k t290 t291 t292 t293 t294 t295 t296 t297 t300 _ A2.out).mono ?_); rintro e w21 ⟨v298, rfl, ho0, hb⟩; refine ⟨_, rfl, ?_⟩; have n0_ := Aside0.mk (Kd.R_lower ho0 (below_size (by repeat (first | (with_reducible first | exact HB.out | apply below_alloc | apply pw_below_drewN | apply below_drew1) | exact HB.out)))); have n1_ := Aside0.mk (below_step (by repeat (first | (with_reducible first | exact HB.out | apply below_alloc | apply pw_below_drewN | apply below_drew1) | exact HB.out)) hb); clear HB; have HO299 := n0_; have HB := n1_; clear n0_ n1_; (try clear hb); (try clear hb2); (try clear hk); (try clear hi); (try clear ho0)) | ((with_reducible refine gate_dst (N := 14) rfl ?_); (try (refine gate_guard (by rfl) ?_; dsimp only)); refine Kd.R_lit (Kd.int .u8) _ 5 ?hg (N := 14) ?hd (xs := ([1, 2, 3] : List Int)) (inner := [.int .u8 1, .int .u8 2, .int .u8 3]) (ok := fun _ => True) (okp := fun _ => True) ?hr ?hp (fun _ hk => hk) trivial (Below.refl _ _) (Nat.le_refl _) (by simp) ?_; (case hd => rfl); (case hg => rfl); (case hr => first | (go_simp; done) | (go_simp; rfl)); (case hp => exact (Reps.one (show Kd.M (Kd.int .u8) _ _ _ 1 [.int .u8 1] from rfl) (Reps.one (show Kd.M (Kd.int .u8) _ _ _ 2 [.int .u8 2] from rfl) (Reps.one (show Kd.M (Kd.int .u8) _ _ _ 3 [.int .u8 3] from rfl) (Reps.none _ _))))); intro v302 w22 ho23 hb hg_ hnew_; clear hg_ hnew_; (first | rw [← Ny301.out] at ho23 | (simp only [Int.reduceToNat] at ho23; rw [← Ny301.out] at ho23)); have n0_ := Aside0.mk (Kd.R_elder' (by (with_reducible repeat (first | apply Kd.R_alloc | apply Kd.R_drewN | apply Kd.R_drew)); exact HO299.out) (Kd.R_base ho23) hb); have n1_ := Aside0.mk (Kd.R_lower (Kd.R_new' ho23 (Kd.R_lt (by (with_reducible repeat (first | apply Kd.R_alloc | apply Kd.R_drewN | apply Kd.R_drew)); exact HO299.out))) (below_size (by repeat (first | (with_reducible first | exact HB.out | apply below_alloc | apply pw_below_drewN | apply below_drew1) | exact HB.out)))); have n2_ := Aside0.mk (below_step (by repeat (first | (with_reducible first | exact HB.out | apply below_alloc | apply pw_below_drewN | apply below_drew1) | exact HB.out)) hb); clear HO299; clear HB; have HO299 := n0_; have HO303 := n1_; have HB := n2_; clear n0_ n1_ n2_; clear hb ho23; obtain ⟨Ao25, co25, eo25⟩ := Kd.R_slice HO299.out; subst eo25) | ((with_reducible refine gate_builtin (b := .append) (xs := #[.tmp 14, .tmp 15]) rfl ?_); (try (refine gate_guard (by rfl) ?_; dsimp only)); at_builtin; refine Kd.R_append_rows (Kd.int .u8) (w0 := w) w.heap.size rfl (.tmp 14) (.tmp 15) 27 5 (.int .u8 0) 1 rfl Try.underlying27 info5 rfl (by decide) (by omega) v302 y301 t297 _ _ _ (fun k_ => some k_ ≠ (.slice Ao25 t297.length co25 : Value).ownBlock) (fun _ => False) rfl rfl ?aO ?aR (fun _ _ h => h) (fun _ h => h.elim) ?aF ?aB ?aS ?aL ?_; (case aR => repeat (first | exact (Kd.R_reads' HO299.out).2.2 | (with_reducible refine Kd.C_alloc ?_ _) | (with_reducible refine Kd.C_drewN ?_ _) | (with_reducible refine Kd.C_drew ?_))); (case aB => exact (by repeat (first | (with_reducible first | exact HB.out | apply below_alloc | apply pw_below_drewN | apply below_drew1) | exact HB.out))); (case aF => exact (fun k_ hk => Kd.fresh' (Kd.R_lt (by (with_reducible repeat (first | apply Kd.R_alloc | apply Kd.R_drewN | apply Kd.R_drew)); exact HO299.out)) k_ hk)); (case aO => exact (by (with_reducible repeat (first | apply Kd.R_alloc | apply Kd.R_drewN | apply Kd.R_drew)); exact Kd.R_mono HO303.out (fun _ hk => hk.2))); (case aS => exact (below_size (by repeat (first | (with_reducible first | exact HB.out | apply below_alloc | apply pw_below_drewN | apply below_drew1) | exact HB.out)))); (case aL => have := LMc3.out; omega); intro v305 w24 ho hb hg hat; rw [← Ny304.out] at ho; have n0_ := Aside0.mk (Kd.R_after (ok := (fun _ => True)) (by (with_reducible repeat (first | apply Kd.R_alloc | apply Kd.R_drewN | apply Kd.R_drew)); exact HO299.out) hg hat); have n1_ := Aside0.mk (hb); have n2_ := Aside0.mk (ho); clear HO299; clear HB; clear HO303; have HO299 := n0_; have HB := n1_; have HO306 := n2_; clear n0_ n1_ n2_; clear ho hb hg hat; obtain ⟨Ao26, co26, eo26⟩ := Kd.R_slice HO306.out; subst eo26) | ((with_reducible refine gate_callee (f := 24) rfl ?_); refine goesL_ (some 17) rfl rfl Try.func24 (by kernel_rfl) rfl #[.slice Ao26 y304.length co26] rfl (by (try simp only [List.map_toArray, List.map_cons, List.map_nil]); first | done | rfl | (simp only [List.length_drop, List.length_take]; rfl)) ?_; (with_reducible refine (records_Decode.calls k _ _ y304 t307 t308 t309 _ ?side1 ?side2 A4.out).mono ?_); (case side1 => repeat (first | exact (Kd.R_reads' HO306.out).2.2 | (with_reducible refine Kd.C_alloc ?_ _) | (with_reducible refine Kd.C_drewN ?_ _) | (with_reducible refine Kd.C_drew ?_))); (case side2 => exact (Kd.R_reads' HO306.out).2.1); rintro e w27 ⟨v310, v312, rfl, ho0, ho1, hb⟩; refine ⟨_, rfl, ?_⟩; have n0_ := Aside0.mk (Kd.R_below (by (with_reducible repeat (first | apply Kd.R_alloc | apply Kd.R_drewN | apply Kd.R_drew)); exact HO299.out) hb); have n1_ := Aside0.mk (Kd.R_below (by (with_reducible repeat (first | apply Kd.R_alloc | apply Kd.R_drewN | apply Kd.R_drew)); exact HO306.out) hb); have n2_ := Aside0.mk (Kd.R_lower ho0 (below_size (by repeat (first | (with_reducible first | exact HB.out | apply below_alloc | apply pw_below_drewN | apply below_drew1) | exact HB.out)))); have n3_ := Aside0.mk (Kd.R_lower ho1 (below_size (by repeat (first | (with_reducible first | exact HB.out | apply below_alloc | apply pw_below_drewN | apply below_drew1) | exact HB.out)))); have n4_ := Aside0.mk (below_step (by repeat (first | (with_reducible first | exact HB.out | apply below_alloc | apply pw_below_drewN | apply below_drew1) | exact HB.out)) hb); clear HO299; clear HO306; clear HB; have HO299 := n0_; have HO306 := n1_; have HO311 := n2_; have HO313 := n3_; have HB := n4_; clear n0_ n1_ n2_ n3_ n4_; (try clear hb); (try clear hb2); (try clear hk); (try clear hi); (try clear ho0); (try clear ho1)) | ((with_reducible refine gate_callee (f := 12) rfl ?_); refine goesL_ (some 23) rfl rfl Try.func12 (by kernel_rfl) rfl #[.agg #[.int .i64 0, .int .i64 0, .int .i64 0, .int .i64 0, .int .i64 0, .int .i64 0, .int .i64 0]] rfl (by (try simp only [List.map_toArray, List.map_cons, List.map_nil]); first | done | rfl | (simp only [List.length_drop, List.length_take]; rfl)) ?_; (with_reducible refine (records_Encode.calls k 0 0 0 0 0 0 0 t314 t317 _ A5.out).mono ?_); rintro e w28 ⟨v315, rfl, ho0, hb⟩; refine ⟨_, rfl, ?_⟩; have n0_ := Aside0.mk (Kd.R_elder' (by (with_reducible repeat (first | apply Kd.R_alloc | apply Kd.R_drewN | apply Kd.R_drew)); exact HO299.out) (Kd.R_base ho0) hb); have n1_ := Aside0.mk (Kd.R_elder' (by (with_reducible repeat (first | apply Kd.R_alloc | apply Kd.R_drewN | apply Kd.R_drew)); exact HO306.out) (Kd.R_base ho0) hb); have n2_ := Aside0.mk (Kd.R_below (by (with_reducible repeat (first | apply Kd.R_alloc | apply Kd.R_drewN | apply Kd.R_drew)); exact HO311.out) hb); have n3_ := Aside0.mk (Kd.R_below (by (with_reducible repeat (first | apply Kd.R_alloc | apply Kd.R_drewN | apply Kd.R_drew)); exact HO313.out) hb); have n4_ := Aside0.mk (Kd.R_lower (Kd.R_new' (Kd.R_new' ho0 (Kd.R_lt (by (with_reducible repeat (first | apply Kd.R_alloc | apply Kd.R_drewN | apply Kd.R_drew)); exact HO299.out))) (Kd.R_lt (by (with_reducible repeat (first | apply Kd.R_alloc | apply Kd.R_drewN | apply Kd.R_drew)); exact HO306.out))) (below_size (by repeat (first | (with_reducible first | exact HB.out | apply below_alloc | apply pw_below_drewN | apply below_drew1) | exact HB.out)))); have n5_ := Aside0.mk (below_step (by repeat (first | (with_reducible first | exact HB.out | apply below_alloc | apply pw_below_drewN | apply below_drew1) | exact HB.out)) hb); clear HO299; clear HO306; clear HO311; clear HO313; clear HB; have HO299 := n0_; have HO306 := n1_; have HO311 := n2_; have HO313 := n3_; have HO316 := n4_; have HB := n5_; clear n0_ n1_ n2_ n3_ n4_ n5_; (try clear hb); (try clear hb2); (try clear hk); (try clear hi); (try clear ho0)))
             have n0_ := Aside0.mk (Kd.R_drew HO299.out)
             have n1_ := Aside0.mk (Kd.R_drew HO306.out)
             have n2_ := Aside0.mk (Kd.R_drew HO311.out)
             have n3_ := Aside0.mk (Kd.R_drew HO313.out)
             have n4_ := Aside0.mk (Kd.R_drew HO316.out)
             have n5_ := Aside0.mk (below_drew1 HB.out)
             clear HO299
             clear HO306
             clear HO311
             clear HO313
             clear HO316
             clear HB
             have HO299 := n0_
             have HO306 := n1_
             have HO311 := n2_
             have HO313 := n3_
             have HO316 := n4_
             have HB := n5_
             clear n0_ n1_ n2_ n3_ n4_ n5_
             obtain ⟨Ao30, co30, eo30⟩ := Kd.R_slice HO311.out
             (first | subst eo30 | (injection eo30 with f1_ f2_ f3_; have f4_ := f1_.symm; have f5_ := f3_.symm; clear f1_ f2_ f3_; subst f4_; subst f5_))
             have p318 : 0 ≤ (0 : Int) := (by omega)
             have q318 : 0 < (t307.length : Int) := of_decide_eq_true (by first | (with_reducible assumption) | assumption)
             obtain ⟨ad318, e318, hx318_0, hx318_1, hx318_2, hx318_3, hx318_4, hx318_5, hx318_6⟩ := at_T26 (Kd.R_reads' HO311.out).2.2 0 p318 q318
             cases e318
             have qi318 : (0 < t307.length) = True := eq_true (by omega)
             (try rw [show ((0 : Int)).toNat = 0 from rfl] at hx318_0)
             (try rw [show 0 * 7 = 0 from rfl] at hx318_0)
             (try rw [Addr.add_zero'] at hx318_0)
             (try rw [show ((0 : Int)).toNat = 0 from rfl] at hx318_1)
             (try rw [show 0 * 7 = 0 from rfl] at hx318_1)
             (try rw [Addr.add_zero'] at hx318_1)
             (try rw [show ((0 : Int)).toNat = 0 from rfl] at hx318_2)
             (try rw [show 0 * 7 = 0 from rfl] at hx318_2)
             (try rw [Addr.add_zero'] at hx318_2)
             (try rw [show ((0 : Int)).toNat = 0 from rfl] at hx318_3)
             (try rw [show 0 * 7 = 0 from rfl] at hx318_3)
             (try rw [Addr.add_zero'] at hx318_3)
             (try rw [show ((0 : Int)).toNat = 0 from rfl] at hx318_4)
             (try rw [show 0 * 7 = 0 from rfl] at hx318_4)
             (try rw [Addr.add_zero'] at hx318_4)
             (try rw [show ((0 : Int)).toNat = 0 from rfl] at hx318_5)
             (try rw [show 0 * 7 = 0 from rfl] at hx318_5)
             (try rw [Addr.add_zero'] at hx318_5)
             (try rw [show ((0 : Int)).toNat = 0 from rfl] at hx318_6)
             (try rw [show 0 * 7 = 0 from rfl] at hx318_6)
             (try rw [Addr.add_zero'] at hx318_6)
             replace p318 := eq_true p318
             replace q318 := eq_true q318
             obtain ⟨Ao32, co32, eo32⟩ := Kd.R_slice HO313.out
             (first | subst eo32 | (injection eo32 with f1_ f2_ f3_; have f4_ := f1_.symm; have f5_ := f3_.symm; clear f1_ f2_ f3_; subst f4_; subst f5_))
             have p326 : 0 ≤ (0 : Int) := (by omega)
             have q326 : 0 < (t308.length : Int) := of_decide_eq_true (by first | (with_reducible assumption) | assumption)
             obtain ⟨ad326, e326, hx326_0, hx326_1⟩ := at_T55 (Kd.R_reads' HO313.out).2.2 0 p326 q326
             cases e326
             have qi326 : (0 < t308.length) = True := eq_true (by omega)
             (try rw [show ((0 : Int)).toNat = 0 from rfl] at hx326_0)
             (try rw [show 0 * 2 = 0 from rfl] at hx326_0)
             (try rw [Addr.add_zero'] at hx326_0)
             (try rw [show ((0 : Int)).toNat = 0 from rfl] at hx326_1)
             (try rw [show 0 * 2 = 0 from rfl] at hx326_1)
             (try rw [Addr.add_zero'] at hx326_1)
             replace p326 := eq_true p326
             replace q326 := eq_true q326
             refine start_ (n := 50) (S := fun w' => w'.cell? ad318 = some (.int .i64 ((rd_T26 t307 0).f0.f0)) ∧ w'.cell? ⟨ad318.block, ad318.off + 1, none⟩ = some (.int .i64 ((rd_T26 t307 0).f0.f1)) ∧ w'.cell? ⟨ad318.block, ad318.off + 2, none⟩ = some (.int .i64 ((rd_T26 t307 0).f1)) ∧ w'.cell? ⟨ad318.block, ad318.off + 3, none⟩ = some (.int .i64 ((rd_T26 t307 0).f2)) ∧ w'.cell? ⟨ad318.block, ad318.off + 4, none⟩ = some (.int .i64 ((rd_T26 t307 0).f3)) ∧ w'.cell? ⟨ad318.block, ad318.off + 5, none⟩ = some (.int .i64 ((rd_T26 t307 0).f4.f0)) ∧ w'.cell? ⟨ad318.block, ad318.off + 6, none⟩ = some (.int .i64 ((rd_T26 t307 0).f4.f1)) ∧ w'.cell? ad326 = some (.int .i64 ((rd_T55 t308 0).f0)) ∧ w'.cell? ⟨ad326.block, ad326.off + 1, none⟩ = some (.int .i64 ((rd_T55 t308 0).f1))) (ds := []) #[false, false, false, false, false, false, false, false, false, false, false, false, false, false, false, false, false, false, false, false, false, false, false, false, false, false, false, false, false, false, false, false, false, false, false, false, false, false, false, false, false, false, false, false, false, false, false, false, false, false] (by kernel_rfl) rfl rfl ⟨hx318_0, hx318_1, hx318_2, hx318_3, hx318_4, hx318_5, hx318_6, hx326_0, hx326_1⟩ (fun hHeld => ?_); refine with_tabW payrolllaw7_sane.tab4 payrolllaw7_sane.bits4 (fun HT_ HW_ => ?_)
             generalize w28.drew = w29 at HO299 HO306 HO311 HO313 HO316 HB hx318_0 hx318_1 hx318_2 hx318_3 hx318_4 hx318_5 hx318_6 hx326_0 hx326_1 hHeld ⊢
             refine pure_ (i := 0) (N := some 26) (v := ?_) (a' := ?_) #[true, false, false, false, false, false, false, false, false, false, false, false, false, false, false, false, false, false, false, false, false, false, false, false, false, false, false, false, false, false, false, false, false, false, false, false, false, false, false, false, false, false, false, false, false, false, false, false, false, false] rfl rfl (any_of HT_.out (by kernel_rfl)) (fun _ _ _ h => h) (Or.inl ⟨by rfl, ?_⟩) ?_ ?_
             rotate_left
             ·
              intro w'
              go_simp
              with_reducible rfl
             rotate_left
             ·
              simp only [Act.put, List.setIfInBounds_toArray, List.set_cons_zero, List.set_cons_succ, i64_w, i32_w]
              rfl
             refine pure_ (i := 1) (N := some 27) (v := ?_) (a' := ?_) #[true, true, false, false, false, false, false, false, false, false, false, false, false, false, false, false, false, false, false, false, false, false, false, false, false, false, false, false, false, false, false, false, false, false, false, false, false, false, false, false, false, false, false, false, false, false, false, false, false, false] rfl rfl (any_of HT_.out (by kernel_rfl)) (fun _ _ _ h => h) (Or.inl ⟨by rfl, ?_⟩) ?_ ?_
             rotate_left
             ·
              intro w'
              go_simp
              with_reducible rfl
             rotate_left
             ·
              simp only [Act.put, List.setIfInBounds_toArray, List.set_cons_zero, List.set_cons_succ, i64_w, i32_w]
              rfl
             refine pure_ (i := 2) (N := some 28) (v := ?_) (a' := ?_) #[true, true, true, false, false, false, false, false, false, false, false, false, false, false, false, false, false, false, false, false, false, false, false, false, false, false, false, false, false, false, false, false, false, false, false, false, false, false, false, false, false, false, false, false, false, false, false, false, false, false] rfl rfl (any_of HT_.out (by kernel_rfl)) (fun _ _ _ h => h) (Or.inl ⟨by rfl, ?_⟩) ?_ ?_
             rotate_left
             ·
              intro w'
              go_simp
              with_reducible rfl
             rotate_left
             ·
              simp only [Act.put, List.setIfInBounds_toArray, List.set_cons_zero, List.set_cons_succ, i64_w, i32_w]
              rfl
             refine pure_ (i := 3) (N := some 29) (v := ?_) (a' := ?_) #[true, true, true, true, false, false, false, false, false, false, false, false, false, false, false, false, false, false, false, false, false, false, false, false, false, false, false, false, false, false, false, false, false, false, false, false, false, false, false, false, false, false, false, false, false, false, false, false, false, false] rfl rfl (any_of HT_.out (by kernel_rfl)) (fun _ _ _ h => h) (Or.inl ⟨by rfl, ?_⟩) ?_ ?_
             rotate_left
             ·
              intro w'
              go_simp
              with_reducible rfl
             rotate_left
             ·
              simp only [Act.put, List.setIfInBounds_toArray, List.set_cons_zero, List.set_cons_succ, i64_w, i32_w]
              rfl
             refine pure_ (i := 4) (N := some 30) (v := ?_) (a' := ?_) #[true, true, true, true, true, false, false, false, false, false, false, false, false, false, false, false, false, false, false, false, false, false, false, false, false, false, false, false, false, false, false, false, false, false, false, false, false, false, false, false, false, false, false, false, false, false, false, false, false, false] rfl rfl (any_of HT_.out (by kernel_rfl)) (fun _ _ _ h => h) (Or.inl ⟨by rfl, ?_⟩) ?_ ?_
             rotate_left
             ·
              intro w'
              go_simp
              with_reducible rfl
             rotate_left
             ·
              simp only [Act.put, List.setIfInBounds_toArray, List.set_cons_zero, List.set_cons_succ, i64_w, i32_w]
              rfl
             refine pure_ (i := 5) (N := some 31) (v := ?_) (a' := ?_) #[true, true, true, true, true, true, false, false, false, false, false, false, false, false, false, false, false, false, false, false, false, false, false, false, false, false, false, false, false, false, false, false, false, false, false, false, false, false, false, false, false, false, false, false, false, false, false, false, false, false] rfl rfl (any_of HT_.out (by kernel_rfl)) (fun _ _ _ h => h) (Or.inl ⟨by rfl, ?_⟩) ?_ ?_
             rotate_left
             ·
              intro w'
              go_simp
              with_reducible rfl
             rotate_left
             ·
              simp only [Act.put, List.setIfInBounds_toArray, List.set_cons_zero, List.set_cons_succ, i64_w, i32_w]
              rfl
             refine pure_ (i := 6) (N := some 32) (v := ?_) (a' := ?_) #[true, true, true, true, true, true, true, false, false, false, false, false, false, false, false, false, false, false, false, false, false, false, false, false, false, false, false, false, false, false, false, false, false, false, false, false, false, false, false, false, false, false, false, false, false, false, false, false, false, false] rfl rfl (any_of HT_.out (by kernel_rfl)) (fun _ _ _ h => h) (Or.inl ⟨by rfl, ?_⟩) ?_ ?_
             rotate_left
             ·
              intro w'
              go_simp
              with_reducible rfl
             rotate_left
             ·
              simp only [Act.put, List.setIfInBounds_toArray, List.set_cons_zero, List.set_cons_succ, i64_w, i32_w]
              rfl
             refine pure_ (i := 7) (N := some 33) (v := ?_) (a' := ?_) #[true, true, true, true, true, true, true, true, false, false, false, false, false, false, false, false, false, false, false, false, false, false, false, false, false, false, false, false, false, false, false, false, false, false, false, false, false, false, false, false, false, false, false, false, false, false, false, false, false, false] rfl rfl (any_of HT_.out (by kernel_rfl)) (fun _ _ _ h => h) (Or.inl ⟨by rfl, ?_⟩) ?_ ?_
             rotate_left
             ·
              intro w'
              go_simp
              with_reducible rfl
             rotate_left
             ·
              simp only [Act.put, List.setIfInBounds_toArray, List.set_cons_zero, List.set_cons_succ, i64_w, i32_w]
              rfl
             refine pure_ (i := 8) (N := some 34) (v := ?_) (a' := ?_) #[true, true, true, true, true, true, true, true, true, false, false, false, false, false, false, false, false, false, false, false, false, false, false, false, false, false, false, false, false, false, false, false, false, false, false, false, false, false, false, false, false, false, false, false, false, false, false, false, false, false] rfl rfl (any_of HT_.out (by kernel_rfl)) (fun _ _ _ h => h) (Or.inl ⟨by rfl, ?_⟩) ?_ ?_
             rotate_left
             ·
              intro w'
              go_simp
              with_reducible rfl
             rotate_left
             ·
              simp only [Act.put, List.setIfInBounds_toArray, List.set_cons_zero, List.set_cons_succ, i64_w, i32_w]
              rfl
             refine pure_ (i := 9) (N := some 35) (v := ?_) (a' := ?_) #[true, true, true, true, true, true, true, true, true, true, false, false, false, false, false, false, false, false, false, false, false, false, false, false, false, false, false, false, false, false, false, false, false, false, false, false, false, false, false, false, false, false, false, false, false, false, false, false, false, false] rfl rfl (any_of HT_.out (by kernel_rfl)) (fun _ _ _ h => h) (Or.inl ⟨by rfl, ?_⟩) ?_ ?_
             rotate_left
             ·
              intro w'
              go_simp
              with_reducible rfl
             rotate_left
             ·
              simp only [Act.put, List.setIfInBounds_toArray, List.set_cons_zero, List.set_cons_succ, i64_w, i32_w]
              rfl
             refine pure_ (i := 10) (N := some 36) (v := ?_) (a' := ?_) #[true, true, true, true, true, true, true, true, true, true, true, false, false, false, false, false, false, false, false, false, false, false, false, false, false, false, false, false, false, false, false, false, false, false, false, false, false, false, false, false, false, false, false, false, false, false, false, false, false, false] rfl rfl (any_of HT_.out (by kernel_rfl)) (fun _ _ _ h => h) (Or.inl ⟨by rfl, ?_⟩) ?_ ?_
             rotate_left
             ·
              intro w'
              go_simp
              with_reducible rfl
             rotate_left
             ·
              simp only [Act.put, List.setIfInBounds_toArray, List.set_cons_zero, List.set_cons_succ, i64_w, i32_w]
              rfl
             refine pure_ (i := 11) (N := some 37) (v := ?_) (a' := ?_) #[true, true, true, true, true, true, true, true, true, true, true, true, false, false, false, false, false, false, false, false, false, false, false, false, false, false, false, false, false, false, false, false, false, false, false, false, false, false, false, false, false, false, false, false, false, false, false, false, false, false] rfl rfl (any_of HT_.out (by kernel_rfl)) (fun _ _ _ h => h) (Or.inl ⟨by rfl, ?_⟩) ?_ ?_
             rotate_left
             ·
              intro w'
              go_simp
              with_reducible rfl
             rotate_left
             ·
              simp only [Act.put, List.setIfInBounds_toArray, List.set_cons_zero, List.set_cons_succ, i64_w, i32_w]
              rfl
             refine pure_ (i := 12) (N := some 38) (v := ?_) (a' := ?_) #[true, true, true, true, true, true, true, true, true, true, true, true, true, false, false, false, false, false, false, false, false, false, false, false, false, false, false, false, false, false, false, false, false, false, false, false, false, false, false, false, false, false, false, false, false, false, false, false, false, false] rfl rfl (any_of HT_.out (by kernel_rfl)) (fun _ _ _ h => h) (Or.inl ⟨by rfl, ?_⟩) ?_ ?_
             rotate_left
             ·
              intro w'
              go_simp
              with_reducible rfl
             rotate_left
             ·
              simp only [Act.put, List.setIfInBounds_toArray, List.set_cons_zero, List.set_cons_succ, i64_w, i32_w]
              rfl
             refine pure_ (i := 13) (N := some 39) (v := ?_) (a' := ?_) #[true, true, true, true, true, true, true, true, true, true, true, true, true, true, false, false, false, false, false, false, false, false, false, false, false, false, false, false, false, false, false, false, false, false, false, false, false, false, false, false, false, false, false, false, false, false, false, false, false, false] rfl rfl (any_of HT_.out (by kernel_rfl)) (fun _ _ _ h => h) (Or.inl ⟨by rfl, ?_⟩) ?_ ?_
             rotate_left
             ·
              intro w'
              go_simp
              with_reducible rfl
             rotate_left
             ·
              simp only [Act.put, List.setIfInBounds_toArray, List.set_cons_zero, List.set_cons_succ, i64_w, i32_w]
              rfl
             refine pure_ (i := 14) (N := some 40) (v := ?_) (a' := ?_) #[true, true, true, true, true, true, true, true, true, true, true, true, true, true, true, false, false, false, false, false, false, false, false, false, false, false, false, false, false, false, false, false, false, false, false, false, false, false, false, false, false, false, false, false, false, false, false, false, false, false] rfl rfl (any_of HT_.out (by kernel_rfl)) (fun _ _ _ h => h) (Or.inl ⟨by rfl, ?_⟩) ?_ ?_
             rotate_left
             ·
              intro w'
              go_simp
              with_reducible rfl
             rotate_left
             ·
              simp only [Act.put, List.setIfInBounds_toArray, List.set_cons_zero, List.set_cons_succ, i64_w, i32_w]
              rfl
             refine take_ (i := 15) (N := some 41) (v := ?_) (a' := ?_) #[true, true, true, true, true, true, true, true, true, true, true, true, true, true, true, true, false, false, false, false, false, false, false, false, false, false, false, false, false, false, false, false, false, false, false, false, false, false, false, false, false, false, false, false, false, false, false, false, false, false] rfl rfl (take_ofW HT_.out HW_.out (by kernel_rfl)) (fun _ _ _ h => h) (Or.inl ⟨by rfl, ?_⟩) hHeld ?_ ?_
             rotate_left
             ·
              rintro w' ⟨s0, s1, s2, s3, s4, s5, s6, s7, s8⟩
              go_simp
              with_reducible rfl
             rotate_left
             ·
              simp only [Act.put, List.setIfInBounds_toArray, List.set_cons_zero, List.set_cons_succ, i64_w, i32_w]
              rfl
             refine one_ (i := 16) (N := some 42) #[true, true, true, true, true, true, true, true, true, true, true, true, true, true, true, true, true, false, false, false, false, false, false, false, false, false, false, false, false, false, false, false, false, false, false, false, false, false, false, false, false, false, false, false, false, false, false, false, false, false] rfl rfl (one_of HT_.out (by kernel_rfl)) (by decide) (fun K hK => ?_)
             refine goes_ Try.func21 (by kernel_rfl) rfl #[] (by rfl) rfl rfl (by (try simp only [List.map_toArray, List.map_cons, List.map_nil]); first | done | rfl | (simp only [List.length_drop, List.length_take]; rfl)) ?_
             with_reducible refine (payrolllaw7_some.calls  t319 t320 t321 t322 t323 t324 t325 _ A10.out).mono ?_
             rintro e w31 ⟨rfl, hb⟩
             have HS0_ := (hb.cell (World.block_lt_of_cell? _ _ (hHeld.1))).trans (hHeld.1)
             have HS1_ := (hb.cell (World.block_lt_of_cell? _ _ (hHeld.2.1))).trans (hHeld.2.1)
             have HS2_ := (hb.cell (World.block_lt_of_cell? _ _ (hHeld.2.2.1))).trans (hHeld.2.2.1)
             have HS3_ := (hb.cell (World.block_lt_of_cell? _ _ (hHeld.2.2.2.1))).trans (hHeld.2.2.2.1)
             have HS4_ := (hb.cell (World.block_lt_of_cell? _ _ (hHeld.2.2.2.2.1))).trans (hHeld.2.2.2.2.1)
             have HS5_ := (hb.cell (World.block_lt_of_cell? _ _ (hHeld.2.2.2.2.2.1))).trans (hHeld.2.2.2.2.2.1)
             have HS6_ := (hb.cell (World.block_lt_of_cell? _ _ (hHeld.2.2.2.2.2.2.1))).trans (hHeld.2.2.2.2.2.2.1)
             have HS7_ := (hb.cell (World.block_lt_of_cell? _ _ (hHeld.2.2.2.2.2.2.2.1))).trans (hHeld.2.2.2.2.2.2.2.1)
             have HS8_ := (hb.cell (World.block_lt_of_cell? _ _ (hHeld.2.2.2.2.2.2.2.2))).trans (hHeld.2.2.2.2.2.2.2.2)
             refine ⟨_, rfl, ?_⟩
             have n0_ := Aside0.mk (Kd.R_below (by (with_reducible repeat (first | apply Kd.R_alloc | apply Kd.R_drewN | apply Kd.R_drew)); exact HO299.out) hb)
             have n1_ := Aside0.mk (Kd.R_below (by (with_reducible repeat (first | apply Kd.R_alloc | apply Kd.R_drewN | apply Kd.R_drew)); exact HO306.out) hb)
             have n2_ := Aside0.mk (Kd.R_below (by (with_reducible repeat (first | apply Kd.R_alloc | apply Kd.R_drewN | apply Kd.R_drew)); exact HO311.out) hb)
             have n3_ := Aside0.mk (Kd.R_below (by (with_reducible repeat (first | apply Kd.R_alloc | apply Kd.R_drewN | apply Kd.R_drew)); exact HO313.out) hb)
             have n4_ := Aside0.mk (Kd.R_below (by (with_reducible repeat (first | apply Kd.R_alloc | apply Kd.R_drewN | apply Kd.R_drew)); exact HO316.out) hb)
             have n5_ := Aside0.mk (below_step (by repeat (first | (with_reducible first | exact HB.out | apply below_alloc | apply pw_below_drewN | apply below_drew1) | exact HB.out)) hb)
             clear HO299
             clear HO306
             clear HO311
             clear HO313
             clear HO316
             clear HB
             have HO299 := n0_
             have HO306 := n1_
             have HO311 := n2_
             have HO313 := n3_
             have HO316 := n4_
             have HB := n5_
             clear n0_ n1_ n2_ n3_ n4_ n5_
             (try clear hb)
             (try clear hb2)
             (try clear hk)
             (try clear hi)
             refine hK.out _ _ ⟨HS0_, HS1_, HS2_, HS3_, HS4_, HS5_, HS6_, HS7_, HS8_⟩ (fun hHeld => ?_)
             clear hK K
             refine norm_ (a' := ?_) ?_ ?_
             rotate_left
             ·
              show Act.put _ (some 42) _ = _
              simp only [Act.put, List.setIfInBounds_toArray, List.set_cons_zero, List.set_cons_succ, i64_w, i32_w]
              rfl
             refine pure_ (i := 17) (N := some 43) (v := ?_) (a' := ?_) #[true, true, true, true, true, true, true, true, true, true, true, true, true, true, true, true, true, true, false, false, false, false, false, false, false, false, false, false, false, false, false, false, false, false, false, false, false, false, false, false, false, false, false, false, false, false, false, false, false, false] rfl rfl (any_of HT_.out (by kernel_rfl)) (fun _ _ _ h => h) (Or.inl ⟨by rfl, ?_⟩) ?_ ?_
             rotate_left
             ·
              intro w'
              go_simp
              with_reducible rfl
             rotate_left
             ·
              simp only [Act.put, List.setIfInBounds_toArray, List.set_cons_zero, List.set_cons_succ, i64_w, i32_w]
              rfl
             refine pure_ (i := 18) (N := some 44) (v := ?_) (a' := ?_) #[true, true, true, true, true, true, true, true, true, true, true, true, true, true, true, true, true, true, true, false, false, false, false, false, false, false, false, false, false, false, false, false, false, false, false, false, false, false, false, false, false, false, false, false, false, false, false, false, false, false] rfl rfl (any_of HT_.out (by kernel_rfl)) (fun _ _ _ h => h) (Or.inl ⟨by rfl, ?_⟩) ?_ ?_
             rotate_left
             ·
              intro w'
              go_simp
              with_reducible rfl
             rotate_left
             ·
              simp only [Act.put, List.setIfInBounds_toArray, List.set_cons_zero, List.set_cons_succ, i64_w, i32_w]
              rfl
             refine pure_ (i := 19) (N := some 45) (v := ?_) (a' := ?_) #[true, true, true, true, true, true, true, true, true, true, true, true, true, true, true, true, true, true, true, true, false, false, false, false, false, false, false, false, false, false, false, false, false, false, false, false, false, false, false, false, false, false, false, false, false, false, false, false, false, false] rfl rfl (any_of HT_.out (by kernel_rfl)) (fun _ _ _ h => h) (Or.inl ⟨by rfl, ?_⟩) ?_ ?_
             rotate_left
             ·
              intro w'
              go_simp
              with_reducible rfl
             rotate_left
             ·
              simp only [Act.put, List.setIfInBounds_toArray, List.set_cons_zero, List.set_cons_succ, i64_w, i32_w]
              rfl
             refine pure_ (i := 20) (N := some 46) (v := ?_) (a' := ?_) #[true, true, true, true, true, true, true, true, true, true, true, true, true, true, true, true, true, true, true, true, true, false, false, false, false, false, false, false, false, false, false, false, false, false, false, false, false, false, false, false, false, false, false, false, false, false, false, false, false, false] rfl rfl (any_of HT_.out (by kernel_rfl)) (fun _ _ _ h => h) (Or.inl ⟨by rfl, ?_⟩) ?_ ?_
             rotate_left
             ·
              intro w'
              go_simp
              with_reducible rfl
             rotate_left
             ·
              simp only [Act.put, List.setIfInBounds_toArray, List.set_cons_zero, List.set_cons_succ, i64_w, i32_w]
              rfl
             refine pure_ (i := 21) (N := some 47) (v := ?_) (a' := ?_) #[true, true, true, true, true, true, true, true, true, true, true, true, true, true, true, true, true, true, true, true, true, true, false, false, false, false, false, false, false, false, false, false, false, false, false, false, false, false, false, false, false, false, false, false, false, false, false, false, false, false] rfl rfl (any_of HT_.out (by kernel_rfl)) (fun _ _ _ h => h) (Or.inl ⟨by rfl, ?_⟩) ?_ ?_
             rotate_left
             ·
              intro w'
              go_simp
              with_reducible rfl
             rotate_left
             ·
              simp only [Act.put, List.setIfInBounds_toArray, List.set_cons_zero, List.set_cons_succ, i64_w, i32_w]
              rfl
             refine pure_ (i := 22) (N := some 48) (v := ?_) (a' := ?_) #[true, true, true, true, true, true, true, true, true, true, true, true, true, true, true, true, true, true, true, true, true, true, true, false, false, false, false, false, false, false, false, false, false, false, false, false, false, false, false, false, false, false, false, false, false, false, false, false, false, false] rfl rfl (any_of HT_.out (by kernel_rfl)) (fun _ _ _ h => h) (Or.inl ⟨by rfl, ?_⟩) ?_ ?_
             rotate_left
             ·
              intro w'
              go_simp
              with_reducible rfl
             rotate_left
             ·
              simp only [Act.put, List.setIfInBounds_toArray, List.set_cons_zero, List.set_cons_succ, i64_w, i32_w]
              rfl
             refine pure_ (i := 23) (N := some 49) (v := ?_) (a' := ?_) #[true, true, true, true, true, true, true, true, true, true, true, true, true, true, true, true, true, true, true, true, true, true, true, true, false, false, false, false, false, false, false, false, false, false, false, false, false, false, false, false, false, false, false, false, false, false, false, false, false, false] rfl rfl (any_of HT_.out (by kernel_rfl)) (fun _ _ _ h => h) (Or.inl ⟨by rfl, ?_⟩) ?_ ?_
             rotate_left
             ·
              intro w'
              go_simp
              with_reducible rfl
             rotate_left
             ·
              simp only [Act.put, List.setIfInBounds_toArray, List.set_cons_zero, List.set_cons_succ, i64_w, i32_w]
              rfl
             refine pure_ (i := 24) (N := some 50) (v := ?_) (a' := ?_) #[true, true, true, true, true, true, true, true, true, true, true, true, true, true, true, true, true, true, true, true, true, true, true, true, true, false, false, false, false, false, false, false, false, false, false, false, false, false, false, false, false, false, false, false, false, false, false, false, false, false] rfl rfl (any_of HT_.out (by kernel_rfl)) (fun _ _ _ h => h) (Or.inl ⟨by rfl, ?_⟩) ?_ ?_
             rotate_left
             ·
              intro w'
              go_simp
              with_reducible rfl
             rotate_left
             ·
              simp only [Act.put, List.setIfInBounds_toArray, List.set_cons_zero, List.set_cons_succ, i64_w, i32_w]
              rfl
             refine pure_ (i := 25) (N := some 51) (v := ?_) (a' := ?_) #[true, true, true, true, true, true, true, true, true, true, true, true, true, true, true, true, true, true, true, true, true, true, true, true, true, true, false, false, false, false, false, false, false, false, false, false, false, false, false, false, false, false, false, false, false, false, false, false, false, false] rfl rfl (any_of HT_.out (by kernel_rfl)) (fun _ _ _ h => h) (Or.inl ⟨by rfl, ?_⟩) ?_ ?_
             rotate_left
             ·
              intro w'
              go_simp
              with_reducible rfl
             rotate_left
             ·
              simp only [Act.put, List.setIfInBounds_toArray, List.set_cons_zero, List.set_cons_succ, i64_w, i32_w]
              rfl
             refine pure_ (i := 26) (N := some 52) (v := ?_) (a' := ?_) #[true, true, true, true, true, true, true, true, true, true, true, true, true, true, true, true, true, true, true, true, true, true, true, true, true, true, true, false, false, false, false, false, false, false, false, false, false, false, false, false, false, false, false, false, false, false, false, false, false, false] rfl rfl (any_of HT_.out (by kernel_rfl)) (fun _ _ _ h => h) (Or.inl ⟨by rfl, ?_⟩) ?_ ?_
             rotate_left
             ·
              intro w'
              go_simp
              with_reducible rfl
             rotate_left
             ·
              simp only [Act.put, List.setIfInBounds_toArray, List.set_cons_zero, List.set_cons_succ, i64_w, i32_w]
              rfl
             refine pure_ (i := 28) (N := some 54) (v := ?_) (a' := ?_) #[true, true, true, true, true, true, true, true, true, true, true, true, true, true, true, true, true, true, true, true, true, true, true, true, true, true, true, false, true, false, false, false, false, false, false, false, false, false, false, false, false, false, false, false, false, false, false, false, false, false] rfl rfl (any_of HT_.out (by kernel_rfl)) (fun _ _ _ h => h) (Or.inl ⟨by rfl, ?_⟩) ?_ ?_
             rotate_left
             ·
              intro w'
              go_simp
              with_reducible rfl
             rotate_left
             ·
              simp only [Act.put, List.setIfInBounds_toArray, List.set_cons_zero, List.set_cons_succ, i64_w, i32_w]
              rfl
             refine take_ (i := 27) (N := some 53) (v := ?_) (a' := ?_) #[true, true, true, true, true, true, true, true, true, true, true, true, true, true, true, true, true, true, true, true, true, true, true, true, true, true, true, true, true, false, false, false, false, false, false, false, false, false, false, false, false, false, false, false, false, false, false, false, false, false] rfl rfl (take_ofW HT_.out HW_.out (by kernel_rfl)) (fun _ _ _ h => h) (Or.inl ⟨by rfl, ?_⟩) hHeld ?_ ?_
             rotate_left
             ·
              rintro w' ⟨s0, s1, s2, s3, s4, s5, s6, s7, s8⟩
              go_simp
              with_reducible rfl
             rotate_left
             ·
              simp only [Act.put, List.setIfInBounds_toArray, List.set_cons_zero, List.set_cons_succ, i64_w, i32_w]
              rfl
             refine pure_ (i := 29) (N := some 55) (v := ?_) (a' := ?_) #[true, true, true, true, true, true, true, true, true, true, true, true, true, true, true, true, true, true, true, true, true, true, true, true, true, true, true, true, true, true, false, false, false, false, false, false, false, false, false, false, false, false, false, false, false, false, false, false, false, false] rfl rfl (any_of HT_.out (by kernel_rfl)) (fun _ _ _ h => h) (Or.inl ⟨by rfl, ?_⟩) ?_ ?_
             rotate_left
             ·
              intro w'
              go_simp
              with_reducible rfl
             rotate_left
             ·
              simp only [Act.put, List.setIfInBounds_toArray, List.set_cons_zero, List.set_cons_succ, i64_w, i32_w]
              rfl
             refine pure_ (i := 30) (N := some 56) (v := ?_) (a' := ?_) #[true, true, true, true, true, true, true, true, true, true, true, true, true, true, true, true, true, true, true, true, true, true, true, true, true, true, true, true, true, true, true, false, false, false, false, false, false, false, false, false, false, false, false, false, false, false, false, false, false, false] rfl rfl (any_of HT_.out (by kernel_rfl)) (fun _ _ _ h => h) (Or.inl ⟨by rfl, ?_⟩) ?_ ?_
             rotate_left
             ·
              intro w'
              go_simp
              with_reducible rfl
             rotate_left
             ·
              simp only [Act.put, List.setIfInBounds_toArray, List.set_cons_zero, List.set_cons_succ, i64_w, i32_w]
              rfl
             refine pure_ (i := 31) (N := some 57) (v := ?_) (a' := ?_) #[true, true, true, true, true, true, true, true, true, true, true, true, true, true, true, true, true, true, true, true, true, true, true, true, true, true, true, true, true, true, true, true, false, false, false, false, false, false, false, false, false, false, false, false, false, false, false, false, false, false] rfl rfl (any_of HT_.out (by kernel_rfl)) (fun _ _ _ h => h) (Or.inl ⟨by rfl, ?_⟩) ?_ ?_
             rotate_left
             ·
              intro w'
              go_simp
              with_reducible rfl
             rotate_left
             ·
              simp only [Act.put, List.setIfInBounds_toArray, List.set_cons_zero, List.set_cons_succ, i64_w, i32_w]
              rfl
             refine pure_ (i := 32) (N := some 58) (v := ?_) (a' := ?_) #[true, true, true, true, true, true, true, true, true, true, true, true, true, true, true, true, true, true, true, true, true, true, true, true, true, true, true, true, true, true, true, true, true, false, false, false, false, false, false, false, false, false, false, false, false, false, false, false, false, false] rfl rfl (any_of HT_.out (by kernel_rfl)) (fun _ _ _ h => h) (Or.inl ⟨by rfl, ?_⟩) ?_ ?_
             rotate_left
             ·
              intro w'
              go_simp
              with_reducible rfl
             rotate_left
             ·
              simp only [Act.put, List.setIfInBounds_toArray, List.set_cons_zero, List.set_cons_succ, i64_w, i32_w]
              rfl
             refine pure_ (i := 33) (N := some 59) (v := ?_) (a' := ?_) #[true, true, true, true, true, true, true, true, true, true, true, true, true, true, true, true, true, true, true, true, true, true, true, true, true, true, true, true, true, true, true, true, true, true, false, false, false, false, false, false, false, false, false, false, false, false, false, false, false, false] rfl rfl (any_of HT_.out (by kernel_rfl)) (fun _ _ _ h => h) (Or.inl ⟨by rfl, ?_⟩) ?_ ?_
             rotate_left
             ·
              intro w'
              go_simp
              with_reducible rfl
             rotate_left
             ·
              simp only [Act.put, List.setIfInBounds_toArray, List.set_cons_zero, List.set_cons_succ, i64_w, i32_w]
              rfl
             refine pure_ (i := 34) (N := some 60) (v := ?_) (a' := ?_) #[true, true, true, true, true, true, true, true, true, true, true, true, true, true, true, true, true, true, true, true, true, true, true, true, true, true, true, true, true, true, true, true, true, true, true, false, false, false, false, false, false, false, false, false, false, false, false, false, false, false] rfl rfl (any_of HT_.out (by kernel_rfl)) (fun _ _ _ h => h) (Or.inl ⟨by rfl, ?_⟩) ?_ ?_
             rotate_left
             ·
              intro w'
              go_simp
              with_reducible rfl
             rotate_left
             ·
              simp only [Act.put, List.setIfInBounds_toArray, List.set_cons_zero, List.set_cons_succ, i64_w, i32_w]
              rfl
             refine pure_ (i := 35) (N := some 61) (v := ?_) (a' := ?_) #[true, true, true, true, true, true, true, true, true, true, true, true, true, true, true, true, true, true, true, true, true, true, true, true, true, true, true, true, true, true, true, true, true, true, true, true, false, false, false, false, false, false, false, false, false, false, false, false, false, false] rfl rfl (any_of HT_.out (by kernel_rfl)) (fun _ _ _ h => h) (Or.inl ⟨by rfl, ?_⟩) ?_ ?_
             rotate_left
             ·
              intro w'
              go_simp
              with_reducible rfl
             rotate_left
             ·
              simp only [Act.put, List.setIfInBounds_toArray, List.set_cons_zero, List.set_cons_succ, i64_w, i32_w]
              rfl
             refine pure_ (i := 36) (N := some 62) (v := ?_) (a' := ?_) #[true, true, true, true, true, true, true, true, true, true, true, true, true, true, true, true, true, true, true, true, true, true, true, true, true, true, true, true, true, true, true, true, true, true, true, true, true, false, false, false, false, false, false, false, false, false, false, false, false, false] rfl rfl (any_of HT_.out (by kernel_rfl)) (fun _ _ _ h => h) (Or.inl ⟨by rfl, ?_⟩) ?_ ?_
             rotate_left
             ·
              intro w'
              go_simp
              with_reducible rfl
             rotate_left
             ·
              simp only [Act.put, List.setIfInBounds_toArray, List.set_cons_zero, List.set_cons_succ, i64_w, i32_w]
              rfl
             refine pure_ (i := 37) (N := some 63) (v := ?_) (a' := ?_) #[true, true, true, true, true, true, true, true, true, true, true, true, true, true, true, true, true, true, true, true, true, true, true, true, true, true, true, true, true, true, true, true, true, true, true, true, true, true, false, false, false, false, false, false, false, false, false, false, false, false] rfl rfl (any_of HT_.out (by kernel_rfl)) (fun _ _ _ h => h) (Or.inl ⟨by rfl, ?_⟩) ?_ ?_
             rotate_left
             ·
              intro w'
              go_simp
              with_reducible rfl
             rotate_left
             ·
              simp only [Act.put, List.setIfInBounds_toArray, List.set_cons_zero, List.set_cons_succ, i64_w, i32_w]
              rfl
             refine pure_ (i := 38) (N := some 64) (v := ?_) (a' := ?_) #[true, true, true, true, true, true, true, true, true, true, true, true, true, true, true, true, true, true, true, true, true, true, true, true, true, true, true, true, true, true, true, true, true, true, true, true, true, true, true, false, false, false, false, false, false, false, false, false, false, false] rfl rfl (any_of HT_.out (by kernel_rfl)) (fun _ _ _ h => h) (Or.inl ⟨by rfl, ?_⟩) ?_ ?_
             rotate_left
             ·
              intro w'
              go_simp
              with_reducible rfl
             rotate_left
             ·
              simp only [Act.put, List.setIfInBounds_toArray, List.set_cons_zero, List.set_cons_succ, i64_w, i32_w]
              rfl
             refine pure_ (i := 39) (N := some 65) (v := ?_) (a' := ?_) #[true, true, true, true, true, true, true, true, true, true, true, true, true, true, true, true, true, true, true, true, true, true, true, true, true, true, true, true, true, true, true, true, true, true, true, true, true, true, true, true, false, false, false, false, false, false, false, false, false, false] rfl rfl (any_of HT_.out (by kernel_rfl)) (fun _ _ _ h => h) (Or.inl ⟨by rfl, ?_⟩) ?_ ?_
             rotate_left
             ·
              intro w'
              go_simp
              with_reducible rfl
             rotate_left
             ·
              simp only [Act.put, List.setIfInBounds_toArray, List.set_cons_zero, List.set_cons_succ, i64_w, i32_w]
              rfl
             refine one_ (i := 40) (N := some 66) #[true, true, true, true, true, true, true, true, true, true, true, true, true, true, true, true, true, true, true, true, true, true, true, true, true, true, true, true, true, true, true, true, true, true, true, true, true, true, true, true, true, false, false, false, false, false, false, false, false, false] rfl rfl (one_of HT_.out (by kernel_rfl)) (by decide) (fun K hK => ?_)
             refine goes_ Try.func16 (by kernel_rfl) rfl #[.slice none 0 0] (by rfl) rfl rfl (by (try simp only [List.map_toArray, List.map_cons, List.map_nil]); first | done | rfl | (simp only [List.length_drop, List.length_take]; rfl)) ?_
             refine (records_Sum.calls k _ _ ([] : List Int) t327 _ ?side1 ?side2 A17.out).mono ?_
             (case side1 => exact Kd.C_nil _ _)
             (case side2 => exact Nat.le_refl _)
             rintro e wz ⟨rfl, hdz⟩
             refine ⟨_, rfl, ?_⟩
             have HC := fun {a : Addr} {v : Value} (h : World.cell? _ a = some v) => (hdz.below.cell (World.block_lt_of_cell? _ _ h)).trans h
             refine hK.out _ _ ⟨HC hHeld.1, HC hHeld.2.1, HC hHeld.2.2.1, HC hHeld.2.2.2.1, HC hHeld.2.2.2.2.1, HC hHeld.2.2.2.2.2.1, HC hHeld.2.2.2.2.2.2.1, HC hHeld.2.2.2.2.2.2.2.1, HC hHeld.2.2.2.2.2.2.2.2⟩ (fun hHeld => ?_)
             have HB2 := Aside0.mk (below_step HB.out hdz.below)
             clear HB
             have HB := HB2
             clear HB2
             clear hK K HC
             refine norm_ (a' := ?_) ?_ ?_
             rotate_left
             ·
              show Act.put _ (some 66) _ = _
              simp only [Act.put, List.setIfInBounds_toArray, List.set_cons_zero, List.set_cons_succ, i64_w, i32_w]
              rfl
             refine pure_ (i := 41) (N := some 67) (v := ?_) (a' := ?_) #[true, true, true, true, true, true, true, true, true, true, true, true, true, true, true, true, true, true, true, true, true, true, true, true, true, true, true, true, true, true, true, true, true, true, true, true, true, true, true, true, true, true, false, false, false, false, false, false, false, false] rfl rfl (any_of HT_.out (by kernel_rfl)) (fun _ _ _ h => h) (Or.inl ⟨by rfl, ?_⟩) ?_ ?_
             rotate_left
             ·
              intro w'
              go_simp
              with_reducible rfl
             rotate_left
             ·
              simp only [Act.put, List.setIfInBounds_toArray, List.set_cons_zero, List.set_cons_succ, i64_w, i32_w]
              rfl
             refine pure_ (i := 42) (N := some 68) (v := ?_) (a' := ?_) #[true, true, true, true, true, true, true, true, true, true, true, true, true, true, true, true, true, true, true, true, true, true, true, true, true, true, true, true, true, true, true, true, true, true, true, true, true, true, true, true, true, true, true, false, false, false, false, false, false, false] rfl rfl (any_of HT_.out (by kernel_rfl)) (fun _ _ _ h => h) (Or.inl ⟨by rfl, ?_⟩) ?_ ?_
             rotate_left
             ·
              intro w'
              go_simp
              with_reducible rfl
             rotate_left
             ·
              simp only [Act.put, List.setIfInBounds_toArray, List.set_cons_zero, List.set_cons_succ, i64_w, i32_w]
              rfl
             refine pure_ (i := 43) (N := some 69) (v := ?_) (a' := ?_) #[true, true, true, true, true, true, true, true, true, true, true, true, true, true, true, true, true, true, true, true, true, true, true, true, true, true, true, true, true, true, true, true, true, true, true, true, true, true, true, true, true, true, true, true, false, false, false, false, false, false] rfl rfl (any_of HT_.out (by kernel_rfl)) (fun _ _ _ h => h) (Or.inl ⟨by rfl, ?_⟩) ?_ ?_
             rotate_left
             ·
              intro w'
              go_simp
              with_reducible rfl
             rotate_left
             ·
              simp only [Act.put, List.setIfInBounds_toArray, List.set_cons_zero, List.set_cons_succ, i64_w, i32_w]
              rfl
             have kc := fun (w : World) (C : Array Value) (n c : Nat) => Go.Lib.run_convert_bytes_const (P := Try.prog) w 27 5 C n c Try.underlying27 Try.underlying5
             have HZ : Below wz.heap.size wz (wz.alloc (.cells #[.int .u8 49, .int .u8 50, .int .u8 51, .int .u8 52, .int .u8 53, .int .u8 54, .int .u8 55, .int .u8 56, .int .u8 57] 5)) := below_alloc (Below.refl _ _) _
             have HY : Below wz.heap.size wz (wz.alloc (.cells #[.int .u8 49, .int .u8 50, .int .u8 51, .int .u8 52, .int .u8 53, .int .u8 54, .int .u8 55, .int .u8 56, .int .u8 57] 5 (9, 10))) := below_alloc (Below.refl _ _) _
             refine one_ (i := 44) (N := some 70) #[true, true, true, true, true, true, true, true, true, true, true, true, true, true, true, true, true, true, true, true, true, true, true, true, true, true, true, true, true, true, true, true, true, true, true, true, true, true, true, true, true, true, true, true, true, false, false, false, false, false] rfl rfl (one_of HT_.out (by kernel_rfl)) (by decide) (fun K hK => ?_)
             refine value_ (w1 := wz.alloc (.cells #[.int .u8 49, .int .u8 50, .int .u8 51, .int .u8 52, .int .u8 53, .int .u8 54, .int .u8 55, .int .u8 56, .int .u8 57] 5)) (v := .slice (some ⟨wz.heap.size, 0, none⟩) 9 9) (by rfl) rfl (by go_simp) ?_
             have HC := fun {a : Addr} {v : Value} (h : wz.cell? a = some v) => (HZ.cell (World.block_lt_of_cell? _ _ h)).trans h
             refine hK.out _ _ ⟨HC hHeld.1, HC hHeld.2.1, HC hHeld.2.2.1, HC hHeld.2.2.2.1, HC hHeld.2.2.2.2.1, HC hHeld.2.2.2.2.2.1, HC hHeld.2.2.2.2.2.2.1, HC hHeld.2.2.2.2.2.2.2.1, HC hHeld.2.2.2.2.2.2.2.2⟩ (fun _ => ?_)
             clear hK K HC
             refine norm_ (a' := ?_) ?_ ?_
             rotate_left
             ·
              show Act.put _ (some 70) _ = _
              simp only [Act.put, List.setIfInBounds_toArray, List.set_cons_zero, List.set_cons_succ, i64_w, i32_w]
              rfl
             refine one_ (i := 45) (N := some 71) #[true, true, true, true, true, true, true, true, true, true, true, true, true, true, true, true, true, true, true, true, true, true, true, true, true, true, true, true, true, true, true, true, true, true, true, true, true, true, true, true, true, true, true, true, true, true, false, false, false, false] rfl rfl (one_of HT_.out (by kernel_rfl)) (by decide) (fun K hK => ?_)
             refine value_ (w1 := wz.alloc (.cells #[.int .u8 49, .int .u8 50, .int .u8 51, .int .u8 52, .int .u8 53, .int .u8 54, .int .u8 55, .int .u8 56, .int .u8 57] 5 (9, 10))) (v := .slice (some ⟨wz.heap.size, 0, none⟩) 9 9) (by rfl) rfl (by go_simp) ?_
             have HC := fun {a : Addr} {v : Value} (h : wz.cell? a = some v) => (HY.cell (World.block_lt_of_cell? _ _ h)).trans h
             refine hK.out _ _ ⟨HC hHeld.1, HC hHeld.2.1, HC hHeld.2.2.1, HC hHeld.2.2.2.1, HC hHeld.2.2.2.2.1, HC hHeld.2.2.2.2.2.1, HC hHeld.2.2.2.2.2.2.1, HC hHeld.2.2.2.2.2.2.2.1, HC hHeld.2.2.2.2.2.2.2.2⟩ (fun hHeld => ?_)
             clear hK K HC
             refine norm_ (a' := ?_) ?_ ?_
             rotate_left
             ·
              show Act.put _ (some 71) _ = _
              simp only [Act.put, List.setIfInBounds_toArray, List.set_cons_zero, List.set_cons_succ, i64_w, i32_w]
              rfl
             have HB2 := Aside0.mk (below_step HB.out HY)
             clear HB
             have HB := HB2
             clear HB2
             have hS9 : Kd.C (Kd.int .u8) (wz.alloc (.cells #[.int .u8 49, .int .u8 50, .int .u8 51, .int .u8 52, .int .u8 53, .int .u8 54, .int .u8 55, .int .u8 56, .int .u8 57] 5 (9, 10))) (some ⟨wz.heap.size, 0, none⟩) ([49, 50, 51, 52, 53, 54, 55, 56, 57] : List Int).length [49, 50, 51, 52, 53, 54, 55, 56, 57] := Kd.C_of_reads (d := 0) (h1 := fun _ => rfl) ⟨rfl, by decide, fun _ => ⟨_, rfl, fun j hj => by
              have hj9 : j < 9 := hj
              have e_ : (wz.alloc (.cells #[.int .u8 49, .int .u8 50, .int .u8 51, .int .u8 52, .int .u8 53, .int .u8 54, .int .u8 55, .int .u8 56, .int .u8 57] 5 (9, 10))).heap[wz.heap.size]? = some (.cells #[.int .u8 49, .int .u8 50, .int .u8 51, .int .u8 52, .int .u8 53, .int .u8 54, .int .u8 55, .int .u8 56, .int .u8 57] 5 (9, 10)) := by show (wz.heap.push _)[wz.heap.size]? = _; simp
              rw [add_plain, cell_of_row _ _ _ _ _ _ e_]
              rcases j with _ | _ | _ | _ | _ | _ | _ | _ | _ | j <;> first | rfl | omega⟩⟩
             refine one_ (i := 46) (N := some 72) #[true, true, true, true, true, true, true, true, true, true, true, true, true, true, true, true, true, true, true, true, true, true, true, true, true, true, true, true, true, true, true, true, true, true, true, true, true, true, true, true, true, true, true, true, true, true, true, false, false, false] rfl rfl (one_of HT_.out (by kernel_rfl)) (by decide) (fun K hK => ?_)
             refine goes_ Try.func16 (by kernel_rfl) rfl #[.slice (some ⟨wz.heap.size, 0, none⟩) 9 9] (by rfl) rfl rfl (by (try simp only [List.map_toArray, List.map_cons, List.map_nil]); first | done | rfl | (simp only [List.length_drop, List.length_take]; rfl)) ?_
             refine (records_Sum.calls k _ 9 [49, 50, 51, 52, 53, 54, 55, 56, 57] t331 _ hS9 (by decide) (by have h_ := A19.out; rw [Ny328.out] at h_; exact h_)).mono ?_
             rintro e w' ⟨rfl, ⟨nd, rfl⟩⟩
             refine ⟨_, rfl, ?_⟩
             refine hK.out _ _ ⟨hHeld.1, hHeld.2.1, hHeld.2.2.1, hHeld.2.2.2.1, hHeld.2.2.2.2.1, hHeld.2.2.2.2.2.1, hHeld.2.2.2.2.2.2.1, hHeld.2.2.2.2.2.2.2.1, hHeld.2.2.2.2.2.2.2.2⟩ (fun hHeld => ?_)
             clear hK K
             refine norm_ (a' := ?_) ?_ ?_
             rotate_left
             ·
              show Act.put _ (some 72) _ = _
              simp only [Act.put, List.setIfInBounds_toArray, List.set_cons_zero, List.set_cons_succ, i64_w, i32_w]
              rfl
             refine pure_ (i := 47) (N := some 73) (v := ?_) (a' := ?_) #[true, true, true, true, true, true, true, true, true, true, true, true, true, true, true, true, true, true, true, true, true, true, true, true, true, true, true, true, true, true, true, true, true, true, true, true, true, true, true, true, true, true, true, true, true, true, true, true, false, false] rfl rfl (any_of HT_.out (by kernel_rfl)) (fun _ _ _ h => h) (Or.inl ⟨by rfl, ?_⟩) ?_ ?_
             rotate_left
             ·
              intro w'
              go_simp
              with_reducible rfl
             rotate_left
             ·
              simp only [Act.put, List.setIfInBounds_toArray, List.set_cons_zero, List.set_cons_succ, i64_w, i32_w]
              rfl
             refine pure_ (i := 48) (N := some 74) (v := ?_) (a' := ?_) #[true, true, true, true, true, true, true, true, true, true, true, true, true, true, true, true, true, true, true, true, true, true, true, true, true, true, true, true, true, true, true, true, true, true, true, true, true, true, true, true, true, true, true, true, true, true, true, true, true, false] rfl rfl (any_of HT_.out (by kernel_rfl)) (fun _ _ _ h => h) (Or.inl ⟨by rfl, ?_⟩) ?_ ?_
             rotate_left
             ·
              intro w'
              go_simp
              with_reducible rfl
             rotate_left
             ·
              simp only [Act.put, List.setIfInBounds_toArray, List.set_cons_zero, List.set_cons_succ, i64_w, i32_w]
              rfl
             refine pure_ (i := 49) (N := some 0) (v := ?_) (a' := ?_) #[true, true, true, true, true, true, true, true, true, true, true, true, true, true, true, true, true, true, true, true, true, true, true, true, true, true, true, true, true, true, true, true, true, true, true, true, true, true, true, true, true, true, true, true, true, true, true, true, true, true] rfl rfl (any_of HT_.out (by kernel_rfl)) (fun _ _ _ h => h) (Or.inl ⟨by rfl, ?_⟩) ?_ ?_
             rotate_left
             ·
              intro w'
              go_simp
              with_reducible rfl
             rotate_left
             ·
              simp only [Act.put, List.setIfInBounds_toArray, List.set_cons_zero, List.set_cons_succ, i64_w, i32_w]
              rfl
             refine done_ (done_of HT_.out (by kernel_rfl)) ?_
             try go_wp2
             go_ret
             exact ⟨by first | rfl | (simp [errW_none, errW_some] <;> rfl) | (simp [*, errW_none, errW_some] <;> rfl), by repeat (first | (with_reducible first | exact HB.out | apply below_alloc | apply pw_below_drewN | apply below_drew1) | exact HB.out)⟩
            ·
             rw [if_neg c18] at H
             have c18b0 : (t327 == 65535) = false := beq_eq_false_iff_ne.mpr c18
             have c18b1 : (t327 != 65535) = true := bne_iff_ne.mpr c18
             exact absurd (Option.some.inj H) (by rw [HT.out]; decide)
           ·
            rw [if_neg c16] at H
            have c16b0 : (t317 == 1) = false := beq_eq_false_iff_ne.mpr c16
            have c16b1 : (t317 != 1) = true := bne_iff_ne.mpr c16
            exact absurd (Option.some.inj H) (by rw [HT.out]; decide)
          ·
           rw [if_neg c15] at H
           have c15b0 : (t309 == 27) = false := beq_eq_false_iff_ne.mpr c15
           have c15b1 : (t309 != 27) = true := bne_iff_ne.mpr c15
           exact absurd (Option.some.inj H) (by rw [HT.out]; decide)
         ·
          rw [if_neg c14] at H
          have c14b0 : (((rd_T55 t308 0).f0) == 0 && (((rd_T55 t308 0).f1) == 3)) = false := by simpa using c14
          (try (have c14b1 : decide (((rd_T55 t308 0).f0) = 0 && (((rd_T55 t308 0).f1) == 3)) = false := by simpa using c14))
          (try (have c14b2 : (((rd_T55 t308 0).f0) == 0 && (((rd_T55 t308 0).f1) == 3)) = false := by simpa using c14))
          (try (have c14b3 : ¬ (((rd_T55 t308 0).f0) = 0 && (((rd_T55 t308 0).f1) == 3)) := by simpa using c14))
          clear c14
          exact absurd (Option.some.inj H) (by rw [HT.out]; decide)
        ·
         rw [if_neg c13] at H
         exact absurd H (by simp)
       ·
        rw [if_neg c12] at H
        have c12b0 : ((t308.length : Int) == 1) = false := beq_eq_false_iff_ne.mpr c12
        have c12b1 : ((t308.length : Int) != 1) = true := bne_iff_ne.mpr c12
        exact absurd (Option.some.inj H) (by rw [HT.out]; decide)
      ·
       rw [if_neg c11] at H
       have c11b0 : ((((rd_T26 t307 0).f0.f0) == t319 && (((rd_T26 t307 0).f0.f1) == t320)) && (((rd_T26 t307 0).f1) == t321 && (((rd_T26 t307 0).f2) == t322 && (((rd_T26 t307 0).f3) == t323 && ((((rd_T26 t307 0).f4.f0) == t324 && (((rd_T26 t307 0).f4.f1) == t325))))))) = false := by simpa using c11
       clear c11
       exact absurd (Option.some.inj H) (by rw [HT.out]; decide)
     ·
      rw [if_neg c9] at H
      exact absurd H (by simp)
    ·
     rw [if_neg c8] at H
     have c8b0 : ((t307.length : Int) == 1) = false := beq_eq_false_iff_ne.mpr c8
     have c8b1 : ((t307.length : Int) != 1) = true := bne_iff_ne.mpr c8
     exact absurd (Option.some.inj H) (by rw [HT.out]; decide)
   ·
    rw [if_neg c7] at H
    have c7b0 : ((t297.length : Int) == 24) = false := beq_eq_false_iff_ne.mpr c7
    have c7b1 : ((t297.length : Int) != 24) = true := bne_iff_ne.mpr c7
    exact absurd (Option.some.inj H) (by rw [HT.out]; decide)
  ·
   rw [if_neg c6] at H
   have c6b0 : (t300 == 0) = false := beq_eq_false_iff_ne.mpr c6
   have c6b1 : (t300 != 0) = true := bne_iff_ne.mpr c6
   exact absurd (Option.some.inj H) (by rw [HT.out]; decide)
 ·
  rw [if_neg c3] at H
  exact absurd H (by simp)

end Go.Proofs.Ytopigdnffnondaa.P
