/- Proved here: that the Go function paygen_Deck_Rows computes the plain function of that name (the machine side of the laws, reworked from a print; no condition of its own). -/
import Derived.Test.YtbacfajhgmnjpaaProg
import Derived.Test.YtbacfajhgmnjpaaV1
import Derived.Test.YtbacfajhgmnjpaaV2
import Derived.Test.YtbacfajhgmnjpaaV3
import Derived.Test.YtbacfajhgmnjpaaFPRE
import Derived.Test.YtbacfajhgmnjpaaFpaygen
namespace Go.Proofs.Ytbacfajhgmnjpaa.P
open Go.RowKit Go.Proofs.YtbacfajhgmnjpaaW.PrintWords Go.Proofs.YtbacfajhgmnjpaaW.PrintLast Go.Proofs.YtbacfajhgmnjpaaW.PrintMore
attribute [local go_sem] max2_int min2_int max_two min_two max_three min_three max_four min_four   -- for this text's walks alone
set_option linter.unusedVariables false
set_option linter.unusedSimpArgs false

def paygen_Deck_Rows.l0 : Nat → List (S80) → Int → List Int → Int → Option ((List (S80)) × Int)
 | 0, _, _, _, _ => none
 | k + 1, x3, x4, x1000, x1001 => if x4 > 0 then (if 0 ≤ (wrap64 ((x3.length : Int) - 1)) then (if (wrap64 ((x3.length : Int) - 1)) < (x3.length : Int) then ((paygen_Deck_Next.f x1000 x1001 100000).bind fun bt290 => ((paygen_Deck_Next.f x1000 bt290.2 20000).bind fun bt292 => (if x3.length < 8796093022208 then (paygen_Deck_Rows.l0 k (x3 ++ [(⟨wrap64 ((wrap64 (((rd_T80 x3 (wrap64 ((x3.length : Int) - 1))).f0) + 1)) + bt290.1), wrap64 (((rd_T80 x3 (wrap64 ((x3.length : Int) - 1))).f1) + bt292.1)⟩ : S80)]) (wrap64 (x4 - 1)) x1000 bt292.2) else (none)))) else (none)) else (none)) else (some (x3, x1001))
def paygen_Deck_Rows.f (k : Nat) (s0_0 : List Int) (s0_1 : Int) : Option ((List (S80)) × Int) := (paygen_Deck_Pick.f s0_0 s0_1 (([0, 0, 100] : List Int))).bind fun bt281 => ((paygen_Deck_Next.f s0_0 bt281.2 5).bind fun bt286 => (paygen_Deck_Rows.l0 k (([(⟨0, bt281.1⟩ : S80)] : List (S80))) bt286.1 s0_0 bt286.2))
end Go.Proofs.Ytbacfajhgmnjpaa.P
