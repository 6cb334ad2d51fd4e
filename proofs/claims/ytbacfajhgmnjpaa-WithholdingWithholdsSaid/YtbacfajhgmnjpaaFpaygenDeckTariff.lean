/- Proved here: that the Go function paygen_Deck_Tariff computes the plain function of that name (the machine side of the laws, reworked from a print; no condition of its own). -/
import Derived.Test.YtbacfajhgmnjpaaProg
import Derived.Test.YtbacfajhgmnjpaaV1
import Derived.Test.YtbacfajhgmnjpaaV2
import Derived.Test.YtbacfajhgmnjpaaFPRE
import Derived.Test.YtbacfajhgmnjpaaFpaygen
import Derived.Test.YtbacfajhgmnjpaaFpaygenDeckBrackets
import Derived.Test.YtbacfajhgmnjpaaFpaygenDeckRows
namespace Go.Proofs.Ytbacfajhgmnjpaa.P
open Go.RowKit Go.Proofs.YtbacfajhgmnjpaaW.PrintWords Go.Proofs.YtbacfajhgmnjpaaW.PrintLast Go.Proofs.YtbacfajhgmnjpaaW.PrintMore
attribute [local go_sem] max2_int min2_int max_two min_two max_three min_three max_four min_four   -- for this text's walks alone
set_option linter.unusedVariables false
set_option linter.unusedSimpArgs false

def paygen_Deck_Tariff.f (k : Nat) (s0_0 : List Int) (s0_1 : Int) (a1 : Int) : Option (Int × (List (S58)) × Int × Int × Int × Int × (List (S80)) × Int) := (paygen_Deck_Next.f s0_0 s0_1 3).bind fun bt298 => ((paygen_Deck_Brackets.f k s0_0 bt298.2 (decide (bt298.1 > 0))).bind fun bt300 => ((paygen_Deck_Pick.f s0_0 bt300.2 (([0, 600000, 1200000, 7] : List Int))).bind fun bt307 => ((paygen_Deck_Pick.f s0_0 bt307.2 (([0, 0, 12000, 1] : List Int))).bind fun bt312 => ((paygen_Deck_Pick.f s0_0 bt312.2 (([1, 1, 100, 10] : List Int))).bind fun bt317 => ((paygen_Deck_Mode.f s0_0 bt317.2).bind fun bt319 => (if a1 = 0 then ((paygen_Deck_Next.f s0_0 bt319.2 3).bind fun bt322 => (if (wrap64 (1 + bt322.1)) = 1 then ((paygen_Deck_Rows.f k s0_0 bt322.2).bind fun bt324 => (some (wrap64 (1 + bt322.1), bt300.1, bt307.1, bt312.1, bt317.1, bt319.1, bt324.1, bt324.2))) else (some (wrap64 (1 + bt322.1), bt300.1, bt307.1, bt312.1, bt317.1, bt319.1, ([] : List (S80)), bt322.2)))) else (if a1 = 1 then ((paygen_Deck_Rows.f k s0_0 bt319.2).bind fun bt328 => (some (a1, bt300.1, bt307.1, bt312.1, bt317.1, bt319.1, bt328.1, bt328.2))) else (some (a1, bt300.1, bt307.1, bt312.1, bt317.1, bt319.1, ([] : List (S80)), bt319.2)))))))))
end Go.Proofs.Ytbacfajhgmnjpaa.P
