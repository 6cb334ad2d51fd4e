/- Plain lemmas for the laws of this seat: what its functions answer; no condition beyond those that each lemma states. -/
import Derived.Test.YtjfdhlagnimkmaaClkC
import Derived.Test.YtjfdhlagnimkmaaFpayrolllaw4sane
namespace Go.Proofs.Ytjfdhlagnimkmaa.ClkD
open Go.RowKit Go.Proofs.YtjfdhlagnimkmaaW.PrintWords Go.Proofs.Ytjfdhlagnimkmaa.P Go.Proofs.Ytjfdhlagnimkmaa.K
theorem sane_ev : Ev (fun k => payrolllaw4_sane.f k) true := Ev.of (fun k => payrolllaw4_sane.mono k) (k := 60) (by decide +kernel)
end Go.Proofs.Ytjfdhlagnimkmaa.ClkD
