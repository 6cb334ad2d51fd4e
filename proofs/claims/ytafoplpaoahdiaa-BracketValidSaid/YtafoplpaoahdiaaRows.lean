/-
  No cell of these rows narrows 'for every input' (looked for: loops, veiled, ifaces, maps, wideKeys, modest, calm, conditions, laid).
  DERIVED. THE GIVEN ROWS OF THIS SEAT. 9 by the template 'for every input the law returns true; each argument reads behind the call as it read before'; 0 by the template 'total and deterministic' (their statements: YtafoplpaoahdiaaTotals.lean).
  GIVEN WITH THE SEED: the statements are not yours to turn. If you find one false, say at which input.
  Laid BY PROGRAM, IN A SANDBOX (cutbox-rows.mjs): the forced cells as the released guide's own fill.sh prints them over the translation 618775176c5bd808… (all of the seat's roots in one cut). By AI agents, Wed Nov 11 2026. No macro, syntax, notation, axiom, sorry.
-/
import Derived.Test.YtafoplpaoahdiaaChecked
import GoSem.Claim
import GoSem.ClaimJoined
import GoSem.ClaimMapViews
import Derived.JoinedTies
import Derived.KernelRfl
namespace Go.Proofs.Ytafoplpaoahdiaa
/- THE CELL 'sum', in the pinned program and in every row, IS THE sha256 OF THE DUMP (.gsa) THAT YtafoplpaoahdiaaProg.lean LOADS. Nothing in Lean hashes anything: it is a label: what it is worth is what the hold of that sum in a sandbox is worth. -/
noncomputable def Try.pinned : Pinned := { name := "ytafoplpaoahdiaa", sum := "618775176c5bd80853ab8814783df7551cb65239f309dc5a9e653c179027131b", checked := Try.checked }
namespace Rows
def none {H : Type} : Left H := { results := [], args := [] }

/-- 'payrolllaw29.BracketValid': WHATEVER THE INPUT: true; the input reads as it did. -/
def bracketValidSpec : ChangeSpec := { name := "bracketValid", fn := fun _ => fun
  | [d1, d2, d3] => { results := [.lit (.bool true)], args := [d1, d2, d3] }
  | _ => none }
def bracketValidRow : OpenClaim := { program := "ytafoplpaoahdiaa", sum := "618775176c5bd80853ab8814783df7551cb65239f309dc5a9e653c179027131b", func := "payroll/payrolllaw29.BracketValid", spec := "bracketValid", apart := false }
def BracketValidSaid : Prop := bracketValidRow.holds Try.pinned (OpenSpec.ofChange bracketValidSpec)

/-- ITS FALSE NEIGHBOUR: 'it returns false'. Refute it at one input. -/
def bracketValidWrong : ChangeSpec := { name := "bracketValid", fn := fun _ => fun
  | [d1, d2, d3] => { results := [.lit (.bool false)], args := [d1, d2, d3] }
  | _ => none }
def BracketValidWrongFalsely : Prop := bracketValidRow.holds Try.pinned (OpenSpec.ofChange bracketValidWrong)

/-- 'payrolllaw29.BracketSplits': WHATEVER THE INPUT: true; the input reads as it did. -/
def bracketSplitsSpec : ChangeSpec := { name := "bracketSplits", fn := fun _ => fun
  | [d] => { results := [.lit (.bool true)], args := [d] }
  | _ => none }
def bracketSplitsRow : OpenClaim := { program := "ytafoplpaoahdiaa", sum := "618775176c5bd80853ab8814783df7551cb65239f309dc5a9e653c179027131b", func := "payroll/payrolllaw29.BracketSplits", spec := "bracketSplits", apart := false }
def BracketSplitsSaid : Prop := bracketSplitsRow.holds Try.pinned (OpenSpec.ofChange bracketSplitsSpec)

/-- ITS FALSE NEIGHBOUR: 'it returns false'. Refute it at one input. -/
def bracketSplitsWrong : ChangeSpec := { name := "bracketSplits", fn := fun _ => fun
  | [d] => { results := [.lit (.bool false)], args := [d] }
  | _ => none }
def BracketSplitsWrongFalsely : Prop := bracketSplitsRow.holds Try.pinned (OpenSpec.ofChange bracketSplitsWrong)

/-- 'payrolllaw29.BracketScales': WHATEVER THE INPUT: true; the input reads as it did. -/
def bracketScalesSpec : ChangeSpec := { name := "bracketScales", fn := fun _ => fun
  | [d] => { results := [.lit (.bool true)], args := [d] }
  | _ => none }
def bracketScalesRow : OpenClaim := { program := "ytafoplpaoahdiaa", sum := "618775176c5bd80853ab8814783df7551cb65239f309dc5a9e653c179027131b", func := "payroll/payrolllaw29.BracketScales", spec := "bracketScales", apart := false }
def BracketScalesSaid : Prop := bracketScalesRow.holds Try.pinned (OpenSpec.ofChange bracketScalesSpec)

/-- ITS FALSE NEIGHBOUR: 'it returns false'. Refute it at one input. -/
def bracketScalesWrong : ChangeSpec := { name := "bracketScales", fn := fun _ => fun
  | [d] => { results := [.lit (.bool false)], args := [d] }
  | _ => none }
def BracketScalesWrongFalsely : Prop := bracketScalesRow.holds Try.pinned (OpenSpec.ofChange bracketScalesWrong)

/-- 'payrolllaw29.BracketGrows': WHATEVER THE INPUT: true; the input reads as it did. -/
def bracketGrowsSpec : ChangeSpec := { name := "bracketGrows", fn := fun _ => fun
  | [d1, d2] => { results := [.lit (.bool true)], args := [d1, d2] }
  | _ => none }
def bracketGrowsRow : OpenClaim := { program := "ytafoplpaoahdiaa", sum := "618775176c5bd80853ab8814783df7551cb65239f309dc5a9e653c179027131b", func := "payroll/payrolllaw29.BracketGrows", spec := "bracketGrows", apart := false }
def BracketGrowsSaid : Prop := bracketGrowsRow.holds Try.pinned (OpenSpec.ofChange bracketGrowsSpec)

/-- ITS FALSE NEIGHBOUR: 'it returns false'. Refute it at one input. -/
def bracketGrowsWrong : ChangeSpec := { name := "bracketGrows", fn := fun _ => fun
  | [d1, d2] => { results := [.lit (.bool false)], args := [d1, d2] }
  | _ => none }
def BracketGrowsWrongFalsely : Prop := bracketGrowsRow.holds Try.pinned (OpenSpec.ofChange bracketGrowsWrong)

/-- 'payrolllaw29.BracketConvex': WHATEVER THE INPUT: true; the input reads as it did. -/
def bracketConvexSpec : ChangeSpec := { name := "bracketConvex", fn := fun _ => fun
  | [d] => { results := [.lit (.bool true)], args := [d] }
  | _ => none }
def bracketConvexRow : OpenClaim := { program := "ytafoplpaoahdiaa", sum := "618775176c5bd80853ab8814783df7551cb65239f309dc5a9e653c179027131b", func := "payroll/payrolllaw29.BracketConvex", spec := "bracketConvex", apart := false }
def BracketConvexSaid : Prop := bracketConvexRow.holds Try.pinned (OpenSpec.ofChange bracketConvexSpec)

/-- ITS FALSE NEIGHBOUR: 'it returns false'. Refute it at one input. -/
def bracketConvexWrong : ChangeSpec := { name := "bracketConvex", fn := fun _ => fun
  | [d] => { results := [.lit (.bool false)], args := [d] }
  | _ => none }
def BracketConvexWrongFalsely : Prop := bracketConvexRow.holds Try.pinned (OpenSpec.ofChange bracketConvexWrong)

/-- 'payrolllaw29.BracketRaw': WHATEVER THE INPUT: true; the input reads as it did. -/
def bracketRawSpec : ChangeSpec := { name := "bracketRaw", fn := fun _ => fun
  | [d1, d2, d3, d4, d5] => { results := [.lit (.bool true)], args := [d1, d2, d3, d4, d5] }
  | _ => none }
def bracketRawRow : OpenClaim := { program := "ytafoplpaoahdiaa", sum := "618775176c5bd80853ab8814783df7551cb65239f309dc5a9e653c179027131b", func := "payroll/payrolllaw29.BracketRaw", spec := "bracketRaw", apart := false }
def BracketRawSaid : Prop := bracketRawRow.holds Try.pinned (OpenSpec.ofChange bracketRawSpec)

/-- ITS FALSE NEIGHBOUR: 'it returns false'. Refute it at one input. -/
def bracketRawWrong : ChangeSpec := { name := "bracketRaw", fn := fun _ => fun
  | [d1, d2, d3, d4, d5] => { results := [.lit (.bool false)], args := [d1, d2, d3, d4, d5] }
  | _ => none }
def BracketRawWrongFalsely : Prop := bracketRawRow.holds Try.pinned (OpenSpec.ofChange bracketRawWrong)

/-- 'payrolllaw29.BracketLeast': WHATEVER THE INPUT: true; the input reads as it did. -/
def bracketLeastSpec : ChangeSpec := { name := "bracketLeast", fn := fun _ => fun
  | [d1, d2] => { results := [.lit (.bool true)], args := [d1, d2] }
  | _ => none }
def bracketLeastRow : OpenClaim := { program := "ytafoplpaoahdiaa", sum := "618775176c5bd80853ab8814783df7551cb65239f309dc5a9e653c179027131b", func := "payroll/payrolllaw29.BracketLeast", spec := "bracketLeast", apart := false }
def BracketLeastSaid : Prop := bracketLeastRow.holds Try.pinned (OpenSpec.ofChange bracketLeastSpec)

/-- ITS FALSE NEIGHBOUR: 'it returns false'. Refute it at one input. -/
def bracketLeastWrong : ChangeSpec := { name := "bracketLeast", fn := fun _ => fun
  | [d1, d2] => { results := [.lit (.bool false)], args := [d1, d2] }
  | _ => none }
def BracketLeastWrongFalsely : Prop := bracketLeastRow.holds Try.pinned (OpenSpec.ofChange bracketLeastWrong)

/-- 'payrolllaw29.BracketRounds': WHATEVER THE INPUT: true; the input reads as it did. -/
def bracketRoundsSpec : ChangeSpec := { name := "bracketRounds", fn := fun _ => fun
  | [d] => { results := [.lit (.bool true)], args := [d] }
  | _ => none }
def bracketRoundsRow : OpenClaim := { program := "ytafoplpaoahdiaa", sum := "618775176c5bd80853ab8814783df7551cb65239f309dc5a9e653c179027131b", func := "payroll/payrolllaw29.BracketRounds", spec := "bracketRounds", apart := false }
def BracketRoundsSaid : Prop := bracketRoundsRow.holds Try.pinned (OpenSpec.ofChange bracketRoundsSpec)

/-- ITS FALSE NEIGHBOUR: 'it returns false'. Refute it at one input. -/
def bracketRoundsWrong : ChangeSpec := { name := "bracketRounds", fn := fun _ => fun
  | [d] => { results := [.lit (.bool false)], args := [d] }
  | _ => none }
def BracketRoundsWrongFalsely : Prop := bracketRoundsRow.holds Try.pinned (OpenSpec.ofChange bracketRoundsWrong)

/-- 'payrolllaw29.BracketTaxes': WHATEVER THE INPUT: true; the input reads as it did. -/
def bracketTaxesSpec : ChangeSpec := { name := "bracketTaxes", fn := fun _ => fun
  | [d1, d2, d3, d4] => { results := [.lit (.bool true)], args := [d1, d2, d3, d4] }
  | _ => none }
def bracketTaxesRow : OpenClaim := { program := "ytafoplpaoahdiaa", sum := "618775176c5bd80853ab8814783df7551cb65239f309dc5a9e653c179027131b", func := "payroll/payrolllaw29.BracketTaxes", spec := "bracketTaxes", apart := false }
def BracketTaxesSaid : Prop := bracketTaxesRow.holds Try.pinned (OpenSpec.ofChange bracketTaxesSpec)

/-- ITS FALSE NEIGHBOUR: 'it returns false'. Refute it at one input. -/
def bracketTaxesWrong : ChangeSpec := { name := "bracketTaxes", fn := fun _ => fun
  | [d1, d2, d3, d4] => { results := [.lit (.bool false)], args := [d1, d2, d3, d4] }
  | _ => none }
def BracketTaxesWrongFalsely : Prop := bracketTaxesRow.holds Try.pinned (OpenSpec.ofChange bracketTaxesWrong)

/- THE SECOND FORM. 'bulk': how many values and letters a reading holds, each counted each time it is reached (what is shared counts as often as it is met; a slice's spare places count too). A statement '..UptoSaid' is the law's where the arguments, and the package variables that the reading takes, are together of bulk at most 1048576: NARROWER than '..Said'. Prove '..Said' where nothing that the law and all that it calls make is longer than what came in: it says more and counts as full. Else prove '..UptoSaid'. A law counts once. -/
mutual
def uptoBulk {H : Type} : DataW H → Nat
  | .lit (.string bytes) => bytes.length + 1
  | .lit _ => 1
  | .nil => 1
  | .ptr d => uptoBulk d + 1
  | .slice elems spare => uptoBulkAll elems + uptoBulkAll spare + 1
  | .agg parts => uptoBulkAll parts + 1
  | .iface _ d => uptoBulk d + 1
  | .map entries => uptoBulkEntries entries + 1
  | .held _ => 1
def uptoBulkAll {H : Type} : List (DataW H) → Nat
  | [] => 0
  | d :: r => uptoBulk d + uptoBulkAll r
def uptoBulkEntries {H : Type} : List (Lit × DataW H) → Nat
  | [] => 0
  | x :: r => uptoBulkEntry x + uptoBulkEntries r
def uptoBulkEntry {H : Type} : Lit × DataW H → Nat
  | (.string bytes, d) => bytes.length + uptoBulk d + 1
  | (_, d) => uptoBulk d + 1
 end
def uptoSmall : (H : Type) → List (DataW H) → Bool := fun _ ds => decide (uptoBulkAll ds ≤ 1048576)
def OpenSpec.upto (s : _root_.Go.ChangeSpec) : _root_.Go.OpenSpec := { _root_.Go.OpenSpec.ofChange s with cond := some uptoSmall }

/-- 'payrolllaw29.BracketValid', WHERE WHAT IT READS IS OF BULK AT MOST 1048576: true; the input reads as it did. -/
def bracketValidUptoRow : OpenClaim := { program := "ytafoplpaoahdiaa", sum := "618775176c5bd80853ab8814783df7551cb65239f309dc5a9e653c179027131b", func := "payroll/payrolllaw29.BracketValid", spec := "bracketValid", apart := false, narrowed := true }
def BracketValidUptoSaid : Prop := bracketValidUptoRow.holds Try.pinned (OpenSpec.upto bracketValidSpec)

/-- 'payrolllaw29.BracketSplits', WHERE WHAT IT READS IS OF BULK AT MOST 1048576: true; the input reads as it did. -/
def bracketSplitsUptoRow : OpenClaim := { program := "ytafoplpaoahdiaa", sum := "618775176c5bd80853ab8814783df7551cb65239f309dc5a9e653c179027131b", func := "payroll/payrolllaw29.BracketSplits", spec := "bracketSplits", apart := false, narrowed := true }
def BracketSplitsUptoSaid : Prop := bracketSplitsUptoRow.holds Try.pinned (OpenSpec.upto bracketSplitsSpec)

/-- 'payrolllaw29.BracketScales', WHERE WHAT IT READS IS OF BULK AT MOST 1048576: true; the input reads as it did. -/
def bracketScalesUptoRow : OpenClaim := { program := "ytafoplpaoahdiaa", sum := "618775176c5bd80853ab8814783df7551cb65239f309dc5a9e653c179027131b", func := "payroll/payrolllaw29.BracketScales", spec := "bracketScales", apart := false, narrowed := true }
def BracketScalesUptoSaid : Prop := bracketScalesUptoRow.holds Try.pinned (OpenSpec.upto bracketScalesSpec)

/-- 'payrolllaw29.BracketGrows', WHERE WHAT IT READS IS OF BULK AT MOST 1048576: true; the input reads as it did. -/
def bracketGrowsUptoRow : OpenClaim := { program := "ytafoplpaoahdiaa", sum := "618775176c5bd80853ab8814783df7551cb65239f309dc5a9e653c179027131b", func := "payroll/payrolllaw29.BracketGrows", spec := "bracketGrows", apart := false, narrowed := true }
def BracketGrowsUptoSaid : Prop := bracketGrowsUptoRow.holds Try.pinned (OpenSpec.upto bracketGrowsSpec)

/-- 'payrolllaw29.BracketConvex', WHERE WHAT IT READS IS OF BULK AT MOST 1048576: true; the input reads as it did. -/
def bracketConvexUptoRow : OpenClaim := { program := "ytafoplpaoahdiaa", sum := "618775176c5bd80853ab8814783df7551cb65239f309dc5a9e653c179027131b", func := "payroll/payrolllaw29.BracketConvex", spec := "bracketConvex", apart := false, narrowed := true }
def BracketConvexUptoSaid : Prop := bracketConvexUptoRow.holds Try.pinned (OpenSpec.upto bracketConvexSpec)

/-- 'payrolllaw29.BracketRaw', WHERE WHAT IT READS IS OF BULK AT MOST 1048576: true; the input reads as it did. -/
def bracketRawUptoRow : OpenClaim := { program := "ytafoplpaoahdiaa", sum := "618775176c5bd80853ab8814783df7551cb65239f309dc5a9e653c179027131b", func := "payroll/payrolllaw29.BracketRaw", spec := "bracketRaw", apart := false, narrowed := true }
def BracketRawUptoSaid : Prop := bracketRawUptoRow.holds Try.pinned (OpenSpec.upto bracketRawSpec)

/-- 'payrolllaw29.BracketLeast', WHERE WHAT IT READS IS OF BULK AT MOST 1048576: true; the input reads as it did. -/
def bracketLeastUptoRow : OpenClaim := { program := "ytafoplpaoahdiaa", sum := "618775176c5bd80853ab8814783df7551cb65239f309dc5a9e653c179027131b", func := "payroll/payrolllaw29.BracketLeast", spec := "bracketLeast", apart := false, narrowed := true }
def BracketLeastUptoSaid : Prop := bracketLeastUptoRow.holds Try.pinned (OpenSpec.upto bracketLeastSpec)

/-- 'payrolllaw29.BracketRounds', WHERE WHAT IT READS IS OF BULK AT MOST 1048576: true; the input reads as it did. -/
def bracketRoundsUptoRow : OpenClaim := { program := "ytafoplpaoahdiaa", sum := "618775176c5bd80853ab8814783df7551cb65239f309dc5a9e653c179027131b", func := "payroll/payrolllaw29.BracketRounds", spec := "bracketRounds", apart := false, narrowed := true }
def BracketRoundsUptoSaid : Prop := bracketRoundsUptoRow.holds Try.pinned (OpenSpec.upto bracketRoundsSpec)

/-- 'payrolllaw29.BracketTaxes', WHERE WHAT IT READS IS OF BULK AT MOST 1048576: true; the input reads as it did. -/
def bracketTaxesUptoRow : OpenClaim := { program := "ytafoplpaoahdiaa", sum := "618775176c5bd80853ab8814783df7551cb65239f309dc5a9e653c179027131b", func := "payroll/payrolllaw29.BracketTaxes", spec := "bracketTaxes", apart := false, narrowed := true }
def BracketTaxesUptoSaid : Prop := bracketTaxesUptoRow.holds Try.pinned (OpenSpec.upto bracketTaxesSpec)

end Rows
end Go.Proofs.Ytafoplpaoahdiaa
