/-
  No cell of these rows narrows 'for every input' (looked for: loops, veiled, ifaces, maps, wideKeys, modest, calm, conditions, laid).
  DERIVED. THE GIVEN ROWS OF THIS SEAT. 6 by the template 'for every input the law returns true; each argument reads behind the call as it read before'; 0 by the template 'total and deterministic' (their statements: YtjfdhlagnimkmaaTotals.lean).
  GIVEN WITH THE SEED: the statements are not yours to turn. If you find one false, say at which input.
  Laid BY PROGRAM, IN A SANDBOX (cutbox-rows.mjs): the forced cells as the released guide's own fill.sh prints them over the translation 338498cd73f47b6b… (all of the seat's roots in one cut). By AI agents, Wed Nov 11 2026. No macro, syntax, notation, axiom, sorry.
-/
import Derived.Test.YtjfdhlagnimkmaaChecked
import GoSem.Claim
import GoSem.ClaimJoined
import GoSem.ClaimMapViews
import Derived.JoinedTies
import Derived.KernelRfl
namespace Go.Proofs.Ytjfdhlagnimkmaa
/- THE CELL 'sum', in the pinned program and in every row, IS THE sha256 OF THE DUMP (.gsa) THAT YtjfdhlagnimkmaaProg.lean LOADS. Nothing in Lean hashes anything: it is a label: what it is worth is what the hold of that sum in a sandbox is worth. -/
noncomputable def Try.pinned : Pinned := { name := "ytjfdhlagnimkmaa", sum := "338498cd73f47b6b27607a7abc78e92abab81004314919ad56d74849c66066f5", checked := Try.checked }
namespace Rows
def none {H : Type} : Left H := { results := [], args := [] }

/-- 'payrolllaw4.ClockInstants': WHATEVER THE INPUT: true; the input reads as it did. -/
def clockInstantsSpec : ChangeSpec := { name := "clockInstants", fn := fun _ => fun
  | [d1, d2] => { results := [.lit (.bool true)], args := [d1, d2] }
  | _ => none }
def clockInstantsRow : OpenClaim := { program := "ytjfdhlagnimkmaa", sum := "338498cd73f47b6b27607a7abc78e92abab81004314919ad56d74849c66066f5", func := "payroll/payrolllaw4.ClockInstants", spec := "clockInstants", apart := false }
def ClockInstantsSaid : Prop := clockInstantsRow.holds Try.pinned (OpenSpec.ofChange clockInstantsSpec)

/-- ITS FALSE NEIGHBOUR: 'it returns false'. Refute it at one input. -/
def clockInstantsWrong : ChangeSpec := { name := "clockInstants", fn := fun _ => fun
  | [d1, d2] => { results := [.lit (.bool false)], args := [d1, d2] }
  | _ => none }
def ClockInstantsWrongFalsely : Prop := clockInstantsRow.holds Try.pinned (OpenSpec.ofChange clockInstantsWrong)

/-- 'payrolllaw4.ClockFirst': WHATEVER THE INPUT: true; the input reads as it did. -/
def clockFirstSpec : ChangeSpec := { name := "clockFirst", fn := fun _ => fun
  | [d] => { results := [.lit (.bool true)], args := [d] }
  | _ => none }
def clockFirstRow : OpenClaim := { program := "ytjfdhlagnimkmaa", sum := "338498cd73f47b6b27607a7abc78e92abab81004314919ad56d74849c66066f5", func := "payroll/payrolllaw4.ClockFirst", spec := "clockFirst", apart := false }
def ClockFirstSaid : Prop := clockFirstRow.holds Try.pinned (OpenSpec.ofChange clockFirstSpec)

/-- ITS FALSE NEIGHBOUR: 'it returns false'. Refute it at one input. -/
def clockFirstWrong : ChangeSpec := { name := "clockFirst", fn := fun _ => fun
  | [d] => { results := [.lit (.bool false)], args := [d] }
  | _ => none }
def ClockFirstWrongFalsely : Prop := clockFirstRow.holds Try.pinned (OpenSpec.ofChange clockFirstWrong)

/-- 'payrolllaw4.ClockLengths': WHATEVER THE INPUT: true; the input reads as it did. -/
def clockLengthsSpec : ChangeSpec := { name := "clockLengths", fn := fun _ => fun
  | [d1, d2] => { results := [.lit (.bool true)], args := [d1, d2] }
  | _ => none }
def clockLengthsRow : OpenClaim := { program := "ytjfdhlagnimkmaa", sum := "338498cd73f47b6b27607a7abc78e92abab81004314919ad56d74849c66066f5", func := "payroll/payrolllaw4.ClockLengths", spec := "clockLengths", apart := false }
def ClockLengthsSaid : Prop := clockLengthsRow.holds Try.pinned (OpenSpec.ofChange clockLengthsSpec)

/-- ITS FALSE NEIGHBOUR: 'it returns false'. Refute it at one input. -/
def clockLengthsWrong : ChangeSpec := { name := "clockLengths", fn := fun _ => fun
  | [d1, d2] => { results := [.lit (.bool false)], args := [d1, d2] }
  | _ => none }
def ClockLengthsWrongFalsely : Prop := clockLengthsRow.holds Try.pinned (OpenSpec.ofChange clockLengthsWrong)

/-- 'payrolllaw4.ClockLimits': WHATEVER THE INPUT: true; the input reads as it did. -/
def clockLimitsSpec : ChangeSpec := { name := "clockLimits", fn := fun _ => fun
  | [d1, d2] => { results := [.lit (.bool true)], args := [d1, d2] }
  | _ => none }
def clockLimitsRow : OpenClaim := { program := "ytjfdhlagnimkmaa", sum := "338498cd73f47b6b27607a7abc78e92abab81004314919ad56d74849c66066f5", func := "payroll/payrolllaw4.ClockLimits", spec := "clockLimits", apart := false }
def ClockLimitsSaid : Prop := clockLimitsRow.holds Try.pinned (OpenSpec.ofChange clockLimitsSpec)

/-- ITS FALSE NEIGHBOUR: 'it returns false'. Refute it at one input. -/
def clockLimitsWrong : ChangeSpec := { name := "clockLimits", fn := fun _ => fun
  | [d1, d2] => { results := [.lit (.bool false)], args := [d1, d2] }
  | _ => none }
def ClockLimitsWrongFalsely : Prop := clockLimitsRow.holds Try.pinned (OpenSpec.ofChange clockLimitsWrong)

/-- 'payrolllaw4.ClockReads': WHATEVER THE INPUT: true; the input reads as it did. -/
def clockReadsSpec : ChangeSpec := { name := "clockReads", fn := fun _ => fun
  | [d1, d2, d3, d4, d5] => { results := [.lit (.bool true)], args := [d1, d2, d3, d4, d5] }
  | _ => none }
def clockReadsRow : OpenClaim := { program := "ytjfdhlagnimkmaa", sum := "338498cd73f47b6b27607a7abc78e92abab81004314919ad56d74849c66066f5", func := "payroll/payrolllaw4.ClockReads", spec := "clockReads", apart := false }
def ClockReadsSaid : Prop := clockReadsRow.holds Try.pinned (OpenSpec.ofChange clockReadsSpec)

/-- ITS FALSE NEIGHBOUR: 'it returns false'. Refute it at one input. -/
def clockReadsWrong : ChangeSpec := { name := "clockReads", fn := fun _ => fun
  | [d1, d2, d3, d4, d5] => { results := [.lit (.bool false)], args := [d1, d2, d3, d4, d5] }
  | _ => none }
def ClockReadsWrongFalsely : Prop := clockReadsRow.holds Try.pinned (OpenSpec.ofChange clockReadsWrong)

/-- 'payrolllaw4.ClockDays': WHATEVER THE INPUT: true; the input reads as it did. -/
def clockDaysSpec : ChangeSpec := { name := "clockDays", fn := fun _ => fun
  | [d1, d2] => { results := [.lit (.bool true)], args := [d1, d2] }
  | _ => none }
def clockDaysRow : OpenClaim := { program := "ytjfdhlagnimkmaa", sum := "338498cd73f47b6b27607a7abc78e92abab81004314919ad56d74849c66066f5", func := "payroll/payrolllaw4.ClockDays", spec := "clockDays", apart := false }
def ClockDaysSaid : Prop := clockDaysRow.holds Try.pinned (OpenSpec.ofChange clockDaysSpec)

/-- ITS FALSE NEIGHBOUR: 'it returns false'. Refute it at one input. -/
def clockDaysWrong : ChangeSpec := { name := "clockDays", fn := fun _ => fun
  | [d1, d2] => { results := [.lit (.bool false)], args := [d1, d2] }
  | _ => none }
def ClockDaysWrongFalsely : Prop := clockDaysRow.holds Try.pinned (OpenSpec.ofChange clockDaysWrong)

/- THE SECOND FORM. 'bulk': how many values and letters a reading holds, each counted each time it is reached (what is shared counts as often as it is met; a slice's spare places count too). A statement '..UptoSaid' is the law's where the arguments, and the package variables that the reading takes, are together of bulk at most 1048576: NARROWER than '..Said'. Prove '..Said' where nothing that the law and all that it calls make is longer than what came in: it says more and counts as full. Else prove '..UptoSaid'. A law counts once. -/
mutual
def uptoBulk {H : Type} : DataW H → Nat
  | .lit (.string bytes) => bytes.length + 1
  | .lit _ => 1
  | .nil => 1
  | .ptr d => uptoBulk d + 1
  | .slice elems spare => uptoBulkAll elems + uptoBulkAll spare + 1
  | .agg parts => uptoBulkAll parts + 1
  | .iface _ d => uptoBulk d + 1
  | .map entries => uptoBulkEntries entries + 1
  | .held _ => 1
def uptoBulkAll {H : Type} : List (DataW H) → Nat
  | [] => 0
  | d :: r => uptoBulk d + uptoBulkAll r
def uptoBulkEntries {H : Type} : List (Lit × DataW H) → Nat
  | [] => 0
  | x :: r => uptoBulkEntry x + uptoBulkEntries r
def uptoBulkEntry {H : Type} : Lit × DataW H → Nat
  | (.string bytes, d) => bytes.length + uptoBulk d + 1
  | (_, d) => uptoBulk d + 1
 end
def uptoSmall : (H : Type) → List (DataW H) → Bool := fun _ ds => decide (uptoBulkAll ds ≤ 1048576)
def OpenSpec.upto (s : _root_.Go.ChangeSpec) : _root_.Go.OpenSpec := { _root_.Go.OpenSpec.ofChange s with cond := some uptoSmall }

/-- 'payrolllaw4.ClockInstants', WHERE WHAT IT READS IS OF BULK AT MOST 1048576: true; the input reads as it did. -/
def clockInstantsUptoRow : OpenClaim := { program := "ytjfdhlagnimkmaa", sum := "338498cd73f47b6b27607a7abc78e92abab81004314919ad56d74849c66066f5", func := "payroll/payrolllaw4.ClockInstants", spec := "clockInstants", apart := false, narrowed := true }
def ClockInstantsUptoSaid : Prop := clockInstantsUptoRow.holds Try.pinned (OpenSpec.upto clockInstantsSpec)

/-- 'payrolllaw4.ClockFirst', WHERE WHAT IT READS IS OF BULK AT MOST 1048576: true; the input reads as it did. -/
def clockFirstUptoRow : OpenClaim := { program := "ytjfdhlagnimkmaa", sum := "338498cd73f47b6b27607a7abc78e92abab81004314919ad56d74849c66066f5", func := "payroll/payrolllaw4.ClockFirst", spec := "clockFirst", apart := false, narrowed := true }
def ClockFirstUptoSaid : Prop := clockFirstUptoRow.holds Try.pinned (OpenSpec.upto clockFirstSpec)

/-- 'payrolllaw4.ClockLengths', WHERE WHAT IT READS IS OF BULK AT MOST 1048576: true; the input reads as it did. -/
def clockLengthsUptoRow : OpenClaim := { program := "ytjfdhlagnimkmaa", sum := "338498cd73f47b6b27607a7abc78e92abab81004314919ad56d74849c66066f5", func := "payroll/payrolllaw4.ClockLengths", spec := "clockLengths", apart := false, narrowed := true }
def ClockLengthsUptoSaid : Prop := clockLengthsUptoRow.holds Try.pinned (OpenSpec.upto clockLengthsSpec)

/-- 'payrolllaw4.ClockLimits', WHERE WHAT IT READS IS OF BULK AT MOST 1048576: true; the input reads as it did. -/
def clockLimitsUptoRow : OpenClaim := { program := "ytjfdhlagnimkmaa", sum := "338498cd73f47b6b27607a7abc78e92abab81004314919ad56d74849c66066f5", func := "payroll/payrolllaw4.ClockLimits", spec := "clockLimits", apart := false, narrowed := true }
def ClockLimitsUptoSaid : Prop := clockLimitsUptoRow.holds Try.pinned (OpenSpec.upto clockLimitsSpec)

/-- 'payrolllaw4.ClockReads', WHERE WHAT IT READS IS OF BULK AT MOST 1048576: true; the input reads as it did. -/
def clockReadsUptoRow : OpenClaim := { program := "ytjfdhlagnimkmaa", sum := "338498cd73f47b6b27607a7abc78e92abab81004314919ad56d74849c66066f5", func := "payroll/payrolllaw4.ClockReads", spec := "clockReads", apart := false, narrowed := true }
def ClockReadsUptoSaid : Prop := clockReadsUptoRow.holds Try.pinned (OpenSpec.upto clockReadsSpec)

/-- 'payrolllaw4.ClockDays', WHERE WHAT IT READS IS OF BULK AT MOST 1048576: true; the input reads as it did. -/
def clockDaysUptoRow : OpenClaim := { program := "ytjfdhlagnimkmaa", sum := "338498cd73f47b6b27607a7abc78e92abab81004314919ad56d74849c66066f5", func := "payroll/payrolllaw4.ClockDays", spec := "clockDays", apart := false, narrowed := true }
def ClockDaysUptoSaid : Prop := clockDaysUptoRow.holds Try.pinned (OpenSpec.upto clockDaysSpec)

end Rows
end Go.Proofs.Ytjfdhlagnimkmaa
