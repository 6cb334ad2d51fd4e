/-
  No cell of these rows narrows 'for every input' (looked for: loops, veiled, ifaces, maps, wideKeys, modest, calm, conditions, laid).
  DERIVED. THE GIVEN ROWS OF THIS SEAT. 6 by the template 'for every input the law returns true; each argument reads behind the call as it read before'; 0 by the template 'total and deterministic' (their statements: YtopigdnffnondaaTotals.lean).
  GIVEN WITH THE SEED: the statements are not yours to turn. If you find one false, say at which input.
  Laid BY PROGRAM, IN A SANDBOX (cutbox-rows.mjs): the forced cells as the released guide's own fill.sh prints them over the translation 6ad7d3a4f1154fbd… (all of the seat's roots in one cut). By AI agents, Wed Nov 11 2026. No macro, syntax, notation, axiom, sorry.
-/
import Derived.Test.YtopigdnffnondaaChecked
import GoSem.Claim
import GoSem.ClaimJoined
import GoSem.ClaimMapViews
import Derived.JoinedTies
import Derived.KernelRfl
namespace Go.Proofs.Ytopigdnffnondaa
/- THE CELL 'sum', in the pinned program and in every row, IS THE sha256 OF THE DUMP (.gsa) THAT YtopigdnffnondaaProg.lean LOADS. Nothing in Lean hashes anything: it is a label: what it is worth is what the hold of that sum in a sandbox is worth. -/
noncomputable def Try.pinned : Pinned := { name := "ytopigdnffnondaa", sum := "6ad7d3a4f1154fbdd68e476a6690f8c380d779d350f2f990f0160acd724eb33e", checked := Try.checked }
namespace Rows
def none {H : Type} : Left H := { results := [], args := [] }

/-- 'payrolllaw7.RecordsEncode': WHATEVER THE INPUT: true; the input reads as it did. -/
def recordsEncodeSpec : ChangeSpec := { name := "recordsEncode", fn := fun _ => fun
  | [d1, d2, d3] => { results := [.lit (.bool true)], args := [d1, d2, d3] }
  | _ => none }
def recordsEncodeRow : OpenClaim := { program := "ytopigdnffnondaa", sum := "6ad7d3a4f1154fbdd68e476a6690f8c380d779d350f2f990f0160acd724eb33e", func := "payroll/payrolllaw7.RecordsEncode", spec := "recordsEncode", unfollowed := true, recurses := true, apart := false }
def RecordsEncodeSaid : Prop := recordsEncodeRow.holds Try.pinned (OpenSpec.ofChange recordsEncodeSpec)

/-- ITS FALSE NEIGHBOUR: 'it returns false'. Refute it at one input. -/
def recordsEncodeWrong : ChangeSpec := { name := "recordsEncode", fn := fun _ => fun
  | [d1, d2, d3] => { results := [.lit (.bool false)], args := [d1, d2, d3] }
  | _ => none }
def RecordsEncodeWrongFalsely : Prop := recordsEncodeRow.holds Try.pinned (OpenSpec.ofChange recordsEncodeWrong)

/-- 'payrolllaw7.RecordsDecode': WHATEVER THE INPUT: true; the input reads as it did. -/
def recordsDecodeSpec : ChangeSpec := { name := "recordsDecode", fn := fun _ => fun
  | [d1, d2] => { results := [.lit (.bool true)], args := [d1, d2] }
  | _ => none }
def recordsDecodeRow : OpenClaim := { program := "ytopigdnffnondaa", sum := "6ad7d3a4f1154fbdd68e476a6690f8c380d779d350f2f990f0160acd724eb33e", func := "payroll/payrolllaw7.RecordsDecode", spec := "recordsDecode", unfollowed := true, recurses := true, apart := false }
def RecordsDecodeSaid : Prop := recordsDecodeRow.holds Try.pinned (OpenSpec.ofChange recordsDecodeSpec)

/-- ITS FALSE NEIGHBOUR: 'it returns false'. Refute it at one input. -/
def recordsDecodeWrong : ChangeSpec := { name := "recordsDecode", fn := fun _ => fun
  | [d1, d2] => { results := [.lit (.bool false)], args := [d1, d2] }
  | _ => none }
def RecordsDecodeWrongFalsely : Prop := recordsDecodeRow.holds Try.pinned (OpenSpec.ofChange recordsDecodeWrong)

/-- 'payrolllaw7.RecordsComeBack': WHATEVER THE INPUT: true; the input reads as it did. -/
def recordsComeBackSpec : ChangeSpec := { name := "recordsComeBack", fn := fun _ => fun
  | [d] => { results := [.lit (.bool true)], args := [d] }
  | _ => none }
def recordsComeBackRow : OpenClaim := { program := "ytopigdnffnondaa", sum := "6ad7d3a4f1154fbdd68e476a6690f8c380d779d350f2f990f0160acd724eb33e", func := "payroll/payrolllaw7.RecordsComeBack", spec := "recordsComeBack", unfollowed := true, recurses := true, apart := false }
def RecordsComeBackSaid : Prop := recordsComeBackRow.holds Try.pinned (OpenSpec.ofChange recordsComeBackSpec)

/-- ITS FALSE NEIGHBOUR: 'it returns false'. Refute it at one input. -/
def recordsComeBackWrong : ChangeSpec := { name := "recordsComeBack", fn := fun _ => fun
  | [d] => { results := [.lit (.bool false)], args := [d] }
  | _ => none }
def RecordsComeBackWrongFalsely : Prop := recordsComeBackRow.holds Try.pinned (OpenSpec.ofChange recordsComeBackWrong)

/-- 'payrolllaw7.RecordsDivide': WHATEVER THE INPUT: true; the input reads as it did. -/
def recordsDivideSpec : ChangeSpec := { name := "recordsDivide", fn := fun _ => fun
  | [d1, d2, d3] => { results := [.lit (.bool true)], args := [d1, d2, d3] }
  | _ => none }
def recordsDivideRow : OpenClaim := { program := "ytopigdnffnondaa", sum := "6ad7d3a4f1154fbdd68e476a6690f8c380d779d350f2f990f0160acd724eb33e", func := "payroll/payrolllaw7.RecordsDivide", spec := "recordsDivide", unfollowed := true, recurses := true, apart := false }
def RecordsDivideSaid : Prop := recordsDivideRow.holds Try.pinned (OpenSpec.ofChange recordsDivideSpec)

/-- ITS FALSE NEIGHBOUR: 'it returns false'. Refute it at one input. -/
def recordsDivideWrong : ChangeSpec := { name := "recordsDivide", fn := fun _ => fun
  | [d1, d2, d3] => { results := [.lit (.bool false)], args := [d1, d2, d3] }
  | _ => none }
def RecordsDivideWrongFalsely : Prop := recordsDivideRow.holds Try.pinned (OpenSpec.ofChange recordsDivideWrong)

/-- 'payrolllaw7.RecordsDamage': WHATEVER THE INPUT: true; the input reads as it did. -/
def recordsDamageSpec : ChangeSpec := { name := "recordsDamage", fn := fun _ => fun
  | [d1, d2, d3] => { results := [.lit (.bool true)], args := [d1, d2, d3] }
  | _ => none }
def recordsDamageRow : OpenClaim := { program := "ytopigdnffnondaa", sum := "6ad7d3a4f1154fbdd68e476a6690f8c380d779d350f2f990f0160acd724eb33e", func := "payroll/payrolllaw7.RecordsDamage", spec := "recordsDamage", unfollowed := true, recurses := true, apart := false }
def RecordsDamageSaid : Prop := recordsDamageRow.holds Try.pinned (OpenSpec.ofChange recordsDamageSpec)

/-- ITS FALSE NEIGHBOUR: 'it returns false'. Refute it at one input. -/
def recordsDamageWrong : ChangeSpec := { name := "recordsDamage", fn := fun _ => fun
  | [d1, d2, d3] => { results := [.lit (.bool false)], args := [d1, d2, d3] }
  | _ => none }
def RecordsDamageWrongFalsely : Prop := recordsDamageRow.holds Try.pinned (OpenSpec.ofChange recordsDamageWrong)

/-- 'payrolllaw7.RecordsAccount': WHATEVER THE INPUT: true; the input reads as it did. -/
def recordsAccountSpec : ChangeSpec := { name := "recordsAccount", fn := fun _ => fun
  | [d1, d2] => { results := [.lit (.bool true)], args := [d1, d2] }
  | _ => none }
def recordsAccountRow : OpenClaim := { program := "ytopigdnffnondaa", sum := "6ad7d3a4f1154fbdd68e476a6690f8c380d779d350f2f990f0160acd724eb33e", func := "payroll/payrolllaw7.RecordsAccount", spec := "recordsAccount", unfollowed := true, recurses := true, apart := false }
def RecordsAccountSaid : Prop := recordsAccountRow.holds Try.pinned (OpenSpec.ofChange recordsAccountSpec)

/-- ITS FALSE NEIGHBOUR: 'it returns false'. Refute it at one input. -/
def recordsAccountWrong : ChangeSpec := { name := "recordsAccount", fn := fun _ => fun
  | [d1, d2] => { results := [.lit (.bool false)], args := [d1, d2] }
  | _ => none }
def RecordsAccountWrongFalsely : Prop := recordsAccountRow.holds Try.pinned (OpenSpec.ofChange recordsAccountWrong)

/- THE SECOND FORM. 'bulk': how many values and letters a reading holds, each counted each time it is reached (what is shared counts as often as it is met; a slice's spare places count too). A statement '..UptoSaid' is the law's where the arguments, and the package variables that the reading takes, are together of bulk at most 1048576: NARROWER than '..Said'. Prove '..Said' where nothing that the law and all that it calls make is longer than what came in: it says more and counts as full. Else prove '..UptoSaid'. A law counts once. -/
mutual
def uptoBulk {H : Type} : DataW H → Nat
  | .lit (.string bytes) => bytes.length + 1
  | .lit _ => 1
  | .nil => 1
  | .ptr d => uptoBulk d + 1
  | .slice elems spare => uptoBulkAll elems + uptoBulkAll spare + 1
  | .agg parts => uptoBulkAll parts + 1
  | .iface _ d => uptoBulk d + 1
  | .map entries => uptoBulkEntries entries + 1
  | .held _ => 1
def uptoBulkAll {H : Type} : List (DataW H) → Nat
  | [] => 0
  | d :: r => uptoBulk d + uptoBulkAll r
def uptoBulkEntries {H : Type} : List (Lit × DataW H) → Nat
  | [] => 0
  | x :: r => uptoBulkEntry x + uptoBulkEntries r
def uptoBulkEntry {H : Type} : Lit × DataW H → Nat
  | (.string bytes, d) => bytes.length + uptoBulk d + 1
  | (_, d) => uptoBulk d + 1
 end
def uptoSmall : (H : Type) → List (DataW H) → Bool := fun _ ds => decide (uptoBulkAll ds ≤ 1048576)
def OpenSpec.upto (s : _root_.Go.ChangeSpec) : _root_.Go.OpenSpec := { _root_.Go.OpenSpec.ofChange s with cond := some uptoSmall }

/-- 'payrolllaw7.RecordsEncode', WHERE WHAT IT READS IS OF BULK AT MOST 1048576: true; the input reads as it did. -/
def recordsEncodeUptoRow : OpenClaim := { program := "ytopigdnffnondaa", sum := "6ad7d3a4f1154fbdd68e476a6690f8c380d779d350f2f990f0160acd724eb33e", func := "payroll/payrolllaw7.RecordsEncode", spec := "recordsEncode", unfollowed := true, recurses := true, apart := false, narrowed := true }
def RecordsEncodeUptoSaid : Prop := recordsEncodeUptoRow.holds Try.pinned (OpenSpec.upto recordsEncodeSpec)

/-- 'payrolllaw7.RecordsDecode', WHERE WHAT IT READS IS OF BULK AT MOST 1048576: true; the input reads as it did. -/
def recordsDecodeUptoRow : OpenClaim := { program := "ytopigdnffnondaa", sum := "6ad7d3a4f1154fbdd68e476a6690f8c380d779d350f2f990f0160acd724eb33e", func := "payroll/payrolllaw7.RecordsDecode", spec := "recordsDecode", unfollowed := true, recurses := true, apart := false, narrowed := true }
def RecordsDecodeUptoSaid : Prop := recordsDecodeUptoRow.holds Try.pinned (OpenSpec.upto recordsDecodeSpec)

/-- 'payrolllaw7.RecordsComeBack', WHERE WHAT IT READS IS OF BULK AT MOST 1048576: true; the input reads as it did. -/
def recordsComeBackUptoRow : OpenClaim := { program := "ytopigdnffnondaa", sum := "6ad7d3a4f1154fbdd68e476a6690f8c380d779d350f2f990f0160acd724eb33e", func := "payroll/payrolllaw7.RecordsComeBack", spec := "recordsComeBack", unfollowed := true, recurses := true, apart := false, narrowed := true }
def RecordsComeBackUptoSaid : Prop := recordsComeBackUptoRow.holds Try.pinned (OpenSpec.upto recordsComeBackSpec)

/-- 'payrolllaw7.RecordsDivide', WHERE WHAT IT READS IS OF BULK AT MOST 1048576: true; the input reads as it did. -/
def recordsDivideUptoRow : OpenClaim := { program := "ytopigdnffnondaa", sum := "6ad7d3a4f1154fbdd68e476a6690f8c380d779d350f2f990f0160acd724eb33e", func := "payroll/payrolllaw7.RecordsDivide", spec := "recordsDivide", unfollowed := true, recurses := true, apart := false, narrowed := true }
def RecordsDivideUptoSaid : Prop := recordsDivideUptoRow.holds Try.pinned (OpenSpec.upto recordsDivideSpec)

/-- 'payrolllaw7.RecordsDamage', WHERE WHAT IT READS IS OF BULK AT MOST 1048576: true; the input reads as it did. -/
def recordsDamageUptoRow : OpenClaim := { program := "ytopigdnffnondaa", sum := "6ad7d3a4f1154fbdd68e476a6690f8c380d779d350f2f990f0160acd724eb33e", func := "payroll/payrolllaw7.RecordsDamage", spec := "recordsDamage", unfollowed := true, recurses := true, apart := false, narrowed := true }
def RecordsDamageUptoSaid : Prop := recordsDamageUptoRow.holds Try.pinned (OpenSpec.upto recordsDamageSpec)

/-- 'payrolllaw7.RecordsAccount', WHERE WHAT IT READS IS OF BULK AT MOST 1048576: true; the input reads as it did. -/
def recordsAccountUptoRow : OpenClaim := { program := "ytopigdnffnondaa", sum := "6ad7d3a4f1154fbdd68e476a6690f8c380d779d350f2f990f0160acd724eb33e", func := "payroll/payrolllaw7.RecordsAccount", spec := "recordsAccount", unfollowed := true, recurses := true, apart := false, narrowed := true }
def RecordsAccountUptoSaid : Prop := recordsAccountUptoRow.holds Try.pinned (OpenSpec.upto recordsAccountSpec)

end Rows
end Go.Proofs.Ytopigdnffnondaa
