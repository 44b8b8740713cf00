/-
  NARROWER THAN 'FOR EVERY INPUT', by the rows' own cells (each row's printed sentence says how): VaultLoads: laid · VaultNil: laid · VaultCrashes: laid · VaultPlays: laid.
  DERIVED. THE GIVEN ROWS OF THIS SEAT. 4 by the template 'for every input the law returns true; each argument reads behind the call as it read before'; 0 by the template 'total and deterministic' (their statements: YtehabbnohoomjaaGreatDoorTotals.lean).
  GIVEN WITH THE SEED: the statements are not yours to turn. If you find one false, say at which input.
  Laid BY PROGRAM, IN A SANDBOX (cutbox-rows.mjs): the forced cells as the released guide's own fill.sh prints them over the translation 5ccb22220deb5076… (all of the seat's roots in one cut). By AI agents, Wed Nov 11 2026. No macro, syntax, notation, axiom, sorry.
-/
import Derived.Test.YtehabbnohoomjaaGreatDoorChecked
import GoSem.Claim
import GoSem.ClaimJoined
import GoSem.ClaimMapViews
import Derived.JoinedTies
import Derived.KernelRfl
namespace Go.Proofs.YtehabbnohoomjaaGreatDoor
/- THE CELL 'sum', in the pinned program and in every row, IS THE sha256 OF THE DUMP (.gsa) THAT YtehabbnohoomjaaGreatDoorProg.lean LOADS. Nothing in Lean hashes anything: it is a label: what it is worth is what the hold of that sum in a sandbox is worth. -/
noncomputable def Tryz.pinned : Pinned := { name := "ytehabbnohoomjaagreatdoor", sum := "5ccb22220deb5076f1224903240f295cc9378b8da684b1d34a3dcf28e91e1510", checked := Tryz.checked }
namespace Rows
def none {H : Type} : Left H := { results := [], args := [] }

/- WHAT THE LISTED PACKAGE-LEVEL VARIABLES READ AS WHEN THE CALL BEGINS. Each datum BY PROGRAM (the guide's laid-datum.mjs) off the statement by which the dump's own 'gosem.cut.vars' lays the variable. In a bare row this is a premise. The card (YtehabbnohoomjaaGreatDoorCards.lean) ties it to the program's text. -/
def laid_errors_errorType {H : Type} : DataW H := .iface "internal/reflectlite.rtype" (.agg [.ptr (.lit (.string [101, 114, 114, 111, 114]))])
def laid_wheelhouse_fault_errProtocol {H : Type} : DataW H := .iface "*errors.errorString" (.ptr (.agg [.lit (.string [112, 114, 111, 116, 111, 99, 111, 108])]))
def laid_wheelhouse_fault_errAccess {H : Type} : DataW H := .iface "*errors.errorString" (.ptr (.agg [.lit (.string [97, 99, 99, 101, 115, 115])]))
def laid_wheelhouse_fault_errSize {H : Type} : DataW H := .iface "*errors.errorString" (.ptr (.agg [.lit (.string [115, 105, 122, 101])]))
def laid_wheelhouse_fault_errValue {H : Type} : DataW H := .iface "*errors.errorString" (.ptr (.agg [.lit (.string [118, 97, 108, 117, 101])]))
def laid_wheelhouse_fault_errDevice {H : Type} : DataW H := .iface "*errors.errorString" (.ptr (.agg [.lit (.string [100, 101, 118, 105, 99, 101])]))

/-- 'wheelhouselaw19.VaultLoads': WHATEVER THE INPUT: true; the input reads as it did. -/
def vaultLoadsSpec : ChangeSpec := { name := "vaultLoads", fn := fun _ => fun
  | [d1, d2] => { results := [.lit (.bool true)], args := [d1, d2] }
  | _ => none }
def vaultLoadsRow : OpenClaim := { program := "ytehabbnohoomjaagreatdoor", sum := "5ccb22220deb5076f1224903240f295cc9378b8da684b1d34a3dcf28e91e1510", func := "wheelhouse/wheelhouselaw19.VaultLoads", spec := "vaultLoads", inPlace := ["internal/reflectlite.ValueOf", "(internal/reflectlite.Value).Type", "(internal/reflectlite.Value).IsNil", "internal/reflectlite.TypeOf", "(internal/reflectlite.Value).Elem", "(internal/reflectlite.Value).Set"], unfollowed := true, recurses := true, named := ["errors.errorType", "wheelhouse/fault.errProtocol", "wheelhouse/fault.errAccess", "wheelhouse/fault.errSize", "wheelhouse/fault.errValue", "wheelhouse/fault.errDevice"], apart := false, laid := [("errors.errorType", laid_errors_errorType), ("wheelhouse/fault.errProtocol", laid_wheelhouse_fault_errProtocol), ("wheelhouse/fault.errAccess", laid_wheelhouse_fault_errAccess), ("wheelhouse/fault.errSize", laid_wheelhouse_fault_errSize), ("wheelhouse/fault.errValue", laid_wheelhouse_fault_errValue), ("wheelhouse/fault.errDevice", laid_wheelhouse_fault_errDevice)] }
def VaultLoadsSaid : Prop := vaultLoadsRow.holds Tryz.pinned (OpenSpec.ofChange vaultLoadsSpec)

/-- ITS FALSE NEIGHBOUR: 'it returns false'. Refute it at one input. -/
def vaultLoadsWrong : ChangeSpec := { name := "vaultLoads", fn := fun _ => fun
  | [d1, d2] => { results := [.lit (.bool false)], args := [d1, d2] }
  | _ => none }
def VaultLoadsWrongFalsely : Prop := vaultLoadsRow.holds Tryz.pinned (OpenSpec.ofChange vaultLoadsWrong)

/-- 'wheelhouselaw19.VaultNil': WHATEVER THE INPUT: true; the input reads as it did. -/
def vaultNilSpec : ChangeSpec := { name := "vaultNil", fn := fun _ => fun
  | [d] => { results := [.lit (.bool true)], args := [d] }
  | _ => none }
def vaultNilRow : OpenClaim := { program := "ytehabbnohoomjaagreatdoor", sum := "5ccb22220deb5076f1224903240f295cc9378b8da684b1d34a3dcf28e91e1510", func := "wheelhouse/wheelhouselaw19.VaultNil", spec := "vaultNil", inPlace := ["internal/reflectlite.ValueOf", "(internal/reflectlite.Value).Type", "(internal/reflectlite.Value).IsNil", "internal/reflectlite.TypeOf", "(internal/reflectlite.Value).Elem", "(internal/reflectlite.Value).Set"], unfollowed := true, recurses := true, named := ["errors.errorType", "wheelhouse/fault.errProtocol", "wheelhouse/fault.errAccess", "wheelhouse/fault.errSize", "wheelhouse/fault.errValue", "wheelhouse/fault.errDevice"], apart := false, laid := [("errors.errorType", laid_errors_errorType), ("wheelhouse/fault.errProtocol", laid_wheelhouse_fault_errProtocol), ("wheelhouse/fault.errAccess", laid_wheelhouse_fault_errAccess), ("wheelhouse/fault.errSize", laid_wheelhouse_fault_errSize), ("wheelhouse/fault.errValue", laid_wheelhouse_fault_errValue), ("wheelhouse/fault.errDevice", laid_wheelhouse_fault_errDevice)] }
def VaultNilSaid : Prop := vaultNilRow.holds Tryz.pinned (OpenSpec.ofChange vaultNilSpec)

/-- ITS FALSE NEIGHBOUR: 'it returns false'. Refute it at one input. -/
def vaultNilWrong : ChangeSpec := { name := "vaultNil", fn := fun _ => fun
  | [d] => { results := [.lit (.bool false)], args := [d] }
  | _ => none }
def VaultNilWrongFalsely : Prop := vaultNilRow.holds Tryz.pinned (OpenSpec.ofChange vaultNilWrong)

/-- 'wheelhouselaw19.VaultCrashes': WHATEVER THE INPUT: true; the input reads as it did. -/
def vaultCrashesSpec : ChangeSpec := { name := "vaultCrashes", fn := fun _ => fun
  | [d] => { results := [.lit (.bool true)], args := [d] }
  | _ => none }
def vaultCrashesRow : OpenClaim := { program := "ytehabbnohoomjaagreatdoor", sum := "5ccb22220deb5076f1224903240f295cc9378b8da684b1d34a3dcf28e91e1510", func := "wheelhouse/wheelhouselaw19.VaultCrashes", spec := "vaultCrashes", inPlace := ["internal/reflectlite.ValueOf", "(internal/reflectlite.Value).Type", "(internal/reflectlite.Value).IsNil", "internal/reflectlite.TypeOf", "(internal/reflectlite.Value).Elem", "(internal/reflectlite.Value).Set"], unfollowed := true, recurses := true, named := ["errors.errorType", "wheelhouse/fault.errProtocol", "wheelhouse/fault.errAccess", "wheelhouse/fault.errSize", "wheelhouse/fault.errValue", "wheelhouse/fault.errDevice"], apart := false, laid := [("errors.errorType", laid_errors_errorType), ("wheelhouse/fault.errProtocol", laid_wheelhouse_fault_errProtocol), ("wheelhouse/fault.errAccess", laid_wheelhouse_fault_errAccess), ("wheelhouse/fault.errSize", laid_wheelhouse_fault_errSize), ("wheelhouse/fault.errValue", laid_wheelhouse_fault_errValue), ("wheelhouse/fault.errDevice", laid_wheelhouse_fault_errDevice)] }
def VaultCrashesSaid : Prop := vaultCrashesRow.holds Tryz.pinned (OpenSpec.ofChange vaultCrashesSpec)

/-- ITS FALSE NEIGHBOUR: 'it returns false'. Refute it at one input. -/
def vaultCrashesWrong : ChangeSpec := { name := "vaultCrashes", fn := fun _ => fun
  | [d] => { results := [.lit (.bool false)], args := [d] }
  | _ => none }
def VaultCrashesWrongFalsely : Prop := vaultCrashesRow.holds Tryz.pinned (OpenSpec.ofChange vaultCrashesWrong)

/-- 'wheelhouselaw19.VaultPlays': WHATEVER THE INPUT: true; the input reads as it did. -/
def vaultPlaysSpec : ChangeSpec := { name := "vaultPlays", fn := fun _ => fun
  | [d] => { results := [.lit (.bool true)], args := [d] }
  | _ => none }
def vaultPlaysRow : OpenClaim := { program := "ytehabbnohoomjaagreatdoor", sum := "5ccb22220deb5076f1224903240f295cc9378b8da684b1d34a3dcf28e91e1510", func := "wheelhouse/wheelhouselaw19.VaultPlays", spec := "vaultPlays", inPlace := ["internal/reflectlite.ValueOf", "(internal/reflectlite.Value).Type", "(internal/reflectlite.Value).IsNil", "internal/reflectlite.TypeOf", "(internal/reflectlite.Value).Elem", "(internal/reflectlite.Value).Set"], unfollowed := true, recurses := true, named := ["errors.errorType", "wheelhouse/fault.errProtocol", "wheelhouse/fault.errAccess", "wheelhouse/fault.errSize", "wheelhouse/fault.errValue", "wheelhouse/fault.errDevice"], apart := false, laid := [("errors.errorType", laid_errors_errorType), ("wheelhouse/fault.errProtocol", laid_wheelhouse_fault_errProtocol), ("wheelhouse/fault.errAccess", laid_wheelhouse_fault_errAccess), ("wheelhouse/fault.errSize", laid_wheelhouse_fault_errSize), ("wheelhouse/fault.errValue", laid_wheelhouse_fault_errValue), ("wheelhouse/fault.errDevice", laid_wheelhouse_fault_errDevice)] }
def VaultPlaysSaid : Prop := vaultPlaysRow.holds Tryz.pinned (OpenSpec.ofChange vaultPlaysSpec)

/-- ITS FALSE NEIGHBOUR: 'it returns false'. Refute it at one input. -/
def vaultPlaysWrong : ChangeSpec := { name := "vaultPlays", fn := fun _ => fun
  | [d] => { results := [.lit (.bool false)], args := [d] }
  | _ => none }
def VaultPlaysWrongFalsely : Prop := vaultPlaysRow.holds Tryz.pinned (OpenSpec.ofChange vaultPlaysWrong)

/- THE SECOND FORM. 'bulk': how many values and letters a reading holds, each counted each time it is reached (what is shared counts as often as it is met; a slice's spare places count too). A statement '..UptoSaid' is the law's where the arguments, and the package variables that the reading takes, are together of bulk at most 1048576: NARROWER than '..Said'. Prove '..Said' where nothing that the law and all that it calls make is longer than what came in: it says more and counts as full. Else prove '..UptoSaid'. A law counts once. -/
mutual
def uptoBulk {H : Type} : DataW H → Nat
  | .lit (.string bytes) => bytes.length + 1
  | .lit _ => 1
  | .nil => 1
  | .ptr d => uptoBulk d + 1
  | .slice elems spare => uptoBulkAll elems + uptoBulkAll spare + 1
  | .agg parts => uptoBulkAll parts + 1
  | .iface _ d => uptoBulk d + 1
  | .map entries => uptoBulkEntries entries + 1
  | .held _ => 1
def uptoBulkAll {H : Type} : List (DataW H) → Nat
  | [] => 0
  | d :: r => uptoBulk d + uptoBulkAll r
def uptoBulkEntries {H : Type} : List (Lit × DataW H) → Nat
  | [] => 0
  | x :: r => uptoBulkEntry x + uptoBulkEntries r
def uptoBulkEntry {H : Type} : Lit × DataW H → Nat
  | (.string bytes, d) => bytes.length + uptoBulk d + 1
  | (_, d) => uptoBulk d + 1
 end
def uptoSmall : (H : Type) → List (DataW H) → Bool := fun _ ds => decide (uptoBulkAll ds ≤ 1048576)
def OpenSpec.upto (s : _root_.Go.ChangeSpec) : _root_.Go.OpenSpec := { _root_.Go.OpenSpec.ofChange s with cond := some uptoSmall }

/-- 'wheelhouselaw19.VaultLoads', WHERE WHAT IT READS IS OF BULK AT MOST 1048576: true; the input reads as it did. -/
def vaultLoadsUptoRow : OpenClaim := { program := "ytehabbnohoomjaagreatdoor", sum := "5ccb22220deb5076f1224903240f295cc9378b8da684b1d34a3dcf28e91e1510", func := "wheelhouse/wheelhouselaw19.VaultLoads", spec := "vaultLoads", inPlace := ["internal/reflectlite.ValueOf", "(internal/reflectlite.Value).Type", "(internal/reflectlite.Value).IsNil", "internal/reflectlite.TypeOf", "(internal/reflectlite.Value).Elem", "(internal/reflectlite.Value).Set"], unfollowed := true, recurses := true, named := ["errors.errorType", "wheelhouse/fault.errProtocol", "wheelhouse/fault.errAccess", "wheelhouse/fault.errSize", "wheelhouse/fault.errValue", "wheelhouse/fault.errDevice"], apart := false, laid := [("errors.errorType", laid_errors_errorType), ("wheelhouse/fault.errProtocol", laid_wheelhouse_fault_errProtocol), ("wheelhouse/fault.errAccess", laid_wheelhouse_fault_errAccess), ("wheelhouse/fault.errSize", laid_wheelhouse_fault_errSize), ("wheelhouse/fault.errValue", laid_wheelhouse_fault_errValue), ("wheelhouse/fault.errDevice", laid_wheelhouse_fault_errDevice)], narrowed := true }
def VaultLoadsUptoSaid : Prop := vaultLoadsUptoRow.holds Tryz.pinned (OpenSpec.upto vaultLoadsSpec)

/-- 'wheelhouselaw19.VaultNil', WHERE WHAT IT READS IS OF BULK AT MOST 1048576: true; the input reads as it did. -/
def vaultNilUptoRow : OpenClaim := { program := "ytehabbnohoomjaagreatdoor", sum := "5ccb22220deb5076f1224903240f295cc9378b8da684b1d34a3dcf28e91e1510", func := "wheelhouse/wheelhouselaw19.VaultNil", spec := "vaultNil", inPlace := ["internal/reflectlite.ValueOf", "(internal/reflectlite.Value).Type", "(internal/reflectlite.Value).IsNil", "internal/reflectlite.TypeOf", "(internal/reflectlite.Value).Elem", "(internal/reflectlite.Value).Set"], unfollowed := true, recurses := true, named := ["errors.errorType", "wheelhouse/fault.errProtocol", "wheelhouse/fault.errAccess", "wheelhouse/fault.errSize", "wheelhouse/fault.errValue", "wheelhouse/fault.errDevice"], apart := false, laid := [("errors.errorType", laid_errors_errorType), ("wheelhouse/fault.errProtocol", laid_wheelhouse_fault_errProtocol), ("wheelhouse/fault.errAccess", laid_wheelhouse_fault_errAccess), ("wheelhouse/fault.errSize", laid_wheelhouse_fault_errSize), ("wheelhouse/fault.errValue", laid_wheelhouse_fault_errValue), ("wheelhouse/fault.errDevice", laid_wheelhouse_fault_errDevice)], narrowed := true }
def VaultNilUptoSaid : Prop := vaultNilUptoRow.holds Tryz.pinned (OpenSpec.upto vaultNilSpec)

/-- 'wheelhouselaw19.VaultCrashes', WHERE WHAT IT READS IS OF BULK AT MOST 1048576: true; the input reads as it did. -/
def vaultCrashesUptoRow : OpenClaim := { program := "ytehabbnohoomjaagreatdoor", sum := "5ccb22220deb5076f1224903240f295cc9378b8da684b1d34a3dcf28e91e1510", func := "wheelhouse/wheelhouselaw19.VaultCrashes", spec := "vaultCrashes", inPlace := ["internal/reflectlite.ValueOf", "(internal/reflectlite.Value).Type", "(internal/reflectlite.Value).IsNil", "internal/reflectlite.TypeOf", "(internal/reflectlite.Value).Elem", "(internal/reflectlite.Value).Set"], unfollowed := true, recurses := true, named := ["errors.errorType", "wheelhouse/fault.errProtocol", "wheelhouse/fault.errAccess", "wheelhouse/fault.errSize", "wheelhouse/fault.errValue", "wheelhouse/fault.errDevice"], apart := false, laid := [("errors.errorType", laid_errors_errorType), ("wheelhouse/fault.errProtocol", laid_wheelhouse_fault_errProtocol), ("wheelhouse/fault.errAccess", laid_wheelhouse_fault_errAccess), ("wheelhouse/fault.errSize", laid_wheelhouse_fault_errSize), ("wheelhouse/fault.errValue", laid_wheelhouse_fault_errValue), ("wheelhouse/fault.errDevice", laid_wheelhouse_fault_errDevice)], narrowed := true }
def VaultCrashesUptoSaid : Prop := vaultCrashesUptoRow.holds Tryz.pinned (OpenSpec.upto vaultCrashesSpec)

/-- 'wheelhouselaw19.VaultPlays', WHERE WHAT IT READS IS OF BULK AT MOST 1048576: true; the input reads as it did. -/
def vaultPlaysUptoRow : OpenClaim := { program := "ytehabbnohoomjaagreatdoor", sum := "5ccb22220deb5076f1224903240f295cc9378b8da684b1d34a3dcf28e91e1510", func := "wheelhouse/wheelhouselaw19.VaultPlays", spec := "vaultPlays", inPlace := ["internal/reflectlite.ValueOf", "(internal/reflectlite.Value).Type", "(internal/reflectlite.Value).IsNil", "internal/reflectlite.TypeOf", "(internal/reflectlite.Value).Elem", "(internal/reflectlite.Value).Set"], unfollowed := true, recurses := true, named := ["errors.errorType", "wheelhouse/fault.errProtocol", "wheelhouse/fault.errAccess", "wheelhouse/fault.errSize", "wheelhouse/fault.errValue", "wheelhouse/fault.errDevice"], apart := false, laid := [("errors.errorType", laid_errors_errorType), ("wheelhouse/fault.errProtocol", laid_wheelhouse_fault_errProtocol), ("wheelhouse/fault.errAccess", laid_wheelhouse_fault_errAccess), ("wheelhouse/fault.errSize", laid_wheelhouse_fault_errSize), ("wheelhouse/fault.errValue", laid_wheelhouse_fault_errValue), ("wheelhouse/fault.errDevice", laid_wheelhouse_fault_errDevice)], narrowed := true }
def VaultPlaysUptoSaid : Prop := vaultPlaysUptoRow.holds Tryz.pinned (OpenSpec.upto vaultPlaysSpec)

end Rows
end Go.Proofs.YtehabbnohoomjaaGreatDoor
