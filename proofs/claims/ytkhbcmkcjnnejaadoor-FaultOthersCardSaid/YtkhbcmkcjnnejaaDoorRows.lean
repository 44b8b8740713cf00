/-
  NARROWER THAN 'FOR EVERY INPUT', by the rows' own cells (each row's printed sentence says how): FaultChains: laid · FaultSays: laid · FaultCodes: laid · FaultNone: laid · FaultOthers: laid.
  DERIVED. THE GIVEN ROWS OF THIS SEAT. 5 by the template 'for every input the law returns true; each argument reads behind the call as it read before'; 0 by the template 'total and deterministic' (their statements: YtkhbcmkcjnnejaaDoorTotals.lean).
  GIVEN WITH THE SEED: the statements are not yours to turn. If you find one false, say at which input.
  Laid BY PROGRAM, IN A SANDBOX (cutbox-rows.mjs): the forced cells as the released guide's own fill.sh prints them over the translation ce2ac9c97f643b8c… (all of the seat's roots in one cut). By AI agents, Wed Nov 11 2026. No macro, syntax, notation, axiom, sorry.
-/
import Derived.Test.YtkhbcmkcjnnejaaDoorChecked
import GoSem.Claim
import GoSem.ClaimJoined
import GoSem.ClaimMapViews
import Derived.JoinedTies
import Derived.KernelRfl
namespace Go.Proofs.YtkhbcmkcjnnejaaDoor
/- THE CELL 'sum', in the pinned program and in every row, IS THE sha256 OF THE DUMP (.gsa) THAT YtkhbcmkcjnnejaaDoorProg.lean LOADS. Nothing in Lean hashes anything: it is a label: what it is worth is what the hold of that sum in a sandbox is worth. -/
noncomputable def Tryd.pinned : Pinned := { name := "ytkhbcmkcjnnejaadoor", sum := "ce2ac9c97f643b8cf4facfb7e7b51f1ff54b593cd4e0386c301033892814ea42", checked := Tryd.checked }
namespace Rows
def none {H : Type} : Left H := { results := [], args := [] }

/- WHAT THE LISTED PACKAGE-LEVEL VARIABLES READ AS WHEN THE CALL BEGINS. Each datum BY PROGRAM (the guide's laid-datum.mjs) off the statement by which the dump's own 'gosem.cut.vars' lays the variable. In a bare row this is a premise. The card (YtkhbcmkcjnnejaaDoorCards.lean) ties it to the program's text. -/
def laid_errors_errorType {H : Type} : DataW H := .iface "internal/reflectlite.rtype" (.agg [.ptr (.lit (.string [101, 114, 114, 111, 114]))])
def laid_wheelhouse_fault_errProtocol {H : Type} : DataW H := .iface "*errors.errorString" (.ptr (.agg [.lit (.string [112, 114, 111, 116, 111, 99, 111, 108])]))
def laid_wheelhouse_fault_errAccess {H : Type} : DataW H := .iface "*errors.errorString" (.ptr (.agg [.lit (.string [97, 99, 99, 101, 115, 115])]))
def laid_wheelhouse_fault_errSize {H : Type} : DataW H := .iface "*errors.errorString" (.ptr (.agg [.lit (.string [115, 105, 122, 101])]))
def laid_wheelhouse_fault_errValue {H : Type} : DataW H := .iface "*errors.errorString" (.ptr (.agg [.lit (.string [118, 97, 108, 117, 101])]))
def laid_wheelhouse_fault_errDevice {H : Type} : DataW H := .iface "*errors.errorString" (.ptr (.agg [.lit (.string [100, 101, 118, 105, 99, 101])]))

/-- 'wheelhouselaw04.FaultChains': WHATEVER THE INPUT: true; the input reads as it did. -/
def faultChainsSpec : ChangeSpec := { name := "faultChains", fn := fun _ => fun
  | [d1, d2] => { results := [.lit (.bool true)], args := [d1, d2] }
  | _ => none }
def faultChainsRow : OpenClaim := { program := "ytkhbcmkcjnnejaadoor", sum := "ce2ac9c97f643b8cf4facfb7e7b51f1ff54b593cd4e0386c301033892814ea42", func := "wheelhouse/wheelhouselaw04.FaultChains", spec := "faultChains", inPlace := ["internal/reflectlite.ValueOf", "(internal/reflectlite.Value).Type", "(internal/reflectlite.Value).IsNil", "internal/reflectlite.TypeOf", "(internal/reflectlite.Value).Elem", "(internal/reflectlite.Value).Set"], unfollowed := true, recurses := true, named := ["wheelhouse/fault.errProtocol", "wheelhouse/fault.errAccess", "wheelhouse/fault.errSize", "wheelhouse/fault.errValue", "wheelhouse/fault.errDevice", "errors.errorType"], apart := false, laid := [("errors.errorType", laid_errors_errorType), ("wheelhouse/fault.errProtocol", laid_wheelhouse_fault_errProtocol), ("wheelhouse/fault.errAccess", laid_wheelhouse_fault_errAccess), ("wheelhouse/fault.errSize", laid_wheelhouse_fault_errSize), ("wheelhouse/fault.errValue", laid_wheelhouse_fault_errValue), ("wheelhouse/fault.errDevice", laid_wheelhouse_fault_errDevice)] }
def FaultChainsSaid : Prop := faultChainsRow.holds Tryd.pinned (OpenSpec.ofChange faultChainsSpec)

/-- ITS FALSE NEIGHBOUR: 'it returns false'. Refute it at one input. -/
def faultChainsWrong : ChangeSpec := { name := "faultChains", fn := fun _ => fun
  | [d1, d2] => { results := [.lit (.bool false)], args := [d1, d2] }
  | _ => none }
def FaultChainsWrongFalsely : Prop := faultChainsRow.holds Tryd.pinned (OpenSpec.ofChange faultChainsWrong)

/-- 'wheelhouselaw04.FaultSays': WHATEVER THE INPUT: true; the input reads as it did. -/
def faultSaysSpec : ChangeSpec := { name := "faultSays", fn := fun _ => fun
  | [d] => { results := [.lit (.bool true)], args := [d] }
  | _ => none }
def faultSaysRow : OpenClaim := { program := "ytkhbcmkcjnnejaadoor", sum := "ce2ac9c97f643b8cf4facfb7e7b51f1ff54b593cd4e0386c301033892814ea42", func := "wheelhouse/wheelhouselaw04.FaultSays", spec := "faultSays", inPlace := ["internal/reflectlite.ValueOf", "(internal/reflectlite.Value).Type", "(internal/reflectlite.Value).IsNil", "internal/reflectlite.TypeOf", "(internal/reflectlite.Value).Elem", "(internal/reflectlite.Value).Set"], unfollowed := true, recurses := true, named := ["wheelhouse/fault.errProtocol", "wheelhouse/fault.errAccess", "wheelhouse/fault.errSize", "wheelhouse/fault.errValue", "wheelhouse/fault.errDevice", "errors.errorType"], apart := false, laid := [("errors.errorType", laid_errors_errorType), ("wheelhouse/fault.errProtocol", laid_wheelhouse_fault_errProtocol), ("wheelhouse/fault.errAccess", laid_wheelhouse_fault_errAccess), ("wheelhouse/fault.errSize", laid_wheelhouse_fault_errSize), ("wheelhouse/fault.errValue", laid_wheelhouse_fault_errValue), ("wheelhouse/fault.errDevice", laid_wheelhouse_fault_errDevice)] }
def FaultSaysSaid : Prop := faultSaysRow.holds Tryd.pinned (OpenSpec.ofChange faultSaysSpec)

/-- ITS FALSE NEIGHBOUR: 'it returns false'. Refute it at one input. -/
def faultSaysWrong : ChangeSpec := { name := "faultSays", fn := fun _ => fun
  | [d] => { results := [.lit (.bool false)], args := [d] }
  | _ => none }
def FaultSaysWrongFalsely : Prop := faultSaysRow.holds Tryd.pinned (OpenSpec.ofChange faultSaysWrong)

/-- 'wheelhouselaw04.FaultCodes': WHATEVER THE INPUT: true; the input reads as it did. -/
def faultCodesSpec : ChangeSpec := { name := "faultCodes", fn := fun _ => fun
  | [d] => { results := [.lit (.bool true)], args := [d] }
  | _ => none }
def faultCodesRow : OpenClaim := { program := "ytkhbcmkcjnnejaadoor", sum := "ce2ac9c97f643b8cf4facfb7e7b51f1ff54b593cd4e0386c301033892814ea42", func := "wheelhouse/wheelhouselaw04.FaultCodes", spec := "faultCodes", inPlace := ["internal/reflectlite.ValueOf", "(internal/reflectlite.Value).Type", "(internal/reflectlite.Value).IsNil", "internal/reflectlite.TypeOf", "(internal/reflectlite.Value).Elem", "(internal/reflectlite.Value).Set"], unfollowed := true, recurses := true, named := ["wheelhouse/fault.errProtocol", "wheelhouse/fault.errAccess", "wheelhouse/fault.errSize", "wheelhouse/fault.errValue", "wheelhouse/fault.errDevice", "errors.errorType"], apart := false, laid := [("errors.errorType", laid_errors_errorType), ("wheelhouse/fault.errProtocol", laid_wheelhouse_fault_errProtocol), ("wheelhouse/fault.errAccess", laid_wheelhouse_fault_errAccess), ("wheelhouse/fault.errSize", laid_wheelhouse_fault_errSize), ("wheelhouse/fault.errValue", laid_wheelhouse_fault_errValue), ("wheelhouse/fault.errDevice", laid_wheelhouse_fault_errDevice)] }
def FaultCodesSaid : Prop := faultCodesRow.holds Tryd.pinned (OpenSpec.ofChange faultCodesSpec)

/-- ITS FALSE NEIGHBOUR: 'it returns false'. Refute it at one input. -/
def faultCodesWrong : ChangeSpec := { name := "faultCodes", fn := fun _ => fun
  | [d] => { results := [.lit (.bool false)], args := [d] }
  | _ => none }
def FaultCodesWrongFalsely : Prop := faultCodesRow.holds Tryd.pinned (OpenSpec.ofChange faultCodesWrong)

/-- 'wheelhouselaw04.FaultNone': WHATEVER THE INPUT: true; the input reads as it did. -/
def faultNoneSpec : ChangeSpec := { name := "faultNone", fn := fun _ => fun
  | [d1, d2] => { results := [.lit (.bool true)], args := [d1, d2] }
  | _ => none }
def faultNoneRow : OpenClaim := { program := "ytkhbcmkcjnnejaadoor", sum := "ce2ac9c97f643b8cf4facfb7e7b51f1ff54b593cd4e0386c301033892814ea42", func := "wheelhouse/wheelhouselaw04.FaultNone", spec := "faultNone", inPlace := ["internal/reflectlite.ValueOf", "(internal/reflectlite.Value).Type", "(internal/reflectlite.Value).IsNil", "internal/reflectlite.TypeOf", "(internal/reflectlite.Value).Elem", "(internal/reflectlite.Value).Set"], unfollowed := true, recurses := true, named := ["wheelhouse/fault.errProtocol", "wheelhouse/fault.errAccess", "wheelhouse/fault.errSize", "wheelhouse/fault.errValue", "wheelhouse/fault.errDevice", "errors.errorType"], apart := false, laid := [("errors.errorType", laid_errors_errorType), ("wheelhouse/fault.errProtocol", laid_wheelhouse_fault_errProtocol), ("wheelhouse/fault.errAccess", laid_wheelhouse_fault_errAccess), ("wheelhouse/fault.errSize", laid_wheelhouse_fault_errSize), ("wheelhouse/fault.errValue", laid_wheelhouse_fault_errValue), ("wheelhouse/fault.errDevice", laid_wheelhouse_fault_errDevice)] }
def FaultNoneSaid : Prop := faultNoneRow.holds Tryd.pinned (OpenSpec.ofChange faultNoneSpec)

/-- ITS FALSE NEIGHBOUR: 'it returns false'. Refute it at one input. -/
def faultNoneWrong : ChangeSpec := { name := "faultNone", fn := fun _ => fun
  | [d1, d2] => { results := [.lit (.bool false)], args := [d1, d2] }
  | _ => none }
def FaultNoneWrongFalsely : Prop := faultNoneRow.holds Tryd.pinned (OpenSpec.ofChange faultNoneWrong)

/-- 'wheelhouselaw04.FaultOthers': WHATEVER THE INPUT: true; the input reads as it did. -/
def faultOthersSpec : ChangeSpec := { name := "faultOthers", fn := fun _ => fun
  | [d1, d2, d3] => { results := [.lit (.bool true)], args := [d1, d2, d3] }
  | _ => none }
def faultOthersRow : OpenClaim := { program := "ytkhbcmkcjnnejaadoor", sum := "ce2ac9c97f643b8cf4facfb7e7b51f1ff54b593cd4e0386c301033892814ea42", func := "wheelhouse/wheelhouselaw04.FaultOthers", spec := "faultOthers", inPlace := ["internal/reflectlite.ValueOf", "(internal/reflectlite.Value).Type", "(internal/reflectlite.Value).IsNil", "internal/reflectlite.TypeOf", "(internal/reflectlite.Value).Elem", "(internal/reflectlite.Value).Set"], unfollowed := true, recurses := true, named := ["wheelhouse/fault.errProtocol", "wheelhouse/fault.errAccess", "wheelhouse/fault.errSize", "wheelhouse/fault.errValue", "wheelhouse/fault.errDevice", "errors.errorType"], apart := false, laid := [("errors.errorType", laid_errors_errorType), ("wheelhouse/fault.errProtocol", laid_wheelhouse_fault_errProtocol), ("wheelhouse/fault.errAccess", laid_wheelhouse_fault_errAccess), ("wheelhouse/fault.errSize", laid_wheelhouse_fault_errSize), ("wheelhouse/fault.errValue", laid_wheelhouse_fault_errValue), ("wheelhouse/fault.errDevice", laid_wheelhouse_fault_errDevice)] }
def FaultOthersSaid : Prop := faultOthersRow.holds Tryd.pinned (OpenSpec.ofChange faultOthersSpec)

/-- ITS FALSE NEIGHBOUR: 'it returns false'. Refute it at one input. -/
def faultOthersWrong : ChangeSpec := { name := "faultOthers", fn := fun _ => fun
  | [d1, d2, d3] => { results := [.lit (.bool false)], args := [d1, d2, d3] }
  | _ => none }
def FaultOthersWrongFalsely : Prop := faultOthersRow.holds Tryd.pinned (OpenSpec.ofChange faultOthersWrong)

/- THE SECOND FORM. 'bulk': how many values and letters a reading holds, each counted each time it is reached (what is shared counts as often as it is met; a slice's spare places count too). A statement '..UptoSaid' is the law's where the arguments, and the package variables that the reading takes, are together of bulk at most 1048576: NARROWER than '..Said'. Prove '..Said' where nothing that the law and all that it calls make is longer than what came in: it says more and counts as full. Else prove '..UptoSaid'. A law counts once. -/
mutual
def uptoBulk {H : Type} : DataW H → Nat
  | .lit (.string bytes) => bytes.length + 1
  | .lit _ => 1
  | .nil => 1
  | .ptr d => uptoBulk d + 1
  | .slice elems spare => uptoBulkAll elems + uptoBulkAll spare + 1
  | .agg parts => uptoBulkAll parts + 1
  | .iface _ d => uptoBulk d + 1
  | .map entries => uptoBulkEntries entries + 1
  | .held _ => 1
def uptoBulkAll {H : Type} : List (DataW H) → Nat
  | [] => 0
  | d :: r => uptoBulk d + uptoBulkAll r
def uptoBulkEntries {H : Type} : List (Lit × DataW H) → Nat
  | [] => 0
  | x :: r => uptoBulkEntry x + uptoBulkEntries r
def uptoBulkEntry {H : Type} : Lit × DataW H → Nat
  | (.string bytes, d) => bytes.length + uptoBulk d + 1
  | (_, d) => uptoBulk d + 1
 end
def uptoSmall : (H : Type) → List (DataW H) → Bool := fun _ ds => decide (uptoBulkAll ds ≤ 1048576)
def OpenSpec.upto (s : _root_.Go.ChangeSpec) : _root_.Go.OpenSpec := { _root_.Go.OpenSpec.ofChange s with cond := some uptoSmall }

/-- 'wheelhouselaw04.FaultChains', WHERE WHAT IT READS IS OF BULK AT MOST 1048576: true; the input reads as it did. -/
def faultChainsUptoRow : OpenClaim := { program := "ytkhbcmkcjnnejaadoor", sum := "ce2ac9c97f643b8cf4facfb7e7b51f1ff54b593cd4e0386c301033892814ea42", func := "wheelhouse/wheelhouselaw04.FaultChains", spec := "faultChains", inPlace := ["internal/reflectlite.ValueOf", "(internal/reflectlite.Value).Type", "(internal/reflectlite.Value).IsNil", "internal/reflectlite.TypeOf", "(internal/reflectlite.Value).Elem", "(internal/reflectlite.Value).Set"], unfollowed := true, recurses := true, named := ["wheelhouse/fault.errProtocol", "wheelhouse/fault.errAccess", "wheelhouse/fault.errSize", "wheelhouse/fault.errValue", "wheelhouse/fault.errDevice", "errors.errorType"], apart := false, laid := [("errors.errorType", laid_errors_errorType), ("wheelhouse/fault.errProtocol", laid_wheelhouse_fault_errProtocol), ("wheelhouse/fault.errAccess", laid_wheelhouse_fault_errAccess), ("wheelhouse/fault.errSize", laid_wheelhouse_fault_errSize), ("wheelhouse/fault.errValue", laid_wheelhouse_fault_errValue), ("wheelhouse/fault.errDevice", laid_wheelhouse_fault_errDevice)], narrowed := true }
def FaultChainsUptoSaid : Prop := faultChainsUptoRow.holds Tryd.pinned (OpenSpec.upto faultChainsSpec)

/-- 'wheelhouselaw04.FaultSays', WHERE WHAT IT READS IS OF BULK AT MOST 1048576: true; the input reads as it did. -/
def faultSaysUptoRow : OpenClaim := { program := "ytkhbcmkcjnnejaadoor", sum := "ce2ac9c97f643b8cf4facfb7e7b51f1ff54b593cd4e0386c301033892814ea42", func := "wheelhouse/wheelhouselaw04.FaultSays", spec := "faultSays", inPlace := ["internal/reflectlite.ValueOf", "(internal/reflectlite.Value).Type", "(internal/reflectlite.Value).IsNil", "internal/reflectlite.TypeOf", "(internal/reflectlite.Value).Elem", "(internal/reflectlite.Value).Set"], unfollowed := true, recurses := true, named := ["wheelhouse/fault.errProtocol", "wheelhouse/fault.errAccess", "wheelhouse/fault.errSize", "wheelhouse/fault.errValue", "wheelhouse/fault.errDevice", "errors.errorType"], apart := false, laid := [("errors.errorType", laid_errors_errorType), ("wheelhouse/fault.errProtocol", laid_wheelhouse_fault_errProtocol), ("wheelhouse/fault.errAccess", laid_wheelhouse_fault_errAccess), ("wheelhouse/fault.errSize", laid_wheelhouse_fault_errSize), ("wheelhouse/fault.errValue", laid_wheelhouse_fault_errValue), ("wheelhouse/fault.errDevice", laid_wheelhouse_fault_errDevice)], narrowed := true }
def FaultSaysUptoSaid : Prop := faultSaysUptoRow.holds Tryd.pinned (OpenSpec.upto faultSaysSpec)

/-- 'wheelhouselaw04.FaultCodes', WHERE WHAT IT READS IS OF BULK AT MOST 1048576: true; the input reads as it did. -/
def faultCodesUptoRow : OpenClaim := { program := "ytkhbcmkcjnnejaadoor", sum := "ce2ac9c97f643b8cf4facfb7e7b51f1ff54b593cd4e0386c301033892814ea42", func := "wheelhouse/wheelhouselaw04.FaultCodes", spec := "faultCodes", inPlace := ["internal/reflectlite.ValueOf", "(internal/reflectlite.Value).Type", "(internal/reflectlite.Value).IsNil", "internal/reflectlite.TypeOf", "(internal/reflectlite.Value).Elem", "(internal/reflectlite.Value).Set"], unfollowed := true, recurses := true, named := ["wheelhouse/fault.errProtocol", "wheelhouse/fault.errAccess", "wheelhouse/fault.errSize", "wheelhouse/fault.errValue", "wheelhouse/fault.errDevice", "errors.errorType"], apart := false, laid := [("errors.errorType", laid_errors_errorType), ("wheelhouse/fault.errProtocol", laid_wheelhouse_fault_errProtocol), ("wheelhouse/fault.errAccess", laid_wheelhouse_fault_errAccess), ("wheelhouse/fault.errSize", laid_wheelhouse_fault_errSize), ("wheelhouse/fault.errValue", laid_wheelhouse_fault_errValue), ("wheelhouse/fault.errDevice", laid_wheelhouse_fault_errDevice)], narrowed := true }
def FaultCodesUptoSaid : Prop := faultCodesUptoRow.holds Tryd.pinned (OpenSpec.upto faultCodesSpec)

/-- 'wheelhouselaw04.FaultNone', WHERE WHAT IT READS IS OF BULK AT MOST 1048576: true; the input reads as it did. -/
def faultNoneUptoRow : OpenClaim := { program := "ytkhbcmkcjnnejaadoor", sum := "ce2ac9c97f643b8cf4facfb7e7b51f1ff54b593cd4e0386c301033892814ea42", func := "wheelhouse/wheelhouselaw04.FaultNone", spec := "faultNone", inPlace := ["internal/reflectlite.ValueOf", "(internal/reflectlite.Value).Type", "(internal/reflectlite.Value).IsNil", "internal/reflectlite.TypeOf", "(internal/reflectlite.Value).Elem", "(internal/reflectlite.Value).Set"], unfollowed := true, recurses := true, named := ["wheelhouse/fault.errProtocol", "wheelhouse/fault.errAccess", "wheelhouse/fault.errSize", "wheelhouse/fault.errValue", "wheelhouse/fault.errDevice", "errors.errorType"], apart := false, laid := [("errors.errorType", laid_errors_errorType), ("wheelhouse/fault.errProtocol", laid_wheelhouse_fault_errProtocol), ("wheelhouse/fault.errAccess", laid_wheelhouse_fault_errAccess), ("wheelhouse/fault.errSize", laid_wheelhouse_fault_errSize), ("wheelhouse/fault.errValue", laid_wheelhouse_fault_errValue), ("wheelhouse/fault.errDevice", laid_wheelhouse_fault_errDevice)], narrowed := true }
def FaultNoneUptoSaid : Prop := faultNoneUptoRow.holds Tryd.pinned (OpenSpec.upto faultNoneSpec)

/-- 'wheelhouselaw04.FaultOthers', WHERE WHAT IT READS IS OF BULK AT MOST 1048576: true; the input reads as it did. -/
def faultOthersUptoRow : OpenClaim := { program := "ytkhbcmkcjnnejaadoor", sum := "ce2ac9c97f643b8cf4facfb7e7b51f1ff54b593cd4e0386c301033892814ea42", func := "wheelhouse/wheelhouselaw04.FaultOthers", spec := "faultOthers", inPlace := ["internal/reflectlite.ValueOf", "(internal/reflectlite.Value).Type", "(internal/reflectlite.Value).IsNil", "internal/reflectlite.TypeOf", "(internal/reflectlite.Value).Elem", "(internal/reflectlite.Value).Set"], unfollowed := true, recurses := true, named := ["wheelhouse/fault.errProtocol", "wheelhouse/fault.errAccess", "wheelhouse/fault.errSize", "wheelhouse/fault.errValue", "wheelhouse/fault.errDevice", "errors.errorType"], apart := false, laid := [("errors.errorType", laid_errors_errorType), ("wheelhouse/fault.errProtocol", laid_wheelhouse_fault_errProtocol), ("wheelhouse/fault.errAccess", laid_wheelhouse_fault_errAccess), ("wheelhouse/fault.errSize", laid_wheelhouse_fault_errSize), ("wheelhouse/fault.errValue", laid_wheelhouse_fault_errValue), ("wheelhouse/fault.errDevice", laid_wheelhouse_fault_errDevice)], narrowed := true }
def FaultOthersUptoSaid : Prop := faultOthersUptoRow.holds Tryd.pinned (OpenSpec.upto faultOthersSpec)

end Rows
end Go.Proofs.YtkhbcmkcjnnejaaDoor
