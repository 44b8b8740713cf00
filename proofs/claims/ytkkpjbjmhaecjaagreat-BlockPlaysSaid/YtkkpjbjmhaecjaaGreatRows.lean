/-
  No cell of these rows narrows 'for every input' (looked for: loops, veiled, ifaces, maps, wideKeys, modest, calm, conditions, laid).
  DERIVED. THE GIVEN ROWS OF THIS SEAT. 4 by the template 'for every input the law returns true; each argument reads behind the call as it read before'; 0 by the template 'total and deterministic' (their statements: YtkkpjbjmhaecjaaGreatTotals.lean).
  GIVEN WITH THE SEED: the statements are not yours to turn. If you find one false, say at which input.
  Laid BY PROGRAM, IN A SANDBOX (cutbox-rows.mjs): the forced cells as the released guide's own fill.sh prints them over the translation b7e6c122e5e0898d… (all of the seat's roots in one cut). By AI agents, Wed Nov 11 2026. No macro, syntax, notation, axiom, sorry.
-/
import Derived.Test.YtkkpjbjmhaecjaaGreatChecked
import GoSem.Claim
import GoSem.ClaimJoined
import GoSem.ClaimMapViews
import Derived.JoinedTies
import Derived.KernelRfl
namespace Go.Proofs.YtkkpjbjmhaecjaaGreat
/- THE CELL 'sum', in the pinned program and in every row, IS THE sha256 OF THE DUMP (.gsa) THAT YtkkpjbjmhaecjaaGreatProg.lean LOADS. Nothing in Lean hashes anything: it is a label: what it is worth is what the hold of that sum in a sandbox is worth. -/
noncomputable def Tryz.pinned : Pinned := { name := "ytkkpjbjmhaecjaagreat", sum := "b7e6c122e5e0898dc165b9b8ed4dc4d7cd5efb55f11c1ba5a6c05011c29a6b02", checked := Tryz.checked }
namespace Rows
def none {H : Type} : Left H := { results := [], args := [] }

/-- 'wheelhouselaw22.BlockPlays': WHATEVER THE INPUT: true; the input reads as it did. -/
def blockPlaysSpec : ChangeSpec := { name := "blockPlays", fn := fun _ => fun
  | [d1, d2] => { results := [.lit (.bool true)], args := [d1, d2] }
  | _ => none }
def blockPlaysRow : OpenClaim := { program := "ytkkpjbjmhaecjaagreat", sum := "b7e6c122e5e0898dc165b9b8ed4dc4d7cd5efb55f11c1ba5a6c05011c29a6b02", func := "wheelhouse/wheelhouselaw22.BlockPlays", spec := "blockPlays", unfollowed := true, recurses := true, apart := false }
def BlockPlaysSaid : Prop := blockPlaysRow.holds Tryz.pinned (OpenSpec.ofChange blockPlaysSpec)

/-- ITS FALSE NEIGHBOUR: 'it returns false'. Refute it at one input. -/
def blockPlaysWrong : ChangeSpec := { name := "blockPlays", fn := fun _ => fun
  | [d1, d2] => { results := [.lit (.bool false)], args := [d1, d2] }
  | _ => none }
def BlockPlaysWrongFalsely : Prop := blockPlaysRow.holds Tryz.pinned (OpenSpec.ofChange blockPlaysWrong)

/-- 'wheelhouselaw23.SdoPlays': WHATEVER THE INPUT: true; the input reads as it did. -/
def sdoPlaysSpec : ChangeSpec := { name := "sdoPlays", fn := fun _ => fun
  | [d1, d2, d3] => { results := [.lit (.bool true)], args := [d1, d2, d3] }
  | _ => none }
def sdoPlaysRow : OpenClaim := { program := "ytkkpjbjmhaecjaagreat", sum := "b7e6c122e5e0898dc165b9b8ed4dc4d7cd5efb55f11c1ba5a6c05011c29a6b02", func := "wheelhouse/wheelhouselaw23.SdoPlays", spec := "sdoPlays", unfollowed := true, recurses := true, apart := false }
def SdoPlaysSaid : Prop := sdoPlaysRow.holds Tryz.pinned (OpenSpec.ofChange sdoPlaysSpec)

/-- ITS FALSE NEIGHBOUR: 'it returns false'. Refute it at one input. -/
def sdoPlaysWrong : ChangeSpec := { name := "sdoPlays", fn := fun _ => fun
  | [d1, d2, d3] => { results := [.lit (.bool false)], args := [d1, d2, d3] }
  | _ => none }
def SdoPlaysWrongFalsely : Prop := sdoPlaysRow.holds Tryz.pinned (OpenSpec.ofChange sdoPlaysWrong)

/-- 'wheelhouselaw24.ClientCodes': WHATEVER THE INPUT: true; the input reads as it did. -/
def clientCodesSpec : ChangeSpec := { name := "clientCodes", fn := fun _ => fun
  | [d] => { results := [.lit (.bool true)], args := [d] }
  | _ => none }
def clientCodesRow : OpenClaim := { program := "ytkkpjbjmhaecjaagreat", sum := "b7e6c122e5e0898dc165b9b8ed4dc4d7cd5efb55f11c1ba5a6c05011c29a6b02", func := "wheelhouse/wheelhouselaw24.ClientCodes", spec := "clientCodes", unfollowed := true, recurses := true, apart := false }
def ClientCodesSaid : Prop := clientCodesRow.holds Tryz.pinned (OpenSpec.ofChange clientCodesSpec)

/-- ITS FALSE NEIGHBOUR: 'it returns false'. Refute it at one input. -/
def clientCodesWrong : ChangeSpec := { name := "clientCodes", fn := fun _ => fun
  | [d] => { results := [.lit (.bool false)], args := [d] }
  | _ => none }
def ClientCodesWrongFalsely : Prop := clientCodesRow.holds Tryz.pinned (OpenSpec.ofChange clientCodesWrong)

/-- 'wheelhouselaw24.ClientServed': WHATEVER THE INPUT: true; the input reads as it did. -/
def clientServedSpec : ChangeSpec := { name := "clientServed", fn := fun _ => fun
  | [d] => { results := [.lit (.bool true)], args := [d] }
  | _ => none }
def clientServedRow : OpenClaim := { program := "ytkkpjbjmhaecjaagreat", sum := "b7e6c122e5e0898dc165b9b8ed4dc4d7cd5efb55f11c1ba5a6c05011c29a6b02", func := "wheelhouse/wheelhouselaw24.ClientServed", spec := "clientServed", unfollowed := true, recurses := true, apart := false }
def ClientServedSaid : Prop := clientServedRow.holds Tryz.pinned (OpenSpec.ofChange clientServedSpec)

/-- ITS FALSE NEIGHBOUR: 'it returns false'. Refute it at one input. -/
def clientServedWrong : ChangeSpec := { name := "clientServed", fn := fun _ => fun
  | [d] => { results := [.lit (.bool false)], args := [d] }
  | _ => none }
def ClientServedWrongFalsely : Prop := clientServedRow.holds Tryz.pinned (OpenSpec.ofChange clientServedWrong)

/- THE SECOND FORM. 'bulk': how many values and letters a reading holds, each counted each time it is reached (what is shared counts as often as it is met; a slice's spare places count too). A statement '..UptoSaid' is the law's where the arguments, and the package variables that the reading takes, are together of bulk at most 1048576: NARROWER than '..Said'. Prove '..Said' where nothing that the law and all that it calls make is longer than what came in: it says more and counts as full. Else prove '..UptoSaid'. A law counts once. -/
mutual
def uptoBulk {H : Type} : DataW H → Nat
  | .lit (.string bytes) => bytes.length + 1
  | .lit _ => 1
  | .nil => 1
  | .ptr d => uptoBulk d + 1
  | .slice elems spare => uptoBulkAll elems + uptoBulkAll spare + 1
  | .agg parts => uptoBulkAll parts + 1
  | .iface _ d => uptoBulk d + 1
  | .map entries => uptoBulkEntries entries + 1
  | .held _ => 1
def uptoBulkAll {H : Type} : List (DataW H) → Nat
  | [] => 0
  | d :: r => uptoBulk d + uptoBulkAll r
def uptoBulkEntries {H : Type} : List (Lit × DataW H) → Nat
  | [] => 0
  | x :: r => uptoBulkEntry x + uptoBulkEntries r
def uptoBulkEntry {H : Type} : Lit × DataW H → Nat
  | (.string bytes, d) => bytes.length + uptoBulk d + 1
  | (_, d) => uptoBulk d + 1
 end
def uptoSmall : (H : Type) → List (DataW H) → Bool := fun _ ds => decide (uptoBulkAll ds ≤ 1048576)
def OpenSpec.upto (s : _root_.Go.ChangeSpec) : _root_.Go.OpenSpec := { _root_.Go.OpenSpec.ofChange s with cond := some uptoSmall }

/-- 'wheelhouselaw22.BlockPlays', WHERE WHAT IT READS IS OF BULK AT MOST 1048576: true; the input reads as it did. -/
def blockPlaysUptoRow : OpenClaim := { program := "ytkkpjbjmhaecjaagreat", sum := "b7e6c122e5e0898dc165b9b8ed4dc4d7cd5efb55f11c1ba5a6c05011c29a6b02", func := "wheelhouse/wheelhouselaw22.BlockPlays", spec := "blockPlays", unfollowed := true, recurses := true, apart := false, narrowed := true }
def BlockPlaysUptoSaid : Prop := blockPlaysUptoRow.holds Tryz.pinned (OpenSpec.upto blockPlaysSpec)

/-- 'wheelhouselaw23.SdoPlays', WHERE WHAT IT READS IS OF BULK AT MOST 1048576: true; the input reads as it did. -/
def sdoPlaysUptoRow : OpenClaim := { program := "ytkkpjbjmhaecjaagreat", sum := "b7e6c122e5e0898dc165b9b8ed4dc4d7cd5efb55f11c1ba5a6c05011c29a6b02", func := "wheelhouse/wheelhouselaw23.SdoPlays", spec := "sdoPlays", unfollowed := true, recurses := true, apart := false, narrowed := true }
def SdoPlaysUptoSaid : Prop := sdoPlaysUptoRow.holds Tryz.pinned (OpenSpec.upto sdoPlaysSpec)

/-- 'wheelhouselaw24.ClientCodes', WHERE WHAT IT READS IS OF BULK AT MOST 1048576: true; the input reads as it did. -/
def clientCodesUptoRow : OpenClaim := { program := "ytkkpjbjmhaecjaagreat", sum := "b7e6c122e5e0898dc165b9b8ed4dc4d7cd5efb55f11c1ba5a6c05011c29a6b02", func := "wheelhouse/wheelhouselaw24.ClientCodes", spec := "clientCodes", unfollowed := true, recurses := true, apart := false, narrowed := true }
def ClientCodesUptoSaid : Prop := clientCodesUptoRow.holds Tryz.pinned (OpenSpec.upto clientCodesSpec)

/-- 'wheelhouselaw24.ClientServed', WHERE WHAT IT READS IS OF BULK AT MOST 1048576: true; the input reads as it did. -/
def clientServedUptoRow : OpenClaim := { program := "ytkkpjbjmhaecjaagreat", sum := "b7e6c122e5e0898dc165b9b8ed4dc4d7cd5efb55f11c1ba5a6c05011c29a6b02", func := "wheelhouse/wheelhouselaw24.ClientServed", spec := "clientServed", unfollowed := true, recurses := true, apart := false, narrowed := true }
def ClientServedUptoSaid : Prop := clientServedUptoRow.holds Tryz.pinned (OpenSpec.upto clientServedSpec)

end Rows
end Go.Proofs.YtkkpjbjmhaecjaaGreat
