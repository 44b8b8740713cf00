/-
  No cell of these rows narrows 'for every input' (looked for: loops, veiled, ifaces, maps, wideKeys, modest, calm, conditions, laid).
  DERIVED. THE GIVEN ROWS OF THIS SEAT. 6 by the template 'for every input the law returns true; each argument reads behind the call as it read before'; 0 by the template 'total and deterministic' (their statements: YtimdmhhgomfijaaTotals.lean).
  GIVEN WITH THE SEED: the statements are not yours to turn. If you find one false, say at which input.
  Laid BY PROGRAM, IN A SANDBOX (cutbox-rows.mjs): the forced cells as the released guide's own fill.sh prints them over the translation ad6153eac82b0269… (all of the seat's roots in one cut). By AI agents, Wed Nov 11 2026. No macro, syntax, notation, axiom, sorry.
-/
import Derived.Test.YtimdmhhgomfijaaChecked
import GoSem.Claim
import GoSem.ClaimJoined
import GoSem.ClaimMapViews
import Derived.JoinedTies
import Derived.KernelRfl
namespace Go.Proofs.Ytimdmhhgomfijaa
/- THE CELL 'sum', in the pinned program and in every row, IS THE sha256 OF THE DUMP (.gsa) THAT YtimdmhhgomfijaaProg.lean LOADS. Nothing in Lean hashes anything: it is a label: what it is worth is what the hold of that sum in a sandbox is worth. -/
noncomputable def Try.pinned : Pinned := { name := "ytimdmhhgomfijaa", sum := "ad6153eac82b026952592678c3a7f4ca64a6d0cb9421d8716ae820501990351f", checked := Try.checked }
namespace Rows
def none {H : Type} : Left H := { results := [], args := [] }

/-- 'wheelhouselaw21.SegDown': WHATEVER THE INPUT: true; the input reads as it did. -/
def segDownSpec : ChangeSpec := { name := "segDown", fn := fun _ => fun
  | [d] => { results := [.lit (.bool true)], args := [d] }
  | _ => none }
def segDownRow : OpenClaim := { program := "ytimdmhhgomfijaa", sum := "ad6153eac82b026952592678c3a7f4ca64a6d0cb9421d8716ae820501990351f", func := "wheelhouse/wheelhouselaw21.SegDown", spec := "segDown", unfollowed := true, recurses := true, apart := false }
def SegDownSaid : Prop := segDownRow.holds Try.pinned (OpenSpec.ofChange segDownSpec)

/-- ITS FALSE NEIGHBOUR: 'it returns false'. Refute it at one input. -/
def segDownWrong : ChangeSpec := { name := "segDown", fn := fun _ => fun
  | [d] => { results := [.lit (.bool false)], args := [d] }
  | _ => none }
def SegDownWrongFalsely : Prop := segDownRow.holds Try.pinned (OpenSpec.ofChange segDownWrong)

/-- 'wheelhouselaw21.SegUp': WHATEVER THE INPUT: true; the input reads as it did. -/
def segUpSpec : ChangeSpec := { name := "segUp", fn := fun _ => fun
  | [d] => { results := [.lit (.bool true)], args := [d] }
  | _ => none }
def segUpRow : OpenClaim := { program := "ytimdmhhgomfijaa", sum := "ad6153eac82b026952592678c3a7f4ca64a6d0cb9421d8716ae820501990351f", func := "wheelhouse/wheelhouselaw21.SegUp", spec := "segUp", unfollowed := true, recurses := true, apart := false }
def SegUpSaid : Prop := segUpRow.holds Try.pinned (OpenSpec.ofChange segUpSpec)

/-- ITS FALSE NEIGHBOUR: 'it returns false'. Refute it at one input. -/
def segUpWrong : ChangeSpec := { name := "segUp", fn := fun _ => fun
  | [d] => { results := [.lit (.bool false)], args := [d] }
  | _ => none }
def SegUpWrongFalsely : Prop := segUpRow.holds Try.pinned (OpenSpec.ofChange segUpWrong)

/-- 'wheelhouselaw21.SegNil': WHATEVER THE INPUT: true; the input reads as it did. -/
def segNilSpec : ChangeSpec := { name := "segNil", fn := fun _ => fun
  | [d1, d2] => { results := [.lit (.bool true)], args := [d1, d2] }
  | _ => none }
def segNilRow : OpenClaim := { program := "ytimdmhhgomfijaa", sum := "ad6153eac82b026952592678c3a7f4ca64a6d0cb9421d8716ae820501990351f", func := "wheelhouse/wheelhouselaw21.SegNil", spec := "segNil", unfollowed := true, recurses := true, apart := false }
def SegNilSaid : Prop := segNilRow.holds Try.pinned (OpenSpec.ofChange segNilSpec)

/-- ITS FALSE NEIGHBOUR: 'it returns false'. Refute it at one input. -/
def segNilWrong : ChangeSpec := { name := "segNil", fn := fun _ => fun
  | [d1, d2] => { results := [.lit (.bool false)], args := [d1, d2] }
  | _ => none }
def SegNilWrongFalsely : Prop := segNilRow.holds Try.pinned (OpenSpec.ofChange segNilWrong)

/-- 'wheelhouselaw22.BlockDown': WHATEVER THE INPUT: true; the input reads as it did. -/
def blockDownSpec : ChangeSpec := { name := "blockDown", fn := fun _ => fun
  | [d] => { results := [.lit (.bool true)], args := [d] }
  | _ => none }
def blockDownRow : OpenClaim := { program := "ytimdmhhgomfijaa", sum := "ad6153eac82b026952592678c3a7f4ca64a6d0cb9421d8716ae820501990351f", func := "wheelhouse/wheelhouselaw22.BlockDown", spec := "blockDown", unfollowed := true, recurses := true, apart := false }
def BlockDownSaid : Prop := blockDownRow.holds Try.pinned (OpenSpec.ofChange blockDownSpec)

/-- ITS FALSE NEIGHBOUR: 'it returns false'. Refute it at one input. -/
def blockDownWrong : ChangeSpec := { name := "blockDown", fn := fun _ => fun
  | [d] => { results := [.lit (.bool false)], args := [d] }
  | _ => none }
def BlockDownWrongFalsely : Prop := blockDownRow.holds Try.pinned (OpenSpec.ofChange blockDownWrong)

/-- 'wheelhouselaw22.BlockUp': WHATEVER THE INPUT: true; the input reads as it did. -/
def blockUpSpec : ChangeSpec := { name := "blockUp", fn := fun _ => fun
  | [d] => { results := [.lit (.bool true)], args := [d] }
  | _ => none }
def blockUpRow : OpenClaim := { program := "ytimdmhhgomfijaa", sum := "ad6153eac82b026952592678c3a7f4ca64a6d0cb9421d8716ae820501990351f", func := "wheelhouse/wheelhouselaw22.BlockUp", spec := "blockUp", unfollowed := true, recurses := true, apart := false }
def BlockUpSaid : Prop := blockUpRow.holds Try.pinned (OpenSpec.ofChange blockUpSpec)

/-- ITS FALSE NEIGHBOUR: 'it returns false'. Refute it at one input. -/
def blockUpWrong : ChangeSpec := { name := "blockUp", fn := fun _ => fun
  | [d] => { results := [.lit (.bool false)], args := [d] }
  | _ => none }
def BlockUpWrongFalsely : Prop := blockUpRow.holds Try.pinned (OpenSpec.ofChange blockUpWrong)

/-- 'wheelhouselaw22.BlockNil': WHATEVER THE INPUT: true; the input reads as it did. -/
def blockNilSpec : ChangeSpec := { name := "blockNil", fn := fun _ => fun
  | [d1, d2] => { results := [.lit (.bool true)], args := [d1, d2] }
  | _ => none }
def blockNilRow : OpenClaim := { program := "ytimdmhhgomfijaa", sum := "ad6153eac82b026952592678c3a7f4ca64a6d0cb9421d8716ae820501990351f", func := "wheelhouse/wheelhouselaw22.BlockNil", spec := "blockNil", unfollowed := true, recurses := true, apart := false }
def BlockNilSaid : Prop := blockNilRow.holds Try.pinned (OpenSpec.ofChange blockNilSpec)

/-- ITS FALSE NEIGHBOUR: 'it returns false'. Refute it at one input. -/
def blockNilWrong : ChangeSpec := { name := "blockNil", fn := fun _ => fun
  | [d1, d2] => { results := [.lit (.bool false)], args := [d1, d2] }
  | _ => none }
def BlockNilWrongFalsely : Prop := blockNilRow.holds Try.pinned (OpenSpec.ofChange blockNilWrong)

/- THE SECOND FORM. 'bulk': how many values and letters a reading holds, each counted each time it is reached (what is shared counts as often as it is met; a slice's spare places count too). A statement '..UptoSaid' is the law's where the arguments, and the package variables that the reading takes, are together of bulk at most 1048576: NARROWER than '..Said'. Prove '..Said' where nothing that the law and all that it calls make is longer than what came in: it says more and counts as full. Else prove '..UptoSaid'. A law counts once. -/
mutual
def uptoBulk {H : Type} : DataW H → Nat
  | .lit (.string bytes) => bytes.length + 1
  | .lit _ => 1
  | .nil => 1
  | .ptr d => uptoBulk d + 1
  | .slice elems spare => uptoBulkAll elems + uptoBulkAll spare + 1
  | .agg parts => uptoBulkAll parts + 1
  | .iface _ d => uptoBulk d + 1
  | .map entries => uptoBulkEntries entries + 1
  | .held _ => 1
def uptoBulkAll {H : Type} : List (DataW H) → Nat
  | [] => 0
  | d :: r => uptoBulk d + uptoBulkAll r
def uptoBulkEntries {H : Type} : List (Lit × DataW H) → Nat
  | [] => 0
  | x :: r => uptoBulkEntry x + uptoBulkEntries r
def uptoBulkEntry {H : Type} : Lit × DataW H → Nat
  | (.string bytes, d) => bytes.length + uptoBulk d + 1
  | (_, d) => uptoBulk d + 1
 end
def uptoSmall : (H : Type) → List (DataW H) → Bool := fun _ ds => decide (uptoBulkAll ds ≤ 1048576)
def OpenSpec.upto (s : _root_.Go.ChangeSpec) : _root_.Go.OpenSpec := { _root_.Go.OpenSpec.ofChange s with cond := some uptoSmall }

/-- 'wheelhouselaw21.SegDown', WHERE WHAT IT READS IS OF BULK AT MOST 1048576: true; the input reads as it did. -/
def segDownUptoRow : OpenClaim := { program := "ytimdmhhgomfijaa", sum := "ad6153eac82b026952592678c3a7f4ca64a6d0cb9421d8716ae820501990351f", func := "wheelhouse/wheelhouselaw21.SegDown", spec := "segDown", unfollowed := true, recurses := true, apart := false, narrowed := true }
def SegDownUptoSaid : Prop := segDownUptoRow.holds Try.pinned (OpenSpec.upto segDownSpec)

/-- 'wheelhouselaw21.SegUp', WHERE WHAT IT READS IS OF BULK AT MOST 1048576: true; the input reads as it did. -/
def segUpUptoRow : OpenClaim := { program := "ytimdmhhgomfijaa", sum := "ad6153eac82b026952592678c3a7f4ca64a6d0cb9421d8716ae820501990351f", func := "wheelhouse/wheelhouselaw21.SegUp", spec := "segUp", unfollowed := true, recurses := true, apart := false, narrowed := true }
def SegUpUptoSaid : Prop := segUpUptoRow.holds Try.pinned (OpenSpec.upto segUpSpec)

/-- 'wheelhouselaw21.SegNil', WHERE WHAT IT READS IS OF BULK AT MOST 1048576: true; the input reads as it did. -/
def segNilUptoRow : OpenClaim := { program := "ytimdmhhgomfijaa", sum := "ad6153eac82b026952592678c3a7f4ca64a6d0cb9421d8716ae820501990351f", func := "wheelhouse/wheelhouselaw21.SegNil", spec := "segNil", unfollowed := true, recurses := true, apart := false, narrowed := true }
def SegNilUptoSaid : Prop := segNilUptoRow.holds Try.pinned (OpenSpec.upto segNilSpec)

/-- 'wheelhouselaw22.BlockDown', WHERE WHAT IT READS IS OF BULK AT MOST 1048576: true; the input reads as it did. -/
def blockDownUptoRow : OpenClaim := { program := "ytimdmhhgomfijaa", sum := "ad6153eac82b026952592678c3a7f4ca64a6d0cb9421d8716ae820501990351f", func := "wheelhouse/wheelhouselaw22.BlockDown", spec := "blockDown", unfollowed := true, recurses := true, apart := false, narrowed := true }
def BlockDownUptoSaid : Prop := blockDownUptoRow.holds Try.pinned (OpenSpec.upto blockDownSpec)

/-- 'wheelhouselaw22.BlockUp', WHERE WHAT IT READS IS OF BULK AT MOST 1048576: true; the input reads as it did. -/
def blockUpUptoRow : OpenClaim := { program := "ytimdmhhgomfijaa", sum := "ad6153eac82b026952592678c3a7f4ca64a6d0cb9421d8716ae820501990351f", func := "wheelhouse/wheelhouselaw22.BlockUp", spec := "blockUp", unfollowed := true, recurses := true, apart := false, narrowed := true }
def BlockUpUptoSaid : Prop := blockUpUptoRow.holds Try.pinned (OpenSpec.upto blockUpSpec)

/-- 'wheelhouselaw22.BlockNil', WHERE WHAT IT READS IS OF BULK AT MOST 1048576: true; the input reads as it did. -/
def blockNilUptoRow : OpenClaim := { program := "ytimdmhhgomfijaa", sum := "ad6153eac82b026952592678c3a7f4ca64a6d0cb9421d8716ae820501990351f", func := "wheelhouse/wheelhouselaw22.BlockNil", spec := "blockNil", unfollowed := true, recurses := true, apart := false, narrowed := true }
def BlockNilUptoSaid : Prop := blockNilUptoRow.holds Try.pinned (OpenSpec.upto blockNilSpec)

end Rows
end Go.Proofs.Ytimdmhhgomfijaa
