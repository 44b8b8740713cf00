/-
  No cell of these rows narrows 'for every input' (looked for: loops, veiled, ifaces, maps, wideKeys, modest, calm, conditions, laid).
  DERIVED. THE GIVEN ROWS OF THIS SEAT. 9 by the template 'for every input the law returns true; each argument reads behind the call as it read before'; 0 by the template 'total and deterministic' (their statements: YtcncbmlacphclaaTotals.lean).
  GIVEN WITH THE SEED: the statements are not yours to turn. If you find one false, say at which input.
  Laid BY PROGRAM, IN A SANDBOX (cutbox-rows.mjs): the forced cells as the released guide's own fill.sh prints them over the translation e4c15ff40ad2d2f5… (all of the seat's roots in one cut). By AI agents, Wed Nov 11 2026. No macro, syntax, notation, axiom, sorry.
-/
import Derived.Test.YtcncbmlacphclaaChecked
import GoSem.Claim
import GoSem.ClaimJoined
import GoSem.ClaimMapViews
import Derived.JoinedTies
import Derived.KernelRfl
namespace Go.Proofs.Ytcncbmlacphclaa
/- THE CELL 'sum', in the pinned program and in every row, IS THE sha256 OF THE DUMP (.gsa) THAT YtcncbmlacphclaaProg.lean LOADS. Nothing in Lean hashes anything: it is a label: what it is worth is what the hold of that sum in a sandbox is worth. -/
noncomputable def Try.pinned : Pinned := { name := "ytcncbmlacphclaa", sum := "e4c15ff40ad2d2f521521a55f73bb0e7ded5ff6fcf6593522ce33c3d233972b0", checked := Try.checked }
namespace Rows
def none {H : Type} : Left H := { results := [], args := [] }

/-- 'wheelhouselaw14.EntryRights': WHATEVER THE INPUT: true; the input reads as it did. -/
def entryRightsSpec : ChangeSpec := { name := "entryRights", fn := fun _ => fun
  | [d1, d2] => { results := [.lit (.bool true)], args := [d1, d2] }
  | _ => none }
def entryRightsRow : OpenClaim := { program := "ytcncbmlacphclaa", sum := "e4c15ff40ad2d2f521521a55f73bb0e7ded5ff6fcf6593522ce33c3d233972b0", func := "wheelhouse/wheelhouselaw14.EntryRights", spec := "entryRights", apart := false }
def EntryRightsSaid : Prop := entryRightsRow.holds Try.pinned (OpenSpec.ofChange entryRightsSpec)

/-- ITS FALSE NEIGHBOUR: 'it returns false'. Refute it at one input. -/
def entryRightsWrong : ChangeSpec := { name := "entryRights", fn := fun _ => fun
  | [d1, d2] => { results := [.lit (.bool false)], args := [d1, d2] }
  | _ => none }
def EntryRightsWrongFalsely : Prop := entryRightsRow.holds Try.pinned (OpenSpec.ofChange entryRightsWrong)

/-- 'wheelhouselaw14.EntryValues': WHATEVER THE INPUT: true; the input reads as it did. -/
def entryValuesSpec : ChangeSpec := { name := "entryValues", fn := fun _ => fun
  | [d1, d2] => { results := [.lit (.bool true)], args := [d1, d2] }
  | _ => none }
def entryValuesRow : OpenClaim := { program := "ytcncbmlacphclaa", sum := "e4c15ff40ad2d2f521521a55f73bb0e7ded5ff6fcf6593522ce33c3d233972b0", func := "wheelhouse/wheelhouselaw14.EntryValues", spec := "entryValues", apart := false }
def EntryValuesSaid : Prop := entryValuesRow.holds Try.pinned (OpenSpec.ofChange entryValuesSpec)

/-- ITS FALSE NEIGHBOUR: 'it returns false'. Refute it at one input. -/
def entryValuesWrong : ChangeSpec := { name := "entryValues", fn := fun _ => fun
  | [d1, d2] => { results := [.lit (.bool false)], args := [d1, d2] }
  | _ => none }
def EntryValuesWrongFalsely : Prop := entryValuesRow.holds Try.pinned (OpenSpec.ofChange entryValuesWrong)

/-- 'wheelhouselaw14.EntryOrder': WHATEVER THE INPUT: true; the input reads as it did. -/
def entryOrderSpec : ChangeSpec := { name := "entryOrder", fn := fun _ => fun
  | [d1, d2] => { results := [.lit (.bool true)], args := [d1, d2] }
  | _ => none }
def entryOrderRow : OpenClaim := { program := "ytcncbmlacphclaa", sum := "e4c15ff40ad2d2f521521a55f73bb0e7ded5ff6fcf6593522ce33c3d233972b0", func := "wheelhouse/wheelhouselaw14.EntryOrder", spec := "entryOrder", apart := false }
def EntryOrderSaid : Prop := entryOrderRow.holds Try.pinned (OpenSpec.ofChange entryOrderSpec)

/-- ITS FALSE NEIGHBOUR: 'it returns false'. Refute it at one input. -/
def entryOrderWrong : ChangeSpec := { name := "entryOrder", fn := fun _ => fun
  | [d1, d2] => { results := [.lit (.bool false)], args := [d1, d2] }
  | _ => none }
def EntryOrderWrongFalsely : Prop := entryOrderRow.holds Try.pinned (OpenSpec.ofChange entryOrderWrong)

/-- 'wheelhouselaw14.EntryRules': WHATEVER THE INPUT: true; the input reads as it did. -/
def entryRulesSpec : ChangeSpec := { name := "entryRules", fn := fun _ => fun
  | [d1, d2] => { results := [.lit (.bool true)], args := [d1, d2] }
  | _ => none }
def entryRulesRow : OpenClaim := { program := "ytcncbmlacphclaa", sum := "e4c15ff40ad2d2f521521a55f73bb0e7ded5ff6fcf6593522ce33c3d233972b0", func := "wheelhouse/wheelhouselaw14.EntryRules", spec := "entryRules", apart := false }
def EntryRulesSaid : Prop := entryRulesRow.holds Try.pinned (OpenSpec.ofChange entryRulesSpec)

/-- ITS FALSE NEIGHBOUR: 'it returns false'. Refute it at one input. -/
def entryRulesWrong : ChangeSpec := { name := "entryRules", fn := fun _ => fun
  | [d1, d2] => { results := [.lit (.bool false)], args := [d1, d2] }
  | _ => none }
def EntryRulesWrongFalsely : Prop := entryRulesRow.holds Try.pinned (OpenSpec.ofChange entryRulesWrong)

/-- 'wheelhouselaw20.SdomsgBuilds': WHATEVER THE INPUT: true; the input reads as it did. -/
def sdomsgBuildsSpec : ChangeSpec := { name := "sdomsgBuilds", fn := fun _ => fun
  | [d1, d2] => { results := [.lit (.bool true)], args := [d1, d2] }
  | _ => none }
def sdomsgBuildsRow : OpenClaim := { program := "ytcncbmlacphclaa", sum := "e4c15ff40ad2d2f521521a55f73bb0e7ded5ff6fcf6593522ce33c3d233972b0", func := "wheelhouse/wheelhouselaw20.SdomsgBuilds", spec := "sdomsgBuilds", unfollowed := true, recurses := true, apart := false }
def SdomsgBuildsSaid : Prop := sdomsgBuildsRow.holds Try.pinned (OpenSpec.ofChange sdomsgBuildsSpec)

/-- ITS FALSE NEIGHBOUR: 'it returns false'. Refute it at one input. -/
def sdomsgBuildsWrong : ChangeSpec := { name := "sdomsgBuilds", fn := fun _ => fun
  | [d1, d2] => { results := [.lit (.bool false)], args := [d1, d2] }
  | _ => none }
def SdomsgBuildsWrongFalsely : Prop := sdomsgBuildsRow.holds Try.pinned (OpenSpec.ofChange sdomsgBuildsWrong)

/-- 'wheelhouselaw20.SdomsgReads': WHATEVER THE INPUT: true; the input reads as it did. -/
def sdomsgReadsSpec : ChangeSpec := { name := "sdomsgReads", fn := fun _ => fun
  | [d] => { results := [.lit (.bool true)], args := [d] }
  | _ => none }
def sdomsgReadsRow : OpenClaim := { program := "ytcncbmlacphclaa", sum := "e4c15ff40ad2d2f521521a55f73bb0e7ded5ff6fcf6593522ce33c3d233972b0", func := "wheelhouse/wheelhouselaw20.SdomsgReads", spec := "sdomsgReads", unfollowed := true, recurses := true, apart := false }
def SdomsgReadsSaid : Prop := sdomsgReadsRow.holds Try.pinned (OpenSpec.ofChange sdomsgReadsSpec)

/-- ITS FALSE NEIGHBOUR: 'it returns false'. Refute it at one input. -/
def sdomsgReadsWrong : ChangeSpec := { name := "sdomsgReads", fn := fun _ => fun
  | [d] => { results := [.lit (.bool false)], args := [d] }
  | _ => none }
def SdomsgReadsWrongFalsely : Prop := sdomsgReadsRow.holds Try.pinned (OpenSpec.ofChange sdomsgReadsWrong)

/-- 'wheelhouselaw20.SdomsgBack': WHATEVER THE INPUT: true; the input reads as it did. -/
def sdomsgBackSpec : ChangeSpec := { name := "sdomsgBack", fn := fun _ => fun
  | [d] => { results := [.lit (.bool true)], args := [d] }
  | _ => none }
def sdomsgBackRow : OpenClaim := { program := "ytcncbmlacphclaa", sum := "e4c15ff40ad2d2f521521a55f73bb0e7ded5ff6fcf6593522ce33c3d233972b0", func := "wheelhouse/wheelhouselaw20.SdomsgBack", spec := "sdomsgBack", unfollowed := true, recurses := true, apart := false }
def SdomsgBackSaid : Prop := sdomsgBackRow.holds Try.pinned (OpenSpec.ofChange sdomsgBackSpec)

/-- ITS FALSE NEIGHBOUR: 'it returns false'. Refute it at one input. -/
def sdomsgBackWrong : ChangeSpec := { name := "sdomsgBack", fn := fun _ => fun
  | [d] => { results := [.lit (.bool false)], args := [d] }
  | _ => none }
def SdomsgBackWrongFalsely : Prop := sdomsgBackRow.holds Try.pinned (OpenSpec.ofChange sdomsgBackWrong)

/-- 'wheelhouselaw20.SdomsgOnly': WHATEVER THE INPUT: true; the input reads as it did. -/
def sdomsgOnlySpec : ChangeSpec := { name := "sdomsgOnly", fn := fun _ => fun
  | [d] => { results := [.lit (.bool true)], args := [d] }
  | _ => none }
def sdomsgOnlyRow : OpenClaim := { program := "ytcncbmlacphclaa", sum := "e4c15ff40ad2d2f521521a55f73bb0e7ded5ff6fcf6593522ce33c3d233972b0", func := "wheelhouse/wheelhouselaw20.SdomsgOnly", spec := "sdomsgOnly", unfollowed := true, recurses := true, apart := false }
def SdomsgOnlySaid : Prop := sdomsgOnlyRow.holds Try.pinned (OpenSpec.ofChange sdomsgOnlySpec)

/-- ITS FALSE NEIGHBOUR: 'it returns false'. Refute it at one input. -/
def sdomsgOnlyWrong : ChangeSpec := { name := "sdomsgOnly", fn := fun _ => fun
  | [d] => { results := [.lit (.bool false)], args := [d] }
  | _ => none }
def SdomsgOnlyWrongFalsely : Prop := sdomsgOnlyRow.holds Try.pinned (OpenSpec.ofChange sdomsgOnlyWrong)

/-- 'wheelhouselaw14.EntryNumbers': WHATEVER THE INPUT: true; the input reads as it did. -/
def entryNumbersSpec : ChangeSpec := { name := "entryNumbers", fn := fun _ => fun
  | [d1, d2, d3] => { results := [.lit (.bool true)], args := [d1, d2, d3] }
  | _ => none }
def entryNumbersRow : OpenClaim := { program := "ytcncbmlacphclaa", sum := "e4c15ff40ad2d2f521521a55f73bb0e7ded5ff6fcf6593522ce33c3d233972b0", func := "wheelhouse/wheelhouselaw14.EntryNumbers", spec := "entryNumbers", apart := false }
def EntryNumbersSaid : Prop := entryNumbersRow.holds Try.pinned (OpenSpec.ofChange entryNumbersSpec)

/-- ITS FALSE NEIGHBOUR: 'it returns false'. Refute it at one input. -/
def entryNumbersWrong : ChangeSpec := { name := "entryNumbers", fn := fun _ => fun
  | [d1, d2, d3] => { results := [.lit (.bool false)], args := [d1, d2, d3] }
  | _ => none }
def EntryNumbersWrongFalsely : Prop := entryNumbersRow.holds Try.pinned (OpenSpec.ofChange entryNumbersWrong)

/- THE SECOND FORM. 'bulk': how many values and letters a reading holds, each counted each time it is reached (what is shared counts as often as it is met; a slice's spare places count too). A statement '..UptoSaid' is the law's where the arguments, and the package variables that the reading takes, are together of bulk at most 1048576: NARROWER than '..Said'. Prove '..Said' where nothing that the law and all that it calls make is longer than what came in: it says more and counts as full. Else prove '..UptoSaid'. A law counts once. -/
mutual
def uptoBulk {H : Type} : DataW H → Nat
  | .lit (.string bytes) => bytes.length + 1
  | .lit _ => 1
  | .nil => 1
  | .ptr d => uptoBulk d + 1
  | .slice elems spare => uptoBulkAll elems + uptoBulkAll spare + 1
  | .agg parts => uptoBulkAll parts + 1
  | .iface _ d => uptoBulk d + 1
  | .map entries => uptoBulkEntries entries + 1
  | .held _ => 1
def uptoBulkAll {H : Type} : List (DataW H) → Nat
  | [] => 0
  | d :: r => uptoBulk d + uptoBulkAll r
def uptoBulkEntries {H : Type} : List (Lit × DataW H) → Nat
  | [] => 0
  | x :: r => uptoBulkEntry x + uptoBulkEntries r
def uptoBulkEntry {H : Type} : Lit × DataW H → Nat
  | (.string bytes, d) => bytes.length + uptoBulk d + 1
  | (_, d) => uptoBulk d + 1
 end
def uptoSmall : (H : Type) → List (DataW H) → Bool := fun _ ds => decide (uptoBulkAll ds ≤ 1048576)
def OpenSpec.upto (s : _root_.Go.ChangeSpec) : _root_.Go.OpenSpec := { _root_.Go.OpenSpec.ofChange s with cond := some uptoSmall }

/-- 'wheelhouselaw14.EntryRights', WHERE WHAT IT READS IS OF BULK AT MOST 1048576: true; the input reads as it did. -/
def entryRightsUptoRow : OpenClaim := { program := "ytcncbmlacphclaa", sum := "e4c15ff40ad2d2f521521a55f73bb0e7ded5ff6fcf6593522ce33c3d233972b0", func := "wheelhouse/wheelhouselaw14.EntryRights", spec := "entryRights", apart := false, narrowed := true }
def EntryRightsUptoSaid : Prop := entryRightsUptoRow.holds Try.pinned (OpenSpec.upto entryRightsSpec)

/-- 'wheelhouselaw14.EntryValues', WHERE WHAT IT READS IS OF BULK AT MOST 1048576: true; the input reads as it did. -/
def entryValuesUptoRow : OpenClaim := { program := "ytcncbmlacphclaa", sum := "e4c15ff40ad2d2f521521a55f73bb0e7ded5ff6fcf6593522ce33c3d233972b0", func := "wheelhouse/wheelhouselaw14.EntryValues", spec := "entryValues", apart := false, narrowed := true }
def EntryValuesUptoSaid : Prop := entryValuesUptoRow.holds Try.pinned (OpenSpec.upto entryValuesSpec)

/-- 'wheelhouselaw14.EntryOrder', WHERE WHAT IT READS IS OF BULK AT MOST 1048576: true; the input reads as it did. -/
def entryOrderUptoRow : OpenClaim := { program := "ytcncbmlacphclaa", sum := "e4c15ff40ad2d2f521521a55f73bb0e7ded5ff6fcf6593522ce33c3d233972b0", func := "wheelhouse/wheelhouselaw14.EntryOrder", spec := "entryOrder", apart := false, narrowed := true }
def EntryOrderUptoSaid : Prop := entryOrderUptoRow.holds Try.pinned (OpenSpec.upto entryOrderSpec)

/-- 'wheelhouselaw14.EntryRules', WHERE WHAT IT READS IS OF BULK AT MOST 1048576: true; the input reads as it did. -/
def entryRulesUptoRow : OpenClaim := { program := "ytcncbmlacphclaa", sum := "e4c15ff40ad2d2f521521a55f73bb0e7ded5ff6fcf6593522ce33c3d233972b0", func := "wheelhouse/wheelhouselaw14.EntryRules", spec := "entryRules", apart := false, narrowed := true }
def EntryRulesUptoSaid : Prop := entryRulesUptoRow.holds Try.pinned (OpenSpec.upto entryRulesSpec)

/-- 'wheelhouselaw20.SdomsgBuilds', WHERE WHAT IT READS IS OF BULK AT MOST 1048576: true; the input reads as it did. -/
def sdomsgBuildsUptoRow : OpenClaim := { program := "ytcncbmlacphclaa", sum := "e4c15ff40ad2d2f521521a55f73bb0e7ded5ff6fcf6593522ce33c3d233972b0", func := "wheelhouse/wheelhouselaw20.SdomsgBuilds", spec := "sdomsgBuilds", unfollowed := true, recurses := true, apart := false, narrowed := true }
def SdomsgBuildsUptoSaid : Prop := sdomsgBuildsUptoRow.holds Try.pinned (OpenSpec.upto sdomsgBuildsSpec)

/-- 'wheelhouselaw20.SdomsgReads', WHERE WHAT IT READS IS OF BULK AT MOST 1048576: true; the input reads as it did. -/
def sdomsgReadsUptoRow : OpenClaim := { program := "ytcncbmlacphclaa", sum := "e4c15ff40ad2d2f521521a55f73bb0e7ded5ff6fcf6593522ce33c3d233972b0", func := "wheelhouse/wheelhouselaw20.SdomsgReads", spec := "sdomsgReads", unfollowed := true, recurses := true, apart := false, narrowed := true }
def SdomsgReadsUptoSaid : Prop := sdomsgReadsUptoRow.holds Try.pinned (OpenSpec.upto sdomsgReadsSpec)

/-- 'wheelhouselaw20.SdomsgBack', WHERE WHAT IT READS IS OF BULK AT MOST 1048576: true; the input reads as it did. -/
def sdomsgBackUptoRow : OpenClaim := { program := "ytcncbmlacphclaa", sum := "e4c15ff40ad2d2f521521a55f73bb0e7ded5ff6fcf6593522ce33c3d233972b0", func := "wheelhouse/wheelhouselaw20.SdomsgBack", spec := "sdomsgBack", unfollowed := true, recurses := true, apart := false, narrowed := true }
def SdomsgBackUptoSaid : Prop := sdomsgBackUptoRow.holds Try.pinned (OpenSpec.upto sdomsgBackSpec)

/-- 'wheelhouselaw20.SdomsgOnly', WHERE WHAT IT READS IS OF BULK AT MOST 1048576: true; the input reads as it did. -/
def sdomsgOnlyUptoRow : OpenClaim := { program := "ytcncbmlacphclaa", sum := "e4c15ff40ad2d2f521521a55f73bb0e7ded5ff6fcf6593522ce33c3d233972b0", func := "wheelhouse/wheelhouselaw20.SdomsgOnly", spec := "sdomsgOnly", unfollowed := true, recurses := true, apart := false, narrowed := true }
def SdomsgOnlyUptoSaid : Prop := sdomsgOnlyUptoRow.holds Try.pinned (OpenSpec.upto sdomsgOnlySpec)

/-- 'wheelhouselaw14.EntryNumbers', WHERE WHAT IT READS IS OF BULK AT MOST 1048576: true; the input reads as it did. -/
def entryNumbersUptoRow : OpenClaim := { program := "ytcncbmlacphclaa", sum := "e4c15ff40ad2d2f521521a55f73bb0e7ded5ff6fcf6593522ce33c3d233972b0", func := "wheelhouse/wheelhouselaw14.EntryNumbers", spec := "entryNumbers", apart := false, narrowed := true }
def EntryNumbersUptoSaid : Prop := entryNumbersUptoRow.holds Try.pinned (OpenSpec.upto entryNumbersSpec)

end Rows
end Go.Proofs.Ytcncbmlacphclaa
