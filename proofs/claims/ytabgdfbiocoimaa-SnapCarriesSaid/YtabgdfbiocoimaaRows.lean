/-
  No cell of these rows narrows 'for every input' (looked for: loops, veiled, ifaces, maps, wideKeys, modest, calm, conditions, laid).
  DERIVED. THE GIVEN ROWS OF THIS SEAT. 9 by the template 'for every input the law returns true; each argument reads behind the call as it read before'; 0 by the template 'total and deterministic' (their statements: YtabgdfbiocoimaaTotals.lean).
  GIVEN WITH THE SEED: the statements are not yours to turn. If you find one false, say at which input.
  Laid BY PROGRAM, IN A SANDBOX (cutbox-rows.mjs): the forced cells as the released guide's own fill.sh prints them over the translation 49ea7372ee59e745… (all of the seat's roots in one cut). By AI agents, Wed Nov 11 2026. No macro, syntax, notation, axiom, sorry.
-/
import Derived.Test.YtabgdfbiocoimaaChecked
import GoSem.Claim
import GoSem.ClaimJoined
import GoSem.ClaimMapViews
import Derived.JoinedTies
import Derived.KernelRfl
namespace Go.Proofs.Ytabgdfbiocoimaa
/- THE CELL 'sum', in the pinned program and in every row, IS THE sha256 OF THE DUMP (.gsa) THAT YtabgdfbiocoimaaProg.lean LOADS. Nothing in Lean hashes anything: it is a label: what it is worth is what the hold of that sum in a sandbox is worth. -/
noncomputable def Try.pinned : Pinned := { name := "ytabgdfbiocoimaa", sum := "49ea7372ee59e745ba1902660c8f773fdb89e6caf45cb38f861f07a1eaed9aa2", checked := Try.checked }
namespace Rows
def none {H : Type} : Left H := { results := [], args := [] }

/-- 'wheelhouselaw15.DictSets': WHATEVER THE INPUT: true; the input reads as it did. -/
def dictSetsSpec : ChangeSpec := { name := "dictSets", fn := fun _ => fun
  | [d1, d2] => { results := [.lit (.bool true)], args := [d1, d2] }
  | _ => none }
def dictSetsRow : OpenClaim := { program := "ytabgdfbiocoimaa", sum := "49ea7372ee59e745ba1902660c8f773fdb89e6caf45cb38f861f07a1eaed9aa2", func := "wheelhouse/wheelhouselaw15.DictSets", spec := "dictSets", unfollowed := true, recurses := true, apart := false }
def DictSetsSaid : Prop := dictSetsRow.holds Try.pinned (OpenSpec.ofChange dictSetsSpec)

/-- ITS FALSE NEIGHBOUR: 'it returns false'. Refute it at one input. -/
def dictSetsWrong : ChangeSpec := { name := "dictSets", fn := fun _ => fun
  | [d1, d2] => { results := [.lit (.bool false)], args := [d1, d2] }
  | _ => none }
def DictSetsWrongFalsely : Prop := dictSetsRow.holds Try.pinned (OpenSpec.ofChange dictSetsWrong)

/-- 'wheelhouselaw15.DictEntries': WHATEVER THE INPUT: true; the input reads as it did. -/
def dictEntriesSpec : ChangeSpec := { name := "dictEntries", fn := fun _ => fun
  | [d1, d2] => { results := [.lit (.bool true)], args := [d1, d2] }
  | _ => none }
def dictEntriesRow : OpenClaim := { program := "ytabgdfbiocoimaa", sum := "49ea7372ee59e745ba1902660c8f773fdb89e6caf45cb38f861f07a1eaed9aa2", func := "wheelhouse/wheelhouselaw15.DictEntries", spec := "dictEntries", unfollowed := true, recurses := true, apart := false }
def DictEntriesSaid : Prop := dictEntriesRow.holds Try.pinned (OpenSpec.ofChange dictEntriesSpec)

/-- ITS FALSE NEIGHBOUR: 'it returns false'. Refute it at one input. -/
def dictEntriesWrong : ChangeSpec := { name := "dictEntries", fn := fun _ => fun
  | [d1, d2] => { results := [.lit (.bool false)], args := [d1, d2] }
  | _ => none }
def DictEntriesWrongFalsely : Prop := dictEntriesRow.holds Try.pinned (OpenSpec.ofChange dictEntriesWrong)

/-- 'wheelhouselaw15.DictValues': WHATEVER THE INPUT: true; the input reads as it did. -/
def dictValuesSpec : ChangeSpec := { name := "dictValues", fn := fun _ => fun
  | [d1, d2] => { results := [.lit (.bool true)], args := [d1, d2] }
  | _ => none }
def dictValuesRow : OpenClaim := { program := "ytabgdfbiocoimaa", sum := "49ea7372ee59e745ba1902660c8f773fdb89e6caf45cb38f861f07a1eaed9aa2", func := "wheelhouse/wheelhouselaw15.DictValues", spec := "dictValues", unfollowed := true, recurses := true, apart := false }
def DictValuesSaid : Prop := dictValuesRow.holds Try.pinned (OpenSpec.ofChange dictValuesSpec)

/-- ITS FALSE NEIGHBOUR: 'it returns false'. Refute it at one input. -/
def dictValuesWrong : ChangeSpec := { name := "dictValues", fn := fun _ => fun
  | [d1, d2] => { results := [.lit (.bool false)], args := [d1, d2] }
  | _ => none }
def DictValuesWrongFalsely : Prop := dictValuesRow.holds Try.pinned (OpenSpec.ofChange dictValuesWrong)

/-- 'wheelhouselaw15.DictPlays': WHATEVER THE INPUT: true; the input reads as it did. -/
def dictPlaysSpec : ChangeSpec := { name := "dictPlays", fn := fun _ => fun
  | [d1, d2] => { results := [.lit (.bool true)], args := [d1, d2] }
  | _ => none }
def dictPlaysRow : OpenClaim := { program := "ytabgdfbiocoimaa", sum := "49ea7372ee59e745ba1902660c8f773fdb89e6caf45cb38f861f07a1eaed9aa2", func := "wheelhouse/wheelhouselaw15.DictPlays", spec := "dictPlays", unfollowed := true, recurses := true, apart := false }
def DictPlaysSaid : Prop := dictPlaysRow.holds Try.pinned (OpenSpec.ofChange dictPlaysSpec)

/-- ITS FALSE NEIGHBOUR: 'it returns false'. Refute it at one input. -/
def dictPlaysWrong : ChangeSpec := { name := "dictPlays", fn := fun _ => fun
  | [d1, d2] => { results := [.lit (.bool false)], args := [d1, d2] }
  | _ => none }
def DictPlaysWrongFalsely : Prop := dictPlaysRow.holds Try.pinned (OpenSpec.ofChange dictPlaysWrong)

/-- 'wheelhouselaw15.DictNil': WHATEVER THE INPUT: true; the input reads as it did. -/
def dictNilSpec : ChangeSpec := { name := "dictNil", fn := fun _ => fun
  | [d1, d2, d3] => { results := [.lit (.bool true)], args := [d1, d2, d3] }
  | _ => none }
def dictNilRow : OpenClaim := { program := "ytabgdfbiocoimaa", sum := "49ea7372ee59e745ba1902660c8f773fdb89e6caf45cb38f861f07a1eaed9aa2", func := "wheelhouse/wheelhouselaw15.DictNil", spec := "dictNil", unfollowed := true, recurses := true, apart := false }
def DictNilSaid : Prop := dictNilRow.holds Try.pinned (OpenSpec.ofChange dictNilSpec)

/-- ITS FALSE NEIGHBOUR: 'it returns false'. Refute it at one input. -/
def dictNilWrong : ChangeSpec := { name := "dictNil", fn := fun _ => fun
  | [d1, d2, d3] => { results := [.lit (.bool false)], args := [d1, d2, d3] }
  | _ => none }
def DictNilWrongFalsely : Prop := dictNilRow.holds Try.pinned (OpenSpec.ofChange dictNilWrong)

/-- 'wheelhouselaw18.SnapGroups': WHATEVER THE INPUT: true; the input reads as it did. -/
def snapGroupsSpec : ChangeSpec := { name := "snapGroups", fn := fun _ => fun
  | [d] => { results := [.lit (.bool true)], args := [d] }
  | _ => none }
def snapGroupsRow : OpenClaim := { program := "ytabgdfbiocoimaa", sum := "49ea7372ee59e745ba1902660c8f773fdb89e6caf45cb38f861f07a1eaed9aa2", func := "wheelhouse/wheelhouselaw18.SnapGroups", spec := "snapGroups", unfollowed := true, recurses := true, apart := false }
def SnapGroupsSaid : Prop := snapGroupsRow.holds Try.pinned (OpenSpec.ofChange snapGroupsSpec)

/-- ITS FALSE NEIGHBOUR: 'it returns false'. Refute it at one input. -/
def snapGroupsWrong : ChangeSpec := { name := "snapGroups", fn := fun _ => fun
  | [d] => { results := [.lit (.bool false)], args := [d] }
  | _ => none }
def SnapGroupsWrongFalsely : Prop := snapGroupsRow.holds Try.pinned (OpenSpec.ofChange snapGroupsWrong)

/-- 'wheelhouselaw18.SnapApplies': WHATEVER THE INPUT: true; the input reads as it did. -/
def snapAppliesSpec : ChangeSpec := { name := "snapApplies", fn := fun _ => fun
  | [d1, d2] => { results := [.lit (.bool true)], args := [d1, d2] }
  | _ => none }
def snapAppliesRow : OpenClaim := { program := "ytabgdfbiocoimaa", sum := "49ea7372ee59e745ba1902660c8f773fdb89e6caf45cb38f861f07a1eaed9aa2", func := "wheelhouse/wheelhouselaw18.SnapApplies", spec := "snapApplies", unfollowed := true, recurses := true, apart := false }
def SnapAppliesSaid : Prop := snapAppliesRow.holds Try.pinned (OpenSpec.ofChange snapAppliesSpec)

/-- ITS FALSE NEIGHBOUR: 'it returns false'. Refute it at one input. -/
def snapAppliesWrong : ChangeSpec := { name := "snapApplies", fn := fun _ => fun
  | [d1, d2] => { results := [.lit (.bool false)], args := [d1, d2] }
  | _ => none }
def SnapAppliesWrongFalsely : Prop := snapAppliesRow.holds Try.pinned (OpenSpec.ofChange snapAppliesWrong)

/-- 'wheelhouselaw18.SnapLists': WHATEVER THE INPUT: true; the input reads as it did. -/
def snapListsSpec : ChangeSpec := { name := "snapLists", fn := fun _ => fun
  | [d1, d2, d3] => { results := [.lit (.bool true)], args := [d1, d2, d3] }
  | _ => none }
def snapListsRow : OpenClaim := { program := "ytabgdfbiocoimaa", sum := "49ea7372ee59e745ba1902660c8f773fdb89e6caf45cb38f861f07a1eaed9aa2", func := "wheelhouse/wheelhouselaw18.SnapLists", spec := "snapLists", unfollowed := true, recurses := true, apart := false }
def SnapListsSaid : Prop := snapListsRow.holds Try.pinned (OpenSpec.ofChange snapListsSpec)

/-- ITS FALSE NEIGHBOUR: 'it returns false'. Refute it at one input. -/
def snapListsWrong : ChangeSpec := { name := "snapLists", fn := fun _ => fun
  | [d1, d2, d3] => { results := [.lit (.bool false)], args := [d1, d2, d3] }
  | _ => none }
def SnapListsWrongFalsely : Prop := snapListsRow.holds Try.pinned (OpenSpec.ofChange snapListsWrong)

/-- 'wheelhouselaw18.SnapCarries': WHATEVER THE INPUT: true; the input reads as it did. -/
def snapCarriesSpec : ChangeSpec := { name := "snapCarries", fn := fun _ => fun
  | [d1, d2] => { results := [.lit (.bool true)], args := [d1, d2] }
  | _ => none }
def snapCarriesRow : OpenClaim := { program := "ytabgdfbiocoimaa", sum := "49ea7372ee59e745ba1902660c8f773fdb89e6caf45cb38f861f07a1eaed9aa2", func := "wheelhouse/wheelhouselaw18.SnapCarries", spec := "snapCarries", unfollowed := true, recurses := true, apart := false }
def SnapCarriesSaid : Prop := snapCarriesRow.holds Try.pinned (OpenSpec.ofChange snapCarriesSpec)

/-- ITS FALSE NEIGHBOUR: 'it returns false'. Refute it at one input. -/
def snapCarriesWrong : ChangeSpec := { name := "snapCarries", fn := fun _ => fun
  | [d1, d2] => { results := [.lit (.bool false)], args := [d1, d2] }
  | _ => none }
def SnapCarriesWrongFalsely : Prop := snapCarriesRow.holds Try.pinned (OpenSpec.ofChange snapCarriesWrong)

/- THE SECOND FORM. 'bulk': how many values and letters a reading holds, each counted each time it is reached (what is shared counts as often as it is met; a slice's spare places count too). A statement '..UptoSaid' is the law's where the arguments, and the package variables that the reading takes, are together of bulk at most 1048576: NARROWER than '..Said'. Prove '..Said' where nothing that the law and all that it calls make is longer than what came in: it says more and counts as full. Else prove '..UptoSaid'. A law counts once. -/
mutual
def uptoBulk {H : Type} : DataW H → Nat
  | .lit (.string bytes) => bytes.length + 1
  | .lit _ => 1
  | .nil => 1
  | .ptr d => uptoBulk d + 1
  | .slice elems spare => uptoBulkAll elems + uptoBulkAll spare + 1
  | .agg parts => uptoBulkAll parts + 1
  | .iface _ d => uptoBulk d + 1
  | .map entries => uptoBulkEntries entries + 1
  | .held _ => 1
def uptoBulkAll {H : Type} : List (DataW H) → Nat
  | [] => 0
  | d :: r => uptoBulk d + uptoBulkAll r
def uptoBulkEntries {H : Type} : List (Lit × DataW H) → Nat
  | [] => 0
  | x :: r => uptoBulkEntry x + uptoBulkEntries r
def uptoBulkEntry {H : Type} : Lit × DataW H → Nat
  | (.string bytes, d) => bytes.length + uptoBulk d + 1
  | (_, d) => uptoBulk d + 1
 end
def uptoSmall : (H : Type) → List (DataW H) → Bool := fun _ ds => decide (uptoBulkAll ds ≤ 1048576)
def OpenSpec.upto (s : _root_.Go.ChangeSpec) : _root_.Go.OpenSpec := { _root_.Go.OpenSpec.ofChange s with cond := some uptoSmall }

/-- 'wheelhouselaw15.DictSets', WHERE WHAT IT READS IS OF BULK AT MOST 1048576: true; the input reads as it did. -/
def dictSetsUptoRow : OpenClaim := { program := "ytabgdfbiocoimaa", sum := "49ea7372ee59e745ba1902660c8f773fdb89e6caf45cb38f861f07a1eaed9aa2", func := "wheelhouse/wheelhouselaw15.DictSets", spec := "dictSets", unfollowed := true, recurses := true, apart := false, narrowed := true }
def DictSetsUptoSaid : Prop := dictSetsUptoRow.holds Try.pinned (OpenSpec.upto dictSetsSpec)

/-- 'wheelhouselaw15.DictEntries', WHERE WHAT IT READS IS OF BULK AT MOST 1048576: true; the input reads as it did. -/
def dictEntriesUptoRow : OpenClaim := { program := "ytabgdfbiocoimaa", sum := "49ea7372ee59e745ba1902660c8f773fdb89e6caf45cb38f861f07a1eaed9aa2", func := "wheelhouse/wheelhouselaw15.DictEntries", spec := "dictEntries", unfollowed := true, recurses := true, apart := false, narrowed := true }
def DictEntriesUptoSaid : Prop := dictEntriesUptoRow.holds Try.pinned (OpenSpec.upto dictEntriesSpec)

/-- 'wheelhouselaw15.DictValues', WHERE WHAT IT READS IS OF BULK AT MOST 1048576: true; the input reads as it did. -/
def dictValuesUptoRow : OpenClaim := { program := "ytabgdfbiocoimaa", sum := "49ea7372ee59e745ba1902660c8f773fdb89e6caf45cb38f861f07a1eaed9aa2", func := "wheelhouse/wheelhouselaw15.DictValues", spec := "dictValues", unfollowed := true, recurses := true, apart := false, narrowed := true }
def DictValuesUptoSaid : Prop := dictValuesUptoRow.holds Try.pinned (OpenSpec.upto dictValuesSpec)

/-- 'wheelhouselaw15.DictPlays', WHERE WHAT IT READS IS OF BULK AT MOST 1048576: true; the input reads as it did. -/
def dictPlaysUptoRow : OpenClaim := { program := "ytabgdfbiocoimaa", sum := "49ea7372ee59e745ba1902660c8f773fdb89e6caf45cb38f861f07a1eaed9aa2", func := "wheelhouse/wheelhouselaw15.DictPlays", spec := "dictPlays", unfollowed := true, recurses := true, apart := false, narrowed := true }
def DictPlaysUptoSaid : Prop := dictPlaysUptoRow.holds Try.pinned (OpenSpec.upto dictPlaysSpec)

/-- 'wheelhouselaw15.DictNil', WHERE WHAT IT READS IS OF BULK AT MOST 1048576: true; the input reads as it did. -/
def dictNilUptoRow : OpenClaim := { program := "ytabgdfbiocoimaa", sum := "49ea7372ee59e745ba1902660c8f773fdb89e6caf45cb38f861f07a1eaed9aa2", func := "wheelhouse/wheelhouselaw15.DictNil", spec := "dictNil", unfollowed := true, recurses := true, apart := false, narrowed := true }
def DictNilUptoSaid : Prop := dictNilUptoRow.holds Try.pinned (OpenSpec.upto dictNilSpec)

/-- 'wheelhouselaw18.SnapGroups', WHERE WHAT IT READS IS OF BULK AT MOST 1048576: true; the input reads as it did. -/
def snapGroupsUptoRow : OpenClaim := { program := "ytabgdfbiocoimaa", sum := "49ea7372ee59e745ba1902660c8f773fdb89e6caf45cb38f861f07a1eaed9aa2", func := "wheelhouse/wheelhouselaw18.SnapGroups", spec := "snapGroups", unfollowed := true, recurses := true, apart := false, narrowed := true }
def SnapGroupsUptoSaid : Prop := snapGroupsUptoRow.holds Try.pinned (OpenSpec.upto snapGroupsSpec)

/-- 'wheelhouselaw18.SnapApplies', WHERE WHAT IT READS IS OF BULK AT MOST 1048576: true; the input reads as it did. -/
def snapAppliesUptoRow : OpenClaim := { program := "ytabgdfbiocoimaa", sum := "49ea7372ee59e745ba1902660c8f773fdb89e6caf45cb38f861f07a1eaed9aa2", func := "wheelhouse/wheelhouselaw18.SnapApplies", spec := "snapApplies", unfollowed := true, recurses := true, apart := false, narrowed := true }
def SnapAppliesUptoSaid : Prop := snapAppliesUptoRow.holds Try.pinned (OpenSpec.upto snapAppliesSpec)

/-- 'wheelhouselaw18.SnapLists', WHERE WHAT IT READS IS OF BULK AT MOST 1048576: true; the input reads as it did. -/
def snapListsUptoRow : OpenClaim := { program := "ytabgdfbiocoimaa", sum := "49ea7372ee59e745ba1902660c8f773fdb89e6caf45cb38f861f07a1eaed9aa2", func := "wheelhouse/wheelhouselaw18.SnapLists", spec := "snapLists", unfollowed := true, recurses := true, apart := false, narrowed := true }
def SnapListsUptoSaid : Prop := snapListsUptoRow.holds Try.pinned (OpenSpec.upto snapListsSpec)

/-- 'wheelhouselaw18.SnapCarries', WHERE WHAT IT READS IS OF BULK AT MOST 1048576: true; the input reads as it did. -/
def snapCarriesUptoRow : OpenClaim := { program := "ytabgdfbiocoimaa", sum := "49ea7372ee59e745ba1902660c8f773fdb89e6caf45cb38f861f07a1eaed9aa2", func := "wheelhouse/wheelhouselaw18.SnapCarries", spec := "snapCarries", unfollowed := true, recurses := true, apart := false, narrowed := true }
def SnapCarriesUptoSaid : Prop := snapCarriesUptoRow.holds Try.pinned (OpenSpec.upto snapCarriesSpec)

end Rows
end Go.Proofs.Ytabgdfbiocoimaa
