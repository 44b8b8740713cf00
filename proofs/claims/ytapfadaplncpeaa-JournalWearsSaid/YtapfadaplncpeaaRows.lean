/-
  No cell of these rows narrows 'for every input' (looked for: loops, veiled, ifaces, maps, wideKeys, modest, calm, conditions, laid).
  DERIVED. THE GIVEN ROWS OF THIS SEAT. 14 by the template 'for every input the law returns true; each argument reads behind the call as it read before'; 0 by the template 'total and deterministic' (their statements: YtapfadaplncpeaaTotals.lean).
  GIVEN WITH THE SEED: the statements are not yours to turn. If you find one false, say at which input.
  Laid BY PROGRAM, IN A SANDBOX (cutbox-rows.mjs): the forced cells as the released guide's own fill.sh prints them over the translation 640d5586ced255eb… (all of the seat's roots in one cut). By AI agents, Wed Nov 11 2026. No macro, syntax, notation, axiom, sorry.
-/
import Derived.Test.YtapfadaplncpeaaChecked
import GoSem.Claim
import GoSem.ClaimJoined
import GoSem.ClaimMapViews
import Derived.JoinedTies
import Derived.KernelRfl
namespace Go.Proofs.Ytapfadaplncpeaa
/- THE CELL 'sum', in the pinned program and in every row, IS THE sha256 OF THE DUMP (.gsa) THAT YtapfadaplncpeaaProg.lean LOADS. Nothing in Lean hashes anything: it is a label: what it is worth is what the hold of that sum in a sandbox is worth. -/
noncomputable def Try.pinned : Pinned := { name := "ytapfadaplncpeaa", sum := "640d5586ced255eb53099462f52a86a395970b00d4e7cac0de025387a2de78a0", checked := Try.checked }
namespace Rows
def none {H : Type} : Left H := { results := [], args := [] }

/-- 'wheelhouselaw18.SnapBuilds': WHATEVER THE INPUT: true; the input reads as it did. -/
def snapBuildsSpec : ChangeSpec := { name := "snapBuilds", fn := fun _ => fun
  | [d1, d2] => { results := [.lit (.bool true)], args := [d1, d2] }
  | _ => none }
def snapBuildsRow : OpenClaim := { program := "ytapfadaplncpeaa", sum := "640d5586ced255eb53099462f52a86a395970b00d4e7cac0de025387a2de78a0", func := "wheelhouse/wheelhouselaw18.SnapBuilds", spec := "snapBuilds", apart := false }
def SnapBuildsSaid : Prop := snapBuildsRow.holds Try.pinned (OpenSpec.ofChange snapBuildsSpec)

/-- ITS FALSE NEIGHBOUR: 'it returns false'. Refute it at one input. -/
def snapBuildsWrong : ChangeSpec := { name := "snapBuilds", fn := fun _ => fun
  | [d1, d2] => { results := [.lit (.bool false)], args := [d1, d2] }
  | _ => none }
def SnapBuildsWrongFalsely : Prop := snapBuildsRow.holds Try.pinned (OpenSpec.ofChange snapBuildsWrong)

/-- 'wheelhouselaw18.SnapBack': WHATEVER THE INPUT: true; the input reads as it did. -/
def snapBackSpec : ChangeSpec := { name := "snapBack", fn := fun _ => fun
  | [d1, d2] => { results := [.lit (.bool true)], args := [d1, d2] }
  | _ => none }
def snapBackRow : OpenClaim := { program := "ytapfadaplncpeaa", sum := "640d5586ced255eb53099462f52a86a395970b00d4e7cac0de025387a2de78a0", func := "wheelhouse/wheelhouselaw18.SnapBack", spec := "snapBack", apart := false }
def SnapBackSaid : Prop := snapBackRow.holds Try.pinned (OpenSpec.ofChange snapBackSpec)

/-- ITS FALSE NEIGHBOUR: 'it returns false'. Refute it at one input. -/
def snapBackWrong : ChangeSpec := { name := "snapBack", fn := fun _ => fun
  | [d1, d2] => { results := [.lit (.bool false)], args := [d1, d2] }
  | _ => none }
def SnapBackWrongFalsely : Prop := snapBackRow.holds Try.pinned (OpenSpec.ofChange snapBackWrong)

/-- 'wheelhouselaw07.RecordBuilds': WHATEVER THE INPUT: true; the input reads as it did. -/
def recordBuildsSpec : ChangeSpec := { name := "recordBuilds", fn := fun _ => fun
  | [d] => { results := [.lit (.bool true)], args := [d] }
  | _ => none }
def recordBuildsRow : OpenClaim := { program := "ytapfadaplncpeaa", sum := "640d5586ced255eb53099462f52a86a395970b00d4e7cac0de025387a2de78a0", func := "wheelhouse/wheelhouselaw07.RecordBuilds", spec := "recordBuilds", unfollowed := true, recurses := true, apart := false }
def RecordBuildsSaid : Prop := recordBuildsRow.holds Try.pinned (OpenSpec.ofChange recordBuildsSpec)

/-- ITS FALSE NEIGHBOUR: 'it returns false'. Refute it at one input. -/
def recordBuildsWrong : ChangeSpec := { name := "recordBuilds", fn := fun _ => fun
  | [d] => { results := [.lit (.bool false)], args := [d] }
  | _ => none }
def RecordBuildsWrongFalsely : Prop := recordBuildsRow.holds Try.pinned (OpenSpec.ofChange recordBuildsWrong)

/-- 'wheelhouselaw07.RecordParses': WHATEVER THE INPUT: true; the input reads as it did. -/
def recordParsesSpec : ChangeSpec := { name := "recordParses", fn := fun _ => fun
  | [d1, d2] => { results := [.lit (.bool true)], args := [d1, d2] }
  | _ => none }
def recordParsesRow : OpenClaim := { program := "ytapfadaplncpeaa", sum := "640d5586ced255eb53099462f52a86a395970b00d4e7cac0de025387a2de78a0", func := "wheelhouse/wheelhouselaw07.RecordParses", spec := "recordParses", unfollowed := true, recurses := true, apart := false }
def RecordParsesSaid : Prop := recordParsesRow.holds Try.pinned (OpenSpec.ofChange recordParsesSpec)

/-- ITS FALSE NEIGHBOUR: 'it returns false'. Refute it at one input. -/
def recordParsesWrong : ChangeSpec := { name := "recordParses", fn := fun _ => fun
  | [d1, d2] => { results := [.lit (.bool false)], args := [d1, d2] }
  | _ => none }
def RecordParsesWrongFalsely : Prop := recordParsesRow.holds Try.pinned (OpenSpec.ofChange recordParsesWrong)

/-- 'wheelhouselaw07.RecordBack': WHATEVER THE INPUT: true; the input reads as it did. -/
def recordBackSpec : ChangeSpec := { name := "recordBack", fn := fun _ => fun
  | [d1, d2, d3] => { results := [.lit (.bool true)], args := [d1, d2, d3] }
  | _ => none }
def recordBackRow : OpenClaim := { program := "ytapfadaplncpeaa", sum := "640d5586ced255eb53099462f52a86a395970b00d4e7cac0de025387a2de78a0", func := "wheelhouse/wheelhouselaw07.RecordBack", spec := "recordBack", unfollowed := true, recurses := true, apart := false }
def RecordBackSaid : Prop := recordBackRow.holds Try.pinned (OpenSpec.ofChange recordBackSpec)

/-- ITS FALSE NEIGHBOUR: 'it returns false'. Refute it at one input. -/
def recordBackWrong : ChangeSpec := { name := "recordBack", fn := fun _ => fun
  | [d1, d2, d3] => { results := [.lit (.bool false)], args := [d1, d2, d3] }
  | _ => none }
def RecordBackWrongFalsely : Prop := recordBackRow.holds Try.pinned (OpenSpec.ofChange recordBackWrong)

/-- 'wheelhouselaw07.RecordOnly': WHATEVER THE INPUT: true; the input reads as it did. -/
def recordOnlySpec : ChangeSpec := { name := "recordOnly", fn := fun _ => fun
  | [d1, d2] => { results := [.lit (.bool true)], args := [d1, d2] }
  | _ => none }
def recordOnlyRow : OpenClaim := { program := "ytapfadaplncpeaa", sum := "640d5586ced255eb53099462f52a86a395970b00d4e7cac0de025387a2de78a0", func := "wheelhouse/wheelhouselaw07.RecordOnly", spec := "recordOnly", unfollowed := true, recurses := true, apart := false }
def RecordOnlySaid : Prop := recordOnlyRow.holds Try.pinned (OpenSpec.ofChange recordOnlySpec)

/-- ITS FALSE NEIGHBOUR: 'it returns false'. Refute it at one input. -/
def recordOnlyWrong : ChangeSpec := { name := "recordOnly", fn := fun _ => fun
  | [d1, d2] => { results := [.lit (.bool false)], args := [d1, d2] }
  | _ => none }
def RecordOnlyWrongFalsely : Prop := recordOnlyRow.holds Try.pinned (OpenSpec.ofChange recordOnlyWrong)

/-- 'wheelhouselaw07.RecordTurned': WHATEVER THE INPUT: true; the input reads as it did. -/
def recordTurnedSpec : ChangeSpec := { name := "recordTurned", fn := fun _ => fun
  | [d1, d2, d3] => { results := [.lit (.bool true)], args := [d1, d2, d3] }
  | _ => none }
def recordTurnedRow : OpenClaim := { program := "ytapfadaplncpeaa", sum := "640d5586ced255eb53099462f52a86a395970b00d4e7cac0de025387a2de78a0", func := "wheelhouse/wheelhouselaw07.RecordTurned", spec := "recordTurned", unfollowed := true, recurses := true, apart := false }
def RecordTurnedSaid : Prop := recordTurnedRow.holds Try.pinned (OpenSpec.ofChange recordTurnedSpec)

/-- ITS FALSE NEIGHBOUR: 'it returns false'. Refute it at one input. -/
def recordTurnedWrong : ChangeSpec := { name := "recordTurned", fn := fun _ => fun
  | [d1, d2, d3] => { results := [.lit (.bool false)], args := [d1, d2, d3] }
  | _ => none }
def RecordTurnedWrongFalsely : Prop := recordTurnedRow.holds Try.pinned (OpenSpec.ofChange recordTurnedWrong)

/-- 'wheelhouselaw08.SectorLooks': WHATEVER THE INPUT: true; the input reads as it did. -/
def sectorLooksSpec : ChangeSpec := { name := "sectorLooks", fn := fun _ => fun
  | [d] => { results := [.lit (.bool true)], args := [d] }
  | _ => none }
def sectorLooksRow : OpenClaim := { program := "ytapfadaplncpeaa", sum := "640d5586ced255eb53099462f52a86a395970b00d4e7cac0de025387a2de78a0", func := "wheelhouse/wheelhouselaw08.SectorLooks", spec := "sectorLooks", unfollowed := true, recurses := true, apart := false }
def SectorLooksSaid : Prop := sectorLooksRow.holds Try.pinned (OpenSpec.ofChange sectorLooksSpec)

/-- ITS FALSE NEIGHBOUR: 'it returns false'. Refute it at one input. -/
def sectorLooksWrong : ChangeSpec := { name := "sectorLooks", fn := fun _ => fun
  | [d] => { results := [.lit (.bool false)], args := [d] }
  | _ => none }
def SectorLooksWrongFalsely : Prop := sectorLooksRow.holds Try.pinned (OpenSpec.ofChange sectorLooksWrong)

/-- 'wheelhouselaw08.SectorRows': WHATEVER THE INPUT: true; the input reads as it did. -/
def sectorRowsSpec : ChangeSpec := { name := "sectorRows", fn := fun _ => fun
  | [d1, d2, d3] => { results := [.lit (.bool true)], args := [d1, d2, d3] }
  | _ => none }
def sectorRowsRow : OpenClaim := { program := "ytapfadaplncpeaa", sum := "640d5586ced255eb53099462f52a86a395970b00d4e7cac0de025387a2de78a0", func := "wheelhouse/wheelhouselaw08.SectorRows", spec := "sectorRows", unfollowed := true, recurses := true, apart := false }
def SectorRowsSaid : Prop := sectorRowsRow.holds Try.pinned (OpenSpec.ofChange sectorRowsSpec)

/-- ITS FALSE NEIGHBOUR: 'it returns false'. Refute it at one input. -/
def sectorRowsWrong : ChangeSpec := { name := "sectorRows", fn := fun _ => fun
  | [d1, d2, d3] => { results := [.lit (.bool false)], args := [d1, d2, d3] }
  | _ => none }
def SectorRowsWrongFalsely : Prop := sectorRowsRow.holds Try.pinned (OpenSpec.ofChange sectorRowsWrong)

/-- 'wheelhouselaw09.JournalNil': WHATEVER THE INPUT: true; the input reads as it did. -/
def journalNilSpec : ChangeSpec := { name := "journalNil", fn := fun _ => fun
  | [d1, d2] => { results := [.lit (.bool true)], args := [d1, d2] }
  | _ => none }
def journalNilRow : OpenClaim := { program := "ytapfadaplncpeaa", sum := "640d5586ced255eb53099462f52a86a395970b00d4e7cac0de025387a2de78a0", func := "wheelhouse/wheelhouselaw09.JournalNil", spec := "journalNil", unfollowed := true, recurses := true, apart := false }
def JournalNilSaid : Prop := journalNilRow.holds Try.pinned (OpenSpec.ofChange journalNilSpec)

/-- ITS FALSE NEIGHBOUR: 'it returns false'. Refute it at one input. -/
def journalNilWrong : ChangeSpec := { name := "journalNil", fn := fun _ => fun
  | [d1, d2] => { results := [.lit (.bool false)], args := [d1, d2] }
  | _ => none }
def JournalNilWrongFalsely : Prop := journalNilRow.holds Try.pinned (OpenSpec.ofChange journalNilWrong)

/-- 'wheelhouselaw09.JournalAny': WHATEVER THE INPUT: true; the input reads as it did. -/
def journalAnySpec : ChangeSpec := { name := "journalAny", fn := fun _ => fun
  | [d1, d2] => { results := [.lit (.bool true)], args := [d1, d2] }
  | _ => none }
def journalAnyRow : OpenClaim := { program := "ytapfadaplncpeaa", sum := "640d5586ced255eb53099462f52a86a395970b00d4e7cac0de025387a2de78a0", func := "wheelhouse/wheelhouselaw09.JournalAny", spec := "journalAny", unfollowed := true, recurses := true, apart := false }
def JournalAnySaid : Prop := journalAnyRow.holds Try.pinned (OpenSpec.ofChange journalAnySpec)

/-- ITS FALSE NEIGHBOUR: 'it returns false'. Refute it at one input. -/
def journalAnyWrong : ChangeSpec := { name := "journalAny", fn := fun _ => fun
  | [d1, d2] => { results := [.lit (.bool false)], args := [d1, d2] }
  | _ => none }
def JournalAnyWrongFalsely : Prop := journalAnyRow.holds Try.pinned (OpenSpec.ofChange journalAnyWrong)

/-- 'wheelhouselaw09.JournalWork': WHATEVER THE INPUT: true; the input reads as it did. -/
def journalWorkSpec : ChangeSpec := { name := "journalWork", fn := fun _ => fun
  | [d] => { results := [.lit (.bool true)], args := [d] }
  | _ => none }
def journalWorkRow : OpenClaim := { program := "ytapfadaplncpeaa", sum := "640d5586ced255eb53099462f52a86a395970b00d4e7cac0de025387a2de78a0", func := "wheelhouse/wheelhouselaw09.JournalWork", spec := "journalWork", unfollowed := true, recurses := true, apart := false }
def JournalWorkSaid : Prop := journalWorkRow.holds Try.pinned (OpenSpec.ofChange journalWorkSpec)

/-- ITS FALSE NEIGHBOUR: 'it returns false'. Refute it at one input. -/
def journalWorkWrong : ChangeSpec := { name := "journalWork", fn := fun _ => fun
  | [d] => { results := [.lit (.bool false)], args := [d] }
  | _ => none }
def JournalWorkWrongFalsely : Prop := journalWorkRow.holds Try.pinned (OpenSpec.ofChange journalWorkWrong)

/-- 'wheelhouselaw09.JournalCrashes': WHATEVER THE INPUT: true; the input reads as it did. -/
def journalCrashesSpec : ChangeSpec := { name := "journalCrashes", fn := fun _ => fun
  | [d] => { results := [.lit (.bool true)], args := [d] }
  | _ => none }
def journalCrashesRow : OpenClaim := { program := "ytapfadaplncpeaa", sum := "640d5586ced255eb53099462f52a86a395970b00d4e7cac0de025387a2de78a0", func := "wheelhouse/wheelhouselaw09.JournalCrashes", spec := "journalCrashes", unfollowed := true, recurses := true, apart := false }
def JournalCrashesSaid : Prop := journalCrashesRow.holds Try.pinned (OpenSpec.ofChange journalCrashesSpec)

/-- ITS FALSE NEIGHBOUR: 'it returns false'. Refute it at one input. -/
def journalCrashesWrong : ChangeSpec := { name := "journalCrashes", fn := fun _ => fun
  | [d] => { results := [.lit (.bool false)], args := [d] }
  | _ => none }
def JournalCrashesWrongFalsely : Prop := journalCrashesRow.holds Try.pinned (OpenSpec.ofChange journalCrashesWrong)

/-- 'wheelhouselaw09.JournalWears': WHATEVER THE INPUT: true; the input reads as it did. -/
def journalWearsSpec : ChangeSpec := { name := "journalWears", fn := fun _ => fun
  | [d1, d2] => { results := [.lit (.bool true)], args := [d1, d2] }
  | _ => none }
def journalWearsRow : OpenClaim := { program := "ytapfadaplncpeaa", sum := "640d5586ced255eb53099462f52a86a395970b00d4e7cac0de025387a2de78a0", func := "wheelhouse/wheelhouselaw09.JournalWears", spec := "journalWears", unfollowed := true, recurses := true, apart := false }
def JournalWearsSaid : Prop := journalWearsRow.holds Try.pinned (OpenSpec.ofChange journalWearsSpec)

/-- ITS FALSE NEIGHBOUR: 'it returns false'. Refute it at one input. -/
def journalWearsWrong : ChangeSpec := { name := "journalWears", fn := fun _ => fun
  | [d1, d2] => { results := [.lit (.bool false)], args := [d1, d2] }
  | _ => none }
def JournalWearsWrongFalsely : Prop := journalWearsRow.holds Try.pinned (OpenSpec.ofChange journalWearsWrong)

/- THE SECOND FORM. 'bulk': how many values and letters a reading holds, each counted each time it is reached (what is shared counts as often as it is met; a slice's spare places count too). A statement '..UptoSaid' is the law's where the arguments, and the package variables that the reading takes, are together of bulk at most 1048576: NARROWER than '..Said'. Prove '..Said' where nothing that the law and all that it calls make is longer than what came in: it says more and counts as full. Else prove '..UptoSaid'. A law counts once. -/
mutual
def uptoBulk {H : Type} : DataW H → Nat
  | .lit (.string bytes) => bytes.length + 1
  | .lit _ => 1
  | .nil => 1
  | .ptr d => uptoBulk d + 1
  | .slice elems spare => uptoBulkAll elems + uptoBulkAll spare + 1
  | .agg parts => uptoBulkAll parts + 1
  | .iface _ d => uptoBulk d + 1
  | .map entries => uptoBulkEntries entries + 1
  | .held _ => 1
def uptoBulkAll {H : Type} : List (DataW H) → Nat
  | [] => 0
  | d :: r => uptoBulk d + uptoBulkAll r
def uptoBulkEntries {H : Type} : List (Lit × DataW H) → Nat
  | [] => 0
  | x :: r => uptoBulkEntry x + uptoBulkEntries r
def uptoBulkEntry {H : Type} : Lit × DataW H → Nat
  | (.string bytes, d) => bytes.length + uptoBulk d + 1
  | (_, d) => uptoBulk d + 1
 end
def uptoSmall : (H : Type) → List (DataW H) → Bool := fun _ ds => decide (uptoBulkAll ds ≤ 1048576)
def OpenSpec.upto (s : _root_.Go.ChangeSpec) : _root_.Go.OpenSpec := { _root_.Go.OpenSpec.ofChange s with cond := some uptoSmall }

/-- 'wheelhouselaw18.SnapBuilds', WHERE WHAT IT READS IS OF BULK AT MOST 1048576: true; the input reads as it did. -/
def snapBuildsUptoRow : OpenClaim := { program := "ytapfadaplncpeaa", sum := "640d5586ced255eb53099462f52a86a395970b00d4e7cac0de025387a2de78a0", func := "wheelhouse/wheelhouselaw18.SnapBuilds", spec := "snapBuilds", apart := false, narrowed := true }
def SnapBuildsUptoSaid : Prop := snapBuildsUptoRow.holds Try.pinned (OpenSpec.upto snapBuildsSpec)

/-- 'wheelhouselaw18.SnapBack', WHERE WHAT IT READS IS OF BULK AT MOST 1048576: true; the input reads as it did. -/
def snapBackUptoRow : OpenClaim := { program := "ytapfadaplncpeaa", sum := "640d5586ced255eb53099462f52a86a395970b00d4e7cac0de025387a2de78a0", func := "wheelhouse/wheelhouselaw18.SnapBack", spec := "snapBack", apart := false, narrowed := true }
def SnapBackUptoSaid : Prop := snapBackUptoRow.holds Try.pinned (OpenSpec.upto snapBackSpec)

/-- 'wheelhouselaw07.RecordBuilds', WHERE WHAT IT READS IS OF BULK AT MOST 1048576: true; the input reads as it did. -/
def recordBuildsUptoRow : OpenClaim := { program := "ytapfadaplncpeaa", sum := "640d5586ced255eb53099462f52a86a395970b00d4e7cac0de025387a2de78a0", func := "wheelhouse/wheelhouselaw07.RecordBuilds", spec := "recordBuilds", unfollowed := true, recurses := true, apart := false, narrowed := true }
def RecordBuildsUptoSaid : Prop := recordBuildsUptoRow.holds Try.pinned (OpenSpec.upto recordBuildsSpec)

/-- 'wheelhouselaw07.RecordParses', WHERE WHAT IT READS IS OF BULK AT MOST 1048576: true; the input reads as it did. -/
def recordParsesUptoRow : OpenClaim := { program := "ytapfadaplncpeaa", sum := "640d5586ced255eb53099462f52a86a395970b00d4e7cac0de025387a2de78a0", func := "wheelhouse/wheelhouselaw07.RecordParses", spec := "recordParses", unfollowed := true, recurses := true, apart := false, narrowed := true }
def RecordParsesUptoSaid : Prop := recordParsesUptoRow.holds Try.pinned (OpenSpec.upto recordParsesSpec)

/-- 'wheelhouselaw07.RecordBack', WHERE WHAT IT READS IS OF BULK AT MOST 1048576: true; the input reads as it did. -/
def recordBackUptoRow : OpenClaim := { program := "ytapfadaplncpeaa", sum := "640d5586ced255eb53099462f52a86a395970b00d4e7cac0de025387a2de78a0", func := "wheelhouse/wheelhouselaw07.RecordBack", spec := "recordBack", unfollowed := true, recurses := true, apart := false, narrowed := true }
def RecordBackUptoSaid : Prop := recordBackUptoRow.holds Try.pinned (OpenSpec.upto recordBackSpec)

/-- 'wheelhouselaw07.RecordOnly', WHERE WHAT IT READS IS OF BULK AT MOST 1048576: true; the input reads as it did. -/
def recordOnlyUptoRow : OpenClaim := { program := "ytapfadaplncpeaa", sum := "640d5586ced255eb53099462f52a86a395970b00d4e7cac0de025387a2de78a0", func := "wheelhouse/wheelhouselaw07.RecordOnly", spec := "recordOnly", unfollowed := true, recurses := true, apart := false, narrowed := true }
def RecordOnlyUptoSaid : Prop := recordOnlyUptoRow.holds Try.pinned (OpenSpec.upto recordOnlySpec)

/-- 'wheelhouselaw07.RecordTurned', WHERE WHAT IT READS IS OF BULK AT MOST 1048576: true; the input reads as it did. -/
def recordTurnedUptoRow : OpenClaim := { program := "ytapfadaplncpeaa", sum := "640d5586ced255eb53099462f52a86a395970b00d4e7cac0de025387a2de78a0", func := "wheelhouse/wheelhouselaw07.RecordTurned", spec := "recordTurned", unfollowed := true, recurses := true, apart := false, narrowed := true }
def RecordTurnedUptoSaid : Prop := recordTurnedUptoRow.holds Try.pinned (OpenSpec.upto recordTurnedSpec)

/-- 'wheelhouselaw08.SectorLooks', WHERE WHAT IT READS IS OF BULK AT MOST 1048576: true; the input reads as it did. -/
def sectorLooksUptoRow : OpenClaim := { program := "ytapfadaplncpeaa", sum := "640d5586ced255eb53099462f52a86a395970b00d4e7cac0de025387a2de78a0", func := "wheelhouse/wheelhouselaw08.SectorLooks", spec := "sectorLooks", unfollowed := true, recurses := true, apart := false, narrowed := true }
def SectorLooksUptoSaid : Prop := sectorLooksUptoRow.holds Try.pinned (OpenSpec.upto sectorLooksSpec)

/-- 'wheelhouselaw08.SectorRows', WHERE WHAT IT READS IS OF BULK AT MOST 1048576: true; the input reads as it did. -/
def sectorRowsUptoRow : OpenClaim := { program := "ytapfadaplncpeaa", sum := "640d5586ced255eb53099462f52a86a395970b00d4e7cac0de025387a2de78a0", func := "wheelhouse/wheelhouselaw08.SectorRows", spec := "sectorRows", unfollowed := true, recurses := true, apart := false, narrowed := true }
def SectorRowsUptoSaid : Prop := sectorRowsUptoRow.holds Try.pinned (OpenSpec.upto sectorRowsSpec)

/-- 'wheelhouselaw09.JournalNil', WHERE WHAT IT READS IS OF BULK AT MOST 1048576: true; the input reads as it did. -/
def journalNilUptoRow : OpenClaim := { program := "ytapfadaplncpeaa", sum := "640d5586ced255eb53099462f52a86a395970b00d4e7cac0de025387a2de78a0", func := "wheelhouse/wheelhouselaw09.JournalNil", spec := "journalNil", unfollowed := true, recurses := true, apart := false, narrowed := true }
def JournalNilUptoSaid : Prop := journalNilUptoRow.holds Try.pinned (OpenSpec.upto journalNilSpec)

/-- 'wheelhouselaw09.JournalAny', WHERE WHAT IT READS IS OF BULK AT MOST 1048576: true; the input reads as it did. -/
def journalAnyUptoRow : OpenClaim := { program := "ytapfadaplncpeaa", sum := "640d5586ced255eb53099462f52a86a395970b00d4e7cac0de025387a2de78a0", func := "wheelhouse/wheelhouselaw09.JournalAny", spec := "journalAny", unfollowed := true, recurses := true, apart := false, narrowed := true }
def JournalAnyUptoSaid : Prop := journalAnyUptoRow.holds Try.pinned (OpenSpec.upto journalAnySpec)

/-- 'wheelhouselaw09.JournalWork', WHERE WHAT IT READS IS OF BULK AT MOST 1048576: true; the input reads as it did. -/
def journalWorkUptoRow : OpenClaim := { program := "ytapfadaplncpeaa", sum := "640d5586ced255eb53099462f52a86a395970b00d4e7cac0de025387a2de78a0", func := "wheelhouse/wheelhouselaw09.JournalWork", spec := "journalWork", unfollowed := true, recurses := true, apart := false, narrowed := true }
def JournalWorkUptoSaid : Prop := journalWorkUptoRow.holds Try.pinned (OpenSpec.upto journalWorkSpec)

/-- 'wheelhouselaw09.JournalCrashes', WHERE WHAT IT READS IS OF BULK AT MOST 1048576: true; the input reads as it did. -/
def journalCrashesUptoRow : OpenClaim := { program := "ytapfadaplncpeaa", sum := "640d5586ced255eb53099462f52a86a395970b00d4e7cac0de025387a2de78a0", func := "wheelhouse/wheelhouselaw09.JournalCrashes", spec := "journalCrashes", unfollowed := true, recurses := true, apart := false, narrowed := true }
def JournalCrashesUptoSaid : Prop := journalCrashesUptoRow.holds Try.pinned (OpenSpec.upto journalCrashesSpec)

/-- 'wheelhouselaw09.JournalWears', WHERE WHAT IT READS IS OF BULK AT MOST 1048576: true; the input reads as it did. -/
def journalWearsUptoRow : OpenClaim := { program := "ytapfadaplncpeaa", sum := "640d5586ced255eb53099462f52a86a395970b00d4e7cac0de025387a2de78a0", func := "wheelhouse/wheelhouselaw09.JournalWears", spec := "journalWears", unfollowed := true, recurses := true, apart := false, narrowed := true }
def JournalWearsUptoSaid : Prop := journalWearsUptoRow.holds Try.pinned (OpenSpec.upto journalWearsSpec)

end Rows
end Go.Proofs.Ytapfadaplncpeaa
