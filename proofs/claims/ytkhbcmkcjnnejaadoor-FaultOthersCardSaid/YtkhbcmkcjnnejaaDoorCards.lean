/-
  DERIVED. GIVEN WITH THE SEED: THE CARDS: each row of YtkhbcmkcjnnejaaDoorRows.lean that lists a variable, with what it lists TIED to the program's text (the seventh form; the later family's looks); each row that meets fmt, with fmt's text TOLD by the authors' own Lean function (tested against real Go, not proved from fmt's source: count such statements apart). THE CARD IS WHAT COUNTS. Prove the row's statement (the work); the ties are given (YtkhbcmkcjnnejaaDoorTie.lean); close each card by the builder's one call (the guide's Derived/Test/ToyasCard.lean, 'card_holds'). Laid BY PROGRAM, IN A SANDBOX (cutbox-door.mjs). By AI agents, Wed Nov 11 2026. No macro, syntax, notation, axiom, sorry.
-/
import Derived.Test.YtkhbcmkcjnnejaaDoorRows
import GoSem.ClaimSeven
namespace Go.Proofs.YtkhbcmkcjnnejaaDoor
namespace Rows

/-- THE TIED CARD OF 'wheelhouselaw04.FaultChains'. -/
def faultChainsCard : Claim7 := { stood := { row := faultChainsRow, standIns := [], harness := (true, "9bc8e0edb9b0d78eb49036e968ecce4cafb6e236f5249b70950ca5a4eff65fff"), looks := true }, kinds := [], alts := [], laidByText := true, laidKinds := [.handle, .sentinel, .sentinel, .sentinel, .sentinel, .sentinel], laidTests := true, laidLooks := .later }
def FaultChainsCardSaid : Prop := Claim7.holds Tryd.pinned (.plain (OpenSpec.ofChange faultChainsSpec)) faultChainsCard

/-- THE TIED CARD OF 'wheelhouselaw04.FaultSays'. -/
def faultSaysCard : Claim7 := { stood := { row := faultSaysRow, standIns := [], harness := (true, "9bc8e0edb9b0d78eb49036e968ecce4cafb6e236f5249b70950ca5a4eff65fff"), looks := true }, kinds := [], alts := [], laidByText := true, laidKinds := [.handle, .sentinel, .sentinel, .sentinel, .sentinel, .sentinel], laidTests := true, laidLooks := .later }
def FaultSaysCardSaid : Prop := Claim7.holds Tryd.pinned (.plain (OpenSpec.ofChange faultSaysSpec)) faultSaysCard

/-- THE TIED CARD OF 'wheelhouselaw04.FaultCodes'. -/
def faultCodesCard : Claim7 := { stood := { row := faultCodesRow, standIns := [], harness := (true, "9bc8e0edb9b0d78eb49036e968ecce4cafb6e236f5249b70950ca5a4eff65fff"), looks := true }, kinds := [], alts := [], laidByText := true, laidKinds := [.handle, .sentinel, .sentinel, .sentinel, .sentinel, .sentinel], laidTests := true, laidLooks := .later }
def FaultCodesCardSaid : Prop := Claim7.holds Tryd.pinned (.plain (OpenSpec.ofChange faultCodesSpec)) faultCodesCard

/-- THE TIED CARD OF 'wheelhouselaw04.FaultNone'. -/
def faultNoneCard : Claim7 := { stood := { row := faultNoneRow, standIns := [], harness := (true, "9bc8e0edb9b0d78eb49036e968ecce4cafb6e236f5249b70950ca5a4eff65fff"), looks := true }, kinds := [], alts := [], laidByText := true, laidKinds := [.handle, .sentinel, .sentinel, .sentinel, .sentinel, .sentinel], laidTests := true, laidLooks := .later }
def FaultNoneCardSaid : Prop := Claim7.holds Tryd.pinned (.plain (OpenSpec.ofChange faultNoneSpec)) faultNoneCard

/-- THE TIED CARD OF 'wheelhouselaw04.FaultOthers'. -/
def faultOthersCard : Claim7 := { stood := { row := faultOthersRow, standIns := [], harness := (true, "9bc8e0edb9b0d78eb49036e968ecce4cafb6e236f5249b70950ca5a4eff65fff"), looks := true }, kinds := [], alts := [], laidByText := true, laidKinds := [.handle, .sentinel, .sentinel, .sentinel, .sentinel, .sentinel], laidTests := true, laidLooks := .later }
def FaultOthersCardSaid : Prop := Claim7.holds Tryd.pinned (.plain (OpenSpec.ofChange faultOthersSpec)) faultOthersCard

/-- THE SECOND FORM's CARD OF 'wheelhouselaw04.FaultChains'. -/
def faultChainsUptoCard : Claim7 := { stood := { row := faultChainsUptoRow, standIns := [], harness := (true, "9bc8e0edb9b0d78eb49036e968ecce4cafb6e236f5249b70950ca5a4eff65fff"), looks := true }, kinds := [], alts := [], laidByText := true, laidKinds := [.handle, .sentinel, .sentinel, .sentinel, .sentinel, .sentinel], laidTests := true, laidLooks := .later }
def FaultChainsUptoCardSaid : Prop := Claim7.holds Tryd.pinned (.plain (OpenSpec.upto faultChainsSpec)) faultChainsUptoCard

/-- THE SECOND FORM's CARD OF 'wheelhouselaw04.FaultSays'. -/
def faultSaysUptoCard : Claim7 := { stood := { row := faultSaysUptoRow, standIns := [], harness := (true, "9bc8e0edb9b0d78eb49036e968ecce4cafb6e236f5249b70950ca5a4eff65fff"), looks := true }, kinds := [], alts := [], laidByText := true, laidKinds := [.handle, .sentinel, .sentinel, .sentinel, .sentinel, .sentinel], laidTests := true, laidLooks := .later }
def FaultSaysUptoCardSaid : Prop := Claim7.holds Tryd.pinned (.plain (OpenSpec.upto faultSaysSpec)) faultSaysUptoCard

/-- THE SECOND FORM's CARD OF 'wheelhouselaw04.FaultCodes'. -/
def faultCodesUptoCard : Claim7 := { stood := { row := faultCodesUptoRow, standIns := [], harness := (true, "9bc8e0edb9b0d78eb49036e968ecce4cafb6e236f5249b70950ca5a4eff65fff"), looks := true }, kinds := [], alts := [], laidByText := true, laidKinds := [.handle, .sentinel, .sentinel, .sentinel, .sentinel, .sentinel], laidTests := true, laidLooks := .later }
def FaultCodesUptoCardSaid : Prop := Claim7.holds Tryd.pinned (.plain (OpenSpec.upto faultCodesSpec)) faultCodesUptoCard

/-- THE SECOND FORM's CARD OF 'wheelhouselaw04.FaultNone'. -/
def faultNoneUptoCard : Claim7 := { stood := { row := faultNoneUptoRow, standIns := [], harness := (true, "9bc8e0edb9b0d78eb49036e968ecce4cafb6e236f5249b70950ca5a4eff65fff"), looks := true }, kinds := [], alts := [], laidByText := true, laidKinds := [.handle, .sentinel, .sentinel, .sentinel, .sentinel, .sentinel], laidTests := true, laidLooks := .later }
def FaultNoneUptoCardSaid : Prop := Claim7.holds Tryd.pinned (.plain (OpenSpec.upto faultNoneSpec)) faultNoneUptoCard

/-- THE SECOND FORM's CARD OF 'wheelhouselaw04.FaultOthers'. -/
def faultOthersUptoCard : Claim7 := { stood := { row := faultOthersUptoRow, standIns := [], harness := (true, "9bc8e0edb9b0d78eb49036e968ecce4cafb6e236f5249b70950ca5a4eff65fff"), looks := true }, kinds := [], alts := [], laidByText := true, laidKinds := [.handle, .sentinel, .sentinel, .sentinel, .sentinel, .sentinel], laidTests := true, laidLooks := .later }
def FaultOthersUptoCardSaid : Prop := Claim7.holds Tryd.pinned (.plain (OpenSpec.upto faultOthersSpec)) faultOthersUptoCard
end Rows
end Go.Proofs.YtkhbcmkcjnnejaaDoor
