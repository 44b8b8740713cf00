/-
  DERIVED. GIVEN WITH THE SEED: THE CARDS: each row of YtehabbnohoomjaaGreatDoorRows.lean that lists a variable, with what it lists TIED to the program's text (the seventh form; the later family's looks); each row that meets fmt, with fmt's text TOLD by the authors' own Lean function (tested against real Go, not proved from fmt's source: count such statements apart). THE CARD IS WHAT COUNTS. Prove the row's statement (the work); the ties are given (YtehabbnohoomjaaGreatDoorTie.lean); close each card by the builder's one call (the guide's Derived/Test/ToyasCard.lean, 'card_holds'). Laid BY PROGRAM, IN A SANDBOX (cutbox-door.mjs). By AI agents, Wed Nov 11 2026. No macro, syntax, notation, axiom, sorry.
-/
import Derived.Test.YtehabbnohoomjaaGreatDoorRows
import GoSem.ClaimSeven
namespace Go.Proofs.YtehabbnohoomjaaGreatDoor
namespace Rows

/-- THE TIED CARD OF 'wheelhouselaw19.VaultLoads'. -/
def vaultLoadsCard : Claim7 := { stood := { row := vaultLoadsRow, standIns := [], harness := (true, "b7387b532f0581c19858f03c3cef5e1b1ef88438c84272c6e880c5011067a5d4"), looks := true }, kinds := [], alts := [], laidByText := true, laidKinds := [.handle, .sentinel, .sentinel, .sentinel, .sentinel, .sentinel], laidTests := true, laidLooks := .later }
def VaultLoadsCardSaid : Prop := Claim7.holds Tryz.pinned (.plain (OpenSpec.ofChange vaultLoadsSpec)) vaultLoadsCard

/-- THE TIED CARD OF 'wheelhouselaw19.VaultNil'. -/
def vaultNilCard : Claim7 := { stood := { row := vaultNilRow, standIns := [], harness := (true, "b7387b532f0581c19858f03c3cef5e1b1ef88438c84272c6e880c5011067a5d4"), looks := true }, kinds := [], alts := [], laidByText := true, laidKinds := [.handle, .sentinel, .sentinel, .sentinel, .sentinel, .sentinel], laidTests := true, laidLooks := .later }
def VaultNilCardSaid : Prop := Claim7.holds Tryz.pinned (.plain (OpenSpec.ofChange vaultNilSpec)) vaultNilCard

/-- THE TIED CARD OF 'wheelhouselaw19.VaultCrashes'. -/
def vaultCrashesCard : Claim7 := { stood := { row := vaultCrashesRow, standIns := [], harness := (true, "b7387b532f0581c19858f03c3cef5e1b1ef88438c84272c6e880c5011067a5d4"), looks := true }, kinds := [], alts := [], laidByText := true, laidKinds := [.handle, .sentinel, .sentinel, .sentinel, .sentinel, .sentinel], laidTests := true, laidLooks := .later }
def VaultCrashesCardSaid : Prop := Claim7.holds Tryz.pinned (.plain (OpenSpec.ofChange vaultCrashesSpec)) vaultCrashesCard

/-- THE TIED CARD OF 'wheelhouselaw19.VaultPlays'. -/
def vaultPlaysCard : Claim7 := { stood := { row := vaultPlaysRow, standIns := [], harness := (true, "b7387b532f0581c19858f03c3cef5e1b1ef88438c84272c6e880c5011067a5d4"), looks := true }, kinds := [], alts := [], laidByText := true, laidKinds := [.handle, .sentinel, .sentinel, .sentinel, .sentinel, .sentinel], laidTests := true, laidLooks := .later }
def VaultPlaysCardSaid : Prop := Claim7.holds Tryz.pinned (.plain (OpenSpec.ofChange vaultPlaysSpec)) vaultPlaysCard

/-- THE SECOND FORM's CARD OF 'wheelhouselaw19.VaultLoads'. -/
def vaultLoadsUptoCard : Claim7 := { stood := { row := vaultLoadsUptoRow, standIns := [], harness := (true, "b7387b532f0581c19858f03c3cef5e1b1ef88438c84272c6e880c5011067a5d4"), looks := true }, kinds := [], alts := [], laidByText := true, laidKinds := [.handle, .sentinel, .sentinel, .sentinel, .sentinel, .sentinel], laidTests := true, laidLooks := .later }
def VaultLoadsUptoCardSaid : Prop := Claim7.holds Tryz.pinned (.plain (OpenSpec.upto vaultLoadsSpec)) vaultLoadsUptoCard

/-- THE SECOND FORM's CARD OF 'wheelhouselaw19.VaultNil'. -/
def vaultNilUptoCard : Claim7 := { stood := { row := vaultNilUptoRow, standIns := [], harness := (true, "b7387b532f0581c19858f03c3cef5e1b1ef88438c84272c6e880c5011067a5d4"), looks := true }, kinds := [], alts := [], laidByText := true, laidKinds := [.handle, .sentinel, .sentinel, .sentinel, .sentinel, .sentinel], laidTests := true, laidLooks := .later }
def VaultNilUptoCardSaid : Prop := Claim7.holds Tryz.pinned (.plain (OpenSpec.upto vaultNilSpec)) vaultNilUptoCard

/-- THE SECOND FORM's CARD OF 'wheelhouselaw19.VaultCrashes'. -/
def vaultCrashesUptoCard : Claim7 := { stood := { row := vaultCrashesUptoRow, standIns := [], harness := (true, "b7387b532f0581c19858f03c3cef5e1b1ef88438c84272c6e880c5011067a5d4"), looks := true }, kinds := [], alts := [], laidByText := true, laidKinds := [.handle, .sentinel, .sentinel, .sentinel, .sentinel, .sentinel], laidTests := true, laidLooks := .later }
def VaultCrashesUptoCardSaid : Prop := Claim7.holds Tryz.pinned (.plain (OpenSpec.upto vaultCrashesSpec)) vaultCrashesUptoCard

/-- THE SECOND FORM's CARD OF 'wheelhouselaw19.VaultPlays'. -/
def vaultPlaysUptoCard : Claim7 := { stood := { row := vaultPlaysUptoRow, standIns := [], harness := (true, "b7387b532f0581c19858f03c3cef5e1b1ef88438c84272c6e880c5011067a5d4"), looks := true }, kinds := [], alts := [], laidByText := true, laidKinds := [.handle, .sentinel, .sentinel, .sentinel, .sentinel, .sentinel], laidTests := true, laidLooks := .later }
def VaultPlaysUptoCardSaid : Prop := Claim7.holds Tryz.pinned (.plain (OpenSpec.upto vaultPlaysSpec)) vaultPlaysUptoCard
end Rows
end Go.Proofs.YtehabbnohoomjaaGreatDoor
