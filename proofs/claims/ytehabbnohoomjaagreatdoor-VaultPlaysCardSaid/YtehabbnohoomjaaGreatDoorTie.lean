/-
  DERIVED. GIVEN WITH THE SEED: THE PROGRAM's TIES (one call each: nine closed facts by the kernel) AND EACH ROW's TIE, after the 31st guide's Derived/Test/Toyas{Tie, Card}.lean. No idea stands in it: it is a product of the set-up. Laid BY PROGRAM, IN A SANDBOX (cutbox-door.mjs). By AI agents, Wed Nov 11 2026. No macro, syntax, notation, axiom, sorry.
-/
import Derived.Test.YtehabbnohoomjaaGreatDoorRows
import Derived.LaidByTextLater
import Derived.SevenTiedAt
import Derived.LaidSub
import Derived.LaidOnce
namespace Go.Proofs.YtehabbnohoomjaaGreatDoor
open Go
set_option maxRecDepth 100000
theorem seatTie1 : Tryz.prog.laidByTextLater [("errors.errorType", Rows.laid_errors_errorType), ("wheelhouse/fault.errProtocol", Rows.laid_wheelhouse_fault_errProtocol), ("wheelhouse/fault.errAccess", Rows.laid_wheelhouse_fault_errAccess), ("wheelhouse/fault.errSize", Rows.laid_wheelhouse_fault_errSize), ("wheelhouse/fault.errValue", Rows.laid_wheelhouse_fault_errValue), ("wheelhouse/fault.errDevice", Rows.laid_wheelhouse_fault_errDevice)] [.handle, .sentinel, .sentinel, .sentinel, .sentinel, .sentinel] true :=
  Program.laidByTextLater_by_one 111 8 2 (by kernel_rfl) (by kernel_rfl) (by kernel_rfl) (by kernel_rfl) (by kernel_rfl) (by kernel_rfl) (fun _ _ => by kernel_rfl)
theorem noOwnUnsafe : Tryz.pinned.checked.prog.headLifts.contains "ownunsafe" = false := by kernel_rfl
theorem tie : Tryz.prog.laidByTextLater [("errors.errorType", Rows.laid_errors_errorType), ("wheelhouse/fault.errProtocol", Rows.laid_wheelhouse_fault_errProtocol), ("wheelhouse/fault.errAccess", Rows.laid_wheelhouse_fault_errAccess), ("wheelhouse/fault.errSize", Rows.laid_wheelhouse_fault_errSize), ("wheelhouse/fault.errValue", Rows.laid_wheelhouse_fault_errValue), ("wheelhouse/fault.errDevice", Rows.laid_wheelhouse_fault_errDevice)] [.handle, .sentinel, .sentinel, .sentinel, .sentinel, .sentinel] true :=
  Program.laidByTextLater.sub seatTie1 ["errors.errorType", "wheelhouse/fault.errProtocol", "wheelhouse/fault.errAccess", "wheelhouse/fault.errSize", "wheelhouse/fault.errValue", "wheelhouse/fault.errDevice"] (by kernel_rfl) (by kernel_rfl)
theorem vaultLoads_row_tie : Rows.vaultLoadsRow.laidByTextAt .later Tryz.pinned [.handle, .sentinel, .sentinel, .sentinel, .sentinel, .sentinel] true :=
  OpenClaim.laidByTextAt_later rfl rfl tie noOwnUnsafe
theorem vaultNil_row_tie : Rows.vaultNilRow.laidByTextAt .later Tryz.pinned [.handle, .sentinel, .sentinel, .sentinel, .sentinel, .sentinel] true :=
  OpenClaim.laidByTextAt_later rfl rfl tie noOwnUnsafe
theorem vaultCrashes_row_tie : Rows.vaultCrashesRow.laidByTextAt .later Tryz.pinned [.handle, .sentinel, .sentinel, .sentinel, .sentinel, .sentinel] true :=
  OpenClaim.laidByTextAt_later rfl rfl tie noOwnUnsafe
theorem vaultPlays_row_tie : Rows.vaultPlaysRow.laidByTextAt .later Tryz.pinned [.handle, .sentinel, .sentinel, .sentinel, .sentinel, .sentinel] true :=
  OpenClaim.laidByTextAt_later rfl rfl tie noOwnUnsafe
theorem vaultLoadsUpto_row_tie : Rows.vaultLoadsUptoRow.laidByTextAt .later Tryz.pinned [.handle, .sentinel, .sentinel, .sentinel, .sentinel, .sentinel] true :=
  OpenClaim.laidByTextAt_later rfl rfl tie noOwnUnsafe
theorem vaultNilUpto_row_tie : Rows.vaultNilUptoRow.laidByTextAt .later Tryz.pinned [.handle, .sentinel, .sentinel, .sentinel, .sentinel, .sentinel] true :=
  OpenClaim.laidByTextAt_later rfl rfl tie noOwnUnsafe
theorem vaultCrashesUpto_row_tie : Rows.vaultCrashesUptoRow.laidByTextAt .later Tryz.pinned [.handle, .sentinel, .sentinel, .sentinel, .sentinel, .sentinel] true :=
  OpenClaim.laidByTextAt_later rfl rfl tie noOwnUnsafe
theorem vaultPlaysUpto_row_tie : Rows.vaultPlaysUptoRow.laidByTextAt .later Tryz.pinned [.handle, .sentinel, .sentinel, .sentinel, .sentinel, .sentinel] true :=
  OpenClaim.laidByTextAt_later rfl rfl tie noOwnUnsafe
end Go.Proofs.YtehabbnohoomjaaGreatDoor
