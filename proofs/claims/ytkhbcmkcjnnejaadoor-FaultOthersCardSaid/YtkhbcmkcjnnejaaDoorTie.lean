/-
  DERIVED. GIVEN WITH THE SEED: THE PROGRAM's TIES (one call each: nine closed facts by the kernel) AND EACH ROW's TIE, after the 31st guide's Derived/Test/Toyas{Tie, Card}.lean. No idea stands in it: it is a product of the set-up. Laid BY PROGRAM, IN A SANDBOX (cutbox-door.mjs). By AI agents, Wed Nov 11 2026. No macro, syntax, notation, axiom, sorry.
-/
import Derived.Test.YtkhbcmkcjnnejaaDoorRows
import Derived.LaidByTextLater
import Derived.SevenTiedAt
import Derived.LaidSub
import Derived.LaidOnce
namespace Go.Proofs.YtkhbcmkcjnnejaaDoor
open Go
set_option maxRecDepth 100000
theorem seatTie1 : Tryd.prog.laidByTextLater [("errors.errorType", Rows.laid_errors_errorType), ("wheelhouse/fault.errProtocol", Rows.laid_wheelhouse_fault_errProtocol), ("wheelhouse/fault.errAccess", Rows.laid_wheelhouse_fault_errAccess), ("wheelhouse/fault.errSize", Rows.laid_wheelhouse_fault_errSize), ("wheelhouse/fault.errValue", Rows.laid_wheelhouse_fault_errValue), ("wheelhouse/fault.errDevice", Rows.laid_wheelhouse_fault_errDevice)] [.handle, .sentinel, .sentinel, .sentinel, .sentinel, .sentinel] true :=
  Program.laidByTextLater_by_one 111 8 2 (by kernel_rfl) (by kernel_rfl) (by kernel_rfl) (by kernel_rfl) (by kernel_rfl) (by kernel_rfl) (fun _ _ => by kernel_rfl)
theorem noOwnUnsafe : Tryd.pinned.checked.prog.headLifts.contains "ownunsafe" = false := by kernel_rfl
theorem tie : Tryd.prog.laidByTextLater [("errors.errorType", Rows.laid_errors_errorType), ("wheelhouse/fault.errProtocol", Rows.laid_wheelhouse_fault_errProtocol), ("wheelhouse/fault.errAccess", Rows.laid_wheelhouse_fault_errAccess), ("wheelhouse/fault.errSize", Rows.laid_wheelhouse_fault_errSize), ("wheelhouse/fault.errValue", Rows.laid_wheelhouse_fault_errValue), ("wheelhouse/fault.errDevice", Rows.laid_wheelhouse_fault_errDevice)] [.handle, .sentinel, .sentinel, .sentinel, .sentinel, .sentinel] true :=
  Program.laidByTextLater.sub seatTie1 ["errors.errorType", "wheelhouse/fault.errProtocol", "wheelhouse/fault.errAccess", "wheelhouse/fault.errSize", "wheelhouse/fault.errValue", "wheelhouse/fault.errDevice"] (by kernel_rfl) (by kernel_rfl)
theorem faultChains_row_tie : Rows.faultChainsRow.laidByTextAt .later Tryd.pinned [.handle, .sentinel, .sentinel, .sentinel, .sentinel, .sentinel] true :=
  OpenClaim.laidByTextAt_later rfl rfl tie noOwnUnsafe
theorem faultSays_row_tie : Rows.faultSaysRow.laidByTextAt .later Tryd.pinned [.handle, .sentinel, .sentinel, .sentinel, .sentinel, .sentinel] true :=
  OpenClaim.laidByTextAt_later rfl rfl tie noOwnUnsafe
theorem faultCodes_row_tie : Rows.faultCodesRow.laidByTextAt .later Tryd.pinned [.handle, .sentinel, .sentinel, .sentinel, .sentinel, .sentinel] true :=
  OpenClaim.laidByTextAt_later rfl rfl tie noOwnUnsafe
theorem faultNone_row_tie : Rows.faultNoneRow.laidByTextAt .later Tryd.pinned [.handle, .sentinel, .sentinel, .sentinel, .sentinel, .sentinel] true :=
  OpenClaim.laidByTextAt_later rfl rfl tie noOwnUnsafe
theorem faultOthers_row_tie : Rows.faultOthersRow.laidByTextAt .later Tryd.pinned [.handle, .sentinel, .sentinel, .sentinel, .sentinel, .sentinel] true :=
  OpenClaim.laidByTextAt_later rfl rfl tie noOwnUnsafe
theorem faultChainsUpto_row_tie : Rows.faultChainsUptoRow.laidByTextAt .later Tryd.pinned [.handle, .sentinel, .sentinel, .sentinel, .sentinel, .sentinel] true :=
  OpenClaim.laidByTextAt_later rfl rfl tie noOwnUnsafe
theorem faultSaysUpto_row_tie : Rows.faultSaysUptoRow.laidByTextAt .later Tryd.pinned [.handle, .sentinel, .sentinel, .sentinel, .sentinel, .sentinel] true :=
  OpenClaim.laidByTextAt_later rfl rfl tie noOwnUnsafe
theorem faultCodesUpto_row_tie : Rows.faultCodesUptoRow.laidByTextAt .later Tryd.pinned [.handle, .sentinel, .sentinel, .sentinel, .sentinel, .sentinel] true :=
  OpenClaim.laidByTextAt_later rfl rfl tie noOwnUnsafe
theorem faultNoneUpto_row_tie : Rows.faultNoneUptoRow.laidByTextAt .later Tryd.pinned [.handle, .sentinel, .sentinel, .sentinel, .sentinel, .sentinel] true :=
  OpenClaim.laidByTextAt_later rfl rfl tie noOwnUnsafe
theorem faultOthersUpto_row_tie : Rows.faultOthersUptoRow.laidByTextAt .later Tryd.pinned [.handle, .sentinel, .sentinel, .sentinel, .sentinel, .sentinel] true :=
  OpenClaim.laidByTextAt_later rfl rfl tie noOwnUnsafe
end Go.Proofs.YtkhbcmkcjnnejaaDoor
