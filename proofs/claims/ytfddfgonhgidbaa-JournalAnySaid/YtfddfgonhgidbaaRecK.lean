/- Records: the law's own known(). -/
import Derived.Test.YtfddfgonhgidbaaRecL
namespace Go.Proofs.Ytfddfgonhgidbaa
set_option linter.unusedVariables false
set_option linter.unusedSimpArgs false
set_option linter.unnecessarySimpa false
open Go.RowKit
set_option maxRecDepth 20000
set_option maxHeartbeats 1000000
attribute [local go_sem ↓] Go.wp_at_zero Go.wp_at_succ

theorem kR21 : rightR 2 1 0 = 0 := by decide
theorem kR20 : rightR 2 0 0 = 1 := by decide
theorem kPar : recParse (recB 2 1 []) 0 = ⟨2, 1, [], 13, 0⟩ ∧ (recB 2 1 []).length = 13 := by
  have h := build_parse_rec [] [] [] 2 1 kR21 (by unfold U32; omega)
  simpa using h
end Go.Proofs.Ytfddfgonhgidbaa
