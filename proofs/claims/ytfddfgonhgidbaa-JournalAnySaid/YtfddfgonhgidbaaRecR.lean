/- The walk of RecordBuilds. -/
import Derived.Test.YtfddfgonhgidbaaRecQ
namespace Go.Proofs.Ytfddfgonhgidbaa
set_option linter.unusedVariables false
set_option linter.unusedSimpArgs false
set_option linter.unnecessarySimpa false
open Go.RowKit
set_option maxRecDepth 20000
set_option maxHeartbeats 1000000
attribute [local go_sem ↓] Go.wp_at_zero Go.wp_at_succ

theorem kR3 (n : Nat) (h : 3000 < n) : rightR 1 1 n = 3 := by
  unfold rightR
  rw [if_neg (by decide), if_neg (by omega), if_neg (by decide), if_pos (by omega)]
theorem recB_len (k : Int) (m : Nat) (l : List UInt8) (h : l.length ≤ 3000) : (recB k m l).length ≤ 4000 := by
  unfold recB
  split
  · rw [List.length_append, sealL_length, List.length_append, recH_length]; simp; omega
  · simp
end Go.Proofs.Ytfddfgonhgidbaa
