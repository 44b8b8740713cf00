/- The walk of RecordBack. -/
import Derived.Test.YtfddfgonhgidbaaRecR
namespace Go.Proofs.Ytfddfgonhgidbaa
set_option linter.unusedVariables false
set_option linter.unusedSimpArgs false
set_option linter.unnecessarySimpa false
open Go.RowKit
set_option maxRecDepth 20000
set_option maxHeartbeats 1000000
attribute [local go_sem ↓] Go.wp_at_zero Go.wp_at_succ

theorem set_last (a c l : List UInt8) (k : Int) (m : Nat) (j : Nat) (z : UInt8) (h : rightR k m l.length = 0) (hj : j = a.length + l.length + 12) :
    (a ++ recB k m l ++ c).set j z = a ++ (sealL (recH k.toNat m l.length ++ l) ++ z :: c) := by
  obtain ⟨k1, k2, k3, k4, k5⟩ := right_ok k m l.length h
  obtain ⟨k, rfl⟩ := Int.eq_ofNat_of_zero_le (show 0 ≤ k by omega)
  have hs : (sealL (recH k m l.length ++ l)).length = l.length + 12 := by rw [sealL_length, List.length_append, recH_length]; omega
  rw [recB_yes k m l.length l rfl h, Int.toNat_natCast, List.append_assoc, List.append_assoc, List.set_append_right _ _ (by omega), List.set_append_right _ _ (by omega)]
  rw [show j - a.length - (sealL (recH k m l.length ++ l)).length = 0 by omega]
  rfl
theorem set_bv (l : List UInt8) (j : Nat) (z : UInt8) : (l.map bv).set j (.int .u8 z.toNat) = (l.set j z).map bv := by
  rw [List.map_set]; rfl

end Go.Proofs.Ytfddfgonhgidbaa
