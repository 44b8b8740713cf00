/- Messages of SDO transfers, plain: what is laid down is read as it was, by the side that takes it. No program in sight. -/
import Derived.Test.YtcncbmlacphclaaSdG
namespace Go.Proofs.Ytcncbmlacphclaa
set_option linter.unusedVariables false
set_option linter.unusedSimpArgs false
set_option linter.unnecessarySimpa false
open Go.RowKit
set_option maxRecDepth 20000
set_option maxHeartbeats 2000000

theorem b1N (x : Nat) (h : x ≤ 255) : (UInt8.ofNat x).toNat = x := by simp [UInt8.toNat_ofNat']; omega
theorem b2N (x : Nat) (h : x ≤ 65535) : leN [UInt8.ofNat x, UInt8.ofNat (x / 256)] = x := by simp only [leN, UInt8.toNat_ofNat']; omega
theorem b4N (x : Nat) (h : x ≤ 4294967295) : leN [UInt8.ofNat x, UInt8.ofNat (x / 256), UInt8.ofNat (x / 256 / 256), UInt8.ofNat (x / 256 / 256 / 256)] = x := by simp only [leN, UInt8.toNat_ofNat']; omega
theorem laid_len (M : Ms) (h : canB M = true) : (laidB M).length = 8 := by
  simp only [canB, rangeB, Bool.and_eq_true, decide_eq_true_iff] at h
  have h7 : M.data.length ≤ 7 := h.1.1.2.2
  have hsh := h.1.2
  unfold laidB
  rw [List.length_set]
  have hp := plc_len M
  by_cases h2 : formI M.kind = 2
  · rw [h2] at hsh ⊢
    simp only [shapeB, if_true, Bool.or_eq_true, Bool.and_eq_true, decide_eq_true_iff] at hsh
    unfold bodL
    rw [if_neg (by decide), if_pos rfl]
    split
    · rw [putL_len, hp]
    · rw [cp_len _ _ _ (by rw [putL_len, hp]; omega), putL_len, hp]
  · generalize formI M.kind = f at *
    unfold bodL
    rw [if_neg (c := f = 2) h2]
    (repeat' split) <;> first
      | (rw [cp_len _ _ _ (by rw [hp]; omega), hp])
      | simp [putL_len, hp]
theorem only_kind (f : Int) (M : Ms) : (onlyM f M).kind = M.kind := rfl
theorem can_parts (M : Ms) (h : canB M = true) : onlyM (formI M.kind) M = M := by
  simp only [canB, sameB, Bool.and_eq_true, decide_eq_true_iff] at h
  exact h.2.symm
theorem can_range (M : Ms) (h : canB M = true) : rangeB M = true ∧ shapeB (formI M.kind) M = true ∧ formI M.kind ≠ 0 := by
  simp only [canB, Bool.and_eq_true, decide_eq_true_iff] at h
  exact ⟨h.1.1.2, h.1.2, h.1.1.1⟩
end Go.Proofs.Ytcncbmlacphclaa
