/- Messages of SDO transfers, plain: a message that was laid down is guessed as it was; its first byte (printed by wip/tools/gen_back.py). No program in sight. -/
import Derived.Test.YtcncbmlacphclaaSdK
namespace Go.Proofs.Ytcncbmlacphclaa
set_option linter.unusedVariables false
set_option linter.unusedSimpArgs false
set_option linter.unnecessarySimpa false
open Go.RowKit
set_option maxRecDepth 20000
set_option maxHeartbeats 2000000

def headB (k : Int) (c : Nat) : Bool :=
  if k = 1 then decide (c = 128) else if k = 2 then decide (32 ≤ c) && decide (c < 48) else if k = 3 ∨ k = 15 then decide (c < 32) else if k = 4 then decide (c = 64) else if k = 5 then decide (c = 96) || decide (c = 112)
  else if k = 6 ∨ k = 19 then decide (c = 192) || decide (c = 194) || decide (c = 196) || decide (c = 198) else if k = 7 ∨ k = 20 then decide (193 ≤ c) && decide (c ≤ 221) && decide (c % 4 = 1)
  else if k = 8 ∨ k = 16 then decide (c = 160) || decide (c = 164) else if k = 9 then decide (c = 163) else if k = 10 ∨ k = 17 then decide (c = 162) else if k = 11 ∨ k = 18 then decide (c = 161) else if k = 12 then decide (c = 96)
  else if k = 13 then decide (c = 32) || decide (c = 48) else if k = 14 then decide (64 ≤ c) && decide (c < 80) else true
def GL (M : Ms) : Prop := guessM M.kind (laidB M) = M ∧ headB M.kind (byt (laidB M) 0) = true
theorem sq_or : ∀ n : Nat, n ≤ 127 → (UInt8.ofNat (n ||| 128)).toNat % 128 = n ∧ 128 ≤ (UInt8.ofNat (n ||| 128)).toNat ∧ (UInt8.ofNat n).toNat % 128 = n ∧ ¬ 128 ≤ (UInt8.ofNat n).toNat := by decide +kernel

theorem gl1 (ix sub code : Nat) (h_ix : ix ≤ 65535) (h_sub : sub ≤ 255) (h_code : code ≤ 4294967295) : GL ⟨1, ix, sub, false, false, false, false, 0, code, [], 0, 0, 0, 0⟩ := by
  have e : guessM 1 (laidB ⟨1, ix, sub, false, false, false, false, 0, code, [], 0, 0, 0, 0⟩) = ⟨1, (leN [UInt8.ofNat ix, UInt8.ofNat (ix / 256)] : Nat), ((UInt8.ofNat sub).toNat : Nat), false, false, false, false, 0, leN [UInt8.ofNat code, UInt8.ofNat (code / 256), UInt8.ofNat (code / 256 / 256), UInt8.ofNat (code / 256 / 256 / 256)], [], 0, 0, 0, 0⟩ := by kernel_rfl
  have e2 : headB 1 (byt (laidB ⟨1, ix, sub, false, false, false, false, 0, code, [], 0, 0, 0, 0⟩) 0) = true := by kernel_rfl
  exact ⟨by show guessM 1 (laidB ⟨1, ix, sub, false, false, false, false, 0, code, [], 0, 0, 0, 0⟩) = ⟨1, ix, sub, false, false, false, false, 0, code, [], 0, 0, 0, 0⟩; rw [e, b2N _ h_ix, b1N sub (by omega), b4N _ h_code], e2⟩
theorem gl2a (ix sub size : Nat) (h1 : ix ≤ 65535) (h2 : sub ≤ 255) (h3 : size ≤ 4294967295) : GL ⟨2, ix, sub, false, false, false, true, size, 0, [], 0, 0, 0, 0⟩ := by
  have e : guessM 2 (laidB ⟨2, ix, sub, false, false, false, true, size, 0, [], 0, 0, 0, 0⟩) = ⟨2, (leN [UInt8.ofNat ix, UInt8.ofNat (ix / 256)] : Nat), ((UInt8.ofNat sub).toNat : Nat), false, false, false, true, leN [UInt8.ofNat size, UInt8.ofNat (size / 256), UInt8.ofNat (size / 256 / 256), UInt8.ofNat (size / 256 / 256 / 256)], 0, [], 0, 0, 0, 0⟩ := by kernel_rfl
  have e2 : headB 2 (byt (laidB ⟨2, ix, sub, false, false, false, true, size, 0, [], 0, 0, 0, 0⟩) 0) = true := by kernel_rfl
  exact ⟨by show guessM 2 (laidB ⟨2, ix, sub, false, false, false, true, size, 0, [], 0, 0, 0, 0⟩) = ⟨2, ix, sub, false, false, false, true, size, 0, [], 0, 0, 0, 0⟩; rw [e, b2N _ h1, b1N _ h2, b4N _ h3], e2⟩
theorem gl2b (ix sub : Nat) (h1 : ix ≤ 65535) (h2 : sub ≤ 255) : GL ⟨2, ix, sub, false, false, false, false, 0, 0, [], 0, 0, 0, 0⟩ := by
  have e : guessM 2 (laidB ⟨2, ix, sub, false, false, false, false, 0, 0, [], 0, 0, 0, 0⟩) = ⟨2, (leN [UInt8.ofNat ix, UInt8.ofNat (ix / 256)] : Nat), ((UInt8.ofNat sub).toNat : Nat), false, false, false, false, 0, 0, [], 0, 0, 0, 0⟩ := by kernel_rfl
  have e2 : headB 2 (byt (laidB ⟨2, ix, sub, false, false, false, false, 0, 0, [], 0, 0, 0, 0⟩) 0) = true := by kernel_rfl
  exact ⟨by show guessM 2 (laidB ⟨2, ix, sub, false, false, false, false, 0, 0, [], 0, 0, 0, 0⟩) = ⟨2, ix, sub, false, false, false, false, 0, 0, [], 0, 0, 0, 0⟩; rw [e, b2N _ h1, b1N _ h2], e2⟩
theorem gl2c1 (ix sub : Nat) (h1 : ix ≤ 65535) (h2 : sub ≤ 255) (d0 : UInt8) : GL ⟨2, ix, sub, false, false, false, true, 0, 0, [d0], 0, 0, 0, 0⟩ := by
  have e : guessM 2 (laidB ⟨2, ix, sub, false, false, false, true, 0, 0, [d0], 0, 0, 0, 0⟩) = ⟨2, (leN [UInt8.ofNat ix, UInt8.ofNat (ix / 256)] : Nat), ((UInt8.ofNat sub).toNat : Nat), false, false, false, true, 0, 0, [d0], 0, 0, 0, 0⟩ := by kernel_rfl
  have e2 : headB 2 (byt (laidB ⟨2, ix, sub, false, false, false, true, 0, 0, [d0], 0, 0, 0, 0⟩) 0) = true := by kernel_rfl
  exact ⟨by show guessM 2 (laidB ⟨2, ix, sub, false, false, false, true, 0, 0, [d0], 0, 0, 0, 0⟩) = ⟨2, ix, sub, false, false, false, true, 0, 0, [d0], 0, 0, 0, 0⟩; rw [e, b2N _ h1, b1N _ h2], e2⟩
theorem gl2c2 (ix sub : Nat) (h1 : ix ≤ 65535) (h2 : sub ≤ 255) (d0 d1 : UInt8) : GL ⟨2, ix, sub, false, false, false, true, 0, 0, [d0, d1], 0, 0, 0, 0⟩ := by
  have e : guessM 2 (laidB ⟨2, ix, sub, false, false, false, true, 0, 0, [d0, d1], 0, 0, 0, 0⟩) = ⟨2, (leN [UInt8.ofNat ix, UInt8.ofNat (ix / 256)] : Nat), ((UInt8.ofNat sub).toNat : Nat), false, false, false, true, 0, 0, [d0, d1], 0, 0, 0, 0⟩ := by kernel_rfl
  have e2 : headB 2 (byt (laidB ⟨2, ix, sub, false, false, false, true, 0, 0, [d0, d1], 0, 0, 0, 0⟩) 0) = true := by kernel_rfl
  exact ⟨by show guessM 2 (laidB ⟨2, ix, sub, false, false, false, true, 0, 0, [d0, d1], 0, 0, 0, 0⟩) = ⟨2, ix, sub, false, false, false, true, 0, 0, [d0, d1], 0, 0, 0, 0⟩; rw [e, b2N _ h1, b1N _ h2], e2⟩
theorem gl2c3 (ix sub : Nat) (h1 : ix ≤ 65535) (h2 : sub ≤ 255) (d0 d1 d2 : UInt8) : GL ⟨2, ix, sub, false, false, false, true, 0, 0, [d0, d1, d2], 0, 0, 0, 0⟩ := by
  have e : guessM 2 (laidB ⟨2, ix, sub, false, false, false, true, 0, 0, [d0, d1, d2], 0, 0, 0, 0⟩) = ⟨2, (leN [UInt8.ofNat ix, UInt8.ofNat (ix / 256)] : Nat), ((UInt8.ofNat sub).toNat : Nat), false, false, false, true, 0, 0, [d0, d1, d2], 0, 0, 0, 0⟩ := by kernel_rfl
  have e2 : headB 2 (byt (laidB ⟨2, ix, sub, false, false, false, true, 0, 0, [d0, d1, d2], 0, 0, 0, 0⟩) 0) = true := by kernel_rfl
  exact ⟨by show guessM 2 (laidB ⟨2, ix, sub, false, false, false, true, 0, 0, [d0, d1, d2], 0, 0, 0, 0⟩) = ⟨2, ix, sub, false, false, false, true, 0, 0, [d0, d1, d2], 0, 0, 0, 0⟩; rw [e, b2N _ h1, b1N _ h2], e2⟩
theorem gl2c4 (ix sub : Nat) (h1 : ix ≤ 65535) (h2 : sub ≤ 255) (d0 d1 d2 d3 : UInt8) : GL ⟨2, ix, sub, false, false, false, true, 0, 0, [d0, d1, d2, d3], 0, 0, 0, 0⟩ := by
  have e : guessM 2 (laidB ⟨2, ix, sub, false, false, false, true, 0, 0, [d0, d1, d2, d3], 0, 0, 0, 0⟩) = ⟨2, (leN [UInt8.ofNat ix, UInt8.ofNat (ix / 256)] : Nat), ((UInt8.ofNat sub).toNat : Nat), false, false, false, true, 0, 0, [d0, d1, d2, d3], 0, 0, 0, 0⟩ := by kernel_rfl
  have e2 : headB 2 (byt (laidB ⟨2, ix, sub, false, false, false, true, 0, 0, [d0, d1, d2, d3], 0, 0, 0, 0⟩) 0) = true := by kernel_rfl
  exact ⟨by show guessM 2 (laidB ⟨2, ix, sub, false, false, false, true, 0, 0, [d0, d1, d2, d3], 0, 0, 0, 0⟩) = ⟨2, ix, sub, false, false, false, true, 0, 0, [d0, d1, d2, d3], 0, 0, 0, 0⟩; rw [e, b2N _ h1, b1N _ h2], e2⟩
theorem gl2d4 (ix sub : Nat) (h1 : ix ≤ 65535) (h2 : sub ≤ 255) (d0 d1 d2 d3 : UInt8) : GL ⟨2, ix, sub, false, false, false, false, 0, 0, [d0, d1, d2, d3], 0, 0, 0, 0⟩ := by
  have e : guessM 2 (laidB ⟨2, ix, sub, false, false, false, false, 0, 0, [d0, d1, d2, d3], 0, 0, 0, 0⟩) = ⟨2, (leN [UInt8.ofNat ix, UInt8.ofNat (ix / 256)] : Nat), ((UInt8.ofNat sub).toNat : Nat), false, false, false, false, 0, 0, [d0, d1, d2, d3], 0, 0, 0, 0⟩ := by kernel_rfl
  have e2 : headB 2 (byt (laidB ⟨2, ix, sub, false, false, false, false, 0, 0, [d0, d1, d2, d3], 0, 0, 0, 0⟩) 0) = true := by kernel_rfl
  exact ⟨by show guessM 2 (laidB ⟨2, ix, sub, false, false, false, false, 0, 0, [d0, d1, d2, d3], 0, 0, 0, 0⟩) = ⟨2, ix, sub, false, false, false, false, 0, 0, [d0, d1, d2, d3], 0, 0, 0, 0⟩; rw [e, b2N _ h1, b1N _ h2], e2⟩
theorem gl3n0 (tg la : Bool) : GL ⟨3, 0, 0, tg, la, false, false, 0, 0, [], 0, 0, 0, 0⟩ := by
  cases tg <;> cases la <;> exact ⟨by kernel_rfl, by kernel_rfl⟩
theorem gl3n1 (tg la : Bool) (d0 : UInt8) : GL ⟨3, 0, 0, tg, la, false, false, 0, 0, [d0], 0, 0, 0, 0⟩ := by
  cases tg <;> cases la <;> exact ⟨by kernel_rfl, by kernel_rfl⟩
theorem gl3n2 (tg la : Bool) (d0 d1 : UInt8) : GL ⟨3, 0, 0, tg, la, false, false, 0, 0, [d0, d1], 0, 0, 0, 0⟩ := by
  cases tg <;> cases la <;> exact ⟨by kernel_rfl, by kernel_rfl⟩
theorem gl3n3 (tg la : Bool) (d0 d1 d2 : UInt8) : GL ⟨3, 0, 0, tg, la, false, false, 0, 0, [d0, d1, d2], 0, 0, 0, 0⟩ := by
  cases tg <;> cases la <;> exact ⟨by kernel_rfl, by kernel_rfl⟩
theorem gl3n4 (tg la : Bool) (d0 d1 d2 d3 : UInt8) : GL ⟨3, 0, 0, tg, la, false, false, 0, 0, [d0, d1, d2, d3], 0, 0, 0, 0⟩ := by
  cases tg <;> cases la <;> exact ⟨by kernel_rfl, by kernel_rfl⟩
theorem gl3n5 (tg la : Bool) (d0 d1 d2 d3 d4 : UInt8) : GL ⟨3, 0, 0, tg, la, false, false, 0, 0, [d0, d1, d2, d3, d4], 0, 0, 0, 0⟩ := by
  cases tg <;> cases la <;> exact ⟨by kernel_rfl, by kernel_rfl⟩
theorem gl3n6 (tg la : Bool) (d0 d1 d2 d3 d4 d5 : UInt8) : GL ⟨3, 0, 0, tg, la, false, false, 0, 0, [d0, d1, d2, d3, d4, d5], 0, 0, 0, 0⟩ := by
  cases tg <;> cases la <;> exact ⟨by kernel_rfl, by kernel_rfl⟩
theorem gl3n7 (tg la : Bool) (d0 d1 d2 d3 d4 d5 d6 : UInt8) : GL ⟨3, 0, 0, tg, la, false, false, 0, 0, [d0, d1, d2, d3, d4, d5, d6], 0, 0, 0, 0⟩ := by
  cases tg <;> cases la <;> exact ⟨by kernel_rfl, by kernel_rfl⟩
theorem gl4 (ix sub : Nat) (h_ix : ix ≤ 65535) (h_sub : sub ≤ 255) : GL ⟨4, ix, sub, false, false, false, false, 0, 0, [], 0, 0, 0, 0⟩ := by
  have e : guessM 4 (laidB ⟨4, ix, sub, false, false, false, false, 0, 0, [], 0, 0, 0, 0⟩) = ⟨4, (leN [UInt8.ofNat ix, UInt8.ofNat (ix / 256)] : Nat), ((UInt8.ofNat sub).toNat : Nat), false, false, false, false, 0, 0, [], 0, 0, 0, 0⟩ := by kernel_rfl
  have e2 : headB 4 (byt (laidB ⟨4, ix, sub, false, false, false, false, 0, 0, [], 0, 0, 0, 0⟩) 0) = true := by kernel_rfl
  exact ⟨by show guessM 4 (laidB ⟨4, ix, sub, false, false, false, false, 0, 0, [], 0, 0, 0, 0⟩) = ⟨4, ix, sub, false, false, false, false, 0, 0, [], 0, 0, 0, 0⟩; rw [e, b2N _ h_ix, b1N sub (by omega)], e2⟩
theorem gl5 (tg : Bool) : GL ⟨5, 0, 0, tg, false, false, false, 0, 0, [], 0, 0, 0, 0⟩ := by
  cases tg <;> exact ⟨by kernel_rfl, by kernel_rfl⟩
theorem gl6t (ix sub size : Nat) (cr : Bool) (h1 : ix ≤ 65535) (h2 : sub ≤ 255) (h3 : size ≤ 4294967295) : GL ⟨6, ix, sub, false, false, cr, true, size, 0, [], 0, 0, 0, 0⟩ := by
  cases cr
  · have e : guessM 6 (laidB ⟨6, ix, sub, false, false, false, true, size, 0, [], 0, 0, 0, 0⟩) = ⟨6, (leN [UInt8.ofNat ix, UInt8.ofNat (ix / 256)] : Nat), ((UInt8.ofNat sub).toNat : Nat), false, false, false, true, leN [UInt8.ofNat size, UInt8.ofNat (size / 256), UInt8.ofNat (size / 256 / 256), UInt8.ofNat (size / 256 / 256 / 256)], 0, [], 0, 0, 0, 0⟩ := by kernel_rfl
    have e2 : headB 6 (byt (laidB ⟨6, ix, sub, false, false, false, true, size, 0, [], 0, 0, 0, 0⟩) 0) = true := by kernel_rfl
    exact ⟨by show guessM 6 (laidB ⟨6, ix, sub, false, false, false, true, size, 0, [], 0, 0, 0, 0⟩) = ⟨6, ix, sub, false, false, false, true, size, 0, [], 0, 0, 0, 0⟩; rw [e, b2N _ h1, b1N _ h2, b4N _ h3], e2⟩
  · have e : guessM 6 (laidB ⟨6, ix, sub, false, false, true, true, size, 0, [], 0, 0, 0, 0⟩) = ⟨6, (leN [UInt8.ofNat ix, UInt8.ofNat (ix / 256)] : Nat), ((UInt8.ofNat sub).toNat : Nat), false, false, true, true, leN [UInt8.ofNat size, UInt8.ofNat (size / 256), UInt8.ofNat (size / 256 / 256), UInt8.ofNat (size / 256 / 256 / 256)], 0, [], 0, 0, 0, 0⟩ := by kernel_rfl
    have e2 : headB 6 (byt (laidB ⟨6, ix, sub, false, false, true, true, size, 0, [], 0, 0, 0, 0⟩) 0) = true := by kernel_rfl
    exact ⟨by show guessM 6 (laidB ⟨6, ix, sub, false, false, true, true, size, 0, [], 0, 0, 0, 0⟩) = ⟨6, ix, sub, false, false, true, true, size, 0, [], 0, 0, 0, 0⟩; rw [e, b2N _ h1, b1N _ h2, b4N _ h3], e2⟩
theorem gl6f (ix sub : Nat) (cr : Bool) (h1 : ix ≤ 65535) (h2 : sub ≤ 255) : GL ⟨6, ix, sub, false, false, cr, false, 0, 0, [], 0, 0, 0, 0⟩ := by
  cases cr
  · have e : guessM 6 (laidB ⟨6, ix, sub, false, false, false, false, 0, 0, [], 0, 0, 0, 0⟩) = ⟨6, (leN [UInt8.ofNat ix, UInt8.ofNat (ix / 256)] : Nat), ((UInt8.ofNat sub).toNat : Nat), false, false, false, false, 0, 0, [], 0, 0, 0, 0⟩ := by kernel_rfl
    have e2 : headB 6 (byt (laidB ⟨6, ix, sub, false, false, false, false, 0, 0, [], 0, 0, 0, 0⟩) 0) = true := by kernel_rfl
    exact ⟨by show guessM 6 (laidB ⟨6, ix, sub, false, false, false, false, 0, 0, [], 0, 0, 0, 0⟩) = ⟨6, ix, sub, false, false, false, false, 0, 0, [], 0, 0, 0, 0⟩; rw [e, b2N _ h1, b1N _ h2], e2⟩
  · have e : guessM 6 (laidB ⟨6, ix, sub, false, false, true, false, 0, 0, [], 0, 0, 0, 0⟩) = ⟨6, (leN [UInt8.ofNat ix, UInt8.ofNat (ix / 256)] : Nat), ((UInt8.ofNat sub).toNat : Nat), false, false, true, false, 0, 0, [], 0, 0, 0, 0⟩ := by kernel_rfl
    have e2 : headB 6 (byt (laidB ⟨6, ix, sub, false, false, true, false, 0, 0, [], 0, 0, 0, 0⟩) 0) = true := by kernel_rfl
    exact ⟨by show guessM 6 (laidB ⟨6, ix, sub, false, false, true, false, 0, 0, [], 0, 0, 0, 0⟩) = ⟨6, ix, sub, false, false, true, false, 0, 0, [], 0, 0, 0, 0⟩; rw [e, b2N _ h1, b1N _ h2], e2⟩
theorem gl7e0 (sum : Nat) (h1 : sum ≤ 65535) : GL ⟨7, 0, 0, false, false, false, false, 0, 0, [], 0, 0, 0, sum⟩ := by
  have e : guessM 7 (laidB ⟨7, 0, 0, false, false, false, false, 0, 0, [], 0, 0, 0, sum⟩) = ⟨7, 0, 0, false, false, false, false, 0, 0, [], 0, 0, 0, leN [UInt8.ofNat sum, UInt8.ofNat (sum / 256)]⟩ := by kernel_rfl
  have e2 : headB 7 (byt (laidB ⟨7, 0, 0, false, false, false, false, 0, 0, [], 0, 0, 0, sum⟩) 0) = true := by kernel_rfl
  exact ⟨by show guessM 7 (laidB ⟨7, 0, 0, false, false, false, false, 0, 0, [], 0, 0, 0, sum⟩) = ⟨7, 0, 0, false, false, false, false, 0, 0, [], 0, 0, 0, sum⟩; rw [e, b2N _ h1], e2⟩
theorem gl7e1 (sum : Nat) (h1 : sum ≤ 65535) : GL ⟨7, 0, 0, false, false, false, false, 0, 0, [], 0, 0, 1, sum⟩ := by
  have e : guessM 7 (laidB ⟨7, 0, 0, false, false, false, false, 0, 0, [], 0, 0, 1, sum⟩) = ⟨7, 0, 0, false, false, false, false, 0, 0, [], 0, 0, 1, leN [UInt8.ofNat sum, UInt8.ofNat (sum / 256)]⟩ := by kernel_rfl
  have e2 : headB 7 (byt (laidB ⟨7, 0, 0, false, false, false, false, 0, 0, [], 0, 0, 1, sum⟩) 0) = true := by kernel_rfl
  exact ⟨by show guessM 7 (laidB ⟨7, 0, 0, false, false, false, false, 0, 0, [], 0, 0, 1, sum⟩) = ⟨7, 0, 0, false, false, false, false, 0, 0, [], 0, 0, 1, sum⟩; rw [e, b2N _ h1], e2⟩
theorem gl7e2 (sum : Nat) (h1 : sum ≤ 65535) : GL ⟨7, 0, 0, false, false, false, false, 0, 0, [], 0, 0, 2, sum⟩ := by
  have e : guessM 7 (laidB ⟨7, 0, 0, false, false, false, false, 0, 0, [], 0, 0, 2, sum⟩) = ⟨7, 0, 0, false, false, false, false, 0, 0, [], 0, 0, 2, leN [UInt8.ofNat sum, UInt8.ofNat (sum / 256)]⟩ := by kernel_rfl
  have e2 : headB 7 (byt (laidB ⟨7, 0, 0, false, false, false, false, 0, 0, [], 0, 0, 2, sum⟩) 0) = true := by kernel_rfl
  exact ⟨by show guessM 7 (laidB ⟨7, 0, 0, false, false, false, false, 0, 0, [], 0, 0, 2, sum⟩) = ⟨7, 0, 0, false, false, false, false, 0, 0, [], 0, 0, 2, sum⟩; rw [e, b2N _ h1], e2⟩
theorem gl7e3 (sum : Nat) (h1 : sum ≤ 65535) : GL ⟨7, 0, 0, false, false, false, false, 0, 0, [], 0, 0, 3, sum⟩ := by
  have e : guessM 7 (laidB ⟨7, 0, 0, false, false, false, false, 0, 0, [], 0, 0, 3, sum⟩) = ⟨7, 0, 0, false, false, false, false, 0, 0, [], 0, 0, 3, leN [UInt8.ofNat sum, UInt8.ofNat (sum / 256)]⟩ := by kernel_rfl
  have e2 : headB 7 (byt (laidB ⟨7, 0, 0, false, false, false, false, 0, 0, [], 0, 0, 3, sum⟩) 0) = true := by kernel_rfl
  exact ⟨by show guessM 7 (laidB ⟨7, 0, 0, false, false, false, false, 0, 0, [], 0, 0, 3, sum⟩) = ⟨7, 0, 0, false, false, false, false, 0, 0, [], 0, 0, 3, sum⟩; rw [e, b2N _ h1], e2⟩
theorem gl7e4 (sum : Nat) (h1 : sum ≤ 65535) : GL ⟨7, 0, 0, false, false, false, false, 0, 0, [], 0, 0, 4, sum⟩ := by
  have e : guessM 7 (laidB ⟨7, 0, 0, false, false, false, false, 0, 0, [], 0, 0, 4, sum⟩) = ⟨7, 0, 0, false, false, false, false, 0, 0, [], 0, 0, 4, leN [UInt8.ofNat sum, UInt8.ofNat (sum / 256)]⟩ := by kernel_rfl
  have e2 : headB 7 (byt (laidB ⟨7, 0, 0, false, false, false, false, 0, 0, [], 0, 0, 4, sum⟩) 0) = true := by kernel_rfl
  exact ⟨by show guessM 7 (laidB ⟨7, 0, 0, false, false, false, false, 0, 0, [], 0, 0, 4, sum⟩) = ⟨7, 0, 0, false, false, false, false, 0, 0, [], 0, 0, 4, sum⟩; rw [e, b2N _ h1], e2⟩
theorem gl7e5 (sum : Nat) (h1 : sum ≤ 65535) : GL ⟨7, 0, 0, false, false, false, false, 0, 0, [], 0, 0, 5, sum⟩ := by
  have e : guessM 7 (laidB ⟨7, 0, 0, false, false, false, false, 0, 0, [], 0, 0, 5, sum⟩) = ⟨7, 0, 0, false, false, false, false, 0, 0, [], 0, 0, 5, leN [UInt8.ofNat sum, UInt8.ofNat (sum / 256)]⟩ := by kernel_rfl
  have e2 : headB 7 (byt (laidB ⟨7, 0, 0, false, false, false, false, 0, 0, [], 0, 0, 5, sum⟩) 0) = true := by kernel_rfl
  exact ⟨by show guessM 7 (laidB ⟨7, 0, 0, false, false, false, false, 0, 0, [], 0, 0, 5, sum⟩) = ⟨7, 0, 0, false, false, false, false, 0, 0, [], 0, 0, 5, sum⟩; rw [e, b2N _ h1], e2⟩
theorem gl7e6 (sum : Nat) (h1 : sum ≤ 65535) : GL ⟨7, 0, 0, false, false, false, false, 0, 0, [], 0, 0, 6, sum⟩ := by
  have e : guessM 7 (laidB ⟨7, 0, 0, false, false, false, false, 0, 0, [], 0, 0, 6, sum⟩) = ⟨7, 0, 0, false, false, false, false, 0, 0, [], 0, 0, 6, leN [UInt8.ofNat sum, UInt8.ofNat (sum / 256)]⟩ := by kernel_rfl
  have e2 : headB 7 (byt (laidB ⟨7, 0, 0, false, false, false, false, 0, 0, [], 0, 0, 6, sum⟩) 0) = true := by kernel_rfl
  exact ⟨by show guessM 7 (laidB ⟨7, 0, 0, false, false, false, false, 0, 0, [], 0, 0, 6, sum⟩) = ⟨7, 0, 0, false, false, false, false, 0, 0, [], 0, 0, 6, sum⟩; rw [e, b2N _ h1], e2⟩
theorem gl7e7 (sum : Nat) (h1 : sum ≤ 65535) : GL ⟨7, 0, 0, false, false, false, false, 0, 0, [], 0, 0, 7, sum⟩ := by
  have e : guessM 7 (laidB ⟨7, 0, 0, false, false, false, false, 0, 0, [], 0, 0, 7, sum⟩) = ⟨7, 0, 0, false, false, false, false, 0, 0, [], 0, 0, 7, leN [UInt8.ofNat sum, UInt8.ofNat (sum / 256)]⟩ := by kernel_rfl
  have e2 : headB 7 (byt (laidB ⟨7, 0, 0, false, false, false, false, 0, 0, [], 0, 0, 7, sum⟩) 0) = true := by kernel_rfl
  exact ⟨by show guessM 7 (laidB ⟨7, 0, 0, false, false, false, false, 0, 0, [], 0, 0, 7, sum⟩) = ⟨7, 0, 0, false, false, false, false, 0, 0, [], 0, 0, 7, sum⟩; rw [e, b2N _ h1], e2⟩
theorem gl8 (ix sub bl : Nat) (cr : Bool) (h_ix : ix ≤ 65535) (h_sub : sub ≤ 255) (h_bl : bl ≤ 127) : GL ⟨8, ix, sub, false, false, cr, false, 0, 0, [], 0, bl, 0, 0⟩ := by
  cases cr
  · have e : guessM 8 (laidB ⟨8, ix, sub, false, false, false, false, 0, 0, [], 0, bl, 0, 0⟩) = ⟨8, (leN [UInt8.ofNat ix, UInt8.ofNat (ix / 256)] : Nat), ((UInt8.ofNat sub).toNat : Nat), false, false, false, false, 0, 0, [], 0, ((UInt8.ofNat bl).toNat : Nat), 0, 0⟩ := by kernel_rfl
    have e2 : headB 8 (byt (laidB ⟨8, ix, sub, false, false, false, false, 0, 0, [], 0, bl, 0, 0⟩) 0) = true := by kernel_rfl
    exact ⟨by show guessM 8 (laidB ⟨8, ix, sub, false, false, false, false, 0, 0, [], 0, bl, 0, 0⟩) = ⟨8, ix, sub, false, false, false, false, 0, 0, [], 0, bl, 0, 0⟩; rw [e, b2N _ h_ix, b1N sub (by omega), b1N bl (by omega)], e2⟩
  · have e : guessM 8 (laidB ⟨8, ix, sub, false, false, true, false, 0, 0, [], 0, bl, 0, 0⟩) = ⟨8, (leN [UInt8.ofNat ix, UInt8.ofNat (ix / 256)] : Nat), ((UInt8.ofNat sub).toNat : Nat), false, false, true, false, 0, 0, [], 0, ((UInt8.ofNat bl).toNat : Nat), 0, 0⟩ := by kernel_rfl
    have e2 : headB 8 (byt (laidB ⟨8, ix, sub, false, false, true, false, 0, 0, [], 0, bl, 0, 0⟩) 0) = true := by kernel_rfl
    exact ⟨by show guessM 8 (laidB ⟨8, ix, sub, false, false, true, false, 0, 0, [], 0, bl, 0, 0⟩) = ⟨8, ix, sub, false, false, true, false, 0, 0, [], 0, bl, 0, 0⟩; rw [e, b2N _ h_ix, b1N sub (by omega), b1N bl (by omega)], e2⟩
theorem gl9 : GL ⟨9, 0, 0, false, false, false, false, 0, 0, [], 0, 0, 0, 0⟩ := ⟨by kernel_rfl, by kernel_rfl⟩
theorem gl10 (sq bl : Nat) (h_sq : sq ≤ 127) (h_bl : bl ≤ 127) : GL ⟨10, 0, 0, false, false, false, false, 0, 0, [], sq, bl, 0, 0⟩ := by
  have e : guessM 10 (laidB ⟨10, 0, 0, false, false, false, false, 0, 0, [], sq, bl, 0, 0⟩) = ⟨10, 0, 0, false, false, false, false, 0, 0, [], ((UInt8.ofNat sq).toNat : Nat), ((UInt8.ofNat bl).toNat : Nat), 0, 0⟩ := by kernel_rfl
  have e2 : headB 10 (byt (laidB ⟨10, 0, 0, false, false, false, false, 0, 0, [], sq, bl, 0, 0⟩) 0) = true := by kernel_rfl
  exact ⟨by show guessM 10 (laidB ⟨10, 0, 0, false, false, false, false, 0, 0, [], sq, bl, 0, 0⟩) = ⟨10, 0, 0, false, false, false, false, 0, 0, [], sq, bl, 0, 0⟩; rw [e, b1N sq (by omega), b1N bl (by omega)], e2⟩
theorem gl11 : GL ⟨11, 0, 0, false, false, false, false, 0, 0, [], 0, 0, 0, 0⟩ := ⟨by kernel_rfl, by kernel_rfl⟩
theorem gl12 (ix sub : Nat) (h_ix : ix ≤ 65535) (h_sub : sub ≤ 255) : GL ⟨12, ix, sub, false, false, false, false, 0, 0, [], 0, 0, 0, 0⟩ := by
  have e : guessM 12 (laidB ⟨12, ix, sub, false, false, false, false, 0, 0, [], 0, 0, 0, 0⟩) = ⟨12, (leN [UInt8.ofNat ix, UInt8.ofNat (ix / 256)] : Nat), ((UInt8.ofNat sub).toNat : Nat), false, false, false, false, 0, 0, [], 0, 0, 0, 0⟩ := by kernel_rfl
  have e2 : headB 12 (byt (laidB ⟨12, ix, sub, false, false, false, false, 0, 0, [], 0, 0, 0, 0⟩) 0) = true := by kernel_rfl
  exact ⟨by show guessM 12 (laidB ⟨12, ix, sub, false, false, false, false, 0, 0, [], 0, 0, 0, 0⟩) = ⟨12, ix, sub, false, false, false, false, 0, 0, [], 0, 0, 0, 0⟩; rw [e, b2N _ h_ix, b1N sub (by omega)], e2⟩
theorem gl13 (tg : Bool) : GL ⟨13, 0, 0, tg, false, false, false, 0, 0, [], 0, 0, 0, 0⟩ := by
  cases tg <;> exact ⟨by kernel_rfl, by kernel_rfl⟩
theorem gl14a (ix sub size : Nat) (h1 : ix ≤ 65535) (h2 : sub ≤ 255) (h3 : size ≤ 4294967295) : GL ⟨14, ix, sub, false, false, false, true, size, 0, [], 0, 0, 0, 0⟩ := by
  have e : guessM 14 (laidB ⟨14, ix, sub, false, false, false, true, size, 0, [], 0, 0, 0, 0⟩) = ⟨14, (leN [UInt8.ofNat ix, UInt8.ofNat (ix / 256)] : Nat), ((UInt8.ofNat sub).toNat : Nat), false, false, false, true, leN [UInt8.ofNat size, UInt8.ofNat (size / 256), UInt8.ofNat (size / 256 / 256), UInt8.ofNat (size / 256 / 256 / 256)], 0, [], 0, 0, 0, 0⟩ := by kernel_rfl
  have e2 : headB 14 (byt (laidB ⟨14, ix, sub, false, false, false, true, size, 0, [], 0, 0, 0, 0⟩) 0) = true := by kernel_rfl
  exact ⟨by show guessM 14 (laidB ⟨14, ix, sub, false, false, false, true, size, 0, [], 0, 0, 0, 0⟩) = ⟨14, ix, sub, false, false, false, true, size, 0, [], 0, 0, 0, 0⟩; rw [e, b2N _ h1, b1N _ h2, b4N _ h3], e2⟩
theorem gl14b (ix sub : Nat) (h1 : ix ≤ 65535) (h2 : sub ≤ 255) : GL ⟨14, ix, sub, false, false, false, false, 0, 0, [], 0, 0, 0, 0⟩ := by
  have e : guessM 14 (laidB ⟨14, ix, sub, false, false, false, false, 0, 0, [], 0, 0, 0, 0⟩) = ⟨14, (leN [UInt8.ofNat ix, UInt8.ofNat (ix / 256)] : Nat), ((UInt8.ofNat sub).toNat : Nat), false, false, false, false, 0, 0, [], 0, 0, 0, 0⟩ := by kernel_rfl
  have e2 : headB 14 (byt (laidB ⟨14, ix, sub, false, false, false, false, 0, 0, [], 0, 0, 0, 0⟩) 0) = true := by kernel_rfl
  exact ⟨by show guessM 14 (laidB ⟨14, ix, sub, false, false, false, false, 0, 0, [], 0, 0, 0, 0⟩) = ⟨14, ix, sub, false, false, false, false, 0, 0, [], 0, 0, 0, 0⟩; rw [e, b2N _ h1, b1N _ h2], e2⟩
theorem gl14c1 (ix sub : Nat) (h1 : ix ≤ 65535) (h2 : sub ≤ 255) (d0 : UInt8) : GL ⟨14, ix, sub, false, false, false, true, 0, 0, [d0], 0, 0, 0, 0⟩ := by
  have e : guessM 14 (laidB ⟨14, ix, sub, false, false, false, true, 0, 0, [d0], 0, 0, 0, 0⟩) = ⟨14, (leN [UInt8.ofNat ix, UInt8.ofNat (ix / 256)] : Nat), ((UInt8.ofNat sub).toNat : Nat), false, false, false, true, 0, 0, [d0], 0, 0, 0, 0⟩ := by kernel_rfl
  have e2 : headB 14 (byt (laidB ⟨14, ix, sub, false, false, false, true, 0, 0, [d0], 0, 0, 0, 0⟩) 0) = true := by kernel_rfl
  exact ⟨by show guessM 14 (laidB ⟨14, ix, sub, false, false, false, true, 0, 0, [d0], 0, 0, 0, 0⟩) = ⟨14, ix, sub, false, false, false, true, 0, 0, [d0], 0, 0, 0, 0⟩; rw [e, b2N _ h1, b1N _ h2], e2⟩
theorem gl14c2 (ix sub : Nat) (h1 : ix ≤ 65535) (h2 : sub ≤ 255) (d0 d1 : UInt8) : GL ⟨14, ix, sub, false, false, false, true, 0, 0, [d0, d1], 0, 0, 0, 0⟩ := by
  have e : guessM 14 (laidB ⟨14, ix, sub, false, false, false, true, 0, 0, [d0, d1], 0, 0, 0, 0⟩) = ⟨14, (leN [UInt8.ofNat ix, UInt8.ofNat (ix / 256)] : Nat), ((UInt8.ofNat sub).toNat : Nat), false, false, false, true, 0, 0, [d0, d1], 0, 0, 0, 0⟩ := by kernel_rfl
  have e2 : headB 14 (byt (laidB ⟨14, ix, sub, false, false, false, true, 0, 0, [d0, d1], 0, 0, 0, 0⟩) 0) = true := by kernel_rfl
  exact ⟨by show guessM 14 (laidB ⟨14, ix, sub, false, false, false, true, 0, 0, [d0, d1], 0, 0, 0, 0⟩) = ⟨14, ix, sub, false, false, false, true, 0, 0, [d0, d1], 0, 0, 0, 0⟩; rw [e, b2N _ h1, b1N _ h2], e2⟩
theorem gl14c3 (ix sub : Nat) (h1 : ix ≤ 65535) (h2 : sub ≤ 255) (d0 d1 d2 : UInt8) : GL ⟨14, ix, sub, false, false, false, true, 0, 0, [d0, d1, d2], 0, 0, 0, 0⟩ := by
  have e : guessM 14 (laidB ⟨14, ix, sub, false, false, false, true, 0, 0, [d0, d1, d2], 0, 0, 0, 0⟩) = ⟨14, (leN [UInt8.ofNat ix, UInt8.ofNat (ix / 256)] : Nat), ((UInt8.ofNat sub).toNat : Nat), false, false, false, true, 0, 0, [d0, d1, d2], 0, 0, 0, 0⟩ := by kernel_rfl
  have e2 : headB 14 (byt (laidB ⟨14, ix, sub, false, false, false, true, 0, 0, [d0, d1, d2], 0, 0, 0, 0⟩) 0) = true := by kernel_rfl
  exact ⟨by show guessM 14 (laidB ⟨14, ix, sub, false, false, false, true, 0, 0, [d0, d1, d2], 0, 0, 0, 0⟩) = ⟨14, ix, sub, false, false, false, true, 0, 0, [d0, d1, d2], 0, 0, 0, 0⟩; rw [e, b2N _ h1, b1N _ h2], e2⟩
theorem gl14c4 (ix sub : Nat) (h1 : ix ≤ 65535) (h2 : sub ≤ 255) (d0 d1 d2 d3 : UInt8) : GL ⟨14, ix, sub, false, false, false, true, 0, 0, [d0, d1, d2, d3], 0, 0, 0, 0⟩ := by
  have e : guessM 14 (laidB ⟨14, ix, sub, false, false, false, true, 0, 0, [d0, d1, d2, d3], 0, 0, 0, 0⟩) = ⟨14, (leN [UInt8.ofNat ix, UInt8.ofNat (ix / 256)] : Nat), ((UInt8.ofNat sub).toNat : Nat), false, false, false, true, 0, 0, [d0, d1, d2, d3], 0, 0, 0, 0⟩ := by kernel_rfl
  have e2 : headB 14 (byt (laidB ⟨14, ix, sub, false, false, false, true, 0, 0, [d0, d1, d2, d3], 0, 0, 0, 0⟩) 0) = true := by kernel_rfl
  exact ⟨by show guessM 14 (laidB ⟨14, ix, sub, false, false, false, true, 0, 0, [d0, d1, d2, d3], 0, 0, 0, 0⟩) = ⟨14, ix, sub, false, false, false, true, 0, 0, [d0, d1, d2, d3], 0, 0, 0, 0⟩; rw [e, b2N _ h1, b1N _ h2], e2⟩
theorem gl14d4 (ix sub : Nat) (h1 : ix ≤ 65535) (h2 : sub ≤ 255) (d0 d1 d2 d3 : UInt8) : GL ⟨14, ix, sub, false, false, false, false, 0, 0, [d0, d1, d2, d3], 0, 0, 0, 0⟩ := by
  have e : guessM 14 (laidB ⟨14, ix, sub, false, false, false, false, 0, 0, [d0, d1, d2, d3], 0, 0, 0, 0⟩) = ⟨14, (leN [UInt8.ofNat ix, UInt8.ofNat (ix / 256)] : Nat), ((UInt8.ofNat sub).toNat : Nat), false, false, false, false, 0, 0, [d0, d1, d2, d3], 0, 0, 0, 0⟩ := by kernel_rfl
  have e2 : headB 14 (byt (laidB ⟨14, ix, sub, false, false, false, false, 0, 0, [d0, d1, d2, d3], 0, 0, 0, 0⟩) 0) = true := by kernel_rfl
  exact ⟨by show guessM 14 (laidB ⟨14, ix, sub, false, false, false, false, 0, 0, [d0, d1, d2, d3], 0, 0, 0, 0⟩) = ⟨14, ix, sub, false, false, false, false, 0, 0, [d0, d1, d2, d3], 0, 0, 0, 0⟩; rw [e, b2N _ h1, b1N _ h2], e2⟩
theorem gl15n0 (tg la : Bool) : GL ⟨15, 0, 0, tg, la, false, false, 0, 0, [], 0, 0, 0, 0⟩ := by
  cases tg <;> cases la <;> exact ⟨by kernel_rfl, by kernel_rfl⟩
theorem gl15n1 (tg la : Bool) (d0 : UInt8) : GL ⟨15, 0, 0, tg, la, false, false, 0, 0, [d0], 0, 0, 0, 0⟩ := by
  cases tg <;> cases la <;> exact ⟨by kernel_rfl, by kernel_rfl⟩
theorem gl15n2 (tg la : Bool) (d0 d1 : UInt8) : GL ⟨15, 0, 0, tg, la, false, false, 0, 0, [d0, d1], 0, 0, 0, 0⟩ := by
  cases tg <;> cases la <;> exact ⟨by kernel_rfl, by kernel_rfl⟩
theorem gl15n3 (tg la : Bool) (d0 d1 d2 : UInt8) : GL ⟨15, 0, 0, tg, la, false, false, 0, 0, [d0, d1, d2], 0, 0, 0, 0⟩ := by
  cases tg <;> cases la <;> exact ⟨by kernel_rfl, by kernel_rfl⟩
theorem gl15n4 (tg la : Bool) (d0 d1 d2 d3 : UInt8) : GL ⟨15, 0, 0, tg, la, false, false, 0, 0, [d0, d1, d2, d3], 0, 0, 0, 0⟩ := by
  cases tg <;> cases la <;> exact ⟨by kernel_rfl, by kernel_rfl⟩
theorem gl15n5 (tg la : Bool) (d0 d1 d2 d3 d4 : UInt8) : GL ⟨15, 0, 0, tg, la, false, false, 0, 0, [d0, d1, d2, d3, d4], 0, 0, 0, 0⟩ := by
  cases tg <;> cases la <;> exact ⟨by kernel_rfl, by kernel_rfl⟩
theorem gl15n6 (tg la : Bool) (d0 d1 d2 d3 d4 d5 : UInt8) : GL ⟨15, 0, 0, tg, la, false, false, 0, 0, [d0, d1, d2, d3, d4, d5], 0, 0, 0, 0⟩ := by
  cases tg <;> cases la <;> exact ⟨by kernel_rfl, by kernel_rfl⟩
theorem gl15n7 (tg la : Bool) (d0 d1 d2 d3 d4 d5 d6 : UInt8) : GL ⟨15, 0, 0, tg, la, false, false, 0, 0, [d0, d1, d2, d3, d4, d5, d6], 0, 0, 0, 0⟩ := by
  cases tg <;> cases la <;> exact ⟨by kernel_rfl, by kernel_rfl⟩
theorem gl16 (ix sub bl : Nat) (cr : Bool) (h_ix : ix ≤ 65535) (h_sub : sub ≤ 255) (h_bl : bl ≤ 127) : GL ⟨16, ix, sub, false, false, cr, false, 0, 0, [], 0, bl, 0, 0⟩ := by
  cases cr
  · have e : guessM 16 (laidB ⟨16, ix, sub, false, false, false, false, 0, 0, [], 0, bl, 0, 0⟩) = ⟨16, (leN [UInt8.ofNat ix, UInt8.ofNat (ix / 256)] : Nat), ((UInt8.ofNat sub).toNat : Nat), false, false, false, false, 0, 0, [], 0, ((UInt8.ofNat bl).toNat : Nat), 0, 0⟩ := by kernel_rfl
    have e2 : headB 16 (byt (laidB ⟨16, ix, sub, false, false, false, false, 0, 0, [], 0, bl, 0, 0⟩) 0) = true := by kernel_rfl
    exact ⟨by show guessM 16 (laidB ⟨16, ix, sub, false, false, false, false, 0, 0, [], 0, bl, 0, 0⟩) = ⟨16, ix, sub, false, false, false, false, 0, 0, [], 0, bl, 0, 0⟩; rw [e, b2N _ h_ix, b1N sub (by omega), b1N bl (by omega)], e2⟩
  · have e : guessM 16 (laidB ⟨16, ix, sub, false, false, true, false, 0, 0, [], 0, bl, 0, 0⟩) = ⟨16, (leN [UInt8.ofNat ix, UInt8.ofNat (ix / 256)] : Nat), ((UInt8.ofNat sub).toNat : Nat), false, false, true, false, 0, 0, [], 0, ((UInt8.ofNat bl).toNat : Nat), 0, 0⟩ := by kernel_rfl
    have e2 : headB 16 (byt (laidB ⟨16, ix, sub, false, false, true, false, 0, 0, [], 0, bl, 0, 0⟩) 0) = true := by kernel_rfl
    exact ⟨by show guessM 16 (laidB ⟨16, ix, sub, false, false, true, false, 0, 0, [], 0, bl, 0, 0⟩) = ⟨16, ix, sub, false, false, true, false, 0, 0, [], 0, bl, 0, 0⟩; rw [e, b2N _ h_ix, b1N sub (by omega), b1N bl (by omega)], e2⟩
theorem gl17 (sq bl : Nat) (h_sq : sq ≤ 127) (h_bl : bl ≤ 127) : GL ⟨17, 0, 0, false, false, false, false, 0, 0, [], sq, bl, 0, 0⟩ := by
  have e : guessM 17 (laidB ⟨17, 0, 0, false, false, false, false, 0, 0, [], sq, bl, 0, 0⟩) = ⟨17, 0, 0, false, false, false, false, 0, 0, [], ((UInt8.ofNat sq).toNat : Nat), ((UInt8.ofNat bl).toNat : Nat), 0, 0⟩ := by kernel_rfl
  have e2 : headB 17 (byt (laidB ⟨17, 0, 0, false, false, false, false, 0, 0, [], sq, bl, 0, 0⟩) 0) = true := by kernel_rfl
  exact ⟨by show guessM 17 (laidB ⟨17, 0, 0, false, false, false, false, 0, 0, [], sq, bl, 0, 0⟩) = ⟨17, 0, 0, false, false, false, false, 0, 0, [], sq, bl, 0, 0⟩; rw [e, b1N sq (by omega), b1N bl (by omega)], e2⟩
theorem gl18 : GL ⟨18, 0, 0, false, false, false, false, 0, 0, [], 0, 0, 0, 0⟩ := ⟨by kernel_rfl, by kernel_rfl⟩
theorem gl19t (ix sub size : Nat) (cr : Bool) (h1 : ix ≤ 65535) (h2 : sub ≤ 255) (h3 : size ≤ 4294967295) : GL ⟨19, ix, sub, false, false, cr, true, size, 0, [], 0, 0, 0, 0⟩ := by
  cases cr
  · have e : guessM 19 (laidB ⟨19, ix, sub, false, false, false, true, size, 0, [], 0, 0, 0, 0⟩) = ⟨19, (leN [UInt8.ofNat ix, UInt8.ofNat (ix / 256)] : Nat), ((UInt8.ofNat sub).toNat : Nat), false, false, false, true, leN [UInt8.ofNat size, UInt8.ofNat (size / 256), UInt8.ofNat (size / 256 / 256), UInt8.ofNat (size / 256 / 256 / 256)], 0, [], 0, 0, 0, 0⟩ := by kernel_rfl
    have e2 : headB 19 (byt (laidB ⟨19, ix, sub, false, false, false, true, size, 0, [], 0, 0, 0, 0⟩) 0) = true := by kernel_rfl
    exact ⟨by show guessM 19 (laidB ⟨19, ix, sub, false, false, false, true, size, 0, [], 0, 0, 0, 0⟩) = ⟨19, ix, sub, false, false, false, true, size, 0, [], 0, 0, 0, 0⟩; rw [e, b2N _ h1, b1N _ h2, b4N _ h3], e2⟩
  · have e : guessM 19 (laidB ⟨19, ix, sub, false, false, true, true, size, 0, [], 0, 0, 0, 0⟩) = ⟨19, (leN [UInt8.ofNat ix, UInt8.ofNat (ix / 256)] : Nat), ((UInt8.ofNat sub).toNat : Nat), false, false, true, true, leN [UInt8.ofNat size, UInt8.ofNat (size / 256), UInt8.ofNat (size / 256 / 256), UInt8.ofNat (size / 256 / 256 / 256)], 0, [], 0, 0, 0, 0⟩ := by kernel_rfl
    have e2 : headB 19 (byt (laidB ⟨19, ix, sub, false, false, true, true, size, 0, [], 0, 0, 0, 0⟩) 0) = true := by kernel_rfl
    exact ⟨by show guessM 19 (laidB ⟨19, ix, sub, false, false, true, true, size, 0, [], 0, 0, 0, 0⟩) = ⟨19, ix, sub, false, false, true, true, size, 0, [], 0, 0, 0, 0⟩; rw [e, b2N _ h1, b1N _ h2, b4N _ h3], e2⟩
theorem gl19f (ix sub : Nat) (cr : Bool) (h1 : ix ≤ 65535) (h2 : sub ≤ 255) : GL ⟨19, ix, sub, false, false, cr, false, 0, 0, [], 0, 0, 0, 0⟩ := by
  cases cr
  · have e : guessM 19 (laidB ⟨19, ix, sub, false, false, false, false, 0, 0, [], 0, 0, 0, 0⟩) = ⟨19, (leN [UInt8.ofNat ix, UInt8.ofNat (ix / 256)] : Nat), ((UInt8.ofNat sub).toNat : Nat), false, false, false, false, 0, 0, [], 0, 0, 0, 0⟩ := by kernel_rfl
    have e2 : headB 19 (byt (laidB ⟨19, ix, sub, false, false, false, false, 0, 0, [], 0, 0, 0, 0⟩) 0) = true := by kernel_rfl
    exact ⟨by show guessM 19 (laidB ⟨19, ix, sub, false, false, false, false, 0, 0, [], 0, 0, 0, 0⟩) = ⟨19, ix, sub, false, false, false, false, 0, 0, [], 0, 0, 0, 0⟩; rw [e, b2N _ h1, b1N _ h2], e2⟩
  · have e : guessM 19 (laidB ⟨19, ix, sub, false, false, true, false, 0, 0, [], 0, 0, 0, 0⟩) = ⟨19, (leN [UInt8.ofNat ix, UInt8.ofNat (ix / 256)] : Nat), ((UInt8.ofNat sub).toNat : Nat), false, false, true, false, 0, 0, [], 0, 0, 0, 0⟩ := by kernel_rfl
    have e2 : headB 19 (byt (laidB ⟨19, ix, sub, false, false, true, false, 0, 0, [], 0, 0, 0, 0⟩) 0) = true := by kernel_rfl
    exact ⟨by show guessM 19 (laidB ⟨19, ix, sub, false, false, true, false, 0, 0, [], 0, 0, 0, 0⟩) = ⟨19, ix, sub, false, false, true, false, 0, 0, [], 0, 0, 0, 0⟩; rw [e, b2N _ h1, b1N _ h2], e2⟩
theorem gl20e0 (sum : Nat) (h1 : sum ≤ 65535) : GL ⟨20, 0, 0, false, false, false, false, 0, 0, [], 0, 0, 0, sum⟩ := by
  have e : guessM 20 (laidB ⟨20, 0, 0, false, false, false, false, 0, 0, [], 0, 0, 0, sum⟩) = ⟨20, 0, 0, false, false, false, false, 0, 0, [], 0, 0, 0, leN [UInt8.ofNat sum, UInt8.ofNat (sum / 256)]⟩ := by kernel_rfl
  have e2 : headB 20 (byt (laidB ⟨20, 0, 0, false, false, false, false, 0, 0, [], 0, 0, 0, sum⟩) 0) = true := by kernel_rfl
  exact ⟨by show guessM 20 (laidB ⟨20, 0, 0, false, false, false, false, 0, 0, [], 0, 0, 0, sum⟩) = ⟨20, 0, 0, false, false, false, false, 0, 0, [], 0, 0, 0, sum⟩; rw [e, b2N _ h1], e2⟩
theorem gl20e1 (sum : Nat) (h1 : sum ≤ 65535) : GL ⟨20, 0, 0, false, false, false, false, 0, 0, [], 0, 0, 1, sum⟩ := by
  have e : guessM 20 (laidB ⟨20, 0, 0, false, false, false, false, 0, 0, [], 0, 0, 1, sum⟩) = ⟨20, 0, 0, false, false, false, false, 0, 0, [], 0, 0, 1, leN [UInt8.ofNat sum, UInt8.ofNat (sum / 256)]⟩ := by kernel_rfl
  have e2 : headB 20 (byt (laidB ⟨20, 0, 0, false, false, false, false, 0, 0, [], 0, 0, 1, sum⟩) 0) = true := by kernel_rfl
  exact ⟨by show guessM 20 (laidB ⟨20, 0, 0, false, false, false, false, 0, 0, [], 0, 0, 1, sum⟩) = ⟨20, 0, 0, false, false, false, false, 0, 0, [], 0, 0, 1, sum⟩; rw [e, b2N _ h1], e2⟩
theorem gl20e2 (sum : Nat) (h1 : sum ≤ 65535) : GL ⟨20, 0, 0, false, false, false, false, 0, 0, [], 0, 0, 2, sum⟩ := by
  have e : guessM 20 (laidB ⟨20, 0, 0, false, false, false, false, 0, 0, [], 0, 0, 2, sum⟩) = ⟨20, 0, 0, false, false, false, false, 0, 0, [], 0, 0, 2, leN [UInt8.ofNat sum, UInt8.ofNat (sum / 256)]⟩ := by kernel_rfl
  have e2 : headB 20 (byt (laidB ⟨20, 0, 0, false, false, false, false, 0, 0, [], 0, 0, 2, sum⟩) 0) = true := by kernel_rfl
  exact ⟨by show guessM 20 (laidB ⟨20, 0, 0, false, false, false, false, 0, 0, [], 0, 0, 2, sum⟩) = ⟨20, 0, 0, false, false, false, false, 0, 0, [], 0, 0, 2, sum⟩; rw [e, b2N _ h1], e2⟩
theorem gl20e3 (sum : Nat) (h1 : sum ≤ 65535) : GL ⟨20, 0, 0, false, false, false, false, 0, 0, [], 0, 0, 3, sum⟩ := by
  have e : guessM 20 (laidB ⟨20, 0, 0, false, false, false, false, 0, 0, [], 0, 0, 3, sum⟩) = ⟨20, 0, 0, false, false, false, false, 0, 0, [], 0, 0, 3, leN [UInt8.ofNat sum, UInt8.ofNat (sum / 256)]⟩ := by kernel_rfl
  have e2 : headB 20 (byt (laidB ⟨20, 0, 0, false, false, false, false, 0, 0, [], 0, 0, 3, sum⟩) 0) = true := by kernel_rfl
  exact ⟨by show guessM 20 (laidB ⟨20, 0, 0, false, false, false, false, 0, 0, [], 0, 0, 3, sum⟩) = ⟨20, 0, 0, false, false, false, false, 0, 0, [], 0, 0, 3, sum⟩; rw [e, b2N _ h1], e2⟩
theorem gl20e4 (sum : Nat) (h1 : sum ≤ 65535) : GL ⟨20, 0, 0, false, false, false, false, 0, 0, [], 0, 0, 4, sum⟩ := by
  have e : guessM 20 (laidB ⟨20, 0, 0, false, false, false, false, 0, 0, [], 0, 0, 4, sum⟩) = ⟨20, 0, 0, false, false, false, false, 0, 0, [], 0, 0, 4, leN [UInt8.ofNat sum, UInt8.ofNat (sum / 256)]⟩ := by kernel_rfl
  have e2 : headB 20 (byt (laidB ⟨20, 0, 0, false, false, false, false, 0, 0, [], 0, 0, 4, sum⟩) 0) = true := by kernel_rfl
  exact ⟨by show guessM 20 (laidB ⟨20, 0, 0, false, false, false, false, 0, 0, [], 0, 0, 4, sum⟩) = ⟨20, 0, 0, false, false, false, false, 0, 0, [], 0, 0, 4, sum⟩; rw [e, b2N _ h1], e2⟩
theorem gl20e5 (sum : Nat) (h1 : sum ≤ 65535) : GL ⟨20, 0, 0, false, false, false, false, 0, 0, [], 0, 0, 5, sum⟩ := by
  have e : guessM 20 (laidB ⟨20, 0, 0, false, false, false, false, 0, 0, [], 0, 0, 5, sum⟩) = ⟨20, 0, 0, false, false, false, false, 0, 0, [], 0, 0, 5, leN [UInt8.ofNat sum, UInt8.ofNat (sum / 256)]⟩ := by kernel_rfl
  have e2 : headB 20 (byt (laidB ⟨20, 0, 0, false, false, false, false, 0, 0, [], 0, 0, 5, sum⟩) 0) = true := by kernel_rfl
  exact ⟨by show guessM 20 (laidB ⟨20, 0, 0, false, false, false, false, 0, 0, [], 0, 0, 5, sum⟩) = ⟨20, 0, 0, false, false, false, false, 0, 0, [], 0, 0, 5, sum⟩; rw [e, b2N _ h1], e2⟩
theorem gl20e6 (sum : Nat) (h1 : sum ≤ 65535) : GL ⟨20, 0, 0, false, false, false, false, 0, 0, [], 0, 0, 6, sum⟩ := by
  have e : guessM 20 (laidB ⟨20, 0, 0, false, false, false, false, 0, 0, [], 0, 0, 6, sum⟩) = ⟨20, 0, 0, false, false, false, false, 0, 0, [], 0, 0, 6, leN [UInt8.ofNat sum, UInt8.ofNat (sum / 256)]⟩ := by kernel_rfl
  have e2 : headB 20 (byt (laidB ⟨20, 0, 0, false, false, false, false, 0, 0, [], 0, 0, 6, sum⟩) 0) = true := by kernel_rfl
  exact ⟨by show guessM 20 (laidB ⟨20, 0, 0, false, false, false, false, 0, 0, [], 0, 0, 6, sum⟩) = ⟨20, 0, 0, false, false, false, false, 0, 0, [], 0, 0, 6, sum⟩; rw [e, b2N _ h1], e2⟩
theorem gl20e7 (sum : Nat) (h1 : sum ≤ 65535) : GL ⟨20, 0, 0, false, false, false, false, 0, 0, [], 0, 0, 7, sum⟩ := by
  have e : guessM 20 (laidB ⟨20, 0, 0, false, false, false, false, 0, 0, [], 0, 0, 7, sum⟩) = ⟨20, 0, 0, false, false, false, false, 0, 0, [], 0, 0, 7, leN [UInt8.ofNat sum, UInt8.ofNat (sum / 256)]⟩ := by kernel_rfl
  have e2 : headB 20 (byt (laidB ⟨20, 0, 0, false, false, false, false, 0, 0, [], 0, 0, 7, sum⟩) 0) = true := by kernel_rfl
  exact ⟨by show guessM 20 (laidB ⟨20, 0, 0, false, false, false, false, 0, 0, [], 0, 0, 7, sum⟩) = ⟨20, 0, 0, false, false, false, false, 0, 0, [], 0, 0, 7, sum⟩; rw [e, b2N _ h1], e2⟩
theorem gl21t (sq : Nat) (h : sq ≤ 127) (d0 d1 d2 d3 d4 d5 d6 : UInt8) : GL ⟨21, 0, 0, false, true, false, false, 0, 0, [d0, d1, d2, d3, d4, d5, d6], (sq : Nat), 0, 0, 0⟩ := by
  have e : guessM 21 (laidB ⟨21, 0, 0, false, true, false, false, 0, 0, [d0, d1, d2, d3, d4, d5, d6], (sq : Nat), 0, 0, 0⟩) = ⟨21, 0, 0, false, (decide (128 ≤ (UInt8.ofNat (sq ||| 128)).toNat)), false, false, 0, 0, [d0, d1, d2, d3, d4, d5, d6], (((UInt8.ofNat (sq ||| 128)).toNat % 128 : Nat) : Int), 0, 0, 0⟩ := by kernel_rfl
  have e2 : headB 21 (byt (laidB ⟨21, 0, 0, false, true, false, false, 0, 0, [d0, d1, d2, d3, d4, d5, d6], (sq : Nat), 0, 0, 0⟩) 0) = true := by kernel_rfl
  exact ⟨by show guessM 21 (laidB ⟨21, 0, 0, false, true, false, false, 0, 0, [d0, d1, d2, d3, d4, d5, d6], (sq : Nat), 0, 0, 0⟩) = ⟨21, 0, 0, false, true, false, false, 0, 0, [d0, d1, d2, d3, d4, d5, d6], (sq : Nat), 0, 0, 0⟩; rw [e, (sq_or sq h).1, decide_eq_true (sq_or sq h).2.1], e2⟩
theorem gl21f (sq : Nat) (h : sq ≤ 127) (d0 d1 d2 d3 d4 d5 d6 : UInt8) : GL ⟨21, 0, 0, false, false, false, false, 0, 0, [d0, d1, d2, d3, d4, d5, d6], (sq : Nat), 0, 0, 0⟩ := by
  have e : guessM 21 (laidB ⟨21, 0, 0, false, false, false, false, 0, 0, [d0, d1, d2, d3, d4, d5, d6], (sq : Nat), 0, 0, 0⟩) = ⟨21, 0, 0, false, (decide (128 ≤ (UInt8.ofNat sq).toNat)), false, false, 0, 0, [d0, d1, d2, d3, d4, d5, d6], (((UInt8.ofNat sq).toNat % 128 : Nat) : Int), 0, 0, 0⟩ := by kernel_rfl
  have e2 : headB 21 (byt (laidB ⟨21, 0, 0, false, false, false, false, 0, 0, [d0, d1, d2, d3, d4, d5, d6], (sq : Nat), 0, 0, 0⟩) 0) = true := by kernel_rfl
  exact ⟨by show guessM 21 (laidB ⟨21, 0, 0, false, false, false, false, 0, 0, [d0, d1, d2, d3, d4, d5, d6], (sq : Nat), 0, 0, 0⟩) = ⟨21, 0, 0, false, false, false, false, 0, 0, [d0, d1, d2, d3, d4, d5, d6], (sq : Nat), 0, 0, 0⟩; rw [e, (sq_or sq h).2.2.1, decide_eq_false (sq_or sq h).2.2.2], e2⟩
theorem guess_laid (M : Ms) (hc : canB M = true) (hu1 : M.size ≤ 4294967295) (hu2 : M.code ≤ 4294967295) (hu3 : M.sum ≤ 65535) : GL M := by
  have h := can_parts M hc
  obtain ⟨hr, hsh, hf0⟩ := can_range M hc
  clear hc
  have k1 : 1 ≤ M.kind ∧ M.kind ≤ 21 := by
    refine ⟨?_, ?_⟩
    · rcases Int.lt_or_le M.kind 1 with h | h
      · exact absurd (form_zero _ (.inl h)) hf0
      · exact h
    · rcases Int.lt_or_le 21 M.kind with h | h
      · exact absurd (form_zero _ (.inr h)) hf0
      · exact h
  obtain ⟨kind, ix, sub, tg, la, cr, sz, size, code, data, sq, bl, em, sum⟩ := M
  simp only [rangeB, Bool.and_eq_true, decide_eq_true_iff] at hr k1 hu1 hu2 hu3
  obtain ⟨⟨⟨⟨⟨⟨a1, a2⟩, b1, b2⟩, c1, c2⟩, d1, d2⟩, e1, e2⟩, hd7⟩ := hr
  obtain ⟨ix, rfl⟩ := Int.eq_ofNat_of_zero_le a1
  obtain ⟨sub, rfl⟩ := Int.eq_ofNat_of_zero_le b1
  obtain ⟨sq, rfl⟩ := Int.eq_ofNat_of_zero_le c1
  obtain ⟨bl, rfl⟩ := Int.eq_ofNat_of_zero_le d1
  obtain ⟨em, rfl⟩ := Int.eq_ofNat_of_zero_le e1
  have A2 : ix ≤ 65535 := by omega
  have B2 : sub ≤ 255 := by omega
  have C2 : sq ≤ 127 := by omega
  have D2 : bl ≤ 127 := by omega
  have E2 : em ≤ 7 := by omega
  clear a1 a2 b1 b2 c1 c2 d1 d2 e1 e2
  rcases (show kind = 1 ∨ kind = 2 ∨ kind = 3 ∨ kind = 4 ∨ kind = 5 ∨ kind = 6 ∨ kind = 7 ∨ kind = 8 ∨ kind = 9 ∨ kind = 10 ∨ kind = 11 ∨ kind = 12 ∨ kind = 13 ∨ kind = 14 ∨ kind = 15 ∨ kind = 16 ∨ kind = 17 ∨ kind = 18 ∨ kind = 19 ∨ kind = 20 ∨ kind = 21 by omega) with rfl | rfl | rfl | rfl | rfl | rfl | rfl | rfl | rfl | rfl | rfl | rfl | rfl | rfl | rfl | rfl | rfl | rfl | rfl | rfl | rfl
  · injection h with h1 h2 h3 h4 h5 h6 h7 h8 h9 h10 h11 h12 h13 h14
    obtain rfl : tg = false := h4.symm
    obtain rfl : la = false := h5.symm
    obtain rfl : cr = false := h6.symm
    obtain rfl : sz = false := h7.symm
    obtain rfl : size = 0 := h8.symm
    obtain rfl : data = [] := h10.symm
    have z11 : ((sq : Nat) : Int) = 0 := h11.symm
    obtain rfl : sq = 0 := by omega
    have z12 : ((bl : Nat) : Int) = 0 := h12.symm
    obtain rfl : bl = 0 := by omega
    have z13 : ((em : Nat) : Int) = 0 := h13.symm
    obtain rfl : em = 0 := by omega
    obtain rfl : sum = 0 := h14.symm
    exact gl1 ix sub code A2 B2 hu2
  · injection h with h1 h2 h3 h4 h5 h6 h7 h8 h9 h10 h11 h12 h13 h14
    obtain rfl : tg = false := h4.symm
    obtain rfl : la = false := h5.symm
    obtain rfl : cr = false := h6.symm
    obtain rfl : code = 0 := h9.symm
    have z11 : ((sq : Nat) : Int) = 0 := h11.symm
    obtain rfl : sq = 0 := by omega
    have z12 : ((bl : Nat) : Int) = 0 := h12.symm
    obtain rfl : bl = 0 := by omega
    have z13 : ((em : Nat) : Int) = 0 := h13.symm
    obtain rfl : em = 0 := by omega
    obtain rfl : sum = 0 := h14.symm
    simp only [] at hsh hd7
    rcases data with _ | ⟨d0, _ | ⟨d1, _ | ⟨d2, _ | ⟨d3, _ | ⟨d4, r⟩⟩⟩⟩⟩
    · cases sz
      · obtain rfl : size = 0 := h8.symm
        exact gl2b ix sub A2 B2
      · exact gl2a ix sub size A2 B2 hu1
    · obtain rfl : size = 0 := (h8.symm.trans (if_neg (by rintro (⟨_, h, _⟩ | ⟨h, _⟩) <;> first | exact nomatch h | exact absurd h (by decide))))
      cases sz
      · exact absurd (show false = true from hsh) (by decide)
      · exact gl2c1 ix sub A2 B2 d0
    · obtain rfl : size = 0 := (h8.symm.trans (if_neg (by rintro (⟨_, h, _⟩ | ⟨h, _⟩) <;> first | exact nomatch h | exact absurd h (by decide))))
      cases sz
      · exact absurd (show false = true from hsh) (by decide)
      · exact gl2c2 ix sub A2 B2 d0 d1
    · obtain rfl : size = 0 := (h8.symm.trans (if_neg (by rintro (⟨_, h, _⟩ | ⟨h, _⟩) <;> first | exact nomatch h | exact absurd h (by decide))))
      cases sz
      · exact absurd (show false = true from hsh) (by decide)
      · exact gl2c3 ix sub A2 B2 d0 d1 d2
    · obtain rfl : size = 0 := (h8.symm.trans (if_neg (by rintro (⟨_, h, _⟩ | ⟨h, _⟩) <;> first | exact nomatch h | exact absurd h (by decide))))
      cases sz
      · exact gl2d4 ix sub A2 B2 d0 d1 d2 d3
      · exact gl2c4 ix sub A2 B2 d0 d1 d2 d3
    · exfalso
      have hh : shapeB 2 ⟨_, _, _, _, _, _, sz, _, _, d0 :: d1 :: d2 :: d3 :: d4 :: r, _, _, _, _⟩ = true := hsh
      simp only [shapeB, if_true, List.length_cons, Bool.or_eq_true, Bool.and_eq_true, decide_eq_true_iff] at hh
      omega
  · injection h with h1 h2 h3 h4 h5 h6 h7 h8 h9 h10 h11 h12 h13 h14
    have z2 : ((ix : Nat) : Int) = 0 := h2.symm
    obtain rfl : ix = 0 := by omega
    have z3 : ((sub : Nat) : Int) = 0 := h3.symm
    obtain rfl : sub = 0 := by omega
    obtain rfl : cr = false := h6.symm
    obtain rfl : sz = false := h7.symm
    obtain rfl : size = 0 := h8.symm
    obtain rfl : code = 0 := h9.symm
    have z11 : ((sq : Nat) : Int) = 0 := h11.symm
    obtain rfl : sq = 0 := by omega
    have z12 : ((bl : Nat) : Int) = 0 := h12.symm
    obtain rfl : bl = 0 := by omega
    have z13 : ((em : Nat) : Int) = 0 := h13.symm
    obtain rfl : em = 0 := by omega
    obtain rfl : sum = 0 := h14.symm
    rcases data with _ | ⟨d0, _ | ⟨d1, _ | ⟨d2, _ | ⟨d3, _ | ⟨d4, _ | ⟨d5, _ | ⟨d6, _ | ⟨d7, r⟩⟩⟩⟩⟩⟩⟩⟩
    · exact gl3n0 tg la 
    · exact gl3n1 tg la d0
    · exact gl3n2 tg la d0 d1
    · exact gl3n3 tg la d0 d1 d2
    · exact gl3n4 tg la d0 d1 d2 d3
    · exact gl3n5 tg la d0 d1 d2 d3 d4
    · exact gl3n6 tg la d0 d1 d2 d3 d4 d5
    · exact gl3n7 tg la d0 d1 d2 d3 d4 d5 d6
    · simp only [List.length_cons] at hd7
      omega
  · injection h with h1 h2 h3 h4 h5 h6 h7 h8 h9 h10 h11 h12 h13 h14
    obtain rfl : tg = false := h4.symm
    obtain rfl : la = false := h5.symm
    obtain rfl : cr = false := h6.symm
    obtain rfl : sz = false := h7.symm
    obtain rfl : size = 0 := h8.symm
    obtain rfl : code = 0 := h9.symm
    obtain rfl : data = [] := h10.symm
    have z11 : ((sq : Nat) : Int) = 0 := h11.symm
    obtain rfl : sq = 0 := by omega
    have z12 : ((bl : Nat) : Int) = 0 := h12.symm
    obtain rfl : bl = 0 := by omega
    have z13 : ((em : Nat) : Int) = 0 := h13.symm
    obtain rfl : em = 0 := by omega
    obtain rfl : sum = 0 := h14.symm
    exact gl4 ix sub A2 B2
  · injection h with h1 h2 h3 h4 h5 h6 h7 h8 h9 h10 h11 h12 h13 h14
    have z2 : ((ix : Nat) : Int) = 0 := h2.symm
    obtain rfl : ix = 0 := by omega
    have z3 : ((sub : Nat) : Int) = 0 := h3.symm
    obtain rfl : sub = 0 := by omega
    obtain rfl : la = false := h5.symm
    obtain rfl : cr = false := h6.symm
    obtain rfl : sz = false := h7.symm
    obtain rfl : size = 0 := h8.symm
    obtain rfl : code = 0 := h9.symm
    obtain rfl : data = [] := h10.symm
    have z11 : ((sq : Nat) : Int) = 0 := h11.symm
    obtain rfl : sq = 0 := by omega
    have z12 : ((bl : Nat) : Int) = 0 := h12.symm
    obtain rfl : bl = 0 := by omega
    have z13 : ((em : Nat) : Int) = 0 := h13.symm
    obtain rfl : em = 0 := by omega
    obtain rfl : sum = 0 := h14.symm
    exact gl5 tg
  · injection h with h1 h2 h3 h4 h5 h6 h7 h8 h9 h10 h11 h12 h13 h14
    obtain rfl : tg = false := h4.symm
    obtain rfl : la = false := h5.symm
    obtain rfl : code = 0 := h9.symm
    obtain rfl : data = [] := h10.symm
    have z11 : ((sq : Nat) : Int) = 0 := h11.symm
    obtain rfl : sq = 0 := by omega
    have z12 : ((bl : Nat) : Int) = 0 := h12.symm
    obtain rfl : bl = 0 := by omega
    have z13 : ((em : Nat) : Int) = 0 := h13.symm
    obtain rfl : em = 0 := by omega
    obtain rfl : sum = 0 := h14.symm
    cases sz
    · obtain rfl : size = 0 := h8.symm
      exact gl6f ix sub cr A2 B2
    · exact gl6t ix sub size cr A2 B2 hu1
  · injection h with h1 h2 h3 h4 h5 h6 h7 h8 h9 h10 h11 h12 h13 h14
    have z2 : ((ix : Nat) : Int) = 0 := h2.symm
    obtain rfl : ix = 0 := by omega
    have z3 : ((sub : Nat) : Int) = 0 := h3.symm
    obtain rfl : sub = 0 := by omega
    obtain rfl : tg = false := h4.symm
    obtain rfl : la = false := h5.symm
    obtain rfl : cr = false := h6.symm
    obtain rfl : sz = false := h7.symm
    obtain rfl : size = 0 := h8.symm
    obtain rfl : code = 0 := h9.symm
    obtain rfl : data = [] := h10.symm
    have z11 : ((sq : Nat) : Int) = 0 := h11.symm
    obtain rfl : sq = 0 := by omega
    have z12 : ((bl : Nat) : Int) = 0 := h12.symm
    obtain rfl : bl = 0 := by omega
    rcases (show em = 0 ∨ em = 1 ∨ em = 2 ∨ em = 3 ∨ em = 4 ∨ em = 5 ∨ em = 6 ∨ em = 7 by omega) with rfl | rfl | rfl | rfl | rfl | rfl | rfl | rfl
    · exact gl7e0 sum hu3
    · exact gl7e1 sum hu3
    · exact gl7e2 sum hu3
    · exact gl7e3 sum hu3
    · exact gl7e4 sum hu3
    · exact gl7e5 sum hu3
    · exact gl7e6 sum hu3
    · exact gl7e7 sum hu3
  · injection h with h1 h2 h3 h4 h5 h6 h7 h8 h9 h10 h11 h12 h13 h14
    obtain rfl : tg = false := h4.symm
    obtain rfl : la = false := h5.symm
    obtain rfl : sz = false := h7.symm
    obtain rfl : size = 0 := h8.symm
    obtain rfl : code = 0 := h9.symm
    obtain rfl : data = [] := h10.symm
    have z11 : ((sq : Nat) : Int) = 0 := h11.symm
    obtain rfl : sq = 0 := by omega
    have z13 : ((em : Nat) : Int) = 0 := h13.symm
    obtain rfl : em = 0 := by omega
    obtain rfl : sum = 0 := h14.symm
    exact gl8 ix sub bl cr A2 B2 D2
  · injection h with h1 h2 h3 h4 h5 h6 h7 h8 h9 h10 h11 h12 h13 h14
    have z2 : ((ix : Nat) : Int) = 0 := h2.symm
    obtain rfl : ix = 0 := by omega
    have z3 : ((sub : Nat) : Int) = 0 := h3.symm
    obtain rfl : sub = 0 := by omega
    obtain rfl : tg = false := h4.symm
    obtain rfl : la = false := h5.symm
    obtain rfl : cr = false := h6.symm
    obtain rfl : sz = false := h7.symm
    obtain rfl : size = 0 := h8.symm
    obtain rfl : code = 0 := h9.symm
    obtain rfl : data = [] := h10.symm
    have z11 : ((sq : Nat) : Int) = 0 := h11.symm
    obtain rfl : sq = 0 := by omega
    have z12 : ((bl : Nat) : Int) = 0 := h12.symm
    obtain rfl : bl = 0 := by omega
    have z13 : ((em : Nat) : Int) = 0 := h13.symm
    obtain rfl : em = 0 := by omega
    obtain rfl : sum = 0 := h14.symm
    exact gl9
  · injection h with h1 h2 h3 h4 h5 h6 h7 h8 h9 h10 h11 h12 h13 h14
    have z2 : ((ix : Nat) : Int) = 0 := h2.symm
    obtain rfl : ix = 0 := by omega
    have z3 : ((sub : Nat) : Int) = 0 := h3.symm
    obtain rfl : sub = 0 := by omega
    obtain rfl : tg = false := h4.symm
    obtain rfl : la = false := h5.symm
    obtain rfl : cr = false := h6.symm
    obtain rfl : sz = false := h7.symm
    obtain rfl : size = 0 := h8.symm
    obtain rfl : code = 0 := h9.symm
    obtain rfl : data = [] := h10.symm
    have z13 : ((em : Nat) : Int) = 0 := h13.symm
    obtain rfl : em = 0 := by omega
    obtain rfl : sum = 0 := h14.symm
    exact gl10 sq bl C2 D2
  · injection h with h1 h2 h3 h4 h5 h6 h7 h8 h9 h10 h11 h12 h13 h14
    have z2 : ((ix : Nat) : Int) = 0 := h2.symm
    obtain rfl : ix = 0 := by omega
    have z3 : ((sub : Nat) : Int) = 0 := h3.symm
    obtain rfl : sub = 0 := by omega
    obtain rfl : tg = false := h4.symm
    obtain rfl : la = false := h5.symm
    obtain rfl : cr = false := h6.symm
    obtain rfl : sz = false := h7.symm
    obtain rfl : size = 0 := h8.symm
    obtain rfl : code = 0 := h9.symm
    obtain rfl : data = [] := h10.symm
    have z11 : ((sq : Nat) : Int) = 0 := h11.symm
    obtain rfl : sq = 0 := by omega
    have z12 : ((bl : Nat) : Int) = 0 := h12.symm
    obtain rfl : bl = 0 := by omega
    have z13 : ((em : Nat) : Int) = 0 := h13.symm
    obtain rfl : em = 0 := by omega
    obtain rfl : sum = 0 := h14.symm
    exact gl11
  · injection h with h1 h2 h3 h4 h5 h6 h7 h8 h9 h10 h11 h12 h13 h14
    obtain rfl : tg = false := h4.symm
    obtain rfl : la = false := h5.symm
    obtain rfl : cr = false := h6.symm
    obtain rfl : sz = false := h7.symm
    obtain rfl : size = 0 := h8.symm
    obtain rfl : code = 0 := h9.symm
    obtain rfl : data = [] := h10.symm
    have z11 : ((sq : Nat) : Int) = 0 := h11.symm
    obtain rfl : sq = 0 := by omega
    have z12 : ((bl : Nat) : Int) = 0 := h12.symm
    obtain rfl : bl = 0 := by omega
    have z13 : ((em : Nat) : Int) = 0 := h13.symm
    obtain rfl : em = 0 := by omega
    obtain rfl : sum = 0 := h14.symm
    exact gl12 ix sub A2 B2
  · injection h with h1 h2 h3 h4 h5 h6 h7 h8 h9 h10 h11 h12 h13 h14
    have z2 : ((ix : Nat) : Int) = 0 := h2.symm
    obtain rfl : ix = 0 := by omega
    have z3 : ((sub : Nat) : Int) = 0 := h3.symm
    obtain rfl : sub = 0 := by omega
    obtain rfl : la = false := h5.symm
    obtain rfl : cr = false := h6.symm
    obtain rfl : sz = false := h7.symm
    obtain rfl : size = 0 := h8.symm
    obtain rfl : code = 0 := h9.symm
    obtain rfl : data = [] := h10.symm
    have z11 : ((sq : Nat) : Int) = 0 := h11.symm
    obtain rfl : sq = 0 := by omega
    have z12 : ((bl : Nat) : Int) = 0 := h12.symm
    obtain rfl : bl = 0 := by omega
    have z13 : ((em : Nat) : Int) = 0 := h13.symm
    obtain rfl : em = 0 := by omega
    obtain rfl : sum = 0 := h14.symm
    exact gl13 tg
  · injection h with h1 h2 h3 h4 h5 h6 h7 h8 h9 h10 h11 h12 h13 h14
    obtain rfl : tg = false := h4.symm
    obtain rfl : la = false := h5.symm
    obtain rfl : cr = false := h6.symm
    obtain rfl : code = 0 := h9.symm
    have z11 : ((sq : Nat) : Int) = 0 := h11.symm
    obtain rfl : sq = 0 := by omega
    have z12 : ((bl : Nat) : Int) = 0 := h12.symm
    obtain rfl : bl = 0 := by omega
    have z13 : ((em : Nat) : Int) = 0 := h13.symm
    obtain rfl : em = 0 := by omega
    obtain rfl : sum = 0 := h14.symm
    simp only [] at hsh hd7
    rcases data with _ | ⟨d0, _ | ⟨d1, _ | ⟨d2, _ | ⟨d3, _ | ⟨d4, r⟩⟩⟩⟩⟩
    · cases sz
      · obtain rfl : size = 0 := h8.symm
        exact gl14b ix sub A2 B2
      · exact gl14a ix sub size A2 B2 hu1
    · obtain rfl : size = 0 := (h8.symm.trans (if_neg (by rintro (⟨_, h, _⟩ | ⟨h, _⟩) <;> first | exact nomatch h | exact absurd h (by decide))))
      cases sz
      · exact absurd (show false = true from hsh) (by decide)
      · exact gl14c1 ix sub A2 B2 d0
    · obtain rfl : size = 0 := (h8.symm.trans (if_neg (by rintro (⟨_, h, _⟩ | ⟨h, _⟩) <;> first | exact nomatch h | exact absurd h (by decide))))
      cases sz
      · exact absurd (show false = true from hsh) (by decide)
      · exact gl14c2 ix sub A2 B2 d0 d1
    · obtain rfl : size = 0 := (h8.symm.trans (if_neg (by rintro (⟨_, h, _⟩ | ⟨h, _⟩) <;> first | exact nomatch h | exact absurd h (by decide))))
      cases sz
      · exact absurd (show false = true from hsh) (by decide)
      · exact gl14c3 ix sub A2 B2 d0 d1 d2
    · obtain rfl : size = 0 := (h8.symm.trans (if_neg (by rintro (⟨_, h, _⟩ | ⟨h, _⟩) <;> first | exact nomatch h | exact absurd h (by decide))))
      cases sz
      · exact gl14d4 ix sub A2 B2 d0 d1 d2 d3
      · exact gl14c4 ix sub A2 B2 d0 d1 d2 d3
    · exfalso
      have hh : shapeB 2 ⟨_, _, _, _, _, _, sz, _, _, d0 :: d1 :: d2 :: d3 :: d4 :: r, _, _, _, _⟩ = true := hsh
      simp only [shapeB, if_true, List.length_cons, Bool.or_eq_true, Bool.and_eq_true, decide_eq_true_iff] at hh
      omega
  · injection h with h1 h2 h3 h4 h5 h6 h7 h8 h9 h10 h11 h12 h13 h14
    have z2 : ((ix : Nat) : Int) = 0 := h2.symm
    obtain rfl : ix = 0 := by omega
    have z3 : ((sub : Nat) : Int) = 0 := h3.symm
    obtain rfl : sub = 0 := by omega
    obtain rfl : cr = false := h6.symm
    obtain rfl : sz = false := h7.symm
    obtain rfl : size = 0 := h8.symm
    obtain rfl : code = 0 := h9.symm
    have z11 : ((sq : Nat) : Int) = 0 := h11.symm
    obtain rfl : sq = 0 := by omega
    have z12 : ((bl : Nat) : Int) = 0 := h12.symm
    obtain rfl : bl = 0 := by omega
    have z13 : ((em : Nat) : Int) = 0 := h13.symm
    obtain rfl : em = 0 := by omega
    obtain rfl : sum = 0 := h14.symm
    rcases data with _ | ⟨d0, _ | ⟨d1, _ | ⟨d2, _ | ⟨d3, _ | ⟨d4, _ | ⟨d5, _ | ⟨d6, _ | ⟨d7, r⟩⟩⟩⟩⟩⟩⟩⟩
    · exact gl15n0 tg la 
    · exact gl15n1 tg la d0
    · exact gl15n2 tg la d0 d1
    · exact gl15n3 tg la d0 d1 d2
    · exact gl15n4 tg la d0 d1 d2 d3
    · exact gl15n5 tg la d0 d1 d2 d3 d4
    · exact gl15n6 tg la d0 d1 d2 d3 d4 d5
    · exact gl15n7 tg la d0 d1 d2 d3 d4 d5 d6
    · simp only [List.length_cons] at hd7
      omega
  · injection h with h1 h2 h3 h4 h5 h6 h7 h8 h9 h10 h11 h12 h13 h14
    obtain rfl : tg = false := h4.symm
    obtain rfl : la = false := h5.symm
    obtain rfl : sz = false := h7.symm
    obtain rfl : size = 0 := h8.symm
    obtain rfl : code = 0 := h9.symm
    obtain rfl : data = [] := h10.symm
    have z11 : ((sq : Nat) : Int) = 0 := h11.symm
    obtain rfl : sq = 0 := by omega
    have z13 : ((em : Nat) : Int) = 0 := h13.symm
    obtain rfl : em = 0 := by omega
    obtain rfl : sum = 0 := h14.symm
    exact gl16 ix sub bl cr A2 B2 D2
  · injection h with h1 h2 h3 h4 h5 h6 h7 h8 h9 h10 h11 h12 h13 h14
    have z2 : ((ix : Nat) : Int) = 0 := h2.symm
    obtain rfl : ix = 0 := by omega
    have z3 : ((sub : Nat) : Int) = 0 := h3.symm
    obtain rfl : sub = 0 := by omega
    obtain rfl : tg = false := h4.symm
    obtain rfl : la = false := h5.symm
    obtain rfl : cr = false := h6.symm
    obtain rfl : sz = false := h7.symm
    obtain rfl : size = 0 := h8.symm
    obtain rfl : code = 0 := h9.symm
    obtain rfl : data = [] := h10.symm
    have z13 : ((em : Nat) : Int) = 0 := h13.symm
    obtain rfl : em = 0 := by omega
    obtain rfl : sum = 0 := h14.symm
    exact gl17 sq bl C2 D2
  · injection h with h1 h2 h3 h4 h5 h6 h7 h8 h9 h10 h11 h12 h13 h14
    have z2 : ((ix : Nat) : Int) = 0 := h2.symm
    obtain rfl : ix = 0 := by omega
    have z3 : ((sub : Nat) : Int) = 0 := h3.symm
    obtain rfl : sub = 0 := by omega
    obtain rfl : tg = false := h4.symm
    obtain rfl : la = false := h5.symm
    obtain rfl : cr = false := h6.symm
    obtain rfl : sz = false := h7.symm
    obtain rfl : size = 0 := h8.symm
    obtain rfl : code = 0 := h9.symm
    obtain rfl : data = [] := h10.symm
    have z11 : ((sq : Nat) : Int) = 0 := h11.symm
    obtain rfl : sq = 0 := by omega
    have z12 : ((bl : Nat) : Int) = 0 := h12.symm
    obtain rfl : bl = 0 := by omega
    have z13 : ((em : Nat) : Int) = 0 := h13.symm
    obtain rfl : em = 0 := by omega
    obtain rfl : sum = 0 := h14.symm
    exact gl18
  · injection h with h1 h2 h3 h4 h5 h6 h7 h8 h9 h10 h11 h12 h13 h14
    obtain rfl : tg = false := h4.symm
    obtain rfl : la = false := h5.symm
    obtain rfl : code = 0 := h9.symm
    obtain rfl : data = [] := h10.symm
    have z11 : ((sq : Nat) : Int) = 0 := h11.symm
    obtain rfl : sq = 0 := by omega
    have z12 : ((bl : Nat) : Int) = 0 := h12.symm
    obtain rfl : bl = 0 := by omega
    have z13 : ((em : Nat) : Int) = 0 := h13.symm
    obtain rfl : em = 0 := by omega
    obtain rfl : sum = 0 := h14.symm
    cases sz
    · obtain rfl : size = 0 := h8.symm
      exact gl19f ix sub cr A2 B2
    · exact gl19t ix sub size cr A2 B2 hu1
  · injection h with h1 h2 h3 h4 h5 h6 h7 h8 h9 h10 h11 h12 h13 h14
    have z2 : ((ix : Nat) : Int) = 0 := h2.symm
    obtain rfl : ix = 0 := by omega
    have z3 : ((sub : Nat) : Int) = 0 := h3.symm
    obtain rfl : sub = 0 := by omega
    obtain rfl : tg = false := h4.symm
    obtain rfl : la = false := h5.symm
    obtain rfl : cr = false := h6.symm
    obtain rfl : sz = false := h7.symm
    obtain rfl : size = 0 := h8.symm
    obtain rfl : code = 0 := h9.symm
    obtain rfl : data = [] := h10.symm
    have z11 : ((sq : Nat) : Int) = 0 := h11.symm
    obtain rfl : sq = 0 := by omega
    have z12 : ((bl : Nat) : Int) = 0 := h12.symm
    obtain rfl : bl = 0 := by omega
    rcases (show em = 0 ∨ em = 1 ∨ em = 2 ∨ em = 3 ∨ em = 4 ∨ em = 5 ∨ em = 6 ∨ em = 7 by omega) with rfl | rfl | rfl | rfl | rfl | rfl | rfl | rfl
    · exact gl20e0 sum hu3
    · exact gl20e1 sum hu3
    · exact gl20e2 sum hu3
    · exact gl20e3 sum hu3
    · exact gl20e4 sum hu3
    · exact gl20e5 sum hu3
    · exact gl20e6 sum hu3
    · exact gl20e7 sum hu3
  · injection h with h1 h2 h3 h4 h5 h6 h7 h8 h9 h10 h11 h12 h13 h14
    have z2 : ((ix : Nat) : Int) = 0 := h2.symm
    obtain rfl : ix = 0 := by omega
    have z3 : ((sub : Nat) : Int) = 0 := h3.symm
    obtain rfl : sub = 0 := by omega
    obtain rfl : tg = false := h4.symm
    obtain rfl : cr = false := h6.symm
    obtain rfl : sz = false := h7.symm
    obtain rfl : size = 0 := h8.symm
    obtain rfl : code = 0 := h9.symm
    have z12 : ((bl : Nat) : Int) = 0 := h12.symm
    obtain rfl : bl = 0 := by omega
    have z13 : ((em : Nat) : Int) = 0 := h13.symm
    obtain rfl : em = 0 := by omega
    obtain rfl : sum = 0 := h14.symm
    have hh : shapeB 11 ⟨_, _, _, _, _, _, _, _, _, data, _, _, _, _⟩ = true := hsh
    have hl : data.length = 7 := by simp [shapeB] at hh; exact hh.1
    rcases data with _ | ⟨d0, _ | ⟨d1, _ | ⟨d2, _ | ⟨d3, _ | ⟨d4, _ | ⟨d5, _ | ⟨d6, _ | ⟨d7, r⟩⟩⟩⟩⟩⟩⟩⟩ <;> simp only [List.length_cons, List.length_nil] at hl <;> try omega
    cases la
    · exact gl21f sq C2 d0 d1 d2 d3 d4 d5 d6
    · exact gl21t sq C2 d0 d1 d2 d3 d4 d5 d6
end Go.Proofs.Ytcncbmlacphclaa
