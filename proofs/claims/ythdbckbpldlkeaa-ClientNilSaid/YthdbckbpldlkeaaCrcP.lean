/- The sum of bytes in 16 bits: plain words. No program in sight. -/
import Derived.Test.YthdbckbpldlkeaaBase
namespace Go.Proofs.Ythdbckbpldlkeaa
set_option linter.unusedVariables false
set_option linter.unusedSimpArgs false
set_option linter.unnecessarySimpa false

def c16Bit (r b : Nat) : Nat := if r / 32768 = b then r * 2 % 65536 else (r * 2 % 65536) ^^^ 4129
/-- the highest k bits of a byte, the highest first -/
def c16Bits (r c : Nat) : Nat → Nat
  | 0 => r
  | k + 1 => c16Bit (c16Bits r c k) (c / 2 ^ (7 - k) % 2)
def c16L (r : Nat) (l : List UInt8) : Nat := l.foldl (fun r c => c16Bits r c.toNat 8) r
def U16 (r : Nat) : Prop := r < 65536
theorem U16.xor {a b : Nat} (ha : U16 a) (hb : U16 b) : U16 (a ^^^ b) := Nat.xor_lt_two_pow (n := 16) ha hb
theorem c16Bit_lt (r b : Nat) : U16 (c16Bit r b) := by
  unfold c16Bit
  split
  · exact Nat.mod_lt _ (by decide)
  · exact U16.xor (Nat.mod_lt _ (by decide)) (by unfold U16; omega)
theorem c16Bits_lt {r : Nat} (h : U16 r) (c k : Nat) : U16 (c16Bits r c k) := by
  cases k with
  | zero => exact h
  | succ k => exact c16Bit_lt _ _
theorem c16L_lt {r : Nat} (h : U16 r) (l : List UInt8) : U16 (c16L r l) := by
  induction l generalizing r with
  | nil => exact h
  | cons c l ih => exact ih (c16Bits_lt h _ _)
theorem c16L_snoc (r : Nat) (l : List UInt8) (c : UInt8) : c16L r (l ++ [c]) = c16Bits (c16L r l) c.toNat 8 := by simp [c16L]
theorem c16L_take_succ (r : Nat) (l : List UInt8) (k : Nat) (h : k < l.length) : c16L r (l.take (k + 1)) = c16Bits (c16L r (l.take k)) (l[k]).toNat 8 := by
  rw [List.take_succ_eq_append_getElem h, c16L_snoc]
def sum16L (l : List UInt8) : Nat := c16L 0 l
theorem sum16L_lt (l : List UInt8) : U16 (sum16L l) := c16L_lt (by unfold U16; omega) l
end Go.Proofs.Ythdbckbpldlkeaa
