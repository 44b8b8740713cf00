/- The sum of bytes in 32 bits: plain words. No program in sight. -/
import Derived.Test.YtfddfgonhgidbaaBase
namespace Go.Proofs.Ytfddfgonhgidbaa
set_option linter.unusedVariables false
set_option linter.unusedSimpArgs false
set_option linter.unnecessarySimpa false

def poly : Nat := 3988292384
def crcBit (r b : Nat) : Nat := if r % 2 = b then r / 2 else (r / 2) ^^^ poly
def crcBits (r c : Nat) : Nat → Nat
  | 0 => r
  | k + 1 => crcBit (crcBits r c k) (c / 2 ^ k % 2)
def crcL (r : Nat) (l : List UInt8) : Nat := l.foldl (fun r c => crcBits r c.toNat 8) r
/-- r fits in a uint32 (a name, so that the numeral does not stand in the walk's context) -/
def U32 (r : Nat) : Prop := r < 4294967296
def crcOn (s : Nat) (l : List UInt8) : Nat := 4294967295 - crcL (4294967295 - s) l
theorem poly_lt : U32 poly := by unfold U32 poly; omega
theorem U32.xor {a b : Nat} (ha : U32 a) (hb : U32 b) : U32 (a ^^^ b) := Nat.xor_lt_two_pow (n := 32) ha hb
theorem U32.half {a : Nat} (ha : U32 a) : U32 (a / 2) := by unfold U32 at *; omega
theorem crcBit_lt {r : Nat} (h : U32 r) (b : Nat) : U32 (crcBit r b) := by
  unfold crcBit
  split
  · exact h.half
  · exact h.half.xor poly_lt
theorem crcBits_lt {r : Nat} (h : U32 r) (c k : Nat) : U32 (crcBits r c k) := by
  induction k with
  | zero => exact h
  | succ k ih => exact crcBit_lt ih _
theorem crcL_lt {r : Nat} (h : U32 r) (l : List UInt8) : U32 (crcL r l) := by
  induction l generalizing r with
  | nil => exact h
  | cons c l ih => exact ih (crcBits_lt h _ _)
theorem crcL_snoc (r : Nat) (l : List UInt8) (c : UInt8) : crcL r (l ++ [c]) = crcBits (crcL r l) c.toNat 8 := by simp [crcL]
theorem crcL_take_succ (r : Nat) (l : List UInt8) (k : Nat) (h : k < l.length) : crcL r (l.take (k + 1)) = crcBits (crcL r (l.take k)) (l[k]).toNat 8 := by
  rw [List.take_succ_eq_append_getElem h, crcL_snoc]
theorem crcOn_lt (s : Nat) (l : List UInt8) : U32 (crcOn s l) := by unfold crcOn U32; omega
theorem U32.comp (s : Nat) : U32 (4294967295 - s) := by unfold U32; omega
end Go.Proofs.Ytfddfgonhgidbaa
