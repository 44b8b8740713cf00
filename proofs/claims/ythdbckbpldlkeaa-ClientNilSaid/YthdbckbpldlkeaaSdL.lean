/- Messages of SDO transfers, plain: their eight bytes. No program in sight. -/
import Derived.Test.YthdbckbpldlkeaaSegL
namespace Go.Proofs.Ythdbckbpldlkeaa
set_option linter.unusedVariables false
set_option linter.unusedSimpArgs false
set_option linter.unnecessarySimpa false
open Go.RowKit

/-- a number's lowest bytes written into bytes, at a place -/
def putL (l : List UInt8) (at_ : Nat) : Nat → Nat → List UInt8
  | 0, _ => l
  | k + 1, x => putL (l.set at_ (UInt8.ofNat x)) (at_ + 1) k (x / 256)
theorem putL_succ (l : List UInt8) (at_ k x : Nat) : putL l at_ (k + 1) x = (putL l at_ k x).set (at_ + k) (UInt8.ofNat (x / 256 ^ k)) := by
  induction k generalizing l at_ x with
  | zero => simp [putL]
  | succ k ih =>
    rw [putL, ih, putL]
    congr 1
    · omega
    · rw [Nat.div_div_eq_div_mul, Nat.pow_succ, Nat.mul_comm]
theorem putL_len (l : List UInt8) (at_ k x : Nat) : (putL l at_ k x).length = l.length := by
  induction k generalizing l at_ x with
  | zero => rfl
  | succ k ih => rw [putL, ih]; simp
/-- bytes written over bytes, from a place on -/
def cpL (l : List UInt8) (at_ : Nat) (d : List UInt8) : List UInt8 := l.take at_ ++ (d ++ (l.drop at_).drop d.length)
def z8 : List UInt8 := [0, 0, 0, 0, 0, 0, 0, 0]
def rangeB (M : Ms) : Bool := (decide (0 ≤ M.ix) && decide (M.ix ≤ 65535)) && (decide (0 ≤ M.sub) && decide (M.sub ≤ 255)) && (decide (0 ≤ M.sq) && decide (M.sq ≤ 127)) && (decide (0 ≤ M.bl) && decide (M.bl ≤ 127)) && (decide (0 ≤ M.em) && decide (M.em ≤ 7)) && decide (M.data.length ≤ 7)
def shapeB (f : Int) (M : Ms) : Bool := if f = 2 then (decide (M.data.length = 0) || decide (M.data.length = 4) || (decide (M.data.length < 4) && M.sz)) else if f = 11 then (decide (M.data.length = 7) && decide (0 < M.sq)) else true
def canB (M : Ms) : Bool := (decide (formI M.kind ≠ 0) && rangeB M) && shapeB (formI M.kind) M && sameB M (onlyM (formI M.kind) M)
/-- the bytes behind the first one -/
def plcL (M : Ms) : List UInt8 := if placedB (formI M.kind) = true then putL (putL z8 1 2 M.ix.toNat) 3 1 M.sub.toNat else z8
def bodL (f : Int) (M : Ms) : List UInt8 :=
  if f = 1 then putL (plcL M) 4 4 M.code
  else if f = 2 then (if M.data.length = 0 then putL (plcL M) 4 4 M.size else cpL (putL (plcL M) 4 4 M.size) 4 M.data)
  else if f = 3 then cpL (plcL M) 1 M.data
  else if f = 6 then putL (plcL M) 4 4 M.size
  else if f = 7 then putL (plcL M) 1 2 M.sum
  else if f = 8 then putL (plcL M) 4 1 M.bl.toNat
  else if f = 9 then putL (putL (plcL M) 1 1 M.sq.toNat) 2 1 M.bl.toNat
  else if f = 11 then cpL (plcL M) 1 M.data
  else plcL M
/-- a bit, if something is so -/
def orB (b : Bool) (x y : Nat) : Nat := if b = true then x ||| y else x
def firB (f : Int) (M : Ms) : Nat :=
  if f = 2 then (if M.data.length = 0 then orB M.sz (firstI M.kind).toNat 1 else (orB M.sz (firstI M.kind).toNat 1) ||| (2 ||| ((4 - M.data.length) * 4)))
  else if f = 3 then (orB M.la (orB M.tg (firstI M.kind).toNat 16) 1) ||| ((7 - M.data.length) * 2)
  else if f = 5 then orB M.tg (firstI M.kind).toNat 16
  else if f = 6 then orB M.sz (orB M.cr (firstI M.kind).toNat 4) 2
  else if f = 7 then (firstI M.kind).toNat ||| (M.em.toNat * 4)
  else if f = 8 then orB M.cr (firstI M.kind).toNat 4
  else if f = 11 then orB M.la M.sq.toNat 128
  else (firstI M.kind).toNat
def laidB (M : Ms) : List UInt8 := (bodL (formI M.kind) M).set 0 (UInt8.ofNat (firB (formI M.kind) M))
theorem plc_len (M : Ms) : (plcL M).length = 8 := by unfold plcL; split <;> simp [putL_len, z8]
theorem cp_len (l : List UInt8) (k : Nat) (d : List UInt8) (h : k + d.length ≤ l.length) : (cpL l k d).length = l.length := by simp [cpL]; omega
end Go.Proofs.Ythdbckbpldlkeaa
