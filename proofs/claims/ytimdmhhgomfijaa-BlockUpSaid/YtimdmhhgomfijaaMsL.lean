/- Messages of SDO transfers, plain: their forms, their bytes. No program in sight. -/
import Derived.Test.YtimdmhhgomfijaaBase
namespace Go.Proofs.Ytimdmhhgomfijaa
set_option linter.unusedVariables false
set_option linter.unusedSimpArgs false
set_option linter.unnecessarySimpa false
open Go.RowKit

structure Ms where
  kind : Int
  ix : Int
  sub : Int
  tg : Bool
  la : Bool
  cr : Bool
  sz : Bool
  size : Nat
  code : Nat
  data : List UInt8
  sq : Int
  bl : Int
  em : Int
  sum : Nat
  deriving DecidableEq
def msV (M : Ms) (A : Option Addr) (n c : Nat) : Array Value := #[.int .i64 M.kind, .int .i64 M.ix, .int .i64 M.sub, .bool M.tg, .bool M.la, .bool M.cr, .bool M.sz, .int .u32 (M.size : Nat), .int .u32 (M.code : Nat), .slice A n c, .int .i64 M.sq, .int .i64 M.bl, .int .i64 M.em, .int .u16 (M.sum : Nat)]
def msZ : Ms := ⟨0, 0, 0, false, false, false, false, 0, 0, [], 0, 0, 0, 0⟩
/-- a form's number, by the kind -/
def formI (k : Int) : Int := if k = 1 then 1 else if k = 2 then 2 else if k = 14 then 2 else if k = 3 then 3 else if k = 15 then 3 else if k = 4 then 4 else if k = 12 then 4 else if k = 5 then 5 else if k = 13 then 5 else
  if k = 6 then 6 else if k = 19 then 6 else if k = 7 then 7 else if k = 20 then 7 else if k = 8 then 8 else if k = 16 then 8 else if k = 10 then 9 else if k = 17 then 9 else if k = 9 then 10 else if k = 11 then 10 else if k = 18 then 10 else if k = 21 then 11 else 0
def firstI (k : Int) : Int := if k = 1 then 128 else if k = 2 then 32 else if k = 14 then 64 else if k = 3 then 0 else if k = 15 then 0 else if k = 4 then 64 else if k = 12 then 96 else if k = 5 then 96 else if k = 13 then 32 else
  if k = 6 then 192 else if k = 19 then 192 else if k = 7 then 193 else if k = 20 then 193 else if k = 8 then 160 else if k = 16 then 160 else if k = 10 then 162 else if k = 17 then 162 else if k = 9 then 163 else if k = 11 then 161 else if k = 18 then 161 else 0
def placedB (f : Int) : Bool := decide (f = 1) || decide (f = 2) || decide (f = 4) || decide (f = 6) || decide (f = 8)
def dataB (f : Int) : Bool := decide (f = 2) || decide (f = 3) || decide (f = 11)
theorem form_range (k : Int) : 0 ≤ formI k ∧ formI k ≤ 11 := by unfold formI; (repeat' split) <;> omega
theorem form_zero (k : Int) (h : k < 1 ∨ 21 < k) : formI k = 0 := by unfold formI; (repeat' split) <;> omega
theorem form_pos (k : Int) (h : 1 ≤ k) (h2 : k ≤ 21) : formI k ≠ 0 := by
  have : k = 1 ∨ k = 2 ∨ k = 3 ∨ k = 4 ∨ k = 5 ∨ k = 6 ∨ k = 7 ∨ k = 8 ∨ k = 9 ∨ k = 10 ∨ k = 11 ∨ k = 12 ∨ k = 13 ∨ k = 14 ∨ k = 15 ∨ k = 16 ∨ k = 17 ∨ k = 18 ∨ k = 19 ∨ k = 20 ∨ k = 21 := by omega
  rcases this with rfl | rfl | rfl | rfl | rfl | rfl | rfl | rfl | rfl | rfl | rfl | rfl | rfl | rfl | rfl | rfl | rfl | rfl | rfl | rfl | rfl <;> decide
/-- a message with just the fields of a form -/
def onlyM (f : Int) (M : Ms) : Ms where
  kind := M.kind
  ix := if placedB f = true then M.ix else 0
  sub := if placedB f = true then M.sub else 0
  tg := if f = 3 ∨ f = 5 then M.tg else false
  la := if f = 3 ∨ f = 11 then M.la else false
  cr := if f = 6 ∨ f = 8 then M.cr else false
  sz := if f = 2 ∨ f = 6 then M.sz else false
  size := if f = 2 ∧ M.data = [] ∧ M.sz = true ∨ f = 6 ∧ M.sz = true then M.size else 0
  code := if f = 1 then M.code else 0
  data := if dataB f = true then M.data else []
  sq := if f = 9 ∨ f = 11 then M.sq else 0
  bl := if f = 8 ∨ f = 9 then M.bl else 0
  em := if f = 7 then M.em else 0
  sum := if f = 7 then M.sum else 0
def numsB (M N : Ms) : Bool := decide (M.kind = N.kind) && decide (M.ix = N.ix) && decide (M.sub = N.sub) && decide (M.sq = N.sq) && decide (M.bl = N.bl) && decide (M.em = N.em)
def flagB (M N : Ms) : Bool := decide (M.tg = N.tg) && decide (M.la = N.la) && decide (M.cr = N.cr) && decide (M.sz = N.sz)
def sameB (M N : Ms) : Bool := decide (M = N)
end Go.Proofs.Ytimdmhhgomfijaa
