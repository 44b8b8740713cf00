/- Messages of SDO transfers, plain: their forms, their bytes. No program in sight. -/
import Derived.Test.YthdbckbpldlkeaaBase
import Derived.Test.YthdbckbpldlkeaaEntL
namespace Go.Proofs.Ythdbckbpldlkeaa
set_option linter.unusedVariables false
set_option linter.unusedSimpArgs false
set_option linter.unnecessarySimpa false
section
open Go.RowKit

structure Ms where
  kind : Int
  ix : Int
  sub : Int
  tg : Bool
  la : Bool
  cr : Bool
  sz : Bool
  size : Nat
  code : Nat
  data : List UInt8
  sq : Int
  bl : Int
  em : Int
  sum : Nat
  deriving DecidableEq
def msV (M : Ms) (A : Option Addr) (n c : Nat) : Array Value := #[.int .i64 M.kind, .int .i64 M.ix, .int .i64 M.sub, .bool M.tg, .bool M.la, .bool M.cr, .bool M.sz, .int .u32 (M.size : Nat), .int .u32 (M.code : Nat), .slice A n c, .int .i64 M.sq, .int .i64 M.bl, .int .i64 M.em, .int .u16 (M.sum : Nat)]
def msZ : Ms := ⟨0, 0, 0, false, false, false, false, 0, 0, [], 0, 0, 0, 0⟩
/-- a form's number, by the kind -/
def formI (k : Int) : Int := if k = 1 then 1 else if k = 2 then 2 else if k = 14 then 2 else if k = 3 then 3 else if k = 15 then 3 else if k = 4 then 4 else if k = 12 then 4 else if k = 5 then 5 else if k = 13 then 5 else
  if k = 6 then 6 else if k = 19 then 6 else if k = 7 then 7 else if k = 20 then 7 else if k = 8 then 8 else if k = 16 then 8 else if k = 10 then 9 else if k = 17 then 9 else if k = 9 then 10 else if k = 11 then 10 else if k = 18 then 10 else if k = 21 then 11 else 0
def firstI (k : Int) : Int := if k = 1 then 128 else if k = 2 then 32 else if k = 14 then 64 else if k = 3 then 0 else if k = 15 then 0 else if k = 4 then 64 else if k = 12 then 96 else if k = 5 then 96 else if k = 13 then 32 else
  if k = 6 then 192 else if k = 19 then 192 else if k = 7 then 193 else if k = 20 then 193 else if k = 8 then 160 else if k = 16 then 160 else if k = 10 then 162 else if k = 17 then 162 else if k = 9 then 163 else if k = 11 then 161 else if k = 18 then 161 else 0
def placedB (f : Int) : Bool := decide (f = 1) || decide (f = 2) || decide (f = 4) || decide (f = 6) || decide (f = 8)
def dataB (f : Int) : Bool := decide (f = 2) || decide (f = 3) || decide (f = 11)
theorem form_range (k : Int) : 0 ≤ formI k ∧ formI k ≤ 11 := by unfold formI; (repeat' split) <;> omega
theorem form_zero (k : Int) (h : k < 1 ∨ 21 < k) : formI k = 0 := by unfold formI; (repeat' split) <;> omega
theorem form_pos (k : Int) (h : 1 ≤ k) (h2 : k ≤ 21) : formI k ≠ 0 := by
  have : k = 1 ∨ k = 2 ∨ k = 3 ∨ k = 4 ∨ k = 5 ∨ k = 6 ∨ k = 7 ∨ k = 8 ∨ k = 9 ∨ k = 10 ∨ k = 11 ∨ k = 12 ∨ k = 13 ∨ k = 14 ∨ k = 15 ∨ k = 16 ∨ k = 17 ∨ k = 18 ∨ k = 19 ∨ k = 20 ∨ k = 21 := by omega
  rcases this with rfl | rfl | rfl | rfl | rfl | rfl | rfl | rfl | rfl | rfl | rfl | rfl | rfl | rfl | rfl | rfl | rfl | rfl | rfl | rfl | rfl <;> decide
/-- a message with just the fields of a form -/
def onlyM (f : Int) (M : Ms) : Ms where
  kind := M.kind
  ix := if placedB f = true then M.ix else 0
  sub := if placedB f = true then M.sub else 0
  tg := if f = 3 ∨ f = 5 then M.tg else false
  la := if f = 3 ∨ f = 11 then M.la else false
  cr := if f = 6 ∨ f = 8 then M.cr else false
  sz := if f = 2 ∨ f = 6 then M.sz else false
  size := if f = 2 ∧ M.data = [] ∧ M.sz = true ∨ f = 6 ∧ M.sz = true then M.size else 0
  code := if f = 1 then M.code else 0
  data := if dataB f = true then M.data else []
  sq := if f = 9 ∨ f = 11 then M.sq else 0
  bl := if f = 8 ∨ f = 9 then M.bl else 0
  em := if f = 7 then M.em else 0
  sum := if f = 7 then M.sum else 0
def numsB (M N : Ms) : Bool := decide (M.kind = N.kind) && decide (M.ix = N.ix) && decide (M.sub = N.sub) && decide (M.sq = N.sq) && decide (M.bl = N.bl) && decide (M.em = N.em)
def flagB (M N : Ms) : Bool := decide (M.tg = N.tg) && decide (M.la = N.la) && decide (M.cr = N.cr) && decide (M.sz = N.sz)
def sameB (M N : Ms) : Bool := decide (M = N)
end
section
open Go.RowKit
/-- what a server has: what it does (0 idle, 1 takes, 2 gives, 3 waits), its place, the most bytes, the size told (-1: none), its bytes, the next toggle, what it sends if all is well -/
structure SegS where
  st : Int
  ix : Int
  sub : Int
  mo : Int
  sz : Int
  b : List UInt8
  tg : Bool
  wk : Int
  wi : Int
  ws : Int
  wt : Bool
/-- what comes of a message: messages, and whether a write is told, and which -/
structure SegO where
  ms : List Ms
  wr : Bool
  ix : Int
  sub : Int
  b : List UInt8
def segZ : SegS := ⟨0, 0, 0, 0, 0, [], false, 0, 0, 0, false⟩
def outZ : SegO := ⟨[], false, 0, 0, []⟩
def outM (M : Ms) : SegO := ⟨[M], false, 0, 0, []⟩
def outL (l : List Ms) : SegO := ⟨l, false, 0, 0, []⟩
def mostE (E : Ent) : Int := if 0 < tyBits E.ty then tySize E.ty else if E.mx < 0 then 0 else if 256 < E.mx then 256 else E.mx
def fitsC (E : Ent) (n : Int) : Int := if mostE E < n then 101122066 else if n < tySize E.ty then 101122067 else 0
/-- why a place may not be written -/
def smayC (L : List Ent) (ix sub : Int) : Int := if codeL L ix sub = 0 then writeE (entK L (locK L ix sub)).acc else codeL L ix sub
def abM (ix sub : Int) (code : Nat) : Ms := ⟨1, ix, sub, false, false, false, false, 0, code, [], 0, 0, 0, 0⟩
def okM (k ix sub : Int) (tg : Bool) : Ms := ⟨k, ix, sub, tg, false, false, false, 0, 0, [], 0, 0, 0, 0⟩
def upM (ix sub : Int) (size : Nat) (data : List UInt8) : Ms := ⟨14, ix, sub, false, false, false, true, size, 0, data, 0, 0, 0, 0⟩
def segM (tg la : Bool) (data : List UInt8) : Ms := ⟨15, 0, 0, tg, la, false, false, 0, 0, data, 0, 0, 0, 0⟩
def wellM (S : SegS) : Ms := okM S.wk S.wi S.ws S.wt
def segIdle (S : SegS) : SegS := { S with st := 0 }
def abortS (S : SegS) : SegS := { S with st := 0 }
def abortL (S : SegS) (code : Nat) : List Ms := if S.st = 0 then [] else [abM S.ix S.sub code]
def answerS (S : SegS) : SegS := if S.st = 3 then { S with st := 0 } else S
def answerL (S : SegS) (code : Nat) : List Ms := if S.st = 3 then (if code ≠ 0 then [abM S.ix S.sub code] else [wellM S]) else []
def dcode (L : List Ent) (M : Ms) : Int := if smayC L M.ix M.sub = 0 ∧ M.sz = true ∧ M.data = [] then fitsC (entK L (locK L M.ix M.sub)) M.size else smayC L M.ix M.sub
def downS (L : List Ent) (S : SegS) (M : Ms) : SegS :=
  if dcode L M ≠ 0 then S else
  if M.data ≠ [] then { S with st := 3, ix := M.ix, sub := M.sub, wk := 12, wi := M.ix, ws := M.sub, wt := false }
  else { S with st := 1, ix := M.ix, sub := M.sub, mo := mostE (entK L (locK L M.ix M.sub)), sz := if M.sz = true then M.size else -1, b := [], tg := false }
def downO (L : List Ent) (M : Ms) : SegO :=
  if dcode L M ≠ 0 then outM (abM M.ix M.sub (dcode L M).toNat) else
  if M.data ≠ [] then ⟨[], true, M.ix, M.sub, M.data⟩
  else outM (okM 12 M.ix M.sub false)
/-- what is wrong of a segment that has come -/
def pcode (S : SegS) (M : Ms) : Int := if M.tg ≠ S.tg then 84082688 else if S.mo < ((S.b ++ M.data).length : Int) ∨ (S.sz ≠ -1 ∧ S.sz < ((S.b ++ M.data).length : Int)) then 101122066 else if M.la = true ∧ S.sz ≠ -1 ∧ ((S.b ++ M.data).length : Int) ≠ S.sz then 101122064 else 0
def partS (S : SegS) (M : Ms) : SegS :=
  if M.tg ≠ S.tg then { S with st := 0 } else if pcode S M ≠ 0 then { S with st := 0, tg := !S.tg, b := S.b ++ M.data } else
  if M.la = true then { S with st := 3, tg := !S.tg, b := S.b ++ M.data, wk := 13, wi := 0, ws := 0, wt := M.tg } else { S with tg := !S.tg, b := S.b ++ M.data }
def partO (S : SegS) (M : Ms) : SegO :=
  if pcode S M ≠ 0 then outL (abortL S (pcode S M).toNat) else
  if M.la = true then ⟨[], true, S.ix, S.sub, S.b ++ M.data⟩ else outM (okM 13 0 0 M.tg)
def getB (L : List Ent) (V : List (List UInt8)) (ix sub : Int) : List UInt8 := if getC L ix sub = 0 then valK V (locK L ix sub) else []
def upS (L : List Ent) (V : List (List UInt8)) (S : SegS) (M : Ms) : SegS :=
  if getC L M.ix M.sub ≠ 0 then S else
  if 0 < (getB L V M.ix M.sub).length ∧ (getB L V M.ix M.sub).length ≤ 4 then S
  else { S with st := 2, ix := M.ix, sub := M.sub, b := getB L V M.ix M.sub, tg := false }
def upO (L : List Ent) (V : List (List UInt8)) (M : Ms) : SegO :=
  if getC L M.ix M.sub ≠ 0 then outM (abM M.ix M.sub (getC L M.ix M.sub).toNat) else
  if 0 < (getB L V M.ix M.sub).length ∧ (getB L V M.ix M.sub).length ≤ 4 then outM (upM M.ix M.sub 0 (getB L V M.ix M.sub))
  else outM (upM M.ix M.sub (getB L V M.ix M.sub).length [])
def nextS (S : SegS) (M : Ms) : SegS :=
  if M.tg ≠ S.tg then { S with st := 0 } else if S.b.length ≤ 7 then { S with st := 0, tg := !S.tg, b := [] } else { S with tg := !S.tg, b := S.b.drop 7 }
def nextO (S : SegS) (M : Ms) : SegO :=
  if M.tg ≠ S.tg then outL (abortL S 84082688) else outM (segM M.tg (decide (S.b.length ≤ 7)) (S.b.take 7))
/-- what a message finds: a write that was told is none any more -/
def wokeS (S : SegS) : SegS := if S.st = 3 then { S with st := 0 } else S
def recvS (L : List Ent) (V : List (List UInt8)) (S : SegS) (M : Ms) : SegS :=
  if M.kind = 1 then segIdle S else if M.kind = 2 then downS L (segIdle S) M else if M.kind = 4 then upS L V (segIdle S) M else
  if M.kind = 3 ∧ S.st = 1 then partS S M else if M.kind = 5 ∧ S.st = 2 then nextS S M else segIdle S
def recvO (L : List Ent) (V : List (List UInt8)) (S : SegS) (M : Ms) : SegO :=
  if M.kind = 1 then outZ else if M.kind = 2 then downO L M else if M.kind = 4 then upO L V M else
  if M.kind = 3 ∧ S.st = 1 then partO S M else if M.kind = 5 ∧ S.st = 2 then nextO S M else
  if (wokeS S).st ≠ 0 then outM (abM S.ix S.sub 84148225) else outM (abM 0 0 84148225)
end
end Go.Proofs.Ythdbckbpldlkeaa
