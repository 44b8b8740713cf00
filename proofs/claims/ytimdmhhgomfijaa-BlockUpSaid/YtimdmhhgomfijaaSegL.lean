/- The server's side of transfers in segments, plain: its state, what each message does. No program in sight. -/
import Derived.Test.YtimdmhhgomfijaaMsL
import Derived.Test.YtimdmhhgomfijaaDictL
namespace Go.Proofs.Ytimdmhhgomfijaa
set_option linter.unusedVariables false
set_option linter.unusedSimpArgs false
set_option linter.unnecessarySimpa false
open Go.RowKit
/-- what a server has: what it does (0 idle, 1 takes, 2 gives, 3 waits), its place, the most bytes, the size told (-1: none), its bytes, the next toggle, what it sends if all is well -/
structure SegS where
  st : Int
  ix : Int
  sub : Int
  mo : Int
  sz : Int
  b : List UInt8
  tg : Bool
  wk : Int
  wi : Int
  ws : Int
  wt : Bool
/-- what comes of a message: messages, and whether a write is told, and which -/
structure SegO where
  ms : List Ms
  wr : Bool
  ix : Int
  sub : Int
  b : List UInt8
def segZ : SegS := ⟨0, 0, 0, 0, 0, [], false, 0, 0, 0, false⟩
def outZ : SegO := ⟨[], false, 0, 0, []⟩
def outM (M : Ms) : SegO := ⟨[M], false, 0, 0, []⟩
def outL (l : List Ms) : SegO := ⟨l, false, 0, 0, []⟩
def mostE (E : Ent) : Int := if 0 < tyBits E.ty then tySize E.ty else if E.mx < 0 then 0 else if 256 < E.mx then 256 else E.mx
def fitsC (E : Ent) (n : Int) : Int := if mostE E < n then 101122066 else if n < tySize E.ty then 101122067 else 0
/-- why a place may not be written -/
def smayC (L : List Ent) (ix sub : Int) : Int := if codeL L ix sub = 0 then writeE (entK L (locK L ix sub)).acc else codeL L ix sub
def abM (ix sub : Int) (code : Nat) : Ms := ⟨1, ix, sub, false, false, false, false, 0, code, [], 0, 0, 0, 0⟩
def okM (k ix sub : Int) (tg : Bool) : Ms := ⟨k, ix, sub, tg, false, false, false, 0, 0, [], 0, 0, 0, 0⟩
def upM (ix sub : Int) (size : Nat) (data : List UInt8) : Ms := ⟨14, ix, sub, false, false, false, true, size, 0, data, 0, 0, 0, 0⟩
def segM (tg la : Bool) (data : List UInt8) : Ms := ⟨15, 0, 0, tg, la, false, false, 0, 0, data, 0, 0, 0, 0⟩
def wellM (S : SegS) : Ms := okM S.wk S.wi S.ws S.wt
def segIdle (S : SegS) : SegS := { S with st := 0 }
def abortS (S : SegS) : SegS := { S with st := 0 }
def abortL (S : SegS) (code : Nat) : List Ms := if S.st = 0 then [] else [abM S.ix S.sub code]
def answerS (S : SegS) : SegS := if S.st = 3 then { S with st := 0 } else S
def answerL (S : SegS) (code : Nat) : List Ms := if S.st = 3 then (if code ≠ 0 then [abM S.ix S.sub code] else [wellM S]) else []
def dcode (L : List Ent) (M : Ms) : Int := if smayC L M.ix M.sub = 0 ∧ M.sz = true ∧ M.data = [] then fitsC (entK L (locK L M.ix M.sub)) M.size else smayC L M.ix M.sub
def downS (L : List Ent) (S : SegS) (M : Ms) : SegS :=
  if dcode L M ≠ 0 then S else
  if M.data ≠ [] then { S with st := 3, ix := M.ix, sub := M.sub, wk := 12, wi := M.ix, ws := M.sub, wt := false }
  else { S with st := 1, ix := M.ix, sub := M.sub, mo := mostE (entK L (locK L M.ix M.sub)), sz := if M.sz = true then M.size else -1, b := [], tg := false }
def downO (L : List Ent) (M : Ms) : SegO :=
  if dcode L M ≠ 0 then outM (abM M.ix M.sub (dcode L M).toNat) else
  if M.data ≠ [] then ⟨[], true, M.ix, M.sub, M.data⟩
  else outM (okM 12 M.ix M.sub false)
/-- what is wrong of a segment that has come -/
def pcode (S : SegS) (M : Ms) : Int := if M.tg ≠ S.tg then 84082688 else if S.mo < ((S.b ++ M.data).length : Int) ∨ (S.sz ≠ -1 ∧ S.sz < ((S.b ++ M.data).length : Int)) then 101122066 else if M.la = true ∧ S.sz ≠ -1 ∧ ((S.b ++ M.data).length : Int) ≠ S.sz then 101122064 else 0
def partS (S : SegS) (M : Ms) : SegS :=
  if M.tg ≠ S.tg then { S with st := 0 } else if pcode S M ≠ 0 then { S with st := 0, tg := !S.tg, b := S.b ++ M.data } else
  if M.la = true then { S with st := 3, tg := !S.tg, b := S.b ++ M.data, wk := 13, wi := 0, ws := 0, wt := M.tg } else { S with tg := !S.tg, b := S.b ++ M.data }
def partO (S : SegS) (M : Ms) : SegO :=
  if pcode S M ≠ 0 then outL (abortL S (pcode S M).toNat) else
  if M.la = true then ⟨[], true, S.ix, S.sub, S.b ++ M.data⟩ else outM (okM 13 0 0 M.tg)
def getB (L : List Ent) (V : List (List UInt8)) (ix sub : Int) : List UInt8 := if getC L ix sub = 0 then valK V (locK L ix sub) else []
def upS (L : List Ent) (V : List (List UInt8)) (S : SegS) (M : Ms) : SegS :=
  if getC L M.ix M.sub ≠ 0 then S else
  if 0 < (getB L V M.ix M.sub).length ∧ (getB L V M.ix M.sub).length ≤ 4 then S
  else { S with st := 2, ix := M.ix, sub := M.sub, b := getB L V M.ix M.sub, tg := false }
def upO (L : List Ent) (V : List (List UInt8)) (M : Ms) : SegO :=
  if getC L M.ix M.sub ≠ 0 then outM (abM M.ix M.sub (getC L M.ix M.sub).toNat) else
  if 0 < (getB L V M.ix M.sub).length ∧ (getB L V M.ix M.sub).length ≤ 4 then outM (upM M.ix M.sub 0 (getB L V M.ix M.sub))
  else outM (upM M.ix M.sub (getB L V M.ix M.sub).length [])
def nextS (S : SegS) (M : Ms) : SegS :=
  if M.tg ≠ S.tg then { S with st := 0 } else if S.b.length ≤ 7 then { S with st := 0, tg := !S.tg, b := [] } else { S with tg := !S.tg, b := S.b.drop 7 }
def nextO (S : SegS) (M : Ms) : SegO :=
  if M.tg ≠ S.tg then outL (abortL S 84082688) else outM (segM M.tg (decide (S.b.length ≤ 7)) (S.b.take 7))
/-- what a message finds: a write that was told is none any more -/
def wokeS (S : SegS) : SegS := if S.st = 3 then { S with st := 0 } else S
def recvS (L : List Ent) (V : List (List UInt8)) (S : SegS) (M : Ms) : SegS :=
  if M.kind = 1 then segIdle S else if M.kind = 2 then downS L (segIdle S) M else if M.kind = 4 then upS L V (segIdle S) M else
  if M.kind = 3 ∧ S.st = 1 then partS S M else if M.kind = 5 ∧ S.st = 2 then nextS S M else segIdle S
def recvO (L : List Ent) (V : List (List UInt8)) (S : SegS) (M : Ms) : SegO :=
  if M.kind = 1 then outZ else if M.kind = 2 then downO L M else if M.kind = 4 then upO L V M else
  if M.kind = 3 ∧ S.st = 1 then partO S M else if M.kind = 5 ∧ S.st = 2 then nextO S M else
  if (wokeS S).st ≠ 0 then outM (abM S.ix S.sub 84148225) else outM (abM 0 0 84148225)
end Go.Proofs.Ytimdmhhgomfijaa
