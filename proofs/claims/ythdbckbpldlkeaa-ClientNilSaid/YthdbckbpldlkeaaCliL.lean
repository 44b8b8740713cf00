/- A client of an SDO server, plain: its state, what it sends, what each frame does. No program in sight. -/
import Derived.Test.YthdbckbpldlkeaaBlkL
import Derived.Test.YthdbckbpldlkeaaSdG
namespace Go.Proofs.Ythdbckbpldlkeaa
set_option linter.unusedVariables false
set_option linter.unusedSimpArgs false
set_option linter.unnecessarySimpa false
/-- a frame -/
structure Frm where
  id : Int
  re : Bool
  data : List UInt8
  deriving DecidableEq
/-- what a client has: its node, the kind of message that it waits for (0: none), its place, its bytes, how many are done, the row, the next toggle, what the server said of an upload (sum, size told, size), the code of the last transfer, what was read -/
structure CliS where
  nd : Int
  wk : Int
  ix : Int
  sub : Int
  b : List UInt8
  at_ : Int
  ro : Int
  tg : Bool
  ec : Bool
  es : Bool
  en : Nat
  code : Nat
  data : List UInt8
def cliZ (nd : Int) : CliS := ⟨nd, 0, 0, 0, [], 0, 0, false, false, false, 0, 0, []⟩
/-- messages as frames of an Id -/
def frmL (id : Int) (l : List Ms) : List Frm := (l.filter canB).map fun M => ⟨id, false, laidB M⟩
def cSend (S : CliS) (l : List Ms) : List Frm := frmL (1536 + S.nd) l
def cEnd (S : CliS) (code : Nat) (b : List UInt8) : CliS := { S with wk := 0, code := code, data := b }
def cFailL (S : CliS) (code : Nat) : List Frm := cSend S [abM S.ix S.sub code]
def cBegB (ix sub mode : Int) : Bool := decide (0 ≤ ix ∧ ix ≤ 65535 ∧ 0 ≤ sub ∧ sub ≤ 255 ∧ 0 ≤ mode ∧ mode ≤ 2)
def cBegS (S : CliS) (ix sub : Int) : CliS := { S with wk := 0, ix := ix, sub := sub, b := [], at_ := 0, ro := 0, tg := false, code := 0, data := [] }
def downM (ix sub : Int) (sz : Bool) (size : Nat) (data : List UInt8) : Ms := ⟨2, ix, sub, false, false, false, sz, size, 0, data, 0, 0, 0, 0⟩
def dsegM (tg la : Bool) (data : List UInt8) : Ms := ⟨3, 0, 0, tg, la, false, false, 0, 0, data, 0, 0, 0, 0⟩
def uplM (ix sub : Int) : Ms := ⟨4, ix, sub, false, false, false, false, 0, 0, [], 0, 0, 0, 0⟩
def usegM (tg : Bool) : Ms := ⟨5, 0, 0, tg, false, false, false, 0, 0, [], 0, 0, 0, 0⟩
def bdnM (ix sub : Int) (size : Nat) : Ms := ⟨6, ix, sub, false, false, true, true, size, 0, [], 0, 0, 0, 0⟩
def bdeM (em : Int) (sum : Nat) : Ms := ⟨7, 0, 0, false, false, false, false, 0, 0, [], 0, 0, em, sum⟩
def buM (ix sub : Int) : Ms := ⟨8, ix, sub, false, false, true, false, 0, 0, [], 0, 32, 0, 0⟩
def busM : Ms := ⟨9, 0, 0, false, false, false, false, 0, 0, [], 0, 0, 0, 0⟩
def buaM (sq : Int) : Ms := ⟨10, 0, 0, false, false, false, false, 0, 0, [], sq, 32, 0, 0⟩
def bueM : Ms := ⟨11, 0, 0, false, false, false, false, 0, 0, [], 0, 0, 0, 0⟩
def cWriteS (S : CliS) (ix sub : Int) (b : List UInt8) (mode : Int) : CliS :=
  if cBegB ix sub mode = false then S else
  if mode = 2 then { cBegS S ix sub with b := b, wk := 16 } else
  if mode = 0 ∧ 0 < b.length ∧ b.length ≤ 4 then { cBegS S ix sub with b := b, wk := 12, at_ := (b.length : Int) + 1 } else
  { cBegS S ix sub with b := b, wk := 12 }
def cWriteL (S : CliS) (ix sub : Int) (b : List UInt8) (mode : Int) : List Frm :=
  if cBegB ix sub mode = false then [] else
  if mode = 2 then cSend S [bdnM ix sub b.length] else
  if mode = 0 ∧ 0 < b.length ∧ b.length ≤ 4 then cSend S [downM ix sub true 0 b] else cSend S [downM ix sub true b.length []]
def cReadS (S : CliS) (ix sub mode : Int) : CliS :=
  if cBegB ix sub mode = false then S else if mode = 2 then { cBegS S ix sub with wk := 19 } else { cBegS S ix sub with wk := 14 }
def cReadL (S : CliS) (ix sub mode : Int) : List Frm :=
  if cBegB ix sub mode = false then [] else if mode = 2 then cSend S [buM ix sub] else cSend S [uplM ix sub]
/-- the next segment of a download -/
def cTo (S : CliS) : Int := min (S.b.length : Int) (S.at_ + 7)
def cLa (S : CliS) : Bool := decide (cTo S = (S.b.length : Int))
def cSegS (S : CliS) : CliS := if (S.b.length : Int) < S.at_ then cEnd S 0 [] else { S with at_ := if cLa S = true then cTo S + 1 else cTo S, wk := 13 }
def cSegD (S : CliS) : List UInt8 := (S.b.drop S.at_.toNat).take (cTo S - S.at_).toNat
def cSegL (S : CliS) : List Frm := if (S.b.length : Int) < S.at_ then [] else cSend S [dsegM S.tg (cLa S) (cSegD S)]
/-- a row of a download, or its end -/
def cRowN (S : CliS) (most : Int) : Int := min most ((btotal S.b : Int) - S.at_)
def cRowsS (S : CliS) (most : Int) : CliS := if (btotal S.b : Int) ≤ S.at_ then { S with wk := 18 } else { S with ro := cRowN S most, wk := 17 }
/-- the messages of a row as far as k -/
def crowT (tot h : Nat) (b : List UInt8) (k : Nat) : List Ms := (List.range k).map fun (i : Nat) => bsegM ((i : Int) + 1) (decide ((h : Int) + (i : Int) + 1 = (tot : Int))) (bpiece b (h + i))
def cRowM (S : CliS) (most : Int) : List Ms := crowT (btotal S.b) S.at_.toNat S.b (cRowN S most).toNat
def cRowsL (S : CliS) (most : Int) : List Frm :=
  if (btotal S.b : Int) ≤ S.at_ then cSend S [bdeM (7 * (btotal S.b : Int) - S.b.length) (sum16L S.b)] else cSend S (cRowM S most)
/-- the segments of an upload -/
def cMoreS (S : CliS) : CliS := { S with wk := 15 }
def cMoreL (S : CliS) : List Frm := cSend S [usegM S.tg]
def cSzB (S : CliS) (n : Int) : Bool := !S.es || decide (n = (S.en : Int))
def cPcA (S : CliS) (M : Ms) : CliS := { S with b := S.b ++ M.data, tg := !S.tg }
def cPcS (S : CliS) (M : Ms) : CliS :=
  if M.la = false then cMoreS (cPcA S M) else if cSzB S ((S.b ++ M.data).length : Int) = false then cEnd (cPcA S M) 101122064 [] else cEnd (cPcA S M) 0 (S.b ++ M.data)
def cPcL (S : CliS) (M : Ms) : List Frm :=
  if M.la = false then cMoreL (cPcA S M) else if cSzB S ((S.b ++ M.data).length : Int) = false then cFailL S 101122064 else []
/-- a segment of a row of an upload -/
def cTkA (S : CliS) (M : Ms) : CliS := if M.sq = S.ro + 1 then { S with b := S.b ++ M.data, ro := S.ro + 1, wk := if M.la = true then 20 else S.wk } else S
def cTkS (S : CliS) (M : Ms) : CliS := if M.sq ≠ 32 ∧ M.la = false then cTkA S M else { cTkA S M with ro := 0 }
def cTkL (S : CliS) (M : Ms) : List Frm := if M.sq ≠ 32 ∧ M.la = false then [] else cSend S [buaM (cTkA S M).ro]
/-- the end of an upload by rows -/
def cLsB (S : CliS) (M : Ms) : List UInt8 := S.b.take (S.b.length - M.em.toNat)
def cLsC (S : CliS) (M : Ms) : Nat := if S.ec = true ∧ sum16L (cLsB S M) ≠ M.sum then 84148228 else if (S.b.length : Int) < M.em ∨ cSzB S ((S.b.length : Int) - M.em) = false then 101122064 else 0
def cLsS (S : CliS) (M : Ms) : CliS := if cLsC S M ≠ 0 then cEnd S (cLsC S M) [] else cEnd S 0 (cLsB S M)
def cLsL (S : CliS) (M : Ms) : List Frm := if cLsC S M ≠ 0 then cFailL S (cLsC S M) else cSend S [bueM]
def cFitB (S : CliS) (M : Ms) : Bool :=
  decide (S.wk = M.kind) && (
  if M.kind = 12 ∨ M.kind = 14 ∨ M.kind = 19 then decide (M.ix = S.ix) && decide (M.sub = S.sub)
  else if M.kind = 16 then decide (M.ix = S.ix) && decide (M.sub = S.sub) && decide (0 < M.bl)
  else if M.kind = 13 ∨ M.kind = 15 then M.tg == S.tg
  else if M.kind = 17 then decide (0 < M.bl) && decide (M.sq ≤ S.ro) else true)
def cExp (S : CliS) (M : Ms) : CliS := { S with ec := M.cr, es := M.sz, en := M.size }
def cStepS (S : CliS) (M : Ms) : CliS :=
  if M.kind = 12 then cSegS S else if M.kind = 13 then cSegS { S with tg := !S.tg }
  else if M.kind = 14 then (if M.data ≠ [] then cEnd (cExp S M) 0 M.data else cMoreS (cExp S M))
  else if M.kind = 15 then cPcS S M else if M.kind = 16 then cRowsS S M.bl else if M.kind = 17 then cRowsS { S with at_ := S.at_ + M.sq } M.bl
  else if M.kind = 19 then { cExp S M with wk := 21 } else if M.kind = 21 then cTkS S M else if M.kind = 20 then cLsS S M else cEnd S 0 []
def cStepL (S : CliS) (M : Ms) : List Frm :=
  if M.kind = 12 then cSegL S else if M.kind = 13 then cSegL { S with tg := !S.tg }
  else if M.kind = 14 then (if M.data ≠ [] then [] else cMoreL S)
  else if M.kind = 15 then cPcL S M else if M.kind = 16 then cRowsL S M.bl else if M.kind = 17 then cRowsL { S with at_ := S.at_ + M.sq } M.bl
  else if M.kind = 19 then cSend S [busM] else if M.kind = 21 then cTkL S M else if M.kind = 20 then cLsL S M else []
/-- the message of a frame's bytes -/
def cKs (S : CliS) (b : List UInt8) : List Int := if S.wk = 21 ∧ b.headD 0 ≠ 128 then segK else ansK
def cRecvS (S : CliS) (f : Frm) : CliS :=
  if S.wk = 0 ∨ f.id ≠ 1408 + S.nd ∨ f.re = true ∨ f.data.length ≠ 8 then S else
  if errI (cKs S f.data) f.data = 0 ∧ (resM (cKs S f.data) f.data).kind = 1 then cEnd S (resM (cKs S f.data) f.data).code [] else
  if errI (cKs S f.data) f.data ≠ 0 ∨ cFitB S (resM (cKs S f.data) f.data) = false then cEnd S 84148225 [] else cStepS S (resM (cKs S f.data) f.data)
def cRecvL (S : CliS) (f : Frm) : List Frm :=
  if S.wk = 0 ∨ f.id ≠ 1408 + S.nd ∨ f.re = true ∨ f.data.length ≠ 8 then [] else
  if errI (cKs S f.data) f.data = 0 ∧ (resM (cKs S f.data) f.data).kind = 1 then [] else
  if errI (cKs S f.data) f.data ≠ 0 ∨ cFitB S (resM (cKs S f.data) f.data) = false then cFailL S 84148225 else cStepL S (resM (cKs S f.data) f.data)
end Go.Proofs.Ythdbckbpldlkeaa
