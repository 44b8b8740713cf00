/- The server's side of block transfers, plain: its state, what each message does. No program in sight. -/
import Derived.Test.YthdbckbpldlkeaaSegL
import Derived.Test.YthdbckbpldlkeaaCrcP
namespace Go.Proofs.Ythdbckbpldlkeaa
set_option linter.unusedVariables false
set_option linter.unusedSimpArgs false
set_option linter.unnecessarySimpa false
/-- what a server has: of a download the most bytes, the size told (-1: none), the segment that is next; of an upload how many segments the client has, how many it takes, and how many the row has; what it does (0 idle, 1 open, 2 closed, 3 waits, 4 begun, 5 gave, 6 ending), its place, its bytes, is a sum asked -/
structure BlkS where
  mo : Int
  sz : Int
  nx : Int
  ha : Int
  ta : Int
  ro : Int
  st : Int
  ix : Int
  sub : Int
  b : List UInt8
  sm : Bool
def blkZ : BlkS := ⟨0, 0, 0, 0, 0, 0, 0, 0, 0, [], false⟩
def blkIdle (S : BlkS) : BlkS := { S with st := 0 }
def bAbortL (S : BlkS) (code : Nat) : List Ms := if S.st = 0 then [] else [abM S.ix S.sub code]
def bAnswerS (S : BlkS) : BlkS := if S.st = 3 then { S with st := 0 } else S
def bAnswerL (S : BlkS) (code : Nat) : List Ms := if S.st = 3 then (if code ≠ 0 then [abM S.ix S.sub code] else [okM 18 0 0 false]) else []
def bokM (ix sub : Int) : Ms := ⟨16, ix, sub, false, false, true, false, 0, 0, [], 0, 16, 0, 0⟩
def ackM (sq : Int) : Ms := ⟨17, 0, 0, false, false, false, false, 0, 0, [], sq, 16, 0, 0⟩
def bupM (ix sub : Int) (size : Nat) : Ms := ⟨19, ix, sub, false, false, true, true, size, 0, [], 0, 0, 0, 0⟩
def bendM (em : Int) (sum : Nat) : Ms := ⟨20, 0, 0, false, false, false, false, 0, 0, [], 0, 0, em, sum⟩
def bsegM (sq : Int) (la : Bool) (data : List UInt8) : Ms := ⟨21, 0, 0, false, la, false, false, 0, 0, data, sq, 0, 0, 0⟩
def bdcode (L : List Ent) (M : Ms) : Int := if smayC L M.ix M.sub = 0 ∧ M.sz = true then fitsC (entK L (locK L M.ix M.sub)) M.size else smayC L M.ix M.sub
def bdownS (L : List Ent) (S : BlkS) (M : Ms) : BlkS :=
  if bdcode L M ≠ 0 then S else ⟨mostE (entK L (locK L M.ix M.sub)), (if M.sz = true then M.size else -1), 1, S.ha, S.ta, S.ro, 1, M.ix, M.sub, [], M.cr⟩
def bdownO (L : List Ent) (M : Ms) : SegO := if bdcode L M ≠ 0 then outM (abM M.ix M.sub (bdcode L M).toNat) else outM (bokM M.ix M.sub)
/-- a segment that is next is taken -/
def btake (S : BlkS) (M : Ms) : BlkS := if M.sq = S.nx then { S with st := if M.la = true then 2 else 1, b := S.b ++ M.data, nx := S.nx + 1 } else S
def bpcode (S : BlkS) (M : Ms) : Int := if 16 < M.sq then 84148227 else if M.sq = S.nx ∧ S.mo + 7 < ((S.b ++ M.data).length : Int) then 101122066 else 0
def bpartS (S : BlkS) (M : Ms) : BlkS :=
  if 16 < M.sq then { S with st := 0 } else if bpcode S M ≠ 0 then { btake S M with st := 0 } else
  if M.sq < 16 ∧ M.la = false then btake S M else { btake S M with nx := 1 }
def bpartO (S : BlkS) (M : Ms) : SegO :=
  if bpcode S M ≠ 0 then outL (bAbortL S (bpcode S M).toNat) else
  if M.sq < 16 ∧ M.la = false then outZ else outM (ackM ((btake S M).nx - 1))
/-- the bytes of a download that ends -/
def bendB (S : BlkS) (M : Ms) : List UInt8 := S.b.take (S.b.length - M.em.toNat)
def becode (S : BlkS) (M : Ms) : Int :=
  if S.sm = true ∧ sum16L (bendB S M) ≠ M.sum then 84148228 else if S.sz ≠ -1 ∧ S.sz ≠ ((bendB S M).length : Int) then 101122064 else if S.mo < ((bendB S M).length : Int) then 101122066 else 0
def bendS (S : BlkS) (M : Ms) : BlkS := if becode S M ≠ 0 then { S with st := 0 } else { S with st := 3 }
def bendO (S : BlkS) (M : Ms) : SegO := if becode S M ≠ 0 then outL (bAbortL S (becode S M).toNat) else ⟨[], true, S.ix, S.sub, bendB S M⟩
def bucode (L : List Ent) (M : Ms) : Int := if M.bl = 0 then 84148226 else getC L M.ix M.sub
def bupS (L : List Ent) (V : List (List UInt8)) (S : BlkS) (M : Ms) : BlkS :=
  if bucode L M ≠ 0 then S else ⟨S.mo, S.sz, S.nx, 0, M.bl, 0, 4, M.ix, M.sub, getB L V M.ix M.sub, M.cr⟩
def bupO (L : List Ent) (V : List (List UInt8)) (M : Ms) : SegO := if bucode L M ≠ 0 then outM (abM M.ix M.sub (bucode L M).toNat) else outM (bupM M.ix M.sub (getB L V M.ix M.sub).length)
def btotal (b : List UInt8) : Nat := max 1 ((b.length + 6) / 7)
theorem btot22 (B : List UInt8) (n : Nat) (hn : n = B.length) : (btotal B : Int) = if ((n : Int) + 6) / 7 < 1 then 1 else ((n : Int) + 6) / 7 := by
  unfold btotal
  rw [← hn]
  split <;> omega
/-- seven bytes from a place on, noughts behind -/
def bpiece (b : List UInt8) (k : Nat) : List UInt8 := ((b.drop (7 * k)).take 7) ++ List.replicate (7 - (b.length - 7 * k)) 0
def browN (S : BlkS) : Int := min S.ta ((btotal S.b : Int) - S.ha)
def bgiveS (S : BlkS) : BlkS := { S with st := 5, ro := browN S }
def bgiveL (S : BlkS) : List Ms := (List.range (browN S).toNat).map fun (i : Nat) => bsegM ((i : Int) + 1) (decide (S.ha + i + 1 = (btotal S.b : Int))) (bpiece S.b (S.ha.toNat + i))
def backS1 (S : BlkS) (M : Ms) : BlkS := { S with ha := S.ha + M.sq, ta := M.bl }
def bacode (S : BlkS) (M : Ms) : Int := if S.ro < M.sq then 84148227 else if M.bl = 0 then 84148226 else 0
def backS (S : BlkS) (M : Ms) : BlkS :=
  if bacode S M ≠ 0 then { S with st := 0 } else if (backS1 S M).ha < btotal S.b then bgiveS (backS1 S M) else { backS1 S M with st := 6 }
def backO (S : BlkS) (M : Ms) : SegO :=
  if bacode S M ≠ 0 then outL (bAbortL S (bacode S M).toNat) else if (backS1 S M).ha < btotal S.b then outL (bgiveL (backS1 S M)) else
  outM (bendM (7 * (btotal S.b : Int) - S.b.length) (if S.sm = true then sum16L S.b else 0))
end Go.Proofs.Ythdbckbpldlkeaa
