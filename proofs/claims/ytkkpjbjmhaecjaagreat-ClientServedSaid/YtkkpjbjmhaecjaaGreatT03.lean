/- None -/
import Derived.Test.YtkkpjbjmhaecjaaGreatT02
namespace Go.Proofs.YtkkpjbjmhaecjaaGreat
set_option linter.all false
set_option maxRecDepth 20000
section
structure BlkS where
 mo:Int
 sz:Int
 nx:Int
 ha:Int
 ta:Int
 ro:Int
 st:Int
 ix:Int
 sub:Int
 b:List UInt8
 sm:Bool
def blkZ:BlkS:=⟨0,0,0,0,0,0,0,0,0,[],false⟩
def blkIdle (S:BlkS):BlkS:={ S with st:=0 }
def bAbortL (S:BlkS) (code:Nat):List Ms:=if S.st=0 then [] else [abM S.ix S.sub code]
def bAnswerS (S:BlkS):BlkS:=if S.st=3 then { S with st:=0 } else S
def bAnswerL (S:BlkS) (code:Nat):List Ms:=if S.st=3 then (if code≠0 then [abM S.ix S.sub code] else [okM 18 0 0 false]) else []
def bokM (ix sub:Int):Ms:=⟨16,ix,sub,false,false,true,false,0,0,[],0,16,0,0⟩
def ackM (sq:Int):Ms:=⟨17,0,0,false,false,false,false,0,0,[],sq,16,0,0⟩
def bupM (ix sub:Int) (size:Nat):Ms:=⟨19,ix,sub,false,false,true,true,size,0,[],0,0,0,0⟩
def bendM (em:Int) (sum:Nat):Ms:=⟨20,0,0,false,false,false,false,0,0,[],0,0,em,sum⟩
def bsegM (sq:Int) (la:Bool) (data:List UInt8):Ms:=⟨21,0,0,false,la,false,false,0,0,data,sq,0,0,0⟩
def bdcode (L:List Ent) (M:Ms):Int:=if smayC L M.ix M.sub=0∧M.sz=true then fitsC (entK L (locK L M.ix M.sub)) M.size else smayC L M.ix M.sub
def bdownS (L:List Ent) (S:BlkS) (M:Ms):BlkS:=
 if bdcode L M≠0 then S else ⟨mostE (entK L (locK L M.ix M.sub)),(if M.sz=true then M.size else -1),1,S.ha,S.ta,S.ro,1,M.ix,M.sub,[],M.cr⟩
def bdownO (L:List Ent) (M:Ms):SegO:=if bdcode L M≠0 then outM (abM M.ix M.sub (bdcode L M).toNat) else outM (bokM M.ix M.sub)
def btake (S:BlkS) (M:Ms):BlkS:=if M.sq=S.nx then { S with st:=if M.la=true then 2 else 1,b:=S.b ++ M.data,nx:=S.nx+1 } else S
def bpcode (S:BlkS) (M:Ms):Int:=if 16 < M.sq then 84148227 else if M.sq=S.nx∧S.mo+7 < ((S.b ++ M.data).length:Int) then 101122066 else 0
def bpartS (S:BlkS) (M:Ms):BlkS:=
 if 16 < M.sq then { S with st:=0 } else if bpcode S M≠0 then { btake S M with st:=0 } else
 if M.sq < 16∧M.la=false then btake S M else { btake S M with nx:=1 }
def bpartO (S:BlkS) (M:Ms):SegO:=
 if bpcode S M≠0 then outL (bAbortL S (bpcode S M).toNat) else
 if M.sq < 16∧M.la=false then outZ else outM (ackM ((btake S M).nx - 1))
def bendB (S:BlkS) (M:Ms):List UInt8:=S.b.take (S.b.length - M.em.toNat)
def becode (S:BlkS) (M:Ms):Int:=
 if S.sm=true∧sum16L (bendB S M)≠ M.sum then 84148228 else if S.sz≠ -1∧S.sz≠((bendB S M).length:Int) then 101122064 else if S.mo < ((bendB S M).length:Int) then 101122066 else 0
def bendS (S:BlkS) (M:Ms):BlkS:=if becode S M≠0 then { S with st:=0 } else { S with st:=3 }
def bendO (S:BlkS) (M:Ms):SegO:=if becode S M≠0 then outL (bAbortL S (becode S M).toNat) else ⟨[],true,S.ix,S.sub,bendB S M⟩
def bucode (L:List Ent) (M:Ms):Int:=if M.bl=0 then 84148226 else getC L M.ix M.sub
def bupS (L:List Ent) (V:List (List UInt8)) (S:BlkS) (M:Ms):BlkS:=
 if bucode L M≠0 then S else ⟨S.mo,S.sz,S.nx,0,M.bl,0,4,M.ix,M.sub,getB L V M.ix M.sub,M.cr⟩
def bupO (L:List Ent) (V:List (List UInt8)) (M:Ms):SegO:=if bucode L M≠0 then outM (abM M.ix M.sub (bucode L M).toNat) else outM (bupM M.ix M.sub (getB L V M.ix M.sub).length)
def btotal (b:List UInt8):Nat:=max 1 ((b.length+6) / 7)
theorem zco (B:List UInt8)(n:Nat)(hn:n=B.length):(btotal B:Int)=if ((n:Int)+6) / 7 < 1 then 1 else ((n:Int)+6) / 7:=by
 unfold btotal;rw[←hn];split<;>omega
def bpiece (b:List UInt8) (k:Nat):List UInt8:=((b.drop (7 * k)).take 7) ++ List.replicate (7 - (b.length - 7 * k)) 0
def browN (S:BlkS):Int:=min S.ta ((btotal S.b:Int) - S.ha)
def bgiveS (S:BlkS):BlkS:={ S with st:=5,ro:=browN S }
def bgiveL (S:BlkS):List Ms:=(List.range (browN S).toNat).map fun (i:Nat)=> bsegM ((i:Int)+1) (decide (S.ha+i+1=(btotal S.b:Int))) (bpiece S.b (S.ha.toNat+i))
def backS1 (S:BlkS) (M:Ms):BlkS:={ S with ha:=S.ha+M.sq,ta:=M.bl }
def bacode (S:BlkS) (M:Ms):Int:=if S.ro < M.sq then 84148227 else if M.bl=0 then 84148226 else 0
def backS (S:BlkS) (M:Ms):BlkS:=
 if bacode S M≠0 then { S with st:=0 } else if (backS1 S M).ha < btotal S.b then bgiveS (backS1 S M) else { backS1 S M with st:=6 }
def backO (S:BlkS) (M:Ms):SegO:=
 if bacode S M≠0 then outL (bAbortL S (bacode S M).toNat) else if (backS1 S M).ha < btotal S.b then outL (bgiveL (backS1 S M)) else
 outM (bendM (7 * (btotal S.b:Int) - S.b.length) (if S.sm=true then sum16L S.b else 0))
end
section
open Go.RowKit
def putL (l:List UInt8) (at_:Nat):Nat→Nat→List UInt8
 | 0,_=>l
 | k+1,x=>putL (l.set at_ (UInt8.ofNat x)) (at_+1) k (x / 256)
theorem zcp (l:List UInt8)(at_ k x:Nat):putL l at_ (k+1) x=(putL l at_ k x).set (at_+k) (UInt8.ofNat (x / 256 ^ k)):=by
 induction k generalizing l at_ x with
 | zero=>simp[putL]
 | succ k ih=>
   rw[putL,ih,putL]
   congr 1
   · omega
   · rw[Nat.div_div_eq_div_mul,Nat.pow_succ,Nat.mul_comm]
theorem zcq (l:List UInt8)(at_ k x:Nat):(putL l at_ k x).length=l.length:=by
 induction k generalizing l at_ x with
 | zero=>rfl
 | succ k ih=>rw[putL,ih];simp
def cpL (l:List UInt8) (at_:Nat) (d:List UInt8):List UInt8:=l.take at_ ++ (d ++ (l.drop at_).drop d.length)
def z8:List UInt8:=[0,0,0,0,0,0,0,0]
def rangeB (M:Ms):Bool:=(decide (0≤M.ix) && decide (M.ix≤65535)) && (decide (0≤M.sub) && decide (M.sub≤255)) && (decide (0≤M.sq) && decide (M.sq≤127)) && (decide (0≤M.bl) && decide (M.bl≤127)) && (decide (0≤M.em) && decide (M.em≤7)) && decide (M.data.length≤7)
def shapeB (f:Int) (M:Ms):Bool:=if f=2 then (decide (M.data.length=0) || decide (M.data.length=4) || (decide (M.data.length < 4) && M.sz)) else if f=11 then (decide (M.data.length=7) && decide (0 < M.sq)) else true
def canB (M:Ms):Bool:=(decide (formI M.kind≠0) && rangeB M) && shapeB (formI M.kind) M && sameB M (onlyM (formI M.kind) M)
def plcL (M:Ms):List UInt8:=if placedB (formI M.kind)=true then putL (putL z8 1 2 M.ix.toNat) 3 1 M.sub.toNat else z8
def bodL (f:Int) (M:Ms):List UInt8:=
 if f=1 then putL (plcL M) 4 4 M.code
 else if f=2 then (if M.data.length=0 then putL (plcL M) 4 4 M.size else cpL (putL (plcL M) 4 4 M.size) 4 M.data)
 else if f=3 then cpL (plcL M) 1 M.data
 else if f=6 then putL (plcL M) 4 4 M.size
 else if f=7 then putL (plcL M) 1 2 M.sum
 else if f=8 then putL (plcL M) 4 1 M.bl.toNat
 else if f=9 then putL (putL (plcL M) 1 1 M.sq.toNat) 2 1 M.bl.toNat
 else if f=11 then cpL (plcL M) 1 M.data
 else plcL M
def orB (b:Bool) (x y:Nat):Nat:=if b=true then x ||| y else x
def firB (f:Int) (M:Ms):Nat:=
 if f=2 then (if M.data.length=0 then orB M.sz (firstI M.kind).toNat 1 else (orB M.sz (firstI M.kind).toNat 1) ||| (2 ||| ((4 - M.data.length) * 4)))
 else if f=3 then (orB M.la (orB M.tg (firstI M.kind).toNat 16) 1) ||| ((7 - M.data.length) * 2)
 else if f=5 then orB M.tg (firstI M.kind).toNat 16
 else if f=6 then orB M.sz (orB M.cr (firstI M.kind).toNat 4) 2
 else if f=7 then (firstI M.kind).toNat ||| (M.em.toNat * 4)
 else if f=8 then orB M.cr (firstI M.kind).toNat 4
 else if f=11 then orB M.la M.sq.toNat 128
 else (firstI M.kind).toNat
def laidB (M:Ms):List UInt8:=(bodL (formI M.kind) M).set 0 (UInt8.ofNat (firB (formI M.kind) M))
theorem zcr (M:Ms):(plcL M).length=8:=by unfold plcL;split<;>simp[zcq,z8]
theorem zcs (l:List UInt8)(k:Nat)(d:List UInt8)(h:k+d.length≤l.length):(cpL l k d).length=l.length:=by simp[cpL];omega
end
section
open Go.RowKit
def byt (b:List UInt8) (i:Nat):Nat:=(b.getD i 0).toNat
def datN (f:Int) (c:Nat):Nat:=if f=2 then (if c / 2 % 2=1 then 4 - c / 4 % 4 else 0) else if f=3 then 7 - c / 2 % 8 else if f=11 then 7 else 0
def datF (f:Int):Nat:=if f=2 then 4 else 1
def preM (k:Int) (b:List UInt8):Ms where
 kind:=k
 ix:=(leN ((b.drop 1).take 2):Nat)
 sub:=(byt b 3:Nat)
 tg:=decide (byt b 0 / 16 % 2=1)
 la:=if formI k=11 then decide (128≤byt b 0) else decide (byt b 0 % 2=1)
 cr:=decide (byt b 0 / 4 % 2=1)
 sz:=if formI k=2 then decide (byt b 0 % 2=1) else decide (byt b 0 / 2 % 2=1)
 size:=leN ((b.drop 4).take 4)
 code:=leN ((b.drop 4).take 4)
 data:=(b.drop (datF (formI k))).take (datN (formI k) (byt b 0))
 sq:=if formI k=11 then ((byt b 0 % 128:Nat):Int) else ((byt b 1:Nat):Int)
 bl:=if formI k=8 then ((byt b 4:Nat):Int) else ((byt b 2:Nat):Int)
 em:=(byt b 0 / 4 % 8:Nat)
 sum:=leN ((b.drop 1).take 2)
def guessM (k:Int) (b:List UInt8):Ms:=onlyM (formI k) (preM k b)
def hitB (k:Int) (b:List UInt8):Bool:=canB (guessM k b) && decide (laidB (guessM k b)=b)
def ofM:List Int→List UInt8→Option Ms
 | [],_=>none
 | k :: ks,b=>if hitB k b=true then some (guessM k b) else ofM ks b
def errI (ks:List Int) (b:List UInt8):Int:=if b.length < 8 then 2 else if 8 < b.length then 3 else if (ofM ks b).isSome=true then 0 else 4
def resM (ks:List Int) (b:List UInt8):Ms:=if b.length=8 then (ofM ks b).getD msZ else msZ
def reqK:List Int:=[1,2,3,4,5,6,7,8,9,10,11]
def ansK:List Int:=[1,12,13,14,15,16,17,18,19,20]
def segK:List Int:=[21]
theorem zct (ks:List Int)(b:List UInt8)(m:Ms)(h:ofM ks b=some m):canB m=true∧laidB m=b:=by
 induction ks with
 | nil=>cases h
 | cons k ks ih=>
   unfold ofM at h;split at h
   · rename_i hh;injection h with h
     subst h;simp only[hitB,Bool.and_eq_true,decide_eq_true_iff] at hh;exact hh
   · exact ih h
theorem zcu (ks:List Int)(b:List UInt8)(h:errI ks b=0):canB (resM ks b)=true∧laidB (resM ks b)=b:=by
 unfold errI at h;have h1: ¬b.length < 8:=by intro h1;rw[if_pos h1] at h;cases h
 rw[if_neg h1] at h;have h2: ¬ 8 < b.length:=by intro h2;rw[if_pos h2] at h;cases h
 rw[if_neg h2] at h;have h3:(ofM ks b).isSome=true:=by
  cases hc:(ofM ks b).isSome
  · rw[hc] at h;simp at h
  · rfl
 obtain⟨m,hm⟩:=Option.isSome_iff_exists.1 h3
 have:=zct ks b m hm
 unfold resM;rw[if_pos (by omega),hm];exact this
theorem zcv:∀n:Nat,n < 256→(n &&& 16 != 0)=decide (n / 16 % 2=1)∧ (n &&& 4 != 0)=decide (n / 4 % 2=1)∧ (n &&& 1 != 0)=decide (n % 2=1)∧ (n &&& 2 != 0)=decide (n / 2 % 2=1)∧ (n &&& 128 != 0)=decide (128≤n)∧ n &&& 127=n % 128∧n / 4 &&& 3=n / 4 % 4∧n / 2 &&& 7=n / 2 % 8∧n / 4 &&& 7=n / 4 % 8:=by decide +kernel
end
section
structure Frm where
 id:Int
 re:Bool
 data:List UInt8
 deriving DecidableEq
structure CliS where
 nd:Int
 wk:Int
 ix:Int
 sub:Int
 b:List UInt8
 at_:Int
 ro:Int
 tg:Bool
 ec:Bool
 es:Bool
 en:Nat
 code:Nat
 data:List UInt8
def cliZ (nd:Int):CliS:=⟨nd,0,0,0,[],0,0,false,false,false,0,0,[]⟩
def frmL (id:Int) (l:List Ms):List Frm:=(l.filter canB).map fun M=>⟨id,false,laidB M⟩
def cSend (S:CliS) (l:List Ms):List Frm:=frmL (1536+S.nd) l
def cEnd (S:CliS) (code:Nat) (b:List UInt8):CliS:={ S with wk:=0,code:=code,data:=b }
def cFailL (S:CliS) (code:Nat):List Frm:=cSend S [abM S.ix S.sub code]
def cBegB (ix sub mode:Int):Bool:=decide (0≤ix∧ix≤65535∧0≤sub∧sub≤255∧0≤mode∧mode≤2)
def cBegS (S:CliS) (ix sub:Int):CliS:={ S with wk:=0,ix:=ix,sub:=sub,b:=[],at_:=0,ro:=0,tg:=false,code:=0,data:=[] }
def downM (ix sub:Int) (sz:Bool) (size:Nat) (data:List UInt8):Ms:=⟨2,ix,sub,false,false,false,sz,size,0,data,0,0,0,0⟩
def dsegM (tg la:Bool) (data:List UInt8):Ms:=⟨3,0,0,tg,la,false,false,0,0,data,0,0,0,0⟩
def uplM (ix sub:Int):Ms:=⟨4,ix,sub,false,false,false,false,0,0,[],0,0,0,0⟩
def usegM (tg:Bool):Ms:=⟨5,0,0,tg,false,false,false,0,0,[],0,0,0,0⟩
def bdnM (ix sub:Int) (size:Nat):Ms:=⟨6,ix,sub,false,false,true,true,size,0,[],0,0,0,0⟩
def bdeM (em:Int) (sum:Nat):Ms:=⟨7,0,0,false,false,false,false,0,0,[],0,0,em,sum⟩
def buM (ix sub:Int):Ms:=⟨8,ix,sub,false,false,true,false,0,0,[],0,32,0,0⟩
def busM:Ms:=⟨9,0,0,false,false,false,false,0,0,[],0,0,0,0⟩
def buaM (sq:Int):Ms:=⟨10,0,0,false,false,false,false,0,0,[],sq,32,0,0⟩
def bueM:Ms:=⟨11,0,0,false,false,false,false,0,0,[],0,0,0,0⟩
def cWriteS (S:CliS) (ix sub:Int) (b:List UInt8) (mode:Int):CliS:=
 if cBegB ix sub mode=false then S else
 if mode=2 then { cBegS S ix sub with b:=b,wk:=16 } else
 if mode=0∧0 < b.length∧b.length≤4 then { cBegS S ix sub with b:=b,wk:=12,at_:=(b.length:Int)+1 } else
 { cBegS S ix sub with b:=b,wk:=12 }
def cWriteL (S:CliS) (ix sub:Int) (b:List UInt8) (mode:Int):List Frm:=
 if cBegB ix sub mode=false then [] else
 if mode=2 then cSend S [bdnM ix sub b.length] else
 if mode=0∧0 < b.length∧b.length≤4 then cSend S [downM ix sub true 0 b] else cSend S [downM ix sub true b.length []]
def cReadS (S:CliS) (ix sub mode:Int):CliS:=
 if cBegB ix sub mode=false then S else if mode=2 then { cBegS S ix sub with wk:=19 } else { cBegS S ix sub with wk:=14 }
def cReadL (S:CliS) (ix sub mode:Int):List Frm:=
 if cBegB ix sub mode=false then [] else if mode=2 then cSend S [buM ix sub] else cSend S [uplM ix sub]
def cTo (S:CliS):Int:=min (S.b.length:Int) (S.at_+7)
def cLa (S:CliS):Bool:=decide (cTo S=(S.b.length:Int))
def cSegS (S:CliS):CliS:=if (S.b.length:Int) < S.at_ then cEnd S 0 [] else { S with at_:=if cLa S=true then cTo S+1 else cTo S,wk:=13 }
def cSegD (S:CliS):List UInt8:=(S.b.drop S.at_.toNat).take (cTo S - S.at_).toNat
def cSegL (S:CliS):List Frm:=if (S.b.length:Int) < S.at_ then [] else cSend S [dsegM S.tg (cLa S) (cSegD S)]
def cRowN (S:CliS) (most:Int):Int:=min most ((btotal S.b:Int) - S.at_)
def cRowsS (S:CliS) (most:Int):CliS:=if (btotal S.b:Int)≤ S.at_ then { S with wk:=18 } else { S with ro:=cRowN S most,wk:=17 }
def crowT (tot h:Nat) (b:List UInt8) (k:Nat):List Ms:=(List.range k).map fun (i:Nat)=> bsegM ((i:Int)+1) (decide ((h:Int)+(i:Int)+1=(tot:Int))) (bpiece b (h+i))
def cRowM (S:CliS) (most:Int):List Ms:=crowT (btotal S.b) S.at_.toNat S.b (cRowN S most).toNat
def cRowsL (S:CliS) (most:Int):List Frm:=
 if (btotal S.b:Int)≤ S.at_ then cSend S [bdeM (7 * (btotal S.b:Int) - S.b.length) (sum16L S.b)] else cSend S (cRowM S most)
def cMoreS (S:CliS):CliS:={ S with wk:=15 }
def cMoreL (S:CliS):List Frm:=cSend S [usegM S.tg]
def cSzB (S:CliS) (n:Int):Bool:=!S.es || decide (n=(S.en:Int))
def cPcA (S:CliS) (M:Ms):CliS:={ S with b:=S.b ++ M.data,tg:=!S.tg }
def cPcS (S:CliS) (M:Ms):CliS:=
 if M.la=false then cMoreS (cPcA S M) else if cSzB S ((S.b ++ M.data).length:Int)=false then cEnd (cPcA S M) 101122064 [] else cEnd (cPcA S M) 0 (S.b ++ M.data)
def cPcL (S:CliS) (M:Ms):List Frm:=
 if M.la=false then cMoreL (cPcA S M) else if cSzB S ((S.b ++ M.data).length:Int)=false then cFailL S 101122064 else []
def cTkA (S:CliS) (M:Ms):CliS:=if M.sq=S.ro+1 then { S with b:=S.b ++ M.data,ro:=S.ro+1,wk:=if M.la=true then 20 else S.wk } else S
def cTkS (S:CliS) (M:Ms):CliS:=if M.sq≠32∧M.la=false then cTkA S M else { cTkA S M with ro:=0 }
def cTkL (S:CliS) (M:Ms):List Frm:=if M.sq≠32∧M.la=false then [] else cSend S [buaM (cTkA S M).ro]
def cLsB (S:CliS) (M:Ms):List UInt8:=S.b.take (S.b.length - M.em.toNat)
def cLsC (S:CliS) (M:Ms):Nat:=if S.ec=true∧sum16L (cLsB S M)≠ M.sum then 84148228 else if (S.b.length:Int) < M.em∨cSzB S ((S.b.length:Int) - M.em)=false then 101122064 else 0
def cLsS (S:CliS) (M:Ms):CliS:=if cLsC S M≠0 then cEnd S (cLsC S M) [] else cEnd S 0 (cLsB S M)
def cLsL (S:CliS) (M:Ms):List Frm:=if cLsC S M≠0 then cFailL S (cLsC S M) else cSend S [bueM]
def cFitB (S:CliS) (M:Ms):Bool:=
 decide (S.wk=M.kind) && (
 if M.kind=12∨M.kind=14∨M.kind=19 then decide (M.ix=S.ix) && decide (M.sub=S.sub)
 else if M.kind=16 then decide (M.ix=S.ix) && decide (M.sub=S.sub) && decide (0 < M.bl)
 else if M.kind=13∨M.kind=15 then M.tg == S.tg
 else if M.kind=17 then decide (0 < M.bl) && decide (M.sq≤S.ro) else true)
def cExp (S:CliS) (M:Ms):CliS:={ S with ec:=M.cr,es:=M.sz,en:=M.size }
def cStepS (S:CliS) (M:Ms):CliS:=
 if M.kind=12 then cSegS S else if M.kind=13 then cSegS { S with tg:=!S.tg }
 else if M.kind=14 then (if M.data≠ [] then cEnd (cExp S M) 0 M.data else cMoreS (cExp S M))
 else if M.kind=15 then cPcS S M else if M.kind=16 then cRowsS S M.bl else if M.kind=17 then cRowsS { S with at_:=S.at_+M.sq } M.bl
 else if M.kind=19 then { cExp S M with wk:=21 } else if M.kind=21 then cTkS S M else if M.kind=20 then cLsS S M else cEnd S 0 []
def cStepL (S:CliS) (M:Ms):List Frm:=
 if M.kind=12 then cSegL S else if M.kind=13 then cSegL { S with tg:=!S.tg }
 else if M.kind=14 then (if M.data≠ [] then [] else cMoreL S)
 else if M.kind=15 then cPcL S M else if M.kind=16 then cRowsL S M.bl else if M.kind=17 then cRowsL { S with at_:=S.at_+M.sq } M.bl
 else if M.kind=19 then cSend S [busM] else if M.kind=21 then cTkL S M else if M.kind=20 then cLsL S M else []
def cKs (S:CliS) (b:List UInt8):List Int:=if S.wk=21∧b.headD 0≠128 then segK else ansK
def cRecvS (S:CliS) (f:Frm):CliS:=
 if S.wk=0∨f.id≠1408+S.nd∨f.re=true∨f.data.length≠8 then S else
 if errI (cKs S f.data) f.data=0∧(resM (cKs S f.data) f.data).kind=1 then cEnd S (resM (cKs S f.data) f.data).code [] else
 if errI (cKs S f.data) f.data≠0∨cFitB S (resM (cKs S f.data) f.data)=false then cEnd S 84148225 [] else cStepS S (resM (cKs S f.data) f.data)
def cRecvL (S:CliS) (f:Frm):List Frm:=
 if S.wk=0∨f.id≠1408+S.nd∨f.re=true∨f.data.length≠8 then [] else
 if errI (cKs S f.data) f.data=0∧(resM (cKs S f.data) f.data).kind=1 then [] else
 if errI (cKs S f.data) f.data≠0∨cFitB S (resM (cKs S f.data) f.data)=false then cFailL S 84148225 else cStepL S (resM (cKs S f.data) f.data)
end
end Go.Proofs.YtkkpjbjmhaecjaaGreat
