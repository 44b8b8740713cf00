/- None -/
import Derived.Test.YthdbckbpldlkeaaQ19
namespace Go.Proofs.Ythdbckbpldlkeaa
set_option linter.unusedVariables false
set_option linter.unusedSimpArgs false
set_option linter.unnecessarySimpa false
section
structure RCli where
 nd:Int
 wk:Int
 ix:Int
 sub:Int
 b:List UInt8
 code:Nat
 data:List UInt8
 tg:Bool
 la:Bool
 sz:Bool
 si:Int
 cr:Bool
 ha:Int
 ro:Int
 nx:Int
 qk:Bool
def rcliZ (nd:Int):RCli:=⟨nd,0,0,0,[],0,[],false,false,false,0,false,0,0,0,false⟩
def rfrmL (id:Int) (l:List Ms):List Frm:=l.map fun M=>⟨id,false,if canB M=true then laidB M else []⟩
def rSend (T:RCli) (l:List Ms):List Frm:=rfrmL (1536+T.nd) l
def rEnds (T:RCli) (code:Nat) (b:List UInt8):RCli:={ T with wk:=0,code:=code,data:=b }
def rGivL (T:RCli) (code:Nat):List Frm:=rSend T [abM T.ix T.sub code]
def rBegS (T:RCli) (ix sub:Int):RCli:={ T with ix:=ix,sub:=sub,code:=0,data:= [],b:= [],tg:=false,la:=false,ha:=0,ro:=0,nx:=1,qk:=false }
def rWriteS (T:RCli) (ix sub:Int) (b:List UInt8) (mode:Int):RCli:=
 if cBegB ix sub mode=false then T else
 if mode=2 then { rBegS T ix sub with b:=b,wk:=16 } else
 if mode=0∧1≤b.length∧b.length≤4 then { rBegS T ix sub with b:=b,wk:=12,qk:=true } else
 { rBegS T ix sub with b:=b,wk:=12 }
def rWriteL (T:RCli) (ix sub:Int) (b:List UInt8) (mode:Int):List Frm:=
 if cBegB ix sub mode=false then [] else
 if mode=2 then rSend T [bdnM ix sub b.length] else
 if mode=0∧1≤b.length∧b.length≤4 then rSend T [downM ix sub true 0 b] else rSend T [downM ix sub true b.length []]
def rReadS (T:RCli) (ix sub mode:Int):RCli:=
 if cBegB ix sub mode=false then T else if mode=2 then { rBegS T ix sub with wk:=19 } else { rBegS T ix sub with wk:=14 }
def rReadL (T:RCli) (ix sub mode:Int):List Frm:=
 if cBegB ix sub mode=false then [] else if mode=2 then rSend T [buM ix sub] else rSend T [uplM ix sub]
def rSegS (T:RCli):RCli:={ T with la:=decide (min T.b.length 7=T.b.length),b:=T.b.drop (min T.b.length 7),wk:=13 }
def rSegL (T:RCli):List Frm:=rSend T [dsegM T.tg (decide (min T.b.length 7=T.b.length)) (T.b.take (min T.b.length 7))]
def rRowN (T:RCli) (n:Int):Int:=max 0 (min n ((btotal T.b:Int) - T.ha))
def rRowS (T:RCli) (n:Int):RCli:={ T with ro:=rRowN T n,wk:=17 }
def rRowL (T:RCli) (n:Int):List Frm:=rSend T (crowT (btotal T.b) T.ha.toNat T.b (rRowN T n).toNat)
def rUpA (T:RCli) (M:Ms):RCli:=if M.kind=14 then { T with sz:=M.sz,si:=M.size } else { T with b:=T.b ++ M.data,tg:=!T.tg }
def rUpS (T:RCli) (M:Ms):RCli:=
 if M.kind=14∧M.data≠ [] then rEnds T 0 M.data else
 if M.kind=15∧M.la=true then (if T.sz=true∧((T.b ++ M.data).length:Int)≠ T.si then rEnds (rUpA T M) 101122064 [] else rEnds (rUpA T M) 0 (T.b ++ M.data)) else
 { rUpA T M with wk:=15 }
def rUpL (T:RCli) (M:Ms):List Frm:=
 if M.kind=14∧M.data≠ [] then [] else
 if M.kind=15∧M.la=true then (if T.sz=true∧((T.b ++ M.data).length:Int)≠ T.si then rGivL T 101122064 else []) else
 rSend T [usegM (rUpA T M).tg]
def rTkA (T:RCli) (M:Ms):RCli:=if M.sq=T.nx then { T with b:=T.b ++ M.data,nx:=T.nx+1,wk:=if M.la=true then 20 else T.wk } else T
def rTkS (T:RCli) (M:Ms):RCli:=if M.sq≠32∧M.la=false then rTkA T M else { rTkA T M with nx:=1 }
def rTkL (T:RCli) (M:Ms):List Frm:=if M.sq≠32∧M.la=false then [] else rSend T [buaM ((rTkA T M).nx - 1)]
def rEndB (T:RCli) (M:Ms):List UInt8:=T.b.take (T.b.length - M.em.toNat)
def rEndC (T:RCli) (M:Ms):Nat:=if T.cr=true∧sum16L (rEndB T M)≠ M.sum then 84148228 else if (T.b.length:Int) < M.em∨(T.sz=true∧((rEndB T M).length:Int)≠ T.si) then 101122064 else 0
def rEndS (T:RCli) (M:Ms):RCli:=if rEndC T M≠0 then rEnds T (rEndC T M) [] else rEnds T 0 (rEndB T M)
def rEndL (T:RCli) (M:Ms):List Frm:=if rEndC T M≠0 then rGivL T (rEndC T M) else rSend T [bueM]
def rFitB (T:RCli) (M:Ms):Bool:=
 decide (M.kind=T.wk) && (
 if M.kind=12∨M.kind=14∨M.kind=19 then decide (M.ix=T.ix) && decide (M.sub=T.sub)
 else if M.kind=16 then decide (M.ix=T.ix) && decide (M.sub=T.sub) && decide (0 < M.bl)
 else if M.kind=13∨M.kind=15 then M.tg == T.tg
 else if M.kind=17 then decide (0 < M.bl) && decide (M.sq≤T.ro) else true)
def rGoS (T:RCli) (M:Ms):RCli:=
 if M.kind=12 then (if T.qk=true then rEnds T 0 [] else rSegS T)
 else if M.kind=13 then (if T.la=true then rEnds T 0 [] else rSegS { T with tg:=!T.tg })
 else if M.kind=14∨M.kind=15 then rUpS T M
 else if M.kind=16 then rRowS T M.bl
 else if M.kind=17 then (if T.ha+M.sq < btotal T.b then rRowS { T with ha:=T.ha+M.sq } M.bl else { T with ha:=T.ha+M.sq,wk:=18 })
 else if M.kind=18 then rEnds T 0 []
 else if M.kind=19 then { T with sz:=M.sz,si:=M.size,cr:=M.cr,wk:=21 }
 else if M.kind=21 then rTkS T M else rEndS T M
def rGoL (T:RCli) (M:Ms):List Frm:=
 if M.kind=12 then (if T.qk=true then [] else rSegL T)
 else if M.kind=13 then (if T.la=true then [] else rSegL { T with tg:=!T.tg })
 else if M.kind=14∨M.kind=15 then rUpL T M
 else if M.kind=16 then rRowL T M.bl
 else if M.kind=17 then (if T.ha+M.sq < btotal T.b then rRowL { T with ha:=T.ha+M.sq } M.bl else rSend T [bdeM (7 * (btotal T.b:Int) - T.b.length) (sum16L T.b)])
 else if M.kind=18 then []
 else if M.kind=19 then rSend T [busM]
 else if M.kind=21 then rTkL T M else rEndL T M
def rKs (T:RCli) (b:List UInt8):List Int:=if T.wk=21∧b.headD 0≠128 then segK else ansK
def rRecvS (T:RCli) (f:Frm):RCli:=
 if T.wk=0∨f.id≠1408+T.nd∨f.re=true∨f.data.length≠8 then T else
 if errI (rKs T f.data) f.data=0∧(resM (rKs T f.data) f.data).kind=1 then rEnds T (resM (rKs T f.data) f.data).code [] else
 if errI (rKs T f.data) f.data≠0∨rFitB T (resM (rKs T f.data) f.data)=false then rEnds T 84148225 [] else rGoS T (resM (rKs T f.data) f.data)
def rRecvL (T:RCli) (f:Frm):List Frm:=
 if T.wk=0∨f.id≠1408+T.nd∨f.re=true∨f.data.length≠8 then [] else
 if errI (rKs T f.data) f.data=0∧(resM (rKs T f.data) f.data).kind=1 then [] else
 if errI (rKs T f.data) f.data≠0∨rFitB T (resM (rKs T f.data) f.data)=false then rGivL T 84148225 else rGoL T (resM (rKs T f.data) f.data)
structure zht (S:CliS) (T:RCli):Prop where
 nd:S.nd=T.nd
 n1:1≤S.nd∧S.nd≤127
 wk:S.wk=T.wk
 code:S.code=T.code
 data:S.data=T.data
 dz:S.wk≠0→S.data= []
 ix:S.wk≠0→S.ix=T.ix∧S.sub=T.sub∧0≤S.ix∧S.ix≤65535∧0≤S.sub∧S.sub≤255
 tg:S.wk≠0→S.wk≠13→S.tg=T.tg
 t13:S.wk=13→S.tg=T.tg
 r12:S.wk=12→S.b=T.b∧((T.qk=true∧S.at_=(S.b.length:Int)+1)∨ (T.qk=false∧S.at_=0))
 r13:S.wk=13→(T.la=true∧S.at_=(S.b.length:Int)+1)∨ (T.la=false∧0≤S.at_∧S.at_ < S.b.length∧T.b=S.b.drop S.at_.toNat)
 r16:S.wk=16→S.b=T.b∧S.at_=0∧T.ha=0
 r17:S.wk=17→S.b=T.b∧S.at_=T.ha∧0≤S.at_∧S.at_ < btotal S.b∧S.ro=T.ro∧S.at_+S.ro≤btotal S.b
 r15:S.wk=15→S.b=T.b∧S.es=T.sz∧(S.en:Int)=T.si
 r14:S.wk=14→S.b=T.b
 r19:S.wk=19→S.b=T.b∧S.ro=0∧T.nx=1
 r21:S.wk=21∨S.wk=20→S.b=T.b∧S.ro=T.nx - 1∧0≤S.ro∧S.ro≤127∧S.es=T.sz∧(S.en:Int)=T.si∧S.ec=T.cr
 wks:S.wk=0∨(12≤S.wk∧S.wk≤21)
end
section
set_option maxHeartbeats 2000000
theorem zhc (id:Int) (l:List Ms) (h:∀ M ∈ l,canB M=true):frmL id l=rfrmL id l:=by
 unfold frmL rfrmL
 rw[List.filter_eq_self.2 h]
 exact List.map_congr_left fun M hM=>by rw[if_pos (h M hM)]
theorem zhd {S:CliS} {T:RCli} (hn:S.nd=T.nd) (l:List Ms) (h:∀ M ∈ l,canB M=true):cSend S l=rSend T l:=by
 unfold cSend rSend
 rw[hn]
 exact zhc _ l h
theorem zhe {S:CliS} {T:RCli} (hn:S.nd=T.nd) {M:Ms} (h:canB M=true):cSend S [M]=rSend T [M]:= zhd hn _ (by simpa using h)
theorem zhf (ix sub:Int) (code:Nat) (h:0≤ix∧ix≤65535∧0≤sub∧sub≤255):canB (abM ix sub code)=true:=by
 obtain⟨h1,h2,h3,h4⟩:= h
 simp[canB,abM,formI,rangeB,shapeB,sameB,onlyM,placedB,dataB,h1,h2,h3,h4]
theorem zhg (ix sub:Int) (size:Nat) (b:List UInt8) (h:0≤ix∧ix≤65535∧0≤sub∧sub≤255) (hb:b.length≤4) (hz:b≠ []→ size=0):canB (downM ix sub true size b)=true:=by
 obtain⟨h1,h2,h3,h4⟩:= h
 have h5:b.length≤7:=by omega
 rcases b with _ | ⟨x,b⟩
 · simp[canB,downM,formI,rangeB,shapeB,sameB,onlyM,placedB,dataB,h1,h2,h3,h4]
 · obtain rfl:size=0:=hz (by simp)
   have h6:b.length+1=4∨b.length+1 < 4:=by rw[List.length_cons] at hb;omega
   simp only[List.length_cons] at h5
   simp[canB,downM,formI,rangeB,shapeB,sameB,onlyM,placedB,dataB,h1,h2,h3,h4,h5]
   rcases h6 with h6 | h6
   · exact .inl (by omega)
   · exact .inr (decide_eq_true h6)
theorem zhh (tg la:Bool) (b:List UInt8) (h:b.length≤7):canB (dsegM tg la b)=true:=by
 simp[canB,dsegM,formI,rangeB,shapeB,sameB,onlyM,placedB,dataB,h]
theorem zhi (ix sub:Int) (h:0≤ix∧ix≤65535∧0≤sub∧sub≤255):canB (uplM ix sub)=true:=by
 obtain⟨h1,h2,h3,h4⟩:= h
 simp[canB,uplM,formI,rangeB,shapeB,sameB,onlyM,placedB,dataB,h1,h2,h3,h4]
theorem zhj (tg:Bool):canB (usegM tg)=true:=by cases tg<;>decide
theorem zhk (ix sub:Int) (n:Nat) (h:0≤ix∧ix≤65535∧0≤sub∧sub≤255):canB (bdnM ix sub n)=true:=by
 obtain⟨h1,h2,h3,h4⟩:= h
 simp[canB,bdnM,formI,rangeB,shapeB,sameB,onlyM,placedB,dataB,h1,h2,h3,h4]
theorem zhl (em:Int) (sum:Nat) (h:0≤em∧em≤7):canB (bdeM em sum)=true:=by
 obtain⟨h1,h2⟩:= h
 simp[canB,bdeM,formI,rangeB,shapeB,sameB,onlyM,placedB,dataB,h1,h2]
theorem zhm (ix sub:Int) (h:0≤ix∧ix≤65535∧0≤sub∧sub≤255):canB (buM ix sub)=true:=by
 obtain⟨h1,h2,h3,h4⟩:= h
 simp[canB,buM,formI,rangeB,shapeB,sameB,onlyM,placedB,dataB,h1,h2,h3,h4]
theorem zhn (sq:Int) (h:0≤sq∧sq≤127):canB (buaM sq)=true:=by
 obtain⟨h1,h2⟩:= h
 simp[canB,buaM,formI,rangeB,shapeB,sameB,onlyM,placedB,dataB,h1,h2]
theorem zho (sq:Int) (la:Bool) (b:List UInt8) (h:1≤sq∧sq≤127) (hb:b.length=7):canB (bsegM sq la b)=true:=by
 obtain⟨h1,h2⟩:= h
 have h3:0≤sq:=by omega
 have h4:0 < sq:=by omega
 simp[canB,bsegM,formI,rangeB,shapeB,sameB,onlyM,placedB,dataB,h3,h4,h2,hb]
theorem zhp (B:List UInt8) (k:Nat):(bpiece B k).length=7:=by
 unfold bpiece
 simp only[List.length_append,List.length_take,List.length_drop,List.length_replicate]
 omega
theorem zhq (tot h:Nat) (b:List UInt8) (k:Nat) (hk:k≤127):∀ M ∈ crowT tot h b k,canB M=true:=by
 intro M hM
 unfold crowT at hM
 rw[List.mem_map] at hM
 obtain⟨i,hi,rfl⟩:= hM
 rw[List.mem_range] at hi
 exact zho _ _ _ ⟨by omega,by omega⟩ (zhp _ _)
theorem zhr {M:Ms} (h:canB M=true):0≤M.ix∧M.ix≤65535∧0≤M.sub∧M.sub≤255∧0≤M.sq∧M.sq≤127∧0≤M.bl∧M.bl≤127∧0≤M.em∧M.em≤7∧M.data.length≤7:=by
 simp only[canB,rangeB,Bool.and_eq_true,decide_eq_true_iff] at h
 omega
theorem zhs (b:List UInt8):0≤7 * (btotal b:Int) - b.length∧7 * (btotal b:Int) - b.length≤7:=by
 unfold btotal
 omega
section
variable {S:CliS} {T:RCli}
theorem zht.ends (h:zht S T) (S':CliS) (T':RCli) (code:Nat) (b:List UInt8) (h1:S'.nd=S.nd) (h2:T'.nd=T.nd):zht (cEnd S' code b) (rEnds T' code b):= by
 constructor<;>(try (intro hh;first | exact absurd rfl hh | (exfalso;revert hh;simp[cEnd];done)))
 · show S'.nd=T'.nd;rw[h1,h2,h.nd]
 · show 1≤S'.nd∧S'.nd≤127;rw[h1];exact h.n1
 · rfl
 · rfl
 · rfl
 · exact .inl rfl
theorem zhu (nd:Int) (h:1≤nd∧nd≤127):zht (cliZ nd) (rcliZ nd):= by
 constructor<;>(try (intro hh;first | exact absurd rfl hh | (exfalso;revert hh;simp[cliZ];done)))
 · rfl
 · exact h
 · rfl
 · rfl
 · rfl
 · exact .inl rfl
theorem zhv {ix sub mode:Int} (h:cBegB ix sub mode≠false):0≤ix∧ix≤65535∧0≤sub∧sub≤255∧0≤mode∧mode≤2:=by
 unfold cBegB at h
 simpa using h
theorem zhw (h:zht S T) (ix sub:Int) (b:List UInt8) (mode:Int):zht (cWriteS S ix sub b mode) (rWriteS T ix sub b mode)∧ cWriteL S ix sub b mode=rWriteL T ix sub b mode:=by
 unfold cWriteS rWriteS cWriteL rWriteL
 by_cases hb:cBegB ix sub mode=false
 · simp only[if_pos hb];exact⟨h,trivial⟩
 simp only[if_neg hb]
 obtain⟨i1,i2,i3,i4,i5,i6⟩:= zhv hb
 by_cases hm:mode=2
 · simp only[if_pos hm]
   refine⟨?_,zhe h.nd (zhk _ _ _ ⟨i1,i2,i3,i4⟩)⟩
   constructor<;>(first | exact h.nd | exact h.n1 | rfl | (intro _;rfl) | (intro _;exact⟨rfl,rfl,i1,i2,i3,i4⟩) | (intro _;exact⟨rfl,rfl,rfl⟩) | (intro _ _;rfl) | (intro hh;exfalso;revert hh;simp;done) | (right;simp;done))
 simp only[if_neg hm]
 by_cases hq:mode=0∧0 < b.length∧b.length≤4
 · have hq':mode=0∧1≤b.length∧b.length≤4:=hq
   simp only[if_pos hq,if_pos hq']
   refine⟨?_,zhe h.nd (zhg _ _ _ _ ⟨i1,i2,i3,i4⟩ hq.2.2 (fun _=>rfl))⟩
   constructor<;>(first | exact h.nd | exact h.n1 | rfl | (intro _;rfl) | (intro _;exact⟨rfl,rfl,i1,i2,i3,i4⟩) | (intro _;exact⟨rfl,.inl ⟨rfl,rfl⟩⟩) | (intro _ _;rfl) | (intro hh;exfalso;revert hh;simp;done) | (right;simp;done))
 · have hq': ¬ (mode=0∧1≤b.length∧b.length≤4):= hq
   simp only[if_neg hq,if_neg hq']
   refine⟨?_,zhe h.nd (zhg _ _ _ _ ⟨i1,i2,i3,i4⟩ (by simp) (fun hh=>absurd rfl hh))⟩
   constructor<;>(first | exact h.nd | exact h.n1 | rfl | (intro _;rfl) | (intro _;exact⟨rfl,rfl,i1,i2,i3,i4⟩) | (intro _;exact⟨rfl,.inr ⟨rfl,rfl⟩⟩) | (intro _ _;rfl) | (intro hh;exfalso;revert hh;simp;done) | (right;simp;done))
theorem zhx (h:zht S T) (ix sub mode:Int):zht (cReadS S ix sub mode) (rReadS T ix sub mode)∧ cReadL S ix sub mode=rReadL T ix sub mode:=by
 unfold cReadS rReadS cReadL rReadL
 by_cases hb:cBegB ix sub mode=false
 · simp only[if_pos hb];exact⟨h,trivial⟩
 simp only[if_neg hb]
 obtain⟨i1,i2,i3,i4,i5,i6⟩:= zhv hb
 by_cases hm:mode=2
 · simp only[if_pos hm]
   refine⟨?_,zhe h.nd (zhm _ _ ⟨i1,i2,i3,i4⟩)⟩
   constructor<;>(first | exact h.nd | exact h.n1 | rfl | (intro _;rfl) | (intro _;exact⟨rfl,rfl,i1,i2,i3,i4⟩) | (intro _;exact⟨rfl,rfl,rfl⟩) | (intro _ _;rfl) | (intro hh;exfalso;revert hh;simp;done) | (right;simp;done))
 · simp only[if_neg hm]
   refine⟨?_,zhe h.nd (zhi _ _ ⟨i1,i2,i3,i4⟩)⟩
   constructor<;>(first | exact h.nd | exact h.n1 | rfl | (intro _;rfl) | (intro _;exact⟨rfl,rfl,i1,i2,i3,i4⟩) | (intro _ _;rfl) | (intro hh;exfalso;revert hh;simp;done) | (right;simp;done))
theorem zhy (h:zht S T) (h0:S.wk≠0) (M:Ms):cFitB S M=rFitB T M:=by
 by_cases hk:S.wk=M.kind
 · have hk':M.kind=T.wk:=by rw[← hk,h.wk]
   obtain⟨a1,a2,_⟩:= h.ix h0
   unfold cFitB rFitB
   rw[decide_eq_true hk,decide_eq_true hk']
   rw[a1,a2]
   by_cases h17:M.kind=17
   · rw[(h.r17 (hk.trans h17)).2.2.2.2.1]
     by_cases h13:M.kind=13∨M.kind=15
     · omega
     · simp only[if_neg h13]
   · by_cases h13:M.kind=13
     · rw[h.t13 (hk.trans h13)]
       simp only[h13,show ¬ ((13:Int)=12∨(13:Int)=14∨(13:Int)=19) by decide,show ¬ ((13:Int)=16) by decide,if_false,true_or,if_true]
     · rw[h.tg h0 (by omega)]
       simp only[if_neg h17]
 · have hk': ¬ M.kind=T.wk:=by rw[← h.wk];exact fun e=>hk e.symm
   unfold cFitB rFitB
   rw[decide_eq_false hk,decide_eq_false hk']
   simp
theorem zhz (a:Nat) (hn:S.nd=T.nd) (hn1:1≤S.nd∧S.nd≤127) (hc:S.code=T.code) (hd:S.data=T.data) (hz:S.data= []) (hix:S.ix=T.ix∧S.sub=T.sub∧0≤S.ix∧S.ix≤65535∧0≤S.sub∧S.sub≤255) (ht:S.tg=T.tg)
 (ha:S.at_=(a:Int)) (hal:a≤S.b.length) (hb:T.b=S.b.drop a):zht (cSegS S) (rSegS T)∧ cSegL S=rSegL T:=by
 have hlt: ¬ (S.b.length:Int) < S.at_:=by omega
 have hl:T.b.length=S.b.length - a:=by rw[hb];simp
 have hto:cTo S=((min S.b.length (a+7):Nat):Int):= by unfold cTo;rw[ha];omega
 have hla:cLa S=decide (min T.b.length 7=T.b.length):= by
  unfold cLa
  rw[hto,hl]
  congr 1
  apply propext
  omega
 have hto2:(cTo S - S.at_).toNat=min T.b.length 7:=by rw[hto,ha,hl];omega
 have hsd:cSegD S=T.b.take (min T.b.length 7):= by
  unfold cSegD
  rw[hto2,ha,hb]
  rfl
 refine⟨?_,?_⟩
 · unfold cSegS rSegS
   rw[if_neg hlt]
   constructor<;>(first | exact hn | exact hn1 | exact hc | exact hd | rfl | (intro _;exact hz) | (intro _;exact hix) | (intro _;exact ht) | (intro _ _;exact ht) | (intro hh;exfalso;revert hh;simp;done) | (right;simp;done) | skip)
   intro _
   cases hq:cLa S
   · right
     have h7: ¬ min T.b.length 7=T.b.length:=by rw[hla] at hq;simpa using hq
     have e:cTo S=((a+7:Nat):Int):= by rw[hto];omega
     refine⟨by show decide _=false;rw[← hla,hq],?_,?_,?_⟩
     · show 0≤(if false=true then cTo S+1 else cTo S);simp;omega
     · show (if false=true then cTo S+1 else cTo S) < (S.b.length:Int);simp;omega
     · show T.b.drop (min T.b.length 7)=S.b.drop (if false=true then cTo S+1 else cTo S).toNat
       simp only[Bool.false_eq_true,if_false]
       rw[e,hb,List.drop_drop]
       congr 1
       simp only[List.length_drop] at h7 ⊢
       omega
   · left
     have h7:min T.b.length 7=T.b.length:=by rw[hla] at hq;simpa using hq
     refine⟨by show decide _=true;rw[← hla,hq],?_⟩
     show (if true=true then cTo S+1 else cTo S)=(S.b.length:Int)+1
     simp
     omega
 · unfold cSegL rSegL
   rw[if_neg hlt,hla,hsd,ht]
   exact zhe hn (zhh _ _ _ (by simp;omega))
theorem zh0 (hn:S.nd=T.nd) (hn1:1≤S.nd∧S.nd≤127) (hc:S.code=T.code) (hd:S.data=T.data) (hz:S.data= []) (hix:S.ix=T.ix∧S.sub=T.sub∧0≤S.ix∧S.ix≤65535∧0≤S.sub∧S.sub≤255) (ht:S.tg=T.tg)
 (hb:S.b=T.b) (ha:S.at_=T.ha) (h0:0≤S.at_) (h1:S.at_ < btotal S.b) (most:Int) (hm:1≤most∧most≤127):zht (cRowsS S most) (rRowS T most)∧ cRowsL S most=rRowL T most:=by
 have hlt: ¬ (btotal S.b:Int)≤ S.at_:=by omega
 have hr:rRowN T most=cRowN S most:=by unfold rRowN cRowN;rw[← hb,← ha];omega
 have hr2:0≤cRowN S most∧cRowN S most≤127∧S.at_+cRowN S most≤btotal S.b:=by unfold cRowN;omega
 refine⟨?_,?_⟩
 · unfold cRowsS rRowS
   rw[if_neg hlt]
   constructor<;>(first | exact hn | exact hn1 | exact hc | exact hd | rfl | (intro _;exact hz) | (intro _;exact hix) | (intro _ _;exact ht) | (intro hh;exfalso;revert hh;simp;done) | (right;simp;done) | skip)
   intro _
   exact⟨hb,ha,h0,h1,hr.symm,hr2.2.2⟩
 · unfold cRowsL rRowL
   rw[if_neg hlt,hr,← hb,← ha]
   unfold cRowM
   exact zhd hn _ (zhq _ _ _ _ (by omega))
theorem zh1 (h:zht S T) (h0:S.wk≠0) (M:Ms) (hM:canB M=true) (hf:cFitB S M=true):zht (cStepS S M) (rGoS T M)∧ cStepL S M=rGoL T M:=by
 obtain⟨r1,r2,r3,r4,r5,r6,r7,r8,r9,r10,r11⟩:= zhr hM
 have hk:S.wk=M.kind:=by unfold cFitB at hf;simp only[Bool.and_eq_true,decide_eq_true_iff] at hf;exact hf.1
 have hdz:=h.dz h0
 have hix:=h.ix h0
 have hrg:12≤M.kind∧M.kind≤21:=by rcases h.wks with hh | hh;exact absurd hh h0;omega
 have hcs:M.kind=12∨M.kind=13∨M.kind=14∨M.kind=15∨M.kind=16∨M.kind=17∨M.kind=18∨M.kind=19∨M.kind=20∨M.kind=21:=by omega
 unfold cStepS rGoS cStepL rGoL
 rcases hcs with e | e | e | e | e | e | e | e | e | e
 · simp only[e,if_true]
   obtain⟨q1,q2⟩:= h.r12 (hk.trans e)
   rcases q2 with ⟨q2,q3⟩ | ⟨q2,q3⟩
   · rw[if_pos q2,if_pos q2]
     have:(S.b.length:Int) < S.at_:=by omega
     unfold cSegS cSegL
     rw[if_pos this,if_pos this]
     exact⟨h.ends _ _ _ _ rfl rfl,rfl⟩
   · rw[if_neg (by simp[q2]),if_neg (by simp[q2])]
     exact zhz 0 h.nd h.n1 h.code h.data hdz hix (h.tg h0 (by omega)) q3 (Nat.zero_le _) (by rw[← q1];rfl)
 · simp only[e,if_true,show ¬ (13:Int)=12 by decide,if_false]
   rcases h.r13 (hk.trans e) with ⟨q1,q2⟩ | ⟨q1,q2,q3,q4⟩
   · rw[if_pos q1,if_pos q1]
     have:((S.b.length:Nat):Int) < S.at_:=by omega
     unfold cSegS cSegL
     simp only[if_pos this]
     exact⟨h.ends _ _ _ _ rfl rfl,trivial⟩
   · rw[if_neg (by simp[q1]),if_neg (by simp[q1])]
     exact zhz (S:={ S with tg:=!S.tg }) (T:={ T with tg:=!T.tg }) S.at_.toNat h.nd h.n1 h.code h.data hdz hix (by show (!S.tg)=(!T.tg);rw[h.t13 (hk.trans e)]) (by show S.at_=_;omega) (by show S.at_.toNat≤S.b.length;omega) q4
 · simp only[e,if_true,show ¬ (14:Int)=12 by decide,show ¬ (14:Int)=13 by decide,if_false,true_or]
   unfold rUpS rUpL
   have q1:=h.r14 (hk.trans e)
   by_cases hd:M.data= []
   · simp only[e,hd,ne_eq,not_true,if_false,and_false,show ¬ ((14:Int)=15) by decide,false_and]
     refine⟨?_,?_⟩
     · unfold cMoreS cExp rUpA
       simp only[e,if_true]
       constructor<;>(first | exact h.nd | exact h.n1 | exact h.code | exact h.data | rfl | (intro _;exact hdz) | (intro _;exact hix) | (intro _ _;exact h.tg h0 (by omega)) | (intro hh;exfalso;revert hh;simp;done) | (right;simp;done) | skip)
       intro _
       exact⟨q1,rfl,rfl⟩
     · unfold cMoreL rUpA
       simp only[e,if_true]
       rw[h.tg h0 (by omega)]
       exact zhe h.nd (zhj _)
   · simp only[e,hd,ne_eq,not_false_eq_true,if_true,and_self]
     exact⟨h.ends _ _ _ _ rfl rfl,trivial⟩
 · simp only[e,if_true,show ¬ (15:Int)=12 by decide,show ¬ (15:Int)=13 by decide,show ¬ (15:Int)=14 by decide,if_false,or_true]
   obtain⟨q1,q2,q3⟩:= h.r15 (hk.trans e)
   have qt:=h.tg h0 (by omega)
   unfold cPcS cPcL rUpS rUpL rUpA cPcA
   simp only[e,show ¬ ((15:Int)=14) by decide,false_and,if_false,true_and]
   cases hl:M.la
   · simp only[if_true,Bool.false_eq_true,if_false]
     refine⟨?_,?_⟩
     · unfold cMoreS
       constructor<;>(first | exact h.nd | exact h.n1 | exact h.code | exact h.data | rfl | (intro _;exact hdz) | (intro _;exact hix) | (intro _ _;show (!S.tg)=(!T.tg);rw[qt]) | (intro hh;exfalso;revert hh;simp;done) | (right;simp;done) | skip)
       intro _
       exact⟨by show S.b ++ M.data=T.b ++ M.data;rw[q1],q2,q3⟩
     · unfold cMoreL
       show cSend _ [usegM (!S.tg)]=rSend T [usegM (!T.tg)]
       rw[qt]
       exact zhe (S:={ S with b:=S.b ++ M.data,tg:=!T.tg }) h.nd (zhj _)
   · simp only[Bool.true_eq_false,if_false,if_true]
     have hz:(cSzB S ((S.b ++ M.data).length:Int)=false) ↔ (T.sz=true∧((T.b ++ M.data).length:Int)≠ T.si):= by
      unfold cSzB
      rw[q2,q1,q3]
      simp
     by_cases hs:cSzB S ((S.b ++ M.data).length:Int)=false
     · rw[if_pos hs,if_pos hs,if_pos (hz.1 hs),if_pos (hz.1 hs)]
       refine⟨h.ends _ _ _ _ rfl rfl,?_⟩
       unfold cFailL rGivL
       rw[hix.1,hix.2.1]
       exact zhe h.nd (zhf _ _ _ (by obtain⟨a,b,c⟩:= hix;rw[← a,← b];exact c))
     · rw[if_neg hs,if_neg hs,if_neg (fun hh=>hs (hz.2 hh)),if_neg (fun hh=>hs (hz.2 hh)),q1]
       exact⟨h.ends _ _ _ _ rfl rfl,rfl⟩
 · simp only[e,if_true,show ¬ (16:Int)=12 by decide,show ¬ (16:Int)=13 by decide,show ¬ (16:Int)=14 by decide,show ¬ (16:Int)=15 by decide,if_false,or_self]
   obtain⟨q1,q2,q3⟩:= h.r16 (hk.trans e)
   have hbl:0 < M.bl:=by unfold cFitB at hf;simp[e] at hf;exact hf.2.2
   exact zh0 h.nd h.n1 h.code h.data hdz hix (h.tg h0 (by omega)) q1 (by omega) (by omega) (by unfold btotal;omega) M.bl ⟨by omega,r8⟩
 · simp only[e,if_true,show ¬ (17:Int)=12 by decide,show ¬ (17:Int)=13 by decide,show ¬ (17:Int)=14 by decide,show ¬ (17:Int)=15 by decide,show ¬ (17:Int)=16 by decide,if_false,or_self]
   obtain⟨q1,q2,q3,q4,q5,q6⟩:= h.r17 (hk.trans e)
   have hbl:0 < M.bl∧M.sq≤S.ro:=by unfold cFitB at hf;simp[e] at hf;exact hf.2
   have qt:=h.tg h0 (by omega)
   by_cases hlt:T.ha+M.sq < btotal T.b
   · rw[if_pos hlt,if_pos hlt]
     exact zh0 (S:={ S with at_:=S.at_+M.sq }) (T:={ T with ha:=T.ha+M.sq }) h.nd h.n1 h.code h.data hdz hix qt q1 (by show S.at_+M.sq=T.ha+M.sq;omega) (by show 0≤S.at_+M.sq;omega) (by show S.at_+M.sq < btotal S.b;rw[q1];omega) M.bl ⟨by omega,r8⟩
   · rw[if_neg hlt,if_neg hlt]
     unfold cRowsS cRowsL
     have hle:(btotal S.b:Int)≤ S.at_+M.sq:=by rw[q1,q2];omega
     simp only[if_pos hle]
     refine⟨?_,?_⟩
     · constructor<;>(first | exact h.nd | exact h.n1 | exact h.code | exact h.data | rfl | (intro _;exact hdz) | (intro _;exact hix) | (intro _ _;exact qt) | (intro hh;exfalso;revert hh;simp;done) | (right;simp;done) | skip)
     · rw[q1]
       exact zhe (S:={ S with b:=T.b,at_:=S.at_+M.sq }) h.nd (zhl _ _ (zhs _))
 · simp only[e,if_true,show ¬ (18:Int)=12 by decide,show ¬ (18:Int)=13 by decide,show ¬ (18:Int)=14 by decide,show ¬ (18:Int)=15 by decide,show ¬ (18:Int)=16 by decide,show ¬ (18:Int)=17 by decide,show ¬ (18:Int)=19 by decide,show ¬ (18:Int)=21 by decide,show ¬ (18:Int)=20 by decide,if_false,or_self]
   exact⟨h.ends _ _ _ _ rfl rfl,trivial⟩
 · simp only[e,if_true,show ¬ (19:Int)=12 by decide,show ¬ (19:Int)=13 by decide,show ¬ (19:Int)=14 by decide,show ¬ (19:Int)=15 by decide,show ¬ (19:Int)=16 by decide,show ¬ (19:Int)=17 by decide,show ¬ (19:Int)=18 by decide,if_false,or_self]
   obtain⟨q1,q2,q3⟩:= h.r19 (hk.trans e)
   have qt:=h.tg h0 (by omega)
   refine⟨?_,?_⟩
   · constructor<;>(first | exact h.nd | exact h.n1 | exact h.code | exact h.data | rfl | (intro _;exact hdz) | (intro _;exact hix) | (intro _ _;exact qt) | (intro hh;exfalso;revert hh;simp;done) | (right;simp;done) | skip)
     intro _
     exact⟨q1,by show S.ro=T.nx - 1;omega,by show 0≤S.ro;omega,by show S.ro≤127;omega,rfl,rfl,rfl⟩
   · exact zhe h.nd (by decide)
 · simp only[e,if_true,show ¬ (20:Int)=12 by decide,show ¬ (20:Int)=13 by decide,show ¬ (20:Int)=14 by decide,show ¬ (20:Int)=15 by decide,show ¬ (20:Int)=16 by decide,show ¬ (20:Int)=17 by decide,show ¬ (20:Int)=18 by decide,show ¬ (20:Int)=19 by decide,show ¬ (20:Int)=21 by decide,if_false,or_self]
   obtain⟨q1,q2,q3,q4,q5,q6,q7⟩:= h.r21 (.inr (hk.trans e))
   have hB:cLsB S M=rEndB T M:=by unfold cLsB rEndB;rw[q1]
   have hC:cLsC S M=rEndC T M:=by
    unfold cLsC rEndC
    have:(cSzB S ((S.b.length:Int) - M.em)=false∨(S.b.length:Int) < M.em) ↔ ((T.sz=true∧((rEndB T M).length:Int)≠ T.si)∨ (S.b.length:Int) < M.em):= by
     by_cases hl:(S.b.length:Int) < M.em
     · simp[hl]
     · have:((rEndB T M).length:Int)=(S.b.length:Int) - M.em:=by unfold rEndB;rw[q1] at hl ⊢;simp;omega
       rw[this]
       unfold cSzB
       rw[q5,q6]
       simp[hl]
    rw[hB,q7,← q1]
    simp only[or_comm (a:=(S.b.length:Int) < M.em)]
    simp only[this]
   unfold cLsS rEndS cLsL rEndL
   rw[hC,hB]
   by_cases hc:rEndC T M≠0
   · rw[if_pos hc,if_pos hc,if_pos hc,if_pos hc]
     refine⟨h.ends _ _ _ _ rfl rfl,?_⟩
     unfold cFailL rGivL
     rw[hix.1,hix.2.1]
     exact zhe h.nd (zhf _ _ _ (by obtain⟨a,b,c⟩:= hix;rw[← a,← b];exact c))
   · rw[if_neg hc,if_neg hc,if_neg hc,if_neg hc]
     exact⟨h.ends _ _ _ _ rfl rfl,zhe h.nd (by decide)⟩
 · simp only[e,if_true,show ¬ (21:Int)=12 by decide,show ¬ (21:Int)=13 by decide,show ¬ (21:Int)=14 by decide,show ¬ (21:Int)=15 by decide,show ¬ (21:Int)=16 by decide,show ¬ (21:Int)=17 by decide,show ¬ (21:Int)=18 by decide,show ¬ (21:Int)=19 by decide,if_false,or_self]
   obtain⟨q1,q2,q3,q4,q5,q6,q7⟩:= h.r21 (.inl (hk.trans e))
   have qt:=h.tg h0 (by omega)
   have hA:zht (cTkA S M) (rTkA T M)∧ ((cTkA S M).wk=21∨(cTkA S M).wk=20):= by
    unfold cTkA rTkA
    by_cases hs:M.sq=S.ro+1
    · have hs':M.sq=T.nx:=by omega
      rw[if_pos hs,if_pos hs']
      refine⟨?_,?_⟩
      · cases M.la
        · constructor<;>(first | exact h.nd | exact h.n1 | exact h.wk | exact h.code | exact h.data | rfl | (intro _;exact hdz) | (intro _;exact hix) | (intro _ _;exact qt) | (intro hh;exfalso;revert hh;simp[hk,e];done) | (right;simp[hk,e];done) | skip)
          intro _
          exact⟨by show S.b ++ M.data=T.b ++ M.data;rw[q1],by show S.ro+1=T.nx+1 - 1;omega,by show 0≤S.ro+1;omega,by show S.ro+1≤127;omega,q5,q6,q7⟩
        · constructor<;>(first | exact h.nd | exact h.n1 | exact h.code | exact h.data | rfl | (intro _;exact hdz) | (intro _;exact hix) | (intro _ _;exact qt) | (intro hh;exfalso;revert hh;simp;done) | (right;simp;done) | skip)
          intro _
          exact⟨by show S.b ++ M.data=T.b ++ M.data;rw[q1],by show S.ro+1=T.nx+1 - 1;omega,by show 0≤S.ro+1;omega,by show S.ro+1≤127;omega,q5,q6,q7⟩
      · cases M.la
        · exact .inl (hk.trans e)
        · exact .inr rfl
    · have hs': ¬ M.sq=T.nx:=by omega
      rw[if_neg hs,if_neg hs']
      exact⟨h,.inl (hk.trans e)⟩
   obtain⟨hA,hw⟩:= hA
   obtain⟨p1,p2,p3,p4,p5,p6,p7⟩:= hA.r21 hw
   have hA0:(cTkA S M).wk≠0:=by omega
   have hA13:(cTkA S M).wk≠13:=by omega
   unfold cTkS rTkS cTkL rTkL
   by_cases hq:M.sq≠32∧M.la=false
   · rw[if_pos hq,if_pos hq,if_pos hq,if_pos hq]
     exact⟨hA,rfl⟩
   · rw[if_neg hq,if_neg hq,if_neg hq,if_neg hq]
     refine⟨?_,?_⟩
     · constructor<;>(first | exact hA.nd | exact hA.n1 | exact hA.wk | exact hA.code | exact hA.data | exact hA.wks | (intro _;exact hA.dz hA0) | (intro _;exact hA.ix hA0) | (intro _ _;exact hA.tg hA0 hA13) | (intro hh;exfalso;replace hh:(cTkA S M).wk=_:=hh;omega) | skip)
       intro _
       exact⟨p1,by show (0:Int)=1 - 1;decide,by show (0:Int)≤ 0;decide,by show (0:Int)≤ 127;decide,p5,p6,p7⟩
     · rw[p2]
       exact zhe h.nd (zhn _ (by omega))
theorem zh2 (h:zht S T) (f:Frm):zht (cRecvS S f) (rRecvS T f)∧ cRecvL S f=rRecvL T f:=by
 unfold cRecvS rRecvS cRecvL rRecvL
 have hks:rKs T f.data=cKs S f.data:=by unfold rKs cKs;rw[h.wk]
 rw[hks,← h.nd,← h.wk]
 by_cases h0:S.wk=0∨f.id≠1408+S.nd∨f.re=true∨f.data.length≠8
 · simp only[if_pos h0];exact⟨h,trivial⟩
 simp only[if_neg h0]
 have hw:S.wk≠0:=fun e=>h0 (.inl e)
 have hix:=h.ix hw
 by_cases h1:errI (cKs S f.data) f.data=0∧(resM (cKs S f.data) f.data).kind=1
 · simp only[if_pos h1]
   exact⟨h.ends _ _ _ _ rfl rfl,trivial⟩
 simp only[if_neg h1]
 rw[← zhy h hw]
 by_cases h2:errI (cKs S f.data) f.data≠0∨cFitB S (resM (cKs S f.data) f.data)=false
 · simp only[if_pos h2]
   refine⟨h.ends _ _ _ _ rfl rfl,?_⟩
   unfold cFailL rGivL
   rw[hix.1,hix.2.1]
   exact zhe h.nd (zhf _ _ _ (by obtain⟨a,b,c⟩:= hix;rw[← a,← b];exact c))
 · simp only[if_neg h2]
   have he:errI (cKs S f.data) f.data=0:=by
    rcases Int.decEq (errI (cKs S f.data) f.data) 0 with hh | hh
    · exact absurd (.inl hh) h2
    · exact hh
   exact zh1 h hw _ (zbc _ _ he).1 (by cases hh:cFitB S (resM (cKs S f.data) f.data);exact absurd (.inr hh) h2;rfl)
end
end
section
open Go.RowKit Go.Maps
set_option maxRecDepth 100000
set_option maxHeartbeats 8000000
theorem zh3 (ks:List Int) (b:List UInt8):(resM ks b).size≤4294967295∧(resM ks b).sum≤65535:=by
 unfold resM
 split
 · have h:∀ ks,∀ x,ofM ks b=some x→x.size≤4294967295∧x.sum≤65535:=by
    intro ks
    induction ks with
    | nil=>intro x hx;cases hx
    | cons k ks ih=>
      intro x hx
      unfold ofM at hx
      split at hx
      · injection hx with hx
        subst hx
        exact⟨(zeu k b).1,(zeu k b).2.2⟩
      · exact ih x hx
   cases ho:ofM ks b with
   | none=>exact⟨Nat.zero_le _,Nat.zero_le _⟩
   | some x=>exact h ks x ho
 · exact⟨Nat.zero_le _,Nat.zero_le _⟩
theorem zh4 (S:CliS) (b:List UInt8) (he:errI (cKs S b) b=0) (hk:(resM (cKs S b) b).kind≠1):MsB (resM (cKs S b) b):= by
 obtain⟨r1,r2,r3,r4,r5,r6,r7,r8,r9,r10,r11⟩:= zhr (zbc _ _ he).1
 obtain⟨h1,h2⟩:= zh3 (cKs S b) b
 exact⟨zf7 S b he hk,r11,⟨r9,r10⟩,h2,⟨r7,by omega⟩,⟨r5,by omega⟩,h1⟩
theorem zh5 {G:Nat→Prop} {p m:Nat} (S:CliS) (f:Frm) (A:Option Addr) (n c:Nat) (w:World) (hS:CV_ w G p m S) (hw:0≤S.wk∧S.wk≤21) (hB:S.wk≠0→ClB S) (hn:n=f.data.length) (hc:n≤c) (hs:Sl w A (f.data.map bv)) :
 Calls Try.prog 16 #[.pointer (some ⟨p,0,none⟩),.agg #[.int .i64 f.id,.bool f.re,.slice A n c]] w (zf4 w G p m (cRecvS S f) (cRecvL S f)):= by
 by_cases hno:S.wk=0∨f.id≠1408+S.nd∨f.re=true∨f.data.length≠8
 · rw[show cRecvS S f=S by unfold cRecvS;rw[if_pos hno],show cRecvL S f= [] by unfold cRecvL;rw[if_pos hno]]
   exact zf3 S f A n c w hS hw hn hno
 · have h0:S.wk≠0:=fun e=>hno (.inl e)
   have hen:S.en≤4294967295:=by
    obtain⟨R,_,_,hE,_⟩:= hS
    exact hE.2.2.2
   exact zf8 S f A n c w hS hw hen hn hc hs h0 (by
    by_cases h:f.id=1408+S.nd
    · exact h
    · exact absurd (.inr (.inl h)) hno) (by
    cases h:f.re
    · rfl
    · exact absurd (.inr (.inr (.inl h))) hno) (by
    by_cases h:f.data.length=8
    · exact h
    · exact absurd (.inr (.inr (.inr h))) hno) (fun he hk hf=>zhb w G p m S _ (hB h0) (zh4 S _ he hk))
end
end Go.Proofs.Ythdbckbpldlkeaa
