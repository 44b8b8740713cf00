/- None -/
import Derived.Test.YthdbckbpldlkeaaGreatRows
import Derived.ProofKit
import Derived.OpenShut
import Derived.ChangeOld
import Derived.Deep.Slices
import Derived.Deep.Fields
import Derived.Lib.SmallJoins
import Derived.Test.YthdbckbpldlkeaaGreatS43
namespace Go.Proofs.YthdbckbpldlkeaaGreat
set_option linter.unusedVariables false
set_option linter.unusedSimpArgs false
set_option linter.unnecessarySimpa false
section
open Go.RowKit Go.ChangeShapes Go.WideShapes Go.Deep
set_option maxRecDepth 20000
theorem zrk:Tryz.prog.cellsOf 5=1:=by kernel_rfl
theorem zrl (zs:List Int) (k:Nat) (hz:∀ n ∈ zs,(Lit.int .u8 n).wf=true):∃ l:List UInt8,l.length=(zs.take k).length∧ ∀ i,i < l.length→ ∃ c,l[i]? =some c∧zs.getD i 0=(c.toNat:Int):= by
 refine⟨(zs.take k).map fun n=>UInt8.ofNat n.toNat,by simp,?_⟩
 intro i hi
 simp at hi
 have hlt:i < zs.length:=by omega
 refine⟨UInt8.ofNat (zs[i]).toNat,?_,?_⟩
 · rw[List.getElem?_map,List.getElem?_take,if_pos (by omega),List.getElem?_eq_getElem hlt];rfl
 · have hw:=hz _ (List.getElem_mem hlt)
   have hb:0≤zs[i]∧ zs[i]≤ 255:=by simpa [Lit.wf,IntKind.min,IntKind.max,IntKind.signed,IntKind.bits] using hw
   rw[List.getD_eq_getElem?_getD,List.getElem?_eq_getElem hlt]
   simp only[Option.getD_some,UInt8.toNat_ofNat']
   omega
theorem zrm {α:Type} (n:Nat) (Q:Nat→α→Prop) (h:∀ i,i < n→ ∃ a,Q i a):∃ L:List α,L.length=n∧ ∀ i a,L[i]? =some a→Q i a:=by
 induction n with
 | zero=>exact⟨[],rfl,by intro i a h;simp at h⟩
 | succ n ih=>
   obtain⟨L,hL,hQ⟩:= ih fun i hi=>h i (by omega)
   obtain⟨a,ha⟩:= h n (by omega)
   refine⟨L ++ [a],by simp[hL],?_⟩
   intro i b hb
   rcases Nat.lt_or_ge i n with hi | hi
   · rw[List.getElem?_append_left (by omega)] at hb
     exact hQ i b hb
   · have:i < (L ++ [a]).length:=(List.getElem?_eq_some_iff.1 hb).1
     simp[hL] at this
     obtain rfl:i=n:=by omega
     rw[List.getElem?_append_right (by omega),hL] at hb
     simp at hb
     subst hb
     exact ha
section
variable {H:Type} {enc:TypeId×Value→H} {w:World} {base:Nat} {spare:Nat→Bool} {held:Bool}
theorem zrn {fuel:Nat} {v:Value} {x:DataW H×List MemPlace} (h:DataW.trod enc Tryz.prog w base spare held fuel 27 [v]=some x) :
 ∃ (A:Option Addr) (c:Nat) (l:List UInt8),v= .slice A l.length c∧l.length≤c∧Sl w A (l.map bv):= by
 rcases open_ints Tryz.underlying27 Tryz.underlying5 zrk h with ⟨hcs,_⟩ | ⟨a,len,cap,zs,hcs,_,hl,hm,hz,_,hcell,hwz⟩
 · simp at hcs
   exact⟨none,0,[],hcs,Nat.le_refl _,Sl.nil _ _⟩
 · simp at hcs
   obtain⟨l,hll,hg⟩:= zrl zs len hwz
   have hlz:len≤zs.length:=by rw[hz];split<;>omega
   have hlen:l.length=len:=by rw[hll,List.length_take];omega
   refine⟨some a,cap,l,by rw[hlen];exact hcs,by omega,?_⟩
   · intro j u hu
     have hj:j < l.length:=by have:=(List.getElem?_eq_some_iff.1 hu).1;simpa using this
     obtain⟨c,hc,hzc⟩:= hg j hj
     refine⟨a,rfl,?_⟩
     rw[hcell j (by omega),hzc]
     rw[List.getElem?_map,hc] at hu
     simpa [bv] using hu
end
end
section
open Go.RowKit
set_option maxRecDepth 20000
set_option maxHeartbeats 2000000
theorem zro (M:Ms) (h:canB M=true):(laidB M).length=8:=by
 simp only[canB,rangeB,Bool.and_eq_true,decide_eq_true_iff] at h
 have h7:M.data.length≤7:=h.1.1.2.2
 have hsh:=h.1.2
 unfold laidB
 rw[List.length_set]
 have hp:=zcp M
 by_cases h2:formI M.kind=2
 · rw[h2] at hsh ⊢
   simp only[shapeB,if_true,Bool.or_eq_true,Bool.and_eq_true,decide_eq_true_iff] at hsh
   unfold bodL
   rw[if_neg (by decide),if_pos rfl]
   split
   · rw[zco,hp]
   · rw[zcq _ _ _ (by rw[zco,hp];omega),zco,hp]
 · generalize formI M.kind=f at *
   unfold bodL
   rw[if_neg (c:=f=2) h2]
   (repeat' split)<;> first
     | (rw[zcq _ _ _ (by rw[hp];omega),hp])
     | simp[zco,hp]
end
section
structure Told (st:Int) (O:SegO):Prop where
 yes:O.wr=true→O.ms= []∧ st=3
 no:O.wr=false→O.b= []
 le:O.b.length≤2000
theorem zrp {st:Int} {O:SegO} (h1:O.wr=false) (h2:O.b= []):Told st O:=⟨fun h=>(by rw[h1] at h;cases h),fun _=>h2,by rw[h2];exact Nat.zero_le _⟩
theorem zrq {L:List Ent} {S:SegS} {M:Ms} (hM:M.data.length≤1000):Told (downS L S M).st (downO L M):= by
 unfold downS downO
 by_cases h1:dcode L M≠0
 · rw[if_pos h1,if_pos h1];exact zrp rfl rfl
 rw[if_neg h1,if_neg h1]
 by_cases h2:M.data≠ []
 · rw[if_pos h2,if_pos h2];exact⟨fun _=>⟨rfl,rfl⟩,fun h=>(by cases h),(by show M.data.length≤2000;omega)⟩
 · rw[if_neg h2,if_neg h2];exact zrp rfl rfl
theorem zrr {S:SegS} {M:Ms} (h:znl S) (h0:S.st=1) (hM:M.data.length≤1000):Told (partS S M).st (partO S M):= by
 unfold partS partO
 by_cases h1:M.tg≠S.tg
 · have h2:pcode S M≠0:=by unfold pcode;rw[if_pos h1];decide
   rw[if_pos h1,if_pos h2];exact zrp rfl rfl
 rw[if_neg h1]
 by_cases h2:pcode S M≠0
 · rw[if_pos h2,if_pos h2];exact zrp rfl rfl
 rw[if_neg h2,if_neg h2]
 by_cases h3:M.la=true
 · rw[if_pos h3,if_pos h3]
   refine⟨fun _=>⟨rfl,rfl⟩,fun h=>(by cases h),?_⟩
   have:=(h.1 h0).2
   show (S.b ++ M.data).length≤2000
   simp
   omega
 · rw[if_neg h3,if_neg h3];exact zrp rfl rfl
theorem zrs {L:List Ent} {V:List (List UInt8)} {S:SegS} {M:Ms} (h:znl S) (hM:M.data.length≤1000):Told (recvS L V S M).st (recvO L V S M):= by
 unfold recvS recvO
 by_cases h1:M.kind=1
 · rw[if_pos h1,if_pos h1];exact zrp rfl rfl
 rw[if_neg h1,if_neg h1]
 by_cases h2:M.kind=2
 · rw[if_pos h2,if_pos h2];exact zrq hM
 rw[if_neg h2,if_neg h2]
 by_cases h3:M.kind=4
 · rw[if_pos h3,if_pos h3]
   refine zrp ?_ ?_
   · unfold upO;(repeat' split)<;> rfl
   · unfold upO;(repeat' split)<;> rfl
 rw[if_neg h3,if_neg h3]
 by_cases h4:M.kind=3∧S.st=1
 · rw[if_pos h4,if_pos h4];exact zrr h h4.2 hM
 rw[if_neg h4,if_neg h4]
 by_cases h5:M.kind=5∧S.st=2
 · rw[if_pos h5,if_pos h5]
   refine zrp ?_ ?_
   · unfold nextO;(repeat' split)<;> rfl
   · unfold nextO;(repeat' split)<;> rfl
 rw[if_neg h5,if_neg h5]
 refine zrp ?_ ?_
 · (repeat' split)<;> rfl
 · (repeat' split)<;> rfl
theorem zrt {S:BlkS} {M:Ms} (h:BWf S) (h0:S.st=2):Told (bendS S M).st (bendO S M):= by
 unfold bendS bendO
 by_cases h1:becode S M≠0
 · rw[if_pos h1,if_pos h1];exact zrp rfl rfl
 · rw[if_neg h1,if_neg h1]
   refine⟨fun _=>⟨rfl,rfl⟩,fun h=>(by cases h),?_⟩
   have h2:=h.b12 (.inr h0)
   have h3:=h.mo
   show (bendB S M).length≤2000
   have:(bendB S M).length≤S.b.length:=by unfold bendB;rw[List.length_take];omega
   omega
theorem zru {L:List Ent} {V:List (List UInt8)} {S:BlkS} {M:Ms} (h:BWf S):Told (brS L V S M).st (brO L V S M):= by
 unfold brS brO
 by_cases h1:M.kind=1
 · rw[if_pos h1,if_pos h1];exact zrp rfl rfl
 rw[if_neg h1,if_neg h1]
 by_cases h2:M.kind=6
 · rw[if_pos h2,if_pos h2]
   refine zrp ?_ ?_
   · unfold bdownO;(repeat' split)<;> rfl
   · unfold bdownO;(repeat' split)<;> rfl
 rw[if_neg h2,if_neg h2]
 by_cases h3:M.kind=8
 · rw[if_pos h3,if_pos h3]
   refine zrp ?_ ?_
   · unfold bupO;(repeat' split)<;> rfl
   · unfold bupO;(repeat' split)<;> rfl
 rw[if_neg h3,if_neg h3]
 by_cases h4:S.st=0∨S.st=3
 · rw[if_pos h4,if_pos h4];exact zrp rfl rfl
 rw[if_neg h4,if_neg h4]
 by_cases h5:M.kind=21∧S.st=1
 · rw[if_pos h5,if_pos h5]
   refine zrp ?_ ?_
   · unfold bpartO;(repeat' split)<;> rfl
   · unfold bpartO;(repeat' split)<;> rfl
 rw[if_neg h5,if_neg h5]
 by_cases h6:M.kind=7∧S.st=2
 · rw[if_pos h6,if_pos h6];exact zrt h h6.2
 rw[if_neg h6,if_neg h6]
 by_cases h7:M.kind=9∧S.st=4
 · rw[if_pos h7,if_pos h7];exact zrp rfl rfl
 rw[if_neg h7,if_neg h7]
 by_cases h8:M.kind=10∧S.st=5
 · rw[if_pos h8,if_pos h8]
   refine zrp ?_ ?_
   · unfold backO;(repeat' split)<;> rfl
   · unfold backO;(repeat' split)<;> rfl
 rw[if_neg h8,if_neg h8]
 refine zrp ?_ ?_
 · (repeat' split)<;> rfl
 · (repeat' split)<;> rfl
structure ToldX (X:SdoS) (O:SegO):Prop where
 yes:O.wr=true→O.ms= []∧ ((X.sg.st=3∧X.bk.st=0)∨ (X.sg.st=0∧X.bk.st=3))
 no:O.wr=false→O.b= []
 le:O.b.length≤2000
theorem zrv {X:SdoS} {O:SegO} (h1:O.wr=false) (h2:O.b= []):ToldX X O:=⟨fun h=>(by rw[h1] at h;cases h),fun _=>h2,by rw[h2];exact Nat.zero_le _⟩
theorem zrw {X:SdoS} {O:SegO} (h:Told X.sg.st O) (h0:X.bk.st=0):ToldX X O:=⟨fun hw=>⟨(h.yes hw).1,.inl ⟨(h.yes hw).2,h0⟩⟩,h.no,h.le⟩
theorem zrx {X:SdoS} {O:SegO} (h:Told X.bk.st O) (h0:X.sg.st=0):ToldX X O:=⟨fun hw=>⟨(h.yes hw).1,.inr ⟨h0,(h.yes hw).2⟩⟩,h.no,h.le⟩
theorem zry {L:List Ent} {V:List (List UInt8)} {X:SdoS} {M:Ms} (h1:znl X.sg) (h2:BWf X.bk) (h:X.sg.st=0∨X.bk.st=0) (hM:M.data.length≤1000):ToldX (sdDS L V X M) (sdDO L V X M):= by
 unfold sdDS sdDO
 by_cases k1:M.kind=1
 · rw[if_pos k1,if_pos k1];exact zrv rfl rfl
 rw[if_neg k1,if_neg k1]
 by_cases k2:sdSeg M.kind=true
 · rw[if_pos k2,if_pos k2]
   by_cases k3:sdBeg M.kind=true
   · rw[if_pos k3,if_pos k3];exact zrw (zrs h1 hM) rfl
   rw[if_neg k3,if_neg k3]
   by_cases k4:X.bk.st≠0
   · rw[if_pos k4,if_pos k4];exact zrv rfl rfl
   rw[if_neg k4,if_neg k4]
   exact zrw (zrs h1 hM) (show X.bk.st=0 by omega)
 rw[if_neg k2,if_neg k2]
 by_cases k3:sdBeg M.kind=true
 · rw[if_pos k3,if_pos k3];exact zrx (zru h2) rfl
 rw[if_neg k3,if_neg k3]
 by_cases k4:X.sg.st≠0
 · rw[if_pos k4,if_pos k4];exact zrv rfl rfl
 rw[if_neg k4,if_neg k4]
 exact zrx (zru h2) (show X.sg.st=0 by omega)
theorem zrz {X:SdoS} {f:Frm} (h:sdReq X f=true):f.id=X.nin∧f.re=false∧f.data.length=8:=by
 unfold sdReq at h
 simpa using h
theorem zr0 {L:List Ent} {V:List (List UInt8)} {X:SdoS} {f:Frm} (h:SdWf X):ToldX (sdRS L V X f) (sdRO L V X f):= by
 unfold sdRS sdRO
 by_cases k1:sdReq X f=true
 · rw[if_pos k1,if_pos k1]
   by_cases k2:sdRc X f.data≠0
   · rw[if_pos k2,if_pos k2];exact zrv rfl rfl
   rw[if_neg k2,if_neg k2]
   have h8:=(zrz k1).2.2
   have hd:=zpa (sdKs X f.data) f.data
   exact zry (X:={ X with left:=50 }) h.sg h.bk h.one (by omega)
 · rw[if_neg k1,if_neg k1];exact zrv rfl rfl
theorem zr1 {X:SdoS} {O:SegO} (h:ToldX X O) (hw:O.wr=true):sdBusy (sdAS X)=false:=by
 rcases (h.yes hw).2 with ⟨h1,h2⟩ | ⟨h1,h2⟩
 · refine zno ?_ ?_
   · show (answerS X.sg).st=0
     unfold answerS;rw[if_pos h1]
   · show (bAnswerS X.bk).st=0
     unfold bAnswerS;rw[if_neg (by omega)];exact h2
 · refine zno ?_ ?_
   · show (answerS X.sg).st=0
     unfold answerS;rw[if_neg (by omega)];exact h1
   · show (bAnswerS X.bk).st=0
     unfold bAnswerS;rw[if_pos h2]
def PlcOk (ix sub:Int):Prop:=(0≤ix∧ix≤65535)∧ 0≤sub∧sub≤255
theorem zr2:PlcOk 0 0:=⟨⟨by decide,by decide⟩,by decide,by decide⟩
structure SdPl (X:SdoS):Prop where
 sg:PlcOk X.sg.ix X.sg.sub
 bk:PlcOk X.bk.ix X.bk.sub
theorem zr3 {L:List Ent} {V:List (List UInt8)} {S:SegS} {M:Ms} (h:PlcOk S.ix S.sub) (hM:PlcOk M.ix M.sub):PlcOk (recvS L V S M).ix (recvS L V S M).sub:=by
 unfold recvS
 split
 · exact h
 split
 · unfold downS
   split
   · exact h
   split
   · exact hM
   · exact hM
 split
 · unfold upS
   split
   · exact h
   split
   · exact h
   · exact hM
 split
 · unfold partS
   split
   · exact h
   split
   · exact h
   split
   · exact h
   · exact h
 split
 · unfold nextS
   split
   · exact h
   split
   · exact h
   · exact h
 · exact h
theorem zr4 {S:BlkS} {M:Ms} (h:PlcOk S.ix S.sub):PlcOk (btake S M).ix (btake S M).sub:=by
 unfold btake
 split
 · exact h
 · exact h
theorem zr5 {L:List Ent} {V:List (List UInt8)} {S:BlkS} {M:Ms} (h:PlcOk S.ix S.sub) (hM:PlcOk M.ix M.sub):PlcOk (brS L V S M).ix (brS L V S M).sub:=by
 unfold brS
 split
 · exact h
 split
 · unfold bdownS
   split
   · exact h
   · exact hM
 split
 · unfold bupS
   split
   · exact h
   · exact hM
 split
 · exact h
 split
 · unfold bpartS
   split
   · exact h
   split
   · exact zr4 h
   split
   · exact zr4 h
   · exact zr4 h
 split
 · unfold bendS
   split
   · exact h
   · exact h
 split
 · exact h
 split
 · unfold backS
   split
   · exact h
   split
   · exact h
   · exact h
 · exact h
theorem zr6 {X:SdoS} (h:SdPl X):SdPl (sdAbS X):= by
 unfold sdAbS
 split
 · exact⟨h.sg,h.bk⟩
 split
 · exact⟨h.sg,h.bk⟩
 · exact h
theorem zr7 {L:List Ent} {V:List (List UInt8)} {X:SdoS} {M:Ms} (h:SdPl X) (hM:PlcOk M.ix M.sub):SdPl (sdDS L V X M):= by
 unfold sdDS
 split
 · exact⟨h.sg,h.bk⟩
 split
 · split
   · exact⟨zr3 h.sg hM,h.bk⟩
   split
   · exact⟨h.sg,h.bk⟩
   · exact⟨zr3 h.sg hM,h.bk⟩
 · split
   · exact⟨h.sg,zr5 h.bk hM⟩
   split
   · exact⟨h.sg,h.bk⟩
   · exact⟨h.sg,zr5 h.bk hM⟩
theorem zr8 (f:Int) (M:Ms) (h:PlcOk M.ix M.sub):PlcOk (onlyM f M).ix (onlyM f M).sub:=by
 unfold onlyM
 simp only[]
 split
 · exact h
 · exact zr2
theorem zr9 (k:Int) (b:List UInt8):PlcOk (preM k b).ix (preM k b).sub:=by
 have h2:leN ((b.drop 1).take 2)≤ 65535:=by
  have h:=zan ((b.drop 1).take 2)
  have hp:256 ^ ((b.drop 1).take 2).length≤256 ^ 2:=Nat.pow_le_pow_right (by omega) (List.length_take_le _ _)
  have:(256:Nat) ^ 2=65536:=by decide
  omega
 have b3:=zns b 3
 exact⟨⟨by show (0:Int)≤ ((leN ((b.drop 1).take 2):Nat):Int);omega,by show ((leN ((b.drop 1).take 2):Nat):Int)≤ 65535;omega⟩,by show (0:Int)≤ ((byt b 3:Nat):Int);omega,by show ((byt b 3:Nat):Int)≤ 255;omega⟩
theorem zsa (ks:List Int) (b:List UInt8):PlcOk (resM ks b).ix (resM ks b).sub:=by
 unfold resM
 split
 · have h:∀ ks,∀ x,ofM ks b=some x→PlcOk x.ix x.sub:=by
    intro ks
    induction ks with
    | nil=>intro x hx;cases hx
    | cons k ks ih=>
      intro x hx
      unfold ofM at hx
      split at hx
      · injection hx with hx
        subst hx
        exact zr8 _ _ (zr9 k b)
      · exact ih x hx
   cases ho:ofM ks b with
   | none=>exact zr2
   | some x=>exact h ks x ho
 · exact zr2
theorem zsb {L:List Ent} {V:List (List UInt8)} {X:SdoS} {f:Frm} (h:SdPl X):SdPl (sdRS L V X f):= by
 unfold sdRS
 split
 · split
   · exact zr6 (X:={ X with left:=50 }) ⟨h.sg,h.bk⟩
   · exact zr7 (X:={ X with left:=50 }) ⟨h.sg,h.bk⟩ (zsa _ _)
 · exact h
theorem zsc {X:SdoS} (h:SdPl X):SdPl (sdAS X):= by
 refine⟨?_,?_⟩
 · show PlcOk (answerS X.sg).ix (answerS X.sg).sub
   unfold answerS
   split
   · exact h.sg
   · exact h.sg
 · show PlcOk (bAnswerS X.bk).ix (bAnswerS X.bk).sub
   unfold bAnswerS
   split
   · exact h.bk
   · exact h.bk
theorem zsd {X:SdoS} {O:SegO} (h:ToldX X O) (hw:O.wr=true) (hp:SdPl X) {code:Nat} (hc:code≠0):∃ ix sub,PlcOk ix sub∧sdAL X code= [abM ix sub code]:= by
 rcases (h.yes hw).2 with ⟨h1,h2⟩ | ⟨h1,h2⟩
 · refine⟨_,_,hp.sg,?_⟩
   unfold sdAL answerL bAnswerL
   rw[if_pos h1,if_pos hc,if_neg (by omega),List.append_nil]
 · refine⟨_,_,hp.bk,?_⟩
   unfold sdAL answerL bAnswerL
   rw[if_neg (by omega),if_pos h2,if_pos hc,List.nil_append]
theorem zse {ix sub:Int} {code:Nat} (h:PlcOk ix sub):canB (abM ix sub code)=true:=by
 obtain⟨⟨h1,h2⟩,h3,h4⟩:= h
 have e:onlyM 1 (abM ix sub code)=abM ix sub code:=rfl
 have hr:rangeB (abM ix sub code)=true:=by simp[rangeB,abM,h1,h2,h3,h4]
 unfold canB
 rw[hr,show formI (abM ix sub code).kind=1 from rfl,e]
 simp[shapeB,sameB]
theorem zsf (ix sub:Int) (code:Nat):(laidB (abM ix sub code))[0]? =some 128:=by
 unfold laidB
 rw[List.getElem?_set_self]
 · rfl
 · show 0 < (bodL 1 (abM ix sub code)).length
   unfold bodL
   rw[if_pos rfl,zco,zcp]
   decide
theorem zsg {ix sub id:Int} {code:Nat} (h:PlcOk ix sub):frmL id [abM ix sub code]= [⟨id,false,laidB (abM ix sub code)⟩]:= by simp[frmL,zse h]
theorem zsh {id:Int} {l:List Ms}:∀ f ∈ frmL id l,f.id=id∧f.re=false∧f.data.length=8:=by
 intro f hf
 unfold frmL at hf
 rw[List.mem_map] at hf
 obtain⟨M,hM,rfl⟩:= hf
 rw[List.mem_filter] at hM
 exact⟨rfl,rfl,zro M hM.2⟩
theorem zsi {id:Int} {l:List Ms}:(frmL id l).length≤l.length:=by
 unfold frmL
 rw[List.length_map]
 exact List.length_filter_le _ _
theorem zsj {X:SdoS} (hW:SdWf X) (id:Int) {n k:Nat} (h1:sdBusy X=true→n=0∧X.left+k≤50) (h2:n≤1) :
 n+(frmL id (sdTL X)).length≤1∧(sdBusy (sdTS X)=true→n+(frmL id (sdTL X)).length=0∧(sdTS X).left+(k+1)≤ 50):= by
 cases hb:sdBusy X
 · have hS:sdTS X=X:=by unfold sdTS;rw[if_neg (by rw[hb];decide)]
   have hL:sdTL X= []:= by unfold sdTL;rw[if_neg (by rw[hb];decide)]
   rw[hS,hL]
   exact⟨h2,fun h=>by rw[hb] at h;cases h⟩
 · obtain⟨h3,h4⟩:= h1 hb
   subst h3
   by_cases h0:0 < X.left - 1
   · have hS:sdTS X= { X with left:=X.left - 1 }:= by unfold sdTS;rw[if_pos hb,if_pos h0]
     have hL:sdTL X= []:= by unfold sdTL;rw[if_pos hb,if_pos h0]
     rw[hS,hL]
     exact⟨Nat.zero_le _,fun _=>⟨rfl,by show X.left - 1+(k+1)≤ 50;omega⟩⟩
   · have hS:sdTS X=sdAbS { X with left:=X.left - 1 }:= by unfold sdTS;rw[if_pos hb,if_neg h0]
     have hL:sdTL X=sdAbL X 84148224:=by unfold sdTL;rw[if_pos hb,if_neg h0]
     have hi:=znp (X:={ X with left:=X.left - 1 }) hW.one
     rw[hS,hL]
     refine⟨?_,fun h=>by rw[zno hi.1 hi.2] at h;cases h⟩
     have:=zsi (id:=id) (l:=sdAbL X 84148224)
     rw[zon] at this
     omega
end
section
section
open Go.RowKit
structure Op23 where
 kind:Int
 f:Frm
 own:Bool
 code:Nat
 n:Nat
def SlQ (w:World) (A:Option Addr) (L:List Op23):Prop:= ∀ j o,L[j]? =some o→ ∃ b off Af cf,A=some ⟨b,off,none⟩∧ (w.cell? ⟨b,off+j * 7,none⟩=some (.int .i64 o.kind)∧ w.cell? ⟨b,off+j * 7+1,none⟩=some (.int .i64 o.f.id)∧ w.cell? ⟨b,off+j * 7+2,none⟩=some (.bool o.f.re)∧ w.cell? ⟨b,off+j * 7+3,none⟩=some (.slice Af o.f.data.length cf)∧ w.cell? ⟨b,off+j * 7+4,none⟩=some (.bool o.own)∧ w.cell? ⟨b,off+j * 7+5,none⟩=some (.int .u32 (o.code:Nat))∧ w.cell? ⟨b,off+j * 7+6,none⟩=some (.int .u8 (o.n:Nat)))∧ o.f.data.length≤cf∧Sl w Af (o.f.data.map bv)∧ o.code≤4294967295∧o.n≤255
end
section
open Go.RowKit Go.ChangeShapes Go.WideShapes Go.Deep Go.Joins
set_option maxRecDepth 20000
theorem zsk {n:Int} (h:(Lit.int .u32 n).wf=true):∃ m:Nat,n=(m:Nat)∧ m≤4294967295:=by
 have hb:0≤n∧n≤4294967295:=by simpa [Lit.wf,IntKind.min,IntKind.max,IntKind.signed,IntKind.bits] using h
 exact⟨n.toNat,by omega,by omega⟩
theorem zsl {n:Int} (h:(Lit.int .u8 n).wf=true):∃ m:Nat,n=(m:Nat)∧ m≤255:=by
 have hb:0≤n∧n≤255:=by simpa [Lit.wf,IntKind.min,IntKind.max,IntKind.signed,IntKind.bits] using h
 exact⟨n.toNat,by omega,by omega⟩
theorem zsm:Tryz.prog.cellsOf 64=7:=by kernel_rfl
theorem zsn:Tryz.prog.cellsOf 62=3:=by kernel_rfl
section
variable {H:Type} {enc:TypeId×Value→H} {w:World} {base:Nat} {spare:Nat→Bool} {held:Bool}
theorem zso {fuel:Nat} {v:Value} {x:DataW H×List MemPlace} (h:DataW.trod enc Tryz.prog w base spare held fuel 56 [v]=some x) :
 ∃ (A:Option Addr) (n c:Nat) (L:List Op23),v= .slice A n c∧n=L.length∧n≤c∧SlQ w A L:=by
 rcases open_slice Tryz.underlying56 h with ⟨hcs,_⟩ | ⟨a,len,cap,m,n,D,Pl,hcs,_,hl,hm,hmm,_,hi⟩
 · simp at hcs
   exact⟨none,0,0,[],hcs,rfl,Nat.le_refl _,by intro j v hv;simp at hv⟩
 · simp at hcs
   have hlm:len≤m:=by rw[hmm];split<;>omega
   obtain⟨L,hL,hQ⟩:= zrm len (fun i (o:Op23)=> ∃ Af cf,w.cell? (a.add (i * 7))=some (.int .i64 o.kind)∧ w.cell? ((a.add (i * 7)).add 1)=some (.int .i64 o.f.id)∧ w.cell? ((a.add (i * 7)).add 2)=some (.bool o.f.re)∧ w.cell? ((a.add (i * 7)).add 3)=some (.slice Af o.f.data.length cf)∧ w.cell? ((a.add (i * 7)).add 4)=some (.bool o.own)∧ w.cell? ((a.add (i * 7)).add 5)=some (.int .u32 (o.code:Nat))∧ w.cell? ((a.add (i * 7)).add 6)=some (.int .u8 (o.n:Nat))∧ o.f.data.length≤cf∧Sl w Af (o.f.data.map bv)∧ o.code≤4294967295∧o.n≤255) (by
    intro i hilen
    obtain⟨cs',hc,ht⟩:= hi i (by omega)
    rw[zsm] at hc
    obtain⟨_,hcl,hat⟩:= World.cells?_some hc
    obtain⟨ys,k,_,_,_,_,hf⟩:= DataW.trod_struct Tryz.underlying64 ht
    match cs',hcl with
    | [v0,v1,v2,v3,v4,v5,v6],_=>
      have f0:DataW.trod enc Tryz.prog w base spare held k 3 ((([v0,v1,v2,v3,v4,v5,v6]:List Value).drop 0).take (Tryz.prog.cellsOf 3))=ys[0]? :=hf 0 _ rfl
      have f1:DataW.trod enc Tryz.prog w base spare held k 62 ((([v0,v1,v2,v3,v4,v5,v6]:List Value).drop 1).take (Tryz.prog.cellsOf 62))=ys[1]? :=hf 1 _ rfl
      have f2:DataW.trod enc Tryz.prog w base spare held k 4 ((([v0,v1,v2,v3,v4,v5,v6]:List Value).drop 4).take (Tryz.prog.cellsOf 4))=ys[2]? :=hf 2 _ rfl
      have f3:DataW.trod enc Tryz.prog w base spare held k 26 ((([v0,v1,v2,v3,v4,v5,v6]:List Value).drop 5).take (Tryz.prog.cellsOf 26))=ys[3]? :=hf 3 _ rfl
      have f4:DataW.trod enc Tryz.prog w base spare held k 5 ((([v0,v1,v2,v3,v4,v5,v6]:List Value).drop 6).take (Tryz.prog.cellsOf 5))=ys[4]? :=hf 4 _ rfl
      have ci:Tryz.prog.cellsOf 3=1:=by kernel_rfl
      have cb:Tryz.prog.cellsOf 4=1:=by kernel_rfl
      have cu:Tryz.prog.cellsOf 27=1:=by kernel_rfl
      have c32:Tryz.prog.cellsOf 26=1:=by kernel_rfl
      have c8:Tryz.prog.cellsOf 5=1:=by kernel_rfl
      rw[ci] at f0
      rw[zsn] at f1
      rw[cb] at f2
      rw[c32] at f3
      rw[c8] at f4
      simp only[List.drop_zero,List.take_succ_cons,List.take_zero,List.drop_succ_cons] at f0 f1 f2 f3 f4
      have hy:ys.length=5:=by assumption
      rw[List.getElem?_eq_getElem (show 0 < ys.length by omega)] at f0
      rw[List.getElem?_eq_getElem (show 1 < ys.length by omega)] at f1
      rw[List.getElem?_eq_getElem (show 2 < ys.length by omega)] at f2
      rw[List.getElem?_eq_getElem (show 3 < ys.length by omega)] at f3
      rw[List.getElem?_eq_getElem (show 4 < ys.length by omega)] at f4
      obtain⟨x0,h0,_,_⟩:= DataW.trod_int Tryz.underlying3 f0
      obtain⟨zs,k2,_,_,_,hlz,hg⟩:= DataW.trod_struct Tryz.underlying62 f1
      obtain⟨x2,h2,_⟩:= DataW.trod_bool Tryz.underlying4 f2
      obtain⟨x3',h3,_,hw3⟩:= DataW.trod_int Tryz.underlying26 f3
      obtain⟨x4',h4,_,hw4⟩:= DataW.trod_int Tryz.underlying5 f4
      obtain⟨x3,hx3,hl3⟩:= zsk hw3
      obtain⟨x4,hx4,hl4⟩:= zsl hw4
      have g0:DataW.trod enc Tryz.prog w base spare held k2 3 ((([v1,v2,v3]:List Value).drop 0).take (Tryz.prog.cellsOf 3))=zs[0]? :=hg 0 _ rfl
      have g1:DataW.trod enc Tryz.prog w base spare held k2 4 ((([v1,v2,v3]:List Value).drop 1).take (Tryz.prog.cellsOf 4))=zs[1]? :=hg 1 _ rfl
      have g2:DataW.trod enc Tryz.prog w base spare held k2 27 ((([v1,v2,v3]:List Value).drop 2).take (Tryz.prog.cellsOf 27))=zs[2]? :=hg 2 _ rfl
      rw[ci] at g0
      rw[cb] at g1
      rw[cu] at g2
      simp only[List.drop_zero,List.take_succ_cons,List.take_zero,List.drop_succ_cons] at g0 g1 g2
      have hyz:zs.length=3:=by assumption
      rw[List.getElem?_eq_getElem (show 0 < zs.length by omega)] at g0
      rw[List.getElem?_eq_getElem (show 1 < zs.length by omega)] at g1
      rw[List.getElem?_eq_getElem (show 2 < zs.length by omega)] at g2
      obtain⟨z0,e0,_,_⟩:= DataW.trod_int Tryz.underlying3 g0
      obtain⟨z1,e1,_⟩:= DataW.trod_bool Tryz.underlying4 g1
      obtain⟨Af,cf',lf,e2,hf1,hf2⟩:= zrn g2
      simp only[List.cons.injEq,and_true] at h0 h2 h3 h4 e0 e1
      subst h0 h2 h3 h4 e0 e1 e2 hx3 hx4
      have a0:=hat 0 (by omega)
      have a1:=hat 1 (by omega)
      have a2:=hat 2 (by omega)
      have a3:=hat 3 (by omega)
      have a4:=hat 4 (by omega)
      have a5:=hat 5 (by omega)
      have a6:=hat 6 (by omega)
      refine⟨⟨x0,⟨z0,z1,lf⟩,x2,x3,x4⟩,Af,cf',?_,a1,a2,a3,a4,a5,a6,hf1,hf2,hl3,hl4⟩
      simpa [Addr.add] using a0)
   refine⟨some a,len,cap,L,hcs,hL.symm,hl,?_⟩
   intro j E hE
   obtain⟨Af,cf,q0,q1,q2,q3,q4,q5,q6,hx⟩:= hQ j E hE
   rw[zam] at q1 q2 q3 q4 q5 q6
   obtain⟨b,off,spot⟩:= a
   obtain⟨v0,hv0⟩:∃ v0,L[0]? =some v0:=⟨L[0]'(by have:=(List.getElem?_eq_some_iff.1 hE).1;omega),List.getElem?_eq_getElem _⟩
   obtain⟨_,_,g0,_⟩:= hQ 0 v0 hv0
   have:spot=none:=by
    have:=World.cell?_spot g0
    simpa [Addr.add] using this
   subst this
   exact⟨b,off,Af,cf,rfl,⟨by simpa [Addr.add_lit] using q0,by simpa [Addr.add_lit,Nat.add_assoc] using q1,by simpa [Addr.add_lit,Nat.add_assoc] using q2,by simpa [Addr.add_lit,Nat.add_assoc] using q3,by simpa [Addr.add_lit,Nat.add_assoc] using q4,by simpa [Addr.add_lit,Nat.add_assoc] using q5,by simpa [Addr.add_lit,Nat.add_assoc] using q6⟩,hx⟩
end
end
end
end Go.Proofs.YthdbckbpldlkeaaGreat
