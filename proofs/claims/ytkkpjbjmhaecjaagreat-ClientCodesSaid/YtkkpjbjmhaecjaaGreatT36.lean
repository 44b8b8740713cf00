/- None -/
import Derived.Test.YtkkpjbjmhaecjaaGreatT35
namespace Go.Proofs.YtkkpjbjmhaecjaaGreat
set_option linter.all false
set_option maxHeartbeats 4000000
section
theorem zru (B:List UInt8)(k:Nat):(bpiece B k).length=7:=by
 unfold bpiece;simp only[List.length_append,List.length_take,List.length_drop,List.length_replicate];omega
def padB (B:List UInt8):Nat→List UInt8
 | 0=> []
 | c+1=>padB B c ++ bpiece B c
theorem zrv (B:List UInt8)(c:Nat):(padB B c).length=7 * c:=by
 induction c with
 | zero=>rfl
 | succ c ih=>rw[padB,List.length_append,ih,zru];omega
theorem zrw (B:List UInt8)(k N:Nat)(h:7 * (k+1)≤ B.length+N):bpiece B k=((B ++ List.replicate N 0).drop (7 * k)).take 7:=by
 unfold bpiece;rw[List.drop_append,List.take_append,List.drop_replicate,List.take_replicate,List.length_drop]
 congr 2
 omega
theorem zrx (B:List UInt8)(N:Nat)(c:Nat)(h:7 * c≤B.length+N):padB B c=(B ++ List.replicate N 0).take (7 * c):=by
 induction c with
 | zero=>rfl
 | succ c ih=>rw[padB,ih (by omega),zrw B c N (by omega),show 7 * (c+1)=7 * c+7 by omega,List.take_add]
theorem zry (B:List UInt8)(c:Nat)(h:B.length≤7 * c):(padB B c).take B.length=B:=by
 rw[zrx B (7 * c) c (by omega),List.take_take,Nat.min_eq_left h,List.take_append_of_le_length (Nat.le_refl _),List.take_length]
theorem zrz (B:List UInt8):B.length≤7 * btotal B∧7 * btotal B≤B.length+7∧1≤btotal B:=by
 unfold btotal;omega
theorem zr0 (mo sz ix sub:Int)(B:List UInt8)(sm:Bool)(has i j:Nat)(h1:1≤j)(hji:j≤i)(hi:i < 16)(hmo:(7 * (has+i):Nat)≤ mo+7) :
 ∃j':Nat,bpartS (⟨mo,sz,(j:Nat),0,0,0,1,ix,sub,padB B (has+j - 1),sm⟩:BlkS) (⟨21,0,0,false,false,false,false,0,0,bpiece B (has+i - 1),(i:Nat),0,0,0⟩:Ms)=⟨mo,sz,(j':Nat),0,0,0,1,ix,sub,padB B (has+j' - 1),sm⟩∧
  bpartO (⟨mo,sz,(j:Nat),0,0,0,1,ix,sub,padB B (has+j - 1),sm⟩:BlkS) (⟨21,0,0,false,false,false,false,0,0,bpiece B (has+i - 1),(i:Nat),0,0,0⟩:Ms)=outZ∧1≤j'∧j'≤i+1∧(j=i→j'=i+1):=by
 have hpc:bpcode (⟨mo,sz,(j:Nat),0,0,0,1,ix,sub,padB B (has+j - 1),sm⟩:BlkS) (⟨21,0,0,false,false,false,false,0,0,bpiece B (has+i - 1),(i:Nat),0,0,0⟩:Ms)=0:=by
  unfold bpcode;rw[if_neg (show ¬(16:Int) < ((i:Nat):Int) by omega),if_neg];rintro⟨a,b⟩;have a:((i:Nat):Int)=((j:Nat):Int):=a;have b:mo+7 < (((padB B (has+j - 1)) ++ (bpiece B (has+i - 1))).length:Int):=b;rw[List.length_append,zrv,zru] at b;omega
 by_cases hij:i=j
 · subst hij;refine⟨i+1,?_,?_,by omega,by omega,fun _=>rfl⟩
   · unfold bpartS;rw[if_neg (show ¬(16:Int) < ((i:Nat):Int) by omega),if_neg (by rw[hpc];simp),if_pos (show ((i:Nat):Int) < 16∧false=false from ⟨by omega,rfl⟩)];unfold btake;rw[if_pos (show ((i:Nat):Int)=((i:Nat):Int) from rfl)];simp only[show (false=true)=False by simp,if_false]
     congr 1
     rw[show has+(i+1) - 1=(has+i - 1)+1 by omega]
     rfl
   · unfold bpartO;rw[if_neg (by rw[hpc];simp),if_pos (show ((i:Nat):Int) < 16∧false=false from ⟨by omega,rfl⟩)]
 · refine⟨j,?_,?_,by omega,by omega,fun h=>absurd h.symm hij⟩
   · unfold bpartS;rw[if_neg (show ¬(16:Int) < ((i:Nat):Int) by omega),if_neg (by rw[hpc];simp),if_pos (show ((i:Nat):Int) < 16∧false=false from ⟨by omega,rfl⟩)];unfold btake;rw[if_neg (show ¬((i:Nat):Int)=((j:Nat):Int) by omega)]
   · unfold bpartO;rw[if_neg (by rw[hpc];simp),if_pos (show ((i:Nat):Int) < 16∧false=false from ⟨by omega,rfl⟩)]
theorem zr1 (mo sz ix sub:Int)(B:List UInt8)(sm:Bool)(has i j tot:Nat)(la:Bool)(h1:1≤j)(hji:j≤i)(hi:i≤16)(hit:has+i≤tot)(hla:la=true ↔ has+i=tot)(hend:la=true∨i=16)(hmo:(7 * (has+i):Nat)≤ mo+7) :
 ∃j' st':Nat,bpartS (⟨mo,sz,(j:Nat),0,0,0,1,ix,sub,padB B (has+j - 1),sm⟩:BlkS) (⟨21,0,0,false,la,false,false,0,0,bpiece B (has+i - 1),(i:Nat),0,0,0⟩:Ms)=⟨mo,sz,1,0,0,0,(st':Nat),ix,sub,padB B (has+j' - 1),sm⟩∧
  bpartO (⟨mo,sz,(j:Nat),0,0,0,1,ix,sub,padB B (has+j - 1),sm⟩:BlkS) (⟨21,0,0,false,la,false,false,0,0,bpiece B (has+i - 1),(i:Nat),0,0,0⟩:Ms)=outM (ackM ((j':Nat) - 1))∧ 1≤j'∧j'≤i+1∧(j=i→j'=i+1)∧ ((st'=1∧has+j' - 1 < tot)∨ (st'=2∧has+j' - 1=tot)):=by
 have hpc:bpcode (⟨mo,sz,(j:Nat),0,0,0,1,ix,sub,padB B (has+j - 1),sm⟩:BlkS) (⟨21,0,0,false,la,false,false,0,0,bpiece B (has+i - 1),(i:Nat),0,0,0⟩:Ms)=0:=by
  unfold bpcode;rw[if_neg (show ¬(16:Int) < ((i:Nat):Int) by omega),if_neg];rintro⟨a,b⟩;have a:((i:Nat):Int)=((j:Nat):Int):=a;have b:mo+7 < (((padB B (has+j - 1)) ++ (bpiece B (has+i - 1))).length:Int):=b;rw[List.length_append,zrv,zru] at b;omega
 have hne: ¬(((i:Nat):Int) < 16∧la=false):=by
  rintro⟨a,b⟩;rcases hend with h | h
  · rw[b] at h;cases h
  · omega
 by_cases hij:i=j
 · subst hij;refine⟨i+1,(if la=true then 2 else 1),?_,?_,by omega,by omega,fun _=>rfl,?_⟩
   · unfold bpartS;rw[if_neg (show ¬(16:Int) < ((i:Nat):Int) by omega),if_neg (by rw[hpc];simp),if_neg hne];unfold btake;rw[if_pos (show ((i:Nat):Int)=((i:Nat):Int) from rfl)];rw[show padB B (has+(i+1) - 1)=padB B (has+i - 1) ++ bpiece B (has+i - 1) by rw[show has+(i+1) - 1=(has+i - 1)+1 by omega];rfl];cases la<;>rfl
   · unfold bpartO;rw[if_neg (by rw[hpc];simp),if_neg hne];unfold btake;rw[if_pos (show ((i:Nat):Int)=((i:Nat):Int) from rfl)]
     congr 2
   · cases la
     · left
       have: ¬has+i=tot:=fun h=>by have:=hla.2 h;cases this
       exact⟨rfl,by omega⟩
     · right
       have:=hla.1 rfl
       exact⟨rfl,by omega⟩
 · refine⟨j,1,?_,?_,by omega,by omega,fun h=>absurd h.symm hij,.inl ⟨rfl,by omega⟩⟩
   · unfold bpartS;rw[if_neg (show ¬(16:Int) < ((i:Nat):Int) by omega),if_neg (by rw[hpc];simp),if_neg hne];unfold btake;rw[if_neg (show ¬((i:Nat):Int)=((j:Nat):Int) by omega)]
     rfl
   · unfold bpartO;rw[if_neg (by rw[hpc];simp),if_neg hne];unfold btake;rw[if_neg (show ¬((i:Nat):Int)=((j:Nat):Int) by omega)]
end
section
structure Tk where
 C:CliS
 X:SdoS
 V:List (List UInt8)
 l:List Frm
def tkStep (L:List Ent) (T:Tk):Tk:=
 match T.l with
 | []=> T
 | f :: r=>
   if f.id=1541 then
    (if (sdRO L T.V T.X f).wr=true then
      ⟨T.C,sdAS (sdRS L T.V T.X f),putV L T.V (sdRO L T.V T.X f).ix (sdRO L T.V T.X f).sub (sdRO L T.V T.X f).b false,(r ++ frmL T.X.nout (sdRO L T.V T.X f).ms) ++ frmL T.X.nout (sdAL (sdRS L T.V T.X f) (mayC L (sdRO L T.V T.X f).ix (sdRO L T.V T.X f).sub (sdRO L T.V T.X f).b false).toNat)⟩
    else ⟨T.C,sdRS L T.V T.X f,T.V,r ++ frmL T.X.nout (sdRO L T.V T.X f).ms⟩)
   else ⟨cRecvS T.C f,T.X,T.V,r ++ cRecvL T.C f⟩
def tkRn (L:List Ent):Nat→Tk→Tk
 | 0,T=>T
 | k+1,T=>tkRn L k (tkStep L T)
section
variable {L:List Ent} {T T':Tk} {P Q:Tk→Prop} {i j k k':Nat}
theorem zr2 (k:Nat){T:Tk}(h:T.l= []):tkRn L k T=T:=by
 induction k with
 | zero=>rfl
 | succ k ih=>
   rw[tkRn,show tkStep L T=T by unfold tkStep;rw[h]];exact ih
theorem zr3 (L:List Ent)(i j:Nat)(T:Tk):tkRn L (i+j) T=tkRn L j (tkRn L i T):=by
 induction i generalizing T with
 | zero=>rw[Nat.zero_add];rfl
 | succ i ih=>rw[Nat.succ_add];exact ih _
def zr4 (L:List Ent) (k:Nat) (T:Tk) (P:Tk→Prop):Prop:= ∃j,j≤k∧P (tkRn L j T)
theorem zr4.now (h:P T):zr4 L k T P:=⟨0,Nat.zero_le _,h⟩
theorem zr4.step (e:tkStep L T=T')(h:zr4 L k T' P):zr4 L (k+1) T P:=by
 obtain⟨j,hj,h⟩:=h;exact⟨j+1,by omega,by rw[tkRn,e];exact h⟩
theorem zr4.mono (h:zr4 L k T P)(hk:k≤k'):zr4 L k' T P:=by
 obtain⟨j,hj,h⟩:=h;exact⟨j,by omega,h⟩
theorem zr4.imp (h:zr4 L k T P)(hP:∀T,P T→Q T):zr4 L k T Q:=by
 obtain⟨j,hj,h⟩:=h;exact⟨j,hj,hP _ h⟩
theorem zr4.end_ (h:zr4 L k T P)(hP:∀T,P T→T.l= [])(hk:k≤k'):P (tkRn L k' T):=by
 obtain⟨j,hj,h⟩:=h;have e:k'=j+(k' - j):=by omega
 rw[e,zr3,zr2 _ (hP _ h)];exact h
end
def fq (M:Ms):Frm:=⟨1541,false,laidB M⟩
def fa (M:Ms):Frm:=⟨1413,false,laidB M⟩
theorem zr5 {id:Int}{M:Ms}(h:canB M=true):frmL id [M]= [⟨id,false,laidB M⟩]:=by simp[frmL,h]
theorem zr6 (M:Ms)(h:canB M=true):(laidB M).headD 0=UInt8.ofNat (firB (formI M.kind) M):=by
 have hl:=zpv M h;unfold laidB at hl ⊢;rw[List.length_set] at hl;cases hb:bodL (formI M.kind) M with
 | nil=>rw[hb] at hl;simp at hl
 | cons x xs=>rfl
theorem zr7 {M:Ms}(h:canB M=true)(hk:M.kind=21):(laidB M).headD 0≠128:=by
 rw[zr6 M h,hk];obtain⟨hr,hs,_⟩:=zpx M h;have hq:0≤M.sq∧M.sq≤127:=by
  simp only[rangeB,Bool.and_eq_true,decide_eq_true_iff] at hr;exact hr.1.1.1.2
 have hp:0 < M.sq:=by
  rw[hk] at hs;simp only[shapeB,show formI 21=11 from rfl] at hs;simp at hs;exact hs.2
 have hs:=zqy M.sq.toNat (by omega);intro e;have e':=congrArg UInt8.toNat e;have hf:firB (formI 21) M=M.sq.toNat ||| 128∨firB (formI 21) M=M.sq.toNat:=by
  show firB 11 M=_∨firB 11 M=_;unfold firB orB
  simp
  cases M.la<;>simp
 have h128:(128:UInt8).toNat=128:=rfl;rw[h128] at e';rcases hf with hf | hf
 · rw[hf] at e'
   have:=hs.1
   rw[e'] at this;omega
 · rw[hf] at e'
   have:=hs.2.2.1
   rw[e'] at this;omega
section
variable {L:List Ent} {V:List (List UInt8)} {X X':SdoS} {M:Ms} {C:CliS} {O:SegO} {r:List Frm}
theorem zr8 (hn:X.nin=1541)(hc:canB M=true)(hb:MsOk M)(hk:(X.bk.st≠1∧M.kind ∈ reqK)∨ (X.bk.st=1∧M.kind=21)) :
 sdRS L V X (fq M)=sdDS L V { X with left:=50 } M∧sdRO L V X (fq M)=sdDO L V X M:=by
 have hl:=zpv M hc;have hq:sdReq X (fq M)=true:=by
  unfold sdReq fq;simp[hn,hl]
 obtain⟨ks,hks,hk1,ha⟩:∃ks,sdKs X (laidB M)=ks∧M.kind ∈ ks∧ApartK ks:=by
  rcases hk with ⟨h1,h2⟩ | ⟨h1,h2⟩
  · exact⟨reqK,by unfold sdKs;rw[if_neg (fun h=>h1 h.1)],h2,zrp⟩
  · exact⟨segK,by unfold sdKs;rw[if_pos ⟨h1,zr7 hc h2⟩],by rw[h2];decide,zrr⟩
 obtain⟨r1,r2⟩:=zro ks M hc hb.1 hb.2.1 hb.2.2 hk1 ha;have hrc:sdRc X (laidB M)=0:=by
  unfold sdRc;rw[hks,if_pos r2]
 constructor
 · unfold sdRS;rw[if_pos hq,if_neg (show ¬sdRc X (fq M).data≠0 by rw[show (fq M).data=laidB M from rfl,hrc];simp)];show sdDS L V { X with left:=50 } (resM (sdKs X (laidB M)) (laidB M))=_;rw[hks,r1]
 · unfold sdRO;rw[if_pos hq,if_neg (show ¬sdRc X (fq M).data≠0 by rw[show (fq M).data=laidB M from rfl,hrc];simp)];show sdDO L V X (resM (sdKs X (laidB M)) (laidB M))=_;rw[hks,r1]
theorem zr9 (hn:X.nin=1541)(ho:X.nout=1413)(hc:canB M=true)(hb:MsOk M)(hk:(X.bk.st≠1∧M.kind ∈ reqK)∨ (X.bk.st=1∧M.kind=21))
 (hS:sdDS L V { X with left:=50 } M=X') (hO:sdDO L V X M=O) (hw:O.wr=false):tkStep L ⟨C,X,V,fq M :: r⟩=⟨C,X',V,r ++ frmL 1413 O.ms⟩:=by
 obtain⟨h1,h2⟩:=zr8 (L:=L) (V:=V) hn hc hb hk;unfold tkStep;dsimp only;rw[if_pos (show (fq M).id=1541 from rfl),h1,h2,hS,hO,if_neg (by rw[hw];decide),ho]
theorem zsa (hn:X.nin=1541)(ho:X.nout=1413)(hc:canB M=true)(hb:MsOk M)(hk:(X.bk.st≠1∧M.kind ∈ reqK)∨ (X.bk.st=1∧M.kind=21))
 (hS:sdDS L V { X with left:=50 } M=X') {ix sub:Int} {b:List UInt8} (hO:sdDO L V X M=⟨[],true,ix,sub,b⟩):tkStep L ⟨C,X,V,fq M :: r⟩=⟨C,sdAS X',putV L V ix sub b false,r ++ frmL 1413 (sdAL X' (mayC L ix sub b false).toNat)⟩:=by
 obtain⟨h1,h2⟩:=zr8 (L:=L) (V:=V) hn hc hb hk;unfold tkStep;dsimp only;rw[if_pos (show (fq M).id=1541 from rfl),h1,h2,hS,hO,if_pos rfl,ho];simp[frmL]
theorem zsb (hk:M.kind=2∨M.kind=4):sdDS L V X M= { X with sg:=recvS L V X.sg M,bk:=blkIdle X.bk }∧ sdDO L V X M=recvO L V X.sg M:=by
 unfold sdDS sdDO;rcases hk with h | h<;>simp[h,sdSeg,sdBeg]
theorem zsc (hk:M.kind=3∨M.kind=5)(h0:X.bk.st=0):sdDS L V X M= { X with sg:=recvS L V X.sg M }∧ sdDO L V X M=recvO L V X.sg M:=by
 unfold sdDS sdDO;rcases hk with h | h<;>simp[h,sdSeg,sdBeg,h0]
theorem zsd (hk:M.kind=6∨M.kind=8):sdDS L V X M= { X with sg:=segIdle X.sg,bk:=brS L V X.bk M }∧ sdDO L V X M=brO L V X.bk M:=by
 unfold sdDS sdDO;rcases hk with h | h<;>simp[h,sdSeg,sdBeg]
theorem zse (hk:M.kind=7∨M.kind=9∨M.kind=10∨M.kind=11∨M.kind=21)(h0:X.sg.st=0):sdDS L V X M= { X with bk:=brS L V X.bk M }∧ sdDO L V X M=brO L V X.bk M:=by
 unfold sdDS sdDO;rcases hk with h | h | h | h | h<;>simp[h,sdSeg,sdBeg,h0]
theorem zsf (hn:C.nd=5)(hw:C.wk≠0)(hc:canB M=true)(hb:MsOk M)(hk:(C.wk≠21∧M.kind ∈ ansK)∨ (C.wk=21∧M.kind=21)) :
 (M.kind=1→cRecvS C (fa M)=cEnd C M.code []∧ cRecvL C (fa M)= [])∧ (M.kind≠1→cFitB C M=true→cRecvS C (fa M)=cStepS C M∧cRecvL C (fa M)=cStepL C M):=by
 have hl:=zpv M hc;have hno: ¬(C.wk=0∨(fa M).id≠1408+C.nd∨(fa M).re=true∨(fa M).data.length≠8):=by
  rw[hn];rintro (h | h | h | h)
  · exact hw h
  · exact h rfl
  · cases h
  · exact h hl
 obtain⟨ks,hks,hk1,ha⟩:∃ks,cKs C (laidB M)=ks∧M.kind ∈ ks∧ApartK ks:=by
  rcases hk with ⟨h1,h2⟩ | ⟨h1,h2⟩
  · exact⟨ansK,by unfold cKs;rw[if_neg (fun h=>h1 h.1)],h2,zrq⟩
  · exact⟨segK,by unfold cKs;rw[if_pos ⟨h1,zr7 hc h2⟩],by rw[h2];decide,zrr⟩
 obtain⟨r1,r2⟩:=zro ks M hc hb.1 hb.2.1 hb.2.2 hk1 ha;have e1:errI (cKs C (fa M).data) (fa M).data=0:=by rw[show (fa M).data=laidB M from rfl,hks];exact r2
 have e2:resM (cKs C (fa M).data) (fa M).data=M:=by rw[show (fa M).data=laidB M from rfl,hks];exact r1
 constructor
 · intro h1;unfold cRecvS cRecvL;rw[if_neg hno,if_neg hno,e1,e2,if_pos ⟨rfl,h1⟩,if_pos ⟨rfl,h1⟩];exact⟨rfl,rfl⟩
 · intro h1 hf;unfold cRecvS cRecvL;rw[if_neg hno,if_neg hno,e1,e2,if_neg (show ¬((0:Int)=0∧M.kind=1) from fun h=>h1 h.2),if_neg (show ¬((0:Int)=0∧M.kind=1) from fun h=>h1 h.2),if_neg (show ¬((0:Int)≠ 0∨cFitB C M=false) by rw[hf];simp),if_neg (show ¬((0:Int)≠ 0∨cFitB C M=false) by rw[hf];simp)];exact⟨rfl,rfl⟩
theorem zsg (hn:C.nd=5)(hw:C.wk≠0)(hc:canB M=true)(hb:MsOk M)(hk:(C.wk≠21∧M.kind ∈ ansK)∨ (C.wk=21∧M.kind=21))(h1:M.kind≠1)(hf:cFitB C M=true)
 {C':CliS} (hS:cStepS C M=C') {l:List Frm} (hL:cStepL C M=l):tkStep L ⟨C,X,V,fa M :: r⟩=⟨C',X,V,r ++ l⟩:=by
 obtain⟨h2,h3⟩:=(zsf hn hw hc hb hk).2 h1 hf;unfold tkStep;dsimp only;rw[if_neg (show ¬(fa M).id=1541 by show ¬(1413:Int)=1541;decide),h2,h3,hS,hL]
theorem zsh {ix sub:Int}{code:Nat}(hn:C.nd=5)(hw:C.wk≠0)(hw2:C.wk≠21)(hp:PlcOk ix sub)(hco:code≤4294967295):tkStep L ⟨C,X,V,fa (abM ix sub code) :: r⟩=⟨cEnd C code [],X,V,r⟩:=by
 obtain⟨h2,h3⟩:=(zsf (M:=abM ix sub code) hn hw (zqj hp) ⟨Nat.zero_le _,hco,Nat.zero_le _⟩ (.inl ⟨hw2,by show (1:Int) ∈ ansK;decide⟩)).1 rfl;unfold tkStep;dsimp only;rw[if_neg (show ¬(fa (abM ix sub code)).id=1541 by show ¬(1413:Int)=1541;decide),h2,h3,List.append_nil]
 rfl
end
section
variable {L:List Ent} {V:List (List UInt8)} {S:SegS} {B:BlkS} {M:Ms}
theorem zsi (hk:M.kind=2):recvS L V S M=downS L (segIdle S) M∧recvO L V S M=downO L M:=by
 unfold recvS recvO;simp[hk]
theorem zsj (hk:M.kind=4):recvS L V S M=upS L V (segIdle S) M∧recvO L V S M=upO L V M:=by
 unfold recvS recvO;simp[hk]
theorem zsk (hk:M.kind=3)(h:S.st=1):recvS L V S M=partS S M∧recvO L V S M=partO S M:=by
 unfold recvS recvO;simp[hk,h]
theorem zsl (hk:M.kind=5)(h:S.st=2):recvS L V S M=nextS S M∧recvO L V S M=nextO S M:=by
 unfold recvS recvO;simp[hk,h]
theorem zsm (hk:M.kind=6):brS L V B M=bdownS L (blkIdle B) M∧brO L V B M=bdownO L M:=by
 unfold brS brO;simp[hk]
theorem zsn (hk:M.kind=8):brS L V B M=bupS L V (blkIdle B) M∧brO L V B M=bupO L V M:=by
 unfold brS brO;simp[hk]
theorem zso (hk:M.kind=21)(h:B.st=1):brS L V B M=bpartS B M∧brO L V B M=bpartO B M:=by
 unfold brS brO;simp[hk,h]
theorem zsp (hk:M.kind=7)(h:B.st=2):brS L V B M=bendS B M∧brO L V B M=bendO B M:=by
 unfold brS brO;simp[hk,h]
theorem zsq (hk:M.kind=10)(h:B.st=5):brS L V B M=backS B M∧brO L V B M=backO B M:=by
 unfold brS brO;simp[hk,h]
theorem zsr (hk:M.kind=11)(h:B.st=6):brS L V B M=blkIdle B∧brO L V B M=outZ:=by
 unfold brS brO;simp[hk,h]
end
theorem zss {L:List Ent}{ix sub:Int}{b:List UInt8}(h:smayC L ix sub≠0):mayC L ix sub b false=smayC L ix sub:=by
 unfold smayC at h ⊢;unfold mayC;by_cases h1:codeL L ix sub=0
 · rw[if_pos h1] at h ⊢;rw[if_pos h1,if_pos ⟨rfl,h⟩]
 · rw[if_neg h1,if_neg h1]
theorem zst {L:List Ent}{ix sub:Int}{b:List UInt8}(h:smayC L ix sub=0):mayC L ix sub b false=valC (entK L (locK L ix sub)) b:=by
 unfold smayC at h;unfold mayC;by_cases h1:codeL L ix sub=0
 · rw[if_pos h1] at h;rw[if_pos h1,if_neg (fun h2=>h2.2 h)]
 · rw[if_neg h1] at h;exact absurd h h1
theorem zsu (L:List Ent)(ix sub:Int):0≤smayC L ix sub:=by
 unfold smayC codeL writeE
 (repeat' split)<;> omega
theorem zsv (L:List Ent)(ix sub:Int)(b:List UInt8):0≤mayC L ix sub b false∧mayC L ix sub b false≤4294967295:=by
 unfold mayC valC valueE writeE codeL
 (repeat' split)<;> omega
theorem zsw (L:List Ent)(ix sub:Int):0≤getC L ix sub:=by
 unfold getC codeL readE
 (repeat' split)<;> omega
theorem zsx (E:Ent)(n:Int):0≤fitsC E n:=by
 unfold fitsC
 (repeat' split)<;> omega
theorem zsy {E:Ent}{b:List UInt8}(h:valC E b=0):fitsC E b.length=0:=by
 unfold valC at h;by_cases hb:0 < tyBits E.ty
 · rw[zi6 hb] at h;unfold NumV at h;have hm:mostE E=tySize E.ty:=by unfold mostE;rw[if_pos hb]
   by_cases h1:(b.length:Int) < tySize E.ty
   · exfalso
     have hd:decE E.ty b=2:=by unfold decE;rw[if_neg (by omega),if_pos h1]
     rw[hd] at h;simp at h
   · by_cases h2:tySize E.ty < (b.length:Int)
     · exfalso
       have hd:decE E.ty b=3:=by unfold decE;rw[if_neg (by omega),if_neg h1,if_pos h2]
       rw[hd] at h;simp at h
     · unfold fitsC;rw[if_neg (by rw[hm];exact h2),if_neg h1]
 · rw[zi7 hb] at h;have hz:tySize E.ty=0:=by
    have h0:0≤tySize E.ty:=by unfold tySize;(repeat' split)<;> omega
    unfold tyBits at hb;split at hb
    · omega
    · omega
   by_cases hc:checkE E.ty E.mx b=0
   · unfold checkE at hc;split at hc
     · omega
     · split at hc
       · omega
       · split at hc
         · omega
         · rename_i h3;have h3:(b.length:Int)≤ E.mx∧b.length≤256:=by omega
           unfold fitsC;rw[if_neg,if_neg (by omega)];unfold mostE;rw[if_neg hb];split
           · omega
           split<;>omega
   · rw[if_neg hc] at h
     exfalso
     revert h
     (repeat' split)<;> omega
end
end Go.Proofs.YtkkpjbjmhaecjaaGreat
