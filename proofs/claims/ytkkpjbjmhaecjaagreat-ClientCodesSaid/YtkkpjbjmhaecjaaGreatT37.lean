/- None -/
import Derived.Test.YtkkpjbjmhaecjaaGreatT36
namespace Go.Proofs.YtkkpjbjmhaecjaaGreat
set_option linter.all false
set_option maxHeartbeats 4000000
section
section
variable {L:List Ent} {V:List (List UInt8)} {X X':SdoS} {C C':CliS} {ix sub:Int} {b:List UInt8}
structure zzl (L:List Ent) (V:List (List UInt8)) (ix sub:Int) (b:List UInt8) (T:Tk):Prop where
 l:T.l= []
 nd:T.C.nd=5
 wk:T.C.wk=0
 data:T.C.data= []
 nin:T.X.nin=1541
 nout:T.X.nout=1413
 sg:T.X.sg.st=0
 bk:T.X.bk.st=0
 code:T.C.code=0 ↔ mayC L ix sub b false=0
 V:T.V=putV L V ix sub b false
def WrEndX (L:List Ent) (V:List (List UInt8)) (ix sub:Int) (b:List UInt8) (T:Tk):Prop:=zzl L V ix sub b T∧T.C.code=(mayC L ix sub b false).toNat
theorem zsz (h:mayC L ix sub b false≠0):putV L V ix sub b false=V:=by unfold putV;rw[if_neg h]
theorem zs0 {code:Nat}(hn:C.nd=5)(hw:C.wk≠0)(hw2:C.wk≠21)(hp:PlcOk ix sub)(hX:X.nin=1541∧X.nout=1413)(h1:X.sg.st=0)(h2:X.bk.st=0)(hc:code≤4294967295)(h0:code≠0)(hm:mayC L ix sub b false≠0)(V':List (List UInt8))(hV:V'=V) :
 zr4 L 1 ⟨C,X,V',[fa (abM ix sub code)]⟩ (fun T=>zzl L V ix sub b T∧T.C.code=code):=
 .step (zsh hn hw hw2 hp hc) (.now ⟨⟨rfl,hn,rfl,rfl,hX.1,hX.2,h1,h2,⟨fun h=>absurd h h0,fun h=>absurd h hm⟩,by rw[zsz hm];exact hV⟩,rfl⟩)
theorem zs1 (hw:C.wk=12)(hi:C.ix=ix)(hs:C.sub=sub):cFitB C (okM 12 ix sub false)=true:=by
 unfold cFitB okM;simp[hw,hi,hs]
theorem zs2 (h:(C.b.length:Int) < C.at_):cSegS C=cEnd C 0 []∧ cSegL C= []:=by
 unfold cSegS cSegL;rw[if_pos h,if_pos h];exact⟨rfl,rfl⟩
theorem zs3 (hp:PlcOk ix sub):canB (okM 12 ix sub false)=true:=by
 obtain⟨⟨h1,h2⟩,h3,h4⟩:=hp;simp[canB,okM,formI,rangeB,shapeB,sameB,onlyM,placedB,dataB,h1,h2,h3,h4]
theorem zs4 (k i s:Int)(t:Bool):MsOk (okM k i s t):=⟨Nat.zero_le _,Nat.zero_le _,Nat.zero_le _⟩
theorem zs5 (hp:PlcOk ix sub)(hb:0 < b.length∧b.length≤4)(hn:C.nd=5)(hw:C.wk=12)(hi:C.ix=ix)(hs:C.sub=sub)(hcb:C.b=b)(ha:C.at_=(b.length:Int)+1)(hX:X.nin=1541∧X.nout=1413)(h1:X.sg.st=0)(h2:X.bk.st=0) :
 zr4 L 2 ⟨C,X,V,[fq (downM ix sub true 0 b)]⟩ (WrEndX L V ix sub b):=by
 have hne:b≠ []:=by rintro rfl;simp at hb
 have hcan:canB (downM ix sub true 0 b)=true:=zql ix sub 0 b ⟨hp.1.1,hp.1.2,hp.2.1,hp.2.2⟩ hb.2 (fun _=>rfl);have hms:MsOk (downM ix sub true 0 b):=⟨Nat.zero_le _,Nat.zero_le _,Nat.zero_le _⟩;have hkq:(X.bk.st≠1∧(downM ix sub true 0 b).kind ∈ reqK)∨ (X.bk.st=1∧(downM ix sub true 0 b).kind=21):= .inl ⟨by omega,by show (2:Int) ∈ reqK;decide⟩;obtain⟨d1,d2⟩:=zsb (L:=L) (V:=V) (X:={ X with left:=50 }) (M:=downM ix sub true 0 b) (.inl rfl);obtain⟨_,d2'⟩:=zsb (L:=L) (V:=V) (X:=X) (M:=downM ix sub true 0 b) (.inl rfl);have hdc:dcode L (downM ix sub true 0 b)=smayC L ix sub:=by
  unfold dcode;rw[if_neg (fun h=>hne h.2.2)]
  rfl
 have hrS:=(zsi (L:=L) (V:=V) (S:=X.sg) (M:=downM ix sub true 0 b) rfl).1;have hrO:=(zsi (L:=L) (V:=V) (S:=X.sg) (M:=downM ix sub true 0 b) rfl).2;have hw0:C.wk≠0:=by omega
 have hw21:C.wk≠21:=by omega
 obtain⟨hmn,hml⟩:=zsv L ix sub b;by_cases hsm:smayC L ix sub=0
 · have eS:downS L (segIdle X.sg) (downM ix sub true 0 b)= { segIdle X.sg with st:=3,ix:=ix,sub:=sub,wk:=12,wi:=ix,ws:=sub,wt:=false }:=by
    unfold downS;rw[if_neg (by rw[hdc];simpa using hsm),if_pos (show (downM ix sub true 0 b).data≠ [] from hne)]
    rfl
   have eO:downO L (downM ix sub true 0 b)=⟨[],true,ix,sub,b⟩:=by
    unfold downO;rw[if_neg (by rw[hdc];simpa using hsm),if_pos (show (downM ix sub true 0 b).data≠ [] from hne)]
    rfl
   refine .step (zsa hX.1 hX.2 hcan hms hkq d1 (by rw[d2',hrO,eO])) ?_;rw[hrS,eS];by_cases hm:mayC L ix sub b false=0
   · have hl:sdAL { X with sg:={ segIdle X.sg with st:=3,ix:=ix,sub:=sub,wk:=12,wi:=ix,ws:=sub,wt:=false },bk:=blkIdle X.bk,left:=50 } (mayC L ix sub b false).toNat= [okM 12 ix sub false]:=by
      rw[hm]
      rfl
     rw[show (({ X with left:=50 }:SdoS)).bk=X.bk from rfl,List.nil_append];rw[show frmL 1413 (sdAL { X with sg:={ segIdle X.sg with st:=3,ix:=ix,sub:=sub,wk:=12,wi:=ix,ws:=sub,wt:=false },bk:=blkIdle X.bk,left:=50 } (mayC L ix sub b false).toNat)= [fa (okM 12 ix sub false)] by rw[hl,zr5 (zs3 hp)];rfl];obtain⟨e1,e2⟩:=zs2 (C:=C) (by rw[hcb,ha];omega);refine .step (zsg hn hw0 (zs3 hp) (zs4 _ _ _ _) (.inl ⟨hw21,by show (12:Int) ∈ ansK;decide⟩) (by show ¬(12:Int)=1;decide) (zs1 hw hi hs) e1 e2) ?_;exact .now ⟨⟨rfl,hn,rfl,rfl,hX.1,hX.2,rfl,rfl,⟨fun _=>hm,fun _=>rfl⟩,rfl⟩,by rw[hm];rfl⟩
   · have hcd:(mayC L ix sub b false).toNat≠0:=by omega
     have hl:sdAL { X with sg:={ segIdle X.sg with st:=3,ix:=ix,sub:=sub,wk:=12,wi:=ix,ws:=sub,wt:=false },bk:=blkIdle X.bk,left:=50 } (mayC L ix sub b false).toNat= [abM ix sub (mayC L ix sub b false).toNat]:=by
      unfold sdAL answerL bAnswerL;rw[if_pos rfl,if_pos hcd,if_neg (show ¬(blkIdle X.bk).st=3 by show ¬(0:Int)=3;decide),List.append_nil]
     rw[show (({ X with left:=50 }:SdoS)).bk=X.bk from rfl,List.nil_append];rw[show frmL 1413 (sdAL { X with sg:={ segIdle X.sg with st:=3,ix:=ix,sub:=sub,wk:=12,wi:=ix,ws:=sub,wt:=false },bk:=blkIdle X.bk,left:=50 } (mayC L ix sub b false).toNat)= [fa (abM ix sub (mayC L ix sub b false).toNat)] by rw[hl,zr5 (zqj hp)];rfl];refine zr4.imp (P:=fun T=>zzl L V ix sub b T∧T.C.code=(mayC L ix sub b false).toNat) ?_ (fun T h=>h);refine zs0 hn hw0 hw21 hp ?_ ?_ ?_ ?_ ?_ ?_ _ ?_
     · exact⟨hX.1,hX.2⟩
     · exact rfl
     · exact rfl
     · omega
     · exact hcd
     · exact hm
     · exact (zsz hm)
 · have eS:downS L (segIdle X.sg) (downM ix sub true 0 b)=segIdle X.sg:=by
    unfold downS;rw[if_pos (by rw[hdc];exact hsm)]
   have eO:downO L (downM ix sub true 0 b)=outM (abM ix sub (smayC L ix sub).toNat):=by
    unfold downO;rw[if_pos (by rw[hdc];exact hsm),hdc]
    rfl
   have hm:=zss (b:=b) hsm;have hsn:=zsu L ix sub;have hsl:=zoq L ix sub;refine .step (zr9 hX.1 hX.2 hcan hms hkq d1 (by rw[d2',hrO,eO]) rfl) ?_;rw[hrS,eS,List.nil_append,show frmL 1413 (outM (abM ix sub (smayC L ix sub).toNat)).ms= [fa (abM ix sub (smayC L ix sub).toNat)] by show frmL 1413 [_]=_;rw[zr5 (zqj hp)];rfl];refine zr4.imp (P:=fun T=>zzl L V ix sub b T∧T.C.code=(smayC L ix sub).toNat) ?_ (fun T h=>⟨h.1,by rw[h.2,hm]⟩);refine zs0 hn hw0 hw21 hp ?_ ?_ ?_ ?_ ?_ ?_ _ ?_
   · exact⟨hX.1,hX.2⟩
   · exact rfl
   · exact rfl
   · omega
   · omega
   · rw[hm];exact hsm
   · exact rfl
def sgTo (b:List UInt8) (k:Nat):Nat:=min b.length (k+7)
def sgLa (b:List UInt8) (k:Nat):Bool:=decide (sgTo b k=b.length)
def sgDt (b:List UInt8) (k:Nat):List UInt8:=(b.drop k).take (sgTo b k - k)
theorem zs6 {k:Nat}(hcb:C.b=b)(ha:C.at_=(k:Int))(hk:k≤b.length):cSegS C= { C with at_:=if sgLa b k=true then ((sgTo b k:Nat):Int)+1 else ((sgTo b k:Nat):Int),wk:=13 }∧ cSegL C=cSend C [dsegM C.tg (sgLa b k) (sgDt b k)]:=by
 have e1:cTo C=((sgTo b k:Nat):Int):=by unfold cTo sgTo;rw[hcb,ha];omega
 have e2:cLa C=sgLa b k:=by
  unfold cLa sgLa;rw[e1,hcb]
  congr 1
  exact propext ⟨fun h=>by omega,fun h=>by omega⟩
 have e3:cSegD C=sgDt b k:=by
  unfold cSegD sgDt;rw[e1,hcb,ha]
  congr 1
  omega
 have hlt: ¬((C.b.length:Int) < C.at_):=by rw[hcb,ha];omega
 unfold cSegS cSegL;rw[if_neg hlt,if_neg hlt,e1,e2,e3];exact⟨rfl,rfl⟩
theorem zs7 (hn:C.nd=5){M:Ms}(h:canB M=true):cSend C [M]= [fq M]:=by
 unfold cSend;rw[zr5 h,hn]
 rfl
theorem zs8 {k:Nat}(hk:k≤b.length):b.take k ++ sgDt b k=b.take (sgTo b k):=by
 unfold sgDt sgTo
 have:min b.length (k+7)=k+(min b.length (k+7) - k):=by omega
 rw[this,List.take_add]
 congr 3
 omega
theorem zs9 {k:Nat}:(sgDt b k).length≤7:=by
 unfold sgDt sgTo;rw[List.length_take];omega
structure InSeg (L:List Ent) (ix sub:Int) (b:List UInt8) (k:Nat) (C:CliS) (X:SdoS):Prop where
 nd:C.nd=5
 wk:C.wk=13
 cb:C.b=b
 at_:C.at_=(if sgLa b k=true then ((sgTo b k:Nat):Int)+1 else ((sgTo b k:Nat):Int))
 nin:X.nin=1541
 nout:X.nout=1413
 st:X.sg.st=1
 bk:X.bk.st=0
 pi:X.sg.ix=ix
 ps:X.sg.sub=sub
 mo:X.sg.mo=mostE (entK L (locK L ix sub))
 sz:X.sg.sz=(b.length:Int)
 sb:X.sg.b=b.take k
 tg:X.sg.tg=C.tg
 cd:C.data= []
theorem zta {k:Nat}(h:InSeg L ix sub b k C X)(hk:k≤b.length)(hfit:(b.length:Int)≤ mostE (entK L (locK L ix sub))):pcode X.sg (dsegM C.tg (sgLa b k) (sgDt b k))=0:=by
 have hc:X.sg.b ++ sgDt b k=b.take (sgTo b k):=by rw[h.sb];exact zs8 hk
 have hl:(X.sg.b ++ (dsegM C.tg (sgLa b k) (sgDt b k)).data).length=sgTo b k:=by
  show (X.sg.b ++ sgDt b k).length=_;rw[hc,List.length_take];unfold sgTo;omega
 have ht:sgTo b k≤b.length:=by unfold sgTo;omega
 unfold pcode;rw[hl,if_neg (show ¬(dsegM C.tg (sgLa b k) (sgDt b k)).tg≠X.sg.tg by show ¬C.tg≠X.sg.tg;rw[h.tg];simp),if_neg,if_neg]
 · rintro⟨h1,_,h3⟩;have h1:sgLa b k=true:=h1;unfold sgLa at h1;have h1:=of_decide_eq_true h1;rw[h.sz] at h3;omega
 · rw[h.mo,h.sz];omega
theorem ztb {tg la:Bool}{d:List UInt8}(h2:X.bk.st=0):(X.bk.st≠1∧(dsegM tg la d).kind ∈ reqK)∨ (X.bk.st=1∧(dsegM tg la d).kind=21):= .inl ⟨by omega,by show (3:Int) ∈ reqK;decide⟩
theorem ztc {S:SegS}{tg la:Bool}{d:List UInt8}(h:S.st=1):recvS L V S (dsegM tg la d)=partS S (dsegM tg la d)∧ recvO L V S (dsegM tg la d)=partO S (dsegM tg la d):=zsk rfl h
theorem ztd (tg:Bool):canB (okM 13 0 0 tg)=true:=by cases tg<;>decide
theorem zte {tg:Bool}(hw:C.wk=13)(ht:C.tg=tg):cFitB C (okM 13 0 0 tg)=true:=by
 unfold cFitB okM;simp[hw,ht]
theorem ztf {k:Nat}(hp:PlcOk ix sub)(hfit:(b.length:Int)≤ mostE (entK L (locK L ix sub)))(hk:k≤b.length)(h:InSeg L ix sub b k C X)(hla:sgLa b k=true) :
 zr4 L 2 ⟨C,X,V,[fq (dsegM C.tg (sgLa b k) (sgDt b k))]⟩ (zzl L V ix sub b):=by
 have hpc:=zta h hk hfit;have hto:sgTo b k=b.length:=of_decide_eq_true hla;have hcat:X.sg.b ++ sgDt b k=b:=by rw[h.sb,zs8 hk,hto,List.take_length]
 have hcan:canB (dsegM C.tg (sgLa b k) (sgDt b k))=true:=zqm _ _ _ zs9;have hms:MsOk (dsegM C.tg (sgLa b k) (sgDt b k)):=⟨Nat.zero_le _,Nat.zero_le _,Nat.zero_le _⟩;obtain⟨d1,_⟩:=zsc (L:=L) (V:=V) (X:={ X with left:=50 }) (M:=dsegM C.tg (sgLa b k) (sgDt b k)) (.inl rfl) h.bk;obtain⟨_,d2⟩:=zsc (L:=L) (V:=V) (X:=X) (M:=dsegM C.tg (sgLa b k) (sgDt b k)) (.inl rfl) h.bk;obtain⟨r1,r2⟩:=ztc (L:=L) (V:=V) (tg:=C.tg) (la:=sgLa b k) (d:=sgDt b k) h.st;have eS:partS X.sg (dsegM C.tg (sgLa b k) (sgDt b k))= { X.sg with st:=3,tg:=!X.sg.tg,b:=b,wk:=13,wi:=0,ws:=0,wt:=C.tg }:=by
  unfold partS;rw[if_neg (show ¬(dsegM C.tg (sgLa b k) (sgDt b k)).tg≠X.sg.tg by show ¬C.tg≠X.sg.tg;rw[h.tg];simp),if_neg (by rw[hpc];simp),if_pos (show (dsegM C.tg (sgLa b k) (sgDt b k)).la=true from hla)];show ({ X.sg with st:=3,tg:=!X.sg.tg,b:=X.sg.b ++ sgDt b k,wk:=13,wi:=0,ws:=0,wt:=C.tg }:SegS)=_;rw[hcat]
 have eO:partO X.sg (dsegM C.tg (sgLa b k) (sgDt b k))=⟨[],true,ix,sub,b⟩:=by
  unfold partO;rw[if_neg (by rw[hpc];simp),if_pos (show (dsegM C.tg (sgLa b k) (sgDt b k)).la=true from hla)];show (⟨[],true,X.sg.ix,X.sg.sub,X.sg.b ++ sgDt b k⟩:SegO)=_;rw[hcat,h.pi,h.ps]
 have hw0:C.wk≠0:=by have:=h.wk;omega
 have hw21:C.wk≠21:=by have:=h.wk;omega
 obtain⟨hmn,hml⟩:=zsv L ix sub b;refine .step (zsa h.nin h.nout hcan hms (ztb h.bk) d1 (by rw[d2,r2,eO])) ?_;rw[show recvS L V ({ X with left:=50 }:SdoS).sg (dsegM C.tg (sgLa b k) (sgDt b k))=_ from r1,eS,List.nil_append];have hbk: ¬((X.bk).st=3):=by rw[h.bk];decide
 have hbk0:(bAnswerS X.bk).st=0:=by unfold bAnswerS;rw[if_neg hbk];exact h.bk
 by_cases hm:mayC L ix sub b false=0
 · have hl:sdAL { X with sg:={ X.sg with st:=3,tg:=!X.sg.tg,b:=b,wk:=13,wi:=0,ws:=0,wt:=C.tg },left:=50 } (mayC L ix sub b false).toNat= [okM 13 0 0 C.tg]:=by
    rw[hm];unfold sdAL answerL bAnswerL;rw[if_pos rfl,if_neg hbk]
    rfl
   obtain⟨e1,e2⟩:=zs2 (C:={ C with tg:=!C.tg }) (by
    show (C.b.length:Int) < C.at_;rw[h.at_,if_pos hla,h.cb,hto];omega)
   rw[hl,zr5 (ztd _)];refine .step (zsg h.nd hw0 (ztd _) (zs4 _ _ _ _) (.inl ⟨hw21,by show (13:Int) ∈ ansK;decide⟩) (by show ¬(13:Int)=1;decide) (zte h.wk rfl) e1 e2) ?_;exact .now ⟨rfl,h.nd,rfl,rfl,h.nin,h.nout,rfl,hbk0,⟨fun _=>hm,fun _=>rfl⟩,rfl⟩
 · have hcd:(mayC L ix sub b false).toNat≠0:=by omega
   have hl:sdAL { X with sg:={ X.sg with st:=3,tg:=!X.sg.tg,b:=b,wk:=13,wi:=0,ws:=0,wt:=C.tg },left:=50 } (mayC L ix sub b false).toNat= [abM ix sub (mayC L ix sub b false).toNat]:=by
    unfold sdAL answerL bAnswerL;rw[if_pos rfl,if_pos hcd,if_neg hbk,List.append_nil];show [abM X.sg.ix X.sg.sub _]=_;rw[h.pi,h.ps]
   rw[hl,zr5 (zqj hp)];refine zr4.imp (P:=fun T=>zzl L V ix sub b T∧T.C.code=(mayC L ix sub b false).toNat) ?_ (fun T h=>h.1);refine zs0 h.nd hw0 hw21 hp ?_ ?_ ?_ ?_ ?_ ?_ _ ?_
   · exact⟨h.nin,h.nout⟩
   · exact rfl
   · exact hbk0
   · omega
   · exact hcd
   · exact hm
   · exact (zsz hm)
theorem ztg {k:Nat}(hfit:(b.length:Int)≤ mostE (entK L (locK L ix sub)))(hk:k≤b.length)(h:InSeg L ix sub b k C X)(hla:sgLa b k=false){P:Tk→Prop}{n:Nat}
 (hP:∀C' X',InSeg L ix sub b (k+7) C' X'→k+7 < b.length→zr4 L n ⟨C',X',V,[fq (dsegM C'.tg (sgLa b (k+7)) (sgDt b (k+7)))]⟩ P):zr4 L (n+2) ⟨C,X,V,[fq (dsegM C.tg (sgLa b k) (sgDt b k))]⟩ P:=by
 have hpc:=zta h hk hfit;have hto:sgTo b k≠b.length:=of_decide_eq_false hla;have hk7:k+7 < b.length:=by unfold sgTo at hto;omega
 have ht7:sgTo b k=k+7:=by unfold sgTo;omega
 have hcat:X.sg.b ++ sgDt b k=b.take (k+7):=by rw[h.sb,zs8 hk,ht7]
 have hcan:canB (dsegM C.tg (sgLa b k) (sgDt b k))=true:=zqm _ _ _ zs9;have hms:MsOk (dsegM C.tg (sgLa b k) (sgDt b k)):=⟨Nat.zero_le _,Nat.zero_le _,Nat.zero_le _⟩;obtain⟨d1,_⟩:=zsc (L:=L) (V:=V) (X:={ X with left:=50 }) (M:=dsegM C.tg (sgLa b k) (sgDt b k)) (.inl rfl) h.bk;obtain⟨_,d2⟩:=zsc (L:=L) (V:=V) (X:=X) (M:=dsegM C.tg (sgLa b k) (sgDt b k)) (.inl rfl) h.bk;obtain⟨r1,r2⟩:=ztc (L:=L) (V:=V) (tg:=C.tg) (la:=sgLa b k) (d:=sgDt b k) h.st;have hnl: ¬(dsegM C.tg (sgLa b k) (sgDt b k)).la=true:=by show ¬sgLa b k=true;rw[hla];decide
 have eS:partS X.sg (dsegM C.tg (sgLa b k) (sgDt b k))= { X.sg with tg:=!X.sg.tg,b:=b.take (k+7) }:=by
  unfold partS;rw[if_neg (show ¬(dsegM C.tg (sgLa b k) (sgDt b k)).tg≠X.sg.tg by show ¬C.tg≠X.sg.tg;rw[h.tg];simp),if_neg (by rw[hpc];simp),if_neg hnl];show ({ X.sg with tg:=!X.sg.tg,b:=X.sg.b ++ sgDt b k }:SegS)=_;rw[hcat]
 have eO:partO X.sg (dsegM C.tg (sgLa b k) (sgDt b k))=outM (okM 13 0 0 C.tg):=by
  unfold partO;rw[if_neg (by rw[hpc];simp),if_neg hnl]
  rfl
 have hw0:C.wk≠0:=by have:=h.wk;omega
 have hw21:C.wk≠21:=by have:=h.wk;omega
 refine .step (zr9 h.nin h.nout hcan hms (ztb h.bk) d1 (by rw[d2,r2,eO]) rfl) ?_;rw[show recvS L V ({ X with left:=50 }:SdoS).sg (dsegM C.tg (sgLa b k) (sgDt b k))=_ from r1,eS,List.nil_append,show frmL 1413 (outM (okM 13 0 0 C.tg)).ms= [fa (okM 13 0 0 C.tg)] from zr5 (ztd _)];obtain⟨e1,e2⟩:=zs6 (C:={ C with tg:=!C.tg }) (k:=k+7) h.cb (by show C.at_=_;rw[h.at_,if_neg (by rw[hla];decide),ht7]) (by omega);rw[zs7 (C:={ C with tg:=!C.tg }) h.nd (zqm _ _ _ zs9)] at e2;refine .step (zsg h.nd hw0 (ztd _) (zs4 _ _ _ _) (.inl ⟨hw21,by show (13:Int) ∈ ansK;decide⟩) (by show ¬(13:Int)=1;decide) (zte h.wk rfl) e1 e2) ?_
 exact hP _ _ ⟨h.nd,rfl,h.cb,rfl,h.nin,h.nout,h.st,h.bk,h.pi,h.ps,h.mo,h.sz,rfl,by show (!X.sg.tg)= !C.tg;rw[h.tg],h.cd⟩ hk7
theorem zth (hp:PlcOk ix sub)(hfit:(b.length:Int)≤ mostE (entK L (locK L ix sub))) :
 ∀(m k:Nat) (C:CliS) (X:SdoS),b.length≤k+7 * (m+1)→ k≤b.length→InSeg L ix sub b k C X→zr4 L (2 * m+2) ⟨C,X,V,[fq (dsegM C.tg (sgLa b k) (sgDt b k))]⟩ (zzl L V ix sub b):=by
 intro m
 induction m with
 | zero=>
   intro k C X hm hk h;exact ztf hp hfit hk h (decide_eq_true (by unfold sgTo;omega))
 | succ m ih=>
   intro k C X hm hk h;cases hla:sgLa b k
   · rw[←hla];exact ztg (n:=2 * m+2) hfit hk h hla (fun C' X' h' h7=>ih (k+7) C' X' (by omega) (by omega) h')
   · rw[←hla];exact (ztf hp hfit hk h hla).mono (by omega)
theorem zti (hp:PlcOk ix sub)(hbl:b.length≤2000)(hn:C.nd=5)(hw:C.wk=12)(hi:C.ix=ix)(hs:C.sub=sub)(hcb:C.b=b)(ha:C.at_=0)(htg:C.tg=false)(hcd:C.data= [])(hX:X.nin=1541∧X.nout=1413)(h1:X.sg.st=0)(h2:X.bk.st=0) :
 zr4 L 600 ⟨C,X,V,[fq (downM ix sub true b.length [])]⟩ (zzl L V ix sub b):=by
 have hcan:canB (downM ix sub true b.length [])=true:=zql ix sub b.length [] ⟨hp.1.1,hp.1.2,hp.2.1,hp.2.2⟩ (Nat.zero_le _) (fun h=>absurd rfl h);have hms:MsOk (downM ix sub true b.length []):=⟨by show b.length≤4294967295;omega,Nat.zero_le _,Nat.zero_le _⟩;have hkq:(X.bk.st≠1∧(downM ix sub true b.length []).kind ∈ reqK)∨ (X.bk.st=1∧(downM ix sub true b.length []).kind=21):= .inl ⟨by omega,by show (2:Int) ∈ reqK;decide⟩;obtain⟨d1,d2⟩:=zsb (L:=L) (V:=V) (X:={ X with left:=50 }) (M:=downM ix sub true b.length []) (.inl rfl);obtain⟨_,d2'⟩:=zsb (L:=L) (V:=V) (X:=X) (M:=downM ix sub true b.length []) (.inl rfl)
 have hrS:=(zsi (L:=L) (V:=V) (S:=X.sg) (M:=downM ix sub true b.length []) rfl).1;have hrO:=(zsi (L:=L) (V:=V) (S:=X.sg) (M:=downM ix sub true b.length []) rfl).2;have hdc:dcode L (downM ix sub true b.length [])=if smayC L ix sub=0 then fitsC (entK L (locK L ix sub)) b.length else smayC L ix sub:=by
  unfold dcode;by_cases h:smayC L ix sub=0
  · rw[if_pos (show smayC L (downM ix sub true b.length []).ix (downM ix sub true b.length []).sub=0∧(downM ix sub true b.length []).sz=true∧(downM ix sub true b.length []).data= [] from ⟨h,rfl,rfl⟩),if_pos h]
    rfl
  · rw[if_neg (fun hh=>h hh.1),if_neg h]
    rfl
 have hw0:C.wk≠0:=by omega
 have hw21:C.wk≠21:=by omega
 have hsn:=zsu L ix sub;have hsl:=zoq L ix sub;have hfn:=zsx (entK L (locK L ix sub)) b.length;have hfl:=zos (entK L (locK L ix sub)) b.length;have hdn:0≤dcode L (downM ix sub true b.length [])∧ dcode L (downM ix sub true b.length [])≤ 4294967295:=by
  rw[hdc];split<;>omega
 by_cases hd:dcode L (downM ix sub true b.length [])=0
 · have hsm:smayC L ix sub=0∧fitsC (entK L (locK L ix sub)) b.length=0:=by
    rw[hdc] at hd;split at hd
    · rename_i h;exact⟨h,hd⟩
    · exact absurd hd (by assumption)
   have hfit:(b.length:Int)≤ mostE (entK L (locK L ix sub)):=by
    have:=hsm.2
    unfold fitsC at this;split at this
    · omega
    · omega
   have eS:downS L (segIdle X.sg) (downM ix sub true b.length [])= { segIdle X.sg with st:=1,ix:=ix,sub:=sub,mo:=mostE (entK L (locK L ix sub)),sz:=(b.length:Int),b:=[],tg:=false }:=by
    unfold downS;rw[if_neg (by rw[hd];simp),if_neg (show ¬(downM ix sub true b.length []).data≠ [] by simp[downM])]
    rfl
   have eO:downO L (downM ix sub true b.length [])=outM (okM 12 ix sub false):=by
    unfold downO;rw[if_neg (by rw[hd];simp),if_neg (show ¬(downM ix sub true b.length []).data≠ [] by simp[downM])]
    rfl
   refine zr4.mono (k:=(2 * 290+2)+1+1) ?_ (by omega);refine .step (zr9 hX.1 hX.2 hcan hms hkq d1 (by rw[d2',hrO,eO]) rfl) ?_;rw[hrS,eS,List.nil_append,show frmL 1413 (outM (okM 12 ix sub false)).ms= [fa (okM 12 ix sub false)] from zr5 (zs3 hp)];obtain⟨e1,e2⟩:=zs6 (k:=0) hcb (by rw[ha];rfl) (Nat.zero_le _);rw[zs7 hn (zqm _ _ _ zs9)] at e2;refine .step (zsg hn hw0 (zs3 hp) (zs4 _ _ _ _) (.inl ⟨hw21,by show (12:Int) ∈ ansK;decide⟩) (by show ¬(12:Int)=1;decide) (zs1 hw hi hs) e1 e2) ?_;exact zth hp hfit 290 0 { C with at_:=if sgLa b 0=true then ((sgTo b 0:Nat):Int)+1 else ((sgTo b 0:Nat):Int),wk:=13 } _ (by omega) (Nat.zero_le _) ⟨hn,rfl,hcb,rfl,hX.1,hX.2,rfl,rfl,rfl,rfl,rfl,rfl,rfl,htg.symm,hcd⟩
 · have eS:downS L (segIdle X.sg) (downM ix sub true b.length [])=segIdle X.sg:=by
    unfold downS;rw[if_pos hd]
   have eO:downO L (downM ix sub true b.length [])=outM (abM ix sub (dcode L (downM ix sub true b.length [])).toNat):=by
    unfold downO;rw[if_pos hd]
    rfl
   have hm:mayC L ix sub b false≠0:=by
    intro hm;by_cases hsm:smayC L ix sub=0
    · rw[zst hsm] at hm;rw[hdc,if_pos hsm] at hd;exact hd (zsy hm)
    · rw[zss hsm] at hm;exact hsm hm
   refine zr4.mono (k:=1+1) ?_ (by omega);refine .step (zr9 hX.1 hX.2 hcan hms hkq d1 (by rw[d2',hrO,eO]) rfl) ?_;rw[hrS,eS,List.nil_append,show frmL 1413 (outM (abM ix sub (dcode L (downM ix sub true b.length [])).toNat)).ms= [fa (abM ix sub (dcode L (downM ix sub true b.length [])).toNat)] from zr5 (zqj hp)];refine zr4.imp (P:=fun T=>zzl L V ix sub b T∧T.C.code=(dcode L (downM ix sub true b.length [])).toNat) ?_ (fun T h=>h.1);refine zs0 hn hw0 hw21 hp ?_ ?_ ?_ ?_ ?_ ?_ _ ?_
   · exact⟨hX.1,hX.2⟩
   · exact rfl
   · exact rfl
   · omega
   · omega
   · exact hm
   · exact rfl
end
end
section
section
variable {L:List Ent} {V:List (List UInt8)} {X X':SdoS} {C C':CliS} {ix sub:Int}
structure zzm (L:List Ent) (V:List (List UInt8)) (ix sub:Int) (T:Tk):Prop where
 l:T.l= []
 nd:T.C.nd=5
 wk:T.C.wk=0
 nin:T.X.nin=1541
 nout:T.X.nout=1413
 sg:T.X.sg.st=0
 bk:T.X.bk.st=0
 code:T.C.code=(getC L ix sub).toNat
 data:T.C.data=getB L V ix sub
 V:T.V=V
theorem ztj (h:getC L ix sub≠0):getB L V ix sub= []:=by unfold getB;rw[if_neg h]
theorem ztk (hn:C.nd=5)(hw:C.wk≠0)(hw2:C.wk≠21)(hp:PlcOk ix sub)(hX:X.nin=1541∧X.nout=1413)(h1:X.sg.st=0)(h2:X.bk.st=0)(hg:getC L ix sub≠0) :
 zr4 L 1 ⟨C,X,V,[fa (abM ix sub (getC L ix sub).toNat)]⟩ (zzm L V ix sub):=by
 have h3:=zsw L ix sub;have h4:=zor L ix sub;exact .step (zsh hn hw hw2 hp (by omega)) (.now ⟨rfl,hn,rfl,hX.1,hX.2,h1,h2,rfl,(ztj hg).symm,rfl⟩)
theorem ztl {size:Nat}{d:List UInt8}(hp:PlcOk ix sub)(h:d= []∨ (size=0∧d.length≤4)):canB (upM ix sub size d)=true:=by
 obtain⟨⟨h1,h2⟩,h3,h4⟩:=hp;rcases h with rfl | ⟨rfl,hl⟩
 · simp[canB,upM,formI,rangeB,shapeB,sameB,onlyM,placedB,dataB,h1,h2,h3,h4]
 · rcases d with _ | ⟨x,d⟩
   · simp[canB,upM,formI,rangeB,shapeB,sameB,onlyM,placedB,dataB,h1,h2,h3,h4]
   · have h5:d.length+1≤7:=by rw[List.length_cons] at hl;omega
     have h6:d.length+1=4∨d.length+1 < 4:=by rw[List.length_cons] at hl;omega
     simp[canB,upM,formI,rangeB,shapeB,sameB,onlyM,placedB,dataB,h1,h2,h3,h4,h5];rcases h6 with h6 | h6
     · exact .inl (by omega)
     · exact .inr (decide_eq_true h6)
theorem ztm {tg la:Bool}{d:List UInt8}(h:d.length≤7):canB (segM tg la d)=true:=by
 simp[canB,segM,formI,rangeB,shapeB,sameB,onlyM,placedB,dataB,h]
theorem ztn {size:Nat}{d:List UInt8}(hw:C.wk=14)(hi:C.ix=ix)(hs:C.sub=sub):cFitB C (upM ix sub size d)=true:=by
 unfold cFitB upM;simp[hw,hi,hs]
theorem zto {tg la:Bool}{d:List UInt8}(hw:C.wk=15)(ht:C.tg=tg):cFitB C (segM tg la d)=true:=by
 unfold cFitB segM;simp[hw,ht]
structure InGive (B:List UInt8) (k:Nat) (C:CliS) (X:SdoS):Prop where
 nd:C.nd=5
 wk:C.wk=15
 cb:C.b=B.take k
 es:C.es=true
 en:C.en=B.length
 nin:X.nin=1541
 nout:X.nout=1413
 st:X.sg.st=2
 bk:X.bk.st=0
 sb:X.sg.b=B.drop k
 tg:X.sg.tg=C.tg
theorem ztp {tg:Bool}(h2:X.bk.st=0):(X.bk.st≠1∧(usegM tg).kind ∈ reqK)∨ (X.bk.st=1∧(usegM tg).kind=21):= .inl ⟨by omega,by show (5:Int) ∈ reqK;decide⟩
theorem ztq {S:SegS}{tg:Bool}(h:S.st=2):recvS L V S (usegM tg)=nextS S (usegM tg)∧ recvO L V S (usegM tg)=nextO S (usegM tg):=zsl rfl h
theorem ztr {B:List UInt8}{k:Nat}(hc:getC L ix sub=0)(hB:getB L V ix sub=B)(hk:k≤B.length)(h:InGive B k C X)(hl:B.length≤k+7):zr4 L 2 ⟨C,X,V,[fq (usegM C.tg)]⟩ (zzm L V ix sub):=by
 have hbl:X.sg.b.length≤7:=by rw[h.sb,List.length_drop];omega
 obtain⟨d1,_⟩:=zsc (L:=L) (V:=V) (X:={ X with left:=50 }) (M:=usegM C.tg) (.inr rfl) h.bk;obtain⟨_,d2⟩:=zsc (L:=L) (V:=V) (X:=X) (M:=usegM C.tg) (.inr rfl) h.bk;obtain⟨r1,r2⟩:=ztq (L:=L) (V:=V) (tg:=C.tg) h.st;have eS:nextS X.sg (usegM C.tg)= { X.sg with st:=0,tg:=!X.sg.tg,b:=[] }:=by
  unfold nextS;rw[if_neg (show ¬(usegM C.tg).tg≠X.sg.tg by show ¬C.tg≠X.sg.tg;rw[h.tg];simp),if_pos hbl]
 have eO:nextO X.sg (usegM C.tg)=outM (segM C.tg true (B.drop k)):=by
  unfold nextO;rw[if_neg (show ¬(usegM C.tg).tg≠X.sg.tg by show ¬C.tg≠X.sg.tg;rw[h.tg];simp),decide_eq_true hbl,List.take_of_length_le hbl,h.sb]
  rfl
 have hd7:(B.drop k).length≤7:=by rw[List.length_drop];omega
 have hcat:C.b ++ B.drop k=B:=by rw[h.cb,List.take_append_drop]
 have hw0:C.wk≠0:=by have:=h.wk;omega
 have hw21:C.wk≠21:=by have:=h.wk;omega
 refine .step (zr9 h.nin h.nout (zqo _) ⟨Nat.zero_le _,Nat.zero_le _,Nat.zero_le _⟩ (ztp h.bk) d1 (by rw[d2,r2,eO]) rfl) ?_;rw[show recvS L V ({ X with left:=50 }:SdoS).sg (usegM C.tg)=_ from r1,eS,List.nil_append,show frmL 1413 (outM (segM C.tg true (B.drop k))).ms= [fa (segM C.tg true (B.drop k))] from zr5 (ztm hd7)];have e1:cStepS C (segM C.tg true (B.drop k))=cEnd (cPcA C (segM C.tg true (B.drop k))) 0 B:=by
  unfold cStepS;rw[if_neg (show ¬(segM C.tg true (B.drop k)).kind=12 by show ¬(15:Int)=12;decide),if_neg (show ¬(segM C.tg true (B.drop k)).kind=13 by show ¬(15:Int)=13;decide),if_neg (show ¬(segM C.tg true (B.drop k)).kind=14 by show ¬(15:Int)=14;decide),if_pos (show (segM C.tg true (B.drop k)).kind=15 from rfl)];unfold cPcS;rw[if_neg (show ¬(segM C.tg true (B.drop k)).la=false by show ¬true=false;decide),show (C.b ++ (segM C.tg true (B.drop k)).data)=B from hcat,if_neg];unfold cSzB;rw[h.es,h.en]
  simp
 have e2:cStepL C (segM C.tg true (B.drop k))= []:=by
  unfold cStepL;rw[if_neg (show ¬(segM C.tg true (B.drop k)).kind=12 by show ¬(15:Int)=12;decide),if_neg (show ¬(segM C.tg true (B.drop k)).kind=13 by show ¬(15:Int)=13;decide),if_neg (show ¬(segM C.tg true (B.drop k)).kind=14 by show ¬(15:Int)=14;decide),if_pos (show (segM C.tg true (B.drop k)).kind=15 from rfl)];unfold cPcL;rw[if_neg (show ¬(segM C.tg true (B.drop k)).la=false by show ¬true=false;decide),show (C.b ++ (segM C.tg true (B.drop k)).data)=B from hcat,if_neg];unfold cSzB;rw[h.es,h.en]
  simp
 refine .step (zsg h.nd hw0 (ztm hd7) ⟨Nat.zero_le _,Nat.zero_le _,Nat.zero_le _⟩ (.inl ⟨hw21,by show (15:Int) ∈ ansK;decide⟩) (by show ¬(15:Int)=1;decide) (zto h.wk rfl) e1 e2) ?_;exact .now ⟨rfl,h.nd,rfl,h.nin,h.nout,rfl,h.bk,by rw[hc];rfl,hB.symm,rfl⟩
theorem zts {B:List UInt8}{k:Nat}(h:InGive B k C X)(hl:k+7 < B.length){P:Tk→Prop}{n:Nat}(hP:∀C' X',InGive B (k+7) C' X'→zr4 L n ⟨C',X',V,[fq (usegM C'.tg)]⟩ P):zr4 L (n+2) ⟨C,X,V,[fq (usegM C.tg)]⟩ P:=by
 have hbl: ¬X.sg.b.length≤7:=by rw[h.sb,List.length_drop];omega
 obtain⟨d1,_⟩:=zsc (L:=L) (V:=V) (X:={ X with left:=50 }) (M:=usegM C.tg) (.inr rfl) h.bk;obtain⟨_,d2⟩:=zsc (L:=L) (V:=V) (X:=X) (M:=usegM C.tg) (.inr rfl) h.bk;obtain⟨r1,r2⟩:=ztq (L:=L) (V:=V) (tg:=C.tg) h.st;have eS:nextS X.sg (usegM C.tg)= { X.sg with tg:=!X.sg.tg,b:=B.drop (k+7) }:=by
  unfold nextS;rw[if_neg (show ¬(usegM C.tg).tg≠X.sg.tg by show ¬C.tg≠X.sg.tg;rw[h.tg];simp),if_neg hbl,h.sb,List.drop_drop]
 have eO:nextO X.sg (usegM C.tg)=outM (segM C.tg false ((B.drop k).take 7)):=by
  unfold nextO;rw[if_neg (show ¬(usegM C.tg).tg≠X.sg.tg by show ¬C.tg≠X.sg.tg;rw[h.tg];simp),decide_eq_false hbl,h.sb]
  rfl
 have hd7:((B.drop k).take 7).length≤7:=by rw[List.length_take];omega
 have hcat:C.b ++ (B.drop k).take 7=B.take (k+7):=by rw[h.cb,List.take_add]
 have hw0:C.wk≠0:=by have:=h.wk;omega
 have hw21:C.wk≠21:=by have:=h.wk;omega
 refine .step (zr9 h.nin h.nout (zqo _) ⟨Nat.zero_le _,Nat.zero_le _,Nat.zero_le _⟩ (ztp h.bk) d1 (by rw[d2,r2,eO]) rfl) ?_;rw[show recvS L V ({ X with left:=50 }:SdoS).sg (usegM C.tg)=_ from r1,eS,List.nil_append,show frmL 1413 (outM (segM C.tg false ((B.drop k).take 7))).ms= [fa (segM C.tg false ((B.drop k).take 7))] from zr5 (ztm hd7)];have e1:cStepS C (segM C.tg false ((B.drop k).take 7))= { C with b:=B.take (k+7),tg:=!C.tg,wk:=15 }:=by
  unfold cStepS;rw[if_neg (show ¬(segM C.tg false ((B.drop k).take 7)).kind=12 by show ¬(15:Int)=12;decide),if_neg (show ¬(segM C.tg false ((B.drop k).take 7)).kind=13 by show ¬(15:Int)=13;decide),if_neg (show ¬(segM C.tg false ((B.drop k).take 7)).kind=14 by show ¬(15:Int)=14;decide),if_pos (show (segM C.tg false ((B.drop k).take 7)).kind=15 from rfl)];unfold cPcS;rw[if_pos (show (segM C.tg false ((B.drop k).take 7)).la=false from rfl)];unfold cMoreS cPcA;rw[show C.b ++ (segM C.tg false ((B.drop k).take 7)).data=_ from hcat]
 have e2:cStepL C (segM C.tg false ((B.drop k).take 7))= [fq (usegM (!C.tg))]:=by
  unfold cStepL;rw[if_neg (show ¬(segM C.tg false ((B.drop k).take 7)).kind=12 by show ¬(15:Int)=12;decide),if_neg (show ¬(segM C.tg false ((B.drop k).take 7)).kind=13 by show ¬(15:Int)=13;decide),if_neg (show ¬(segM C.tg false ((B.drop k).take 7)).kind=14 by show ¬(15:Int)=14;decide),if_pos (show (segM C.tg false ((B.drop k).take 7)).kind=15 from rfl)];unfold cPcL;rw[if_pos (show (segM C.tg false ((B.drop k).take 7)).la=false from rfl)];exact zs7 (C:=cPcA C (segM C.tg false ((B.drop k).take 7))) h.nd (zqo _)
 refine .step (zsg h.nd hw0 (ztm hd7) ⟨Nat.zero_le _,Nat.zero_le _,Nat.zero_le _⟩ (.inl ⟨hw21,by show (15:Int) ∈ ansK;decide⟩) (by show ¬(15:Int)=1;decide) (zto h.wk rfl) e1 e2) ?_;exact hP { C with b:=B.take (k+7),tg:=!C.tg,wk:=15 } _ ⟨h.nd,rfl,rfl,h.es,h.en,h.nin,h.nout,h.st,h.bk,rfl,by show (!X.sg.tg)= !C.tg;rw[h.tg]⟩
theorem ztt {B:List UInt8}(hc:getC L ix sub=0)(hB:getB L V ix sub=B) :
 ∀(m k:Nat) (C:CliS) (X:SdoS),B.length≤k+7 * (m+1)→ k≤B.length→InGive B k C X→zr4 L (2 * m+2) ⟨C,X,V,[fq (usegM C.tg)]⟩ (zzm L V ix sub):=by
 intro m
 induction m with
 | zero=>
   intro k C X hm hk h;exact ztr hc hB hk h (by omega)
 | succ m ih=>
   intro k C X hm hk h;by_cases hl:B.length≤k+7
   · exact (ztr hc hB hk h hl).mono (by omega)
   · exact zts (n:=2 * m+2) h (by omega) (fun C' X' h'=>ih (k+7) C' X' (by omega) (by omega) h')
theorem ztu (hp:PlcOk ix sub)(hbl:(getB L V ix sub).length≤256)(hn:C.nd=5)(hw:C.wk=14)(hi:C.ix=ix)(hs:C.sub=sub)(hcb:C.b= [])(htg:C.tg=false)(hX:X.nin=1541∧X.nout=1413)(h1:X.sg.st=0)(h2:X.bk.st=0) :
 zr4 L 600 ⟨C,X,V,[fq (uplM ix sub)]⟩ (zzm L V ix sub):=by
 have hcan:canB (uplM ix sub)=true:=zqn ix sub ⟨hp.1.1,hp.1.2,hp.2.1,hp.2.2⟩;have hms:MsOk (uplM ix sub):=⟨Nat.zero_le _,Nat.zero_le _,Nat.zero_le _⟩;have hkq:(X.bk.st≠1∧(uplM ix sub).kind ∈ reqK)∨ (X.bk.st=1∧(uplM ix sub).kind=21):= .inl ⟨by omega,by show (4:Int) ∈ reqK;decide⟩;obtain⟨d1,_⟩:=zsb (L:=L) (V:=V) (X:={ X with left:=50 }) (M:=uplM ix sub) (.inr rfl);obtain⟨_,d2⟩:=zsb (L:=L) (V:=V) (X:=X) (M:=uplM ix sub) (.inr rfl);have hrS:=(zsj (L:=L) (V:=V) (S:=X.sg) (M:=uplM ix sub) rfl).1;have hrO:=(zsj (L:=L) (V:=V) (S:=X.sg) (M:=uplM ix sub) rfl).2;have hw0:C.wk≠0:=by omega
 have hw21:C.wk≠21:=by omega
 have k14:∀ {size:Nat} {d:List UInt8},¬(upM ix sub size d).kind=12∧ ¬(upM ix sub size d).kind=13∧(upM ix sub size d).kind=14:=fun {_ _}=> ⟨by show ¬(14:Int)=12;decide,by show ¬(14:Int)=13;decide,rfl⟩
 by_cases hg:getC L ix sub=0
 · by_cases h4:0 < (getB L V ix sub).length∧(getB L V ix sub).length≤4
   · have eS:upS L V (segIdle X.sg) (uplM ix sub)=segIdle X.sg:=by
      unfold upS;rw[if_neg (show ¬getC L (uplM ix sub).ix (uplM ix sub).sub≠0 by simpa [uplM] using hg),if_pos (show 0 < (getB L V (uplM ix sub).ix (uplM ix sub).sub).length∧(getB L V (uplM ix sub).ix (uplM ix sub).sub).length≤4 from h4)]
     have eO:upO L V (uplM ix sub)=outM (upM ix sub 0 (getB L V ix sub)):=by
      unfold upO;rw[if_neg (show ¬getC L (uplM ix sub).ix (uplM ix sub).sub≠0 by simpa [uplM] using hg),if_pos (show 0 < (getB L V (uplM ix sub).ix (uplM ix sub).sub).length∧(getB L V (uplM ix sub).ix (uplM ix sub).sub).length≤4 from h4)]
      rfl
     have hca:canB (upM ix sub 0 (getB L V ix sub))=true:=ztl hp (.inr ⟨rfl,h4.2⟩);have hne:(getB L V ix sub)≠ []:=by intro h;rw[h] at h4;simp at h4
     refine zr4.mono (k:=0+1+1) ?_ (by omega);refine .step (zr9 hX.1 hX.2 hcan hms hkq d1 (by rw[d2,hrO,eO]) rfl) ?_;rw[show recvS L V ({ X with left:=50 }:SdoS).sg (uplM ix sub)=_ from hrS,eS,List.nil_append,show frmL 1413 (outM (upM ix sub 0 (getB L V ix sub))).ms= [fa (upM ix sub 0 (getB L V ix sub))] from zr5 hca];have e1:cStepS C (upM ix sub 0 (getB L V ix sub))=cEnd (cExp C (upM ix sub 0 (getB L V ix sub))) 0 (getB L V ix sub):=by
      unfold cStepS;rw[if_neg k14.1,if_neg k14.2.1,if_pos k14.2.2,if_pos (show (upM ix sub 0 (getB L V ix sub)).data≠ [] from hne)]
      rfl
     have e2:cStepL C (upM ix sub 0 (getB L V ix sub))= []:=by
      unfold cStepL;rw[if_neg k14.1,if_neg k14.2.1,if_pos k14.2.2,if_pos (show (upM ix sub 0 (getB L V ix sub)).data≠ [] from hne)]
     refine .step (zsg hn hw0 hca ⟨Nat.zero_le _,Nat.zero_le _,Nat.zero_le _⟩ (.inl ⟨hw21,by show (14:Int) ∈ ansK;decide⟩) (by show ¬(14:Int)=1;decide) (ztn hw hi hs) e1 e2) ?_;exact .now ⟨rfl,hn,rfl,hX.1,hX.2,rfl,rfl,by rw[hg];rfl,rfl,rfl⟩
   · have eS:upS L V (segIdle X.sg) (uplM ix sub)= { segIdle X.sg with st:=2,ix:=ix,sub:=sub,b:=getB L V ix sub,tg:=false }:=by
      unfold upS;rw[if_neg (show ¬getC L (uplM ix sub).ix (uplM ix sub).sub≠0 by simpa [uplM] using hg),if_neg (show ¬(0 < (getB L V (uplM ix sub).ix (uplM ix sub).sub).length∧(getB L V (uplM ix sub).ix (uplM ix sub).sub).length≤4) from h4)]
      rfl
     have eO:upO L V (uplM ix sub)=outM (upM ix sub (getB L V ix sub).length []):=by
      unfold upO;rw[if_neg (show ¬getC L (uplM ix sub).ix (uplM ix sub).sub≠0 by simpa [uplM] using hg),if_neg (show ¬(0 < (getB L V (uplM ix sub).ix (uplM ix sub).sub).length∧(getB L V (uplM ix sub).ix (uplM ix sub).sub).length≤4) from h4)]
      rfl
     have hca:canB (upM ix sub (getB L V ix sub).length [])=true:=ztl hp (.inl rfl);refine zr4.mono (k:=(2 * 40+2)+1+1) ?_ (by omega);refine .step (zr9 hX.1 hX.2 hcan hms hkq d1 (by rw[d2,hrO,eO]) rfl) ?_;rw[show recvS L V ({ X with left:=50 }:SdoS).sg (uplM ix sub)=_ from hrS,eS,List.nil_append,show frmL 1413 (outM (upM ix sub (getB L V ix sub).length [])).ms= [fa (upM ix sub (getB L V ix sub).length [])] from zr5 hca];have e1:cStepS C (upM ix sub (getB L V ix sub).length [])=cMoreS (cExp C (upM ix sub (getB L V ix sub).length [])):=by
      unfold cStepS;rw[if_neg k14.1,if_neg k14.2.1,if_pos k14.2.2,if_neg (show ¬(upM ix sub (getB L V ix sub).length []).data≠ [] by simp[upM])]
     have e2:cStepL C (upM ix sub (getB L V ix sub).length [])= [fq (usegM C.tg)]:=by
      unfold cStepL;rw[if_neg k14.1,if_neg k14.2.1,if_pos k14.2.2,if_neg (show ¬(upM ix sub (getB L V ix sub).length []).data≠ [] by simp[upM])];exact zs7 hn (zqo _)
     refine .step (zsg hn hw0 hca ⟨by show (getB L V ix sub).length≤4294967295;omega,Nat.zero_le _,Nat.zero_le _⟩ (.inl ⟨hw21,by show (14:Int) ∈ ansK;decide⟩) (by show ¬(14:Int)=1;decide) (ztn hw hi hs) e1 e2) ?_;exact ztt hg rfl 40 0 (cMoreS (cExp C (upM ix sub (getB L V ix sub).length []))) _ (by omega) (Nat.zero_le _) ⟨hn,rfl,hcb,rfl,rfl,hX.1,hX.2,rfl,rfl,rfl,htg.symm⟩
 · have eS:upS L V (segIdle X.sg) (uplM ix sub)=segIdle X.sg:=by
    unfold upS;rw[if_pos (show getC L (uplM ix sub).ix (uplM ix sub).sub≠0 from hg)]
   have eO:upO L V (uplM ix sub)=outM (abM ix sub (getC L ix sub).toNat):=by
    unfold upO;rw[if_pos (show getC L (uplM ix sub).ix (uplM ix sub).sub≠0 from hg)]
    rfl
   refine zr4.mono (k:=1+1) ?_ (by omega);refine .step (zr9 hX.1 hX.2 hcan hms hkq d1 (by rw[d2,hrO,eO]) rfl) ?_;rw[show recvS L V ({ X with left:=50 }:SdoS).sg (uplM ix sub)=_ from hrS,eS,List.nil_append,show frmL 1413 (outM (abM ix sub (getC L ix sub).toNat)).ms= [fa (abM ix sub (getC L ix sub).toNat)] from zr5 (zqj hp)];refine ztk hn hw0 hw21 hp ?_ ?_ ?_ hg
   · exact⟨hX.1,hX.2⟩
   · rfl
   · rfl
end
end
end Go.Proofs.YtkkpjbjmhaecjaaGreat
