/- None -/
import Derived.Test.YtkkpjbjmhaecjaaGreatT37
namespace Go.Proofs.YtkkpjbjmhaecjaaGreat
set_option linter.all false
set_option maxHeartbeats 4000000
set_option maxRecDepth 20000
section
section
variable {L:List Ent} {V:List (List UInt8)} {X X':SdoS} {C C':CliS} {ix sub:Int} {b:List UInt8}
theorem ztv {id:Int}{l:List Ms}(h:∀M ∈ l,canB M=true):frmL id l=l.map fun M=>⟨id,false,laidB M⟩:=by
 unfold frmL;rw[List.filter_eq_self.2 h]
theorem ztw {tot h r i:Nat}(hi:i < r):(crowT tot h b r).drop i=bsegM ((i:Int)+1) (decide ((h:Int)+(i:Int)+1=(tot:Int))) (bpiece b (h+i)) :: (crowT tot h b r).drop (i+1):=by
 have hl:(crowT tot h b r).length=r:=by simp[crowT]
 rw[List.drop_eq_getElem_cons (by omega)]
 congr 1
 simp[crowT]
theorem ztx {tot h r:Nat}:(crowT tot h b r).drop r= []:=List.drop_eq_nil_of_le (by simp[crowT])
theorem zty (hp:PlcOk ix sub):canB (bokM ix sub)=true:=by
 obtain⟨⟨h1,h2⟩,h3,h4⟩:=hp;simp[canB,bokM,formI,rangeB,shapeB,sameB,onlyM,placedB,dataB,h1,h2,h3,h4]
theorem ztz {sq:Int}(h:0≤sq∧sq≤127):canB (ackM sq)=true:=by
 obtain⟨h1,h2⟩:=h;simp[canB,ackM,formI,rangeB,shapeB,sameB,onlyM,placedB,dataB,h1,h2]
theorem zt0:canB (okM 18 0 0 false)=true:=by decide
structure InRow (L:List Ent) (ix sub:Int) (b:List UInt8) (h i:Nat) (X:SdoS):Prop where
 nin:X.nin=1541
 nout:X.nout=1413
 sg:X.sg.st=0
 bk:X.bk=⟨mostE (entK L (locK L ix sub)),(b.length:Int),((i:Nat):Int),0,0,0,1,ix,sub,padB b (h+i - 1),true⟩
theorem zt1 {S:BlkS}{M:Ms}(h:S.st=1)(hk:M.kind=21):brS L V S M=bpartS S M∧brO L V S M=bpartO S M:=zso hk h
theorem zt2 (q:Int)(la:Bool)(d:List UInt8):MsOk (bsegM q la d):=⟨Nat.zero_le _,Nat.zero_le _,Nat.zero_le _⟩
theorem zt3 {h i r:Nat}(hfit:(b.length:Int)≤ mostE (entK L (locK L ix sub)))(hr:i+1 < r)(h16:r≤16)(ht:h+r≤btotal b)(hR:InRow L ix sub b h (i+1) X){P:Tk→Prop}{n:Nat}
 (hP:∀X',InRow L ix sub b h (i+2) X'→zr4 L n ⟨C,X',V,((crowT (btotal b) h b r).drop (i+1)).map fq⟩ P):zr4 L (n+1) ⟨C,X,V,((crowT (btotal b) h b r).drop i).map fq⟩ P:=by
 obtain⟨t1,t2,t3⟩:=zrz b;have hla:decide ((h:Int)+(i:Int)+1=((btotal b:Nat):Int))=false:=decide_eq_false (by omega);rw[ztw (show i < r by omega),hla,List.map_cons];have hst:X.bk.st=1:=by rw[hR.bk]
 have hcan:canB (bsegM ((i:Int)+1) false (bpiece b (h+i)))=true:=zqt _ _ _ ⟨by omega,by omega⟩ (zru _ _);obtain⟨j',e1,e2,_,_,e5⟩:=zr0 (mostE (entK L (locK L ix sub))) (b.length:Int) ix sub b true h (i+1) (i+1) (by omega) (Nat.le_refl _) (by omega) (by omega);obtain rfl:=e5 rfl;obtain⟨d1,_⟩:=zse (L:=L) (V:=V) (X:={ X with left:=50 }) (M:=bsegM ((i:Int)+1) false (bpiece b (h+i))) (.inr (.inr (.inr (.inr rfl)))) hR.sg;obtain⟨_,d2⟩:=zse (L:=L) (V:=V) (X:=X) (M:=bsegM ((i:Int)+1) false (bpiece b (h+i))) (.inr (.inr (.inr (.inr rfl)))) hR.sg;obtain⟨r1,r2⟩:=zt1 (L:=L) (V:=V) (M:=bsegM ((i:Int)+1) false (bpiece b (h+i))) hst rfl
 have hM:bsegM ((i:Int)+1) false (bpiece b (h+i))=(⟨21,0,0,false,false,false,false,0,0,bpiece b (h+(i+1) - 1),((i+1:Nat):Int),0,0,0⟩:Ms):=by
  unfold bsegM
  congr 1
 have eS:bpartS X.bk (bsegM ((i:Int)+1) false (bpiece b (h+i)))=⟨mostE (entK L (locK L ix sub)),(b.length:Int),((i+1+1:Nat):Int),0,0,0,1,ix,sub,padB b (h+(i+1+1) - 1),true⟩:=by
  rw[hR.bk,hM];exact e1
 have eO:bpartO X.bk (bsegM ((i:Int)+1) false (bpiece b (h+i)))=outZ:=by
  rw[hR.bk,hM];exact e2
 refine .step (zr9 hR.nin hR.nout hcan (zt2 _ _ _) (.inr ⟨hst,rfl⟩) d1 (by rw[d2,r2,eO]) rfl) ?_;rw[show brS L V ({ X with left:=50 }:SdoS).bk (bsegM ((i:Int)+1) false (bpiece b (h+i)))=_ from r1,eS,show frmL 1413 outZ.ms= [] from rfl,List.append_nil];exact hP _ ⟨hR.nin,hR.nout,hR.sg,rfl⟩
theorem zt4 {h r:Nat}(hfit:(b.length:Int)≤ mostE (entK L (locK L ix sub)))(h1:1≤r)(hr:r=min 16 (btotal b - h))(hh:h < btotal b)(hR:InRow L ix sub b h r X){P:Tk→Prop}{n:Nat}
 (hP:∀X',X'.nin=1541→X'.nout=1413→X'.sg.st=0→X'.bk=⟨mostE (entK L (locK L ix sub)),(b.length:Int),1,0,0,0,(if h+r=btotal b then 2 else 1),ix,sub,padB b (h+r),true⟩→ zr4 L n ⟨C,X',V,[fa (ackM ((r:Nat):Int))]⟩ P) :
 zr4 L (n+1) ⟨C,X,V,((crowT (btotal b) h b r).drop (r - 1)).map fq⟩ P:=by
 obtain⟨t1,t2,t3⟩:=zrz b;obtain⟨i,rfl⟩:∃i,r=i+1:=⟨r - 1,by omega⟩;obtain⟨la,hla⟩:∃la,la=decide ((h:Int)+(i:Int)+1=((btotal b:Nat):Int)):=⟨_,rfl⟩;rw[show i+1 - 1=i by omega,ztw (show i < i+1 by omega),ztx,←hla,List.map_cons,List.map_nil];have hst:X.bk.st=1:=by rw[hR.bk]
 have hcan:canB (bsegM ((i:Int)+1) la (bpiece b (h+i)))=true:=zqt _ _ _ ⟨by omega,by omega⟩ (zru _ _);have hlt:la=true ↔ h+(i+1)=btotal b:=by rw[hla,decide_eq_true_iff];omega
 obtain⟨j',st',e1,e2,_,_,e5,e6⟩:=zr1 (mostE (entK L (locK L ix sub))) (b.length:Int) ix sub b true h (i+1) (i+1) (btotal b) la (by omega) (Nat.le_refl _) (by omega) (by omega) hlt (by
  by_cases h2:h+(i+1)=btotal b
  · exact .inl (hlt.2 h2)
  · exact .inr (by omega)) (by omega)
 obtain rfl:=e5 rfl;obtain⟨d1,_⟩:=zse (L:=L) (V:=V) (X:={ X with left:=50 }) (M:=bsegM ((i:Int)+1) la (bpiece b (h+i))) (.inr (.inr (.inr (.inr rfl)))) hR.sg;obtain⟨_,d2⟩:=zse (L:=L) (V:=V) (X:=X) (M:=bsegM ((i:Int)+1) la (bpiece b (h+i))) (.inr (.inr (.inr (.inr rfl)))) hR.sg;obtain⟨r1,r2⟩:=zt1 (L:=L) (V:=V) (M:=bsegM ((i:Int)+1) la (bpiece b (h+i))) hst rfl;have hM:bsegM ((i:Int)+1) la (bpiece b (h+i))=(⟨21,0,0,false,la,false,false,0,0,bpiece b (h+(i+1) - 1),((i+1:Nat):Int),0,0,0⟩:Ms):=by
  unfold bsegM
  congr 1
 have eS:bpartS X.bk (bsegM ((i:Int)+1) la (bpiece b (h+i)))=⟨mostE (entK L (locK L ix sub)),(b.length:Int),1,0,0,0,((st':Nat):Int),ix,sub,padB b (h+(i+1+1) - 1),true⟩:=by
  rw[hR.bk,hM];exact e1
 have eO:bpartO X.bk (bsegM ((i:Int)+1) la (bpiece b (h+i)))=outM (ackM (((i+1+1:Nat):Int) - 1)):=by
  rw[hR.bk,hM];exact e2
 have hak:(((i+1+1:Nat):Int) - 1)=((i+1:Nat):Int):=by omega
 rw[hak] at eO;refine .step (zr9 hR.nin hR.nout hcan (zt2 _ _ _) (.inr ⟨hst,rfl⟩) d1 (by rw[d2,r2,eO]) rfl) ?_;rw[show brS L V ({ X with left:=50 }:SdoS).bk (bsegM ((i:Int)+1) la (bpiece b (h+i)))=_ from r1,eS,List.nil_append,show frmL 1413 (outM (ackM ((i+1:Nat):Int))).ms= [fa (ackM ((i+1:Nat):Int))] from zr5 (ztz ⟨by omega,by omega⟩)];refine hP _ hR.nin hR.nout hR.sg ?_;show (⟨mostE (entK L (locK L ix sub)),(b.length:Int),1,0,0,0,((st':Nat):Int),ix,sub,padB b (h+(i+1+1) - 1),true⟩:BlkS)=_;rw[show h+(i+1+1) - 1=h+(i+1) by omega]
 congr 1
 rcases e6 with ⟨rfl,h7⟩ | ⟨rfl,h7⟩
 · rw[if_neg (by omega)];rfl
 · rw[if_pos (by omega)];rfl
theorem zt5 {h r:Nat}(hfit:(b.length:Int)≤ mostE (entK L (locK L ix sub)))(hr:r=min 16 (btotal b - h))(hh:h < btotal b){P:Tk→Prop}{n:Nat}
 (hP:∀X',X'.nin=1541→X'.nout=1413→X'.sg.st=0→X'.bk=⟨mostE (entK L (locK L ix sub)),(b.length:Int),1,0,0,0,(if h+r=btotal b then 2 else 1),ix,sub,padB b (h+r),true⟩→ zr4 L n ⟨C,X',V,[fa (ackM ((r:Nat):Int))]⟩ P) :
 ∀(m i:Nat) (X:SdoS),i+m+1=r→InRow L ix sub b h (i+1) X→zr4 L (n+m+1) ⟨C,X,V,((crowT (btotal b) h b r).drop i).map fq⟩ P:=by
 intro m
 induction m with
 | zero=>
   intro i X hi hR;obtain rfl:i=r - 1:=by omega
   rw[show r - 1+1=r by omega] at hR;exact zt4 hfit (by omega) hr hh hR hP
 | succ m ih=>
   intro i X hi hR;exact zt3 (n:=n+m+1) hfit (by omega) (by omega) (by omega) hR (fun X' hX'=>ih (i+1) X' (by omega) hX')
theorem zt6 {sq:Int}(hw:C.wk=17)(hq:sq≤C.ro):cFitB C (ackM sq)=true:=by
 unfold cFitB ackM;simp[hw,hq]
theorem zt7 (hw:C.wk=18):cFitB C (okM 18 0 0 false)=true:=by
 unfold cFitB okM;simp[hw]
theorem zt8 (hn:C.nd=5)(hcb:C.b=b)(ha:(btotal b:Int)≤ C.at_):cRowsS C 16= { C with wk:=18 }∧ cRowsL C 16= [fq (bdeM (7 * (btotal b:Int) - b.length) (sum16L b))]:=by
 obtain⟨t1,t2,t3⟩:=zrz b;unfold cRowsS cRowsL;rw[hcb,if_pos ha,if_pos ha];exact⟨rfl,zs7 hn (zqq _ _ ⟨by omega,by omega⟩)⟩
theorem zt9 {h:Nat}(hn:C.nd=5)(hcb:C.b=b)(ha:C.at_=(h:Int))(hh:h < btotal b):cRowsS C 16= { C with ro:=((min 16 (btotal b - h):Nat):Int),wk:=17 }∧ cRowsL C 16=(crowT (btotal b) h b (min 16 (btotal b - h))).map fq:=by
 have e:cRowN C 16=((min 16 (btotal b - h):Nat):Int):=by unfold cRowN;rw[hcb,ha];omega
 unfold cRowsS cRowsL;rw[e,hcb,ha,if_neg (by omega),if_neg (by omega)];refine⟨rfl,?_⟩;unfold cSend cRowM;rw[e,hn,ha,hcb,ztv (zqv _ _ _ _ (by omega))]
 rfl
theorem zua (hp:PlcOk ix sub)(hfit:(b.length:Int)≤ mostE (entK L (locK L ix sub)))(hn:C.nd=5)(hw:C.wk=18)(hcd:C.data= [])(h1:X.nin=1541)(h2:X.nout=1413)(h3:X.sg.st=0)
 (h4:X.bk=⟨mostE (entK L (locK L ix sub)),(b.length:Int),1,0,0,0,2,ix,sub,padB b (btotal b),true⟩) :
 zr4 L 2 ⟨C,X,V,[fq (bdeM (7 * (btotal b:Int) - b.length) (sum16L b))]⟩ (zzl L V ix sub b):=by
 obtain⟨t1,t2,t3⟩:=zrz b;have hcan:canB (bdeM (7 * (btotal b:Int) - b.length) (sum16L b))=true:=zqq _ _ ⟨by omega,by omega⟩;have hms:MsOk (bdeM (7 * (btotal b:Int) - b.length) (sum16L b)):=⟨Nat.zero_le _,Nat.zero_le _,zok b⟩;have hst:X.bk.st=2:=by rw[h4]
 obtain⟨d1,_⟩:=zse (L:=L) (V:=V) (X:={ X with left:=50 }) (M:=bdeM (7 * (btotal b:Int) - b.length) (sum16L b)) (.inl rfl) h3;obtain⟨_,d2⟩:=zse (L:=L) (V:=V) (X:=X) (M:=bdeM (7 * (btotal b:Int) - b.length) (sum16L b)) (.inl rfl) h3;have hB:bendB X.bk (bdeM (7 * (btotal b:Int) - b.length) (sum16L b))=b:=by
  unfold bendB;rw[h4];show (padB b (btotal b)).take ((padB b (btotal b)).length - (7 * (btotal b:Int) - b.length).toNat)=b;rw[zrv,show 7 * btotal b - (7 * (btotal b:Int) - (b.length:Int)).toNat=b.length by omega];exact zry b _ t1
 have hc:becode X.bk (bdeM (7 * (btotal b:Int) - b.length) (sum16L b))=0:=by
  unfold becode;rw[hB,h4,if_neg (by rintro⟨_,h⟩;exact h rfl),if_neg (by rintro⟨_,h⟩;exact h rfl),if_neg (by show ¬mostE (entK L (locK L ix sub)) < (b.length:Int);omega)]
 have eS:brS L V X.bk (bdeM (7 * (btotal b:Int) - b.length) (sum16L b))= { X.bk with st:=3 }:=by
  rw[(zsp rfl hst).1];unfold bendS;rw[if_neg (by rw[hc];simp)]
 have eO:brO L V X.bk (bdeM (7 * (btotal b:Int) - b.length) (sum16L b))=⟨[],true,ix,sub,b⟩:=by
  rw[(zsp rfl hst).2];unfold bendO;rw[if_neg (by rw[hc];simp),hB,h4]
 have hw0:C.wk≠0:=by omega
 have hw21:C.wk≠21:=by omega
 obtain⟨hmn,hml⟩:=zsv L ix sub b;have hsg: ¬(X.sg.st=3):=by omega
 have hsg0:(answerS X.sg).st=0:=by unfold answerS;rw[if_neg hsg];exact h3
 refine .step (zsa h1 h2 hcan hms (.inl ⟨by omega,by show (7:Int) ∈ reqK;decide⟩) d1 (by rw[d2,eO])) ?_;rw[show brS L V ({ X with left:=50 }:SdoS).bk (bdeM (7 * (btotal b:Int) - b.length) (sum16L b))=_ from eS,List.nil_append];by_cases hm:mayC L ix sub b false=0
 · have hl:sdAL { X with bk:={ X.bk with st:=3 },left:=50 } (mayC L ix sub b false).toNat= [okM 18 0 0 false]:=by
    rw[hm];unfold sdAL answerL bAnswerL;rw[if_neg hsg,if_pos rfl]
    rfl
   rw[hl,zr5 zt0];refine .step (zsg hn hw0 zt0 (zs4 _ _ _ _) (.inl ⟨hw21,by show (18:Int) ∈ ansK;decide⟩) (by show ¬(18:Int)=1;decide) (zt7 hw) (C':=cEnd C 0 []) (by unfold cStepS;simp[okM]) (l:=[]) (by unfold cStepL;simp[okM])) ?_;exact .now ⟨rfl,hn,rfl,rfl,h1,h2,hsg0,rfl,⟨fun _=>hm,fun _=>rfl⟩,rfl⟩
 · have hcd0:(mayC L ix sub b false).toNat≠0:=by omega
   have hl:sdAL { X with bk:={ X.bk with st:=3 },left:=50 } (mayC L ix sub b false).toNat= [abM ix sub (mayC L ix sub b false).toNat]:=by
    unfold sdAL answerL bAnswerL;rw[if_neg hsg,if_pos rfl,if_pos hcd0,List.nil_append,h4]
   rw[hl,zr5 (zqj hp)];refine zr4.imp (P:=fun T=>zzl L V ix sub b T∧T.C.code=(mayC L ix sub b false).toNat) ?_ (fun T h=>h.1);refine zs0 hn hw0 hw21 hp ?_ ?_ ?_ ?_ hcd0 hm _ ?_
   · exact⟨h1,h2⟩
   · exact hsg0
   · rfl
   · omega
   · exact zsz hm
theorem zub (hp:PlcOk ix sub)(hfit:(b.length:Int)≤ mostE (entK L (locK L ix sub))) :
 ∀(m h:Nat) (C:CliS) (X:SdoS),btotal b - h≤m→h < btotal b→C.nd=5→C.wk=17→C.b=b→C.at_=(h:Int)→ C.ro=((min 16 (btotal b - h):Nat):Int)→ C.data= []→ InRow L ix sub b h 1 X→
  zr4 L (2 * m+2) ⟨C,X,V,(crowT (btotal b) h b (min 16 (btotal b - h))).map fq⟩ (zzl L V ix sub b):=by
 intro m
 induction m using Nat.strongRecOn with
 | _ m ih=>
   intro h C X hm hh hn hw hcb ha hro hcd hR;obtain⟨r,hr⟩:∃r,r=min 16 (btotal b - h):=⟨_,rfl⟩;rw[←hr] at hro ⊢;have h1:1≤r:=by omega
   have hw0:C.wk≠0:=by omega
   have hw21:C.wk≠21:=by omega
   have hcs:∀ {C':CliS} {l:List Frm},cRowsS { C with at_:=C.at_+((r:Nat):Int) } 16=C'→cRowsL { C with at_:=C.at_+((r:Nat):Int) } 16=l→ ∀X',tkStep L ⟨C,X',V,[fa (ackM ((r:Nat):Int))]⟩=⟨C',X',V,l⟩:=by
    intro C' l e1 e2 X'
    have:=zsg (L:=L) (V:=V) (X:=X') (r:=[]) hn hw0 (ztz (sq:=((r:Nat):Int)) ⟨by omega,by omega⟩) ⟨Nat.zero_le _,Nat.zero_le _,Nat.zero_le _⟩ (.inl ⟨hw21,by show (17:Int) ∈ ansK;decide⟩) (by show ¬(17:Int)=1;decide) (zt6 hw (by rw[hro];exact Int.le_refl _)) (C':=C') (by
     unfold cStepS;simp only[ackM];exact e1) (l:=l) (by
     unfold cStepL;simp only[ackM];exact e2)
    simpa using this
   refine zr4.mono (k:=(2 * m+2 - r)+(r - 1)+1) ?_ (by omega)
   have:=zt5 (C:=C) (V:=V) hfit hr hh (P:=zzl L V ix sub b) (n:=2 * m+2 - r) (fun X' k1 k2 k3 k4=>by
    by_cases he:h+r=btotal b
    · rw[if_pos he,he] at k4;obtain⟨e1,e2⟩:=zt8 (C:={ C with at_:=C.at_+((r:Nat):Int) }) hn hcb (by show (btotal b:Int)≤ C.at_+_;rw[ha];omega);refine zr4.mono (k:=2+1) (.step (hcs e1 e2 X') ?_) (by omega);exact zua hp hfit hn rfl hcd k1 k2 k3 k4
    · rw[if_neg he] at k4;obtain⟨e1,e2⟩:=zt9 (C:={ C with at_:=C.at_+((r:Nat):Int) }) (h:=h+r) hn hcb (by show C.at_+_=_;rw[ha];omega) (by omega);refine zr4.mono (k:=(2 * (m - r)+2)+1) (.step (hcs e1 e2 X') ?_) (by omega);exact ih (m - r) (by omega) (h+r) _ X' (by omega) (by omega) hn rfl hcb (by show C.at_+_=_;rw[ha];omega) rfl hcd ⟨k1,k2,k3,by rw[k4];rfl⟩) (r - 1) 0 X (by omega) hR
   exact this
theorem zuc (hw:C.wk=16)(hi:C.ix=ix)(hs:C.sub=sub):cFitB C (bokM ix sub)=true:=by
 unfold cFitB bokM;simp[hw,hi,hs]
theorem zud (hp:PlcOk ix sub)(hbl:b.length≤2000)(hn:C.nd=5)(hw:C.wk=16)(hi:C.ix=ix)(hs:C.sub=sub)(hcb:C.b=b)(ha:C.at_=0)(hcd:C.data= [])(hX:X.nin=1541∧X.nout=1413)(h1:X.sg.st=0)(h2:X.bk.st=0)(h3:X.bk.ha=0∧X.bk.ta=0∧X.bk.ro=0) :
 zr4 L 600 ⟨C,X,V,[fq (bdnM ix sub b.length)]⟩ (zzl L V ix sub b):=by
 obtain⟨t1,t2,t3⟩:=zrz b;have hcan:canB (bdnM ix sub b.length)=true:=zqp ix sub b.length ⟨hp.1.1,hp.1.2,hp.2.1,hp.2.2⟩;have hms:MsOk (bdnM ix sub b.length):=⟨by show b.length≤4294967295;omega,Nat.zero_le _,Nat.zero_le _⟩;have hkq:(X.bk.st≠1∧(bdnM ix sub b.length).kind ∈ reqK)∨ (X.bk.st=1∧(bdnM ix sub b.length).kind=21):= .inl ⟨by omega,by show (6:Int) ∈ reqK;decide⟩;obtain⟨d1,_⟩:=zsd (L:=L) (V:=V) (X:={ X with left:=50 }) (M:=bdnM ix sub b.length) (.inl rfl);obtain⟨_,d2⟩:=zsd (L:=L) (V:=V) (X:=X) (M:=bdnM ix sub b.length) (.inl rfl);have hrS:=(zsm (L:=L) (V:=V) (B:=X.bk) (M:=bdnM ix sub b.length) rfl).1
 have hrO:=(zsm (L:=L) (V:=V) (B:=X.bk) (M:=bdnM ix sub b.length) rfl).2;have hdc:bdcode L (bdnM ix sub b.length)=if smayC L ix sub=0 then fitsC (entK L (locK L ix sub)) b.length else smayC L ix sub:=by
  unfold bdcode;by_cases h:smayC L ix sub=0
  · rw[if_pos (show smayC L (bdnM ix sub b.length).ix (bdnM ix sub b.length).sub=0∧(bdnM ix sub b.length).sz=true from ⟨h,rfl⟩),if_pos h]
    rfl
  · rw[if_neg (fun hh=>h hh.1),if_neg h]
    rfl
 have hw0:C.wk≠0:=by omega
 have hw21:C.wk≠21:=by omega
 have hsn:=zsu L ix sub;have hsl:=zoq L ix sub;have hfn:=zsx (entK L (locK L ix sub)) b.length;have hfl:=zos (entK L (locK L ix sub)) b.length;have hdn:0≤bdcode L (bdnM ix sub b.length)∧ bdcode L (bdnM ix sub b.length)≤ 4294967295:=by
  rw[hdc];split<;>omega
 by_cases hd:bdcode L (bdnM ix sub b.length)=0
 · have hsm:smayC L ix sub=0∧fitsC (entK L (locK L ix sub)) b.length=0:=by
    rw[hdc] at hd;split at hd
    · rename_i h;exact⟨h,hd⟩
    · exact absurd hd (by assumption)
   have hmo:=(znl (entK L (locK L ix sub))).2;have hfit:(b.length:Int)≤ mostE (entK L (locK L ix sub)):=by
    have:=hsm.2
    unfold fitsC at this;split at this
    · omega
    · omega
   have eS:bdownS L (blkIdle X.bk) (bdnM ix sub b.length)=⟨mostE (entK L (locK L ix sub)),(b.length:Int),1,0,0,0,1,ix,sub,[],true⟩:=by
    unfold bdownS;rw[if_neg (by rw[hd];simp)];show (⟨_,_,1,X.bk.ha,X.bk.ta,X.bk.ro,1,_,_,_,_⟩:BlkS)=_;rw[h3.1,h3.2.1,h3.2.2]
    rfl
   have eO:bdownO L (bdnM ix sub b.length)=outM (bokM ix sub):=by
    unfold bdownO;rw[if_neg (by rw[hd];simp)]
    rfl
   refine zr4.mono (k:=(2 * 60+2)+1+1) ?_ (by omega);refine .step (zr9 hX.1 hX.2 hcan hms hkq d1 (by rw[d2,hrO,eO]) rfl) ?_;rw[show brS L V ({ X with left:=50 }:SdoS).bk (bdnM ix sub b.length)=_ from hrS,eS,List.nil_append,show frmL 1413 (outM (bokM ix sub)).ms= [fa (bokM ix sub)] from zr5 (zty hp)];obtain⟨e1,e2⟩:=zt9 (h:=0) hn hcb (by rw[ha];rfl) (by omega);refine .step (zsg hn hw0 (zty hp) ⟨Nat.zero_le _,Nat.zero_le _,Nat.zero_le _⟩ (.inl ⟨hw21,by show (16:Int) ∈ ansK;decide⟩) (by show ¬(16:Int)=1;decide) (zuc hw hi hs) (C':={ C with ro:=((min 16 (btotal b - 0):Nat):Int),wk:=17 }) (by
    unfold cStepS;simp only[bokM];exact e1) (l:=(crowT (btotal b) 0 b (min 16 (btotal b - 0))).map fq) (by
    unfold cStepL;simp only[bokM];exact e2)) ?_
   rw[List.nil_append];exact zub hp hfit 60 0 _ _ (by omega) (by omega) hn rfl hcb (by rw[ha];rfl) rfl hcd ⟨hX.1,hX.2,rfl,rfl⟩
 · have eS:bdownS L (blkIdle X.bk) (bdnM ix sub b.length)=blkIdle X.bk:=by
    unfold bdownS;rw[if_pos hd]
   have eO:bdownO L (bdnM ix sub b.length)=outM (abM ix sub (bdcode L (bdnM ix sub b.length)).toNat):=by
    unfold bdownO;rw[if_pos hd]
    rfl
   have hm:mayC L ix sub b false≠0:=by
    intro hm;by_cases hsm:smayC L ix sub=0
    · rw[zst hsm] at hm;rw[hdc,if_pos hsm] at hd;exact hd (zsy hm)
    · rw[zss hsm] at hm;exact hsm hm
   refine zr4.mono (k:=1+1) ?_ (by omega);refine .step (zr9 hX.1 hX.2 hcan hms hkq d1 (by rw[d2,hrO,eO]) rfl) ?_;rw[show brS L V ({ X with left:=50 }:SdoS).bk (bdnM ix sub b.length)=_ from hrS,eS,List.nil_append,show frmL 1413 (outM (abM ix sub (bdcode L (bdnM ix sub b.length)).toNat)).ms= [fa (abM ix sub (bdcode L (bdnM ix sub b.length)).toNat)] from zr5 (zqj hp)];refine zr4.imp (P:=fun T=>zzl L V ix sub b T∧T.C.code=(bdcode L (bdnM ix sub b.length)).toNat) ?_ (fun T h=>h.1);refine zs0 hn hw0 hw21 hp ?_ ?_ ?_ ?_ ?_ hm _ ?_
   · exact⟨hX.1,hX.2⟩
   · rfl
   · rfl
   · omega
   · omega
   · rfl
end
end
section
section
variable {L:List Ent} {V:List (List UInt8)} {X X':SdoS} {C C':CliS} {ix sub:Int} {B:List UInt8}
theorem zue {size:Nat}(hp:PlcOk ix sub):canB (bupM ix sub size)=true:=by
 obtain⟨⟨h1,h2⟩,h3,h4⟩:=hp;simp[canB,bupM,formI,rangeB,shapeB,sameB,onlyM,placedB,dataB,h1,h2,h3,h4]
theorem zuf {em:Int}{sum:Nat}(h:0≤em∧em≤7):canB (bendM em sum)=true:=by
 obtain⟨h1,h2⟩:=h;simp[canB,bendM,formI,rangeB,shapeB,sameB,onlyM,placedB,dataB,h1,h2]
theorem zug:canB busM=true:=by decide
theorem zuh:canB bueM=true:=by decide
theorem zui (S:BlkS)(h r:Nat)(hh:S.ha=(h:Int))(hr:browN S=((r:Nat):Int)):bgiveL S=crowT (btotal S.b) h S.b r:=by
 unfold bgiveL crowT;rw[hr,hh]
 rfl
structure InTake (B:List UInt8) (h i:Nat) (C:CliS):Prop where
 nd:C.nd=5
 wk:C.wk=21
 cb:C.b=padB B (h+i)
 ro:C.ro=(i:Int)
 ec:C.ec=true
 es:C.es=true
 en:C.en=B.length
theorem zuj {q:Int}{la:Bool}{d:List UInt8}(hw:C.wk=21):cFitB C (bsegM q la d)=true:=by
 unfold cFitB bsegM;simp[hw]
theorem zuk {q:Int}{la:Bool}{d:List UInt8}:cStepS C (bsegM q la d)=cTkS C (bsegM q la d)∧ cStepL C (bsegM q la d)=cTkL C (bsegM q la d):=by
 unfold cStepS cStepL;simp[bsegM]
theorem zul {h i r:Nat}(hr:i+1 < r)(h32:r≤32)(ht:h+r≤btotal B)(hT:InTake B h i C){P:Tk→Prop}{n:Nat}
 (hP:∀C',InTake B h (i+1) C'→zr4 L n ⟨C',X,V,((crowT (btotal B) h B r).drop (i+1)).map fa⟩ P):zr4 L (n+1) ⟨C,X,V,((crowT (btotal B) h B r).drop i).map fa⟩ P:=by
 have hla:decide ((h:Int)+(i:Int)+1=((btotal B:Nat):Int))=false:=decide_eq_false (by omega);rw[ztw (show i < r by omega),hla,List.map_cons];have hcan:canB (bsegM ((i:Int)+1) false (bpiece B (h+i)))=true:=zqt _ _ _ ⟨by omega,by omega⟩ (zru _ _);have hA:cTkA C (bsegM ((i:Int)+1) false (bpiece B (h+i)))= { C with b:=padB B (h+(i+1)),ro:=((i+1:Nat):Int) }:=by
  unfold cTkA;rw[if_pos (show (bsegM ((i:Int)+1) false (bpiece B (h+i))).sq=C.ro+1 by rw[hT.ro];rfl)];show ({ C with b:=C.b ++ bpiece B (h+i),ro:=C.ro+1,wk:=C.wk }:CliS)=_;rw[hT.cb,hT.ro]
  rfl
 have hcond:(bsegM ((i:Int)+1) false (bpiece B (h+i))).sq≠32∧(bsegM ((i:Int)+1) false (bpiece B (h+i))).la=false:=⟨by show (i:Int)+1≠32;omega,rfl⟩;have e1:cStepS C (bsegM ((i:Int)+1) false (bpiece B (h+i)))= { C with b:=padB B (h+(i+1)),ro:=((i+1:Nat):Int) }:=by
  rw[zuk.1];unfold cTkS;rw[if_pos hcond,hA]
 have e2:cStepL C (bsegM ((i:Int)+1) false (bpiece B (h+i)))= []:=by
  rw[zuk.2];unfold cTkL;rw[if_pos hcond]
 refine .step (zsg hT.nd (by have:=hT.wk;omega) hcan (zt2 _ _ _) (.inr ⟨hT.wk,rfl⟩) (by show ¬(21:Int)=1;decide) (zuj hT.wk) e1 e2) ?_;rw[List.append_nil];exact hP { C with b:=padB B (h+(i+1)),ro:=((i+1:Nat):Int) } ⟨hT.nd,hT.wk,rfl,rfl,hT.ec,hT.es,hT.en⟩
theorem zum {h r:Nat}(h1:1≤r)(hr:r=min 32 (btotal B - h))(hh:h < btotal B)(hT:InTake B h (r - 1) C){P:Tk→Prop}{n:Nat}
 (hP:∀C',C'.nd=5→C'.wk=(if h+r=btotal B then 20 else 21)→ C'.b=padB B (h+r)→ C'.ro=0→C'.ec=true→C'.es=true→C'.en=B.length→zr4 L n ⟨C',X,V,[fq (buaM ((r:Nat):Int))]⟩ P) :
 zr4 L (n+1) ⟨C,X,V,((crowT (btotal B) h B r).drop (r - 1)).map fa⟩ P:=by
 obtain⟨i,rfl⟩:∃i,r=i+1:=⟨r - 1,by omega⟩;obtain⟨la,hla⟩:∃la,la=decide ((h:Int)+(i:Int)+1=((btotal B:Nat):Int)):=⟨_,rfl⟩;rw[show i+1 - 1=i by omega] at hT ⊢;rw[ztw (show i < i+1 by omega),ztx,←hla,List.map_cons,List.map_nil];have hlt:la=true ↔ h+(i+1)=btotal B:=by rw[hla,decide_eq_true_iff];omega
 have hcan:canB (bsegM ((i:Int)+1) la (bpiece B (h+i)))=true:=zqt _ _ _ ⟨by omega,by omega⟩ (zru _ _);have hA:cTkA C (bsegM ((i:Int)+1) la (bpiece B (h+i)))= { C with b:=padB B (h+(i+1)),ro:=((i+1:Nat):Int),wk:=if la=true then 20 else 21 }:=by
  unfold cTkA;rw[if_pos (show (bsegM ((i:Int)+1) la (bpiece B (h+i))).sq=C.ro+1 by rw[hT.ro];rfl)];show ({ C with b:=C.b ++ bpiece B (h+i),ro:=C.ro+1,wk:=if la=true then 20 else C.wk }:CliS)=_;rw[hT.cb,hT.ro,hT.wk]
  rfl
 have hcond: ¬((bsegM ((i:Int)+1) la (bpiece B (h+i))).sq≠32∧(bsegM ((i:Int)+1) la (bpiece B (h+i))).la=false):=by
  rintro⟨k1,k2⟩;have k1:(i:Int)+1≠32:=k1;have k2:la=false:=k2
  have: ¬h+(i+1)=btotal B:=fun e=>by rw[hlt.2 e] at k2;cases k2
  omega
 have e1:cStepS C (bsegM ((i:Int)+1) la (bpiece B (h+i)))= { C with b:=padB B (h+(i+1)),ro:=0,wk:=if la=true then 20 else 21 }:=by
  rw[zuk.1];unfold cTkS;rw[if_neg hcond,hA]
 have e2:cStepL C (bsegM ((i:Int)+1) la (bpiece B (h+i)))= [fq (buaM ((i+1:Nat):Int))]:=by
  rw[zuk.2];unfold cTkL;rw[if_neg hcond,hA];exact zs7 (M:=buaM ((i+1:Nat):Int)) hT.nd (zqs _ ⟨by omega,by omega⟩)
 refine .step (zsg hT.nd (by have:=hT.wk;omega) hcan (zt2 _ _ _) (.inr ⟨hT.wk,rfl⟩) (by show ¬(21:Int)=1;decide) (zuj hT.wk) e1 e2) ?_;rw[List.nil_append];refine hP { C with b:=padB B (h+(i+1)),ro:=0,wk:=if la=true then 20 else 21 } hT.nd ?_ rfl rfl hT.ec hT.es hT.en;show (if la=true then (20:Int) else 21)=_;by_cases hq:h+(i+1)=btotal B
 · rw[if_pos hq,if_pos (hlt.2 hq)]
 · rw[if_neg hq,if_neg (fun e=>hq (hlt.1 e))]
theorem zun {h r:Nat}(hr:r=min 32 (btotal B - h))(hh:h < btotal B){P:Tk→Prop}{n:Nat}
 (hP:∀C',C'.nd=5→C'.wk=(if h+r=btotal B then 20 else 21)→ C'.b=padB B (h+r)→ C'.ro=0→C'.ec=true→C'.es=true→C'.en=B.length→zr4 L n ⟨C',X,V,[fq (buaM ((r:Nat):Int))]⟩ P) :
 ∀(m i:Nat) (C:CliS),i+m+1=r→InTake B h i C→zr4 L (n+m+1) ⟨C,X,V,((crowT (btotal B) h B r).drop i).map fa⟩ P:=by
 intro m
 induction m with
 | zero=>
   intro i C hi hT;obtain rfl:i=r - 1:=by omega
   exact zum (by omega) hr hh hT hP
 | succ m ih=>
   intro i C hi hT;exact zul (n:=n+m+1) (by omega) (by omega) (by omega) hT (fun C' hC'=>ih (i+1) C' (by omega) hC')
structure InGave (ix sub:Int) (B:List UInt8) (h r:Nat) (X:SdoS):Prop where
 nin:X.nin=1541
 nout:X.nout=1413
 sg:X.sg.st=0
 st:X.bk.st=5
 b:X.bk.b=B
 ha:X.bk.ha=(h:Int)
 ro:X.bk.ro=((r:Nat):Int)
 sm:X.bk.sm=true
theorem zuo (q:Int):MsOk (buaM q):=⟨Nat.zero_le _,Nat.zero_le _,Nat.zero_le _⟩
theorem zup {S:BlkS}{q:Int}(h:S.st=5):brS L V S (buaM q)=backS S (buaM q)∧ brO L V S (buaM q)=backO S (buaM q):=zsq rfl h
theorem zuq {em:Int}{sum:Nat}(hw:C.wk=20):cFitB C (bendM em sum)=true:=by
 unfold cFitB bendM;simp[hw]
theorem zur (hg:getC L ix sub=0)(hB:getB L V ix sub=B)(hn:C.nd=5)(hw:C.wk=20)(hcb:C.b=padB B (btotal B))(hec:C.ec=true)(hes:C.es=true)(hen:C.en=B.length)(h1:X.nin=1541)(h2:X.nout=1413)(h3:X.sg.st=0)(h4:X.bk.st=6) :
 zr4 L 2 ⟨C,X,V,[fa (bendM (7 * (btotal B:Int) - B.length) (sum16L B))]⟩ (zzm L V ix sub):=by
 obtain⟨t1,t2,t3⟩:=zrz B;have hcan:canB (bendM (7 * (btotal B:Int) - B.length) (sum16L B))=true:=zuf ⟨by omega,by omega⟩;have hBt:cLsB C (bendM (7 * (btotal B:Int) - B.length) (sum16L B))=B:=by
  unfold cLsB;show C.b.take (C.b.length - (7 * (btotal B:Int) - B.length).toNat)=B;rw[hcb,zrv,show 7 * btotal B - (7 * (btotal B:Int) - (B.length:Int)).toNat=B.length by omega];exact zry B _ t1
 have hc:cLsC C (bendM (7 * (btotal B:Int) - B.length) (sum16L B))=0:=by
  unfold cLsC;rw[hBt,if_neg (by rintro⟨_,h⟩;exact h rfl),if_neg];rintro (h | h)
  · have h:(C.b.length:Int) < 7 * (btotal B:Int) - B.length:=h;rw[hcb,zrv] at h;omega
  · have h:cSzB C ((C.b.length:Int) - (7 * (btotal B:Int) - B.length))=false:=h;unfold cSzB at h;rw[hes,hen,hcb,zrv] at h;simp at h;omega
 have e1:cStepS C (bendM (7 * (btotal B:Int) - B.length) (sum16L B))=cEnd C 0 B:=by
  unfold cStepS;simp only[bendM];show cLsS C (bendM (7 * (btotal B:Int) - B.length) (sum16L B))=_;unfold cLsS;rw[if_neg (by rw[hc];simp),hBt]
 have e2:cStepL C (bendM (7 * (btotal B:Int) - B.length) (sum16L B))= [fq bueM]:=by
  unfold cStepL;simp only[bendM];show cLsL C (bendM (7 * (btotal B:Int) - B.length) (sum16L B))=_;unfold cLsL;rw[if_neg (by rw[hc];simp)];exact zs7 hn zuh
 refine .step (zsg hn (by omega) hcan ⟨Nat.zero_le _,Nat.zero_le _,zok B⟩ (.inl ⟨by omega,by show (20:Int) ∈ ansK;decide⟩) (by show ¬(20:Int)=1;decide) (zuq hw) e1 e2) ?_;rw[List.nil_append];obtain⟨d1,_⟩:=zse (L:=L) (V:=V) (X:={ X with left:=50 }) (M:=bueM) (.inr (.inr (.inr (.inl rfl)))) h3;obtain⟨_,d2⟩:=zse (L:=L) (V:=V) (X:=X) (M:=bueM) (.inr (.inr (.inr (.inl rfl)))) h3;have eS:=(zsr (L:=L) (V:=V) (M:=bueM) rfl h4).1;have eO:=(zsr (L:=L) (V:=V) (M:=bueM) rfl h4).2;refine .step (zr9 h1 h2 zuh ⟨Nat.zero_le _,Nat.zero_le _,Nat.zero_le _⟩ (.inl ⟨by omega,by show (11:Int) ∈ reqK;decide⟩) d1 (by rw[d2,eO]) rfl) ?_
 rw[show brS L V ({ X with left:=50 }:SdoS).bk bueM=_ from eS];exact .now ⟨rfl,hn,rfl,h1,h2,h3,rfl,by rw[hg];rfl,hB.symm,rfl⟩
theorem zus (hg:getC L ix sub=0)(hB:getB L V ix sub=B) :
 ∀(m h:Nat) (C:CliS) (X:SdoS),btotal B - h≤m→h < btotal B→InTake B h 0 C→InGave ix sub B h (min 32 (btotal B - h)) X→
  zr4 L (2 * m+2) ⟨C,X,V,(crowT (btotal B) h B (min 32 (btotal B - h))).map fa⟩ (zzm L V ix sub):=by
 intro m
 induction m using Nat.strongRecOn with
 | _ m ih=>
   intro h C X hm hh hT hG;obtain⟨t1,t2,t3⟩:=zrz B;obtain⟨r,hr⟩:∃r,r=min 32 (btotal B - h):=⟨_,rfl⟩;rw[←hr] at hG ⊢;have h1:1≤r:=by omega
   refine zr4.mono (k:=(2 * m+2 - r)+(r - 1)+1) ?_ (by omega);have hbac:bacode X.bk (buaM ((r:Nat):Int))=0:=by
    unfold bacode;rw[if_neg (show ¬X.bk.ro < (buaM ((r:Nat):Int)).sq by rw[hG.ro];exact Int.lt_irrefl _),if_neg (show ¬(buaM ((r:Nat):Int)).bl=0 by show ¬(32:Int)=0;decide)]
   have hha:(backS1 X.bk (buaM ((r:Nat):Int))).ha=((h+r:Nat):Int):=by
    show X.bk.ha+((r:Nat):Int)=_;rw[hG.ha];omega
   obtain⟨d1,_⟩:=zse (L:=L) (V:=V) (X:={ X with left:=50 }) (M:=buaM ((r:Nat):Int)) (.inr (.inr (.inl rfl))) hG.sg;obtain⟨_,d2⟩:=zse (L:=L) (V:=V) (X:=X) (M:=buaM ((r:Nat):Int)) (.inr (.inr (.inl rfl))) hG.sg;obtain⟨r1,r2⟩:=zup (L:=L) (V:=V) (q:=((r:Nat):Int)) hG.st;have hcan:canB (buaM ((r:Nat):Int))=true:=zqs _ ⟨by omega,by omega⟩;have hkq:(X.bk.st≠1∧(buaM ((r:Nat):Int)).kind ∈ reqK)∨ (X.bk.st=1∧(buaM ((r:Nat):Int)).kind=21):= .inl ⟨by have:=hG.st;omega,by show (10:Int) ∈ reqK;decide⟩;exact zun hr hh (P:=zzm L V ix sub) (n:=2 * m+2 - r) (fun C' k1 k2 k3 k4 k5 k6 k7=>by
    by_cases he:h+r=btotal B
    · rw[if_pos he] at k2;rw[he] at k3;have eS:backS X.bk (buaM ((r:Nat):Int))= { backS1 X.bk (buaM ((r:Nat):Int)) with st:=6 }:=by
       unfold backS;rw[if_neg (by rw[hbac];simp),if_neg (by rw[hha,hG.b];omega)]
      have eO:backO X.bk (buaM ((r:Nat):Int))=outM (bendM (7 * (btotal B:Int) - B.length) (sum16L B)):=by
       unfold backO;rw[if_neg (by rw[hbac];simp),if_neg (by rw[hha,hG.b];omega),hG.b,if_pos hG.sm]
      refine zr4.mono (k:=2+1) (.step (zr9 hG.nin hG.nout hcan (zuo _) hkq d1 (by rw[d2,r2,eO]) rfl) ?_) (by omega);rw[show brS L V ({ X with left:=50 }:SdoS).bk (buaM ((r:Nat):Int))=_ from r1,eS,List.nil_append,show frmL 1413 (outM (bendM (7 * (btotal B:Int) - B.length) (sum16L B))).ms= [fa (bendM (7 * (btotal B:Int) - B.length) (sum16L B))] from zr5 (zuf ⟨by omega,by omega⟩)];exact zur hg hB k1 k2 k3 k5 k6 k7 hG.nin hG.nout hG.sg rfl
    · rw[if_neg he] at k2;have hrow:browN (backS1 X.bk (buaM ((r:Nat):Int)))=((min 32 (btotal B - (h+r)):Nat):Int):=by
       unfold browN;rw[hha,show (backS1 X.bk (buaM ((r:Nat):Int))).b=B from hG.b,show (backS1 X.bk (buaM ((r:Nat):Int))).ta=32 from rfl];omega
      have eS:backS X.bk (buaM ((r:Nat):Int))=bgiveS (backS1 X.bk (buaM ((r:Nat):Int))):=by
       unfold backS;rw[if_neg (by rw[hbac];simp),if_pos (by rw[hha,hG.b];omega)]
      have eO:backO X.bk (buaM ((r:Nat):Int))=outL (crowT (btotal B) (h+r) B (min 32 (btotal B - (h+r)))):=by
       unfold backO;rw[if_neg (by rw[hbac];simp),if_pos (by rw[hha,hG.b];omega),zui _ (h+r) _ hha hrow,show (backS1 X.bk (buaM ((r:Nat):Int))).b=B from hG.b]
      refine zr4.mono (k:=(2 * (m - r)+2)+1) (.step (zr9 hG.nin hG.nout hcan (zuo _) hkq d1 (by rw[d2,r2,eO]) rfl) ?_) (by omega);rw[show brS L V ({ X with left:=50 }:SdoS).bk (buaM ((r:Nat):Int))=_ from r1,eS,List.nil_append,show frmL 1413 (outL (crowT (btotal B) (h+r) B (min 32 (btotal B - (h+r))))).ms=(crowT (btotal B) (h+r) B (min 32 (btotal B - (h+r)))).map fa from ztv (zqv _ _ _ _ (by omega))];exact ih (m - r) (by omega) (h+r) C' _ (by omega) (by omega) ⟨k1,k2,k3,k4,k5,k6,k7⟩ ⟨hG.nin,hG.nout,hG.sg,rfl,hG.b,hha,hrow,hG.sm⟩) (r - 1) 0 C (by omega) hT
theorem zut {size:Nat}(hw:C.wk=19)(hi:C.ix=ix)(hs:C.sub=sub):cFitB C (bupM ix sub size)=true:=by
 unfold cFitB bupM;simp[hw,hi,hs]
theorem zuu (hp:PlcOk ix sub)(hbl:(getB L V ix sub).length≤256)(hn:C.nd=5)(hw:C.wk=19)(hi:C.ix=ix)(hs:C.sub=sub)(hcb:C.b= [])(hro:C.ro=0)(hX:X.nin=1541∧X.nout=1413)(h1:X.sg.st=0)(h2:X.bk.st=0) :
 zr4 L 600 ⟨C,X,V,[fq (buM ix sub)]⟩ (zzm L V ix sub):=by
 obtain⟨t1,t2,t3⟩:=zrz (getB L V ix sub);have hcan:canB (buM ix sub)=true:=zqr ix sub ⟨hp.1.1,hp.1.2,hp.2.1,hp.2.2⟩;have hms:MsOk (buM ix sub):=⟨Nat.zero_le _,Nat.zero_le _,Nat.zero_le _⟩;have hkq:(X.bk.st≠1∧(buM ix sub).kind ∈ reqK)∨ (X.bk.st=1∧(buM ix sub).kind=21):= .inl ⟨by omega,by show (8:Int) ∈ reqK;decide⟩;obtain⟨d1,_⟩:=zsd (L:=L) (V:=V) (X:={ X with left:=50 }) (M:=buM ix sub) (.inr rfl);obtain⟨_,d2⟩:=zsd (L:=L) (V:=V) (X:=X) (M:=buM ix sub) (.inr rfl);have hrS:=(zsn (L:=L) (V:=V) (B:=X.bk) (M:=buM ix sub) rfl).1;have hrO:=(zsn (L:=L) (V:=V) (B:=X.bk) (M:=buM ix sub) rfl).2;have hbu:bucode L (buM ix sub)=getC L ix sub:=by
  unfold bucode;rw[if_neg (show ¬(buM ix sub).bl=0 by show ¬(32:Int)=0;decide)]
  rfl
 have hw0:C.wk≠0:=by omega
 have hw21:C.wk≠21:=by omega
 by_cases hg:getC L ix sub=0
 · obtain⟨B,hB⟩:∃B,B=getB L V ix sub:=⟨_,rfl⟩;rw[←hB] at hbl t1 t2 t3;have eS:bupS L V (blkIdle X.bk) (buM ix sub)=⟨X.bk.mo,X.bk.sz,X.bk.nx,0,32,0,4,ix,sub,B,true⟩:=by
    unfold bupS;rw[if_neg (by rw[hbu,hg];simp),hB]
    rfl
   have eO:bupO L V (buM ix sub)=outM (bupM ix sub B.length):=by
    unfold bupO;rw[if_neg (by rw[hbu,hg];simp),hB]
    rfl
   refine zr4.mono (k:=(2 * 60+2)+1+1+1) ?_ (by omega);refine .step (zr9 hX.1 hX.2 hcan hms hkq d1 (by rw[d2,hrO,eO]) rfl) ?_;rw[show brS L V ({ X with left:=50 }:SdoS).bk (buM ix sub)=_ from hrS,eS,List.nil_append,show frmL 1413 (outM (bupM ix sub B.length)).ms= [fa (bupM ix sub B.length)] from zr5 (zue hp)];have e1:cStepS C (bupM ix sub B.length)= { cExp C (bupM ix sub B.length) with wk:=21 }:=by
    unfold cStepS;simp[bupM]
   have e2:cStepL C (bupM ix sub B.length)= [fq busM]:=by
    unfold cStepL;simp only[bupM];exact zs7 hn zug
   refine .step (zsg hn hw0 (zue hp) ⟨by show B.length≤4294967295;omega,Nat.zero_le _,Nat.zero_le _⟩ (.inl ⟨hw21,by show (19:Int) ∈ ansK;decide⟩) (by show ¬(19:Int)=1;decide) (zut hw hi hs) e1 e2) ?_;rw[List.nil_append];obtain⟨b1,_⟩:=zse (L:=L) (V:=V) (X:={ ({ ({ X with left:=50 }:SdoS) with sg:=segIdle ({ X with left:=50 }:SdoS).sg,bk:=⟨X.bk.mo,X.bk.sz,X.bk.nx,0,32,0,4,ix,sub,B,true⟩ }:SdoS) with left:=50 }) (M:=busM) (.inr (.inl rfl)) rfl;obtain⟨_,b2⟩:=zse (L:=L) (V:=V) (X:={ ({ X with left:=50 }:SdoS) with sg:=segIdle ({ X with left:=50 }:SdoS).sg,bk:=⟨X.bk.mo,X.bk.sz,X.bk.nx,0,32,0,4,ix,sub,B,true⟩ }) (M:=busM) (.inr (.inl rfl)) rfl
   have hrow:browN (⟨X.bk.mo,X.bk.sz,X.bk.nx,0,32,0,4,ix,sub,B,true⟩:BlkS)=((min 32 (btotal B - 0):Nat):Int):=by
    unfold browN;show min (32:Int) ((btotal B:Int) - 0)=_;omega
   have fS:brS L V (⟨X.bk.mo,X.bk.sz,X.bk.nx,0,32,0,4,ix,sub,B,true⟩:BlkS) busM=bgiveS ⟨X.bk.mo,X.bk.sz,X.bk.nx,0,32,0,4,ix,sub,B,true⟩:=by
    unfold brS;simp[busM]
   have fO:brO L V (⟨X.bk.mo,X.bk.sz,X.bk.nx,0,32,0,4,ix,sub,B,true⟩:BlkS) busM=outL (crowT (btotal B) 0 B (min 32 (btotal B - 0))):=by
    rw[←zui (⟨X.bk.mo,X.bk.sz,X.bk.nx,0,32,0,4,ix,sub,B,true⟩:BlkS) 0 _ rfl hrow];unfold brO;simp[busM]
   refine .step (zr9 hX.1 hX.2 zug ⟨Nat.zero_le _,Nat.zero_le _,Nat.zero_le _⟩ (.inl ⟨by show ¬(4:Int)=1;decide,by show (9:Int) ∈ reqK;decide⟩) b1 (by rw[b2,fO]) rfl) ?_;rw[List.nil_append,show frmL 1413 (outL (crowT (btotal B) 0 B (min 32 (btotal B - 0)))).ms=(crowT (btotal B) 0 B (min 32 (btotal B - 0))).map fa from ztv (zqv _ _ _ _ (by omega))];exact zus hg hB.symm 60 0 _ _ (by omega) (by omega) ⟨hn,rfl,hcb,hro,rfl,rfl,rfl⟩ ⟨hX.1,hX.2,rfl,by rw[fS];rfl,by rw[fS];rfl,by rw[fS];rfl,by rw[fS];exact hrow,by rw[fS];rfl⟩
 · have eS:bupS L V (blkIdle X.bk) (buM ix sub)=blkIdle X.bk:=by
    unfold bupS;rw[if_pos (by rw[hbu];exact hg)]
   have eO:bupO L V (buM ix sub)=outM (abM ix sub (getC L ix sub).toNat):=by
    unfold bupO;rw[if_pos (by rw[hbu];exact hg),hbu]
    rfl
   refine zr4.mono (k:=1+1) ?_ (by omega);refine .step (zr9 hX.1 hX.2 hcan hms hkq d1 (by rw[d2,hrO,eO]) rfl) ?_;rw[show brS L V ({ X with left:=50 }:SdoS).bk (buM ix sub)=_ from hrS,eS,List.nil_append,show frmL 1413 (outM (abM ix sub (getC L ix sub).toNat)).ms= [fa (abM ix sub (getC L ix sub).toNat)] from zr5 (zqj hp)];refine ztk hn hw0 hw21 hp ?_ ?_ ?_ hg
   · exact⟨hX.1,hX.2⟩
   · rfl
   · rfl
end
end
end Go.Proofs.YtkkpjbjmhaecjaaGreat
