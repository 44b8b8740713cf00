/- None -/
import Derived.Test.YtkkpjbjmhaecjaaGreatU34
import Derived.Test.YtkkpjbjmhaecjaaGreatU35
namespace Go.Proofs.YtkkpjbjmhaecjaaGreat
set_option linter.all false
set_option maxRecDepth 100000
set_option maxHeartbeats 4000000
section
open Go.RowKit
theorem zma (L:List Ent)(S:BlkS)(M:Ms)(r:Int):bdownS L (blkIdle { S with ro:=r }) M= { bdownS L (blkIdle S) M with ro:=r }:=by
 unfold bdownS;split<;>rfl
theorem up_ro (L:List Ent)(V:List (List UInt8))(S:BlkS)(M:Ms)(r:Int):rbUpS L V (blkIdle { S with ro:=r }) M= { bupS L V (blkIdle S) M with ro:=r }:=by
 unfold bupS rbUpS;split<;>rfl
theorem zmb (S:BlkS)(M:Ms)(r:Int):bpartS { S with ro:=r } M= { bpartS S M with ro:=r }∧ bpartO { S with ro:=r } M=bpartO S M∧(bpartS S M).st≠5∨S.st=5:=by
 by_cases h5:S.st=5
 · exact .inr h5
 refine .inl ⟨?_,?_,?_⟩
 · have hc:bpcode { S with ro:=r } M=bpcode S M:=rfl;have ht:btake { S with ro:=r } M= { btake S M with ro:=r }:=by unfold btake;(repeat' split)<;> first | rfl | contradiction
   unfold bpartS;rw[hc,ht]
   (repeat' split)<;> rfl
 · have hc:bpcode { S with ro:=r } M=bpcode S M:=rfl;have ht:(btake { S with ro:=r } M).nx=(btake S M).nx:=by unfold btake;(repeat' split)<;> first | rfl | contradiction
   unfold bpartO;rw[hc,ht]
   rfl
 · have ht:(btake S M).st≠5:=by
    unfold btake;split
    · show (if M.la=true then (2:Int) else 1)≠ 5;split<;>decide
    · exact h5
   unfold bpartS
   (repeat' split)<;> first | exact ht | decide | (show (0:Int)≠ 5;decide)
theorem zmc (S:BlkS)(M:Ms)(r:Int):bendS { S with ro:=r } M= { bendS S M with ro:=r }∧ bendO { S with ro:=r } M=bendO S M∧(bendS S M).st≠5:=by
 have hc:becode { S with ro:=r } M=becode S M:=rfl;refine⟨?_,?_,?_⟩
 · unfold bendS;rw[hc];split<;>rfl
 · unfold bendO;rw[hc]
   rfl
 · unfold bendS;split<;>(first | (show (0:Int)≠ 5;decide) | (show (3:Int)≠ 5;decide))
section
variable {F:Nat→Prop} {pd n cl cv:Nat} {Al Av:Option Addr} {L:List Ent} {V:List (List UInt8)} {ds es:List (Option Addr×Nat)}
theorem zmd (p:Nat)(S:BlkS)(G:Nat→Prop)(M:Ms)(A3:Option Addr)(m3 c3:Nat)(w:World)(hD:DB 106 w F pd Al n cl Av cv L V ds es)(hn:n≤1000)(hv:∀v ∈ V,v.length≤256)(hp: ¬F p)(hS:RBS w G p pd S)(hw:BWf S)(h2:S.st=2→7≤S.b.length)(hsz: -1≤S.sz)(h06:0≤S.st∧S.st≤6)(hMO:BMOk M)(hem:M.em≤7)
 (hm:m3=M.data.length) (hm1:m3≤100000) (hs:∀W,zbv (fun q=>q=p) w W→Sl W A3 (M.data.map bv)) :
 Calls Tryz.prog 48 #[.pointer (some ⟨p,0,none⟩),.agg (msV M A3 m3 c3)] w (RBOS w G p pd (brS L V S M) (brO L V S M)):=by
 obtain⟨r,hr,hV⟩:=hS;have hw':BWf { S with ro:=r }:=⟨hw.mo,hw.nx,hw.b12,hw.b4,fun h5=>by have:=hr h5;subst this;exact hw.b5 h5⟩;by_cases k1:M.kind=1
 · have e1:brS L V S M=blkIdle S:=by unfold brS;rw[if_pos k1]
   have e2:brO L V S M=outZ:=by unfold brO;rw[if_pos k1]
   rw[e1,e2];exact (zlq p { S with ro:=r } G M A3 m3 c3 w k1 hV).mono fun e w' h=>zlp h rfl (fun h=>absurd h (show ¬(0:Int)=5 by decide))
 by_cases k6:M.kind=6
 · have e1:brS L V S M=bdownS L (blkIdle S) M:=by unfold brS;rw[if_neg k1,if_pos k6]
   have e2:brO L V S M=bdownO L M:=by unfold brO;rw[if_neg k1,if_pos k6]
   rw[e1,e2];refine (zlr p { S with ro:=r } G M A3 m3 c3 w hD hn hv hp hMO k6 hV).mono fun e w' h=>?_
   rw[zma] at h;refine zlp h rfl (fun h=>?_);unfold bdownS at h;split at h
   · exact absurd h (show ¬(0:Int)=5 by decide)
   · exact absurd h (show ¬(1:Int)=5 by decide)
 by_cases k8:M.kind=8
 · have e1:brS L V S M=bupS L V (blkIdle S) M:=by unfold brS;rw[if_neg k1,if_neg k6,if_pos k8]
   have e2:brO L V S M=bupO L V M:=by unfold brO;rw[if_neg k1,if_neg k6,if_pos k8]
   rw[e1,e2];refine (zls p { S with ro:=r } G M A3 m3 c3 w hD hn hv hp hMO k8 hV).mono fun e w' h=>?_
   rw[up_ro] at h;refine zlp h rfl (fun h=>?_);unfold bupS at h;split at h
   · exact absurd h (show ¬(0:Int)=5 by decide)
   · exact absurd h (show ¬(4:Int)=5 by decide)
 by_cases h03:S.st=0∨S.st=3
 · have e1:brS L V S M=blkIdle S:=by unfold brS;rw[if_neg k1,if_neg k6,if_neg k8,if_pos h03]
   have e2:brO L V S M=outM (abM 0 0 84148225):=by unfold brO;rw[if_neg k1,if_neg k6,if_neg k8,if_pos h03]
   rw[e1,e2];rcases h03 with h0 | h3
   · refine (zly p { S with ro:=r } G M A3 m3 c3 w k1 k6 k8 h0 hV).mono fun e w' h=>zlp h ?_ (fun h=>absurd h (show ¬(0:Int)=5 by decide))
     rw[zl5 h0]
   · exact (zlz p { S with ro:=r } G M A3 m3 c3 w k1 k6 k8 h3 hV).mono fun e w' h=>zlp h rfl (fun h=>absurd h (show ¬(0:Int)=5 by decide))
 have hb:∀X Y:BlkS,brS L V S M=(if M.kind=21∧S.st=1 then bpartS S M else if M.kind=7∧S.st=2 then bendS S M else if M.kind=9∧S.st=4 then bgiveS S else if M.kind=10∧S.st=5 then backS S M else blkIdle S):=fun _ _=>by unfold brS;rw[if_neg k1,if_neg k6,if_neg k8,if_neg h03]
 have ho:brO L V S M=(if M.kind=21∧S.st=1 then bpartO S M else if M.kind=7∧S.st=2 then bendO S M else if M.kind=9∧S.st=4 then outL (bgiveL S) else if M.kind=10∧S.st=5 then backO S M else if M.kind=11∧S.st=6 then outZ else outM (abM S.ix S.sub 84148225)):=by unfold brO;rw[if_neg k1,if_neg k6,if_neg k8,if_neg h03]
 rw[hb S S,ho];by_cases c21:M.kind=21∧S.st=1
 · rw[if_pos c21,if_pos c21];refine (zlt p { S with ro:=r } G M A3 m3 c3 w c21.1 c21.2 hw' hMO hm hm1 hs hV).mono fun e w' h=>?_
   rcases zmb S M r with ⟨e1,e2,e3⟩ | h5
   · rw[e1,e2] at h;exact zlp h rfl (fun h=>absurd h e3)
   · have:=c21.2;omega
 rw[if_neg c21,if_neg c21];by_cases c7:M.kind=7∧S.st=2
 · rw[if_pos c7,if_pos c7];refine (zlu p { S with ro:=r } G M A3 m3 c3 w c7.1 c7.2 hw' hMO (by have:=h2 c7.2;show M.em≤(S.b.length:Int);omega) hsz hV).mono fun e w' h=>?_
   obtain⟨e1,e2,e3⟩:=zmc S M r;rw[e1,e2] at h;exact zlp h rfl (fun h=>absurd h e3)
 rw[if_neg c7,if_neg c7];by_cases c9:M.kind=9∧S.st=4
 · rw[if_pos c9,if_pos c9];exact (zlv p { S with ro:=r } G M A3 m3 c3 w c9.1 c9.2 hw' hV).mono fun e w' h=>zlp h rfl (fun _=>rfl)
 rw[if_neg c9,if_neg c9];by_cases c10:M.kind=10∧S.st=5
 · rw[if_pos c10,if_pos c10];have e:=hr c10.2;subst e;exact (zlw p { S with ro:=S.ro } G M A3 m3 c3 w c10.1 c10.2 hw' hMO hV).mono fun e w' h=>zlp h rfl (fun _=>rfl)
 rw[if_neg c10,if_neg c10];by_cases c11:M.kind=11∧S.st=6
 · rw[if_pos c11];exact (zlx p { S with ro:=r } G M A3 m3 c3 w c11.1 c11.2 hV).mono fun e w' h=>zlp h rfl (fun h=>absurd h (show ¬(0:Int)=5 by decide))
 rw[if_neg c11];have hend:∀e w',RBO w G p pd (blkIdle { S with ro:=r }) (outM (abM S.ix S.sub 84148225)) e w'→RBOS w G p pd (blkIdle S) (outM (abM S.ix S.sub 84148225)) e w':=fun e w' h=>zlp h rfl (fun h=>absurd h (show ¬(0:Int)=5 by decide))
 by_cases s1:S.st=1
 · exact (zl0 p { S with ro:=r } G M A3 m3 c3 w k1 k6 k8 s1 (fun h=>c21 ⟨h,s1⟩) hV).mono hend
 by_cases s2:S.st=2
 · exact (zl1 p { S with ro:=r } G M A3 m3 c3 w k1 k6 k8 s2 (fun h=>c7 ⟨h,s2⟩) hV).mono hend
 by_cases s4:S.st=4
 · exact (zl2 p { S with ro:=r } G M A3 m3 c3 w k1 k6 k8 s4 (fun h=>c9 ⟨h,s4⟩) hV).mono hend
 by_cases s5:S.st=5
 · exact (zl3 p { S with ro:=r } G M A3 m3 c3 w k1 k6 k8 s5 (fun h=>c10 ⟨h,s5⟩) hV).mono hend
 by_cases s6:S.st=6
 · exact (zl4 p { S with ro:=r } G M A3 m3 c3 w k1 k6 k8 s6 (fun h=>c11 ⟨h,s6⟩) hV).mono hend
 omega
end
end
section
open Go.RowKit
theorem zme (p pd:Nat)(mo szz nx ha ta ro six ssub:Int)(b:List UInt8)(sm:Bool)(G:Nat→Prop)(ix sub:Int)(tg la cr sz:Bool)(size code:Nat)(data:List UInt8)(sq bl em:Int)(sum:Nat)(A3:Option Addr)(m3 c3:Nat)(w:World)(hS:BV_ w G p pd (⟨mo,szz,nx,ha,ta,ro,5,six,ssub,b,sm⟩:BlkS))(cd:Nat)(hcd:Hid (cd=if ro < sq then 84148227 else 84148226))(hno:ro < sq∨bl=0) :
 Calls Tryz.prog 36 #[.pointer (some ⟨p,0,none⟩),.agg (msV (⟨10,ix,sub,tg,la,cr,sz,size,code,data,sq,bl,em,sum⟩:Ms) A3 m3 c3)] w (BOutR w G p pd (blkIdle (⟨mo,szz,nx,ha,ta,ro,5,six,ssub,b,sm⟩:BlkS)) (outM (abM six ssub cd))):=by
 obtain⟨P,hP⟩:∃P,P=BOutR w G p pd (blkIdle (⟨mo,szz,nx,ha,ta,ro,5,six,ssub,b,sm⟩:BlkS)) (outM (abM six ssub cd)):=⟨_,rfl⟩;rw[←hP];have HP:=zak hP;obtain⟨A,n1,c1,hB,_⟩:=id hS;have hz:=hB.lt;have hne1:p≠w.heap.size+1:=by omega
 have hne0:w.heap.size≠p:=by omega
 have HX:=zak (zi4 (S:=(⟨mo,szz,nx,ha,ta,ro,5,six,ssub,b,sm⟩:BlkS)) (pd:=pd) (A:=A) (n1:=n1) (c1:=c1) (⟨10,ix,sub,tg,la,cr,sz,size,code,data,sq,bl,em,sum⟩:Ms) A3 m3 c3 hB);have HB0:=zak (za7 (za7 (Below.refl w.heap.size w) (.cells (msV (⟨10,ix,sub,tg,la,cr,sz,size,code,data,sq,bl,em,sum⟩:Ms) A3 m3 c3) 95)) (.cells (outV none 0 0 outZ none 0 0) 93));have HS0:=zak hS;clear hP hS hB;unfold msV outV outZ at HX HB0;unfold msV;go_enter Tryz.func36,Tryz.ntmps36
 go_upto_region 1 with fail
 refine zb6 (P:=fun W=>BX w p pd (KMO w (⟨10,ix,sub,tg,la,cr,sz,size,code,data,sq,bl,em,sum⟩:Ms) A3 m3 c3) (⟨mo,szz,nx,ha,ta,ro,5,six,ssub,b,sm⟩:BlkS) A n1 c1 W∧Below w.heap.size w W) ⟨HX.out,HB0.out⟩ (fun W hW=>?_);clear HX HB0;obtain⟨hX,hbw⟩:=hW;have HX:=zak hX;have HBW:=zak hbw;have k1:=hX.msg;have bb:=hX.2.1;have zW:=bb.lt;have zk1:=k1.lt;have zo1:=hX.out.lt;unfold msV at k1;unfold bsrV at bb;dsimp only at bb k1;obtain⟨am,ai,aj,an,ah,ak,al,ao,ap,aq,aa,ab,ac,ae⟩:=zbd k1;have aD:=k1.frozen;obtain⟨ar,au,av,aw,ax,ay,az,aA,aB,aC,af,ag⟩:=zbc bb;have aE:=bb.frozen;clear hX hbw;go_wp2_with fail
 refine (ziq 10 _).mono ?_;rintro e w1 ⟨rfl,hw1⟩;subst hw1;rw[show (decide ((10:Int)=1∨(10:Int)=6∨(10:Int)=8))=false by decide];have HX2:=HX;go_wp2_with fail
 refine (zl9 p pd (⟨mo,szz,nx,ha,ta,ro,5,six,ssub,b,sm⟩:BlkS) (fun q=>G q∧q < w.heap.size) 10 ix sub tg la cr sz size code data sq bl em sum A3 m3 c3 _ (zjg HS0.out HBW.out) rfl cd hcd hno).mono ?_;rintro e w5 ⟨X,As,ns,cs,A5,n5,c5,rfl,h1,h2,h3,h4,h5⟩;unfold outV outM;dsimp only;clear am ai aj an ah ak al ao ap aq aa ab ac ae aD;clear ar au av aw ax ay az aA aB aC af ag aE;clear k1 bb;have F:=zjf (G:=G) (G':=(fun q=>G q∧q < w.heap.size)) HX2.out.2.2.2 HX2.out.1 hz HX2.out.out (fun q h=>⟨.inl h.1,by have:=h.2;omega⟩) h1 h2 h3 h4 h5;have k5:=zhe HX2.out.out h5 (fun e=>hne1 e.symm);have HF:=zak F;clear F h1 h2 h3 h4 h5
 unfold outV outZ at k5;obtain⟨ce,cf,cg,ck,cm⟩:=za9 k5;have dg:=k5.frozen;go_wp2_with fail
 obtain⟨F1,F2⟩:=HF.out;rw[←HP.out] at F2;unfold putO at F1 F2;refine zhr (O:=outM (abM six ssub cd)) rfl rfl rfl F1 ?_;exact F2
theorem zmf {w:World}{B g k:Nat}{t:TypeId}{cs:Array Value}(h:Blk w g t cs)(hk:cs.size=k)(hB:B≤g):Own w B t k (some ⟨g,0,none⟩) 1 1 cs.toList:=
 ⟨by simp[hk],.inr ⟨g,1,cs,rfl,hB,h,Nat.le_refl _,by decide,by simp[hk],by rw[Nat.one_mul,←hk,←Array.length_toList,List.take_length]⟩⟩
def MsG (w:World) (N:Nat) (X:Nat→Prop) (As:Option Addr) (ns cs:Nat) (l:List Ms) (ds:List (Option Addr×Nat)):Prop:=
 zdz w (fun g=>N≤g) As ns cs l ds∧ ∀d ∈ ds,FIn X d.1
theorem zmg (w:World)(N:Nat)(X:Nat→Prop):MsG w N X none 0 0 [] []:=⟨zdz.nil _ _,by intro d hd;simp at hd⟩
theorem zmh {w:World}{N g n c:Nat}{X:Nat→Prop}{M:Ms}{A:Option Addr}(hg:N≤g)(hB:Blk w g 95 (msV M A n c))(hO:zbs w N A n c M.data)(hX:FIn X A):MsG w N X (some ⟨g,0,none⟩) 1 1 [M] [(A,c)]:=by
 have hn:=hO.hn;subst hn;refine⟨⟨⟨rfl,rfl,?_,?_,?_⟩,List.pairwise_singleton _ _⟩,?_⟩
 · have h:=zmf hB (k:=14) rfl (Nat.zero_le _);show Own w 0 _ 14 _ 1 1 (msF M (A,c) ++ []);rw[List.append_nil];exact h
 · intro q hq;injection hq with hq
   injection hq with hq
   subst hq;exact hg
 · intro j v d hv hd;have hj:j=0:=by have:=(List.getElem?_eq_some_iff.1 hv).1;simp at this;exact this
   subst hj;simp at hv hd;subst hv;subst hd;exact⟨hO.mono (Nat.zero_le _),fun q hq=>(hO.own.fin q hq).1⟩
 · intro d hd;simp at hd;subst hd;exact hX
theorem zmi {w:World}{N:Nat}{X:Nat→Prop}{As:Option Addr}{ns cs:Nat}{l:List Ms}(h:MsR w N X As ns cs l):∃ds,MsG w N X As ns cs l ds:=by
 rcases h with ⟨rfl,rfl,rfl,rfl⟩ | ⟨M,g,A,n,c,rfl,rfl,rfl,rfl,h1,h2,h3,h4⟩
 · exact⟨[],zmg _ _ _⟩
 · exact⟨_,zmh h1 h2 h3 h4⟩
def BOutG (w:World) (G:Nat→Prop) (p pd:Nat) (S':BlkS) (O:SegO) (e:Ending) (w':World):Prop:=
 ∃X As ns cs ds A n c,e= .returned (.agg (outV As ns cs O A n c))∧ MsG w' w.heap.size X As ns cs O.ms ds∧zbs w' w.heap.size A n c O.b∧FIn X A∧BV_ w' (fun g=>(G g∨w.heap.size≤g)∧ ¬X g) p pd S'∧zbv (fun g=>g=p) w w'
theorem zmj {w w':World}{G:Nat→Prop}{p pd:Nat}{S':BlkS}{O:SegO}{e:Ending}(h:BOutR w G p pd S' O e w'):BOutG w G p pd S' O e w':=by
 obtain⟨X,As,ns,cs,A,n,c,h1,h2,h3⟩:=h;obtain⟨ds,h4⟩:=zmi h2;exact⟨X,As,ns,cs,ds,A,n,c,h1,h4,h3⟩
theorem zmk {w w':World}{G:Nat→Prop}{p pd:Nat}{S':BlkS}{l:List Ms}{e:Ending}(h:BOutF w (fun q=>G q∧q < w.heap.size) p pd S' l e w'):BOutG w G p pd S' (outL l) e w':=by
 obtain⟨As,ns,cs,ds,rfl,h2,h3,h4⟩:=h;refine⟨fun g=>w.heap.size≤g,As,ns,cs,ds,none,0,0,rfl,⟨h2,?_⟩,zbs.nil _ _,FIn.nil _,h3.keep (fun _ _ _=>rfl) (Nat.le_refl _) (fun q _ hq=>⟨.inl hq.1,by have:=hq.2;omega⟩),h4⟩;intro d hd;obtain⟨j,hj,rfl⟩:=List.getElem_of_mem hd;obtain⟨v,hv⟩:∃v,l[j]? =some v:=⟨l[j]'(by rw[←h2.1.hd];exact hj),List.getElem?_eq_getElem _⟩;exact (h2.1.data j v _ hv (List.getElem?_eq_getElem hj)).2
theorem zml {w:World}{G:Nat→Prop}{p pd:Nat}{S:BlkS}(h:BV_ w G p pd S):BV_ w (fun q=>G q∧q < w.heap.size) p pd S:=h.keep (fun _ _ _=>rfl) (Nat.le_refl _) (fun q hl hq=>⟨hq,hl⟩)
section
variable {F:Nat→Prop} {pd gl n cl cv:Nat} {Av:Option Addr} {L:List Ent} {V:List (List UInt8)} {ds es:List (Option Addr×Nat)}
theorem zmm (p:Nat)(S:BlkS)(G:Nat→Prop)(M:Ms)(A3:Option Addr)(m3 c3:Nat)(w:World)(hD:DB 100 w F pd (some ⟨gl,0,none⟩) n cl Av cv L V ds es)(hs:SortedE L)(hn:n≤1000)(hv:∀v ∈ V,v.length≤256)
 (hp: ¬F p) (hS:BV_ w G p pd S) (hI:BWf S) (hM:BMOk M) (hm:m3=M.data.length) (hm1:m3≤100000) (hMd:∀W,zbv (fun q=>q=p) w W→Sl W A3 (M.data.map bv)) :
 Calls Tryz.prog 36 #[.pointer (some ⟨p,0,none⟩),.agg (msV M A3 m3 c3)] w (BOutG w G p pd (brS L V S M) (brO L V S M)):=by
 obtain⟨kd,ix,sub,tg,la,cr,sz,size,code,data,sq,bl,em,sum⟩:=M;by_cases k1:kd=1
 · subst k1;exact (zl6 p pd S G ix sub tg la cr sz size code data sq bl em sum A3 m3 c3 w hS).mono fun e w' h=>zmj h
 by_cases k6:kd=6
 · subst k6;exact (zjh p S G ix sub tg la cr sz size code data sq bl em sum A3 m3 c3 w hD hs hn hp hS hM.size).mono fun e w' h=>zmj h
 by_cases k8:kd=8
 · subst k8;exact (zjs p S G ix sub tg la cr sz size code data sq bl em sum A3 m3 c3 w hD hs hn hv hp hS).mono fun e w' h=>zmj h
 by_cases h03:S.st=0∨S.st=3
 · have e1:brS L V S (⟨kd,ix,sub,tg,la,cr,sz,size,code,data,sq,bl,em,sum⟩:Ms)=blkIdle S:=by unfold brS;rw[if_neg k1,if_neg k6,if_neg k8,if_pos h03]
   have e2:brO L V S (⟨kd,ix,sub,tg,la,cr,sz,size,code,data,sq,bl,em,sum⟩:Ms)=outM (abM 0 0 84148225):=by unfold brO;rw[if_neg k1,if_neg k6,if_neg k8,if_pos h03]
   rw[e1,e2];exact (zl8 p pd S G kd ix sub tg la cr sz size code data sq bl em sum A3 m3 c3 w hS h03 k1 k6 k8).mono fun e w' h=>zmj h
 obtain⟨mo,szz,nx,ha,ta,ro,st,six,ssub,b,sm⟩:=S;by_cases c21:kd=21∧st=1
 · obtain⟨rfl,rfl⟩:=c21;have hb:(b.length:Int)≤ mo+7:=hI.b12 (.inl rfl);have hmo:0≤mo∧mo≤256:=hI.mo;have hnx:0≤nx∧nx≤100:=hI.nx;exact (zji p pd mo szz nx ha ta ro six ssub b sm G ix sub tg la cr sz size code data sq bl em sum A3 m3 c3 w hS (by omega) ⟨hnx.1,by omega⟩ ⟨hmo.1,by omega⟩ (zak hm) hm1 (zak hMd)).mono fun e w' h=>zmj h
 by_cases c7:kd=7∧st=2
 · obtain⟨rfl,rfl⟩:=c7;have hb:(b.length:Int)≤ mo+7:=hI.b12 (.inr rfl);have hmo:0≤mo∧mo≤256:=hI.mo;exact (zjj p pd mo szz nx ha ta ro six ssub b sm G ix sub tg la cr sz size code data sq bl em sum A3 m3 c3 w hS (by omega) hM.em).mono fun e w' h=>zmj h
 by_cases c9:kd=9∧st=4
 · obtain⟨rfl,rfl⟩:=c9;obtain⟨h1,h2,h3⟩:=hI.b4 rfl;obtain rfl:ha=((0:Nat):Int):=h1;have h2':b.length≤256:=h2;exact (zjt p pd mo szz nx ta ro six ssub b sm 0 (fun q=>G q∧q < w.heap.size) ix sub tg la cr sz size code data sq bl em sum A3 m3 c3 w (zml hS) (by omega) (zky b) h3).mono fun e w' h=>zmk h
 by_cases c10:kd=10∧st=5
 · obtain⟨rfl,rfl⟩:=c10;obtain⟨h1,h2,h3,h4⟩:=hI.b5 rfl;have h1:b.length≤256:=h1;have h2:0≤ha:=h2;have h3:ha < (btotal b:Int):=h3;have h4:ha+ro≤(btotal b:Int):=h4;obtain⟨hq0,hq1⟩:0≤sq∧sq≤1000:=hM.sq;have hbl:0≤bl∧bl≤1000:=hM.bl;have hbt:btotal b≤1000:=by unfold btotal;omega
   by_cases hno:ro < sq∨bl=0
   · have e1:brS L V (⟨mo,szz,nx,ha,ta,ro,5,six,ssub,b,sm⟩:BlkS) (⟨10,ix,sub,tg,la,cr,sz,size,code,data,sq,bl,em,sum⟩:Ms)=blkIdle (⟨mo,szz,nx,ha,ta,ro,5,six,ssub,b,sm⟩:BlkS):=by
      show backS _ _=_;unfold backS;rw[if_pos]
      · rfl
      · unfold bacode;dsimp only;split
        · decide
        · rw[if_pos (by omega)];decide
     have e2:brO L V (⟨mo,szz,nx,ha,ta,ro,5,six,ssub,b,sm⟩:BlkS) (⟨10,ix,sub,tg,la,cr,sz,size,code,data,sq,bl,em,sum⟩:Ms)=outM (abM six ssub (if ro < sq then 84148227 else 84148226)):=by
      show backO _ _=_;unfold backO bacode;dsimp only;by_cases hlt:ro < sq
      · rw[if_pos hlt,if_pos hlt];rfl
      · rw[if_neg hlt,if_neg hlt,if_pos (show bl=0 by omega)];rfl
     rw[e1,e2];exact (zme p pd mo szz nx ha ta ro six ssub b sm G ix sub tg la cr sz size code data sq bl em sum A3 m3 c3 w hS _ (zak rfl) hno).mono fun e w' h=>zmj h
   · have hbl0:bl≠0:=fun h=>hno (.inr h)
     have hqr:sq≤ro:=by omega
     obtain⟨q,rfl⟩:∃q:Nat,sq=(q:Int):=⟨sq.toNat,by omega⟩;obtain⟨h,rfl⟩:∃h:Nat,ha=(h:Int):=⟨ha.toNat,by omega⟩;have hcode:bacode (⟨mo,szz,nx,(h:Int),ta,ro,5,six,ssub,b,sm⟩:BlkS) (⟨10,ix,sub,tg,la,cr,sz,size,code,data,(q:Int),bl,em,sum⟩:Ms)=0:=by
      unfold bacode;dsimp only;rw[if_neg (by omega),if_neg hbl0]
     by_cases hlt:h+q < btotal b
     · have e1:brS L V (⟨mo,szz,nx,(h:Int),ta,ro,5,six,ssub,b,sm⟩:BlkS) (⟨10,ix,sub,tg,la,cr,sz,size,code,data,(q:Int),bl,em,sum⟩:Ms)=bgiveS (⟨mo,szz,nx,((h+q:Nat):Int),bl,ro,5,six,ssub,b,sm⟩:BlkS):=by
        show backS _ _=_;unfold backS;rw[if_neg (by rw[hcode];decide),if_pos (by show (h:Int)+(q:Int) < (btotal b:Int);omega)]
        rfl
       have e2:brO L V (⟨mo,szz,nx,(h:Int),ta,ro,5,six,ssub,b,sm⟩:BlkS) (⟨10,ix,sub,tg,la,cr,sz,size,code,data,(q:Int),bl,em,sum⟩:Ms)=outL (bgiveL (⟨mo,szz,nx,((h+q:Nat):Int),bl,ro,5,six,ssub,b,sm⟩:BlkS)):=by
        show backO _ _=_;unfold backO;rw[if_neg (by rw[hcode];decide),if_pos (by show (h:Int)+(q:Int) < (btotal b:Int);omega)]
        rfl
       rw[e1,e2];exact (zju p pd mo szz nx ta ro six ssub b sm h (fun q=>G q∧q < w.heap.size) ix sub tg la cr sz size code data (q:Int) bl em sum A3 m3 c3 w (zml hS) (by omega) q (zak rfl) hqr (zak hbl0) (by omega) (by omega) hbl (h+q) (zak rfl) hlt).mono fun e w' h=>zmk h
     · have e1:brS L V (⟨mo,szz,nx,(h:Int),ta,ro,5,six,ssub,b,sm⟩:BlkS) (⟨10,ix,sub,tg,la,cr,sz,size,code,data,(q:Int),bl,em,sum⟩:Ms)=(⟨mo,szz,nx,((h+q:Nat):Int),bl,ro,6,six,ssub,b,sm⟩:BlkS):=by
        show backS _ _=_;unfold backS;rw[if_neg (by rw[hcode];decide),if_neg (by show ¬(h:Int)+(q:Int) < (btotal b:Int);omega)]
        rfl
       have e2:brO L V (⟨mo,szz,nx,(h:Int),ta,ro,5,six,ssub,b,sm⟩:BlkS) (⟨10,ix,sub,tg,la,cr,sz,size,code,data,(q:Int),bl,em,sum⟩:Ms)=outM (bendM ((7 * btotal b - b.length:Nat):Int) (if sm=true then sum16L b else 0)):=by
        show backO _ _=_;unfold backO;rw[if_neg (by rw[hcode];decide),if_neg (by show ¬(h:Int)+(q:Int) < (btotal b:Int);omega)];dsimp only;rw[show (7 * (btotal b:Int) - (b.length:Int))=((7 * btotal b - b.length:Nat):Int) by unfold btotal;omega]
       rw[e1,e2];exact (zjv p pd mo szz nx ta ro six ssub b sm h G ix sub tg la cr sz size code data (q:Int) bl em sum A3 m3 c3 w hS (by omega) q (zak rfl) hqr (zak hbl0) (by omega) (by omega) hbl (h+q) (zak rfl) (zak (by omega)) _ (zak rfl) _ (zak rfl)).mono fun e w' h=>zmj h
 by_cases c11:kd=11∧st=6
 · obtain⟨rfl,rfl⟩:=c11;exact (zjw p pd mo szz nx ha ta ro six ssub b sm G ix sub tg la cr sz size code data sq bl em sum A3 m3 c3 w hS).mono fun e w' h=>zmj h
 have e1:brS L V (⟨mo,szz,nx,ha,ta,ro,st,six,ssub,b,sm⟩:BlkS) (⟨kd,ix,sub,tg,la,cr,sz,size,code,data,sq,bl,em,sum⟩:Ms)=blkIdle (⟨mo,szz,nx,ha,ta,ro,st,six,ssub,b,sm⟩:BlkS):=by
  unfold brS;rw[if_neg k1,if_neg k6,if_neg k8,if_neg h03,if_neg c21,if_neg c7,if_neg c9,if_neg c10]
 have e2:brO L V (⟨mo,szz,nx,ha,ta,ro,st,six,ssub,b,sm⟩:BlkS) (⟨kd,ix,sub,tg,la,cr,sz,size,code,data,sq,bl,em,sum⟩:Ms)=outM (abM six ssub 84148225):=by
  unfold brO;rw[if_neg k1,if_neg k6,if_neg k8,if_neg h03,if_neg c21,if_neg c7,if_neg c9,if_neg c10,if_neg c11]
 rw[e1,e2];exact (zl7 p pd (⟨mo,szz,nx,ha,ta,ro,st,six,ssub,b,sm⟩:BlkS) G kd ix sub tg la cr sz size code data sq bl em sum A3 m3 c3 w hS (fun h=>h03 (.inl h)) (fun h=>h03 (.inr h)) k1 k6 k8 ⟨c21,c7,c9,c10,c11⟩).mono fun e w' h=>zmj h
end
end
section
open Go.RowKit
set_option maxHeartbeats 4000000
end
end Go.Proofs.YtkkpjbjmhaecjaaGreat
