/- None -/
import Derived.Test.YtkkpjbjmhaecjaaGreatT30
namespace Go.Proofs.YtkkpjbjmhaecjaaGreat
set_option linter.all false
set_option maxRecDepth 100000
set_option maxHeartbeats 8000000
section
def brS (L:List Ent) (V:List (List UInt8)) (S:BlkS) (M:Ms):BlkS:=
 if M.kind=1 then blkIdle S else if M.kind=6 then bdownS L (blkIdle S) M else if M.kind=8 then bupS L V (blkIdle S) M else
 if S.st=0∨S.st=3 then blkIdle S else
 if M.kind=21∧S.st=1 then bpartS S M else if M.kind=7∧S.st=2 then bendS S M else if M.kind=9∧S.st=4 then bgiveS S else if M.kind=10∧S.st=5 then backS S M else blkIdle S
def brO (L:List Ent) (V:List (List UInt8)) (S:BlkS) (M:Ms):SegO:=
 if M.kind=1 then outZ else if M.kind=6 then bdownO L M else if M.kind=8 then bupO L V M else
 if S.st=0∨S.st=3 then outM (abM 0 0 84148225) else
 if M.kind=21∧S.st=1 then bpartO S M else if M.kind=7∧S.st=2 then bendO S M else if M.kind=9∧S.st=4 then outL (bgiveL S) else if M.kind=10∧S.st=5 then backO S M else
 if M.kind=11∧S.st=6 then outZ else outM (abM S.ix S.sub 84148225)
structure BWf (S:BlkS):Prop where
 mo:0≤S.mo∧S.mo≤256
 nx:0≤S.nx∧S.nx≤100
 b12:S.st=1∨S.st=2→(S.b.length:Int)≤ S.mo+7
 b4:S.st=4→S.ha=0∧S.b.length≤256∧0≤S.ta∧S.ta≤1000
 b5:S.st=5→S.b.length≤256∧0≤S.ha∧S.ha < btotal S.b∧S.ha+S.ro≤btotal S.b
structure BMOk (M:Ms):Prop where
 size:M.size≤4294967295
 em:0≤M.em∧M.em≤1000
 bl:0≤M.bl∧M.bl≤1000
 sq:0≤M.sq∧M.sq≤1000
theorem znl (E:Ent):0≤mostE E∧mostE E≤256:=by
 unfold mostE tySize
 (repeat' split)<;> omega
theorem znm {L:List Ent}{V:List (List UInt8)}(hv:∀v ∈ V,v.length≤256)(ix sub:Int):(getB L V ix sub).length≤256:=by
 unfold getB;split
 · unfold valK;rw[List.getD_eq_getElem?_getD];cases hx:V[locK L ix sub]? with
   | none=>simp
   | some v=>exact hv v (List.mem_of_getElem? hx)
 · simp
theorem znn (b:List UInt8):0 < btotal b:=by unfold btotal;omega
theorem BWf.idle {S S':BlkS}(h:BWf S)(h0:S'.st=0∨S'.st=3∨S'.st=6)(hm:S'.mo=S.mo)(hn:S'.nx=S.nx):BWf S':=
 ⟨by rw[hm];exact h.mo,by rw[hn];exact h.nx,fun h1=>by omega,fun h1=>by omega,fun h1=>by omega⟩
theorem bwf_z:BWf blkZ:=⟨by decide,by decide,by decide,by decide,by decide⟩
theorem zno {S:BlkS}(h:BWf S):BWf (blkIdle S):=h.idle (.inl rfl) rfl rfl
theorem znp {S:BlkS}(h:BWf S)(hb:S.b.length≤256)(h0:0≤S.ha)(ht:S.ha < btotal S.b):BWf (bgiveS S):=
 ⟨h.mo,h.nx,fun h1=>absurd h1 (show ¬((5:Int)=1∨(5:Int)=2) by decide),fun h1=>absurd h1 (show ¬((5:Int)=4) by decide),fun _=>⟨hb,h0,ht,by show S.ha+browN S≤btotal S.b;unfold browN;omega⟩⟩
theorem znq {L:List Ent}{V:List (List UInt8)}{S:BlkS}{M:Ms}(hv:∀v ∈ V,v.length≤256)(h:BWf S)(hM:BMOk M):BWf (brS L V S M):=by
 unfold brS;split
 · exact zno h
 split
 · unfold bdownS;split
   · exact zno h
   · exact⟨znl _,⟨show (0:Int)≤ 1 by decide,show (1:Int)≤ 100 by decide⟩,fun _=>by have:=(znl (entK L (locK L M.ix M.sub))).1;show ((([]:List UInt8)).length:Int)≤ mostE (entK L (locK L M.ix M.sub))+7;simp;omega,fun h1=>absurd h1 (show ¬((1:Int)=4) by decide),fun h1=>absurd h1 (show ¬((1:Int)=5) by decide)⟩
 split
 · unfold bupS;split
   · exact zno h
   · exact⟨h.mo,h.nx,fun h1=>absurd h1 (show ¬((4:Int)=1∨(4:Int)=2) by decide),fun _=>⟨rfl,znm hv _ _,hM.bl⟩,fun h1=>absurd h1 (show ¬((4:Int)=5) by decide)⟩
 split
 · exact zno h
 split
 · rename_i hk;have h1:=h.b12 (.inl hk.2);have hx:=h.nx;have hq:=hM.sq;unfold bpartS;split
   · exact h.idle (.inl rfl) rfl rfl
   rename_i h16;have hT:(btake S M).mo=S.mo∧(0≤(btake S M).nx∧(btake S M).nx≤100)∧ (bpcode S M=0→((btake S M).b.length:Int)≤ S.mo+7)∧ ((btake S M).st=1∨(btake S M).st=2):=by
    unfold btake;split
    · rename_i he;refine⟨rfl,⟨show 0≤S.nx+1 by omega,show S.nx+1≤100 by omega⟩,fun hc=>?_,?_⟩
      · show ((S.b ++ M.data).length:Int)≤ S.mo+7;unfold bpcode at hc;rw[if_neg h16] at hc;split at hc
        · omega
        · rename_i h4
          have: ¬S.mo+7 < ((S.b ++ M.data).length:Int):=fun h5=>h4 ⟨he,h5⟩
          omega
      · show (if M.la=true then (2:Int) else 1)=1∨(if M.la=true then (2:Int) else 1)=2;split
        · exact .inr rfl
        · exact .inl rfl
    · exact⟨rfl,hx,fun _=>h1,.inl hk.2⟩
   obtain⟨t1,t2,t3,t4⟩:=hT;have hmo:=h.mo;split
   · exact⟨by show 0≤(btake S M).mo∧(btake S M).mo≤256;rw[t1];exact hmo,t2,fun h9=>absurd h9 (show ¬((0:Int)=1∨(0:Int)=2) by decide),fun h9=>absurd h9 (show ¬((0:Int)=4) by decide),fun h9=>absurd h9 (show ¬((0:Int)=5) by decide)⟩
   rename_i hc;have hc:bpcode S M=0:=by omega
   split
   · exact⟨by rw[t1];exact hmo,t2,fun _=>by rw[t1];exact t3 hc,fun h9=>by omega,fun h9=>by omega⟩
   · exact⟨by show 0≤(btake S M).mo∧(btake S M).mo≤256;rw[t1];exact hmo,⟨show (0:Int)≤ 1 by decide,show (1:Int)≤ 100 by decide⟩,fun _=>by show ((btake S M).b.length:Int)≤ (btake S M).mo+7;rw[t1];exact t3 hc,fun h9=>by have:(btake S M).st=4:=h9;omega,fun h9=>by have:(btake S M).st=5:=h9;omega⟩
 split
 · unfold bendS;split
   · exact h.idle (.inl rfl) rfl rfl
   · exact h.idle (.inr (.inl rfl)) rfl rfl
 split
 · rename_i hk;have h4:=h.b4 hk.2;refine znp h h4.2.1 (by omega) ?_
   have:=znn S.b
   omega
 split
 · rename_i hk;have h5:=h.b5 hk.2;have hq:=hM.sq;unfold backS;split
   · exact h.idle (.inl rfl) rfl rfl
   split
   · rename_i hlt;have hha:(backS1 S M).ha=S.ha+M.sq:=rfl;have hbr:browN (backS1 S M)≤ (btotal S.b:Int) - (S.ha+M.sq):=by unfold browN backS1;dsimp only;omega
     exact⟨h.mo,h.nx,fun h9=>absurd h9 (show ¬((5:Int)=1∨(5:Int)=2) by decide),fun h9=>absurd h9 (show ¬((5:Int)=4) by decide),fun _=>⟨h5.1,show 0≤S.ha+M.sq by omega,hlt,show S.ha+M.sq+browN (backS1 S M)≤ btotal S.b by omega⟩⟩
   · exact h.idle (.inr (.inr rfl)) rfl rfl
 · exact zno h
end
section
open Go.RowKit
theorem znr (p pd:Nat)(mo szz nx ha ta ro six ssub:Int)(b:List UInt8)(sm:Bool)(G:Nat→Prop)(ix sub:Int)(tg la cr sz:Bool)(size code:Nat)(data:List UInt8)(sq bl em:Int)(sum:Nat)(A3:Option Addr)(m3 c3:Nat)(w:World)(hS:BV_ w G p pd (⟨mo,szz,nx,ha,ta,ro,5,six,ssub,b,sm⟩:BlkS))(cd:Nat)(hcd:Hid (cd=if ro < sq then 84148227 else 84148226))(hno:ro < sq∨bl=0) :
 Calls Tryz.prog 36 #[.pointer (some ⟨p,0,none⟩),.agg (msV (⟨10,ix,sub,tg,la,cr,sz,size,code,data,sq,bl,em,sum⟩:Ms) A3 m3 c3)] w (BOutR w G p pd (blkIdle (⟨mo,szz,nx,ha,ta,ro,5,six,ssub,b,sm⟩:BlkS)) (outM (abM six ssub cd))):=by
 obtain⟨P,hP⟩:∃P,P=BOutR w G p pd (blkIdle (⟨mo,szz,nx,ha,ta,ro,5,six,ssub,b,sm⟩:BlkS)) (outM (abM six ssub cd)):=⟨_,rfl⟩;rw[←hP];have HP:=zak hP;obtain⟨A,n1,c1,hB,_⟩:=id hS;have hz:=hB.lt;have hne1:p≠w.heap.size+1:=by omega
 have hne0:w.heap.size≠p:=by omega
 have HX:=zak (zmg (S:=(⟨mo,szz,nx,ha,ta,ro,5,six,ssub,b,sm⟩:BlkS)) (pd:=pd) (A:=A) (n1:=n1) (c1:=c1) (⟨10,ix,sub,tg,la,cr,sz,size,code,data,sq,bl,em,sum⟩:Ms) A3 m3 c3 hB);have HB0:=zak (zc5 (zc5 (Below.refl w.heap.size w) (.cells (msV (⟨10,ix,sub,tg,la,cr,sz,size,code,data,sq,bl,em,sum⟩:Ms) A3 m3 c3) 95)) (.cells (outV none 0 0 outZ none 0 0) 93));have HS0:=zak hS;clear hP hS hB;unfold msV outV outZ at HX HB0;unfold msV;go_enter Tryz.func36,Tryz.ntmps36
 go_upto_region 1 with fail
 refine zed (P:=fun W=>BX w p pd (KMO w (⟨10,ix,sub,tg,la,cr,sz,size,code,data,sq,bl,em,sum⟩:Ms) A3 m3 c3) (⟨mo,szz,nx,ha,ta,ro,5,six,ssub,b,sm⟩:BlkS) A n1 c1 W∧Below w.heap.size w W) ⟨HX.out,HB0.out⟩ (fun W hW=>?_);clear HX HB0;obtain⟨hX,hbw⟩:=hW;have HX:=zak hX;have HBW:=zak hbw;have k1:=hX.msg;have bb:=hX.2.1;have zW:=bb.lt;have zk1:=k1.lt;have zo1:=hX.out.lt;unfold msV at k1;unfold bsrV at bb;dsimp only at bb k1;obtain⟨ai,af,ag,am,ah,aj,an,ao,ap,aq,aa,ab,ac,ae⟩:=zde k1;have aM:=k1.frozen;obtain⟨ak,al,av,aw,ax,ay,az,aA,aK,aL,ar,au⟩:=zdd bb;have aN:=bb.frozen;clear hX hbw;go_wp2_with fail
 refine (zl8 10 _).mono ?_;rintro e w1 ⟨rfl,hw1⟩;subst hw1;rw[show (decide ((10:Int)=1∨(10:Int)=6∨(10:Int)=8))=false by decide];have HX2:=HX;go_wp2_with fail
 refine (znk p pd (⟨mo,szz,nx,ha,ta,ro,5,six,ssub,b,sm⟩:BlkS) (fun q=>G q∧q < w.heap.size) 10 ix sub tg la cr sz size code data sq bl em sum A3 m3 c3 _ (zms HS0.out HBW.out) rfl cd hcd hno).mono ?_;rintro e w5 ⟨X,As,ns,cs,A5,n5,c5,rfl,h1,h2,h3,h4,h5⟩;unfold outV outM;dsimp only;clear ai af ag am ah aj an ao ap aq aa ab ac ae aM;clear ak al av aw ax ay az aA aK aL ar au aN;clear k1 bb;have F:=zmr (G:=G) (G':=(fun q=>G q∧q < w.heap.size)) HX2.out.2.2.2 HX2.out.1 hz HX2.out.out (fun q h=>⟨.inl h.1,by have:=h.2;omega⟩) h1 h2 h3 h4 h5;have k5:=zjo HX2.out.out h5 (fun e=>hne1 e.symm);have HF:=zak F;clear F h1 h2 h3 h4 h5
 unfold outV outZ at k5;obtain⟨bB,bC,bD,bU,bV⟩:=zc9 k5;have cE:=k5.frozen;go_wp2_with fail
 obtain⟨F1,F2⟩:=HF.out;rw[←HP.out] at F2;unfold putO at F1 F2;refine zj2 (O:=outM (abM six ssub cd)) rfl rfl rfl F1 ?_;exact F2
theorem zns {w:World}{B g k:Nat}{t:TypeId}{cs:Array Value}(h:Blk w g t cs)(hk:cs.size=k)(hB:B≤g):Own w B t k (some ⟨g,0,none⟩) 1 1 cs.toList:=
 ⟨by simp[hk],.inr ⟨g,1,cs,rfl,hB,h,Nat.le_refl _,by decide,by simp[hk],by rw[Nat.one_mul,←hk,←Array.length_toList,List.take_length]⟩⟩
def MsG (w:World) (N:Nat) (X:Nat→Prop) (As:Option Addr) (ns cs:Nat) (l:List Ms) (ds:List (Option Addr×Nat)):Prop:=
 zgy w (fun g=>N≤g) As ns cs l ds∧ ∀d ∈ ds,FIn X d.1
theorem znt (w:World)(N:Nat)(X:Nat→Prop):MsG w N X none 0 0 [] []:=⟨zgy.nil _ _,by intro d hd;simp at hd⟩
theorem znu {w:World}{N g n c:Nat}{X:Nat→Prop}{M:Ms}{A:Option Addr}(hg:N≤g)(hB:Blk w g 95 (msV M A n c))(hO:zdv w N A n c M.data)(hX:FIn X A):MsG w N X (some ⟨g,0,none⟩) 1 1 [M] [(A,c)]:=by
 have hn:=hO.hn;subst hn;refine⟨⟨⟨rfl,rfl,?_,?_,?_⟩,List.pairwise_singleton _ _⟩,?_⟩
 · have h:=zns hB (k:=14) rfl (Nat.zero_le _);show Own w 0 _ 14 _ 1 1 (msF M (A,c) ++ []);rw[List.append_nil];exact h
 · intro q hq;injection hq with hq
   injection hq with hq
   subst hq;exact hg
 · intro j v d hv hd;have hj:j=0:=by have:=(List.getElem?_eq_some_iff.1 hv).1;simp at this;exact this
   subst hj;simp at hv hd;subst hv;subst hd;exact⟨hO.mono (Nat.zero_le _),fun q hq=>(hO.own.fin q hq).1⟩
 · intro d hd;simp at hd;subst hd;exact hX
theorem znv {w:World}{N:Nat}{X:Nat→Prop}{As:Option Addr}{ns cs:Nat}{l:List Ms}(h:MsR w N X As ns cs l):∃ds,MsG w N X As ns cs l ds:=by
 rcases h with ⟨rfl,rfl,rfl,rfl⟩ | ⟨M,g,A,n,c,rfl,rfl,rfl,rfl,h1,h2,h3,h4⟩
 · exact⟨[],znt _ _ _⟩
 · exact⟨_,znu h1 h2 h3 h4⟩
def BOutG (w:World) (G:Nat→Prop) (p pd:Nat) (S':BlkS) (O:SegO) (e:Ending) (w':World):Prop:=
 ∃X As ns cs ds A n c,e= .returned (.agg (outV As ns cs O A n c))∧ MsG w' w.heap.size X As ns cs O.ms ds∧zdv w' w.heap.size A n c O.b∧FIn X A∧BV_ w' (fun g=>(G g∨w.heap.size≤g)∧ ¬X g) p pd S'∧zd0 (fun g=>g=p) w w'
theorem znw {w w':World}{G:Nat→Prop}{p pd:Nat}{S':BlkS}{O:SegO}{e:Ending}(h:BOutR w G p pd S' O e w'):BOutG w G p pd S' O e w':=by
 obtain⟨X,As,ns,cs,A,n,c,h1,h2,h3⟩:=h;obtain⟨ds,h4⟩:=znv h2;exact⟨X,As,ns,cs,ds,A,n,c,h1,h4,h3⟩
theorem znx {w w':World}{G:Nat→Prop}{p pd:Nat}{S':BlkS}{l:List Ms}{e:Ending}(h:BOutF w (fun q=>G q∧q < w.heap.size) p pd S' l e w'):BOutG w G p pd S' (outL l) e w':=by
 obtain⟨As,ns,cs,ds,rfl,h2,h3,h4⟩:=h;refine⟨fun g=>w.heap.size≤g,As,ns,cs,ds,none,0,0,rfl,⟨h2,?_⟩,zdv.nil _ _,FIn.nil _,h3.keep (fun _ _ _=>rfl) (Nat.le_refl _) (fun q _ hq=>⟨.inl hq.1,by have:=hq.2;omega⟩),h4⟩;intro d hd;obtain⟨j,hj,rfl⟩:=List.getElem_of_mem hd;obtain⟨v,hv⟩:∃v,l[j]? =some v:=⟨l[j]'(by rw[←h2.1.hd];exact hj),List.getElem?_eq_getElem _⟩;exact (h2.1.data j v _ hv (List.getElem?_eq_getElem hj)).2
theorem zny {w:World}{G:Nat→Prop}{p pd:Nat}{S:BlkS}(h:BV_ w G p pd S):BV_ w (fun q=>G q∧q < w.heap.size) p pd S:=h.keep (fun _ _ _=>rfl) (Nat.le_refl _) (fun q hl hq=>⟨hq,hl⟩)
section
variable {F:Nat→Prop} {pd gl n cl cv:Nat} {Av:Option Addr} {L:List Ent} {V:List (List UInt8)} {ds es:List (Option Addr×Nat)}
theorem znz (p:Nat)(S:BlkS)(G:Nat→Prop)(M:Ms)(A3:Option Addr)(m3 c3:Nat)(w:World)(hD:DB 100 w F pd (some ⟨gl,0,none⟩) n cl Av cv L V ds es)(hs:SortedE L)(hn:n≤1000)(hv:∀v ∈ V,v.length≤256)
 (hp: ¬F p) (hS:BV_ w G p pd S) (hI:BWf S) (hM:BMOk M) (hm:m3=M.data.length) (hm1:m3≤100000) (hMd:∀W,zd0 (fun q=>q=p) w W→Sl W A3 (M.data.map bv)) :
 Calls Tryz.prog 36 #[.pointer (some ⟨p,0,none⟩),.agg (msV M A3 m3 c3)] w (BOutG w G p pd (brS L V S M) (brO L V S M)):=by
 obtain⟨kd,ix,sub,tg,la,cr,sz,size,code,data,sq,bl,em,sum⟩:=M;by_cases k1:kd=1
 · subst k1;exact (znh p pd S G ix sub tg la cr sz size code data sq bl em sum A3 m3 c3 w hS).mono fun e w' h=>znw h
 by_cases k6:kd=6
 · subst k6;exact (zmt p S G ix sub tg la cr sz size code data sq bl em sum A3 m3 c3 w hD hs hn hp hS hM.size).mono fun e w' h=>znw h
 by_cases k8:kd=8
 · subst k8;exact (zm5 p S G ix sub tg la cr sz size code data sq bl em sum A3 m3 c3 w hD hs hn hv hp hS).mono fun e w' h=>znw h
 by_cases h03:S.st=0∨S.st=3
 · have e1:brS L V S (⟨kd,ix,sub,tg,la,cr,sz,size,code,data,sq,bl,em,sum⟩:Ms)=blkIdle S:=by unfold brS;rw[if_neg k1,if_neg k6,if_neg k8,if_pos h03]
   have e2:brO L V S (⟨kd,ix,sub,tg,la,cr,sz,size,code,data,sq,bl,em,sum⟩:Ms)=outM (abM 0 0 84148225):=by unfold brO;rw[if_neg k1,if_neg k6,if_neg k8,if_pos h03]
   rw[e1,e2];exact (znj p pd S G kd ix sub tg la cr sz size code data sq bl em sum A3 m3 c3 w hS h03 k1 k6 k8).mono fun e w' h=>znw h
 obtain⟨mo,szz,nx,ha,ta,ro,st,six,ssub,b,sm⟩:=S;by_cases c21:kd=21∧st=1
 · obtain⟨rfl,rfl⟩:=c21;have hb:(b.length:Int)≤ mo+7:=hI.b12 (.inl rfl);have hmo:0≤mo∧mo≤256:=hI.mo;have hnx:0≤nx∧nx≤100:=hI.nx;exact (zmu p pd mo szz nx ha ta ro six ssub b sm G ix sub tg la cr sz size code data sq bl em sum A3 m3 c3 w hS (by omega) ⟨hnx.1,by omega⟩ ⟨hmo.1,by omega⟩ (zak hm) hm1 (zak hMd)).mono fun e w' h=>znw h
 by_cases c7:kd=7∧st=2
 · obtain⟨rfl,rfl⟩:=c7;have hb:(b.length:Int)≤ mo+7:=hI.b12 (.inr rfl);have hmo:0≤mo∧mo≤256:=hI.mo;exact (zmv p pd mo szz nx ha ta ro six ssub b sm G ix sub tg la cr sz size code data sq bl em sum A3 m3 c3 w hS (by omega) hM.em).mono fun e w' h=>znw h
 by_cases c9:kd=9∧st=4
 · obtain⟨rfl,rfl⟩:=c9;obtain⟨h1,h2,h3⟩:=hI.b4 rfl;obtain rfl:ha=((0:Nat):Int):=h1;have h2':b.length≤256:=h2;exact (zm6 p pd mo szz nx ta ro six ssub b sm 0 (fun q=>G q∧q < w.heap.size) ix sub tg la cr sz size code data sq bl em sum A3 m3 c3 w (zny hS) (by omega) (znn b) h3).mono fun e w' h=>znx h
 by_cases c10:kd=10∧st=5
 · obtain⟨rfl,rfl⟩:=c10;obtain⟨h1,h2,h3,h4⟩:=hI.b5 rfl;have h1:b.length≤256:=h1;have h2:0≤ha:=h2;have h3:ha < (btotal b:Int):=h3;have h4:ha+ro≤(btotal b:Int):=h4;obtain⟨hq0,hq1⟩:0≤sq∧sq≤1000:=hM.sq;have hbl:0≤bl∧bl≤1000:=hM.bl;have hbt:btotal b≤1000:=by unfold btotal;omega
   by_cases hno:ro < sq∨bl=0
   · have e1:brS L V (⟨mo,szz,nx,ha,ta,ro,5,six,ssub,b,sm⟩:BlkS) (⟨10,ix,sub,tg,la,cr,sz,size,code,data,sq,bl,em,sum⟩:Ms)=blkIdle (⟨mo,szz,nx,ha,ta,ro,5,six,ssub,b,sm⟩:BlkS):=by
      show backS _ _=_;unfold backS;rw[if_pos]
      · rfl
      · unfold bacode;dsimp only;split
        · decide
        · rw[if_pos (by omega)];decide
     have e2:brO L V (⟨mo,szz,nx,ha,ta,ro,5,six,ssub,b,sm⟩:BlkS) (⟨10,ix,sub,tg,la,cr,sz,size,code,data,sq,bl,em,sum⟩:Ms)=outM (abM six ssub (if ro < sq then 84148227 else 84148226)):=by
      show backO _ _=_;unfold backO bacode;dsimp only;by_cases hlt:ro < sq
      · rw[if_pos hlt,if_pos hlt];rfl
      · rw[if_neg hlt,if_neg hlt,if_pos (show bl=0 by omega)];rfl
     rw[e1,e2];exact (znr p pd mo szz nx ha ta ro six ssub b sm G ix sub tg la cr sz size code data sq bl em sum A3 m3 c3 w hS _ (zak rfl) hno).mono fun e w' h=>znw h
   · have hbl0:bl≠0:=fun h=>hno (.inr h)
     have hqr:sq≤ro:=by omega
     obtain⟨q,rfl⟩:∃q:Nat,sq=(q:Int):=⟨sq.toNat,by omega⟩;obtain⟨h,rfl⟩:∃h:Nat,ha=(h:Int):=⟨ha.toNat,by omega⟩;have hcode:bacode (⟨mo,szz,nx,(h:Int),ta,ro,5,six,ssub,b,sm⟩:BlkS) (⟨10,ix,sub,tg,la,cr,sz,size,code,data,(q:Int),bl,em,sum⟩:Ms)=0:=by
      unfold bacode;dsimp only;rw[if_neg (by omega),if_neg hbl0]
     by_cases hlt:h+q < btotal b
     · have e1:brS L V (⟨mo,szz,nx,(h:Int),ta,ro,5,six,ssub,b,sm⟩:BlkS) (⟨10,ix,sub,tg,la,cr,sz,size,code,data,(q:Int),bl,em,sum⟩:Ms)=bgiveS (⟨mo,szz,nx,((h+q:Nat):Int),bl,ro,5,six,ssub,b,sm⟩:BlkS):=by
        show backS _ _=_;unfold backS;rw[if_neg (by rw[hcode];decide),if_pos (by show (h:Int)+(q:Int) < (btotal b:Int);omega)]
        rfl
       have e2:brO L V (⟨mo,szz,nx,(h:Int),ta,ro,5,six,ssub,b,sm⟩:BlkS) (⟨10,ix,sub,tg,la,cr,sz,size,code,data,(q:Int),bl,em,sum⟩:Ms)=outL (bgiveL (⟨mo,szz,nx,((h+q:Nat):Int),bl,ro,5,six,ssub,b,sm⟩:BlkS)):=by
        show backO _ _=_;unfold backO;rw[if_neg (by rw[hcode];decide),if_pos (by show (h:Int)+(q:Int) < (btotal b:Int);omega)]
        rfl
       rw[e1,e2];exact (zm7 p pd mo szz nx ta ro six ssub b sm h (fun q=>G q∧q < w.heap.size) ix sub tg la cr sz size code data (q:Int) bl em sum A3 m3 c3 w (zny hS) (by omega) q (zak rfl) hqr (zak hbl0) (by omega) (by omega) hbl (h+q) (zak rfl) hlt).mono fun e w' h=>znx h
     · have e1:brS L V (⟨mo,szz,nx,(h:Int),ta,ro,5,six,ssub,b,sm⟩:BlkS) (⟨10,ix,sub,tg,la,cr,sz,size,code,data,(q:Int),bl,em,sum⟩:Ms)=(⟨mo,szz,nx,((h+q:Nat):Int),bl,ro,6,six,ssub,b,sm⟩:BlkS):=by
        show backS _ _=_;unfold backS;rw[if_neg (by rw[hcode];decide),if_neg (by show ¬(h:Int)+(q:Int) < (btotal b:Int);omega)]
        rfl
       have e2:brO L V (⟨mo,szz,nx,(h:Int),ta,ro,5,six,ssub,b,sm⟩:BlkS) (⟨10,ix,sub,tg,la,cr,sz,size,code,data,(q:Int),bl,em,sum⟩:Ms)=outM (bendM ((7 * btotal b - b.length:Nat):Int) (if sm=true then sum16L b else 0)):=by
        show backO _ _=_;unfold backO;rw[if_neg (by rw[hcode];decide),if_neg (by show ¬(h:Int)+(q:Int) < (btotal b:Int);omega)];dsimp only;rw[show (7 * (btotal b:Int) - (b.length:Int))=((7 * btotal b - b.length:Nat):Int) by unfold btotal;omega]
       rw[e1,e2];exact (zm8 p pd mo szz nx ta ro six ssub b sm h G ix sub tg la cr sz size code data (q:Int) bl em sum A3 m3 c3 w hS (by omega) q (zak rfl) hqr (zak hbl0) (by omega) (by omega) hbl (h+q) (zak rfl) (zak (by omega)) _ (zak rfl) _ (zak rfl)).mono fun e w' h=>znw h
 by_cases c11:kd=11∧st=6
 · obtain⟨rfl,rfl⟩:=c11;exact (zm9 p pd mo szz nx ha ta ro six ssub b sm G ix sub tg la cr sz size code data sq bl em sum A3 m3 c3 w hS).mono fun e w' h=>znw h
 have e1:brS L V (⟨mo,szz,nx,ha,ta,ro,st,six,ssub,b,sm⟩:BlkS) (⟨kd,ix,sub,tg,la,cr,sz,size,code,data,sq,bl,em,sum⟩:Ms)=blkIdle (⟨mo,szz,nx,ha,ta,ro,st,six,ssub,b,sm⟩:BlkS):=by
  unfold brS;rw[if_neg k1,if_neg k6,if_neg k8,if_neg h03,if_neg c21,if_neg c7,if_neg c9,if_neg c10]
 have e2:brO L V (⟨mo,szz,nx,ha,ta,ro,st,six,ssub,b,sm⟩:BlkS) (⟨kd,ix,sub,tg,la,cr,sz,size,code,data,sq,bl,em,sum⟩:Ms)=outM (abM six ssub 84148225):=by
  unfold brO;rw[if_neg k1,if_neg k6,if_neg k8,if_neg h03,if_neg c21,if_neg c7,if_neg c9,if_neg c10,if_neg c11]
 rw[e1,e2];exact (zni p pd (⟨mo,szz,nx,ha,ta,ro,st,six,ssub,b,sm⟩:BlkS) G kd ix sub tg la cr sz size code data sq bl em sum A3 m3 c3 w hS (fun h=>h03 (.inl h)) (fun h=>h03 (.inr h)) k1 k6 k8 ⟨c21,c7,c9,c10,c11⟩).mono fun e w' h=>znw h
end
end
section
open Go.RowKit Go.Maps
def CallG (w:World) (V:World→Prop) (F:Nat→Prop) (l:List Ms) (e:Ending) (w':World):Prop:=
 ∃As ns cs ds,e= .returned (.slice As ns cs)∧ MsG w' w.heap.size (fun _=>False) As ns cs l ds∧V w'∧zd0 F w w'
section
variable {w w':World} {G H:Nat→Prop} {p ps pb pd:Nat} {X:SdoS}
theorem DV.seg_ (h:DV w G p ps pb pd X){sg':SegS}(hS:SV_ w' G ps pd sg')(ho:zd0 (fun q=>q=ps) w w'):DV w' G p ps pb pd { X with sg:=sg' }:=
 ⟨(ho.block p h.lt.1 h.ne.1).trans h.blk,hS,h.bkv.keep (fun q hq hl=>ho.block q hl (by rcases hq with rfl | hq;exact fun e=>h.ne.2.2 e.symm;exact fun e=>h.ng.2.1 (e ▸ hq))) ho.size (fun _ _ g=>g),h.ne,h.ng⟩
theorem DV.bk_ (h:DV w G p ps pb pd X){bk':BlkS}(hS:BV_ w' G pb pd bk')(ho:zd0 (fun q=>q=pb) w w'):DV w' G p ps pb pd { X with bk:=bk' }:=
 ⟨(ho.block p h.lt.1 h.ne.2.1).trans h.blk,h.seg.kept (fun q hq hl=>ho.block q hl (by rcases hq with rfl | hq;exact h.ne.2.2;exact fun e=>h.ng.2.2 (e ▸ hq))) ho.size (fun _ _ g=>g),hS,h.ne,h.ng⟩
theorem DV.left_ (h:DV w G p ps pb pd X)(k:Int):DV (w.setCell ⟨p,4,none⟩ (.int .i64 k)) G p ps pb pd { X with left:=k }:=by
 have ho:zd0 (fun q=>q=p) w (w.setCell ⟨p,4,none⟩ (.int .i64 k)):=zd0.of_set (F:=fun q=>q=p) rfl _;exact⟨h.blk.set_ 4 (.int .i64 k),h.seg.kept (fun q hq hl=>ho.block q hl (by rcases hq with rfl | hq;exact fun e=>h.ne.1 e.symm;exact fun e=>h.ng.1 (e ▸ hq))) ho.size (fun _ _ g=>g),h.bkv.keep (fun q hq hl=>ho.block q hl (by rcases hq with rfl | hq;exact fun e=>h.ne.2.1 e.symm;exact fun e=>h.ng.1 (e ▸ hq))) ho.size (fun _ _ g=>g),h.ne,h.ng⟩
end
theorem SV_.idle_ {w:World}{G:Nat→Prop}{p pd:Nat}{S:SegS}{A:Option Addr}{n c:Nat}(h:Blk w p 195 (srvV S pd A n c))(h0:S.st=0):SV_ w G p pd S:=⟨A,n,c,h,fun h=>by omega⟩
theorem BV_.idle_ {w:World}{G:Nat→Prop}{p pd:Nat}{S:BlkS}{A:Option Addr}{n c:Nat}(h:Blk w p 114 (bsrV S pd A n c))(h0:S.st=0):BV_ w G p pd S:=⟨A,n,c,h,fun h=>absurd h0 h⟩
def sdAbS (X:SdoS):SdoS:=if X.sg.st≠0 then { X with sg:=segIdle X.sg } else if X.bk.st≠0 then { X with bk:=blkIdle X.bk } else X
def sdAbL (X:SdoS) (code:Nat):List Ms:=if X.sg.st≠0 then [abM X.sg.ix X.sg.sub code] else if X.bk.st≠0 then [abM X.bk.ix X.bk.sub code] else [abM 0 0 code]
section
variable {w:World} {G:Nat→Prop} {p ps pb pd:Nat} {X:SdoS}
theorem zn0 (code:Nat)(h:DV w G p ps pb pd X):Calls Tryz.prog 125 #[.pointer (some ⟨p,0,none⟩),.int .u32 (code:Nat)] w (CallG w (fun w'=>DV w' G p ps pb pd (sdAbS X)) (fun q=>q=ps∨q=pb) (sdAbL X code)):=by
 obtain⟨P,hP⟩:∃P,P=CallG w (fun w'=>DV w' G p ps pb pd (sdAbS X)) (fun q=>q=ps∨q=pb) (sdAbL X code):=⟨_,rfl⟩;rw[←hP];have HP:=zak hP;obtain⟨A,n,c,hB⟩:=h.seg.blk_;obtain⟨A',n',c',hB'⟩:=h.bkv.blk_;have c0:w.cell? ⟨p,0,none⟩=some (.pointer (some ⟨ps,0,none⟩)):=h.blk.cell 0 rfl;have c1:w.cell? ⟨p,1,none⟩=some (.pointer (some ⟨pb,0,none⟩)):=h.blk.cell 1 rfl;have HS:=zak (zj8 ps pd X.sg A n c w hB);have HB:=zak (zl3 pb pd X.bk A' n' c' w hB');have HSA:=zak (zkb ps pd X.sg code A n c w hB);have HBA:=zak (zl9 pb pd X.bk code A' n' c' w hB');have HD:=zak h;have zp:=h.lt;clear h hB hB' hP;go_enter Tryz.func125,Tryz.ntmps125
 go_wp2_with fail
 refine HS.out.mono ?_;rintro e w1 ⟨rfl,hw⟩;subst hw;by_cases hs:X.sg.st=0
 · have hq:(X.sg.st != 0)=false:=by simp[hs]
   have HSZ:=zak hs;rw[hq];clear hq hs;go_wp2_with fail
   refine HB.out.mono ?_;rintro e w1 ⟨rfl,hw⟩;subst hw;by_cases hb:X.bk.st=0
   · have hq:(X.bk.st != 0)=false:=by simp[hb]
     have HBZ:=zak hb;rw[hq];clear hq hb;go_wp2_with fail
     rw[HP.out];have hS:sdAbS X=X:=by unfold sdAbS;rw[if_neg (fun h=>h HSZ.out),if_neg (fun h=>h HBZ.out)]
     have hL:sdAbL X code= [abM 0 0 code]:=by unfold sdAbL;rw[if_neg (fun h=>h HSZ.out),if_neg (fun h=>h HBZ.out)]
     refine⟨_,_,_,[(none,0)],rfl,?_,?_,?_⟩
     · rw[hL];exact znu (Nat.le_refl _) (Blk.new w 95 (msV (abM 0 0 code) none 0 0)) (zdv.nil _ _) (FIn.nil _)
     · rw[hS];have hb:=zc5 (Below.refl w.heap.size w) (.cells (msV (abM 0 0 code) none 0 0) 95);exact⟨HD.out.blk.below hb zp.1,HD.out.seg.kept (fun q _ hl=>hb.block q hl) hb.size (fun _ _ g=>g),HD.out.bkv.keep (fun q _ hl=>hb.block q hl) hb.size (fun _ _ g=>g),HD.out.ne,HD.out.ng⟩
     · exact zd0.of_below (zc5 (Below.refl w.heap.size w) (.cells (msV (abM 0 0 code) none 0 0) 95))
   · have hq:(X.bk.st != 0)=true:=by simp[hb]
     have HBZ:=zak hb;rw[hq];clear hq hb;go_wp2_with fail
     refine HBA.out.mono ?_;rintro e w3 ⟨_,h2⟩;obtain⟨g,hg,rfl,hM,hB2,ho⟩:=h2 HBZ.out;have hS:sdAbS X= { X with bk:=blkIdle X.bk }:=by unfold sdAbS;rw[if_neg (fun h=>h HSZ.out),if_pos HBZ.out]
     have hL:sdAbL X code= [abM X.bk.ix X.bk.sub code]:=by unfold sdAbL;rw[if_neg (fun h=>h HSZ.out),if_pos HBZ.out]
     have HR:Hid (CallG w (fun w'=>DV w' G p ps pb pd (sdAbS X)) (fun q=>q=ps∨q=pb) (sdAbL X code) (.returned (.slice (some ⟨g,0,none⟩) 1 1)) w3):=zak (by
      refine⟨_,_,_,[(none,0)],rfl,?_,?_,ho.mono (fun _ _ h=> .inr h)⟩
      · rw[hL];exact znu hg hM (zdv.nil _ _) (FIn.nil _)
      · rw[hS];exact HD.out.bk_ (BV_.idle_ hB2 rfl) ho)
     clear h2 hM hB2 ho hS hL;go_wp2_with fail
     rw[HP.out];exact HR.out
 · have hq:(X.sg.st != 0)=true:=by simp[hs]
   have HSZ:=zak hs;rw[hq];clear hq hs;go_wp2_with fail
   refine HSA.out.mono ?_;rintro e w3 ⟨_,h2⟩;obtain⟨g,hg,rfl,hM,hB2,ho⟩:=h2 HSZ.out;have hS:sdAbS X= { X with sg:=segIdle X.sg }:=by unfold sdAbS;rw[if_pos HSZ.out]
   have hL:sdAbL X code= [abM X.sg.ix X.sg.sub code]:=by unfold sdAbL;rw[if_pos HSZ.out]
   have HR:Hid (CallG w (fun w'=>DV w' G p ps pb pd (sdAbS X)) (fun q=>q=ps∨q=pb) (sdAbL X code) (.returned (.slice (some ⟨g,0,none⟩) 1 1)) w3):=zak (by
    refine⟨_,_,_,[(none,0)],rfl,?_,?_,ho.mono (fun _ _ h=> .inl h)⟩
    · rw[hL];exact znu hg hM (zdv.nil _ _) (FIn.nil _)
    · rw[hS];exact HD.out.seg_ (SV_.idle_ hB2 rfl) ho)
   clear h2 hM hB2 ho hS hL;go_wp2_with fail
   rw[HP.out];exact HR.out
theorem zn1 (h:DV w G p ps pb pd X):Calls Tryz.prog 73 #[.pointer (some ⟨p,0,none⟩)] w fun e w'=>e= .returned (.tuple #[])∧ DV w' G p ps pb pd { X with sg:=segIdle X.sg,bk:=blkIdle X.bk }∧ zd0 (fun q=>q=ps∨q=pb) w w':=by
 obtain⟨A,n,c,hB⟩:=h.seg.blk_;have c0:w.cell? ⟨p,0,none⟩=some (.pointer (some ⟨ps,0,none⟩)):=h.blk.cell 0 rfl;have HS:=zak (zkc ps pd X.sg A n c w hB);have HD:=zak h;clear h hB;go_enter Tryz.func73,Tryz.ntmps73
 go_wp2_with fail
 refine HS.out.mono ?_;rintro e w1 ⟨rfl,hB1,ho1⟩;have h1:=HD.out.seg_ (SV_.idle_ (G:=G) hB1 rfl) ho1;obtain⟨A',n',c',hB'⟩:=h1.bkv.blk_;have c1:w1.cell? ⟨p,1,none⟩=some (.pointer (some ⟨pb,0,none⟩)):=h1.blk.cell 1 rfl;have HB:=zak (zl5 pb pd X.bk A' n' c' w1 hB');have H1:=zak h1;have HO:=zak ho1;clear h1 hB1 hB' ho1;go_wp2_with fail
 refine HB.out.mono ?_;rintro e w2 ⟨rfl,hB2,ho2⟩;have HR:=zak (And.intro (H1.out.bk_ (BV_.idle_ (G:=G) hB2 rfl) ho2) ((HO.out.mono (fun q _ h=>Or.inl h)).trans (ho2.mono (fun q _ h=>Or.inr h)) (fun _ _ h=>h)));clear hB2 ho2;dsimp only;go_wp2_with fail
 go_end0
 exact⟨rfl,HR.out.1,HR.out.2⟩
end
end
end Go.Proofs.YtkkpjbjmhaecjaaGreat
