/- None -/
import Derived.Test.YtkkpjbjmhaecjaaGreatU18
namespace Go.Proofs.YtkkpjbjmhaecjaaGreat
set_option linter.all false
set_option maxRecDepth 100000
set_option maxHeartbeats 4000000
section
open Go.RowKit
theorem zjf {w W' w3:World}{G G':Nat→Prop}{p pd:Nat}{S':BlkS}{O:SegO}{X:Nat→Prop}{As:Option Addr}{ns cs:Nat}{A:Option Addr}{n c:Nat}(hz:w.heap.size+2≤W'.heap.size)(hO:zbv (fun q=>q=p) w W')(hp:p < w.heap.size)(hK:Blk W' (w.heap.size+1) 93 (outV none 0 0 outZ none 0 0))(hG:∀q,G' q→(G q∨w.heap.size≤q)∧ q≠w.heap.size+1)
 (h1:MsR w3 W'.heap.size X As ns cs O.ms) (h2:zbs w3 W'.heap.size A n c O.b) (h3:FIn X A) (h4:BV_ w3 (fun q=>(G' q∨W'.heap.size≤q)∧ ¬X q) p pd S') (h5:zbv (fun q=>q=p) W' w3) :
 Blk (putO w3 (w.heap.size+1) As ns cs O A n c) (w.heap.size+1) 93 (outV As ns cs O A n c)∧ BOutR w G p pd S' O (.returned (.agg (outV As ns cs O A n c))) (putO w3 (w.heap.size+1) As ns cs O A n c):=by
 have hK3:=zhe hK h5 (by omega);refine⟨zhs hK3,X,As,ns,cs,A,n,c,rfl,?_,(zhv h2 (by omega) _ _ _ _ _ _ _).mono (by omega),h3,?_,zhu (hO.trans h5 (fun _ _ h=>h)) (by omega) _ _ _ _ _ _ _⟩
 · rcases h1 with ⟨a,b,c',d⟩ | ⟨M,g,A',n',c',a,b,c1,d,e,f,g1,g2⟩
   · exact .inl ⟨a,b,c',d⟩
   · exact .inr ⟨M,g,A',n',c',a,b,c1,d,by omega,zht f (by omega) _ _ _ _ _ _ _,(zhv g1 (by omega) _ _ _ _ _ _ _).mono (by omega),g2⟩
 · refine h4.keep (fun q hq hlt=>zia ?_ _ _ _ _ _ _ _) (by rw[zib];exact Nat.le_refl _) (fun q _ hq=>⟨?_,hq.2⟩)
   · rcases hq with rfl | hq
     · omega
     · rcases hq.1 with h | h
       · exact (hG q h).2
       · omega
   · rcases hq.1 with h | h
     · exact (hG q h).1
     · exact .inr (by omega)
theorem zjg {w W:World}{G:Nat→Prop}{p pd:Nat}{S:BlkS}(h:BV_ w G p pd S)(hb:Below w.heap.size w W):BV_ W (fun q=>G q∧q < w.heap.size) p pd S:=h.keep (fun q _ hq=>hb.block q hq) hb.size (fun q h1 h2=>⟨h2,h1⟩)
section
variable {F:Nat→Prop} {pd gl n cl cv:Nat} {Av:Option Addr} {L:List Ent} {V:List (List UInt8)} {ds es:List (Option Addr×Nat)}
theorem zjh (p:Nat)(S:BlkS)(G:Nat→Prop)(ix sub:Int)(tg la cr sz:Bool)(size code:Nat)(data:List UInt8)(sq bl em:Int)(sum:Nat)(A3:Option Addr)(m3 c3:Nat)(w:World)(hD:DB 100 w F pd (some ⟨gl,0,none⟩) n cl Av cv L V ds es)(hs:SortedE L)(hn:n≤1000)
 (hp: ¬F p) (hS:BV_ w G p pd S) (hsz:size≤4294967295) :
 Calls Tryz.prog 36 #[.pointer (some ⟨p,0,none⟩),.agg (msV (⟨6,ix,sub,tg,la,cr,sz,size,code,data,sq,bl,em,sum⟩:Ms) A3 m3 c3)] w (BOutR w G p pd (bdownS L (blkIdle S) (⟨6,ix,sub,tg,la,cr,sz,size,code,data,sq,bl,em,sum⟩:Ms)) (bdownO L (⟨6,ix,sub,tg,la,cr,sz,size,code,data,sq,bl,em,sum⟩:Ms))):=by
 obtain⟨P,hP⟩:∃P,P=BOutR w G p pd (bdownS L (blkIdle S) (⟨6,ix,sub,tg,la,cr,sz,size,code,data,sq,bl,em,sum⟩:Ms)) (bdownO L (⟨6,ix,sub,tg,la,cr,sz,size,code,data,sq,bl,em,sum⟩:Ms)):=⟨_,rfl⟩;rw[←hP];have HP:=zak hP;have HS:=zak hs;have H1:=zak hn;have HD:=zak (fun W (h:zbv (fun q=>q=p) w W)=> hD.keep (w':=W) (fun g hg hlt=>h.block g hlt (fun e=>hp (e ▸ hg))));obtain⟨s,hst⟩:∃s,s=S.st:=⟨_,rfl⟩;obtain⟨A,n1,c1,hB,_⟩:=id hS;have hz:=hB.lt;have hne1:p≠w.heap.size+1:=by omega
 have hne0:w.heap.size≠p:=by omega
 have HX:=zak (zi4 (S:=S) (pd:=pd) (A:=A) (n1:=n1) (c1:=c1) (⟨6,ix,sub,tg,la,cr,sz,size,code,data,sq,bl,em,sum⟩:Ms) A3 m3 c3 hB);have HB0:=zak (za7 (za7 (Below.refl w.heap.size w) (.cells (msV (⟨6,ix,sub,tg,la,cr,sz,size,code,data,sq,bl,em,sum⟩:Ms) A3 m3 c3) 95)) (.cells (outV none 0 0 outZ none 0 0) 93));have HS0:=zak hS;clear hP hS hB hD hs hn;unfold msV outV outZ at HX HB0;unfold msV;go_enter Tryz.func36,Tryz.ntmps36
 go_upto_region 1 with fail
 refine zb6 (P:=fun W=>BX w p pd (KMO w (⟨6,ix,sub,tg,la,cr,sz,size,code,data,sq,bl,em,sum⟩:Ms) A3 m3 c3) S A n1 c1 W∧Below w.heap.size w W) ⟨HX.out,HB0.out⟩ (fun W hW=>?_);clear HX HB0;obtain⟨hX,hbw⟩:=hW;have HX:=zak hX;have HBW:=zak hbw;have k1:=hX.msg;have bb:=hX.2.1;have zW:=bb.lt;have zk1:=k1.lt;have zo1:=hX.out.lt;unfold msV at k1;unfold bsrV at bb;dsimp only at bb k1;rw[←hst] at bb;obtain⟨am,ai,aj,an,ah,ak,al,ao,ap,aq,aa,ab,ac,ae⟩:=zbd k1;have aD:=k1.frozen;obtain⟨ar,au,av,aw,ax,ay,az,aA,aB,aC,af,ag⟩:=zbc bb;have aE:=bb.frozen;clear hX hbw;have XI:=zak (HX.out.sets (S':=blkIdle S) [.int .i64 0] 7 (by simp) rfl)
 simp only[World.setCells] at XI;clear hst;by_cases h3:s=3
 · subst h3;go_upto_region 5 with fail
   refine zb6 (P:=BX w p pd (KMO w (⟨6,ix,sub,tg,la,cr,sz,size,code,data,sq,bl,em,sum⟩:Ms) A3 m3 c3) (blkIdle S) A n1 c1) XI.out (fun W2 hW2=>?_);clear am ai aj an ah ak al ao ap aq aa ab ac ae aD;clear ar au av aw ax ay az aA aB aC af ag aE;clear XI k1 bb;have HX2:=zak hW2;have k1:=hW2.msg;have zk2:=k1.lt;unfold msV at k1;dsimp only at k1;obtain⟨am,ai,aj,an,ah,ak,al,ao,ap,aq,aa,ab,ac,ae⟩:=zbd k1;have aD:=k1.frozen;clear hW2;go_wp2_with fail
   refine (zi5 p (blkIdle S) (fun q=>G q∧q < w.heap.size) (⟨6,ix,sub,tg,la,cr,sz,size,code,data,sq,bl,em,sum⟩:Ms) A3 m3 c3 _ (HD.out W2 HX2.out.1) HS.out H1.out hp (zi0 HX2.out.2.1) hsz).mono ?_;rintro e w5 ⟨X,As,ns,cs,A5,n5,c5,rfl,h1,h2,h3,h4,h5⟩;unfold outV;dsimp only;clear am ai aj an ah ak al ao ap aq aa ab ac ae aD;clear k1;have F:=zjf (G:=G) (G':=(fun q=>G q∧q < w.heap.size)) HX2.out.2.2.2 HX2.out.1 hz HX2.out.out (fun q h=>⟨.inl h.1,by have:=h.2;omega⟩) h1 h2 h3 h4 h5;have k5:=zhe HX2.out.out h5 (fun e=>hne1 e.symm);have HF:=zak F;clear F h1 h2 h3 h4 h5;unfold outV outZ at k5;obtain⟨ce,cf,cg,ck,cm⟩:=za9 k5
   have dg:=k5.frozen;go_wp2_with fail
   obtain⟨F1,F2⟩:=HF.out;rw[←HP.out] at F2;unfold putO at F1 F2;refine zhr (O:=bdownO L (⟨6,ix,sub,tg,la,cr,sz,size,code,data,sq,bl,em,sum⟩:Ms)) rfl rfl rfl F1 ?_;exact F2
 · have h3n:(s == 3)=false:=by simp[h3]
   go_wp2_with fail
   refine (ziq 6 _).mono ?_;rintro e w1 ⟨rfl,hw1⟩;subst hw1;rw[show (decide ((6:Int)=1∨(6:Int)=6∨(6:Int)=8))=true by decide];go_upto_region 5 with fail
   refine zb6 (P:=BX w p pd (KMO w (⟨6,ix,sub,tg,la,cr,sz,size,code,data,sq,bl,em,sum⟩:Ms) A3 m3 c3) (blkIdle S) A n1 c1) XI.out (fun W2 hW2=>?_);clear am ai aj an ah ak al ao ap aq aa ab ac ae aD;clear ar au av aw ax ay az aA aB aC af ag aE;clear XI k1 bb;have HX2:=zak hW2;have k1:=hW2.msg;have zk2:=k1.lt;unfold msV at k1;dsimp only at k1;obtain⟨am,ai,aj,an,ah,ak,al,ao,ap,aq,aa,ab,ac,ae⟩:=zbd k1;have aD:=k1.frozen;clear hW2;go_wp2_with fail
   refine (zi5 p (blkIdle S) (fun q=>G q∧q < w.heap.size) (⟨6,ix,sub,tg,la,cr,sz,size,code,data,sq,bl,em,sum⟩:Ms) A3 m3 c3 _ (HD.out W2 HX2.out.1) HS.out H1.out hp (zi0 HX2.out.2.1) hsz).mono ?_;rintro e w5 ⟨X,As,ns,cs,A5,n5,c5,rfl,h1,h2,h3,h4,h5⟩;unfold outV;dsimp only;clear am ai aj an ah ak al ao ap aq aa ab ac ae aD;clear k1;have F:=zjf (G:=G) (G':=(fun q=>G q∧q < w.heap.size)) HX2.out.2.2.2 HX2.out.1 hz HX2.out.out (fun q h=>⟨.inl h.1,by have:=h.2;omega⟩) h1 h2 h3 h4 h5;have k5:=zhe HX2.out.out h5 (fun e=>hne1 e.symm);have HF:=zak F;clear F h1 h2 h3 h4 h5;unfold outV outZ at k5;obtain⟨ce,cf,cg,ck,cm⟩:=za9 k5
   have dg:=k5.frozen;go_wp2_with fail
   obtain⟨F1,F2⟩:=HF.out;rw[←HP.out] at F2;unfold putO at F1 F2;refine zhr (O:=bdownO L (⟨6,ix,sub,tg,la,cr,sz,size,code,data,sq,bl,em,sum⟩:Ms)) rfl rfl rfl F1 ?_;exact F2
end
theorem zji (p pd:Nat)(mo szz nx ha ta ro six ssub:Int)(b:List UInt8)(sm:Bool)(G:Nat→Prop)(ix sub:Int)(tg la cr sz:Bool)(size code:Nat)(data:List UInt8)(sq bl em:Int)(sum:Nat)(A3:Option Addr)(m3 c3:Nat)(w:World)(hS:BV_ w G p pd (⟨mo,szz,nx,ha,ta,ro,1,six,ssub,b,sm⟩:BlkS))(h256:b.length≤100000)(hnx:0≤nx∧nx≤1000)(hmo:0≤mo∧mo≤100000)(hm:Hid (m3=data.length))(hm1:m3≤100000)(hMd:Hid (∀W,zbv (fun q=>q=p) w W→Sl W A3 (data.map bv))) :
 Calls Tryz.prog 36 #[.pointer (some ⟨p,0,none⟩),.agg (msV (⟨21,ix,sub,tg,la,cr,sz,size,code,data,sq,bl,em,sum⟩:Ms) A3 m3 c3)] w (BOutR w G p pd (bpartS (⟨mo,szz,nx,ha,ta,ro,1,six,ssub,b,sm⟩:BlkS) (⟨21,ix,sub,tg,la,cr,sz,size,code,data,sq,bl,em,sum⟩:Ms)) (bpartO (⟨mo,szz,nx,ha,ta,ro,1,six,ssub,b,sm⟩:BlkS) (⟨21,ix,sub,tg,la,cr,sz,size,code,data,sq,bl,em,sum⟩:Ms))):=by
 obtain⟨P,hP⟩:∃P,P=BOutR w G p pd (bpartS (⟨mo,szz,nx,ha,ta,ro,1,six,ssub,b,sm⟩:BlkS) (⟨21,ix,sub,tg,la,cr,sz,size,code,data,sq,bl,em,sum⟩:Ms)) (bpartO (⟨mo,szz,nx,ha,ta,ro,1,six,ssub,b,sm⟩:BlkS) (⟨21,ix,sub,tg,la,cr,sz,size,code,data,sq,bl,em,sum⟩:Ms)):=⟨_,rfl⟩;rw[←hP];have HP:=zak hP;obtain⟨A,n1,c1,hB,_⟩:=id hS;have hz:=hB.lt;have hne1:p≠w.heap.size+1:=by omega
 have hne0:w.heap.size≠p:=by omega
 have HX:=zak (zi4 (S:=(⟨mo,szz,nx,ha,ta,ro,1,six,ssub,b,sm⟩:BlkS)) (pd:=pd) (A:=A) (n1:=n1) (c1:=c1) (⟨21,ix,sub,tg,la,cr,sz,size,code,data,sq,bl,em,sum⟩:Ms) A3 m3 c3 hB);have HB0:=zak (za7 (za7 (Below.refl w.heap.size w) (.cells (msV (⟨21,ix,sub,tg,la,cr,sz,size,code,data,sq,bl,em,sum⟩:Ms) A3 m3 c3) 95)) (.cells (outV none 0 0 outZ none 0 0) 93));have HS0:=zak hS;clear hP hS hB;unfold msV outV outZ at HX HB0;unfold msV;go_enter Tryz.func36,Tryz.ntmps36
 go_upto_region 1 with fail
 refine zb6 (P:=fun W=>BX w p pd (KMO w (⟨21,ix,sub,tg,la,cr,sz,size,code,data,sq,bl,em,sum⟩:Ms) A3 m3 c3) (⟨mo,szz,nx,ha,ta,ro,1,six,ssub,b,sm⟩:BlkS) A n1 c1 W∧Below w.heap.size w W) ⟨HX.out,HB0.out⟩ (fun W hW=>?_);clear HX HB0;obtain⟨hX,hbw⟩:=hW;have HX:=zak hX;have HBW:=zak hbw;have k1:=hX.msg;have bb:=hX.2.1;have zW:=bb.lt;have zk1:=k1.lt;have zo1:=hX.out.lt;unfold msV at k1;unfold bsrV at bb;dsimp only at bb k1;obtain⟨am,ai,aj,an,ah,ak,al,ao,ap,aq,aa,ab,ac,ae⟩:=zbd k1;have aD:=k1.frozen;obtain⟨ar,au,av,aw,ax,ay,az,aA,aB,aC,af,ag⟩:=zbc bb;have aE:=bb.frozen;clear hX hbw;go_wp2_with fail
 refine (ziq 21 _).mono ?_;rintro e w1 ⟨rfl,hw1⟩;subst hw1;rw[show (decide ((21:Int)=1∨(21:Int)=6∨(21:Int)=8))=false by decide];have HX2:=HX;go_wp2_with fail
 refine (zi6 p pd (⟨mo,szz,nx,ha,ta,ro,1,six,ssub,b,sm⟩:BlkS) (fun q=>G q∧q < w.heap.size) (⟨21,ix,sub,tg,la,cr,sz,size,code,data,sq,bl,em,sum⟩:Ms) A3 m3 c3 _ (zjg HS0.out HBW.out) rfl h256 hnx hmo hm.out hm1 (fun W h=>hMd.out W (HX2.out.1.trans h (fun _ _ h=>h)))).mono ?_;rintro e w5 ⟨X,As,ns,cs,A5,n5,c5,rfl,h1,h2,h3,h4,h5⟩;unfold outV;dsimp only;clear am ai aj an ah ak al ao ap aq aa ab ac ae aD;clear ar au av aw ax ay az aA aB aC af ag aE;clear k1 bb;have F:=zjf (G:=G) (G':=(fun q=>G q∧q < w.heap.size)) HX2.out.2.2.2 HX2.out.1 hz HX2.out.out (fun q h=>⟨.inl h.1,by have:=h.2;omega⟩) h1 h2 h3 h4 h5
 have k5:=zhe HX2.out.out h5 (fun e=>hne1 e.symm);have HF:=zak F;clear F h1 h2 h3 h4 h5;unfold outV outZ at k5;obtain⟨ce,cf,cg,ck,cm⟩:=za9 k5;have dg:=k5.frozen;go_wp2_with fail
 obtain⟨F1,F2⟩:=HF.out;rw[←HP.out] at F2;unfold putO at F1 F2;refine zhr (O:=bpartO (⟨mo,szz,nx,ha,ta,ro,1,six,ssub,b,sm⟩:BlkS) (⟨21,ix,sub,tg,la,cr,sz,size,code,data,sq,bl,em,sum⟩:Ms)) rfl rfl rfl F1 ?_;exact F2
theorem zjj (p pd:Nat)(mo szz nx ha ta ro six ssub:Int)(b:List UInt8)(sm:Bool)(G:Nat→Prop)(ix sub:Int)(tg la cr sz:Bool)(size code:Nat)(data:List UInt8)(sq bl em:Int)(sum:Nat)(A3:Option Addr)(m3 c3:Nat)(w:World)(hS:BV_ w G p pd (⟨mo,szz,nx,ha,ta,ro,2,six,ssub,b,sm⟩:BlkS))(h256:b.length≤100000)(hem:0≤em∧em≤1000) :
 Calls Tryz.prog 36 #[.pointer (some ⟨p,0,none⟩),.agg (msV (⟨7,ix,sub,tg,la,cr,sz,size,code,data,sq,bl,em,sum⟩:Ms) A3 m3 c3)] w (BOutR w G p pd (bendS (⟨mo,szz,nx,ha,ta,ro,2,six,ssub,b,sm⟩:BlkS) (⟨7,ix,sub,tg,la,cr,sz,size,code,data,sq,bl,em,sum⟩:Ms)) (bendO (⟨mo,szz,nx,ha,ta,ro,2,six,ssub,b,sm⟩:BlkS) (⟨7,ix,sub,tg,la,cr,sz,size,code,data,sq,bl,em,sum⟩:Ms))):=by
 obtain⟨P,hP⟩:∃P,P=BOutR w G p pd (bendS (⟨mo,szz,nx,ha,ta,ro,2,six,ssub,b,sm⟩:BlkS) (⟨7,ix,sub,tg,la,cr,sz,size,code,data,sq,bl,em,sum⟩:Ms)) (bendO (⟨mo,szz,nx,ha,ta,ro,2,six,ssub,b,sm⟩:BlkS) (⟨7,ix,sub,tg,la,cr,sz,size,code,data,sq,bl,em,sum⟩:Ms)):=⟨_,rfl⟩;rw[←hP];have HP:=zak hP;obtain⟨A,n1,c1,hB,_⟩:=id hS;have hz:=hB.lt;have hne1:p≠w.heap.size+1:=by omega
 have hne0:w.heap.size≠p:=by omega
 have HX:=zak (zi4 (S:=(⟨mo,szz,nx,ha,ta,ro,2,six,ssub,b,sm⟩:BlkS)) (pd:=pd) (A:=A) (n1:=n1) (c1:=c1) (⟨7,ix,sub,tg,la,cr,sz,size,code,data,sq,bl,em,sum⟩:Ms) A3 m3 c3 hB);have HB0:=zak (za7 (za7 (Below.refl w.heap.size w) (.cells (msV (⟨7,ix,sub,tg,la,cr,sz,size,code,data,sq,bl,em,sum⟩:Ms) A3 m3 c3) 95)) (.cells (outV none 0 0 outZ none 0 0) 93));have HS0:=zak hS;clear hP hS hB;unfold msV outV outZ at HX HB0;unfold msV;go_enter Tryz.func36,Tryz.ntmps36
 go_upto_region 1 with fail
 refine zb6 (P:=fun W=>BX w p pd (KMO w (⟨7,ix,sub,tg,la,cr,sz,size,code,data,sq,bl,em,sum⟩:Ms) A3 m3 c3) (⟨mo,szz,nx,ha,ta,ro,2,six,ssub,b,sm⟩:BlkS) A n1 c1 W∧Below w.heap.size w W) ⟨HX.out,HB0.out⟩ (fun W hW=>?_);clear HX HB0;obtain⟨hX,hbw⟩:=hW;have HX:=zak hX;have HBW:=zak hbw;have k1:=hX.msg;have bb:=hX.2.1;have zW:=bb.lt;have zk1:=k1.lt;have zo1:=hX.out.lt;unfold msV at k1;unfold bsrV at bb;dsimp only at bb k1;obtain⟨am,ai,aj,an,ah,ak,al,ao,ap,aq,aa,ab,ac,ae⟩:=zbd k1;have aD:=k1.frozen;obtain⟨ar,au,av,aw,ax,ay,az,aA,aB,aC,af,ag⟩:=zbc bb;have aE:=bb.frozen;clear hX hbw;go_wp2_with fail
 refine (ziq 7 _).mono ?_;rintro e w1 ⟨rfl,hw1⟩;subst hw1;rw[show (decide ((7:Int)=1∨(7:Int)=6∨(7:Int)=8))=false by decide];have HX2:=HX;go_wp2_with fail
 refine (zje p pd (⟨mo,szz,nx,ha,ta,ro,2,six,ssub,b,sm⟩:BlkS) (fun q=>G q∧q < w.heap.size) (⟨7,ix,sub,tg,la,cr,sz,size,code,data,sq,bl,em,sum⟩:Ms) A3 m3 c3 _ (zjg HS0.out HBW.out) rfl h256 hem).mono ?_;rintro e w5 ⟨X,As,ns,cs,A5,n5,c5,rfl,h1,h2,h3,h4,h5⟩;unfold outV;dsimp only;clear am ai aj an ah ak al ao ap aq aa ab ac ae aD;clear ar au av aw ax ay az aA aB aC af ag aE;clear k1 bb;have F:=zjf (G:=G) (G':=(fun q=>G q∧q < w.heap.size)) HX2.out.2.2.2 HX2.out.1 hz HX2.out.out (fun q h=>⟨.inl h.1,by have:=h.2;omega⟩) h1 h2 h3 h4 h5;have k5:=zhe HX2.out.out h5 (fun e=>hne1 e.symm);have HF:=zak F;clear F h1 h2 h3 h4 h5
 unfold outV outZ at k5;obtain⟨ce,cf,cg,ck,cm⟩:=za9 k5;have dg:=k5.frozen;go_wp2_with fail
 obtain⟨F1,F2⟩:=HF.out;rw[←HP.out] at F2;unfold putO at F1 F2;refine zhr (O:=bendO (⟨mo,szz,nx,ha,ta,ro,2,six,ssub,b,sm⟩:BlkS) (⟨7,ix,sub,tg,la,cr,sz,size,code,data,sq,bl,em,sum⟩:Ms)) rfl rfl rfl F1 ?_;exact F2
end
end Go.Proofs.YtkkpjbjmhaecjaaGreat
