/- None -/
import Derived.Test.YtkkpjbjmhaecjaaGreatT28
namespace Go.Proofs.YtkkpjbjmhaecjaaGreat
set_option linter.all false
set_option maxRecDepth 100000
set_option maxHeartbeats 8000000
section
open Go.RowKit
theorem zm4 {w W' w3:World}{G G':Nat→Prop}{p pd:Nat}{S':BlkS}{L:List Ms}{As:Option Addr}{ns cs:Nat}{ds:List (Option Addr×Nat)}(hz:w.heap.size+2≤W'.heap.size)(hO:zd0 (fun q=>q=p) w W')(hp:p < w.heap.size)(hK:Blk W' (w.heap.size+1) 93 (outV none 0 0 outZ none 0 0))(hG:∀q,G' q→G q∧q≠w.heap.size+1)
 (h1:zgy w3 (fun g=>W'.heap.size≤g) As ns cs L ds) (h4:BV_ w3 G' p pd S') (h5:zd0 (fun q=>q=p) W' w3) :
 Blk (putO w3 (w.heap.size+1) As ns cs outZ none 0 0) (w.heap.size+1) 93 (outV As ns cs outZ none 0 0)∧ BOutF w G p pd S' L (.returned (.agg (outV As ns cs outZ none 0 0))) (putO w3 (w.heap.size+1) As ns cs outZ none 0 0):=by
 have hK3:=zjo hK h5 (by omega);refine⟨zj3 hK3,As,ns,cs,ds,rfl,(h1.keep (fun g hg _=>zkt (show g≠w.heap.size+1 by omega) _ _ _ _ _ _ _)).mono (fun g _ hg=>by omega),h4.keep (fun q hq _=>zkt (by rcases hq with rfl | hq;omega;exact (hG q hq).2) _ _ _ _ _ _ _) (by rw[zku];exact Nat.le_refl _) (fun q _ hq=>(hG q hq).1),zj5 (hO.trans h5 (fun _ _ h=>h)) (by omega) _ _ _ _ _ _ _⟩
section
variable {F:Nat→Prop} {pd gl n cl cv:Nat} {Av:Option Addr} {L:List Ent} {V:List (List UInt8)} {ds es:List (Option Addr×Nat)}
theorem zm5 (p:Nat)(S:BlkS)(G:Nat→Prop)(ix sub:Int)(tg la cr sz:Bool)(size code:Nat)(data:List UInt8)(sq bl em:Int)(sum:Nat)(A3:Option Addr)(m3 c3:Nat)(w:World)(hD:DB 100 w F pd (some ⟨gl,0,none⟩) n cl Av cv L V ds es)(hs:SortedE L)(hn:n≤1000)(hv:∀v ∈ V,v.length≤256)
 (hp: ¬F p) (hS:BV_ w G p pd S) :
 Calls Tryz.prog 36 #[.pointer (some ⟨p,0,none⟩),.agg (msV (⟨8,ix,sub,tg,la,cr,sz,size,code,data,sq,bl,em,sum⟩:Ms) A3 m3 c3)] w (BOutR w G p pd (bupS L V (blkIdle S) (⟨8,ix,sub,tg,la,cr,sz,size,code,data,sq,bl,em,sum⟩:Ms)) (bupO L V (⟨8,ix,sub,tg,la,cr,sz,size,code,data,sq,bl,em,sum⟩:Ms))):=by
 obtain⟨P,hP⟩:∃P,P=BOutR w G p pd (bupS L V (blkIdle S) (⟨8,ix,sub,tg,la,cr,sz,size,code,data,sq,bl,em,sum⟩:Ms)) (bupO L V (⟨8,ix,sub,tg,la,cr,sz,size,code,data,sq,bl,em,sum⟩:Ms)):=⟨_,rfl⟩;rw[←hP];have HP:=zak hP;have HS:=zak hs;have H1:=zak hn;have HV:=zak hv;have HD:=zak (fun W (h:zd0 (fun q=>q=p) w W)=> hD.keep (w':=W) (fun g hg hlt=>h.block g hlt (fun e=>hp (e ▸ hg))));obtain⟨s,hst⟩:∃s,s=S.st:=⟨_,rfl⟩;obtain⟨A,n1,c1,hB,_⟩:=id hS;have hz:=hB.lt;have hne1:p≠w.heap.size+1:=by omega
 have hne0:w.heap.size≠p:=by omega
 have HX:=zak (zmg (S:=S) (pd:=pd) (A:=A) (n1:=n1) (c1:=c1) (⟨8,ix,sub,tg,la,cr,sz,size,code,data,sq,bl,em,sum⟩:Ms) A3 m3 c3 hB);have HB0:=zak (zc5 (zc5 (Below.refl w.heap.size w) (.cells (msV (⟨8,ix,sub,tg,la,cr,sz,size,code,data,sq,bl,em,sum⟩:Ms) A3 m3 c3) 95)) (.cells (outV none 0 0 outZ none 0 0) 93));have HS0:=zak hS;clear hP hS hB hD hs hn hv;unfold msV outV outZ at HX HB0;unfold msV;go_enter Tryz.func36,Tryz.ntmps36
 go_upto_region 1 with fail
 refine zed (P:=fun W=>BX w p pd (KMO w (⟨8,ix,sub,tg,la,cr,sz,size,code,data,sq,bl,em,sum⟩:Ms) A3 m3 c3) S A n1 c1 W∧Below w.heap.size w W) ⟨HX.out,HB0.out⟩ (fun W hW=>?_);clear HX HB0;obtain⟨hX,hbw⟩:=hW;have HX:=zak hX;have HBW:=zak hbw;have k1:=hX.msg;have bb:=hX.2.1;have zW:=bb.lt;have zk1:=k1.lt;have zo1:=hX.out.lt;unfold msV at k1;unfold bsrV at bb;dsimp only at bb k1;rw[←hst] at bb;obtain⟨ai,af,ag,am,ah,aj,an,ao,ap,aq,aa,ab,ac,ae⟩:=zde k1;have aM:=k1.frozen;obtain⟨ak,al,av,aw,ax,ay,az,aA,aK,aL,ar,au⟩:=zdd bb;have aN:=bb.frozen;clear hX hbw;have XI:=zak (HX.out.sets (S':=blkIdle S) [.int .i64 0] 7 (by simp) rfl)
 simp only[World.setCells] at XI;clear hst;by_cases h3:s=3
 · subst h3;go_upto_region 5 with fail
   refine zed (P:=BX w p pd (KMO w (⟨8,ix,sub,tg,la,cr,sz,size,code,data,sq,bl,em,sum⟩:Ms) A3 m3 c3) (blkIdle S) A n1 c1) XI.out (fun W2 hW2=>?_);clear ai af ag am ah aj an ao ap aq aa ab ac ae aM;clear ak al av aw ax ay az aA aK aL ar au aN;clear XI k1 bb;have HX2:=zak hW2;have k1:=hW2.msg;have zk2:=k1.lt;unfold msV at k1;dsimp only at k1;obtain⟨ai,af,ag,am,ah,aj,an,ao,ap,aq,aa,ab,ac,ae⟩:=zde k1;have aM:=k1.frozen;clear hW2;go_wp2_with fail
   refine (zmx p (blkIdle S) (fun q=>G q∧q < w.heap.size) (⟨8,ix,sub,tg,la,cr,sz,size,code,data,sq,bl,em,sum⟩:Ms) A3 m3 c3 _ (HD.out W2 HX2.out.1) HS.out H1.out HV.out hp (zmc HX2.out.2.1)).mono ?_;rintro e w5 ⟨X,As,ns,cs,A5,n5,c5,rfl,h1,h2,h3,h4,h5⟩;unfold outV;dsimp only;clear ai af ag am ah aj an ao ap aq aa ab ac ae aM;clear k1;have F:=zmr (G:=G) (G':=(fun q=>G q∧q < w.heap.size)) HX2.out.2.2.2 HX2.out.1 hz HX2.out.out (fun q h=>⟨.inl h.1,by have:=h.2;omega⟩) h1 h2 h3 h4 h5;have k5:=zjo HX2.out.out h5 (fun e=>hne1 e.symm);have HF:=zak F;clear F h1 h2 h3 h4 h5;unfold outV outZ at k5;obtain⟨bB,bC,bD,bU,bV⟩:=zc9 k5
   have cE:=k5.frozen;go_wp2_with fail
   obtain⟨F1,F2⟩:=HF.out;rw[←HP.out] at F2;unfold putO at F1 F2;refine zj2 (O:=bupO L V (⟨8,ix,sub,tg,la,cr,sz,size,code,data,sq,bl,em,sum⟩:Ms)) rfl rfl rfl F1 ?_;exact F2
 · have h3n:(s == 3)=false:=by simp[h3]
   go_wp2_with fail
   refine (zl8 8 _).mono ?_;rintro e w1 ⟨rfl,hw1⟩;subst hw1;rw[show (decide ((8:Int)=1∨(8:Int)=6∨(8:Int)=8))=true by decide];go_upto_region 5 with fail
   refine zed (P:=BX w p pd (KMO w (⟨8,ix,sub,tg,la,cr,sz,size,code,data,sq,bl,em,sum⟩:Ms) A3 m3 c3) (blkIdle S) A n1 c1) XI.out (fun W2 hW2=>?_);clear ai af ag am ah aj an ao ap aq aa ab ac ae aM;clear ak al av aw ax ay az aA aK aL ar au aN;clear XI k1 bb;have HX2:=zak hW2;have k1:=hW2.msg;have zk2:=k1.lt;unfold msV at k1;dsimp only at k1;obtain⟨ai,af,ag,am,ah,aj,an,ao,ap,aq,aa,ab,ac,ae⟩:=zde k1;have aM:=k1.frozen;clear hW2;go_wp2_with fail
   refine (zmx p (blkIdle S) (fun q=>G q∧q < w.heap.size) (⟨8,ix,sub,tg,la,cr,sz,size,code,data,sq,bl,em,sum⟩:Ms) A3 m3 c3 _ (HD.out W2 HX2.out.1) HS.out H1.out HV.out hp (zmc HX2.out.2.1)).mono ?_;rintro e w5 ⟨X,As,ns,cs,A5,n5,c5,rfl,h1,h2,h3,h4,h5⟩;unfold outV;dsimp only;clear ai af ag am ah aj an ao ap aq aa ab ac ae aM;clear k1;have F:=zmr (G:=G) (G':=(fun q=>G q∧q < w.heap.size)) HX2.out.2.2.2 HX2.out.1 hz HX2.out.out (fun q h=>⟨.inl h.1,by have:=h.2;omega⟩) h1 h2 h3 h4 h5;have k5:=zjo HX2.out.out h5 (fun e=>hne1 e.symm);have HF:=zak F;clear F h1 h2 h3 h4 h5;unfold outV outZ at k5;obtain⟨bB,bC,bD,bU,bV⟩:=zc9 k5
   have cE:=k5.frozen;go_wp2_with fail
   obtain⟨F1,F2⟩:=HF.out;rw[←HP.out] at F2;unfold putO at F1 F2;refine zj2 (O:=bupO L V (⟨8,ix,sub,tg,la,cr,sz,size,code,data,sq,bl,em,sum⟩:Ms)) rfl rfl rfl F1 ?_;exact F2
end
theorem zm6 (p pd:Nat)(mo szz nx ta ro six ssub:Int)(b:List UInt8)(sm:Bool)(h:Nat)(G:Nat→Prop)(ix sub:Int)(tg la cr sz:Bool)(size code:Nat)(data:List UInt8)(sq bl em:Int)(sum:Nat)(A3:Option Addr)(m3 c3:Nat)(w:World)(hS:BV_ w G p pd (⟨mo,szz,nx,(h:Int),ta,ro,4,six,ssub,b,sm⟩:BlkS))(h256:b.length≤1000)(hht:h < btotal b)(hta:0≤ta∧ta≤1000) :
 Calls Tryz.prog 36 #[.pointer (some ⟨p,0,none⟩),.agg (msV (⟨9,ix,sub,tg,la,cr,sz,size,code,data,sq,bl,em,sum⟩:Ms) A3 m3 c3)] w (BOutF w G p pd (bgiveS (⟨mo,szz,nx,(h:Int),ta,ro,4,six,ssub,b,sm⟩:BlkS)) (bgiveL (⟨mo,szz,nx,(h:Int),ta,ro,4,six,ssub,b,sm⟩:BlkS))):=by
 obtain⟨P,hP⟩:∃P,P=BOutF w G p pd (bgiveS (⟨mo,szz,nx,(h:Int),ta,ro,4,six,ssub,b,sm⟩:BlkS)) (bgiveL (⟨mo,szz,nx,(h:Int),ta,ro,4,six,ssub,b,sm⟩:BlkS)):=⟨_,rfl⟩;rw[←hP];have HP:=zak hP;obtain⟨A,n1,c1,hB,_⟩:=id hS;have hz:=hB.lt;have hne1:p≠w.heap.size+1:=by omega
 have hne0:w.heap.size≠p:=by omega
 have HX:=zak (zmg (S:=(⟨mo,szz,nx,(h:Int),ta,ro,4,six,ssub,b,sm⟩:BlkS)) (pd:=pd) (A:=A) (n1:=n1) (c1:=c1) (⟨9,ix,sub,tg,la,cr,sz,size,code,data,sq,bl,em,sum⟩:Ms) A3 m3 c3 hB);have HB0:=zak (zc5 (zc5 (Below.refl w.heap.size w) (.cells (msV (⟨9,ix,sub,tg,la,cr,sz,size,code,data,sq,bl,em,sum⟩:Ms) A3 m3 c3) 95)) (.cells (outV none 0 0 outZ none 0 0) 93));have HS0:=zak hS;clear hP hS hB;unfold msV outV outZ at HX HB0;unfold msV;go_enter Tryz.func36,Tryz.ntmps36
 go_upto_region 1 with fail
 refine zed (P:=fun W=>BX w p pd (KMO w (⟨9,ix,sub,tg,la,cr,sz,size,code,data,sq,bl,em,sum⟩:Ms) A3 m3 c3) (⟨mo,szz,nx,(h:Int),ta,ro,4,six,ssub,b,sm⟩:BlkS) A n1 c1 W∧Below w.heap.size w W) ⟨HX.out,HB0.out⟩ (fun W hW=>?_);clear HX HB0;obtain⟨hX,hbw⟩:=hW;have HX:=zak hX;have HBW:=zak hbw;have k1:=hX.msg;have bb:=hX.2.1;have zW:=bb.lt;have zk1:=k1.lt;have zo1:=hX.out.lt;unfold msV at k1;unfold bsrV at bb;dsimp only at bb k1;obtain⟨ai,af,ag,am,ah,aj,an,ao,ap,aq,aa,ab,ac,ae⟩:=zde k1;have aM:=k1.frozen;obtain⟨ak,al,av,aw,ax,ay,az,aA,aK,aL,ar,au⟩:=zdd bb;have aN:=bb.frozen;clear hX hbw;go_wp2_with fail
 refine (zl8 9 _).mono ?_;rintro e w1 ⟨rfl,hw1⟩;subst hw1;rw[show (decide ((9:Int)=1∨(9:Int)=6∨(9:Int)=8))=false by decide];have HX2:=HX;go_wp2_with fail
 refine (zm0 p pd (⟨mo,szz,nx,(h:Int),ta,ro,4,six,ssub,b,sm⟩:BlkS) (fun q=>G q∧q < w.heap.size) _ (zms HS0.out HBW.out) (show (4:Int)≠ 0 by decide) h256 h rfl hht hta).mono ?_;rintro e w5 ⟨As,ns,cs,ds,rfl,h1,h4,h5⟩;unfold outV;dsimp only;clear ai af ag am ah aj an ao ap aq aa ab ac ae aM;clear ak al av aw ax ay az aA aK aL ar au aN;clear k1 bb;have F:=zm4 (G:=G) HX2.out.2.2.2 HX2.out.1 hz HX2.out.out (fun q h=>⟨h.1,by have:=h.2;omega⟩) h1 h4 h5;have k5:=zjo HX2.out.out h5 (fun e=>hne1 e.symm);have HF:=zak F;clear F h1 h4 h5;unfold outV outZ at k5;obtain⟨bB,bC,bD,bU,bV⟩:=zc9 k5;have cE:=k5.frozen
 go_wp2_with fail
 obtain⟨F1,F2⟩:=HF.out;rw[←HP.out] at F2;unfold putO at F1 F2;refine zj2 (O:=outZ) rfl rfl rfl F1 ?_;exact F2
theorem zm7 (p pd:Nat)(mo szz nx ta ro six ssub:Int)(b:List UInt8)(sm:Bool)(h:Nat)(G:Nat→Prop)(ix sub:Int)(tg la cr sz:Bool)(size code:Nat)(data:List UInt8)(sq bl em:Int)(sum:Nat)(A3:Option Addr)(m3 c3:Nat)(w:World)(hS:BV_ w G p pd (⟨mo,szz,nx,(h:Int),ta,ro,5,six,ssub,b,sm⟩:BlkS))(h256:b.length≤1000)(q:Nat)(hq:Hid (sq=(q:Int)))(hqr:(q:Int)≤ ro)(hbl:Hid (bl≠0))(hh:h≤1000)(hq2:q≤1000)(hb:0≤bl∧bl≤1000)(h2:Nat)(hh2:Hid (h2=h+q))(hlt2:h2 < btotal b) :
 Calls Tryz.prog 36 #[.pointer (some ⟨p,0,none⟩),.agg (msV (⟨10,ix,sub,tg,la,cr,sz,size,code,data,sq,bl,em,sum⟩:Ms) A3 m3 c3)] w (BOutF w G p pd (bgiveS (⟨mo,szz,nx,((h2:Nat):Int),bl,ro,5,six,ssub,b,sm⟩:BlkS)) (bgiveL (⟨mo,szz,nx,((h2:Nat):Int),bl,ro,5,six,ssub,b,sm⟩:BlkS))):=by
 obtain⟨P,hP⟩:∃P,P=BOutF w G p pd (bgiveS (⟨mo,szz,nx,((h2:Nat):Int),bl,ro,5,six,ssub,b,sm⟩:BlkS)) (bgiveL (⟨mo,szz,nx,((h2:Nat):Int),bl,ro,5,six,ssub,b,sm⟩:BlkS)):=⟨_,rfl⟩;rw[←hP];have HP:=zak hP;obtain⟨A,n1,c1,hB,_⟩:=id hS;have hz:=hB.lt;have hne1:p≠w.heap.size+1:=by omega
 have hne0:w.heap.size≠p:=by omega
 have HX:=zak (zmg (S:=(⟨mo,szz,nx,(h:Int),ta,ro,5,six,ssub,b,sm⟩:BlkS)) (pd:=pd) (A:=A) (n1:=n1) (c1:=c1) (⟨10,ix,sub,tg,la,cr,sz,size,code,data,sq,bl,em,sum⟩:Ms) A3 m3 c3 hB);have HB0:=zak (zc5 (zc5 (Below.refl w.heap.size w) (.cells (msV (⟨10,ix,sub,tg,la,cr,sz,size,code,data,sq,bl,em,sum⟩:Ms) A3 m3 c3) 95)) (.cells (outV none 0 0 outZ none 0 0) 93));have HS0:=zak hS;clear hP hS hB;unfold msV outV outZ at HX HB0;unfold msV;go_enter Tryz.func36,Tryz.ntmps36
 go_upto_region 1 with fail
 refine zed (P:=fun W=>BX w p pd (KMO w (⟨10,ix,sub,tg,la,cr,sz,size,code,data,sq,bl,em,sum⟩:Ms) A3 m3 c3) (⟨mo,szz,nx,(h:Int),ta,ro,5,six,ssub,b,sm⟩:BlkS) A n1 c1 W∧Below w.heap.size w W) ⟨HX.out,HB0.out⟩ (fun W hW=>?_);clear HX HB0;obtain⟨hX,hbw⟩:=hW;have HX:=zak hX;have HBW:=zak hbw;have k1:=hX.msg;have bb:=hX.2.1;have zW:=bb.lt;have zk1:=k1.lt;have zo1:=hX.out.lt;unfold msV at k1;unfold bsrV at bb;dsimp only at bb k1;obtain⟨ai,af,ag,am,ah,aj,an,ao,ap,aq,aa,ab,ac,ae⟩:=zde k1;have aM:=k1.frozen;obtain⟨ak,al,av,aw,ax,ay,az,aA,aK,aL,ar,au⟩:=zdd bb;have aN:=bb.frozen;clear hX hbw;go_wp2_with fail
 refine (zl8 10 _).mono ?_;rintro e w1 ⟨rfl,hw1⟩;subst hw1;rw[show (decide ((10:Int)=1∨(10:Int)=6∨(10:Int)=8))=false by decide];have HX2:=HX;go_wp2_with fail
 refine (zm2 p pd mo szz nx ta ro six ssub h b sm (fun q=>G q∧q < w.heap.size) (⟨10,ix,sub,tg,la,cr,sz,size,code,data,sq,bl,em,sum⟩:Ms) q A3 m3 c3 _ (zms HS0.out HBW.out) h256 hq.out hqr hbl.out hh hq2 hb h2 hh2.out hlt2).mono ?_;rintro e w5 ⟨As,ns,cs,ds,rfl,h1,h4,h5⟩;unfold outV;dsimp only;clear ai af ag am ah aj an ao ap aq aa ab ac ae aM;clear ak al av aw ax ay az aA aK aL ar au aN;clear k1 bb;have F:=zm4 (G:=G) (G':=fun q=>G q∧q < w.heap.size) HX2.out.2.2.2 HX2.out.1 hz HX2.out.out (fun q h=>⟨h.1,by have:=h.2;omega⟩) h1 h4 h5;have k5:=zjo HX2.out.out h5 (fun e=>hne1 e.symm);have HF:=zak F;clear F h1 h4 h5
 unfold outV outZ at k5;obtain⟨bB,bC,bD,bU,bV⟩:=zc9 k5;have cE:=k5.frozen;go_wp2_with fail
 obtain⟨F1,F2⟩:=HF.out;rw[←HP.out] at F2;unfold putO at F1 F2;refine zj2 (O:=outZ) rfl rfl rfl F1 ?_;exact F2
theorem zm8 (p pd:Nat)(mo szz nx ta ro six ssub:Int)(b:List UInt8)(sm:Bool)(h:Nat)(G:Nat→Prop)(ix sub:Int)(tg la cr sz:Bool)(size code:Nat)(data:List UInt8)(sq bl em:Int)(sum:Nat)(A3:Option Addr)(m3 c3:Nat)(w:World)(hS:BV_ w G p pd (⟨mo,szz,nx,(h:Int),ta,ro,5,six,ssub,b,sm⟩:BlkS))(h256:b.length≤1000)(q:Nat)(hq:Hid (sq=(q:Int)))(hqr:(q:Int)≤ ro)(hbl:Hid (bl≠0))(hh:h≤1000)(hq2:q≤1000)(hb:0≤bl∧bl≤1000)(h2:Nat)(hh2:Hid (h2=h+q))(hlt2:Hid (h2=btotal b))(emv:Nat)(hem:Hid (emv=7 * btotal b - b.length))(sumv:Nat)(hsv:Hid (sumv=if sm=true then sum16L b else 0)) :
 Calls Tryz.prog 36 #[.pointer (some ⟨p,0,none⟩),.agg (msV (⟨10,ix,sub,tg,la,cr,sz,size,code,data,sq,bl,em,sum⟩:Ms) A3 m3 c3)] w (BOutR w G p pd (⟨mo,szz,nx,((h2:Nat):Int),bl,ro,6,six,ssub,b,sm⟩:BlkS) (outM (bendM ((emv:Nat):Int) sumv))):=by
 obtain⟨P,hP⟩:∃P,P=BOutR w G p pd (⟨mo,szz,nx,((h2:Nat):Int),bl,ro,6,six,ssub,b,sm⟩:BlkS) (outM (bendM ((emv:Nat):Int) sumv)):=⟨_,rfl⟩;rw[←hP];have HP:=zak hP;obtain⟨A,n1,c1,hB,_⟩:=id hS;have hz:=hB.lt;have hne1:p≠w.heap.size+1:=by omega
 have hne0:w.heap.size≠p:=by omega
 have HX:=zak (zmg (S:=(⟨mo,szz,nx,(h:Int),ta,ro,5,six,ssub,b,sm⟩:BlkS)) (pd:=pd) (A:=A) (n1:=n1) (c1:=c1) (⟨10,ix,sub,tg,la,cr,sz,size,code,data,sq,bl,em,sum⟩:Ms) A3 m3 c3 hB);have HB0:=zak (zc5 (zc5 (Below.refl w.heap.size w) (.cells (msV (⟨10,ix,sub,tg,la,cr,sz,size,code,data,sq,bl,em,sum⟩:Ms) A3 m3 c3) 95)) (.cells (outV none 0 0 outZ none 0 0) 93));have HS0:=zak hS;clear hP hS hB;unfold msV outV outZ at HX HB0;unfold msV;go_enter Tryz.func36,Tryz.ntmps36
 go_upto_region 1 with fail
 refine zed (P:=fun W=>BX w p pd (KMO w (⟨10,ix,sub,tg,la,cr,sz,size,code,data,sq,bl,em,sum⟩:Ms) A3 m3 c3) (⟨mo,szz,nx,(h:Int),ta,ro,5,six,ssub,b,sm⟩:BlkS) A n1 c1 W∧Below w.heap.size w W) ⟨HX.out,HB0.out⟩ (fun W hW=>?_);clear HX HB0;obtain⟨hX,hbw⟩:=hW;have HX:=zak hX;have HBW:=zak hbw;have k1:=hX.msg;have bb:=hX.2.1;have zW:=bb.lt;have zk1:=k1.lt;have zo1:=hX.out.lt;unfold msV at k1;unfold bsrV at bb;dsimp only at bb k1;obtain⟨ai,af,ag,am,ah,aj,an,ao,ap,aq,aa,ab,ac,ae⟩:=zde k1;have aM:=k1.frozen;obtain⟨ak,al,av,aw,ax,ay,az,aA,aK,aL,ar,au⟩:=zdd bb;have aN:=bb.frozen;clear hX hbw;go_wp2_with fail
 refine (zl8 10 _).mono ?_;rintro e w1 ⟨rfl,hw1⟩;subst hw1;rw[show (decide ((10:Int)=1∨(10:Int)=6∨(10:Int)=8))=false by decide];have HX2:=HX;go_wp2_with fail
 refine (zm3 p pd mo szz nx ta ro six ssub h b sm (fun q=>G q∧q < w.heap.size) (⟨10,ix,sub,tg,la,cr,sz,size,code,data,sq,bl,em,sum⟩:Ms) q A3 m3 c3 _ (zms HS0.out HBW.out) h256 hq.out hqr hbl.out hh hq2 hb h2 hh2.out hlt2.out emv hem.out sumv hsv).mono ?_;rintro e w5 ⟨X,As,ns,cs,A5,n5,c5,rfl,h1,h2,h3,h4,h5⟩;unfold outV outM;dsimp only;clear ai af ag am ah aj an ao ap aq aa ab ac ae aM;clear ak al av aw ax ay az aA aK aL ar au aN;clear k1 bb;have F:=zmr (G:=G) (G':=(fun q=>G q∧q < w.heap.size)) HX2.out.2.2.2 HX2.out.1 hz HX2.out.out (fun q h=>⟨.inl h.1,by have:=h.2;omega⟩) h1 h2 h3 h4 h5;have k5:=zjo HX2.out.out h5 (fun e=>hne1 e.symm)
 have HF:=zak F;clear F h1 h2 h3 h4 h5;unfold outV outZ at k5;obtain⟨bB,bC,bD,bU,bV⟩:=zc9 k5;have cE:=k5.frozen;go_wp2_with fail
 obtain⟨F1,F2⟩:=HF.out;rw[←HP.out] at F2;unfold putO at F1 F2;refine zj2 (O:=outM (bendM ((emv:Nat):Int) sumv)) rfl rfl rfl F1 ?_;exact F2
theorem zm9 (p pd:Nat)(mo szz nx ha ta ro six ssub:Int)(b:List UInt8)(sm:Bool)(G:Nat→Prop)(ix sub:Int)(tg la cr sz:Bool)(size code:Nat)(data:List UInt8)(sq bl em:Int)(sum:Nat)(A3:Option Addr)(m3 c3:Nat)(w:World)(hS:BV_ w G p pd (⟨mo,szz,nx,ha,ta,ro,6,six,ssub,b,sm⟩:BlkS)) :
 Calls Tryz.prog 36 #[.pointer (some ⟨p,0,none⟩),.agg (msV (⟨11,ix,sub,tg,la,cr,sz,size,code,data,sq,bl,em,sum⟩:Ms) A3 m3 c3)] w (BOutR w G p pd (blkIdle (⟨mo,szz,nx,ha,ta,ro,6,six,ssub,b,sm⟩:BlkS)) outZ):=by
 obtain⟨P,hP⟩:∃P,P=BOutR w G p pd (blkIdle (⟨mo,szz,nx,ha,ta,ro,6,six,ssub,b,sm⟩:BlkS)) outZ:=⟨_,rfl⟩;rw[←hP];have HP:=zak hP;obtain⟨A,n1,c1,hB,_⟩:=id hS;have hz:=hB.lt;have hne1:p≠w.heap.size+1:=by omega
 have hne0:w.heap.size≠p:=by omega
 have HX:=zak (zmg (S:=(⟨mo,szz,nx,ha,ta,ro,6,six,ssub,b,sm⟩:BlkS)) (pd:=pd) (A:=A) (n1:=n1) (c1:=c1) (⟨11,ix,sub,tg,la,cr,sz,size,code,data,sq,bl,em,sum⟩:Ms) A3 m3 c3 hB);have HB0:=zak (zc5 (zc5 (Below.refl w.heap.size w) (.cells (msV (⟨11,ix,sub,tg,la,cr,sz,size,code,data,sq,bl,em,sum⟩:Ms) A3 m3 c3) 95)) (.cells (outV none 0 0 outZ none 0 0) 93));have HS0:=zak hS;clear hP hS hB;unfold msV outV outZ at HX HB0;unfold msV;go_enter Tryz.func36,Tryz.ntmps36
 go_upto_region 1 with fail
 refine zed (P:=fun W=>BX w p pd (KMO w (⟨11,ix,sub,tg,la,cr,sz,size,code,data,sq,bl,em,sum⟩:Ms) A3 m3 c3) (⟨mo,szz,nx,ha,ta,ro,6,six,ssub,b,sm⟩:BlkS) A n1 c1 W∧Below w.heap.size w W) ⟨HX.out,HB0.out⟩ (fun W hW=>?_);clear HX HB0;obtain⟨hX,hbw⟩:=hW;have HX:=zak hX;have HBW:=zak hbw;have k1:=hX.msg;have bb:=hX.2.1;have zW:=bb.lt;have zk1:=k1.lt;have zo1:=hX.out.lt;unfold msV at k1;unfold bsrV at bb;dsimp only at bb k1;obtain⟨ai,af,ag,am,ah,aj,an,ao,ap,aq,aa,ab,ac,ae⟩:=zde k1;have aM:=k1.frozen;obtain⟨ak,al,av,aw,ax,ay,az,aA,aK,aL,ar,au⟩:=zdd bb;have aN:=bb.frozen;clear hX hbw;go_wp2_with fail
 refine (zl8 11 _).mono ?_;rintro e w1 ⟨rfl,hw1⟩;subst hw1;rw[show (decide ((11:Int)=1∨(11:Int)=6∨(11:Int)=8))=false by decide];have HX2:=HX;have XI:=zak (HX.out.sets (S':=blkIdle (⟨mo,szz,nx,ha,ta,ro,6,six,ssub,b,sm⟩:BlkS)) [.int .i64 0] 7 (by simp) rfl);simp only[World.setCells] at XI;go_upto_region 21 with fail
 refine zed (P:=BX w p pd (KMO w (⟨11,ix,sub,tg,la,cr,sz,size,code,data,sq,bl,em,sum⟩:Ms) A3 m3 c3) (blkIdle (⟨mo,szz,nx,ha,ta,ro,6,six,ssub,b,sm⟩:BlkS)) A n1 c1) XI.out (fun W2 hW2=>?_);clear ai af ag am ah aj an ao ap aq aa ab ac ae aM;clear ak al av aw ax ay az aA aK aL ar au aN;clear XI k1 bb;have HX3:=zak hW2;have k2:=hW2.out;unfold outV outZ at k2;obtain⟨aB,aC,aD,aE,aF⟩:=zc9 k2;have aO:=k2.frozen;clear hW2;go_wp2_with fail
 obtain⟨F1,F2⟩:=zme (G:=G) HX3.out.out (zmc HX3.out.2.1) HX3.out.1 hz;rw[←HP.out] at F2;unfold putO outZ at F1 F2;dsimp only at F1 F2;refine zj2 (O:=⟨[],false,0,0,[]⟩) rfl rfl rfl F1 ?_;exact F2
end
section
open Go.RowKit
theorem zna (k:Int)(hk:k=7∨k=8)(w:World):Calls Tryz.prog 128 #[.int .i64 k] w fun e w'=>e= .returned (.tuple #[.int .i64 (if k=7 then 1408 else 1536),.bool true])∧ w=w':=by
 rcases hk with rfl | rfl
 · go_enter Tryz.func128,Tryz.ntmps128
   go_wp2_with fail
   go_ret2
   exact⟨rfl,rfl⟩
 · go_enter Tryz.func128,Tryz.ntmps128
   go_wp2_with fail
   go_ret2
   exact⟨rfl,rfl⟩
theorem znb (n a b:Int)(w:World):Calls Tryz.prog 129 #[.int .i64 n,.int .i64 a,.int .i64 b] w fun e w'=>e= .returned (.bool (decide (a≤n) && decide (n≤b)))∧ w=w':=by
 by_cases h:a≤n
 · have hd:=decide_eq_true h;go_enter Tryz.func129,Tryz.ntmps129
   go_wp2_with fail
   go_ret
   exact⟨by simp[h],rfl⟩
 · have hd:=decide_eq_false h;go_enter Tryz.func129,Tryz.ntmps129
   go_wp2_with fail
   go_ret
   exact⟨by simp[h],rfl⟩
theorem znc (k:Int)(hk:k=7∨k=8)(node:Int)(h:1≤node∧node≤127)(w:World) :
 Calls Tryz.prog 62 #[.agg #[.int .i64 k,.int .i64 0,.int .i64 node]] w fun e w'=>e= .returned (.tuple #[.int .i64 ((if k=7 then 1408 else 1536)+node),.int .i64 0])∧ Below w.heap.size w w':=by
 have q:=zdg w 134 #[.int .i64 k,.int .i64 0,.int .i64 node];have hbw:=zc5 (Below.refl w.heap.size w) (.cells #[.int .i64 k,.int .i64 0,.int .i64 node] 134);have HB:=zak hbw;clear hbw;obtain⟨h1,h2⟩:=h;rcases hk with rfl | rfl
 all_goals
  obtain⟨cI,cJ,cK⟩:=zc8 q;have ei:=q.frozen;go_enter Tryz.func62,Tryz.ntmps62
  go_wp2_with fail
  refine (zna _ (by simp) _).mono ?_;rintro e w1 ⟨rfl,rfl⟩;go_wp2_with fail
  refine (znb _ _ _ _).mono ?_;rintro e w1 ⟨rfl,rfl⟩;have hd:(decide ((1:Int)≤ node) && decide (node≤127))=true:=by simp[h1,h2]
  rw[hd];go_wp2_with fail
  go_ret2
  refine⟨?_,HB.out⟩
  simp
theorem znd (k:Int)(hk:k=7∨k=8)(node:Int)(h: ¬(1≤node∧node≤127))(w:World) :
 Calls Tryz.prog 62 #[.agg #[.int .i64 k,.int .i64 0,.int .i64 node]] w fun e w'=>e= .returned (.tuple #[.int .i64 0,.int .i64 1])∧ Below w.heap.size w w':=by
 have q:=zdg w 134 #[.int .i64 k,.int .i64 0,.int .i64 node];have hbw:=zc5 (Below.refl w.heap.size w) (.cells #[.int .i64 k,.int .i64 0,.int .i64 node] 134);have HB:=zak hbw;have hd:Hid ((decide ((1:Int)≤ node) && decide (node≤127))=false):=zak (by simp only[Bool.and_eq_false_iff,decide_eq_false_iff_not];omega);clear hbw h;rcases hk with rfl | rfl
 all_goals
  obtain⟨cI,cJ,cK⟩:=zc8 q;have ei:=q.frozen;go_enter Tryz.func62,Tryz.ntmps62
  go_wp2_with fail
  refine (zna _ (by simp) _).mono ?_;rintro e w1 ⟨rfl,rfl⟩;go_wp2_with fail
  refine (znb _ _ _ _).mono ?_;rintro e w1 ⟨rfl,rfl⟩;rw[hd.out];go_wp2_with fail
  go_ret2
  exact⟨rfl,HB.out⟩
end
section
open Go.RowKit Go.Maps
theorem zne (p:Nat)(id:Int)(L:List Ms)(A:Option Addr)(n c:Nat)(W:World)(h1:W.cell? ⟨p,3,none⟩=some (.int .i64 id))(hn:n=L.length)(hL:SlM W A L)(hu:∀M ∈ L,MsOk M)(hl:n≤1000) :
 Calls Tryz.prog 124 #[.pointer (some ⟨p,0,none⟩),.slice A n c] W (SendR id L W):=by
 have HL:=zak hL;have HU:=zak hu;have HN:=zak hn;have hz:=zal h1;simp only at hz;clear hL hu hn;obtain⟨i0,hi0,hz0,hz1,hz2⟩:=info_parts zg1;go_enter Tryz.func124,Tryz.ntmps124
 go_wp2_with fail
 go_loopw [5,7,8,9,12,13,14,15,16,17,18,19,20,21,22,23,24,25,26,27,28,29,30,31,32] (fun v5 _ _ _ v12 _ _ _ _ _ _ _ _ _ _ _ _ _ _ _ _ _ _ _ _ wr=> ∃k A' m' c' ds,v12= .int .i64 (k:Nat)∧ v5= .slice A' m' c'∧k≤n∧Hid (zg3 wr (fun g=>W.heap.size≤g) A' m' c' (frmL id (L.take k)) ds∧Below W.heap.size W wr)) (fun _ _ _ _ v12 _ _ _ _ _ _ _ _ _ _ _ _ _ _ _ _ _ _ _ _ _=>n - (intOf v12).toNat)
 case atStart=>exact⟨0,none,0,0,[],rfl,rfl,Nat.zero_le _,zak ⟨zg3.nil _ _,Below.refl _ _⟩⟩
 case round=>
  obtain⟨k,A',m',c',ds,rfl,rfl,hk,HR⟩:=hrel;by_cases hlt:k < n
  · obtain⟨M,hM⟩:∃M,L[k]? =some M:=⟨L[k]'(by rw[←HN.out];exact hlt),List.getElem?_eq_getElem _⟩;have HM:=zak hM;obtain⟨b,off,Aj,cj,hA,⟨c0,c1,c2,c3,c4,c5,c6,c7,c8,c9,c10,c11,c12,c13⟩,hs⟩:=(HL.out.below HR.out.2) k M hM;subst hA;replace c0:wr.cell? ⟨b,off+k * 14,none⟩=some (.int .i64 M.kind):=c0;have HS:=zak (hs.alloc (.cells (msV M Aj M.data.length cj) 95));have q:=zdg wr 95 (msV M Aj M.data.length cj);have HB:=zak (zc5 HR.out.2 (.cells (msV M Aj M.data.length cj) 95));have HO:=zak (HR.out.1.below (zc5 (Below.refl _ _) (.cells (msV M Aj M.data.length cj) 95)));have zr:=HR.out.2.size;have hU:=HU.out M (List.mem_of_getElem? hM)
    have h1r:wr.cell? ⟨p,3,none⟩=some (.int .i64 id):=(HR.out.2.cell hz).trans h1;have HBD:=zak (fun W' (h:Sl W' Aj (M.data.map bv))=> zgh M Aj M.data.length cj W' rfl h hU.1 hU.2.1 hU.2.2);unfold msV at q HB HO HBD HS;obtain⟨cI,cJ,cK,cS,de,dg,dN,dO,dP,dQ,cT,dH,dI,dJ⟩:=zde q;have ei:=q.frozen;clear hM hs hU;go_wp2_with fail
    refine (HBD.out _ HS.out).mono ?_;rintro e w2 ⟨A2,n2,c2,rfl,hO2,hb2⟩;have HB2:=zak (HB.out.trans (hb2.mono (Nat.le_trans zr (by simp))));have HO2:=zak (HO.out.below hb2);have z2:wr.heap.size+1≤w2.heap.size:=by have:=hb2.size;simpa using this
    have h12:w2.cell? ⟨p,3,none⟩=some (.int .i64 id):=(HB2.out.cell hz).trans h1;have zp2:p < w2.heap.size:=by omega
    have HST:=zak (zg8 id L k M HM.out);clear h1r hb2;by_cases hc:canB M=true
    · rw[if_pos hc] at hO2 ⊢;rw[if_pos hc] at HST;obtain rfl:n2=(laidB M).length:=hO2.hn;have HOd:=zak (hO2.mono (Nat.zero_le _));have HFd:=zak (hO2.own.fin.mono (G:=fun g=>W.heap.size≤g) (fun g h=>by have:=h.1;simp at this;omega));have hml:m'=(frmL id (L.take k)).length:=HO2.out.1.hn;have HAP:=zak (HO.out.2.snoc (d:=(A2,c2)) (N:=wr.heap.size+1) (fun e he g hg=>Nat.lt_succ_of_lt (zgx HR.out.1.1 e he g hg)) (hO2.own.fin.mono (fun g h=>by have:=h.1;simpa using this)));have hml2:(frmL id (L.take k)).length≤n:=by
       have h1:=List.length_filter_le canB (L.take k);have h2:=List.length_take_le k L;unfold frmL;rw[List.length_map];omega
      have hm1:m'≤1000:=by omega
      clear hc hO2 hml hml2;go_wp2_with (at_builtin;refine zd9 _ rfl _ _ 81 rfl zgz zg0 tfr8 i0 _ 40 Tryz.underlying81 hi0 hz0 hz1 hz2 rfl (by omega) (by omega) A' m' c' (frmL id (L.take k)) ds rfl (HO2.out.1.below (zc5 (Below.refl _ _) _)) ⟨id,false,laidB M⟩ (A2,c2) _ rfl (by exact (zdg _ _ _).sl) (HOd.out.alloc _) HFd.out (fun g h=>by simp at h;omega) (by omega) (m'+1) rfl ?_;intro A4 c4 w4 hO4 hg4 hr4)
      have hgb:Below W.heap.size (w2.alloc (.cells #[.int .i64 id,.bool false,.slice A2 (laidB M).length c2] 69)) w4:=(zd0.of_grown (F:=fun g=>W.heap.size≤g) hg4 (fun g e=>zha HO2.out.1 e)).below (by simp;omega) (fun i h=>h);exact⟨⟨k+1,A4,m'+1,c4,_,by congr 1,rfl,by omega,zak ⟨⟨by rw[HST];exact hO4,HAP.out⟩,(zc5 HB2.out _).trans hgb⟩⟩,by simp only[intOf];omega⟩
    · rw[if_neg hc] at hO2 ⊢;rw[if_neg hc] at HST;clear hc hO2;go_wp2_with fail
      exact⟨⟨k+1,A',m',c',ds,by congr 1,rfl,by omega,zak ⟨by rw[HST];exact HO2.out,HB2.out⟩⟩,by simp only[intOf];omega⟩
  · obtain rfl:k=n:=by omega
    go_wp2_with fail
    go_ret
    refine⟨A',m',c',ds,rfl,?_,HR.out.2⟩
    have:=HR.out.1
    rwa [HN.out,List.take_length] at this
structure SdoS where
 sg:SegS
 bk:BlkS
 nin:Int
 nout:Int
 left:Int
def sdoL (X:SdoS) (ps pb:Nat):List Value:=[.pointer (some ⟨ps,0,none⟩),.pointer (some ⟨pb,0,none⟩),.int .i64 X.nin,.int .i64 X.nout,.int .i64 X.left]
structure DV (w:World) (G:Nat→Prop) (p ps pb pd:Nat) (X:SdoS):Prop where
 blk:Blk w p 138 (sdoL X ps pb).toArray
 seg:SV_ w G ps pd X.sg
 bkv:BV_ w G pb pd X.bk
 ne:p≠ps∧p≠pb∧ps≠pb
 ng: ¬G p∧ ¬G ps∧ ¬G pb
theorem SV_.blk_ {w:World}{G:Nat→Prop}{p pd:Nat}{S:SegS}(h:SV_ w G p pd S):∃A n c,Blk w p 195 (srvV S pd A n c):=by
 obtain⟨A,n,c,hB,_⟩:=h;exact⟨A,n,c,hB⟩
theorem BV_.blk_ {w:World}{G:Nat→Prop}{p pd:Nat}{S:BlkS}(h:BV_ w G p pd S):∃A n c,Blk w p 114 (bsrV S pd A n c):=by
 obtain⟨A,n,c,hB,_⟩:=h;exact⟨A,n,c,hB⟩
theorem SV_.kept {w w':World}{G H:Nat→Prop}{p pd:Nat}{S:SegS}(h:SV_ w G p pd S)(hk:∀q,q=p∨G q→q < w.heap.size→w'.heap[q]? =w.heap[q]?)(hz:w.heap.size≤w'.heap.size)(hH:∀q,q < w.heap.size→G q→H q):SV_ w' H p pd S:=by
 obtain⟨A,n,c,hB,hb⟩:=h;refine⟨A,n,c,(hk p (.inl rfl) hB.lt).trans hB,fun h0=>?_⟩;obtain⟨h1,h2,h3,h4,h5⟩:=hb h0;exact⟨h1,h2,zks h3 (fun ad e=>hk _ (.inr (h5 ad e).1) (h5 ad e).2.1),h4,fun ad e=>⟨hH _ (h5 ad e).2.1 (h5 ad e).1,Nat.lt_of_lt_of_le (h5 ad e).2.1 hz,(h5 ad e).2.2⟩⟩
section
variable {w w':World} {G H:Nat→Prop} {p ps pb pd:Nat} {X X':SdoS}
theorem DV.lt (h:DV w G p ps pb pd X):p < w.heap.size∧ps < w.heap.size∧pb < w.heap.size:=by
 obtain⟨A,n,c,hB⟩:=h.seg.blk_;obtain⟨A',n',c',hB'⟩:=h.bkv.blk_;exact⟨h.blk.lt,hB.lt,hB'.lt⟩
theorem DV.keep (h:DV w G p ps pb pd X)(hk:∀q,q=p∨q=ps∨q=pb∨G q→q < w.heap.size→w'.heap[q]? =w.heap[q]?)(hz:w.heap.size≤w'.heap.size):DV w' (fun q=>G q∧q < w.heap.size) p ps pb pd X:=
 ⟨(hk p (.inl rfl) h.lt.1).trans h.blk,h.seg.kept (fun q hq hl=>hk q (by rcases hq with h | h;exact .inr (.inl h);exact .inr (.inr (.inr h))) hl) hz (fun q h1 h2=>⟨h2,h1⟩),h.bkv.keep (fun q hq hl=>hk q (by rcases hq with h | h;exact .inr (.inr (.inl h));exact .inr (.inr (.inr h))) hl) hz (fun q h1 h2=>⟨h2,h1⟩),h.ne,⟨fun g=>h.ng.1 g.1,fun g=>h.ng.2.1 g.1,fun g=>h.ng.2.2 g.1⟩⟩
theorem DV.step (h:DV w G p ps pb pd X)(hb:Below w.heap.size w w'):DV w' (fun q=>G q∧q < w.heap.size) p ps pb pd X:=h.keep (fun q _ hl=>hb.block q hl) hb.size
theorem znf (h:DV w G p ps pb pd X):Calls Tryz.prog 24 #[.pointer (some ⟨p,0,none⟩)] w fun e w'=>e= .returned (.bool ((X.sg.st != 0) || (X.bk.st != 0)))∧ w=w':=by
 obtain⟨A,n,c,hB⟩:=h.seg.blk_;obtain⟨A',n',c',hB'⟩:=h.bkv.blk_;have c0:w.cell? ⟨p,0,none⟩=some (.pointer (some ⟨ps,0,none⟩)):=h.blk.cell 0 rfl;have c1:w.cell? ⟨p,1,none⟩=some (.pointer (some ⟨pb,0,none⟩)):=h.blk.cell 1 rfl;have HS:=zak (zj8 ps pd X.sg A n c w hB);have HB:=zak (zl3 pb pd X.bk A' n' c' w hB');clear h hB hB';go_enter Tryz.func24,Tryz.ntmps24
 go_wp2_with fail
 refine HS.out.mono ?_;rintro e w1 ⟨rfl,hw⟩;subst hw;cases hq:(X.sg.st != 0)
 · go_wp2_with fail
   refine HB.out.mono ?_;rintro e w1 ⟨rfl,hw⟩;subst hw;go_wp2_with fail
   go_ret
   exact⟨by rw[hq];rfl,rfl⟩
 · go_wp2_with fail
   go_ret
   exact⟨by rw[hq];rfl,rfl⟩
end
end
end Go.Proofs.YtkkpjbjmhaecjaaGreat
