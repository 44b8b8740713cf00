/- None -/
import Derived.Test.YtkkpjbjmhaecjaaGreatU21
namespace Go.Proofs.YtkkpjbjmhaecjaaGreat
set_option linter.all false
set_option maxRecDepth 100000
set_option maxHeartbeats 4000000
section
open Go.RowKit
theorem zjp (p pd:Nat)(mo sz nx ta ro ix sub:Int)(h:Nat)(b:List UInt8)(sm:Bool)(G:Nat→Prop)(M:Ms)(q:Nat)(A3:Option Addr)(m3 c3:Nat)(w:World)(hS:BV_ w G p pd ⟨mo,sz,nx,(h:Int),ta,ro,5,ix,sub,b,sm⟩)(h256:b.length≤1000)(hq:M.sq=(q:Int))(hqr:(q:Int)≤ ro)(hbl:M.bl≠0)(hh:h≤1000)(hq2:q≤1000)(hb:0≤M.bl∧M.bl≤1000)(h2:Nat)(hh2:h2=h+q)(hlt2:h2 < btotal b) :
 Calls Tryz.prog 92 #[.pointer (some ⟨p,0,none⟩),.agg (msV M A3 m3 c3)] w (BOutF w G p pd (bgiveS ⟨mo,sz,nx,((h2:Nat):Int),M.bl,ro,5,ix,sub,b,sm⟩) (bgiveL ⟨mo,sz,nx,((h2:Nat):Int),M.bl,ro,5,ix,sub,b,sm⟩)):=by
 obtain⟨A,n1,c1,hB,hby⟩:=id hS;obtain⟨hn1,hc1,hsl,hAn,hAG⟩:=hby (show (5:Int)≠ 0 by decide);obtain⟨P,hP⟩:∃P,P=BOutF w G p pd (bgiveS ⟨mo,sz,nx,((h2:Nat):Int),M.bl,ro,5,ix,sub,b,sm⟩) (bgiveL ⟨mo,sz,nx,((h2:Nat):Int),M.bl,ro,5,ix,sub,b,sm⟩):=⟨_,rfl⟩;rw[←hP];have HP:=zak hP;have hz:=hB.lt;replace hn1:n1=b.length:=hn1;have HN1:=zak hn1;have HAN:=zak hAn;have hne1:p≠w.heap.size+1:=by omega
 have hne0:w.heap.size≠p:=by omega
 have hbn:n1≤1000:=by omega
 have HAG:=zak hAG;obtain⟨tot,ht⟩:∃tot,tot=btotal b:=⟨_,rfl⟩;have HT:=zak ht;have ht40:tot≤1000:=by rw[ht];unfold btotal;omega
 have htl:n1≤7 * tot∧7 * tot≤n1+7:=by rw[ht,hn1];unfold btotal;omega
 obtain⟨htl1,htl2⟩:=htl;rw[←ht] at hlt2;have HQ:=zak hq;have HH2:=zak hh2;have hsum:(h:Int)+(q:Int)=((h2:Nat):Int):=by omega
 have HBL:=zak hbl;have hblb:(M.bl == 0)=false:=by simp[hbl]
 obtain⟨hb0,hb1⟩:=hb;have HX:Hid (BXS w G p pd (KMO w M A3 m3 c3) ⟨mo,sz,nx,(h:Int),ta,ro,5,ix,sub,b,sm⟩ A n1 c1 b _):=zak ⟨zi4 M A3 m3 c3 hB,(hsl.alloc _).alloc _,fun ad e=>⟨.inl (hAG ad e).1,by have:=(hAG ad e).2.1;simp;omega,(hAG ad e).2.2,by have:=(hAG ad e).2.1;omega⟩⟩;have HB0:=zak (za7 (za7 (Below.refl w.heap.size w) (.cells (msV M A3 m3 c3) 95)) (.cells (outV none 0 0 outZ none 0 0) 93));clear hP hS hB hby hn1 hsl hAn hAG ht hq hh2 hbl;unfold msV outV outZ at HX;unfold msV;go_enter Tryz.func92,Tryz.ntmps92
 go_upto_region 1 with fail
 refine zb6 (P:=BXS w G p pd (KMO w M A3 m3 c3) ⟨mo,sz,nx,(h:Int),ta,ro,5,ix,sub,b,sm⟩ A n1 c1 b) HX.out (fun W hW=>?_);clear HX;have HX1:=zak hW.drew;have zW:=hW.1.2.1.lt;have zk1:=hW.1.msg.lt;have zo1:=hW.1.out.lt;have b5:W.cell? ⟨p,5,none⟩=some (.int .i64 ro):=hW.1.2.1.cell 5 rfl;have b10:W.cell? ⟨w.heap.size,10,none⟩=some (.int .i64 (q:Int)):=by rw[←HQ.out];exact hW.1.msg.cell 10 rfl
 clear hW;refine wp_region_held_drew (S:=(fun w'=>(∀qA:Addr,qA.block < (W).heap.size→w'.cell? qA=(W).cell? qA)∧ Below (W).heap.size (W) w')) (by kernel_rfl) ?hS1 (fun hHeld=>?rest1)
 case hS1=>exact kSn
 case' rest1=>skip
 iterate 9 (refine tkN ?_;try simp only[PqL,Act.put])
 refine wpAnyH_done (by kernel_rfl) ?_ _;have hEnd:=hHeld.2
 repeat (clear hHeld)
 clear hEnd b5 b10 zW zk1 zo1;go_upto_region 3 with fail
 refine zb6 (P:=BXS w G p pd (KMO w M A3 m3 c3) ⟨mo,sz,nx,(h:Int),ta,ro,5,ix,sub,b,sm⟩ A n1 c1 b) HX1.out (fun W1 hW1=>?_);clear HX1;have HX1:=zak hW1;have k1:=hW1.1.msg;have bb:=hW1.1.2.1;have zW:=bb.lt;have zk1:=k1.lt;have zo1:=hW1.1.out.lt;have g10:W1.cell? ⟨w.heap.size,10,none⟩=some (.int .i64 (q:Int)):=by rw[←HQ.out];exact k1.cell 10 rfl
 have g3:W1.cell? ⟨p,3,none⟩=some (.int .i64 (h:Int)):=bb.cell 3 rfl;have hw2:IntKind.i64.wrap ((h2:Nat):Int)=((h2:Nat):Int):=by unfold IntKind.wrap;simp[IntKind.signed,IntKind.bits];omega
 have HX2:=zak (hW1.sets (S':=⟨mo,sz,nx,((h2:Nat):Int),ta,ro,5,ix,sub,b,sm⟩) [.int .i64 ((h2:Nat):Int)] 3 (by simp) rfl).drew;simp only[World.setCells] at HX2;unfold msV at k1;unfold bsrV at bb;dsimp only at bb;obtain⟨am,ai,aj,an,ah,ak,al,ao,ap,aq,aa,ab,ac,ae⟩:=zbd k1;have aD:=k1.frozen;obtain⟨ar,au,av,aw,ax,ay,az,aA,aB,aC,af,ag⟩:=zbc bb;have aE:=bb.frozen;clear hW1;go_upto_region 5 with fail
 refine zaj (fun w'=>w'.cell? ⟨p,3,none⟩=some (.int .i64 (h:Int))∧ w'.cell? ⟨w.heap.size,10,none⟩=some (.int .i64 (q:Int))) [0,1,2,3,4,5,6,7,8,9,10] (by kernel_rfl) ?hS12 (fun hHeld=>?rest12)
 case hS12=>((try dsimp only);exact⟨g3,g10⟩)
 case' rest12=>skip
 refine tkT 0 ?_;try simp only[PqL,Act.put]
 refine tkT 1 ?_;try simp only[PqL,Act.put]
 refine tkT 2 ?_;try simp only[PqL,Act.put]
 refine tkT 3 ?_;try simp only[PqL,Act.put]
 refine tkT 4 ?_;try simp only[PqL,Act.put]
 refine tkT 5 ?_;try simp only[PqL,Act.put]
 refine tkT 6 ?_;try simp only[PqL,Act.put]
 refine tkT 7 ?_;try simp only[PqL,Act.put]
 refine tkT 8 ?_;try simp only[PqL,Act.put]
 refine tkT 9 ?_;try simp only[PqL,Act.put]
 refine tkT 10 ?_;try simp only[PqL,Act.put]
 refine zah (i:=11) (o:=_) rfl (by kernel_rfl) (by kernel_rfl) (fun K hK=>?_)
 go_simp
 refine hK.out _ _ ?rest25
 case' rest25=>(clear hK K;try simp only[PqL,Act.put])
 refine zai (by kernel_rfl) ?_ _
 repeat (clear hHeld)
 clear g3 g10;go_upto_region 6 with fail
 refine zb6 (P:=BXS w G p pd (KMO w M A3 m3 c3) ⟨mo,sz,nx,((h2:Nat):Int),ta,ro,5,ix,sub,b,sm⟩ A n1 c1 b) HX2.out (fun W2 hW2=>?_);clear am ai aj an ah ak al ao ap aq aa ab ac ae aD;clear ar au av aw ax ay az aA aB aC af ag aE;clear HX1 HX2 k1 bb zW zk1 zo1 hw2;have k1:=hW2.1.msg;have bb:=hW2.1.2.1;have zW:=bb.lt;have zk1:=k1.lt;have HX3:=zak (hW2.sets (S':=⟨mo,sz,nx,((h2:Nat):Int),M.bl,ro,5,ix,sub,b,sm⟩) [.int .i64 M.bl] 4 (by simp) rfl);simp only[World.setCells] at HX3;unfold msV at k1;unfold bsrV at bb;dsimp only at bb;obtain⟨am,ai,aj,an,ah,ak,al,ao,ap,aq,aa,ab,ac,ae⟩:=zbd k1;have aD:=k1.frozen
 obtain⟨ar,au,av,aw,ax,ay,az,aA,aB,aC,af,ag⟩:=zbc bb;have aE:=bb.frozen;clear hW2;go_upto_region 7 with fail
 refine zb6 (P:=BXS w G p pd (KMO w M A3 m3 c3) ⟨mo,sz,nx,((h2:Nat):Int),M.bl,ro,5,ix,sub,b,sm⟩ A n1 c1 b) HX3.out (fun W3 hW3=>?_);clear am ai aj an ah ak al ao ap aq aa ab ac ae aD;clear ar au av aw ax ay az aA aB aC af ag aE;clear HX3 k1 bb zW zk1;have HX3:=zak hW3;have HX4:=zak hW3.drew;have zW:=hW3.1.2.1.lt;have zk1:=hW3.1.msg.lt;have zo1:=hW3.1.out.lt;have b3:W3.cell? ⟨p,3,none⟩=some (.int .i64 ((h2:Nat):Int)):=hW3.1.2.1.cell 3 rfl;clear hW3;refine wp_region_held_drew (S:=(fun w'=>(∀qA:Addr,qA.block < (W3).heap.size→w'.cell? qA=(W3).cell? qA)∧ Below (W3).heap.size (W3) w')) (by kernel_rfl) ?hS27 (fun hHeld=>?rest27)
 case hS27=>exact kSn
 case' rest27=>skip
 iterate 6 (refine tkN ?_;try simp only[PqL,Act.put])
 refine kRd 6 (fun K hK=>?_)
 go_simp
 refine (zjk p pd ⟨mo,sz,nx,((h2:Nat):Int),M.bl,ro,5,ix,sub,b,sm⟩ A n1 c1 W3.drew HX3.out.1.2.1 HN1.out (by omega)).mono ?_;rintro e w8 ⟨rfl,hw8⟩;subst hw8;rw[show btotal (BlkS.b ⟨mo,sz,nx,((h2:Nat):Int),M.bl,ro,5,ix,sub,b,sm⟩)=tot from HT.out.symm];dsimp only;refine hK.out _ _ ?hS36 (fun hHeld=>?rest36)
 case hS36=>exact kSn
 case' rest36=>(clear hK K;try simp only[PqL,Act.put])
 refine tkH 7 ?_;try simp only[PqL,Act.put]
 refine wpAnyH_done (by kernel_rfl) ?_ _;have hEnd:=hHeld.2
 repeat (clear hHeld)
 clear hEnd b3;have hlt3:(h2:Int) < (tot:Int):=by omega
 go_upto_region 8 with fail
 refine zb6 (P:=BXS w G p pd (KMO w M A3 m3 c3) ⟨mo,sz,nx,((h2:Nat):Int),M.bl,ro,5,ix,sub,b,sm⟩ A n1 c1 b) HX4.out (fun W4 hW4=>?_);clear HX3 HX4 zW zk1 zo1;have HX4:=zak hW4;have hBV:BV_ W4 (fun q=>G q∧q≠w.heap.size+1) p pd ⟨mo,sz,nx,((h2:Nat):Int),M.bl,ro,5,ix,sub,b,sm⟩:=⟨A,n1,c1,hW4.1.2.1,fun _=>⟨HN1.out,hc1,hW4.2.1,HAN.out,fun ad e=>⟨⟨(HAG.out ad e).1,(hW4.2.2 ad e).2.2.2⟩,(hW4.2.2 ad e).2.1,(hW4.2.2 ad e).2.2.1⟩⟩⟩;have HBV:=zak hBV;clear hW4 hBV;go_wp2_with fail
 refine (zjo p pd ⟨mo,sz,nx,((h2:Nat):Int),M.bl,ro,5,ix,sub,b,sm⟩ _ W4 HBV.out (show (5:Int)≠ 0 by decide) (by show b.length≤1000;have:=HN1.out;omega) h2 rfl (by rw[←HT.out];exact hlt2) ⟨hb0,hb1⟩).mono ?_;rintro e w5 ⟨As,ns,cs,ds,rfl,hOM,hBV5,ho5⟩;have hK5:=zhe HX4.out.1.out ho5 (fun e=>hne1 e.symm);have zz4:w.heap.size+2≤W4.heap.size:=HX4.out.1.2.2.2;have F1:=zhs (As':=As) (ns':=ns) (cs':=cs) (O':=outZ) (A':=none) (n':=0) (c':=0) hK5;have F2:BOutF w G p pd (bgiveS ⟨mo,sz,nx,((h2:Nat):Int),M.bl,ro,5,ix,sub,b,sm⟩) (bgiveL ⟨mo,sz,nx,((h2:Nat):Int),M.bl,ro,5,ix,sub,b,sm⟩) (.returned (.agg (outV As ns cs outZ none 0 0))) (putO w5 (w.heap.size+1) As ns cs outZ none 0 0):=by
  refine⟨As,ns,cs,ds,rfl,(hOM.keep (fun g hg _=>zia (show g≠w.heap.size+1 by omega) _ _ _ _ _ _ _)).mono (fun g _ hg=>by omega),hBV5.keep (fun q hq _=>zia (by rcases hq with rfl | hq;exact hne1;exact hq.2) _ _ _ _ _ _ _) (by rw[zib];exact Nat.le_refl _) (fun q _ hq=>hq.1),zhu (HX4.out.1.1.trans ho5 (fun _ _ h=>h)) (by omega) _ _ _ _ _ _ _⟩
 have HF:=zak (And.intro F1 F2);unfold outV outZ at hK5;unfold outV outZ;dsimp only;obtain⟨io,ip,iq,ir,iu⟩:=za9 hK5;have jg:=hK5.frozen;clear F1 F2 hOM hBV5 ho5;go_wp2_with fail
 obtain⟨F1,F2⟩:=HF.out;rw[←HP.out] at F2;unfold putO outZ at F1 F2;dsimp only at F1 F2;refine zhr (O:=⟨[],false,0,0,[]⟩) rfl rfl rfl F1 ?_;exact F2
theorem zjq (p pd:Nat)(mo sz nx ta ro ix sub:Int)(h:Nat)(b:List UInt8)(sm:Bool)(G:Nat→Prop)(M:Ms)(q:Nat)(A3:Option Addr)(m3 c3:Nat)(w:World)(hS:BV_ w G p pd ⟨mo,sz,nx,(h:Int),ta,ro,5,ix,sub,b,sm⟩)(h256:b.length≤1000)(hq:M.sq=(q:Int))(hqr:(q:Int)≤ ro)(hbl:M.bl≠0)(hh:h≤1000)(hq2:q≤1000)(hb:0≤M.bl∧M.bl≤1000)(h2:Nat)(hh2:h2=h+q)(hlt2:h2=btotal b)(em:Nat)(hem:em=7 * btotal b - b.length)(sumv:Nat)(HSV:Hid (sumv=if sm=true then sum16L b else 0)) :
 Calls Tryz.prog 92 #[.pointer (some ⟨p,0,none⟩),.agg (msV M A3 m3 c3)] w (BOutR w G p pd ⟨mo,sz,nx,((h2:Nat):Int),M.bl,ro,6,ix,sub,b,sm⟩ (outM (bendM ((em:Nat):Int) sumv))):=by
 obtain⟨A,n1,c1,hB,hby⟩:=id hS;obtain⟨hn1,hc1,hsl,hAn,hAG⟩:=hby (show (5:Int)≠ 0 by decide);obtain⟨P,hP⟩:∃P,P=BOutR w G p pd ⟨mo,sz,nx,((h2:Nat):Int),M.bl,ro,6,ix,sub,b,sm⟩ (outM (bendM ((em:Nat):Int) sumv)):=⟨_,rfl⟩;rw[←hP];have HP:=zak hP;have hz:=hB.lt;replace hn1:n1=b.length:=hn1;have HN1:=zak hn1;have HAN:=zak hAn;have hne1:p≠w.heap.size+1:=by omega
 have hne0:w.heap.size≠p:=by omega
 have hbn:n1≤1000:=by omega
 have HAG:=zak hAG;obtain⟨tot,ht⟩:∃tot,tot=btotal b:=⟨_,rfl⟩;have HT:=zak ht;have ht40:tot≤1000:=by rw[ht];unfold btotal;omega
 have htl:n1≤7 * tot∧7 * tot≤n1+7:=by rw[ht,hn1];unfold btotal;omega
 obtain⟨htl1,htl2⟩:=htl;rw[←ht] at hlt2;rw[←ht,←HN1.out] at hem;have HLT2:=zak hlt2;clear hlt2;have HEM:=zak hem;have hem7:em≤7:=by omega
 have HQ:=zak hq;have HH2:=zak hh2;have hsum:(h:Int)+(q:Int)=((h2:Nat):Int):=by omega
 have HBL:=zak hbl;have hblb:(M.bl == 0)=false:=by simp[hbl]
 obtain⟨hb0,hb1⟩:=hb;have HX:Hid (BXS w G p pd (KMO w M A3 m3 c3) ⟨mo,sz,nx,(h:Int),ta,ro,5,ix,sub,b,sm⟩ A n1 c1 b _):=zak ⟨zi4 M A3 m3 c3 hB,(hsl.alloc _).alloc _,fun ad e=>⟨.inl (hAG ad e).1,by have:=(hAG ad e).2.1;simp;omega,(hAG ad e).2.2,by have:=(hAG ad e).2.1;omega⟩⟩;have HB0:=zak (za7 (za7 (Below.refl w.heap.size w) (.cells (msV M A3 m3 c3) 95)) (.cells (outV none 0 0 outZ none 0 0) 93));have hemt:7 * tot - n1=em:=hem.symm;clear hP hS hB hby hn1 hsl hAn hAG ht hq hh2 hbl hem;unfold msV outV outZ at HX;unfold msV;go_enter Tryz.func92,Tryz.ntmps92
 go_upto_region 1 with fail
 refine zb6 (P:=BXS w G p pd (KMO w M A3 m3 c3) ⟨mo,sz,nx,(h:Int),ta,ro,5,ix,sub,b,sm⟩ A n1 c1 b) HX.out (fun W hW=>?_);clear HX;have HX1:=zak hW.drew;have zW:=hW.1.2.1.lt;have zk1:=hW.1.msg.lt;have zo1:=hW.1.out.lt;have b5:W.cell? ⟨p,5,none⟩=some (.int .i64 ro):=hW.1.2.1.cell 5 rfl;have b10:W.cell? ⟨w.heap.size,10,none⟩=some (.int .i64 (q:Int)):=by rw[←HQ.out];exact hW.1.msg.cell 10 rfl
 clear hW;refine wp_region_held_drew (S:=(fun w'=>(∀qA:Addr,qA.block < (W).heap.size→w'.cell? qA=(W).cell? qA)∧ Below (W).heap.size (W) w')) (by kernel_rfl) ?hS39 (fun hHeld=>?rest39)
 case hS39=>exact kSn
 case' rest39=>skip
 iterate 9 (refine tkN ?_;try simp only[PqL,Act.put])
 refine wpAnyH_done (by kernel_rfl) ?_ _;have hEnd:=hHeld.2
 repeat (clear hHeld)
 clear hEnd b5 b10 zW zk1 zo1;go_upto_region 3 with fail
 refine zb6 (P:=BXS w G p pd (KMO w M A3 m3 c3) ⟨mo,sz,nx,(h:Int),ta,ro,5,ix,sub,b,sm⟩ A n1 c1 b) HX1.out (fun W1 hW1=>?_);clear HX1;have HX1:=zak hW1;have k1:=hW1.1.msg;have bb:=hW1.1.2.1;have zW:=bb.lt;have zk1:=k1.lt;have zo1:=hW1.1.out.lt;have g10:W1.cell? ⟨w.heap.size,10,none⟩=some (.int .i64 (q:Int)):=by rw[←HQ.out];exact k1.cell 10 rfl
 have g3:W1.cell? ⟨p,3,none⟩=some (.int .i64 (h:Int)):=bb.cell 3 rfl;have hw2:IntKind.i64.wrap ((h2:Nat):Int)=((h2:Nat):Int):=by unfold IntKind.wrap;simp[IntKind.signed,IntKind.bits];omega
 have HX2:=zak (hW1.sets (S':=⟨mo,sz,nx,((h2:Nat):Int),ta,ro,5,ix,sub,b,sm⟩) [.int .i64 ((h2:Nat):Int)] 3 (by simp) rfl).drew;simp only[World.setCells] at HX2;unfold msV at k1;unfold bsrV at bb;dsimp only at bb;obtain⟨am,ai,aj,an,ah,ak,al,ao,ap,aq,aa,ab,ac,ae⟩:=zbd k1;have aD:=k1.frozen;obtain⟨ar,au,av,aw,ax,ay,az,aA,aB,aC,af,ag⟩:=zbc bb;have aE:=bb.frozen;clear hW1;go_upto_region 5 with fail
 refine zaj (fun w'=>w'.cell? ⟨p,3,none⟩=some (.int .i64 (h:Int))∧ w'.cell? ⟨w.heap.size,10,none⟩=some (.int .i64 (q:Int))) [0,1,2,3,4,5,6,7,8,9,10] (by kernel_rfl) ?hS50 (fun hHeld=>?rest50)
 case hS50=>((try dsimp only);exact⟨g3,g10⟩)
 case' rest50=>skip
 refine tkT 0 ?_;try simp only[PqL,Act.put]
 refine tkT 1 ?_;try simp only[PqL,Act.put]
 refine tkT 2 ?_;try simp only[PqL,Act.put]
 refine tkT 3 ?_;try simp only[PqL,Act.put]
 refine tkT 4 ?_;try simp only[PqL,Act.put]
 refine tkT 5 ?_;try simp only[PqL,Act.put]
 refine tkT 6 ?_;try simp only[PqL,Act.put]
 refine tkT 7 ?_;try simp only[PqL,Act.put]
 refine tkT 8 ?_;try simp only[PqL,Act.put]
 refine tkT 9 ?_;try simp only[PqL,Act.put]
 refine tkT 10 ?_;try simp only[PqL,Act.put]
 refine zah (i:=11) (o:=_) rfl (by kernel_rfl) (by kernel_rfl) (fun K hK=>?_)
 go_simp
 refine hK.out _ _ ?rest63
 case' rest63=>(clear hK K;try simp only[PqL,Act.put])
 refine zai (by kernel_rfl) ?_ _
 repeat (clear hHeld)
 clear g3 g10;go_upto_region 6 with fail
 refine zb6 (P:=BXS w G p pd (KMO w M A3 m3 c3) ⟨mo,sz,nx,((h2:Nat):Int),ta,ro,5,ix,sub,b,sm⟩ A n1 c1 b) HX2.out (fun W2 hW2=>?_);clear am ai aj an ah ak al ao ap aq aa ab ac ae aD;clear ar au av aw ax ay az aA aB aC af ag aE;clear HX1 HX2 k1 bb zW zk1 zo1 hw2;have k1:=hW2.1.msg;have bb:=hW2.1.2.1;have zW:=bb.lt;have zk1:=k1.lt;have HX3:=zak (hW2.sets (S':=⟨mo,sz,nx,((h2:Nat):Int),M.bl,ro,5,ix,sub,b,sm⟩) [.int .i64 M.bl] 4 (by simp) rfl);simp only[World.setCells] at HX3;unfold msV at k1;unfold bsrV at bb;dsimp only at bb;obtain⟨am,ai,aj,an,ah,ak,al,ao,ap,aq,aa,ab,ac,ae⟩:=zbd k1;have aD:=k1.frozen
 obtain⟨ar,au,av,aw,ax,ay,az,aA,aB,aC,af,ag⟩:=zbc bb;have aE:=bb.frozen;clear hW2;go_upto_region 7 with fail
 refine zb6 (P:=BXS w G p pd (KMO w M A3 m3 c3) ⟨mo,sz,nx,((h2:Nat):Int),M.bl,ro,5,ix,sub,b,sm⟩ A n1 c1 b) HX3.out (fun W3 hW3=>?_);clear am ai aj an ah ak al ao ap aq aa ab ac ae aD;clear ar au av aw ax ay az aA aB aC af ag aE;clear HX3 k1 bb zW zk1;have HX3:=zak hW3;have HX4:=zak hW3.drew;have zW:=hW3.1.2.1.lt;have zk1:=hW3.1.msg.lt;have zo1:=hW3.1.out.lt;have b3:W3.cell? ⟨p,3,none⟩=some (.int .i64 ((h2:Nat):Int)):=hW3.1.2.1.cell 3 rfl;clear hW3;refine wp_region_held_drew (S:=(fun w'=>(∀qA:Addr,qA.block < (W3).heap.size→w'.cell? qA=(W3).cell? qA)∧ Below (W3).heap.size (W3) w')) (by kernel_rfl) ?hS65 (fun hHeld=>?rest65)
 case hS65=>exact kSn
 case' rest65=>skip
 iterate 6 (refine tkN ?_;try simp only[PqL,Act.put])
 refine kRd 6 (fun K hK=>?_)
 go_simp
 refine (zjk p pd ⟨mo,sz,nx,((h2:Nat):Int),M.bl,ro,5,ix,sub,b,sm⟩ A n1 c1 W3.drew HX3.out.1.2.1 HN1.out (by omega)).mono ?_;rintro e w8 ⟨rfl,hw8⟩;subst hw8;rw[show btotal (BlkS.b ⟨mo,sz,nx,((h2:Nat):Int),M.bl,ro,5,ix,sub,b,sm⟩)=tot from HT.out.symm];dsimp only;refine hK.out _ _ ?hS74 (fun hHeld=>?rest74)
 case hS74=>exact kSn
 case' rest74=>(clear hK K;try simp only[PqL,Act.put])
 refine tkH 7 ?_;try simp only[PqL,Act.put]
 refine wpAnyH_done (by kernel_rfl) ?_ _;have hEnd:=hHeld.2
 repeat (clear hHeld)
 clear hEnd b3;have hlt3: ¬(h2:Int) < (tot:Int):=by have:=HLT2.out;omega
 have hem1:(7:Int) * (tot:Int) - (n1:Int)=(em:Int):=by omega
 clear hemt;have hwr1:IntKind.i64.wrap (7 * (tot:Int))=7 * (tot:Int):=by unfold IntKind.wrap;simp[IntKind.signed,IntKind.bits];omega
 have hwr2:IntKind.i64.wrap (em:Int)=(em:Int):=by unfold IntKind.wrap;simp[IntKind.signed,IntKind.bits];omega
 have HX5:=zak (HX4.out.sets (S':=⟨mo,sz,nx,((h2:Nat):Int),M.bl,ro,6,ix,sub,b,sm⟩) [.int .i64 6] 7 (by simp) rfl);simp only[World.setCells] at HX5;have bb:=HX4.out.1.2.1;unfold bsrV at bb;dsimp only at bb;have zp4:p < W3.drew.heap.size:=zW;obtain⟨ar,au,av,aw,ax,ay,az,aA,aB,aC,af,ag⟩:=zbc bb;have aE:=bb.frozen;go_upto_region 10 with fail
 refine zb6 (P:=BXS w G p pd (KMO w M A3 m3 c3) ⟨mo,sz,nx,((h2:Nat):Int),M.bl,ro,6,ix,sub,b,sm⟩ A n1 c1 b) HX5.out (fun W5 hW5=>?_);clear ar au av aw ax ay az aA aB aC af ag aE;clear HX3 HX4 HX5 bb zW zk1 zo1 zp4;have HX5:=zak hW5;have zp5:=hW5.1.2.1.lt;have zz5:w.heap.size+2≤W5.heap.size:=hW5.1.2.2.2;have b10:W5.cell? ⟨p,10,none⟩=some (.slice A n1 c1):=hW5.1.2.1.cell 10 rfl;have HG5:=zak (Blk.new W5.drew 95 (msV (bendM ((em:Nat):Int) 0) none 0 0));have HX5d:=zak (hW5.drew.step (za7 (Below.refl _ _) (.cells (msV (bendM ((em:Nat):Int) 0) none 0 0) 95)));unfold msV bendM at HG5 HX5d;dsimp only at HG5 HX5d
 clear hW5;go_cut [5] (fun s5 wx=> ∃g,s5= .pointer (some ⟨g,0,none⟩)∧ w.heap.size+2≤g∧Blk wx g 95 (msV (bendM ((em:Nat):Int) 0) none 0 0)∧ BXS w G p pd (KMO w M A3 m3 c3) ⟨mo,sz,nx,((h2:Nat):Int),M.bl,ro,6,ix,sub,b,sm⟩ A n1 c1 b wx)
 case first=>
  refine wp_region_held_drew (S:=(fun w'=>(∀qA:Addr,qA.block < (W5).heap.size→w'.cell? qA=(W5).cell? qA)∧ Below (W5).heap.size (W5) w')) (by kernel_rfl) ?hS77 (fun hHeld=>?rest77)
  case hS77=>exact kSn
  case' rest77=>skip
  refine tkH 0 ?_;try simp only[PqL,Act.put]
  refine tkH 3 ?_;try simp only[PqL,Act.put]
  refine tkH 4 ?_;try simp only[PqL,Act.put]
  refine tkH 5 ?_;try simp only[PqL,Act.put]
  refine tkH 6 ?_;try simp only[PqL,Act.put]
  refine tkH 7 ?_;try simp only[PqL,Act.put]
  refine wpAnyH_ready (rs:=[1,10]) (by kernel_rfl) (by simp) (AllReadyH.cons (o:=_) rfl (fun K hK=>?_) (AllReadyH.cons (o:=_) rfl (fun K hK=>?_) .nil))
  · go_simp
    refine (zjk p pd ⟨mo,sz,nx,((h2:Nat):Int),M.bl,ro,6,ix,sub,b,sm⟩ A n1 c1 W5.drew HX5.out.1.2.1 HN1.out (by omega)).mono ?_;rintro e w8 ⟨rfl,hw8⟩;subst hw8;rw[show btotal (BlkS.b ⟨mo,sz,nx,((h2:Nat):Int),M.bl,ro,6,ix,sub,b,sm⟩)=tot from HT.out.symm];dsimp only;refine hK.out _ _ ?hS85 (fun hHeld=>?rest85)
    case hS85=>exact kSn
    case' rest85=>(clear hK K;try simp only[PqL,Act.put])
    refine tkH 2 ?_;try simp only[PqL,Act.put]
    refine tkH 8 ?_;try simp only[PqL,Act.put]
    refine tkH 9 ?_;try simp only[PqL,Act.put]
    refine kRd 10 (fun K hK=>?_)
    go_simp
    refine hK.out _ _ ?hS91 (fun hHeld=>?rest91)
    case hS91=>exact kSn
    case' rest91=>(clear hK K;try simp only[PqL,Act.put])
    refine kRd 11 (fun K hK=>?_)
    go_simp
    refine hK.out _ _ ?hS94 (fun hHeld=>?rest94)
    case hS94=>exact kSn
    case' rest94=>(clear hK K;try simp only[PqL,Act.put])
    refine wpAnyH_done (by kernel_rfl) ?_ _;have hEnd:=hHeld.2
    repeat (clear hHeld)
    go_wp2_with fail
    go_meet
    exact⟨W5.heap.size,rfl,zz5,HG5.out,HX5d.out⟩
  · go_simp
    refine hK.out _ _ ?hS96 (fun hHeld=>?rest96)
    case hS96=>exact kSn
    case' rest96=>(clear hK K;try simp only[PqL,Act.put])
    refine kRd 1 (fun K hK=>?_)
    go_simp
    refine (zjk p pd ⟨mo,sz,nx,((h2:Nat):Int),M.bl,ro,6,ix,sub,b,sm⟩ A n1 c1 _ ((show Blk W5.drew p 114 _ from HX5.out.1.2.1).alloc _) HN1.out (by omega)).mono ?_;rintro e w8 ⟨rfl,hw8⟩;subst hw8;rw[show btotal (BlkS.b ⟨mo,sz,nx,((h2:Nat):Int),M.bl,ro,6,ix,sub,b,sm⟩)=tot from HT.out.symm];dsimp only;refine hK.out _ _ ?hS99 (fun hHeld=>?rest99)
    case hS99=>exact kSn
    case' rest99=>(clear hK K;try simp only[PqL,Act.put])
    refine tkH 2 ?_;try simp only[PqL,Act.put]
    refine tkH 8 ?_;try simp only[PqL,Act.put]
    refine tkH 9 ?_;try simp only[PqL,Act.put]
    refine kRd 11 (fun K hK=>?_)
    go_simp
    refine hK.out _ _ ?hS105 (fun hHeld=>?rest105)
    case hS105=>exact kSn
    case' rest105=>(clear hK K;try simp only[PqL,Act.put])
    refine wpAnyH_done (by kernel_rfl) ?_ _;have hEnd:=hHeld.2
    repeat (clear hHeld)
    go_wp2_with fail
    go_meet
    exact⟨W5.heap.size,rfl,zz5,HG5.out,HX5d.out⟩
 case rest=>
  obtain⟨g,rfl,hgz,hGm,hXm⟩:=hcut;have HGm0:=zak hGm;have HXm:=zak hXm;have bb:=hXm.1.2.1;have zpc:=bb.lt;have zgc:=hGm.lt;have hgp:g≠p:=by omega
  unfold bsrV at bb;dsimp only at bb;obtain⟨ar,au,av,aw,ax,ay,az,aA,aB,aC,af,ag⟩:=zbc bb;have aE:=bb.frozen;clear hXm hGm;cases hsm:sm
  · subst hsm;go_upto_region 13 with fail
    refine zb6 (P:=fun W9=>Blk W9 g 95 (msV (bendM ((em:Nat):Int) 0) none 0 0)∧ BXS w G p pd (KMO w M A3 m3 c3) ⟨mo,sz,nx,((h2:Nat):Int),M.bl,ro,6,ix,sub,b,false⟩ A n1 c1 b W9) ⟨HGm0.out,HXm.out⟩ (fun W9 hW9=>?_);clear ar au av aw ax ay az aA aB aC af ag aE;clear HGm0 HXm bb;obtain⟨hG9,hX9⟩:=hW9;have HGm:=zak (Blk.new W9 95 (msV (bendM ((em:Nat):Int) 0) none 0 0));have HX9:=zak (hX9.step (za7 (Below.refl _ _) (.cells (msV (bendM ((em:Nat):Int) 0) none 0 0) 95)));have zz9:=hX9.1.2.2.2;have zg9:=hG9.lt;unfold msV bendM at HGm HX9 hG9;obtain⟨aV,aW,aX,aY,aZ,ba,bc,be,bf,bg,aR,aS,aT,aU⟩:=zbd hG9;have bm:=hG9.frozen
    clear hX9;go_wp2_with fail
    refine (zio (some ⟨W9.heap.size,0,none⟩) 1 1 _).mono ?_;rintro e w6 ⟨rfl,hb6⟩;have HX6:=zak (HX9.out.step hb6);have HG6:=zak (HGm.out.below hb6 HGm.out.lt);have k2:=HX6.out.1.out;unfold outV outZ at k2;unfold outV outZ;dsimp only;clear aV aW aX aY aZ ba bc be bf bg aR aS aT aU bm;obtain⟨aF,aG,aH,aI,aJ⟩:=za9 k2;have aP:=k2.frozen;clear hb6 hG9;go_wp2_with fail
    obtain⟨F1,F2⟩:=zi1 (fun _=>False) HX6.out.1.out zz9 (M:=(bendM ((em:Nat):Int) 0)) HG6.out (zbs.nil _ _) (FIn.nil _) (HX6.out.bv rfl HN1.out hc1 HAN.out) HX6.out.1.1 hz;rw[show (bendM ((em:Nat):Int) 0)=(bendM ((em:Nat):Int) sumv) by rw[HSV.out];simp] at F2;rw[←HP.out] at F2;unfold putO outZ at F1 F2;dsimp only at F1 F2;refine zhr (O:=⟨[],false,0,0,[]⟩) rfl rfl rfl F1 ?_;exact F2
  · subst hsm;go_wp2_with fail
    refine (zjc A n1 c1 b _ HN1.out (by omega) HXm.out.2.1).mono ?_;rintro e w7 ⟨rfl,hb7⟩;have hG7:=HGm0.out.below hb7 HGm0.out.lt;have HG7:=zak hG7;have HX7:=zak (HXm.out.step hb7);have zg7:=hG7.lt;have HGs:=zak (hG7.set_ 13 (.int .u16 (sum16L b:Nat)));have HXs:Hid (BXS w G p pd (KMO w M A3 m3 c3) ⟨mo,sz,nx,((h2:Nat):Int),M.bl,ro,6,ix,sub,b,true⟩ A n1 c1 b (w7.setCell ⟨g,13,none⟩ (.int .u16 (sum16L b:Nat)))):=zak ⟨⟨HX7.out.1.1.setNew (by omega) _,HX7.out.1.2.1.far (show p≠g by omega) _,fun q t cs hq=>⟨(HX7.out.1.2.2.1 q t cs hq).1,(HX7.out.1.2.2.1 q t cs hq).2.far (show q≠g by rcases hq with ⟨h1,_⟩ | ⟨h1,_⟩<;> omega) _⟩,by have:=HX7.out.1.2.2.2;simp[World.setCell];omega⟩,zh9 HX7.out.2.1 (fun ad e=>Below.heap_setCell _ _ _ _ (show ad.block≠g by have:=(HAG.out ad e).2.1;omega)),fun ad e=>⟨(HX7.out.2.2 ad e).1,by have:=(HX7.out.2.2 ad e).2.1;simp[World.setCell];omega,(HX7.out.2.2 ad e).2.2⟩⟩
    clear ar au av aw ax ay az aA aB aC af ag aE;clear bb hb7;unfold msV bendM at hG7;obtain⟨fx,fy,fz,fA,fB,fC,fD,fE,fF,fG,eM,eN,eO,eP⟩:=zbd hG7;have gj:=hG7.frozen;go_upto_region 13 with fail
    refine zb6 (P:=fun W9=>Blk W9 g 95 (msV (bendM ((em:Nat):Int) (sum16L b)) none 0 0)∧ BXS w G p pd (KMO w M A3 m3 c3) ⟨mo,sz,nx,((h2:Nat):Int),M.bl,ro,6,ix,sub,b,true⟩ A n1 c1 b W9) ⟨HGs.out,HXs.out⟩ (fun W9 hW9=>?_);clear fx fy fz fA fB fC fD fE fF fG eM eN eO eP gj;clear HGm0 HXm HG7 HX7 HGs HXs hG7;obtain⟨hG9,hX9⟩:=hW9;have HGm:=zak (Blk.new W9 95 (msV (bendM ((em:Nat):Int) (sum16L b)) none 0 0));have HX9:=zak (hX9.step (za7 (Below.refl _ _) (.cells (msV (bendM ((em:Nat):Int) (sum16L b)) none 0 0) 95)));have zz9:=hX9.1.2.2.2;have zg9:=hG9.lt;unfold msV bendM at HGm HX9 hG9;obtain⟨aV,aW,aX,aY,aZ,ba,bc,be,bf,bg,aR,aS,aT,aU⟩:=zbd hG9
    have bm:=hG9.frozen;clear hX9;go_wp2_with fail
    refine (zio (some ⟨W9.heap.size,0,none⟩) 1 1 _).mono ?_;rintro e w6 ⟨rfl,hb6⟩;have HX6:=zak (HX9.out.step hb6);have HG6:=zak (HGm.out.below hb6 HGm.out.lt);have k2:=HX6.out.1.out;unfold outV outZ at k2;unfold outV outZ;dsimp only;clear aV aW aX aY aZ ba bc be bf bg aR aS aT aU bm;obtain⟨aF,aG,aH,aI,aJ⟩:=za9 k2;have aP:=k2.frozen;clear hb6 hG9;go_wp2_with fail
    obtain⟨F1,F2⟩:=zi1 (fun _=>False) HX6.out.1.out zz9 (M:=(bendM ((em:Nat):Int) (sum16L b))) HG6.out (zbs.nil _ _) (FIn.nil _) (HX6.out.bv rfl HN1.out hc1 HAN.out) HX6.out.1.1 hz;rw[show (bendM ((em:Nat):Int) (sum16L b))=(bendM ((em:Nat):Int) sumv) by rw[HSV.out];simp] at F2;rw[←HP.out] at F2;unfold putO outZ at F1 F2;dsimp only at F1 F2;refine zhr (O:=⟨[],false,0,0,[]⟩) rfl rfl rfl F1 ?_;exact F2
end
end Go.Proofs.YtkkpjbjmhaecjaaGreat
