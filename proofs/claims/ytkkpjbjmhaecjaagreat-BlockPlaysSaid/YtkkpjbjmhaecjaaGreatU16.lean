/- None -/
import Derived.Test.YtkkpjbjmhaecjaaGreatU15
namespace Go.Proofs.YtkkpjbjmhaecjaaGreat
set_option linter.all false
set_option maxRecDepth 100000
set_option maxHeartbeats 4000000
section
open Go.RowKit
def BXS (w:World) (G:Nat→Prop) (p pd:Nat) (K:Nat→TypeId→Array Value→Prop) (S:BlkS) (A:Option Addr) (n c:Nat) (b:List UInt8) (W:World):Prop:=
 BX w p pd K S A n c W∧Sl W A (b.map bv)∧ ∀ad,A=some ad→(G ad.block∨w.heap.size≤ad.block)∧ ad.block < W.heap.size∧ad.block≠p∧ad.block≠w.heap.size+1
section
variable {w W W':World} {G:Nat→Prop} {p pd:Nat} {K:Nat→TypeId→Array Value→Prop} {S S':BlkS} {A A':Option Addr} {n c n' c':Nat} {b b':List UInt8}
theorem BXS.step (h:BXS w G p pd K S A n c b W)(hb:Below W.heap.size W W'):BXS w G p pd K S A n c b W':=
 ⟨h.1.step hb,h.2.1.below hb,fun ad e=>⟨(h.2.2 ad e).1,Nat.lt_of_lt_of_le (h.2.2 ad e).2.1 hb.size,(h.2.2 ad e).2.2⟩⟩
theorem BXS.sets (h:BXS w G p pd K S A n c b W)(vs:List Value)(o:Nat)(hl:o+vs.length≤12)(he:((bsrV S pd A n c).toList.take o ++ vs ++ (bsrV S pd A n c).toList.drop (o+vs.length)).toArray=bsrV S' pd A n c):BXS w G p pd K S' A n c b (W.setCells p o vs):=
 ⟨h.1.sets vs o hl he,zh9 h.2.1 (fun ad e=>(zb4 (F:=fun q=>q=p) rfl vs o (zbv.refl _ W)).block ad.block (h.2.2 ad e).2.1 (h.2.2 ad e).2.2.1),fun ad e=>⟨(h.2.2 ad e).1,by rw[zb5];exact (h.2.2 ad e).2.1,(h.2.2 ad e).2.2⟩⟩
theorem BX.put (h:BX w p pd K S A n c W)(he:((bsrV S pd A n c).toList.take 10 ++ ([.slice A' n' c']:List Value) ++ (bsrV S pd A n c).toList.drop 11).toArray=bsrV S' pd A' n' c')(hs:Sl W A' (b'.map bv))(hA:∀ad,A'=some ad→(G ad.block∨w.heap.size≤ad.block)∧ ad.block < W.heap.size∧ad.block≠p∧ad.block≠w.heap.size+1):BXS w G p pd K S' A' n' c' b' (W.setCells p 10 [.slice A' n' c']):=
 ⟨h.sets [.slice A' n' c'] 10 (by simp) he,zh9 hs (fun ad e=>(zb4 (F:=fun q=>q=p) rfl [.slice A' n' c'] 10 (zbv.refl _ W)).block ad.block (hA ad e).2.1 (hA ad e).2.2.1),fun ad e=>⟨(hA ad e).1,by rw[zb5];exact (hA ad e).2.1,(hA ad e).2.2⟩⟩
theorem BXS.drew (h:BXS w G p pd K S A n c b W):BXS w G p pd K S A n c b W.drew:=⟨h.1.drew,h.2.1,h.2.2⟩
theorem BXS.bv (h:BXS w G p pd K S A n c b W)(hb:b=S.b)(hn:n=S.b.length)(hc:n≤c)(hAn:A=none→n=0):BV_ W (fun q=>((G q∨w.heap.size≤q)∧ ¬False)∧ q≠w.heap.size+1) p pd S:=
 ⟨A,n,c,h.1.2.1,fun _=>⟨hn,hc,by rw[←hb];exact h.2.1,hAn,fun ad e=>⟨⟨⟨(h.2.2 ad e).1,id⟩,(h.2.2 ad e).2.2.2⟩,(h.2.2 ad e).2.1,(h.2.2 ad e).2.2.1⟩⟩⟩
end
theorem zi6 (p pd:Nat)(S:BlkS)(G:Nat→Prop)(M:Ms)(A3:Option Addr)(m3 c3:Nat)(w:World)(hS:BV_ w G p pd S)(h1:S.st=1)(h256:S.b.length≤100000)(hnx:0≤S.nx∧S.nx≤1000)(hmo:0≤S.mo∧S.mo≤100000)(hm:m3=M.data.length)(hm1:m3≤100000)(hMd:∀W,zbv (fun q=>q=p) w W→Sl W A3 (M.data.map bv)) :
 Calls Tryz.prog 89 #[.pointer (some ⟨p,0,none⟩),.agg (msV M A3 m3 c3)] w (BOutR w G p pd (bpartS S M) (bpartO S M)):=by
 obtain⟨mo,sz,nx,ha,ta,ro,st,ix,sub,b,sm⟩:=S;obtain rfl:st=1:=h1;obtain⟨A,n1,c1,hB,hby⟩:=id hS;obtain⟨hn1,hc1,hsl,hAn,hAG⟩:=hby (show (1:Int)≠ 0 by decide);obtain⟨P,hP⟩:∃P,P=BOutR w G p pd (bpartS ⟨mo,sz,nx,ha,ta,ro,1,ix,sub,b,sm⟩ M) (bpartO ⟨mo,sz,nx,ha,ta,ro,1,ix,sub,b,sm⟩ M):=⟨_,rfl⟩;rw[←hP];have HP:=zak hP;have hz:=hB.lt;replace hn1:n1=b.length:=hn1;replace h256:b.length≤100000:=h256;replace hnx:0≤nx∧nx≤1000:=hnx;replace hmo:0≤mo∧mo≤100000:=hmo;obtain⟨hnx0,hnx1⟩:=hnx;obtain⟨hmo0,hmo1⟩:=hmo;have HN1:=zak hn1;have HAN:=zak hAn;have HM:=zak hm;have HMD:=zak hMd;have hne1:p≠w.heap.size+1:=by omega
 have hne0:w.heap.size≠p:=by omega
 have hbn:n1≤100000:=by omega
 have HAG:=zak hAG;have HX:Hid (BXS w G p pd (KMO w M A3 m3 c3) ⟨mo,sz,nx,ha,ta,ro,1,ix,sub,b,sm⟩ A n1 c1 b _):=zak ⟨zi4 M A3 m3 c3 hB,(hsl.alloc _).alloc _,fun ad e=>⟨.inl (hAG ad e).1,by have:=(hAG ad e).2.1;simp;omega,(hAG ad e).2.2,by have:=(hAG ad e).2.1;omega⟩⟩;clear hP hS hB hby hn1 hsl hAn h256 hm hMd hAG;unfold msV outV outZ at HX;unfold msV;by_cases h16:16 < M.sq
 · go_enter Tryz.func89,Tryz.ntmps89
   go_upto_region 1 with fail
   refine zb6 (P:=BXS w G p pd (KMO w M A3 m3 c3) ⟨mo,sz,nx,ha,ta,ro,1,ix,sub,b,sm⟩ A n1 c1 b) HX.out (fun W hW=>?_);clear HX;have HXW:=zak hW;have k1:=hW.1.msg;have zk1:=k1.lt;have zo1:=hW.1.out.lt;unfold msV at k1;obtain⟨am,ai,aj,an,ah,ak,al,ao,ap,aq,aa,ab,ac,ae⟩:=zbd k1;have aD:=k1.frozen;clear hW;have HR:Hid (P=BOutR w G p pd (blkIdle ⟨mo,sz,nx,ha,ta,ro,1,ix,sub,b,sm⟩) (outM (abM ix sub 84148227))):=zak (by
    have hpc:bpcode ⟨mo,sz,nx,ha,ta,ro,1,ix,sub,b,sm⟩ M=84148227:=by unfold bpcode;rw[if_pos h16]
    rw[HP.out]
    congr 1
    · unfold bpartS;rw[if_pos h16];rfl
    · unfold bpartO bAbortL;rw[hpc,if_pos (by decide),if_neg (show ¬(1:Int)=0 by decide)];rfl)
   go_wp2_with fail
   refine (zis p pd ⟨mo,sz,nx,ha,ta,ro,1,ix,sub,b,sm⟩ 84148227 A n1 c1 _ HXW.out.1.2.1 (show (1:Int)≠ 0 by decide)).mono ?_;rintro e w5 ⟨g,hg,rfl,hBg,hBp,ho⟩;have hgz:w.heap.size+2≤g:=Nat.le_trans HXW.out.1.2.2.2 hg;have k2:=zhe HXW.out.1.out ho (fun e=>hne1 e.symm);have HK2:=zak k2;have HBG:=zak hBg;have HS5:Hid (BV_ w5 (fun q=>((G q∨w.heap.size≤q)∧ ¬False)∧ q≠w.heap.size+1) p pd (blkIdle ⟨mo,sz,nx,ha,ta,ro,1,ix,sub,b,sm⟩)):=zak (zi0 hBp);have HO5:=zak (HXW.out.1.1.trans ho (fun _ _ h=>h));unfold outV outZ at k2;unfold outV outZ;dsimp only;obtain⟨aF,aG,aH,aI,aJ⟩:=za9 k2;have aP:=k2.frozen;clear hBg hBp ho
   go_wp2_with fail
   obtain⟨F1,F2⟩:=zi1 (fun _=>False) HK2.out hgz (M:=abM ix sub 84148227) HBG.out (zbs.nil _ _) (FIn.nil _) HS5.out HO5.out hz;rw[←HR.out] at F2;clear HR;unfold putO outZ at F1 F2;dsimp only at F1 F2;refine zhr (O:=⟨[],false,0,0,[]⟩) rfl rfl rfl F1 ?_;exact F2
 · go_enter Tryz.func89,Tryz.ntmps89
   go_upto_region 1 with fail
   refine zb6 (P:=BXS w G p pd (KMO w M A3 m3 c3) ⟨mo,sz,nx,ha,ta,ro,1,ix,sub,b,sm⟩ A n1 c1 b) HX.out (fun W hW=>?_);clear HX;have HXW:=zak hW;have k1:=hW.1.msg;have zk1:=k1.lt;have zo1:=hW.1.out.lt;have zW:=hW.1.2.1.lt;have b2:W.cell? ⟨p,2,none⟩=some (.int .i64 nx):=hW.1.2.1.cell 2 rfl;unfold msV at k1;obtain⟨am,ai,aj,an,ah,ak,al,ao,ap,aq,aa,ab,ac,ae⟩:=zbd k1;have aD:=k1.frozen;clear hW;go_upto_region 3 with fail
   by_cases hsq:M.sq=nx
   · have hse:(M.sq == nx)=true:=by simp[hsq]
     have HSQ:=zak hsq;clear hsq;refine wp_region_held_drew (S:=(fun w'=>(∀qA:Addr,qA.block < (W).heap.size→w'.cell? qA=(W).cell? qA)∧ Below (W).heap.size (W) w')) (by kernel_rfl) ?hS1 (fun hHeld=>?rest1)
     case hS1=>exact kSn
     case' rest1=>skip
     iterate 8 (refine tkN ?_;try simp only[PqL,Act.put])
     refine wpAnyH_done (by kernel_rfl) ?_ _;have hEnd:=hHeld.2
     repeat (clear hHeld)
     clear hEnd;go_upto_region 4 with fail
     refine zb6 (P:=BXS w G p pd (KMO w M A3 m3 c3) ⟨mo,sz,nx,ha,ta,ro,1,ix,sub,b,sm⟩ A n1 c1 b) HXW.out.drew (fun W1 hW1=>?_);clear am ai aj an ah ak al ao ap aq aa ab ac ae aD;clear HXW k1 zk1 zo1 zW b2;have HX1:=zak hW1;have g6:W1.cell? ⟨p,10,none⟩=some (.slice A n1 c1):=hW1.1.2.1.cell 10 rfl;have g9:W1.cell? ⟨w.heap.size,9,none⟩=some (.slice A3 m3 c3):=hW1.1.msg.cell 9 rfl;have zp1:=hW1.1.2.1.lt;have zk1:=hW1.1.msg.lt;have HMD1:=zak (HMD.out W1 hW1.1.1);have hz1:=hW1.1.1.size;have hcut:=fun W=>zhm A n1 c1 n1 n1 (n1:Int) (n1:Int) .i64 .i64 rfl rfl (Nat.le_refl _) hc1 W
     clear hW1;refine zaj (fun w'=>w'.cell? ⟨p,10,none⟩=some (.slice A n1 c1)∧ w'.cell? ⟨w.heap.size,9,none⟩=some (.slice A3 m3 c3)) [0,1,2,3,4,5,6,7,8,9,10,11,12,13,14,15,16,17,19,20] (by kernel_rfl) ?hS11 (fun hHeld=>?rest11)
     case hS11=>((try dsimp only);exact⟨g6,g9⟩)
     case' rest11=>skip
     refine tkT 0 ?_;try simp only[PqL,Act.put]
     refine tkT 1 ?_;try simp only[PqL,Act.put]
     refine tkT 2 ?_;try simp only[PqL,Act.put]
     refine tkT 3 ?_;try simp only[PqL,Act.put]
     refine tkT 4 ?_;try simp only[PqL,Act.put]
     refine tkT 5 ?_;try simp only[PqL,Act.put]
     refine tkT 6 ?_;try simp only[PqL,Act.put]
     refine tkT 7 ?_;try simp only[PqL,Act.put]
     refine tkT 8 ?_;try simp only[PqL,Act.put]
     refine tkT 9 ?_;try simp only[PqL,Act.put]
     refine tkT 10 ?_;try simp only[PqL,Act.put]
     refine tkT 11 ?_;try simp only[PqL,Act.put]
     refine tkT 12 ?_;try simp only[PqL,Act.put]
     refine tkT 13 ?_;try simp only[PqL,Act.put]
     refine tkT 14 ?_;try simp only[PqL,Act.put]
     refine tkT 15 ?_;try simp only[PqL,Act.put]
     refine tkT 16 ?_;try simp only[PqL,Act.put]
     refine tkT 17 ?_;try simp only[PqL,Act.put]
     refine zag (i:=18) (o:=_) rfl (by kernel_rfl) (fun K hK=>?_);rw[if_pos (show Region.wanted _ _=true by kernel_rfl)];refine zhj _ _ rfl A n1 b rfl HN1.out (show Sl W1.drew A _ from HX1.out.2.1) HAN.out A3 m3 c3 M.data rfl HM.out (show Sl W1.drew A3 _ from HMD1.out) (by omega) ?_;intro A4 c4 w3 hs4 hc4 hb4 hA4;obtain⟨N,hN⟩:∃N,N=n1+m3:=⟨_,rfl⟩;rw[←hN] at hc4 ⊢;replace hb4:=zhy hb4;have HX3:=zak (HX1.out.step hb4);have HNN:Hid (N=(b ++ M.data).length):=zak (by rw[hN,List.length_append,←HN1.out,←HM.out]);have hN2:N≤35184372088832:=by omega
     have HCC:=zak hc4;have HA4':Hid (∀ad,A4=some ad→(G ad.block∨w.heap.size≤ad.block)∧ ad.block < w3.heap.size∧ad.block≠p∧ad.block≠w.heap.size+1):=zak (fun ad e=>by
      have z3:=hb4.size;have zz:=HX1.out.1.2.2.2;rcases hA4 with ⟨_,h⟩ | h
      · rw[h] at e;have h1:=HX1.out.2.2 ad e;exact⟨h1.1,by omega,h1.2.2⟩
      · obtain⟨h,z5⟩:=h;rw[h] at e;injection e with e
        subst e;have z5:W1.heap.size < w3.heap.size:=z5;exact⟨.inr (show w.heap.size≤W1.heap.size by omega),z5,show W1.heap.size≠p by omega,show W1.heap.size≠w.heap.size+1 by omega⟩)
     have HAN':Hid (A4=none→N=0):=zak (fun h=>by
      rcases hA4 with ⟨h1,h2⟩ | ⟨h1,_⟩
      · have:=HAN.out (h2.symm.trans h);omega
      · rw[h] at h1;cases h1)
     have HS4:=zak hs4;have g63:=(hb4.cell (p:=⟨p,10,none⟩) zp1).trans g6;have g93:=(hb4.cell (p:=⟨w.heap.size,9,none⟩) zk1).trans g9;have f63:=HX3.out.1.2.1.frozen 10;have zp3:=HX3.out.1.2.1.lt;have HNN0:=zak hN;clear hs4 hc4 hA4 hN hb4;refine hK.out _ _ ?hS31 (fun hHeld=>?rest31)
     case hS31=>((try dsimp only);(exact⟨g63,g93⟩))
     case' rest31=>(clear hK K;try simp only[PqL,Act.put])
     refine tkT 19 ?_;try simp only[PqL,Act.put]
     refine tkT 20 ?_;try simp only[PqL,Act.put]
     refine zah (i:=21) (o:=_) rfl (by kernel_rfl) (by kernel_rfl) (fun K hK=>?_)
     go_simp
     refine hK.out _ _ ?rest35
     case' rest35=>(clear hK K;try simp only[PqL,Act.put])
     refine zai (by kernel_rfl) ?_ _
     repeat (clear hHeld)
     have HX2:=zak ((HX3.out.1.put (G:=G) (S':=⟨mo,sz,nx,ha,ta,ro,1,ix,sub,(b ++ M.data),sm⟩) (A':=A4) (n':=N) (c':=c4) (b':=b ++ M.data) rfl HS4.out HA4'.out));simp only[World.setCells] at HX2;clear g6 g9 g63 g93 f63;go_upto_region 5 with fail
     refine zb6 (P:=BXS w G p pd (KMO w M A3 m3 c3) ⟨mo,sz,nx,ha,ta,ro,1,ix,sub,(b ++ M.data),sm⟩ A4 N c4 (b ++ M.data)) HX2.out (fun W2 hW2=>?_);clear HX2 HX1 HMD1 HX3;obtain⟨nx',hnx'⟩:∃nx',nx'=nx+1:=⟨_,rfl⟩;have HNX:=zak hnx';have hnx2:0≤nx'∧nx'≤1001:=by omega
     obtain⟨hnx3,hnx4⟩:=hnx2;have hwn:IntKind.i64.wrap (nx+1)=nx':=by rw[hnx'];unfold IntKind.wrap;simp[IntKind.signed,IntKind.bits];omega
     have HX5:=zak (hW2.sets (S':=⟨mo,sz,nx',ha,ta,ro,1,ix,sub,(b ++ M.data),sm⟩) [.int .i64 nx'] 2 (by simp) rfl);simp only[World.setCells] at HX5;have bb:=hW2.1.2.1;have zp2:=bb.lt;unfold bsrV at bb;dsimp only at bb;obtain⟨ar,au,av,aw,ax,ay,az,aA,aB,aC,af,ag⟩:=zbc bb;have aE:=bb.frozen;clear hW2 hnx';go_upto_region 6 with fail
     refine zb6 (P:=BXS w G p pd (KMO w M A3 m3 c3) ⟨mo,sz,nx',ha,ta,ro,1,ix,sub,(b ++ M.data),sm⟩ A4 N c4 (b ++ M.data)) HX5.out (fun W3 hW3=>?_);clear ar au av aw ax ay az aA aB aC af ag aE;clear HX5 bb;have HX6:=zak hW3;have k1:=hW3.1.msg;have zk3:=k1.lt;have zo3:=hW3.1.out.lt;have zp3:=hW3.1.2.1.lt;unfold msV at k1;obtain⟨am,ai,aj,an,ah,ak,al,ao,ap,aq,aa,ab,ac,ae⟩:=zbd k1;have aD:=k1.frozen;cases hla:M.la
     · rw[hla] at ah;have HXW:=zak hW3;have HT:Hid (btake ⟨mo,sz,nx,ha,ta,ro,1,ix,sub,b,sm⟩ M=⟨mo,sz,nx',ha,ta,ro,1,ix,sub,(b ++ M.data),sm⟩):=zak (by unfold btake;rw[if_pos HSQ.out,hla,HNX.out];rfl);have HLA:=zak hla;have b0:W3.cell? ⟨p,0,none⟩=some (.int .i64 mo):=hW3.1.2.1.cell 0 rfl;have b10:W3.cell? ⟨p,10,none⟩=some (.slice A4 N c4):=hW3.1.2.1.cell 10 rfl;clear hW3 hla HX6;go_upto_region 8 with fail
       have hwm:IntKind.i64.wrap (mo+7)=mo+7:=by unfold IntKind.wrap;simp[IntKind.signed,IntKind.bits];omega
       have HX7:=zak HXW.out.drew;refine wp_region_held_drew (S:=(fun w'=>(∀qA:Addr,qA.block < (W3).heap.size→w'.cell? qA=(W3).cell? qA)∧ Below (W3).heap.size (W3) w')) (by kernel_rfl) ?hS37 (fun hHeld=>?rest37)
       case hS37=>exact kSn
       case' rest37=>skip
       iterate 12 (refine tkN ?_;try simp only[PqL,Act.put])
       refine wpAnyH_done (by kernel_rfl) ?_ _;have hEnd:=hHeld.2
       repeat (clear hHeld)
       clear hEnd HXW;by_cases hlen:mo+7 < (N:Int)
       · go_upto_region 9 with fail
         refine zb6 (P:=BXS w G p pd (KMO w M A3 m3 c3) ⟨mo,sz,nx',ha,ta,ro,1,ix,sub,(b ++ M.data),sm⟩ A4 N c4 (b ++ M.data)) HX7.out (fun W hW=>?_);clear am ai aj an ah ak al ao ap aq aa ab ac ae aD;clear HX7 k1;have HXW:=zak hW;have zk1:=hW.1.msg.lt;have zo1:=hW.1.out.lt;clear hW;have HR:Hid (P=BOutR w G p pd (blkIdle ⟨mo,sz,nx',ha,ta,ro,1,ix,sub,(b ++ M.data),sm⟩) (outM (abM ix sub 101122066))):=zak (by
          have hpc:bpcode ⟨mo,sz,nx,ha,ta,ro,1,ix,sub,b,sm⟩ M=101122066:=by unfold bpcode;rw[if_neg h16,if_pos ⟨HSQ.out,by rw[←HNN.out];exact hlen⟩]
          rw[HP.out]
          congr 1
          · unfold bpartS;rw[if_neg h16,if_pos (by rw[hpc];decide),HT.out];rfl
          · unfold bpartO bAbortL;rw[hpc,if_pos (by decide),if_neg (show ¬(1:Int)=0 by decide)];rfl)
         go_wp2_with fail
         refine (zis p pd ⟨mo,sz,nx',ha,ta,ro,1,ix,sub,(b ++ M.data),sm⟩ 101122066 A4 N c4 _ HXW.out.1.2.1 (show (1:Int)≠ 0 by decide)).mono ?_;rintro e w5 ⟨g,hg,rfl,hBg,hBp,ho⟩;have hgz:w.heap.size+2≤g:=Nat.le_trans HXW.out.1.2.2.2 hg;have k2:=zhe HXW.out.1.out ho (fun e=>hne1 e.symm);have HK2:=zak k2;have HBG:=zak hBg;have HS5:Hid (BV_ w5 (fun q=>((G q∨w.heap.size≤q)∧ ¬False)∧ q≠w.heap.size+1) p pd (blkIdle ⟨mo,sz,nx',ha,ta,ro,1,ix,sub,(b ++ M.data),sm⟩)):=zak (zi0 hBp);have HO5:=zak (HXW.out.1.1.trans ho (fun _ _ h=>h));unfold outV outZ at k2;unfold outV outZ;dsimp only;obtain⟨aF,aG,aH,aI,aJ⟩:=za9 k2
         have aP:=k2.frozen;clear hBg hBp ho;go_wp2_with fail
         obtain⟨F1,F2⟩:=zi1 (fun _=>False) HK2.out hgz (M:=abM ix sub 101122066) HBG.out (zbs.nil _ _) (FIn.nil _) HS5.out HO5.out hz;rw[←HR.out] at F2;clear HR;unfold putO outZ at F1 F2;dsimp only at F1 F2;refine zhr (O:=⟨[],false,0,0,[]⟩) rfl rfl rfl F1 ?_;exact F2
       · go_upto_region 10 with fail
         refine zb6 (P:=BXS w G p pd (KMO w M A3 m3 c3) ⟨mo,sz,nx',ha,ta,ro,1,ix,sub,(b ++ M.data),sm⟩ A4 N c4 (b ++ M.data)) HX7.out (fun W hW=>?_);clear am ai aj an ah ak al ao ap aq aa ab ac ae aD;clear HX7 k1;have HXW:=zak hW;have k1:=hW.1.msg;have zk1:=k1.lt;have zo1:=hW.1.out.lt;have HPC:Hid (bpcode ⟨mo,sz,nx,ha,ta,ro,1,ix,sub,b,sm⟩ M=0):=zak (by unfold bpcode;rw[if_neg h16,if_neg (fun h=>hlen (by rw[HNN.out];exact h.2))]);unfold msV at k1;obtain⟨am,ai,aj,an,ah,ak,al,ao,ap,aq,aa,ab,ac,ae⟩:=zbd k1;have aD:=k1.frozen;rw[HLA.out] at ah;clear hW;by_cases hs16:M.sq < 16
         · skip
           have HR:Hid (P=BOutR w G p pd ⟨mo,sz,nx',ha,ta,ro,1,ix,sub,(b ++ M.data),sm⟩ outZ):=zak (by
            rw[HP.out]
            congr 1
            · unfold bpartS;rw[if_neg h16,if_neg (by rw[HPC.out];decide),if_pos ⟨hs16,HLA.out⟩,HT.out]
            · unfold bpartO;rw[if_neg (by rw[HPC.out];decide),if_pos ⟨hs16,HLA.out⟩])
           have k2:=HXW.out.1.out;unfold outV outZ at k2;obtain⟨aF,aG,aH,aI,aJ⟩:=za9 k2;have aP:=k2.frozen;go_wp2_with fail
           obtain⟨F1,F2⟩:=zi2 (S':=⟨mo,sz,nx',ha,ta,ro,1,ix,sub,(b ++ M.data),sm⟩) (G:=G) HXW.out.1.out ((HXW.out.bv rfl HNN.out HCC.out HAN'.out).keep (fun q _ _=>rfl) (Nat.le_refl _) (fun q _ h=>⟨h.1.1,h.2⟩)) HXW.out.1.1 hz;rw[←HR.out] at F2;clear HR;unfold putO outZ at F1 F2;dsimp only at F1 F2;refine zhr (O:=⟨[],false,0,0,[]⟩) rfl rfl rfl F1 ?_;exact F2
         · go_upto_region 12 with fail
           have HR:Hid (P=BOutR w G p pd ⟨mo,sz,1,ha,ta,ro,1,ix,sub,(b ++ M.data),sm⟩ (outM (ackM (nx' - 1)))):=zak (by
            rw[HP.out]
            congr 1
            · unfold bpartS;rw[if_neg h16,if_neg (by rw[HPC.out];decide),if_neg (fun h=>hs16 h.1),HT.out]
            · unfold bpartO;rw[if_neg (by rw[HPC.out];decide),if_neg (fun h=>hs16 h.1),HT.out])
           have hwr:IntKind.i64.wrap (nx' - 1)=nx' - 1:=by unfold IntKind.wrap;simp[IntKind.signed,IntKind.bits];omega
           have X1:=(HXW.out.sets (S':=⟨mo,sz,1,ha,ta,ro,1,ix,sub,(b ++ M.data),sm⟩) [.int .i64 1] 2 (by simp) rfl).step (za7 (Below.refl _ _) (.cells (msV (ackM (nx' - 1)) none 0 0) 95));have HX1:=zak X1;have hG1:=Blk.new (W.setCell ⟨p,2,none⟩ (.int .i64 1)) 95 (msV (ackM (nx' - 1)) none 0 0);rw[show (W.setCell ⟨p,2,none⟩ (.int .i64 1)).heap.size=W.heap.size by simp[World.setCell]] at hG1;have HG1:=zak hG1;simp only[World.setCells,Nat.reduceAdd] at HX1;unfold msV ackM at HX1 HG1;have bb:=HXW.out.1.2.1;have zpb:=bb.lt;have zWz:=HXW.out.1.2.2.2;unfold bsrV at bb;dsimp only at bb;obtain⟨ar,au,av,aw,ax,ay,az,aA,aB,aC,af,ag⟩:=zbc bb
           have aE:=bb.frozen;clear X1 hG1;go_upto_region 14 with fail
           refine zb6 (P:=fun W9=>BXS w G p pd (KMO w M A3 m3 c3) ⟨mo,sz,1,ha,ta,ro,1,ix,sub,(b ++ M.data),sm⟩ A4 N c4 (b ++ M.data) W9∧Blk W9 W.heap.size 95 (msV (ackM (nx' - 1)) none 0 0)) ⟨HX1.out,HG1.out⟩ (fun W9 hW9=>?_);clear ar au av aw ax ay az aA aB aC af ag aE;clear HX1 HG1 bb;obtain⟨hX9,hG9⟩:=hW9;have HX9:=zak (hX9.step (za7 (Below.refl _ _) (.cells (msV (ackM (nx' - 1)) none 0 0) 95)));have HG9:=zak (Blk.new W9 95 (msV (ackM (nx' - 1)) none 0 0));have zz9:=hX9.1.2.2.2;have zg9:=hG9.lt;unfold msV ackM at HX9 HG9;unfold msV ackM at hG9;obtain⟨aV,aW,aX,aY,aZ,ba,bc,be,bf,bg,aR,aS,aT,aU⟩:=zbd hG9
           have bm:=hG9.frozen;clear hX9;go_wp2_with fail
           refine (zio (some ⟨W9.heap.size,0,none⟩) 1 1 _).mono ?_;rintro e w6 ⟨rfl,hb6⟩;have HX6:=zak (HX9.out.step hb6);have HG6:=zak (HG9.out.below hb6 HG9.out.lt);have k2:=HX6.out.1.out;unfold outV outZ at k2;unfold outV outZ;dsimp only;clear aV aW aX aY aZ ba bc be bf bg aR aS aT aU bm;obtain⟨aF,aG,aH,aI,aJ⟩:=za9 k2;have aP:=k2.frozen;clear hb6 hG9;go_wp2_with fail
           obtain⟨F1,F2⟩:=zi1 (fun _=>False) HX6.out.1.out zz9 (M:=ackM (nx' - 1)) HG6.out (zbs.nil _ _) (FIn.nil _) (HX6.out.bv rfl HNN.out HCC.out HAN'.out) HX6.out.1.1 hz;rw[←HR.out] at F2;clear HR;unfold putO outZ at F1 F2;dsimp only at F1 F2;refine zhr (O:=⟨[],false,0,0,[]⟩) rfl rfl rfl F1 ?_;exact F2
     · rw[hla] at ah;have HLA:=zak hla;have HT:Hid (btake ⟨mo,sz,nx,ha,ta,ro,1,ix,sub,b,sm⟩ M=⟨mo,sz,nx',ha,ta,ro,2,ix,sub,(b ++ M.data),sm⟩):=zak (by unfold btake;rw[if_pos HSQ.out,hla,HNX.out];rfl);have X7:=zak (hW3.sets (S':=⟨mo,sz,nx',ha,ta,ro,2,ix,sub,(b ++ M.data),sm⟩) [.int .i64 2] 7 (by simp) rfl);simp only[World.setCells] at X7;have bb:=hW3.1.2.1;unfold bsrV at bb;dsimp only at bb;obtain⟨ar,au,av,aw,ax,ay,az,aA,aB,aC,af,ag⟩:=zbc bb;have aE:=bb.frozen;clear hW3 hla HX6;go_upto_region 8 with fail
       refine zb6 (P:=BXS w G p pd (KMO w M A3 m3 c3) ⟨mo,sz,nx',ha,ta,ro,2,ix,sub,(b ++ M.data),sm⟩ A4 N c4 (b ++ M.data)) X7.out (fun W4 hW4=>?_);clear am ai aj an ah ak al ao ap aq aa ab ac ae aD;clear ar au av aw ax ay az aA aB aC af ag aE;clear X7 k1 bb;have HXW:=zak hW4;have zp4:=hW4.1.2.1.lt;have b0:W4.cell? ⟨p,0,none⟩=some (.int .i64 mo):=hW4.1.2.1.cell 0 rfl;have b10:W4.cell? ⟨p,10,none⟩=some (.slice A4 N c4):=hW4.1.2.1.cell 10 rfl;have hwm:IntKind.i64.wrap (mo+7)=mo+7:=by unfold IntKind.wrap;simp[IntKind.signed,IntKind.bits];omega
       have HX7:=zak HXW.out.drew;clear hW4;refine wp_region_held_drew (S:=(fun w'=>(∀qA:Addr,qA.block < (W4).heap.size→w'.cell? qA=(W4).cell? qA)∧ Below (W4).heap.size (W4) w')) (by kernel_rfl) ?hS51 (fun hHeld=>?rest51)
       case hS51=>exact kSn
       case' rest51=>skip
       iterate 12 (refine tkN ?_;try simp only[PqL,Act.put])
       refine wpAnyH_done (by kernel_rfl) ?_ _;have hEnd:=hHeld.2
       repeat (clear hHeld)
       clear hEnd HXW;by_cases hlen:mo+7 < (N:Int)
       · go_upto_region 9 with fail
         refine zb6 (P:=BXS w G p pd (KMO w M A3 m3 c3) ⟨mo,sz,nx',ha,ta,ro,2,ix,sub,(b ++ M.data),sm⟩ A4 N c4 (b ++ M.data)) HX7.out (fun W hW=>?_);clear HX7;have HXW:=zak hW;have zk1:=hW.1.msg.lt;have zo1:=hW.1.out.lt;clear hW;have HR:Hid (P=BOutR w G p pd (blkIdle ⟨mo,sz,nx',ha,ta,ro,2,ix,sub,(b ++ M.data),sm⟩) (outM (abM ix sub 101122066))):=zak (by
          have hpc:bpcode ⟨mo,sz,nx,ha,ta,ro,1,ix,sub,b,sm⟩ M=101122066:=by unfold bpcode;rw[if_neg h16,if_pos ⟨HSQ.out,by rw[←HNN.out];exact hlen⟩]
          rw[HP.out]
          congr 1
          · unfold bpartS;rw[if_neg h16,if_pos (by rw[hpc];decide),HT.out];rfl
          · unfold bpartO bAbortL;rw[hpc,if_pos (by decide),if_neg (show ¬(1:Int)=0 by decide)];rfl)
         go_wp2_with fail
         refine (zis p pd ⟨mo,sz,nx',ha,ta,ro,2,ix,sub,(b ++ M.data),sm⟩ 101122066 A4 N c4 _ HXW.out.1.2.1 (show (2:Int)≠ 0 by decide)).mono ?_;rintro e w5 ⟨g,hg,rfl,hBg,hBp,ho⟩;have hgz:w.heap.size+2≤g:=Nat.le_trans HXW.out.1.2.2.2 hg;have k2:=zhe HXW.out.1.out ho (fun e=>hne1 e.symm);have HK2:=zak k2;have HBG:=zak hBg;have HS5:Hid (BV_ w5 (fun q=>((G q∨w.heap.size≤q)∧ ¬False)∧ q≠w.heap.size+1) p pd (blkIdle ⟨mo,sz,nx',ha,ta,ro,2,ix,sub,(b ++ M.data),sm⟩)):=zak (zi0 hBp);have HO5:=zak (HXW.out.1.1.trans ho (fun _ _ h=>h));unfold outV outZ at k2;unfold outV outZ;dsimp only;obtain⟨aF,aG,aH,aI,aJ⟩:=za9 k2
         have aP:=k2.frozen;clear hBg hBp ho;go_wp2_with fail
         obtain⟨F1,F2⟩:=zi1 (fun _=>False) HK2.out hgz (M:=abM ix sub 101122066) HBG.out (zbs.nil _ _) (FIn.nil _) HS5.out HO5.out hz;rw[←HR.out] at F2;clear HR;unfold putO outZ at F1 F2;dsimp only at F1 F2;refine zhr (O:=⟨[],false,0,0,[]⟩) rfl rfl rfl F1 ?_;exact F2
       · go_upto_region 10 with fail
         refine zb6 (P:=BXS w G p pd (KMO w M A3 m3 c3) ⟨mo,sz,nx',ha,ta,ro,2,ix,sub,(b ++ M.data),sm⟩ A4 N c4 (b ++ M.data)) HX7.out (fun W hW=>?_);clear HX7;have HXW:=zak hW;have k1:=hW.1.msg;have zk1:=k1.lt;have zo1:=hW.1.out.lt;have HPC:Hid (bpcode ⟨mo,sz,nx,ha,ta,ro,1,ix,sub,b,sm⟩ M=0):=zak (by unfold bpcode;rw[if_neg h16,if_neg (fun h=>hlen (by rw[HNN.out];exact h.2))]);unfold msV at k1;obtain⟨am,ai,aj,an,ah,ak,al,ao,ap,aq,aa,ab,ac,ae⟩:=zbd k1;have aD:=k1.frozen;rw[HLA.out] at ah;clear hW;by_cases hs16:M.sq < 16
         · go_upto_region 12 with fail
           have HR:Hid (P=BOutR w G p pd ⟨mo,sz,1,ha,ta,ro,2,ix,sub,(b ++ M.data),sm⟩ (outM (ackM (nx' - 1)))):=zak (by
            rw[HP.out]
            congr 1
            · unfold bpartS;rw[if_neg h16,if_neg (by rw[HPC.out];decide),if_neg (fun h=>by rw[HLA.out] at h;exact absurd h.2 (by decide)),HT.out]
            · unfold bpartO;rw[if_neg (by rw[HPC.out];decide),if_neg (fun h=>by rw[HLA.out] at h;exact absurd h.2 (by decide)),HT.out])
           have hwr:IntKind.i64.wrap (nx' - 1)=nx' - 1:=by unfold IntKind.wrap;simp[IntKind.signed,IntKind.bits];omega
           have X1:=(HXW.out.sets (S':=⟨mo,sz,1,ha,ta,ro,2,ix,sub,(b ++ M.data),sm⟩) [.int .i64 1] 2 (by simp) rfl).step (za7 (Below.refl _ _) (.cells (msV (ackM (nx' - 1)) none 0 0) 95));have HX1:=zak X1;have hG1:=Blk.new (W.setCell ⟨p,2,none⟩ (.int .i64 1)) 95 (msV (ackM (nx' - 1)) none 0 0);rw[show (W.setCell ⟨p,2,none⟩ (.int .i64 1)).heap.size=W.heap.size by simp[World.setCell]] at hG1;have HG1:=zak hG1;simp only[World.setCells,Nat.reduceAdd] at HX1;unfold msV ackM at HX1 HG1;have bb:=HXW.out.1.2.1;have zpb:=bb.lt;have zWz:=HXW.out.1.2.2.2;unfold bsrV at bb;dsimp only at bb;obtain⟨ar,au,av,aw,ax,ay,az,aA,aB,aC,af,ag⟩:=zbc bb
           have aE:=bb.frozen;clear X1 hG1;go_upto_region 14 with fail
           refine zb6 (P:=fun W9=>BXS w G p pd (KMO w M A3 m3 c3) ⟨mo,sz,1,ha,ta,ro,2,ix,sub,(b ++ M.data),sm⟩ A4 N c4 (b ++ M.data) W9∧Blk W9 W.heap.size 95 (msV (ackM (nx' - 1)) none 0 0)) ⟨HX1.out,HG1.out⟩ (fun W9 hW9=>?_);clear ar au av aw ax ay az aA aB aC af ag aE;clear HX1 HG1 bb;obtain⟨hX9,hG9⟩:=hW9;have HX9:=zak (hX9.step (za7 (Below.refl _ _) (.cells (msV (ackM (nx' - 1)) none 0 0) 95)));have HG9:=zak (Blk.new W9 95 (msV (ackM (nx' - 1)) none 0 0));have zz9:=hX9.1.2.2.2;have zg9:=hG9.lt;unfold msV ackM at HX9 HG9;unfold msV ackM at hG9;obtain⟨aV,aW,aX,aY,aZ,ba,bc,be,bf,bg,aR,aS,aT,aU⟩:=zbd hG9
           have bm:=hG9.frozen;clear hX9;go_wp2_with fail
           refine (zio (some ⟨W9.heap.size,0,none⟩) 1 1 _).mono ?_;rintro e w6 ⟨rfl,hb6⟩;have HX6:=zak (HX9.out.step hb6);have HG6:=zak (HG9.out.below hb6 HG9.out.lt);have k2:=HX6.out.1.out;unfold outV outZ at k2;unfold outV outZ;dsimp only;clear aV aW aX aY aZ ba bc be bf bg aR aS aT aU bm;obtain⟨aF,aG,aH,aI,aJ⟩:=za9 k2;have aP:=k2.frozen;clear hb6 hG9;go_wp2_with fail
           obtain⟨F1,F2⟩:=zi1 (fun _=>False) HX6.out.1.out zz9 (M:=ackM (nx' - 1)) HG6.out (zbs.nil _ _) (FIn.nil _) (HX6.out.bv rfl HNN.out HCC.out HAN'.out) HX6.out.1.1 hz;rw[←HR.out] at F2;clear HR;unfold putO outZ at F1 F2;dsimp only at F1 F2;refine zhr (O:=⟨[],false,0,0,[]⟩) rfl rfl rfl F1 ?_;exact F2
         · go_upto_region 12 with fail
           have HR:Hid (P=BOutR w G p pd ⟨mo,sz,1,ha,ta,ro,2,ix,sub,(b ++ M.data),sm⟩ (outM (ackM (nx' - 1)))):=zak (by
            rw[HP.out]
            congr 1
            · unfold bpartS;rw[if_neg h16,if_neg (by rw[HPC.out];decide),if_neg (fun h=>by rw[HLA.out] at h;exact absurd h.2 (by decide)),HT.out]
            · unfold bpartO;rw[if_neg (by rw[HPC.out];decide),if_neg (fun h=>by rw[HLA.out] at h;exact absurd h.2 (by decide)),HT.out])
           have hwr:IntKind.i64.wrap (nx' - 1)=nx' - 1:=by unfold IntKind.wrap;simp[IntKind.signed,IntKind.bits];omega
           have X1:=(HXW.out.sets (S':=⟨mo,sz,1,ha,ta,ro,2,ix,sub,(b ++ M.data),sm⟩) [.int .i64 1] 2 (by simp) rfl).step (za7 (Below.refl _ _) (.cells (msV (ackM (nx' - 1)) none 0 0) 95));have HX1:=zak X1;have hG1:=Blk.new (W.setCell ⟨p,2,none⟩ (.int .i64 1)) 95 (msV (ackM (nx' - 1)) none 0 0);rw[show (W.setCell ⟨p,2,none⟩ (.int .i64 1)).heap.size=W.heap.size by simp[World.setCell]] at hG1;have HG1:=zak hG1;simp only[World.setCells,Nat.reduceAdd] at HX1;unfold msV ackM at HX1 HG1;have bb:=HXW.out.1.2.1;have zpb:=bb.lt;have zWz:=HXW.out.1.2.2.2;unfold bsrV at bb;dsimp only at bb;obtain⟨ar,au,av,aw,ax,ay,az,aA,aB,aC,af,ag⟩:=zbc bb
           have aE:=bb.frozen;clear X1 hG1;go_upto_region 14 with fail
           refine zb6 (P:=fun W9=>BXS w G p pd (KMO w M A3 m3 c3) ⟨mo,sz,1,ha,ta,ro,2,ix,sub,(b ++ M.data),sm⟩ A4 N c4 (b ++ M.data) W9∧Blk W9 W.heap.size 95 (msV (ackM (nx' - 1)) none 0 0)) ⟨HX1.out,HG1.out⟩ (fun W9 hW9=>?_);clear ar au av aw ax ay az aA aB aC af ag aE;clear HX1 HG1 bb;obtain⟨hX9,hG9⟩:=hW9;have HX9:=zak (hX9.step (za7 (Below.refl _ _) (.cells (msV (ackM (nx' - 1)) none 0 0) 95)));have HG9:=zak (Blk.new W9 95 (msV (ackM (nx' - 1)) none 0 0));have zz9:=hX9.1.2.2.2;have zg9:=hG9.lt;unfold msV ackM at HX9 HG9;unfold msV ackM at hG9;obtain⟨aV,aW,aX,aY,aZ,ba,bc,be,bf,bg,aR,aS,aT,aU⟩:=zbd hG9
           have bm:=hG9.frozen;clear hX9;go_wp2_with fail
           refine (zio (some ⟨W9.heap.size,0,none⟩) 1 1 _).mono ?_;rintro e w6 ⟨rfl,hb6⟩;have HX6:=zak (HX9.out.step hb6);have HG6:=zak (HG9.out.below hb6 HG9.out.lt);have k2:=HX6.out.1.out;unfold outV outZ at k2;unfold outV outZ;dsimp only;clear aV aW aX aY aZ ba bc be bf bg aR aS aT aU bm;obtain⟨aF,aG,aH,aI,aJ⟩:=za9 k2;have aP:=k2.frozen;clear hb6 hG9;go_wp2_with fail
           obtain⟨F1,F2⟩:=zi1 (fun _=>False) HX6.out.1.out zz9 (M:=ackM (nx' - 1)) HG6.out (zbs.nil _ _) (FIn.nil _) (HX6.out.bv rfl HNN.out HCC.out HAN'.out) HX6.out.1.1 hz;rw[←HR.out] at F2;clear HR;unfold putO outZ at F1 F2;dsimp only at F1 F2;refine zhr (O:=⟨[],false,0,0,[]⟩) rfl rfl rfl F1 ?_;exact F2
   · have hse:(M.sq == nx)=false:=by simp[hsq]
     have HSQ:=zak hsq;clear hsq;have HX7:=zak HXW.out.drew;refine wp_region_held_drew (S:=(fun w'=>(∀qA:Addr,qA.block < (W).heap.size→w'.cell? qA=(W).cell? qA)∧ Below (W).heap.size (W) w')) (by kernel_rfl) ?hS65 (fun hHeld=>?rest65)
     case hS65=>exact kSn
     case' rest65=>skip
     iterate 8 (refine tkN ?_;try simp only[PqL,Act.put])
     refine wpAnyH_done (by kernel_rfl) ?_ _;have hEnd:=hHeld.2
     repeat (clear hHeld)
     clear hEnd HXW;go_upto_region 10 with fail
     refine zb6 (P:=BXS w G p pd (KMO w M A3 m3 c3) ⟨mo,sz,nx,ha,ta,ro,1,ix,sub,b,sm⟩ A n1 c1 b) HX7.out (fun Wq hW=>?_);clear am ai aj an ah ak al ao ap aq aa ab ac ae aD;clear HX7 k1 zk1 zo1 zW b2;have HXW:=zak hW;have k1:=hW.1.msg;have zk1:=k1.lt;have zo1:=hW.1.out.lt;have HCC:=zak hc1;have HAN':=HAN;have HT:Hid (btake ⟨mo,sz,nx,ha,ta,ro,1,ix,sub,b,sm⟩ M=⟨mo,sz,nx,ha,ta,ro,1,ix,sub,b,sm⟩):=zak (by unfold btake;rw[if_neg HSQ.out]);have HPC:Hid (bpcode ⟨mo,sz,nx,ha,ta,ro,1,ix,sub,b,sm⟩ M=0):=zak (by unfold bpcode;rw[if_neg h16,if_neg (fun h=>HSQ.out h.1)]);unfold msV at k1;obtain⟨am,ai,aj,an,ah,ak,al,ao,ap,aq,aa,ab,ac,ae⟩:=zbd k1
     have aD:=k1.frozen;clear hW;cases hla:M.la
     · rw[hla] at ah;have HLA:=zak hla;clear hla;by_cases hs16:M.sq < 16
       · skip
         have HR:Hid (P=BOutR w G p pd ⟨mo,sz,nx,ha,ta,ro,1,ix,sub,b,sm⟩ outZ):=zak (by
          rw[HP.out]
          congr 1
          · unfold bpartS;rw[if_neg h16,if_neg (by rw[HPC.out];decide),if_pos ⟨hs16,HLA.out⟩,HT.out]
          · unfold bpartO;rw[if_neg (by rw[HPC.out];decide),if_pos ⟨hs16,HLA.out⟩])
         have k2:=HXW.out.1.out;unfold outV outZ at k2;obtain⟨aF,aG,aH,aI,aJ⟩:=za9 k2;have aP:=k2.frozen;go_wp2_with fail
         obtain⟨F1,F2⟩:=zi2 (S':=⟨mo,sz,nx,ha,ta,ro,1,ix,sub,b,sm⟩) (G:=G) HXW.out.1.out ((HXW.out.bv rfl HN1.out HCC.out HAN'.out).keep (fun q _ _=>rfl) (Nat.le_refl _) (fun q _ h=>⟨h.1.1,h.2⟩)) HXW.out.1.1 hz;rw[←HR.out] at F2;clear HR;unfold putO outZ at F1 F2;dsimp only at F1 F2;refine zhr (O:=⟨[],false,0,0,[]⟩) rfl rfl rfl F1 ?_;exact F2
       · go_upto_region 12 with fail
         have HR:Hid (P=BOutR w G p pd ⟨mo,sz,1,ha,ta,ro,1,ix,sub,b,sm⟩ (outM (ackM (nx - 1)))):=zak (by
          rw[HP.out]
          congr 1
          · unfold bpartS;rw[if_neg h16,if_neg (by rw[HPC.out];decide),if_neg (fun h=>hs16 h.1),HT.out]
          · unfold bpartO;rw[if_neg (by rw[HPC.out];decide),if_neg (fun h=>hs16 h.1),HT.out])
         have hwr:IntKind.i64.wrap (nx - 1)=nx - 1:=by unfold IntKind.wrap;simp[IntKind.signed,IntKind.bits];omega
         have X1:=(HXW.out.sets (S':=⟨mo,sz,1,ha,ta,ro,1,ix,sub,b,sm⟩) [.int .i64 1] 2 (by simp) rfl).step (za7 (Below.refl _ _) (.cells (msV (ackM (nx - 1)) none 0 0) 95));have HX1:=zak X1;have hG1:=Blk.new (Wq.setCell ⟨p,2,none⟩ (.int .i64 1)) 95 (msV (ackM (nx - 1)) none 0 0);rw[show (Wq.setCell ⟨p,2,none⟩ (.int .i64 1)).heap.size=Wq.heap.size by simp[World.setCell]] at hG1;have HG1:=zak hG1;simp only[World.setCells,Nat.reduceAdd] at HX1;unfold msV ackM at HX1 HG1;have bb:=HXW.out.1.2.1;have zpb:=bb.lt;have zWz:=HXW.out.1.2.2.2;unfold bsrV at bb;dsimp only at bb;obtain⟨ar,au,av,aw,ax,ay,az,aA,aB,aC,af,ag⟩:=zbc bb
         have aE:=bb.frozen;clear X1 hG1;go_upto_region 14 with fail
         refine zb6 (P:=fun W9=>BXS w G p pd (KMO w M A3 m3 c3) ⟨mo,sz,1,ha,ta,ro,1,ix,sub,b,sm⟩ A n1 c1 b W9∧Blk W9 Wq.heap.size 95 (msV (ackM (nx - 1)) none 0 0)) ⟨HX1.out,HG1.out⟩ (fun W9 hW9=>?_);clear ar au av aw ax ay az aA aB aC af ag aE;clear HX1 HG1 bb;obtain⟨hX9,hG9⟩:=hW9;have HX9:=zak (hX9.step (za7 (Below.refl _ _) (.cells (msV (ackM (nx - 1)) none 0 0) 95)));have HG9:=zak (Blk.new W9 95 (msV (ackM (nx - 1)) none 0 0));have zz9:=hX9.1.2.2.2;have zg9:=hG9.lt;unfold msV ackM at HX9 HG9;unfold msV ackM at hG9;obtain⟨aV,aW,aX,aY,aZ,ba,bc,be,bf,bg,aR,aS,aT,aU⟩:=zbd hG9;have bm:=hG9.frozen
         clear hX9;go_wp2_with fail
         refine (zio (some ⟨W9.heap.size,0,none⟩) 1 1 _).mono ?_;rintro e w6 ⟨rfl,hb6⟩;have HX6:=zak (HX9.out.step hb6);have HG6:=zak (HG9.out.below hb6 HG9.out.lt);have k2:=HX6.out.1.out;unfold outV outZ at k2;unfold outV outZ;dsimp only;clear aV aW aX aY aZ ba bc be bf bg aR aS aT aU bm;obtain⟨aF,aG,aH,aI,aJ⟩:=za9 k2;have aP:=k2.frozen;clear hb6 hG9;go_wp2_with fail
         obtain⟨F1,F2⟩:=zi1 (fun _=>False) HX6.out.1.out zz9 (M:=ackM (nx - 1)) HG6.out (zbs.nil _ _) (FIn.nil _) (HX6.out.bv rfl HN1.out HCC.out HAN'.out) HX6.out.1.1 hz;rw[←HR.out] at F2;clear HR;unfold putO outZ at F1 F2;dsimp only at F1 F2;refine zhr (O:=⟨[],false,0,0,[]⟩) rfl rfl rfl F1 ?_;exact F2
     · rw[hla] at ah;have HLA:=zak hla;clear hla;by_cases hs16:M.sq < 16
       · go_upto_region 12 with fail
         have HR:Hid (P=BOutR w G p pd ⟨mo,sz,1,ha,ta,ro,1,ix,sub,b,sm⟩ (outM (ackM (nx - 1)))):=zak (by
          rw[HP.out]
          congr 1
          · unfold bpartS;rw[if_neg h16,if_neg (by rw[HPC.out];decide),if_neg (fun h=>by rw[HLA.out] at h;exact absurd h.2 (by decide)),HT.out]
          · unfold bpartO;rw[if_neg (by rw[HPC.out];decide),if_neg (fun h=>by rw[HLA.out] at h;exact absurd h.2 (by decide)),HT.out])
         have hwr:IntKind.i64.wrap (nx - 1)=nx - 1:=by unfold IntKind.wrap;simp[IntKind.signed,IntKind.bits];omega
         have X1:=(HXW.out.sets (S':=⟨mo,sz,1,ha,ta,ro,1,ix,sub,b,sm⟩) [.int .i64 1] 2 (by simp) rfl).step (za7 (Below.refl _ _) (.cells (msV (ackM (nx - 1)) none 0 0) 95));have HX1:=zak X1;have hG1:=Blk.new (Wq.setCell ⟨p,2,none⟩ (.int .i64 1)) 95 (msV (ackM (nx - 1)) none 0 0);rw[show (Wq.setCell ⟨p,2,none⟩ (.int .i64 1)).heap.size=Wq.heap.size by simp[World.setCell]] at hG1;have HG1:=zak hG1;simp only[World.setCells,Nat.reduceAdd] at HX1;unfold msV ackM at HX1 HG1;have bb:=HXW.out.1.2.1;have zpb:=bb.lt;have zWz:=HXW.out.1.2.2.2;unfold bsrV at bb;dsimp only at bb;obtain⟨ar,au,av,aw,ax,ay,az,aA,aB,aC,af,ag⟩:=zbc bb
         have aE:=bb.frozen;clear X1 hG1;go_upto_region 14 with fail
         refine zb6 (P:=fun W9=>BXS w G p pd (KMO w M A3 m3 c3) ⟨mo,sz,1,ha,ta,ro,1,ix,sub,b,sm⟩ A n1 c1 b W9∧Blk W9 Wq.heap.size 95 (msV (ackM (nx - 1)) none 0 0)) ⟨HX1.out,HG1.out⟩ (fun W9 hW9=>?_);clear ar au av aw ax ay az aA aB aC af ag aE;clear HX1 HG1 bb;obtain⟨hX9,hG9⟩:=hW9;have HX9:=zak (hX9.step (za7 (Below.refl _ _) (.cells (msV (ackM (nx - 1)) none 0 0) 95)));have HG9:=zak (Blk.new W9 95 (msV (ackM (nx - 1)) none 0 0));have zz9:=hX9.1.2.2.2;have zg9:=hG9.lt;unfold msV ackM at HX9 HG9;unfold msV ackM at hG9;obtain⟨aV,aW,aX,aY,aZ,ba,bc,be,bf,bg,aR,aS,aT,aU⟩:=zbd hG9;have bm:=hG9.frozen
         clear hX9;go_wp2_with fail
         refine (zio (some ⟨W9.heap.size,0,none⟩) 1 1 _).mono ?_;rintro e w6 ⟨rfl,hb6⟩;have HX6:=zak (HX9.out.step hb6);have HG6:=zak (HG9.out.below hb6 HG9.out.lt);have k2:=HX6.out.1.out;unfold outV outZ at k2;unfold outV outZ;dsimp only;clear aV aW aX aY aZ ba bc be bf bg aR aS aT aU bm;obtain⟨aF,aG,aH,aI,aJ⟩:=za9 k2;have aP:=k2.frozen;clear hb6 hG9;go_wp2_with fail
         obtain⟨F1,F2⟩:=zi1 (fun _=>False) HX6.out.1.out zz9 (M:=ackM (nx - 1)) HG6.out (zbs.nil _ _) (FIn.nil _) (HX6.out.bv rfl HN1.out HCC.out HAN'.out) HX6.out.1.1 hz;rw[←HR.out] at F2;clear HR;unfold putO outZ at F1 F2;dsimp only at F1 F2;refine zhr (O:=⟨[],false,0,0,[]⟩) rfl rfl rfl F1 ?_;exact F2
       · go_upto_region 12 with fail
         have HR:Hid (P=BOutR w G p pd ⟨mo,sz,1,ha,ta,ro,1,ix,sub,b,sm⟩ (outM (ackM (nx - 1)))):=zak (by
          rw[HP.out]
          congr 1
          · unfold bpartS;rw[if_neg h16,if_neg (by rw[HPC.out];decide),if_neg (fun h=>by rw[HLA.out] at h;exact absurd h.2 (by decide)),HT.out]
          · unfold bpartO;rw[if_neg (by rw[HPC.out];decide),if_neg (fun h=>by rw[HLA.out] at h;exact absurd h.2 (by decide)),HT.out])
         have hwr:IntKind.i64.wrap (nx - 1)=nx - 1:=by unfold IntKind.wrap;simp[IntKind.signed,IntKind.bits];omega
         have X1:=(HXW.out.sets (S':=⟨mo,sz,1,ha,ta,ro,1,ix,sub,b,sm⟩) [.int .i64 1] 2 (by simp) rfl).step (za7 (Below.refl _ _) (.cells (msV (ackM (nx - 1)) none 0 0) 95));have HX1:=zak X1;have hG1:=Blk.new (Wq.setCell ⟨p,2,none⟩ (.int .i64 1)) 95 (msV (ackM (nx - 1)) none 0 0);rw[show (Wq.setCell ⟨p,2,none⟩ (.int .i64 1)).heap.size=Wq.heap.size by simp[World.setCell]] at hG1;have HG1:=zak hG1;simp only[World.setCells,Nat.reduceAdd] at HX1;unfold msV ackM at HX1 HG1;have bb:=HXW.out.1.2.1;have zpb:=bb.lt;have zWz:=HXW.out.1.2.2.2;unfold bsrV at bb;dsimp only at bb;obtain⟨ar,au,av,aw,ax,ay,az,aA,aB,aC,af,ag⟩:=zbc bb
         have aE:=bb.frozen;clear X1 hG1;go_upto_region 14 with fail
         refine zb6 (P:=fun W9=>BXS w G p pd (KMO w M A3 m3 c3) ⟨mo,sz,1,ha,ta,ro,1,ix,sub,b,sm⟩ A n1 c1 b W9∧Blk W9 Wq.heap.size 95 (msV (ackM (nx - 1)) none 0 0)) ⟨HX1.out,HG1.out⟩ (fun W9 hW9=>?_);clear ar au av aw ax ay az aA aB aC af ag aE;clear HX1 HG1 bb;obtain⟨hX9,hG9⟩:=hW9;have HX9:=zak (hX9.step (za7 (Below.refl _ _) (.cells (msV (ackM (nx - 1)) none 0 0) 95)));have HG9:=zak (Blk.new W9 95 (msV (ackM (nx - 1)) none 0 0));have zz9:=hX9.1.2.2.2;have zg9:=hG9.lt;unfold msV ackM at HX9 HG9;unfold msV ackM at hG9;obtain⟨aV,aW,aX,aY,aZ,ba,bc,be,bf,bg,aR,aS,aT,aU⟩:=zbd hG9;have bm:=hG9.frozen
         clear hX9;go_wp2_with fail
         refine (zio (some ⟨W9.heap.size,0,none⟩) 1 1 _).mono ?_;rintro e w6 ⟨rfl,hb6⟩;have HX6:=zak (HX9.out.step hb6);have HG6:=zak (HG9.out.below hb6 HG9.out.lt);have k2:=HX6.out.1.out;unfold outV outZ at k2;unfold outV outZ;dsimp only;clear aV aW aX aY aZ ba bc be bf bg aR aS aT aU bm;obtain⟨aF,aG,aH,aI,aJ⟩:=za9 k2;have aP:=k2.frozen;clear hb6 hG9;go_wp2_with fail
         obtain⟨F1,F2⟩:=zi1 (fun _=>False) HX6.out.1.out zz9 (M:=ackM (nx - 1)) HG6.out (zbs.nil _ _) (FIn.nil _) (HX6.out.bv rfl HN1.out HCC.out HAN'.out) HX6.out.1.1 hz;rw[←HR.out] at F2;clear HR;unfold putO outZ at F1 F2;dsimp only at F1 F2;refine zhr (O:=⟨[],false,0,0,[]⟩) rfl rfl rfl F1 ?_;exact F2
end
end Go.Proofs.YtkkpjbjmhaecjaaGreat
