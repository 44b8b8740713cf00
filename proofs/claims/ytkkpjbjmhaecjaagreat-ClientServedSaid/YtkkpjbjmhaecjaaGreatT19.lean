/- None -/
import Derived.Test.YtkkpjbjmhaecjaaGreatT18
namespace Go.Proofs.YtkkpjbjmhaecjaaGreat
set_option linter.all false
set_option maxRecDepth 100000
set_option maxHeartbeats 4000000
section
open Go.RowKit
def PrtW (w:World) (p pd gk:Nat) (S':SegS) (A:Option Addr) (n1 c1:Nat) (M:Ms) (A3:Option Addr) (m3 c3:Nat) (b:List UInt8) (W:World):Prop:=
 zd0 (fun q=>q=p) w W∧Blk W p 195 (srvV S' pd A n1 c1)∧ Blk W w.heap.size 95 (msV M A3 m3 c3)∧ Blk W (w.heap.size+1) 93 (outV none 0 0 outZ none 0 0)∧ Blk W gk 95 (msV (okM 13 0 0 M.tg) none 0 0)∧ w.heap.size+2≤W.heap.size∧Sl W A (b.map bv)
theorem zlp {w:World}{p pd gk:Nat}{S:SegS}{A:Option Addr}{n c:Nat}{M:Ms}{A3:Option Addr}{m3 c3:Nat}{b:List UInt8}{W W':World}(h:PrtW w p pd gk S A n c M A3 m3 c3 b W)(hb:Below W.heap.size W W'):PrtW w p pd gk S A n c M A3 m3 c3 b W':=
 ⟨h.1.step hb,h.2.1.below hb h.2.1.lt,h.2.2.1.below hb h.2.2.1.lt,h.2.2.2.1.below hb h.2.2.2.1.lt,h.2.2.2.2.1.below hb h.2.2.2.2.1.lt,Nat.le_trans h.2.2.2.2.2.1 hb.size,h.2.2.2.2.2.2.below hb⟩
theorem zlq {w:World}{p pd gk:Nat}{S S2:SegS}{A A2:Option Addr}{n c n2 c2:Nat}{M:Ms}{A3:Option Addr}{m3 c3:Nat}{b b2:List UInt8}{W:World}(h:PrtW w p pd gk S A n c M A3 m3 c3 b W){i:Nat}{u:Value}(hB:Blk (W.setCell ⟨p,i,none⟩ u) p 195 (srvV S2 pd A2 n2 c2))
 (h0:w.heap.size≠p) (h1:w.heap.size+1≠p) (hg:gk≠p) (hs:Sl W A2 (b2.map bv)) (hA:∀ad,A2=some ad→ad.block≠p):PrtW w p pd gk S2 A2 n2 c2 M A3 m3 c3 b2 (W.setCell ⟨p,i,none⟩ u):=
 ⟨h.1.set _ rfl _,hB,h.2.2.1.far (p:=⟨p,i,none⟩) h0 _,h.2.2.2.1.far (p:=⟨p,i,none⟩) h1 _,h.2.2.2.2.1.far (p:=⟨p,i,none⟩) hg _,by have:=h.2.2.2.2.2.1;simp[World.setCell];omega,zks hs (fun ad e=>Below.heap_setCell _ _ _ _ (hA ad e))⟩
theorem zlr {w:World}{p pd gk:Nat}{S:SegS}{A:Option Addr}{n c:Nat}{M:Ms}{A3:Option Addr}{m3 c3:Nat}{b:List UInt8}{W:World}(h:PrtW w p pd gk S A n c M A3 m3 c3 b W):PrtW w p pd gk S A n c M A3 m3 c3 b W.drew:=
 ⟨h.1.drew,h.2.1,h.2.2.1,h.2.2.2.1,h.2.2.2.2.1,h.2.2.2.2.2.1,h.2.2.2.2.2.2⟩
theorem zls (p pd:Nat)(S:SegS)(G:Nat→Prop)(M:Ms)(A3:Option Addr)(m3 c3:Nat)(w:World)(hS:SV_ w G p pd S)(h2:S.st=1)(h256:S.b.length≤256)(hm:m3=M.data.length)(hm1:m3≤100000)(hMd:∀W,zd0 (fun q=>q=p) w W→Sl W A3 (M.data.map bv)) :
 Calls Tryz.prog 214 #[.pointer (some ⟨p,0,none⟩),.agg (msV M A3 m3 c3)] w (SOutR w G p pd (partS S M) (partO S M)):=by
 obtain⟨A,n1,c1,hB,hby⟩:=id hS;obtain⟨hn1,hc1,hsl,hAn,hAG⟩:=hby (.inl h2);obtain⟨P,hP⟩:∃P,P=SOutR w G p pd (partS S M) (partO S M):=⟨_,rfl⟩;rw[←hP];have HP:=zak hP;have hz:=hB.lt;have HN1:=zak hn1;have HSL:=zak hsl;have HAG:=zak hAG;have HAN:=zak hAn;have H2:=zak h2;have HM:=zak hm;have HMD:=zak hMd;have hne1:p≠w.heap.size+1:=by omega
 have hne0:w.heap.size≠p:=by omega
 have hb256:n1≤256:=by omega
 have HH:Hid (ArgW w p pd S A n1 c1 M A3 m3 c3 _):=zak (zk0 M A3 m3 c3 hB);have HX:Hid (PrtW w p pd (w.heap.size+1+1) S A n1 c1 M A3 m3 c3 S.b (((w.alloc (.cells (msV M A3 m3 c3) 95)).alloc (.cells (outV none 0 0 outZ none 0 0) 93)).alloc (.cells (msV (okM 13 0 0 M.tg) none 0 0) 95))):=zak (by
  have h:=HH.out;have hg:=Blk.new ((w.alloc (.cells (msV M A3 m3 c3) 95)).alloc (.cells (outV none 0 0 outZ none 0 0) 93)) 95 (msV (okM 13 0 0 M.tg) none 0 0);rw[h.2.2.2.2] at hg;exact⟨(zd0.of_below (F:=fun q=>q=p) h.1).new _,h.2.1.alloc _,h.2.2.1.alloc _,h.2.2.2.1.alloc _,hg,by simp,(zks hsl (fun ad e=>(zd0.of_below (F:=fun q=>q=p) h.1).block ad.block (hAG ad e).2.1 (hAG ad e).2.2)).alloc _⟩)
 clear HH;clear hP hS hB hby hn1 hsl hAn hAG h256 h2 hm hMd;unfold msV outV outZ okM at HX;unfold msV;go_enter Tryz.func214,Tryz.ntmps214
 go_wp2_with fail
 go_step3
 go_wp2_with fail
 go_step3
 go_wp2_with fail
 refine zed (P:=PrtW w p pd (w.heap.size+1+1) S A n1 c1 M A3 m3 c3 S.b) HX.out (fun W hW=>?_);clear HX;obtain⟨hO,hBW,hK1,hK2,hG,hWz,hSl⟩:=hW;have HO:=zak hO;have HBW:=zak hBW;have HK1:=zak hK1;have HK2:=zak hK2;have HG:=zak hG;have HSW:=zak hSl;have zW:=hBW.lt;have zK:=hK2.lt;have zK1:=hK1.lt;have zG:=hG.lt;have b7:W.cell? ⟨p,7,none⟩=some (.bool S.tg):=hBW.cell 7 rfl;have b3:W.cell? ⟨w.heap.size,3,none⟩=some (.bool M.tg):=hK1.cell 3 rfl;clear hO hBW hK1 hK2 hG hSl;by_cases htg:M.tg=S.tg
 · have hself:(M.tg == S.tg)=true:=by simp[htg]
   have HTG:=zak htg;clear htg;refine wp_region_held_drew (S:=(fun w'=>(∀qA:Addr,qA.block < (W).heap.size→w'.cell? qA=(W).cell? qA)∧ Below (W).heap.size (W) w')) (by kernel_rfl) ?hS1 (fun hHeld=>?rest1)
   case hS1=>exact kSn
   case' rest1=>skip
   iterate 8 (refine tkN ?_;try simp only[PqL,Act.put])
   refine wpAnyH_done (by kernel_rfl) ?_ _;have hEnd:=hHeld.2
   repeat (clear hHeld)
   clear hEnd;have bb:=HBW.out;unfold srvV at bb;obtain⟨ak,al,av,aw,ax,ay,az,aA⟩:=zdb bb;have aN:=bb.frozen;go_upto_region 4 with fail
   have HX1:Hid (PrtW w p pd (w.heap.size+1+1) { S with tg:=!S.tg } A n1 c1 M A3 m3 c3 S.b (W.setCell ⟨p,7,none⟩ (.bool !S.tg)).drew):=zak (zlr (zlq ⟨HO.out,HBW.out,HK1.out,HK2.out,HG.out,hWz,HSW.out⟩ (HBW.out.set_ 7 (.bool !S.tg)) hne0 (fun e=>hne1 e.symm) (by omega) HSW.out (fun ad e=>(HAG.out ad e).2.2)));clear ak al av aw ax ay az aA aN;clear bb;refine zed (P:=PrtW w p pd (w.heap.size+1+1) { S with tg:=!S.tg } A n1 c1 M A3 m3 c3 S.b) HX1.out (fun W1 hW1=>?_);clear HX1;have HX1:=zak hW1;have g6:W1.cell? ⟨p,6,none⟩=some (.slice A n1 c1):=hW1.2.1.cell 6 rfl;have g9:W1.cell? ⟨w.heap.size,9,none⟩=some (.slice A3 m3 c3):=hW1.2.2.1.cell 9 rfl
   have zp1:=hW1.2.1.lt;have zk1:=hW1.2.2.1.lt;have HMD1:=zak (HMD.out W1 hW1.1);have hz1:=hW1.1.size;have hcut:=fun W=>zjx A n1 c1 n1 n1 (n1:Int) (n1:Int) .i64 .i64 rfl rfl (Nat.le_refl _) hc1 W
   clear hW1;refine zaj (fun w'=>w'.cell? ⟨p,6,none⟩=some (.slice A n1 c1)∧ w'.cell? ⟨w.heap.size,9,none⟩=some (.slice A3 m3 c3)) [0,1,2,3,4,5,6,7,8,9,10,11,12,13,14,15,16,17,19,20] (by kernel_rfl) ?hS11 (fun hHeld=>?rest11)
   case hS11=>((try dsimp only);exact⟨g6,g9⟩)
   case' rest11=>skip
   refine tkT 0 ?_;try simp only[PqL,Act.put]
   refine tkT 1 ?_;try simp only[PqL,Act.put]
   refine tkT 2 ?_;try simp only[PqL,Act.put]
   refine tkT 3 ?_;try simp only[PqL,Act.put]
   refine tkT 4 ?_;try simp only[PqL,Act.put]
   refine tkT 5 ?_;try simp only[PqL,Act.put]
   refine tkT 6 ?_;try simp only[PqL,Act.put]
   refine tkT 7 ?_;try simp only[PqL,Act.put]
   refine tkT 8 ?_;try simp only[PqL,Act.put]
   refine tkT 9 ?_;try simp only[PqL,Act.put]
   refine tkT 10 ?_;try simp only[PqL,Act.put]
   refine tkT 11 ?_;try simp only[PqL,Act.put]
   refine tkT 12 ?_;try simp only[PqL,Act.put]
   refine tkT 13 ?_;try simp only[PqL,Act.put]
   refine tkT 14 ?_;try simp only[PqL,Act.put]
   refine tkT 15 ?_;try simp only[PqL,Act.put]
   refine tkT 16 ?_;try simp only[PqL,Act.put]
   refine tkT 17 ?_;try simp only[PqL,Act.put]
   refine zag (i:=18) (o:=_) rfl (by kernel_rfl) (fun K hK=>?_);rw[if_pos (show Region.wanted _ _=true by kernel_rfl)];refine zjt _ _ rfl A n1 S.b rfl HN1.out (show Sl W1.drew A _ from HX1.out.2.2.2.2.2.2) HAN.out A3 m3 c3 M.data rfl HM.out (show Sl W1.drew A3 _ from HMD1.out) (by omega) ?_;intro A4 c4 w3 hs4 hc4 hb4 hA4;obtain⟨N,hN⟩:∃N,N=n1+m3:=⟨_,rfl⟩;rw[←hN] at hc4 ⊢;replace hb4:=zke hb4;have HX3:=zak (zlp HX1.out hb4);have HNN:Hid (N=(S.b ++ M.data).length):=zak (by rw[hN,List.length_append,←HN1.out,←HM.out]);have hN2:N≤35184372088832:=by omega
   have HC4:=zak hc4;have HA4':Hid (∀ad,A4=some ad→(G ad.block∨w.heap.size≤ad.block)∧ ad.block < w3.heap.size∧ad.block≠p∧ad.block≠w.heap.size+1):=zak (fun ad e=>by
    have z3:=hb4.size;have zz:=HX1.out.2.2.2.2.2.1;rcases hA4 with ⟨_,h⟩ | h
    · rw[h] at e;have h1:=HAG.out ad e;exact⟨.inl h1.1,by omega,h1.2.2,by omega⟩
    · obtain⟨h,z5⟩:=h;rw[h] at e;injection e with e
      subst e;have z5:W1.heap.size < w3.heap.size:=z5;exact⟨.inr (show w.heap.size≤W1.heap.size by omega),z5,show W1.heap.size≠p by omega,show W1.heap.size≠w.heap.size+1 by omega⟩)
   have HAN4:Hid (A4=none→N=0):=zak (fun h=>by
    rcases hA4 with ⟨h1,h2⟩ | ⟨h1,_⟩
    · have:=HAN.out (h2.symm.trans h);omega
    · rw[h] at h1;cases h1)
   have HS4:=zak hs4;have g63:=(hb4.cell (p:=⟨p,6,none⟩) zp1).trans g6;have g93:=(hb4.cell (p:=⟨w.heap.size,9,none⟩) zk1).trans g9;have f63:=HX3.out.2.1.frozen 6;have zp3:=HX3.out.2.1.lt;clear hs4 hc4 hA4 hN;refine hK.out _ _ ?hS31 (fun hHeld=>?rest31)
   case hS31=>((try dsimp only);(exact⟨g63,g93⟩))
   case' rest31=>(clear hK K;try simp only[PqL,Act.put])
   refine tkT 19 ?_;try simp only[PqL,Act.put]
   refine tkT 20 ?_;try simp only[PqL,Act.put]
   refine zah (i:=21) (o:=_) rfl (by kernel_rfl) (by kernel_rfl) (fun K hK=>?_)
   go_simp
   refine hK.out _ _ ?rest35
   case' rest35=>(clear hK K;try simp only[PqL,Act.put])
   refine zai (by kernel_rfl) ?_ _
   repeat (clear hHeld)
   have HX2:Hid (PrtW w p pd (w.heap.size+1+1) { S with tg:=!S.tg,b:=S.b ++ M.data } A4 N c4 M A3 m3 c3 (S.b ++ M.data) (w3.setCell ⟨p,6,none⟩ (.slice A4 N c4))):=zak (zlq HX3.out (HX3.out.2.1.set_ 6 (.slice A4 N c4)) hne0 (fun e=>hne1 e.symm) (by omega) HS4.out (fun ad e=>(HA4'.out ad e).2.2.1));have hzs:(w3.setCell ⟨p,6,none⟩ (.slice A4 N c4)).heap.size=w3.heap.size:=by simp[World.setCell]
   have HA4:Hid (∀ad,A4=some ad→(G ad.block∨w.heap.size≤ad.block)∧ ad.block < (w3.setCell ⟨p,6,none⟩ (.slice A4 N c4)).heap.size∧ad.block≠p∧ad.block≠w.heap.size+1):=zak (by rw[hzs];exact HA4'.out);have HXA:=zak (And.intro HX2.out HA4.out);clear hzs g6 g9 g63 g93 f63;clear HA4 HX2;go_upto_region 5 with fail
   refine zed (P:=fun W=>PrtW w p pd (w.heap.size+1+1) { S with tg:=!S.tg,b:=S.b ++ M.data } A4 N c4 M A3 m3 c3 (S.b ++ M.data) W∧ ∀ad,A4=some ad→(G ad.block∨w.heap.size≤ad.block)∧ ad.block < W.heap.size∧ad.block≠p∧ad.block≠w.heap.size+1) HXA.out (fun W2 hW2=>?_);clear HXA;obtain⟨⟨hO2,hB2,hM2,hK2,hG2,hWz2,hS2⟩,hA2⟩:=hW2;have HO2:=zak hO2;have HB2:=zak hB2;have HK2b:=zak hK2;have HG2:=zak hG2;have HS2:=zak hS2;have HA4:=zak hA2;have HWz:=zak (show w.heap.size+1+1≤W2.heap.size from hWz2);have zp2:=hB2.lt;have zk2:=hM2.lt;have zg2:=hG2.lt;have zo2:=hK2.lt;have bb:=HB2.out;have kk:=hM2;have gg:=HG2.out
   have k2:=HK2b.out;unfold srvV at bb;unfold msV at kk;unfold msV okM at gg;unfold outV outZ at k2;obtain⟨ak,al,av,aw,ax,ay,az,aA⟩:=zdb bb;have aN:=bb.frozen;obtain⟨bK,bL,bM,bN,bO,bP,bQ,bR,bS,bT,bw,bx,bz,bA⟩:=zde kk;have cL:=kk.frozen;obtain⟨ic,ie,ig,ii,ij,ik,il,im,io,ip,fo,fp,fr,fs⟩:=zde gg;have jp:=gg.frozen;obtain⟨aB,aC,aD,aE,aF⟩:=zc9 k2;have aO:=k2.frozen;clear hO2 hB2 hM2 hK2 hG2 hS2 hA2;by_cases hA1:S.mo < (N:Int)
   · skip
     have HR:Hid (P=SOutR w G p pd (abortS { S with tg:=!S.tg,b:=S.b ++ M.data }) (outM (abM S.ix S.sub 101122066))):=zak (by
      have hpc:pcode S M=101122066:=by unfold pcode;rw[if_neg (by rw[HTG.out];simp),←HNN.out,if_pos (.inl hA1)]
      rw[HP.out]
      congr 1
      · unfold partS;rw[if_neg (by rw[HTG.out];simp),if_pos (by rw[hpc];decide)];rfl
      · unfold partO abortL;rw[hpc,if_pos (by decide),if_neg (by rw[H2.out];decide)];rfl)
     go_wp2_with fail
     refine (zkb p pd { S with tg:=!S.tg,b:=S.b ++ M.data } 101122066 A4 N c4 _ HB2.out).mono ?_;rintro e w3 ⟨_,h5⟩;obtain⟨g,hg,rfl,hBg,hBp,ho⟩:=h5 (by show S.st≠0;rw[H2.out];decide);have hgz:w.heap.size+1+1≤g:=Nat.le_trans HWz.out hg;have HK23:=zak (zjo (show Blk W2 (w.heap.size+1) _ _ from HK2b.out) ho (fun e=>hne1 e.symm));have HBG:=zak hBg;have HS3:Hid (SV_ w3 (fun q=>((G q∨w.heap.size≤q)∧ ¬False)∧ q≠w.heap.size+1) p pd (abortS { S with tg:=!S.tg,b:=S.b ++ M.data })):=zak ⟨_,_,_,hBp,fun h=>absurd h (by simp[abortS])⟩;have HO3:=zak ((show zd0 (fun q=>q=p) w W2 from HO2.out).trans ho (fun _ _ h=>h))
     clear aB aC aD aE aF aO;clear k2;have k2:=HK23.out;unfold outV outZ at k2;obtain⟨aB,aC,aD,aE,aF⟩:=zc9 k2;have aO:=k2.frozen;clear hBg hBp ho h5;go_wp2_with fail
     obtain⟨F1,F2⟩:=zkv (fun _=>False) HK23.out (by omega) HBG.out (zdv.nil _ _) (FIn.nil _) HS3.out HO3.out hz;rw[←HR.out] at F2;clear HR;unfold putO outZ at F1 F2;dsimp only at F1 F2;refine zj2 (O:=⟨[],false,0,0,[]⟩) rfl rfl rfl F1 ?_;exact F2
   · by_cases hZ1:S.sz= -1
     · cases hla:M.la
       · skip
         have HPC:Hid (pcode S M=0):=zak (by unfold pcode;rw[if_neg (by rw[HTG.out];simp),←HNN.out,if_neg (fun h=>h.elim hA1 (fun h=>h.1 hZ1)),if_neg (fun h=>h.2.1 hZ1)]);have HNS:Hid (partS S M= { S with tg:=!S.tg,b:=S.b ++ M.data }):=zak (by unfold partS;rw[if_neg (by rw[HTG.out];simp),if_neg (by rw[HPC.out];simp),if_neg (by rw[hla];simp)]);have HR:Hid (P=SOutR w G p pd (partS S M) (outM (okM 13 0 0 M.tg))):=zak (by
          rw[HP.out]
          congr 1
          unfold partO;rw[if_neg (by rw[HPC.out];simp),if_neg (by rw[hla];simp)])
         go_wp2_with fail
         refine (zka (okM 13 0 0 M.tg) none 0 0 _).mono ?_;rintro e w3 ⟨g,hg,rfl,hBg,hb3⟩;unfold outV outZ;dsimp only;have HK23:=zak (HK2b.out.below hb3 HK2b.out.lt);have HBG:=zak hBg;have HO3:=zak (HO2.out.step hb3);have hgz:w.heap.size+1+1≤g:=Nat.le_trans HWz.out hg;have HS3:Hid (SV_ w3 (fun q=>((G q∨w.heap.size≤q)∧ ¬False)∧ q≠w.heap.size+1) p pd (partS S M)):=zak ⟨A4,N,c4,by rw[HNS.out];exact HB2.out.below hb3 HB2.out.lt,fun _=>⟨by rw[HNS.out];exact HNN.out,HC4.out,by rw[HNS.out];exact HS2.out.below hb3,HAN4.out,fun ad h=>by
          have h1:=HA4.out ad h;have h2:=hb3.size;exact⟨⟨⟨h1.1,id⟩,h1.2.2.2⟩,by omega,h1.2.2.1⟩⟩⟩
         clear bK bL bM bN bO bP bQ bR bS bT bw bx bz bA cL;clear ic ie ig ii ij ik il im io ip fo fp fr fs jp;clear ak al av aw ax ay az aA aN;clear aB aC aD aE aF aO;clear k2;have k2:=HK23.out;unfold outV outZ at k2;obtain⟨aB,aC,aD,aE,aF⟩:=zc9 k2;have aO:=k2.frozen;clear hBg;go_wp2_with fail
         obtain⟨F1,F2⟩:=zkv (fun _=>False) HK23.out (by omega) HBG.out (zdv.nil _ _) (FIn.nil _) HS3.out HO3.out hz;rw[←HR.out] at F2;clear HR;unfold putO outZ at F1 F2;dsimp only at F1 F2;refine zj2 (O:=⟨[],false,0,0,[]⟩) rfl rfl rfl F1 ?_;exact F2
       · skip
         have HPC:Hid (pcode S M=0):=zak (by unfold pcode;rw[if_neg (by rw[HTG.out];simp),←HNN.out,if_neg (fun h=>h.elim hA1 (fun h=>h.1 hZ1)),if_neg (fun h=>h.2.1 hZ1)]);have HR:Hid (P=SOutR w G p pd (writeS { S with tg:=!S.tg,b:=S.b ++ M.data } (okM 13 0 0 M.tg)) ⟨[],true,S.ix,S.sub,S.b ++ M.data⟩):=zak (by
          rw[HP.out]
          congr 1
          · unfold partS;rw[if_neg (by rw[HTG.out];simp),if_neg (by rw[HPC.out];simp),if_pos hla];rfl
          · unfold partO;rw[if_neg (by rw[HPC.out];simp),if_pos hla])
         have g6:W2.cell? ⟨p,6,none⟩=some (.slice A4 N c4):=HB2.out.cell 6 rfl;have gk:=HG2.out;unfold msV okM at gk;go_wp2_with fail
         refine zaj (fun w'=>w'.cell? ⟨p,6,none⟩=some (.slice A4 N c4)∧ (w'.cell? ⟨w.heap.size+1+1,0,none⟩=some (.int .i64 13)∧ w'.cell? ⟨w.heap.size+1+1,1,none⟩=some (.int .i64 0)∧ w'.cell? ⟨w.heap.size+1+1,2,none⟩=some (.int .i64 0)∧ w'.cell? ⟨w.heap.size+1+1,3,none⟩=some (.bool M.tg)∧ w'.cell? ⟨w.heap.size+1+1,4,none⟩=some (.bool false)∧ w'.cell? ⟨w.heap.size+1+1,5,none⟩=some (.bool false)∧ w'.cell? ⟨w.heap.size+1+1,6,none⟩=some (.bool false)∧ w'.cell? ⟨w.heap.size+1+1,7,none⟩=some (.int .u32 0)∧ w'.cell? ⟨w.heap.size+1+1,8,none⟩=some (.int .u32 0)∧ w'.cell? ⟨w.heap.size+1+1,9,none⟩=some (.slice none 0 0)∧ w'.cell? ⟨w.heap.size+1+1,10,none⟩=some (.int .i64 0)∧ w'.cell? ⟨w.heap.size+1+1,11,none⟩=some (.int .i64 0)∧ w'.cell? ⟨w.heap.size+1+1,12,none⟩=some (.int .i64 0)∧ w'.cell? ⟨w.heap.size+1+1,13,none⟩=some (.int .u16 0))∧ True) [0,1,2,3,4,5] (by kernel_rfl) ?hS37 (fun hHeld=>?rest37)
         case hS37=>((try dsimp only);exact⟨g6,zkp gk⟩)
         case' rest37=>skip
         refine tkT 0 ?_;try simp only[PqL,Act.put]
         refine tkT 1 ?_;try simp only[PqL,Act.put]
         refine tkT 2 ?_;try simp only[PqL,Act.put]
         refine tkT 3 ?_;try simp only[PqL,Act.put]
         refine tkT 4 ?_;try simp only[PqL,Act.put]
         refine tkT 5 ?_;try simp only[PqL,Act.put]
         refine zah (i:=6) (o:=_) rfl (by kernel_rfl) (by kernel_rfl) (fun K hK=>?_)
         go_simp
         refine (zkr p pd { S with tg:=!S.tg,b:=S.b ++ M.data } A4 N c4 A4 N c4 (S.b ++ M.data) 13 0 0 M.tg _ (show Blk W2.drew p _ _ from HB2.out) HNN.out (by omega) (fun W h=>zks (show Sl W2.drew A4 _ from HS2.out) (fun ad e=>h.block ad.block (HA4.out ad e).2.1 (HA4.out ad e).2.2.1))).mono ?_;rintro e w8 ⟨A5,c5,rfl,hO8,hB8,ho8⟩;unfold outV;dsimp only;have HK8:=zak (zjo (show Blk W2.drew (w.heap.size+1) _ _ from HK2b.out) ho8 (fun e=>hne1 e.symm));have HO8:=zak (hO8.mono (B':=w.heap.size+2) HWz.out);have HB8:=zak hB8;have HOo:=zak (HO2.out.drew.trans ho8 (fun _ _ h=>h));clear bK bL bM bN bO bP bQ bR bS bT bw bx bz bA cL
         clear ic ie ig ii ij ik il im io ip fo fp fr fs jp;clear ak al av aw ax ay az aA aN;clear aB aC aD aE aF aO;clear k2 hO8 hB8 ho8 gk g6;have k2:=HK8.out;unfold outV outZ at k2;obtain⟨aB,aC,aD,aE,aF⟩:=zc9 k2;have aO:=k2.frozen;refine hK.out _ _ ?_;clear hK K;try simp only[PqL,Act.put]
         refine zah (i:=7) (o:=_) rfl (by kernel_rfl) (by kernel_rfl) (fun K hK=>?_)
         go_simp
         refine hK.out _ _ ?rest45
         case' rest45=>(clear hK K;try simp only[PqL,Act.put])
         refine zai (by kernel_rfl) ?_ _
         repeat (clear hHeld)
         go_wp2_with fail
         obtain⟨F1,F2⟩:=zll (G:=G) (ix:=S.ix) (sub:=S.sub) HK8.out HO8.out HB8.out rfl HOo.out hz;rw[←HR.out] at F2;clear HR;unfold putO at F1 F2;dsimp only at F1 F2;refine zj2 (O:=⟨[],true,S.ix,S.sub,S.b ++ M.data⟩) rfl rfl rfl F1 ?_;exact F2
     · by_cases hZ2:S.sz < (N:Int)
       · skip
         have HR:Hid (P=SOutR w G p pd (abortS { S with tg:=!S.tg,b:=S.b ++ M.data }) (outM (abM S.ix S.sub 101122066))):=zak (by
          have hpc:pcode S M=101122066:=by unfold pcode;rw[if_neg (by rw[HTG.out];simp),←HNN.out,if_pos (.inr ⟨hZ1,hZ2⟩)]
          rw[HP.out]
          congr 1
          · unfold partS;rw[if_neg (by rw[HTG.out];simp),if_pos (by rw[hpc];decide)];rfl
          · unfold partO abortL;rw[hpc,if_pos (by decide),if_neg (by rw[H2.out];decide)];rfl)
         go_wp2_with fail
         refine (zkb p pd { S with tg:=!S.tg,b:=S.b ++ M.data } 101122066 A4 N c4 _ HB2.out).mono ?_;rintro e w3 ⟨_,h5⟩;obtain⟨g,hg,rfl,hBg,hBp,ho⟩:=h5 (by show S.st≠0;rw[H2.out];decide);have hgz:w.heap.size+1+1≤g:=Nat.le_trans HWz.out hg;have HK23:=zak (zjo (show Blk W2 (w.heap.size+1) _ _ from HK2b.out) ho (fun e=>hne1 e.symm));have HBG:=zak hBg;have HS3:Hid (SV_ w3 (fun q=>((G q∨w.heap.size≤q)∧ ¬False)∧ q≠w.heap.size+1) p pd (abortS { S with tg:=!S.tg,b:=S.b ++ M.data })):=zak ⟨_,_,_,hBp,fun h=>absurd h (by simp[abortS])⟩;have HO3:=zak ((show zd0 (fun q=>q=p) w W2 from HO2.out).trans ho (fun _ _ h=>h))
         clear aB aC aD aE aF aO;clear k2;have k2:=HK23.out;unfold outV outZ at k2;obtain⟨aB,aC,aD,aE,aF⟩:=zc9 k2;have aO:=k2.frozen;clear hBg hBp ho h5;go_wp2_with fail
         obtain⟨F1,F2⟩:=zkv (fun _=>False) HK23.out (by omega) HBG.out (zdv.nil _ _) (FIn.nil _) HS3.out HO3.out hz;rw[←HR.out] at F2;clear HR;unfold putO outZ at F1 F2;dsimp only at F1 F2;refine zj2 (O:=⟨[],false,0,0,[]⟩) rfl rfl rfl F1 ?_;exact F2
       · cases hla:M.la
         · skip
           have HPC:Hid (pcode S M=0):=zak (by unfold pcode;rw[if_neg (by rw[HTG.out];simp),←HNN.out,if_neg (fun h=>h.elim hA1 (fun h=>hZ2 h.2)),if_neg (fun h=>by rw[hla] at h;exact absurd h.1 (by simp))]);have HNS:Hid (partS S M= { S with tg:=!S.tg,b:=S.b ++ M.data }):=zak (by unfold partS;rw[if_neg (by rw[HTG.out];simp),if_neg (by rw[HPC.out];simp),if_neg (by rw[hla];simp)]);have HR:Hid (P=SOutR w G p pd (partS S M) (outM (okM 13 0 0 M.tg))):=zak (by
            rw[HP.out]
            congr 1
            unfold partO;rw[if_neg (by rw[HPC.out];simp),if_neg (by rw[hla];simp)])
           go_wp2_with fail
           refine (zka (okM 13 0 0 M.tg) none 0 0 _).mono ?_;rintro e w3 ⟨g,hg,rfl,hBg,hb3⟩;unfold outV outZ;dsimp only;have HK23:=zak (HK2b.out.below hb3 HK2b.out.lt);have HBG:=zak hBg;have HO3:=zak (HO2.out.step hb3);have hgz:w.heap.size+1+1≤g:=Nat.le_trans HWz.out hg;have HS3:Hid (SV_ w3 (fun q=>((G q∨w.heap.size≤q)∧ ¬False)∧ q≠w.heap.size+1) p pd (partS S M)):=zak ⟨A4,N,c4,by rw[HNS.out];exact HB2.out.below hb3 HB2.out.lt,fun _=>⟨by rw[HNS.out];exact HNN.out,HC4.out,by rw[HNS.out];exact HS2.out.below hb3,HAN4.out,fun ad h=>by
            have h1:=HA4.out ad h;have h2:=hb3.size;exact⟨⟨⟨h1.1,id⟩,h1.2.2.2⟩,by omega,h1.2.2.1⟩⟩⟩
           clear bK bL bM bN bO bP bQ bR bS bT bw bx bz bA cL;clear ic ie ig ii ij ik il im io ip fo fp fr fs jp;clear ak al av aw ax ay az aA aN;clear aB aC aD aE aF aO;clear k2;have k2:=HK23.out;unfold outV outZ at k2;obtain⟨aB,aC,aD,aE,aF⟩:=zc9 k2;have aO:=k2.frozen;clear hBg;go_wp2_with fail
           obtain⟨F1,F2⟩:=zkv (fun _=>False) HK23.out (by omega) HBG.out (zdv.nil _ _) (FIn.nil _) HS3.out HO3.out hz;rw[←HR.out] at F2;clear HR;unfold putO outZ at F1 F2;dsimp only at F1 F2;refine zj2 (O:=⟨[],false,0,0,[]⟩) rfl rfl rfl F1 ?_;exact F2
         · by_cases hZ3:(N:Int)=S.sz
           · have hZ4:((N:Int) != S.sz)=false:=by simp[hZ3]
             have HPC:Hid (pcode S M=0):=zak (by unfold pcode;rw[if_neg (by rw[HTG.out];simp),←HNN.out,if_neg (fun h=>h.elim hA1 (fun h=>hZ2 h.2)),if_neg (fun h=>h.2.2 hZ3)]);have HR:Hid (P=SOutR w G p pd (writeS { S with tg:=!S.tg,b:=S.b ++ M.data } (okM 13 0 0 M.tg)) ⟨[],true,S.ix,S.sub,S.b ++ M.data⟩):=zak (by
              rw[HP.out]
              congr 1
              · unfold partS;rw[if_neg (by rw[HTG.out];simp),if_neg (by rw[HPC.out];simp),if_pos hla];rfl
              · unfold partO;rw[if_neg (by rw[HPC.out];simp),if_pos hla])
             have g6:W2.cell? ⟨p,6,none⟩=some (.slice A4 N c4):=HB2.out.cell 6 rfl;have gk:=HG2.out;unfold msV okM at gk;go_wp2_with fail
             refine zaj (fun w'=>w'.cell? ⟨p,6,none⟩=some (.slice A4 N c4)∧ (w'.cell? ⟨w.heap.size+1+1,0,none⟩=some (.int .i64 13)∧ w'.cell? ⟨w.heap.size+1+1,1,none⟩=some (.int .i64 0)∧ w'.cell? ⟨w.heap.size+1+1,2,none⟩=some (.int .i64 0)∧ w'.cell? ⟨w.heap.size+1+1,3,none⟩=some (.bool M.tg)∧ w'.cell? ⟨w.heap.size+1+1,4,none⟩=some (.bool false)∧ w'.cell? ⟨w.heap.size+1+1,5,none⟩=some (.bool false)∧ w'.cell? ⟨w.heap.size+1+1,6,none⟩=some (.bool false)∧ w'.cell? ⟨w.heap.size+1+1,7,none⟩=some (.int .u32 0)∧ w'.cell? ⟨w.heap.size+1+1,8,none⟩=some (.int .u32 0)∧ w'.cell? ⟨w.heap.size+1+1,9,none⟩=some (.slice none 0 0)∧ w'.cell? ⟨w.heap.size+1+1,10,none⟩=some (.int .i64 0)∧ w'.cell? ⟨w.heap.size+1+1,11,none⟩=some (.int .i64 0)∧ w'.cell? ⟨w.heap.size+1+1,12,none⟩=some (.int .i64 0)∧ w'.cell? ⟨w.heap.size+1+1,13,none⟩=some (.int .u16 0))∧ True) [0,1,2,3,4,5] (by kernel_rfl) ?hS47 (fun hHeld=>?rest47)
             case hS47=>((try dsimp only);exact⟨g6,zkp gk⟩)
             case' rest47=>skip
             refine tkT 0 ?_;try simp only[PqL,Act.put]
             refine tkT 1 ?_;try simp only[PqL,Act.put]
             refine tkT 2 ?_;try simp only[PqL,Act.put]
             refine tkT 3 ?_;try simp only[PqL,Act.put]
             refine tkT 4 ?_;try simp only[PqL,Act.put]
             refine tkT 5 ?_;try simp only[PqL,Act.put]
             refine zah (i:=6) (o:=_) rfl (by kernel_rfl) (by kernel_rfl) (fun K hK=>?_)
             go_simp
             refine (zkr p pd { S with tg:=!S.tg,b:=S.b ++ M.data } A4 N c4 A4 N c4 (S.b ++ M.data) 13 0 0 M.tg _ (show Blk W2.drew p _ _ from HB2.out) HNN.out (by omega) (fun W h=>zks (show Sl W2.drew A4 _ from HS2.out) (fun ad e=>h.block ad.block (HA4.out ad e).2.1 (HA4.out ad e).2.2.1))).mono ?_;rintro e w8 ⟨A5,c5,rfl,hO8,hB8,ho8⟩;unfold outV;dsimp only;have HK8:=zak (zjo (show Blk W2.drew (w.heap.size+1) _ _ from HK2b.out) ho8 (fun e=>hne1 e.symm));have HO8:=zak (hO8.mono (B':=w.heap.size+2) HWz.out);have HB8:=zak hB8;have HOo:=zak (HO2.out.drew.trans ho8 (fun _ _ h=>h));clear bK bL bM bN bO bP bQ bR bS bT bw bx bz bA cL
             clear ic ie ig ii ij ik il im io ip fo fp fr fs jp;clear ak al av aw ax ay az aA aN;clear aB aC aD aE aF aO;clear k2 hO8 hB8 ho8 gk g6;have k2:=HK8.out;unfold outV outZ at k2;obtain⟨aB,aC,aD,aE,aF⟩:=zc9 k2;have aO:=k2.frozen;refine hK.out _ _ ?_;clear hK K;try simp only[PqL,Act.put]
             refine zah (i:=7) (o:=_) rfl (by kernel_rfl) (by kernel_rfl) (fun K hK=>?_)
             go_simp
             refine hK.out _ _ ?rest55
             case' rest55=>(clear hK K;try simp only[PqL,Act.put])
             refine zai (by kernel_rfl) ?_ _
             repeat (clear hHeld)
             go_wp2_with fail
             obtain⟨F1,F2⟩:=zll (G:=G) (ix:=S.ix) (sub:=S.sub) HK8.out HO8.out HB8.out rfl HOo.out hz;rw[←HR.out] at F2;clear HR;unfold putO at F1 F2;dsimp only at F1 F2;refine zj2 (O:=⟨[],true,S.ix,S.sub,S.b ++ M.data⟩) rfl rfl rfl F1 ?_;exact F2
           · have hZ4:((N:Int) != S.sz)=true:=by simp[hZ3]
             have hZ5:(S.sz != -1)=true:=by simp[hZ1]
             have HR:Hid (P=SOutR w G p pd (abortS { S with tg:=!S.tg,b:=S.b ++ M.data }) (outM (abM S.ix S.sub 101122064))):=zak (by
              have hpc:pcode S M=101122064:=by unfold pcode;rw[if_neg (by rw[HTG.out];simp),←HNN.out,if_neg (fun h=>h.elim hA1 (fun h=>hZ2 h.2)),if_pos ⟨hla,hZ1,hZ3⟩]
              rw[HP.out]
              congr 1
              · unfold partS;rw[if_neg (by rw[HTG.out];simp),if_pos (by rw[hpc];decide)];rfl
              · unfold partO abortL;rw[hpc,if_pos (by decide),if_neg (by rw[H2.out];decide)];rfl)
             go_wp2_with fail
             refine (zkb p pd { S with tg:=!S.tg,b:=S.b ++ M.data } 101122064 A4 N c4 _ HB2.out).mono ?_;rintro e w3 ⟨_,h5⟩;obtain⟨g,hg,rfl,hBg,hBp,ho⟩:=h5 (by show S.st≠0;rw[H2.out];decide);have hgz:w.heap.size+1+1≤g:=Nat.le_trans HWz.out hg;have HK23:=zak (zjo (show Blk W2 (w.heap.size+1) _ _ from HK2b.out) ho (fun e=>hne1 e.symm));have HBG:=zak hBg;have HS3:Hid (SV_ w3 (fun q=>((G q∨w.heap.size≤q)∧ ¬False)∧ q≠w.heap.size+1) p pd (abortS { S with tg:=!S.tg,b:=S.b ++ M.data })):=zak ⟨_,_,_,hBp,fun h=>absurd h (by simp[abortS])⟩;have HO3:=zak ((show zd0 (fun q=>q=p) w W2 from HO2.out).trans ho (fun _ _ h=>h))
             clear aB aC aD aE aF aO;clear k2;have k2:=HK23.out;unfold outV outZ at k2;obtain⟨aB,aC,aD,aE,aF⟩:=zc9 k2;have aO:=k2.frozen;clear hBg hBp ho h5;go_wp2_with fail
             obtain⟨F1,F2⟩:=zkv (fun _=>False) HK23.out (by omega) HBG.out (zdv.nil _ _) (FIn.nil _) HS3.out HO3.out hz;rw[←HR.out] at F2;clear HR;unfold putO outZ at F1 F2;dsimp only at F1 F2;refine zj2 (O:=⟨[],false,0,0,[]⟩) rfl rfl rfl F1 ?_;exact F2
 · have hself:(M.tg == S.tg)=false:=by simp[htg]
   have HTG:=zak htg;clear htg;refine wp_region_held_drew (S:=(fun w'=>(∀qA:Addr,qA.block < (W).heap.size→w'.cell? qA=(W).cell? qA)∧ Below (W).heap.size (W) w')) (by kernel_rfl) ?hS57 (fun hHeld=>?rest57)
   case hS57=>exact kSn
   case' rest57=>skip
   iterate 8 (refine tkN ?_;try simp only[PqL,Act.put])
   refine wpAnyH_done (by kernel_rfl) ?_ _;have hEnd:=hHeld.2
   repeat (clear hHeld)
   clear hEnd;have HR:Hid (P=SOutR w G p pd (abortS S) (outM (abM S.ix S.sub 84082688))):=zak (by
    have hpc:pcode S M=84082688:=by unfold pcode;rw[if_pos HTG.out]
    rw[HP.out]
    congr 1
    · unfold partS;rw[if_pos HTG.out];rfl
    · unfold partO abortL;rw[hpc,if_pos (by decide),if_neg (by rw[H2.out];decide)];rfl)
   go_wp2_with fail
   refine (zkb p pd S 84082688 A n1 c1 _ (show Blk W.drew p _ _ from HBW.out)).mono ?_;rintro e w3 ⟨_,h5⟩;obtain⟨g,hg,rfl,hBg,hBp,ho⟩:=h5 (by show S.st≠0;rw[H2.out];decide);have hgz:w.heap.size+1+1≤g:=Nat.le_trans hWz hg;have HK23:=zak (zjo (show Blk W.drew (w.heap.size+1) _ _ from HK2.out) ho (fun e=>hne1 e.symm));have HBG:=zak hBg;have HS3:Hid (SV_ w3 (fun q=>((G q∨w.heap.size≤q)∧ ¬False)∧ q≠w.heap.size+1) p pd (abortS S)):=zak ⟨_,_,_,hBp,fun h=>absurd h (by simp[abortS])⟩;have HO3:=zak ((show zd0 (fun q=>q=p) w W.drew from HO.out.drew).trans ho (fun _ _ h=>h));have k2:=HK23.out;unfold outV outZ at k2
   obtain⟨aB,aC,aD,aE,aF⟩:=zc9 k2;have aO:=k2.frozen;clear hBg hBp ho h5;go_wp2_with fail
   obtain⟨F1,F2⟩:=zkv (fun _=>False) HK23.out (by omega) HBG.out (zdv.nil _ _) (FIn.nil _) HS3.out HO3.out hz;rw[←HR.out] at F2;clear HR;unfold putO outZ at F1 F2;dsimp only at F1 F2;refine zj2 (O:=⟨[],false,0,0,[]⟩) rfl rfl rfl F1 ?_;exact F2
end
section
section
open Go.RowKit
theorem zlt (p pd:Nat)(S:SegS)(code:Nat)(A:Option Addr)(n c:Nat)(w:World)(hB:Blk w p 195 (srvV S pd A n c)) :
 Calls Tryz.prog 132 #[.pointer (some ⟨p,0,none⟩),.int .u32 (code:Nat)] w fun e w'=>(S.st≠3→e= .returned (.slice none 0 0)∧ w'=w)∧
  (S.st=3→ ∃g,w.heap.size≤g∧e= .returned (.slice (some ⟨g,0,none⟩) 1 1)∧ Blk w' g 95 (msV (if code=0 then wellM S else abM S.ix S.sub code) none 0 0)∧ Blk w' p 195 (srvV (segIdle S) pd A n c)∧ zd0 (fun k=>k=p) w w'):=by
 have HB:=zak hB;have c1:w.cell? ⟨p,1,none⟩=some (.int .i64 S.st):=hB.cell 1 rfl;have hz:=hB.lt;by_cases h3:S.st=3
 · rw[h3] at c1;have H3:=zak h3;clear h3;by_cases h0:code=0
   · subst h0;have bb:=hB;unfold srvV at bb;rw[H3.out] at bb;obtain⟨ak,al,av,aw,ax,ay,az,aA,aK,aL,ar,au,lA,lB,lC,lD,lE,lH,lI,lJ,lK,lL⟩:=zdf bb;have aN:=bb.frozen;have hs:Hid (Blk (w.setCell ⟨p,1,none⟩ (.int .i64 0)) p 195 (srvV (segIdle S) pd A n c)):=zak (HB.out.set_ 1 (.int .i64 0));have ho:zd0 (fun k=>k=p) w (w.setCell ⟨p,1,none⟩ (.int .i64 0)):=zd0.of_set (F:=fun k=>k=p) rfl _;have hz0:(w.setCell ⟨p,1,none⟩ (.int .i64 0)).heap.size=w.heap.size:=by simp[World.setCell]
     have hg:=Blk.new (w.setCell ⟨p,1,none⟩ (.int .i64 0)) 95 (msV (wellM S) none 0 0);rw[hz0] at hg;have HR:=zak (And.intro hg (And.intro (hs.out.alloc (.cells (msV (wellM S) none 0 0) 95)) (ho.new (.cells (msV (wellM S) none 0 0) 95))));clear hg hs ho hz0 hB bb;unfold msV wellM okM at HR;go_enter Tryz.func132,Tryz.ntmps132
     go_wp2_with fail
     go_ret
     exact⟨fun h=>absurd H3.out h,fun _=>⟨w.heap.size,Nat.le_refl _,rfl,HR.out⟩⟩
   · have HA:=zak (zkb p pd S code A n c w hB);have HC:=zak h0;have hne: ¬(code:Int)=0:=by omega
     clear hB h0;go_enter Tryz.func132,Tryz.ntmps132
     go_wp2_with fail
     refine HA.out.mono ?_;rintro e w1 ⟨_,h5⟩;obtain⟨g,hg,rfl,hBg,hBp,ho⟩:=h5 (by rw[H3.out];decide);have HX:=zak (And.intro hBg (And.intro hBp ho));clear hBg hBp ho h5;go_wp2_with fail
     go_ret
     exact⟨fun h=>absurd H3.out h,fun _=>⟨g,hg,rfl,HX.out⟩⟩
 · obtain⟨s,hs⟩:∃s,s=S.st:=⟨_,rfl⟩;have H3:=zak h3;rw[←hs] at c1;have hne:(s == 3)=false:=by simp[hs,h3]
   have hne2: ¬s=3:=by rw[hs];exact h3
   clear hB hs h3;go_enter Tryz.func132,Tryz.ntmps132
   go_wp2_with fail
   all_goals
    go_ret
    exact⟨fun _=>⟨rfl,rfl⟩,fun h=>absurd h H3.out⟩
theorem zlu {w W' w3:World}{G G':Nat→Prop}{p pd:Nat}{S':SegS}{O:SegO}{X:Nat→Prop}{As:Option Addr}{ns cs:Nat}{A:Option Addr}{n c:Nat}(hz:w.heap.size+2≤W'.heap.size)(hO:zd0 (fun q=>q=p) w W')(hp:p < w.heap.size)(hK:Blk W' (w.heap.size+1) 93 (outV none 0 0 outZ none 0 0))(hG:∀q,G' q→(G q∨w.heap.size≤q)∧ q≠w.heap.size+1)
 (h1:MsR w3 W'.heap.size X As ns cs O.ms) (h2:zdv w3 W'.heap.size A n c O.b) (h3:FIn X A) (h4:SV_ w3 (fun q=>(G' q∨W'.heap.size≤q)∧ ¬X q) p pd S') (h5:zd0 (fun q=>q=p) W' w3) :
 Blk (putO w3 (w.heap.size+1) As ns cs O A n c) (w.heap.size+1) 93 (outV As ns cs O A n c)∧ SOutR w G p pd S' O (.returned (.agg (outV As ns cs O A n c))) (putO w3 (w.heap.size+1) As ns cs O A n c):=by
 have hK3:=zjo hK h5 (by omega);refine⟨zj3 hK3,X,As,ns,cs,A,n,c,rfl,?_,(zj6 h2 (by omega) _ _ _ _ _ _ _).mono (by omega),h3,?_,zj5 (hO.trans h5 (fun _ _ h=>h)) (by omega) _ _ _ _ _ _ _⟩
 · rcases h1 with ⟨a,b,c',d⟩ | ⟨M,g,A',n',c',a,b,c1,d,e,f,g1,g2⟩
   · exact .inl ⟨a,b,c',d⟩
   · exact .inr ⟨M,g,A',n',c',a,b,c1,d,by omega,zj4 f (by omega) _ _ _ _ _ _ _,(zj6 g1 (by omega) _ _ _ _ _ _ _).mono (by omega),g2⟩
 · refine h4.keep (fun q hq hlt=>zkt ?_ _ _ _ _ _ _ _) (by rw[zku];exact Nat.le_refl _) (fun q _ hq=>⟨?_,hq.2⟩)
   · rcases hq with rfl | hq
     · omega
     · rcases hq.1 with h | h
       · exact (hG q h).2
       · omega
   · rcases hq.1 with h | h
     · exact (hG q h).1
     · exact .inr (by omega)
end
section
open Go.RowKit
end
end
end Go.Proofs.YtkkpjbjmhaecjaaGreat
