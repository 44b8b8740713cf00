/- None -/
import Derived.Test.YtkkpjbjmhaecjaaGreatU16
import Derived.Test.YtkkpjbjmhaecjaaGreatU17
namespace Go.Proofs.YtkkpjbjmhaecjaaGreat
set_option linter.all false
set_option maxRecDepth 100000
set_option maxHeartbeats 4000000
section
open Go.RowKit
theorem zje (p pd:Nat)(S:BlkS)(G:Nat→Prop)(M:Ms)(A3:Option Addr)(m3 c3:Nat)(w:World)(hS:BV_ w G p pd S)(h1:S.st=2)(h256:S.b.length≤100000)(hem:0≤M.em∧M.em≤1000) :
 Calls Tryz.prog 90 #[.pointer (some ⟨p,0,none⟩),.agg (msV M A3 m3 c3)] w (BOutR w G p pd (bendS S M) (bendO S M)):=by
 obtain⟨mo,sz,nx,ha,ta,ro,st,ix,sub,b,sm⟩:=S;obtain rfl:st=2:=h1;obtain⟨A,n1,c1,hB,hby⟩:=id hS;obtain⟨hn1,hc1,hsl,hAn,hAG⟩:=hby (show (2:Int)≠ 0 by decide);obtain⟨P,hP⟩:∃P,P=BOutR w G p pd (bendS ⟨mo,sz,nx,ha,ta,ro,2,ix,sub,b,sm⟩ M) (bendO ⟨mo,sz,nx,ha,ta,ro,2,ix,sub,b,sm⟩ M):=⟨_,rfl⟩;rw[←hP];have HP:=zak hP;have hz:=hB.lt;replace hn1:n1=b.length:=hn1;replace h256:b.length≤100000:=h256;obtain⟨hem0,hem1⟩:=hem;obtain⟨k,hk⟩:∃k,k=n1 - M.em.toNat:=⟨_,rfl⟩;obtain⟨l,hl⟩:∃l,l=bendB ⟨mo,sz,nx,ha,ta,ro,2,ix,sub,b,sm⟩ M:=⟨_,rfl⟩;have hlk:k=l.length:=by rw[hl];unfold bendB;simp only[List.length_take];omega
 have hlt:l=b.take k:=by rw[hl];unfold bendB;simp only;rw[hk,hn1]
 have HL:=zak hl;have HLK:=zak hlk;have HLT:=zak hlt;have HN1:=zak hn1;have HAN:=zak hAn;have hne1:p≠w.heap.size+1:=by omega
 have hne0:w.heap.size≠p:=by omega
 have hbn:n1≤100000:=by omega
 have hkn:k≤n1:=by omega
 have hmax:(if M.em < (n1:Int) then (n1:Int) - M.em else 0)=(k:Int):=by split<;>omega
 have hkc:(k:Int)≤ (c1:Int):=by omega
 have hwem:IntKind.i64.wrap ((n1:Int) - M.em)=(n1:Int) - M.em:=by unfold IntKind.wrap;simp[IntKind.signed,IntKind.bits];omega
 have HAG:=zak hAG;have HX:Hid (BXS w G p pd (KMO w M A3 m3 c3) ⟨mo,sz,nx,ha,ta,ro,2,ix,sub,b,sm⟩ A n1 c1 b _):=zak ⟨zi4 M A3 m3 c3 hB,(hsl.alloc _).alloc _,fun ad e=>⟨.inl (hAG ad e).1,by have:=(hAG ad e).2.1;simp;omega,(hAG ad e).2.2,by have:=(hAG ad e).2.1;omega⟩⟩;clear hP hS hB hby hn1 hsl hAn h256 hAG hl hlk hlt hk;unfold msV outV outZ at HX;unfold msV;go_enter Tryz.func90,Tryz.ntmps90
 go_upto_region 1 with fail
 refine zb6 (P:=BXS w G p pd (KMO w M A3 m3 c3) ⟨mo,sz,nx,ha,ta,ro,2,ix,sub,b,sm⟩ A n1 c1 b) HX.out (fun W hW=>?_);clear HX;have HX1:=zak hW.drew;have zW:=hW.1.2.1.lt;have zk1:=hW.1.msg.lt;have zo1:=hW.1.out.lt;have b10:W.cell? ⟨p,10,none⟩=some (.slice A n1 c1):=hW.1.2.1.cell 10 rfl;have b12:W.cell? ⟨w.heap.size,12,none⟩=some (.int .i64 M.em):=hW.1.msg.cell 12 rfl;clear hW;refine wp_region_held_drew (S:=(fun w'=>(∀qA:Addr,qA.block < (W).heap.size→w'.cell? qA=(W).cell? qA)∧ Below (W).heap.size (W) w')) (by kernel_rfl) ?hS1 (fun hHeld=>?rest1)
 case hS1=>exact kSn
 case' rest1=>skip
 iterate 15 (refine tkN ?_;try simp only[PqL,Act.put])
 refine wpAnyH_done (by kernel_rfl) ?_ _;have hEnd:=hHeld.2
 repeat (clear hHeld)
 clear hEnd b10 b12 zW zk1 zo1;go_upto_region 2 with fail
 refine zb6 (P:=BXS w G p pd (KMO w M A3 m3 c3) ⟨mo,sz,nx,ha,ta,ro,2,ix,sub,b,sm⟩ A n1 c1 b) HX1.out (fun W2 hW2=>?_);clear HX1;have HXW:=zak hW2;have k1:=hW2.1.msg;have bb:=hW2.1.2.1;have zW:=bb.lt;have zk1:=k1.lt;have zo1:=hW2.1.out.lt;unfold msV at k1;unfold bsrV at bb;dsimp only at bb;obtain⟨am,ai,aj,an,ah,ak,al,ao,ap,aq,aa,ab,ac,ae⟩:=zbd k1;have aD:=k1.frozen;obtain⟨ar,au,av,aw,ax,ay,az,aA,aB,aC,af,ag⟩:=zbc bb;have aE:=bb.frozen;clear hW2;cases hsm:sm
 · subst hsm;have HSU:Hid (¬((false:Bool)=true∧sum16L l≠M.sum)):=zak (by simp);by_cases hszz:sz= -1
   · have hsz1:(sz != -1)=false:=by simp[hszz]
     by_cases hmo:mo < (k:Int)
     · skip
       have HR:Hid (P=BOutR w G p pd (blkIdle ⟨mo,sz,nx,ha,ta,ro,2,ix,sub,b,false⟩) (outM (abM ix sub 101122066))):=zak (by
        have hpc:becode ⟨mo,sz,nx,ha,ta,ro,2,ix,sub,b,false⟩ M=101122066:=by unfold becode;rw[←HL.out,if_neg HSU.out,if_neg (fun h=>h.1 hszz),if_pos (by rw[←HLK.out];exact hmo)]
        rw[HP.out]
        congr 1
        · unfold bendS;rw[if_pos (by rw[hpc];decide)];rfl
        · unfold bendO bAbortL;rw[hpc,if_pos (by decide),if_neg (show ¬(2:Int)=0 by decide)];rfl)
       go_wp2_with fail
       refine (zis p pd ⟨mo,sz,nx,ha,ta,ro,2,ix,sub,b,false⟩ 101122066 A n1 c1 _ HXW.out.1.2.1 (show (2:Int)≠ 0 by decide)).mono ?_;rintro e w5 ⟨g,hg,rfl,hBg,hBp,ho⟩;have hgz:w.heap.size+2≤g:=Nat.le_trans HXW.out.1.2.2.2 hg;have k2:=zhe HXW.out.1.out ho (fun e=>hne1 e.symm);have HK2:=zak k2;have HBG:=zak hBg;have HS5:Hid (BV_ w5 (fun q=>((G q∨w.heap.size≤q)∧ ¬False)∧ q≠w.heap.size+1) p pd (blkIdle ⟨mo,sz,nx,ha,ta,ro,2,ix,sub,b,false⟩)):=zak (zi0 hBp);have HO5:=zak (HXW.out.1.1.trans ho (fun _ _ h=>h));unfold outV outZ at k2;unfold outV outZ;dsimp only;obtain⟨aF,aG,aH,aI,aJ⟩:=za9 k2;have aP:=k2.frozen
       clear hBg hBp ho;go_wp2_with fail
       obtain⟨F1,F2⟩:=zi1 (fun _=>False) HK2.out hgz (M:=abM ix sub 101122066) HBG.out (zbs.nil _ _) (FIn.nil _) HS5.out HO5.out hz;rw[←HR.out] at F2;clear HR;unfold putO outZ at F1 F2;dsimp only at F1 F2;refine zhr (O:=⟨[],false,0,0,[]⟩) rfl rfl rfl F1 ?_;exact F2
     · skip
       have HR:Hid (P=BOutR w G p pd ⟨mo,sz,nx,ha,ta,ro,3,ix,sub,b,false⟩ ⟨[],true,ix,sub,l⟩):=zak (by
        have hpc:becode ⟨mo,sz,nx,ha,ta,ro,2,ix,sub,b,false⟩ M=0:=by unfold becode;rw[←HL.out,if_neg HSU.out,if_neg (fun h=>h.1 hszz),if_neg (by rw[←HLK.out];exact hmo)]
        rw[HP.out]
        congr 1
        · unfold bendS;rw[if_neg (by rw[hpc];decide)]
        · unfold bendO;rw[if_neg (by rw[hpc];decide),←HL.out])
       have HX3:=zak (HXW.out.sets (S':=⟨mo,sz,nx,ha,ta,ro,3,ix,sub,b,false⟩) [.int .i64 3] 7 (by simp) rfl);simp only[World.setCells] at HX3;go_upto_region 9 with fail
       refine zb6 (P:=BXS w G p pd (KMO w M A3 m3 c3) ⟨mo,sz,nx,ha,ta,ro,3,ix,sub,b,false⟩ A n1 c1 b) HX3.out (fun W9 hW9=>?_);clear am ai aj an ah ak al ao ap aq aa ab ac ae aD;clear ar au av aw ax ay az aA aB aC af ag aE;clear HX3 k1 bb zW zk1 zo1;have HX9:=zak hW9;have zp9:=hW9.1.2.1.lt;have zz9:=hW9.1.2.2.2;have d2:W9.cell? ⟨p,8,none⟩=some (.int .i64 ix):=hW9.1.2.1.cell 8 rfl;have d3:W9.cell? ⟨p,9,none⟩=some (.int .i64 sub):=hW9.1.2.1.cell 9 rfl;have HSL:=zak (show Sl W9 A (l.map bv) by rw[HLT.out,List.map_take];exact hW9.2.1.take_ k);clear hW9;refine zaj (fun w'=>w'.cell? ⟨p,8,none⟩=some (.int .i64 ix)∧ w'.cell? ⟨p,9,none⟩=some (.int .i64 sub)) [0,1,2,3,4,5,6,7,8,10,11] (by kernel_rfl) ?hS18 (fun hHeld=>?rest18)
       case hS18=>((try dsimp only);exact⟨d2,d3⟩)
       case' rest18=>skip
       refine tkT 0 ?_;try simp only[PqL,Act.put]
       refine tkT 1 ?_;try simp only[PqL,Act.put]
       refine tkT 2 ?_;try simp only[PqL,Act.put]
       refine tkT 3 ?_;try simp only[PqL,Act.put]
       refine tkT 4 ?_;try simp only[PqL,Act.put]
       refine tkT 5 ?_;try simp only[PqL,Act.put]
       refine tkT 6 ?_;try simp only[PqL,Act.put]
       refine tkT 7 ?_;try simp only[PqL,Act.put]
       refine tkT 8 ?_;try simp only[PqL,Act.put]
       refine zag (i:=9) (o:=_) rfl (by kernel_rfl) (fun K hK=>?_);rw[if_pos (show Region.wanted _ _=true by kernel_rfl)];refine zhk _ _ rfl W9.heap.size none 0 0 [] rfl (zbs.nil _ _) A k c1 l rfl HLK.out HSL.out (by omega) (Nat.le_refl _) k (by omega) ?_;intro A5 c5 w3 hO3 hb3;rw[List.nil_append] at hO3;replace hb3:=zhy hb3;have HX5:=zak (HX9.out.step hb3);have HO3:=zak (hO3.mono (B':=w.heap.size+2) zz9);have HF3:Hid (FIn (fun q=>W9.heap.size≤q) A5):=zak (hO3.own.fin.mono (fun q h=>h.1));have hk3:=HX5.out.1.out;have HS3:Hid (BV_ w3 (fun q=>((G q∨w.heap.size≤q)∧ ¬W9.heap.size≤q)∧ q≠w.heap.size+1) p pd ⟨mo,sz,nx,ha,ta,ro,3,ix,sub,b,false⟩):=zak ⟨A,n1,c1,HX5.out.1.2.1,fun _=>⟨HN1.out,hc1,HX5.out.2.1,HAN.out,fun ad e=>⟨⟨⟨(HX9.out.2.2 ad e).1,by have:=(HX9.out.2.2 ad e).2.1;omega⟩,(HX9.out.2.2 ad e).2.2.2⟩,(HX5.out.2.2 ad e).2.1,(HX9.out.2.2 ad e).2.2.1⟩⟩⟩
       have g2:=(hb3.cell (p:=⟨p,8,none⟩) zp9).trans d2;have g3:=(hb3.cell (p:=⟨p,9,none⟩) zp9).trans d3;clear hO3 hb3;refine hK.out _ _ ?hS29 (fun hHeld=>?rest29)
       case hS29=>((try dsimp only);(exact⟨g2,g3⟩))
       case' rest29=>(clear hK K;try simp only[PqL,Act.put])
       unfold outV outZ at hk3;obtain⟨dA,dB,dC,dD,dE⟩:=za9 hk3;have eu:=hk3.frozen;refine tkT 10 ?_;try simp only[PqL,Act.put]
       refine tkT 11 ?_;try simp only[PqL,Act.put]
       refine zah (i:=12) (o:=_) rfl (by kernel_rfl) (by kernel_rfl) (fun K hK=>?_)
       go_simp
       refine hK.out _ _ ?rest33
       case' rest33=>(clear hK K;try simp only[PqL,Act.put])
       refine zai (by kernel_rfl) ?_ _
       repeat (clear hHeld)
       go_wp2_with fail
       obtain⟨F1,F2⟩:=zi3 (fun q=>W9.heap.size≤q) HX5.out.1.out (ix:=ix) (sub:=sub) HO3.out HF3.out HS3.out HX5.out.1.1 hz;rw[←HR.out] at F2;clear HR;unfold putO at F1 F2;dsimp only at F1 F2;refine zhr (O:=⟨[],true,ix,sub,l⟩) rfl rfl rfl F1 ?_;exact F2
   · have hsz1:(sz != -1)=true:=by simp[hszz]
     by_cases hsk:sz=(k:Int)
     · have hsk1:(sz != (k:Int))=false:=by simp[hsk]
       by_cases hmo:mo < (k:Int)
       · skip
         have HR:Hid (P=BOutR w G p pd (blkIdle ⟨mo,sz,nx,ha,ta,ro,2,ix,sub,b,false⟩) (outM (abM ix sub 101122066))):=zak (by
          have hpc:becode ⟨mo,sz,nx,ha,ta,ro,2,ix,sub,b,false⟩ M=101122066:=by unfold becode;rw[←HL.out,if_neg HSU.out,if_neg (fun h=>h.2 (by rw[←HLK.out];exact hsk)),if_pos (by rw[←HLK.out];exact hmo)]
          rw[HP.out]
          congr 1
          · unfold bendS;rw[if_pos (by rw[hpc];decide)];rfl
          · unfold bendO bAbortL;rw[hpc,if_pos (by decide),if_neg (show ¬(2:Int)=0 by decide)];rfl)
         go_wp2_with fail
         refine (zis p pd ⟨mo,sz,nx,ha,ta,ro,2,ix,sub,b,false⟩ 101122066 A n1 c1 _ HXW.out.1.2.1 (show (2:Int)≠ 0 by decide)).mono ?_;rintro e w5 ⟨g,hg,rfl,hBg,hBp,ho⟩;have hgz:w.heap.size+2≤g:=Nat.le_trans HXW.out.1.2.2.2 hg;have k2:=zhe HXW.out.1.out ho (fun e=>hne1 e.symm);have HK2:=zak k2;have HBG:=zak hBg;have HS5:Hid (BV_ w5 (fun q=>((G q∨w.heap.size≤q)∧ ¬False)∧ q≠w.heap.size+1) p pd (blkIdle ⟨mo,sz,nx,ha,ta,ro,2,ix,sub,b,false⟩)):=zak (zi0 hBp);have HO5:=zak (HXW.out.1.1.trans ho (fun _ _ h=>h));unfold outV outZ at k2;unfold outV outZ;dsimp only;obtain⟨aF,aG,aH,aI,aJ⟩:=za9 k2;have aP:=k2.frozen
         clear hBg hBp ho;go_wp2_with fail
         obtain⟨F1,F2⟩:=zi1 (fun _=>False) HK2.out hgz (M:=abM ix sub 101122066) HBG.out (zbs.nil _ _) (FIn.nil _) HS5.out HO5.out hz;rw[←HR.out] at F2;clear HR;unfold putO outZ at F1 F2;dsimp only at F1 F2;refine zhr (O:=⟨[],false,0,0,[]⟩) rfl rfl rfl F1 ?_;exact F2
       · skip
         have HR:Hid (P=BOutR w G p pd ⟨mo,sz,nx,ha,ta,ro,3,ix,sub,b,false⟩ ⟨[],true,ix,sub,l⟩):=zak (by
          have hpc:becode ⟨mo,sz,nx,ha,ta,ro,2,ix,sub,b,false⟩ M=0:=by unfold becode;rw[←HL.out,if_neg HSU.out,if_neg (fun h=>h.2 (by rw[←HLK.out];exact hsk)),if_neg (by rw[←HLK.out];exact hmo)]
          rw[HP.out]
          congr 1
          · unfold bendS;rw[if_neg (by rw[hpc];decide)]
          · unfold bendO;rw[if_neg (by rw[hpc];decide),←HL.out])
         have HX3:=zak (HXW.out.sets (S':=⟨mo,sz,nx,ha,ta,ro,3,ix,sub,b,false⟩) [.int .i64 3] 7 (by simp) rfl);simp only[World.setCells] at HX3;go_upto_region 9 with fail
         refine zb6 (P:=BXS w G p pd (KMO w M A3 m3 c3) ⟨mo,sz,nx,ha,ta,ro,3,ix,sub,b,false⟩ A n1 c1 b) HX3.out (fun W9 hW9=>?_);clear am ai aj an ah ak al ao ap aq aa ab ac ae aD;clear ar au av aw ax ay az aA aB aC af ag aE;clear HX3 k1 bb zW zk1 zo1;have HX9:=zak hW9;have zp9:=hW9.1.2.1.lt;have zz9:=hW9.1.2.2.2;have d2:W9.cell? ⟨p,8,none⟩=some (.int .i64 ix):=hW9.1.2.1.cell 8 rfl;have d3:W9.cell? ⟨p,9,none⟩=some (.int .i64 sub):=hW9.1.2.1.cell 9 rfl;have HSL:=zak (show Sl W9 A (l.map bv) by rw[HLT.out,List.map_take];exact hW9.2.1.take_ k);clear hW9;refine zaj (fun w'=>w'.cell? ⟨p,8,none⟩=some (.int .i64 ix)∧ w'.cell? ⟨p,9,none⟩=some (.int .i64 sub)) [0,1,2,3,4,5,6,7,8,10,11] (by kernel_rfl) ?hS35 (fun hHeld=>?rest35)
         case hS35=>((try dsimp only);exact⟨d2,d3⟩)
         case' rest35=>skip
         refine tkT 0 ?_;try simp only[PqL,Act.put]
         refine tkT 1 ?_;try simp only[PqL,Act.put]
         refine tkT 2 ?_;try simp only[PqL,Act.put]
         refine tkT 3 ?_;try simp only[PqL,Act.put]
         refine tkT 4 ?_;try simp only[PqL,Act.put]
         refine tkT 5 ?_;try simp only[PqL,Act.put]
         refine tkT 6 ?_;try simp only[PqL,Act.put]
         refine tkT 7 ?_;try simp only[PqL,Act.put]
         refine tkT 8 ?_;try simp only[PqL,Act.put]
         refine zag (i:=9) (o:=_) rfl (by kernel_rfl) (fun K hK=>?_);rw[if_pos (show Region.wanted _ _=true by kernel_rfl)];refine zhk _ _ rfl W9.heap.size none 0 0 [] rfl (zbs.nil _ _) A k c1 l rfl HLK.out HSL.out (by omega) (Nat.le_refl _) k (by omega) ?_;intro A5 c5 w3 hO3 hb3;rw[List.nil_append] at hO3;replace hb3:=zhy hb3;have HX5:=zak (HX9.out.step hb3);have HO3:=zak (hO3.mono (B':=w.heap.size+2) zz9);have HF3:Hid (FIn (fun q=>W9.heap.size≤q) A5):=zak (hO3.own.fin.mono (fun q h=>h.1));have hk3:=HX5.out.1.out;have HS3:Hid (BV_ w3 (fun q=>((G q∨w.heap.size≤q)∧ ¬W9.heap.size≤q)∧ q≠w.heap.size+1) p pd ⟨mo,sz,nx,ha,ta,ro,3,ix,sub,b,false⟩):=zak ⟨A,n1,c1,HX5.out.1.2.1,fun _=>⟨HN1.out,hc1,HX5.out.2.1,HAN.out,fun ad e=>⟨⟨⟨(HX9.out.2.2 ad e).1,by have:=(HX9.out.2.2 ad e).2.1;omega⟩,(HX9.out.2.2 ad e).2.2.2⟩,(HX5.out.2.2 ad e).2.1,(HX9.out.2.2 ad e).2.2.1⟩⟩⟩
         have g2:=(hb3.cell (p:=⟨p,8,none⟩) zp9).trans d2;have g3:=(hb3.cell (p:=⟨p,9,none⟩) zp9).trans d3;clear hO3 hb3;refine hK.out _ _ ?hS46 (fun hHeld=>?rest46)
         case hS46=>((try dsimp only);(exact⟨g2,g3⟩))
         case' rest46=>(clear hK K;try simp only[PqL,Act.put])
         unfold outV outZ at hk3;obtain⟨dA,dB,dC,dD,dE⟩:=za9 hk3;have eu:=hk3.frozen;refine tkT 10 ?_;try simp only[PqL,Act.put]
         refine tkT 11 ?_;try simp only[PqL,Act.put]
         refine zah (i:=12) (o:=_) rfl (by kernel_rfl) (by kernel_rfl) (fun K hK=>?_)
         go_simp
         refine hK.out _ _ ?rest50
         case' rest50=>(clear hK K;try simp only[PqL,Act.put])
         refine zai (by kernel_rfl) ?_ _
         repeat (clear hHeld)
         go_wp2_with fail
         obtain⟨F1,F2⟩:=zi3 (fun q=>W9.heap.size≤q) HX5.out.1.out (ix:=ix) (sub:=sub) HO3.out HF3.out HS3.out HX5.out.1.1 hz;rw[←HR.out] at F2;clear HR;unfold putO at F1 F2;dsimp only at F1 F2;refine zhr (O:=⟨[],true,ix,sub,l⟩) rfl rfl rfl F1 ?_;exact F2
     · have hsk1:(sz != (k:Int))=true:=by simp[hsk]
       have HR:Hid (P=BOutR w G p pd (blkIdle ⟨mo,sz,nx,ha,ta,ro,2,ix,sub,b,false⟩) (outM (abM ix sub 101122064))):=zak (by
        have hpc:becode ⟨mo,sz,nx,ha,ta,ro,2,ix,sub,b,false⟩ M=101122064:=by unfold becode;rw[←HL.out,if_neg HSU.out,if_pos ⟨hszz,by rw[←HLK.out];exact hsk⟩]
        rw[HP.out]
        congr 1
        · unfold bendS;rw[if_pos (by rw[hpc];decide)];rfl
        · unfold bendO bAbortL;rw[hpc,if_pos (by decide),if_neg (show ¬(2:Int)=0 by decide)];rfl)
       go_wp2_with fail
       refine (zis p pd ⟨mo,sz,nx,ha,ta,ro,2,ix,sub,b,false⟩ 101122064 A n1 c1 _ HXW.out.1.2.1 (show (2:Int)≠ 0 by decide)).mono ?_;rintro e w5 ⟨g,hg,rfl,hBg,hBp,ho⟩;have hgz:w.heap.size+2≤g:=Nat.le_trans HXW.out.1.2.2.2 hg;have k2:=zhe HXW.out.1.out ho (fun e=>hne1 e.symm);have HK2:=zak k2;have HBG:=zak hBg;have HS5:Hid (BV_ w5 (fun q=>((G q∨w.heap.size≤q)∧ ¬False)∧ q≠w.heap.size+1) p pd (blkIdle ⟨mo,sz,nx,ha,ta,ro,2,ix,sub,b,false⟩)):=zak (zi0 hBp);have HO5:=zak (HXW.out.1.1.trans ho (fun _ _ h=>h));unfold outV outZ at k2;unfold outV outZ;dsimp only;obtain⟨aF,aG,aH,aI,aJ⟩:=za9 k2;have aP:=k2.frozen
       clear hBg hBp ho;go_wp2_with fail
       obtain⟨F1,F2⟩:=zi1 (fun _=>False) HK2.out hgz (M:=abM ix sub 101122064) HBG.out (zbs.nil _ _) (FIn.nil _) HS5.out HO5.out hz;rw[←HR.out] at F2;clear HR;unfold putO outZ at F1 F2;dsimp only at F1 F2;refine zhr (O:=⟨[],false,0,0,[]⟩) rfl rfl rfl F1 ?_;exact F2
 · subst hsm;have HSL2:=zak (show Sl W2 A (l.map bv) by rw[HLT.out,List.map_take];exact HXW.out.2.1.take_ k);go_wp2_with fail
   refine (zjd A k c1 M.sum l W2 HLK.out (by omega) HSL2.out).mono ?_;rintro e w4 ⟨rfl,hb4⟩;clear am ai aj an ah ak al ao ap aq aa ab ac ae aD;clear ar au av aw ax ay az aA aB aC af ag aE;clear k1 bb zW zk1 zo1 HSL2;replace HXW:=zak (HXW.out.step hb4);have k1:=HXW.out.1.msg;have bb:=HXW.out.1.2.1;have zW:=bb.lt;have zk1:=k1.lt;have zo1:=HXW.out.1.out.lt;unfold msV at k1;unfold bsrV at bb;dsimp only at bb;obtain⟨am,ai,aj,an,ah,ak,al,ao,ap,aq,aa,ab,ac,ae⟩:=zbd k1;have aD:=k1.frozen;obtain⟨ar,au,av,aw,ax,ay,az,aA,aB,aC,af,ag⟩:=zbc bb;have aE:=bb.frozen;clear hb4;by_cases hsu:sum16L l=M.sum
   · rw[decide_eq_true hsu];have HSU:Hid (¬((true:Bool)=true∧sum16L l≠M.sum)):=zak (fun h=>h.2 hsu);clear hsu;by_cases hszz:sz= -1
     · have hsz1:(sz != -1)=false:=by simp[hszz]
       by_cases hmo:mo < (k:Int)
       · skip
         have HR:Hid (P=BOutR w G p pd (blkIdle ⟨mo,sz,nx,ha,ta,ro,2,ix,sub,b,true⟩) (outM (abM ix sub 101122066))):=zak (by
          have hpc:becode ⟨mo,sz,nx,ha,ta,ro,2,ix,sub,b,true⟩ M=101122066:=by unfold becode;rw[←HL.out,if_neg HSU.out,if_neg (fun h=>h.1 hszz),if_pos (by rw[←HLK.out];exact hmo)]
          rw[HP.out]
          congr 1
          · unfold bendS;rw[if_pos (by rw[hpc];decide)];rfl
          · unfold bendO bAbortL;rw[hpc,if_pos (by decide),if_neg (show ¬(2:Int)=0 by decide)];rfl)
         go_wp2_with fail
         refine (zis p pd ⟨mo,sz,nx,ha,ta,ro,2,ix,sub,b,true⟩ 101122066 A n1 c1 _ HXW.out.1.2.1 (show (2:Int)≠ 0 by decide)).mono ?_;rintro e w5 ⟨g,hg,rfl,hBg,hBp,ho⟩;have hgz:w.heap.size+2≤g:=Nat.le_trans HXW.out.1.2.2.2 hg;have k2:=zhe HXW.out.1.out ho (fun e=>hne1 e.symm);have HK2:=zak k2;have HBG:=zak hBg;have HS5:Hid (BV_ w5 (fun q=>((G q∨w.heap.size≤q)∧ ¬False)∧ q≠w.heap.size+1) p pd (blkIdle ⟨mo,sz,nx,ha,ta,ro,2,ix,sub,b,true⟩)):=zak (zi0 hBp);have HO5:=zak (HXW.out.1.1.trans ho (fun _ _ h=>h));unfold outV outZ at k2;unfold outV outZ;dsimp only;obtain⟨aF,aG,aH,aI,aJ⟩:=za9 k2;have aP:=k2.frozen
         clear hBg hBp ho;go_wp2_with fail
         obtain⟨F1,F2⟩:=zi1 (fun _=>False) HK2.out hgz (M:=abM ix sub 101122066) HBG.out (zbs.nil _ _) (FIn.nil _) HS5.out HO5.out hz;rw[←HR.out] at F2;clear HR;unfold putO outZ at F1 F2;dsimp only at F1 F2;refine zhr (O:=⟨[],false,0,0,[]⟩) rfl rfl rfl F1 ?_;exact F2
       · skip
         have HR:Hid (P=BOutR w G p pd ⟨mo,sz,nx,ha,ta,ro,3,ix,sub,b,true⟩ ⟨[],true,ix,sub,l⟩):=zak (by
          have hpc:becode ⟨mo,sz,nx,ha,ta,ro,2,ix,sub,b,true⟩ M=0:=by unfold becode;rw[←HL.out,if_neg HSU.out,if_neg (fun h=>h.1 hszz),if_neg (by rw[←HLK.out];exact hmo)]
          rw[HP.out]
          congr 1
          · unfold bendS;rw[if_neg (by rw[hpc];decide)]
          · unfold bendO;rw[if_neg (by rw[hpc];decide),←HL.out])
         have HX3:=zak (HXW.out.sets (S':=⟨mo,sz,nx,ha,ta,ro,3,ix,sub,b,true⟩) [.int .i64 3] 7 (by simp) rfl);simp only[World.setCells] at HX3;go_upto_region 9 with fail
         refine zb6 (P:=BXS w G p pd (KMO w M A3 m3 c3) ⟨mo,sz,nx,ha,ta,ro,3,ix,sub,b,true⟩ A n1 c1 b) HX3.out (fun W9 hW9=>?_);clear am ai aj an ah ak al ao ap aq aa ab ac ae aD;clear ar au av aw ax ay az aA aB aC af ag aE;clear HX3 k1 bb zW zk1 zo1;have HX9:=zak hW9;have zp9:=hW9.1.2.1.lt;have zz9:=hW9.1.2.2.2;have d2:W9.cell? ⟨p,8,none⟩=some (.int .i64 ix):=hW9.1.2.1.cell 8 rfl;have d3:W9.cell? ⟨p,9,none⟩=some (.int .i64 sub):=hW9.1.2.1.cell 9 rfl;have HSL:=zak (show Sl W9 A (l.map bv) by rw[HLT.out,List.map_take];exact hW9.2.1.take_ k);clear hW9;refine zaj (fun w'=>w'.cell? ⟨p,8,none⟩=some (.int .i64 ix)∧ w'.cell? ⟨p,9,none⟩=some (.int .i64 sub)) [0,1,2,3,4,5,6,7,8,10,11] (by kernel_rfl) ?hS52 (fun hHeld=>?rest52)
         case hS52=>((try dsimp only);exact⟨d2,d3⟩)
         case' rest52=>skip
         refine tkT 0 ?_;try simp only[PqL,Act.put]
         refine tkT 1 ?_;try simp only[PqL,Act.put]
         refine tkT 2 ?_;try simp only[PqL,Act.put]
         refine tkT 3 ?_;try simp only[PqL,Act.put]
         refine tkT 4 ?_;try simp only[PqL,Act.put]
         refine tkT 5 ?_;try simp only[PqL,Act.put]
         refine tkT 6 ?_;try simp only[PqL,Act.put]
         refine tkT 7 ?_;try simp only[PqL,Act.put]
         refine tkT 8 ?_;try simp only[PqL,Act.put]
         refine zag (i:=9) (o:=_) rfl (by kernel_rfl) (fun K hK=>?_);rw[if_pos (show Region.wanted _ _=true by kernel_rfl)];refine zhk _ _ rfl W9.heap.size none 0 0 [] rfl (zbs.nil _ _) A k c1 l rfl HLK.out HSL.out (by omega) (Nat.le_refl _) k (by omega) ?_;intro A5 c5 w3 hO3 hb3;rw[List.nil_append] at hO3;replace hb3:=zhy hb3;have HX5:=zak (HX9.out.step hb3);have HO3:=zak (hO3.mono (B':=w.heap.size+2) zz9);have HF3:Hid (FIn (fun q=>W9.heap.size≤q) A5):=zak (hO3.own.fin.mono (fun q h=>h.1));have hk3:=HX5.out.1.out;have HS3:Hid (BV_ w3 (fun q=>((G q∨w.heap.size≤q)∧ ¬W9.heap.size≤q)∧ q≠w.heap.size+1) p pd ⟨mo,sz,nx,ha,ta,ro,3,ix,sub,b,true⟩):=zak ⟨A,n1,c1,HX5.out.1.2.1,fun _=>⟨HN1.out,hc1,HX5.out.2.1,HAN.out,fun ad e=>⟨⟨⟨(HX9.out.2.2 ad e).1,by have:=(HX9.out.2.2 ad e).2.1;omega⟩,(HX9.out.2.2 ad e).2.2.2⟩,(HX5.out.2.2 ad e).2.1,(HX9.out.2.2 ad e).2.2.1⟩⟩⟩
         have g2:=(hb3.cell (p:=⟨p,8,none⟩) zp9).trans d2;have g3:=(hb3.cell (p:=⟨p,9,none⟩) zp9).trans d3;clear hO3 hb3;refine hK.out _ _ ?hS63 (fun hHeld=>?rest63)
         case hS63=>((try dsimp only);(exact⟨g2,g3⟩))
         case' rest63=>(clear hK K;try simp only[PqL,Act.put])
         unfold outV outZ at hk3;obtain⟨dA,dB,dC,dD,dE⟩:=za9 hk3;have eu:=hk3.frozen;refine tkT 10 ?_;try simp only[PqL,Act.put]
         refine tkT 11 ?_;try simp only[PqL,Act.put]
         refine zah (i:=12) (o:=_) rfl (by kernel_rfl) (by kernel_rfl) (fun K hK=>?_)
         go_simp
         refine hK.out _ _ ?rest67
         case' rest67=>(clear hK K;try simp only[PqL,Act.put])
         refine zai (by kernel_rfl) ?_ _
         repeat (clear hHeld)
         go_wp2_with fail
         obtain⟨F1,F2⟩:=zi3 (fun q=>W9.heap.size≤q) HX5.out.1.out (ix:=ix) (sub:=sub) HO3.out HF3.out HS3.out HX5.out.1.1 hz;rw[←HR.out] at F2;clear HR;unfold putO at F1 F2;dsimp only at F1 F2;refine zhr (O:=⟨[],true,ix,sub,l⟩) rfl rfl rfl F1 ?_;exact F2
     · have hsz1:(sz != -1)=true:=by simp[hszz]
       by_cases hsk:sz=(k:Int)
       · have hsk1:(sz != (k:Int))=false:=by simp[hsk]
         by_cases hmo:mo < (k:Int)
         · skip
           have HR:Hid (P=BOutR w G p pd (blkIdle ⟨mo,sz,nx,ha,ta,ro,2,ix,sub,b,true⟩) (outM (abM ix sub 101122066))):=zak (by
            have hpc:becode ⟨mo,sz,nx,ha,ta,ro,2,ix,sub,b,true⟩ M=101122066:=by unfold becode;rw[←HL.out,if_neg HSU.out,if_neg (fun h=>h.2 (by rw[←HLK.out];exact hsk)),if_pos (by rw[←HLK.out];exact hmo)]
            rw[HP.out]
            congr 1
            · unfold bendS;rw[if_pos (by rw[hpc];decide)];rfl
            · unfold bendO bAbortL;rw[hpc,if_pos (by decide),if_neg (show ¬(2:Int)=0 by decide)];rfl)
           go_wp2_with fail
           refine (zis p pd ⟨mo,sz,nx,ha,ta,ro,2,ix,sub,b,true⟩ 101122066 A n1 c1 _ HXW.out.1.2.1 (show (2:Int)≠ 0 by decide)).mono ?_;rintro e w5 ⟨g,hg,rfl,hBg,hBp,ho⟩;have hgz:w.heap.size+2≤g:=Nat.le_trans HXW.out.1.2.2.2 hg;have k2:=zhe HXW.out.1.out ho (fun e=>hne1 e.symm);have HK2:=zak k2;have HBG:=zak hBg;have HS5:Hid (BV_ w5 (fun q=>((G q∨w.heap.size≤q)∧ ¬False)∧ q≠w.heap.size+1) p pd (blkIdle ⟨mo,sz,nx,ha,ta,ro,2,ix,sub,b,true⟩)):=zak (zi0 hBp);have HO5:=zak (HXW.out.1.1.trans ho (fun _ _ h=>h));unfold outV outZ at k2;unfold outV outZ;dsimp only;obtain⟨aF,aG,aH,aI,aJ⟩:=za9 k2;have aP:=k2.frozen
           clear hBg hBp ho;go_wp2_with fail
           obtain⟨F1,F2⟩:=zi1 (fun _=>False) HK2.out hgz (M:=abM ix sub 101122066) HBG.out (zbs.nil _ _) (FIn.nil _) HS5.out HO5.out hz;rw[←HR.out] at F2;clear HR;unfold putO outZ at F1 F2;dsimp only at F1 F2;refine zhr (O:=⟨[],false,0,0,[]⟩) rfl rfl rfl F1 ?_;exact F2
         · skip
           have HR:Hid (P=BOutR w G p pd ⟨mo,sz,nx,ha,ta,ro,3,ix,sub,b,true⟩ ⟨[],true,ix,sub,l⟩):=zak (by
            have hpc:becode ⟨mo,sz,nx,ha,ta,ro,2,ix,sub,b,true⟩ M=0:=by unfold becode;rw[←HL.out,if_neg HSU.out,if_neg (fun h=>h.2 (by rw[←HLK.out];exact hsk)),if_neg (by rw[←HLK.out];exact hmo)]
            rw[HP.out]
            congr 1
            · unfold bendS;rw[if_neg (by rw[hpc];decide)]
            · unfold bendO;rw[if_neg (by rw[hpc];decide),←HL.out])
           have HX3:=zak (HXW.out.sets (S':=⟨mo,sz,nx,ha,ta,ro,3,ix,sub,b,true⟩) [.int .i64 3] 7 (by simp) rfl);simp only[World.setCells] at HX3;go_upto_region 9 with fail
           refine zb6 (P:=BXS w G p pd (KMO w M A3 m3 c3) ⟨mo,sz,nx,ha,ta,ro,3,ix,sub,b,true⟩ A n1 c1 b) HX3.out (fun W9 hW9=>?_);clear am ai aj an ah ak al ao ap aq aa ab ac ae aD;clear ar au av aw ax ay az aA aB aC af ag aE;clear HX3 k1 bb zW zk1 zo1;have HX9:=zak hW9;have zp9:=hW9.1.2.1.lt;have zz9:=hW9.1.2.2.2;have d2:W9.cell? ⟨p,8,none⟩=some (.int .i64 ix):=hW9.1.2.1.cell 8 rfl;have d3:W9.cell? ⟨p,9,none⟩=some (.int .i64 sub):=hW9.1.2.1.cell 9 rfl;have HSL:=zak (show Sl W9 A (l.map bv) by rw[HLT.out,List.map_take];exact hW9.2.1.take_ k);clear hW9;refine zaj (fun w'=>w'.cell? ⟨p,8,none⟩=some (.int .i64 ix)∧ w'.cell? ⟨p,9,none⟩=some (.int .i64 sub)) [0,1,2,3,4,5,6,7,8,10,11] (by kernel_rfl) ?hS69 (fun hHeld=>?rest69)
           case hS69=>((try dsimp only);exact⟨d2,d3⟩)
           case' rest69=>skip
           refine tkT 0 ?_;try simp only[PqL,Act.put]
           refine tkT 1 ?_;try simp only[PqL,Act.put]
           refine tkT 2 ?_;try simp only[PqL,Act.put]
           refine tkT 3 ?_;try simp only[PqL,Act.put]
           refine tkT 4 ?_;try simp only[PqL,Act.put]
           refine tkT 5 ?_;try simp only[PqL,Act.put]
           refine tkT 6 ?_;try simp only[PqL,Act.put]
           refine tkT 7 ?_;try simp only[PqL,Act.put]
           refine tkT 8 ?_;try simp only[PqL,Act.put]
           refine zag (i:=9) (o:=_) rfl (by kernel_rfl) (fun K hK=>?_);rw[if_pos (show Region.wanted _ _=true by kernel_rfl)];refine zhk _ _ rfl W9.heap.size none 0 0 [] rfl (zbs.nil _ _) A k c1 l rfl HLK.out HSL.out (by omega) (Nat.le_refl _) k (by omega) ?_;intro A5 c5 w3 hO3 hb3;rw[List.nil_append] at hO3;replace hb3:=zhy hb3;have HX5:=zak (HX9.out.step hb3);have HO3:=zak (hO3.mono (B':=w.heap.size+2) zz9);have HF3:Hid (FIn (fun q=>W9.heap.size≤q) A5):=zak (hO3.own.fin.mono (fun q h=>h.1));have hk3:=HX5.out.1.out;have HS3:Hid (BV_ w3 (fun q=>((G q∨w.heap.size≤q)∧ ¬W9.heap.size≤q)∧ q≠w.heap.size+1) p pd ⟨mo,sz,nx,ha,ta,ro,3,ix,sub,b,true⟩):=zak ⟨A,n1,c1,HX5.out.1.2.1,fun _=>⟨HN1.out,hc1,HX5.out.2.1,HAN.out,fun ad e=>⟨⟨⟨(HX9.out.2.2 ad e).1,by have:=(HX9.out.2.2 ad e).2.1;omega⟩,(HX9.out.2.2 ad e).2.2.2⟩,(HX5.out.2.2 ad e).2.1,(HX9.out.2.2 ad e).2.2.1⟩⟩⟩
           have g2:=(hb3.cell (p:=⟨p,8,none⟩) zp9).trans d2;have g3:=(hb3.cell (p:=⟨p,9,none⟩) zp9).trans d3;clear hO3 hb3;refine hK.out _ _ ?hS80 (fun hHeld=>?rest80)
           case hS80=>((try dsimp only);(exact⟨g2,g3⟩))
           case' rest80=>(clear hK K;try simp only[PqL,Act.put])
           unfold outV outZ at hk3;obtain⟨dA,dB,dC,dD,dE⟩:=za9 hk3;have eu:=hk3.frozen;refine tkT 10 ?_;try simp only[PqL,Act.put]
           refine tkT 11 ?_;try simp only[PqL,Act.put]
           refine zah (i:=12) (o:=_) rfl (by kernel_rfl) (by kernel_rfl) (fun K hK=>?_)
           go_simp
           refine hK.out _ _ ?rest84
           case' rest84=>(clear hK K;try simp only[PqL,Act.put])
           refine zai (by kernel_rfl) ?_ _
           repeat (clear hHeld)
           go_wp2_with fail
           obtain⟨F1,F2⟩:=zi3 (fun q=>W9.heap.size≤q) HX5.out.1.out (ix:=ix) (sub:=sub) HO3.out HF3.out HS3.out HX5.out.1.1 hz;rw[←HR.out] at F2;clear HR;unfold putO at F1 F2;dsimp only at F1 F2;refine zhr (O:=⟨[],true,ix,sub,l⟩) rfl rfl rfl F1 ?_;exact F2
       · have hsk1:(sz != (k:Int))=true:=by simp[hsk]
         have HR:Hid (P=BOutR w G p pd (blkIdle ⟨mo,sz,nx,ha,ta,ro,2,ix,sub,b,true⟩) (outM (abM ix sub 101122064))):=zak (by
          have hpc:becode ⟨mo,sz,nx,ha,ta,ro,2,ix,sub,b,true⟩ M=101122064:=by unfold becode;rw[←HL.out,if_neg HSU.out,if_pos ⟨hszz,by rw[←HLK.out];exact hsk⟩]
          rw[HP.out]
          congr 1
          · unfold bendS;rw[if_pos (by rw[hpc];decide)];rfl
          · unfold bendO bAbortL;rw[hpc,if_pos (by decide),if_neg (show ¬(2:Int)=0 by decide)];rfl)
         go_wp2_with fail
         refine (zis p pd ⟨mo,sz,nx,ha,ta,ro,2,ix,sub,b,true⟩ 101122064 A n1 c1 _ HXW.out.1.2.1 (show (2:Int)≠ 0 by decide)).mono ?_;rintro e w5 ⟨g,hg,rfl,hBg,hBp,ho⟩;have hgz:w.heap.size+2≤g:=Nat.le_trans HXW.out.1.2.2.2 hg;have k2:=zhe HXW.out.1.out ho (fun e=>hne1 e.symm);have HK2:=zak k2;have HBG:=zak hBg;have HS5:Hid (BV_ w5 (fun q=>((G q∨w.heap.size≤q)∧ ¬False)∧ q≠w.heap.size+1) p pd (blkIdle ⟨mo,sz,nx,ha,ta,ro,2,ix,sub,b,true⟩)):=zak (zi0 hBp);have HO5:=zak (HXW.out.1.1.trans ho (fun _ _ h=>h));unfold outV outZ at k2;unfold outV outZ;dsimp only;obtain⟨aF,aG,aH,aI,aJ⟩:=za9 k2;have aP:=k2.frozen
         clear hBg hBp ho;go_wp2_with fail
         obtain⟨F1,F2⟩:=zi1 (fun _=>False) HK2.out hgz (M:=abM ix sub 101122064) HBG.out (zbs.nil _ _) (FIn.nil _) HS5.out HO5.out hz;rw[←HR.out] at F2;clear HR;unfold putO outZ at F1 F2;dsimp only at F1 F2;refine zhr (O:=⟨[],false,0,0,[]⟩) rfl rfl rfl F1 ?_;exact F2
   · rw[decide_eq_false hsu];have HR:Hid (P=BOutR w G p pd (blkIdle ⟨mo,sz,nx,ha,ta,ro,2,ix,sub,b,true⟩) (outM (abM ix sub 84148228))):=zak (by
      have hpc:becode ⟨mo,sz,nx,ha,ta,ro,2,ix,sub,b,true⟩ M=84148228:=by unfold becode;rw[←HL.out,if_pos ⟨rfl,hsu⟩]
      rw[HP.out]
      congr 1
      · unfold bendS;rw[if_pos (by rw[hpc];decide)];rfl
      · unfold bendO bAbortL;rw[hpc,if_pos (by decide),if_neg (show ¬(2:Int)=0 by decide)];rfl)
     go_wp2_with fail
     refine (zis p pd ⟨mo,sz,nx,ha,ta,ro,2,ix,sub,b,true⟩ 84148228 A n1 c1 _ HXW.out.1.2.1 (show (2:Int)≠ 0 by decide)).mono ?_;rintro e w5 ⟨g,hg,rfl,hBg,hBp,ho⟩;have hgz:w.heap.size+2≤g:=Nat.le_trans HXW.out.1.2.2.2 hg;have k2:=zhe HXW.out.1.out ho (fun e=>hne1 e.symm);have HK2:=zak k2;have HBG:=zak hBg;have HS5:Hid (BV_ w5 (fun q=>((G q∨w.heap.size≤q)∧ ¬False)∧ q≠w.heap.size+1) p pd (blkIdle ⟨mo,sz,nx,ha,ta,ro,2,ix,sub,b,true⟩)):=zak (zi0 hBp);have HO5:=zak (HXW.out.1.1.trans ho (fun _ _ h=>h));unfold outV outZ at k2;unfold outV outZ;dsimp only;obtain⟨aF,aG,aH,aI,aJ⟩:=za9 k2;have aP:=k2.frozen
     clear hBg hBp ho;go_wp2_with fail
     obtain⟨F1,F2⟩:=zi1 (fun _=>False) HK2.out hgz (M:=abM ix sub 84148228) HBG.out (zbs.nil _ _) (FIn.nil _) HS5.out HO5.out hz;rw[←HR.out] at F2;clear HR;unfold putO outZ at F1 F2;dsimp only at F1 F2;refine zhr (O:=⟨[],false,0,0,[]⟩) rfl rfl rfl F1 ?_;exact F2
end
end Go.Proofs.YtkkpjbjmhaecjaaGreat
