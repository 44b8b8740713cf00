/- None -/
import Derived.Test.YtkkpjbjmhaecjaaGreatU20
namespace Go.Proofs.YtkkpjbjmhaecjaaGreat
set_option linter.all false
set_option maxRecDepth 100000
set_option maxHeartbeats 4000000
section
open Go.RowKit
def BOutF (w:World) (G:Nat→Prop) (p pd:Nat) (S':BlkS) (L:List Ms) (e:Ending) (w':World):Prop:=
 ∃As ns cs ds,e= .returned (.agg (outV As ns cs outZ none 0 0))∧ zdz w' (fun g=>w.heap.size≤g) As ns cs L ds∧BV_ w' G p pd S'∧zbv (fun q=>q=p) w w'
def bgiveT (tot h:Nat) (b:List UInt8) (k:Nat):List Ms:=(List.range k).map fun (i:Nat)=> bsegM ((i:Int)+1) (decide ((h:Int)+(i:Int)+1=(tot:Int))) (bpiece b (h+i))
theorem zjm (tot h:Nat)(b:List UInt8)(k:Nat):bgiveT tot h b (k+1)=bgiveT tot h b k ++ [bsegM ((k:Int)+1) (decide ((h:Int)+(k:Int)+1=(tot:Int))) (bpiece b (h+k))]:=by
 unfold bgiveT;rw[List.range_succ,List.map_append]
 rfl
theorem zjn (B:List UInt8)(k:Nat):(bpiece B k).length=7:=by
 unfold bpiece;simp only[List.length_append,List.length_take,List.length_drop,List.length_replicate];omega
def BGL (w1:World) (b:List UInt8) (r tot h:Nat) (vl vi:Value) (wr:World):Prop:=
 ∃k A' c' ds,vi= .int .i64 (k:Nat)∧ vl= .slice A' k c'∧k≤r∧zdz wr (fun g=>w1.heap.size≤g) A' k c' (bgiveT tot h b k) ds∧Below w1.heap.size w1 wr
theorem zjo (p pd:Nat)(S:BlkS)(G:Nat→Prop)(w:World)(hS:BV_ w G p pd S)(h1:S.st≠0)(h256:S.b.length≤1000)(h:Nat)(hh:S.ha=(h:Int))(hht:h < btotal S.b)(hta:0≤S.ta∧S.ta≤1000) :
 Calls Tryz.prog 91 #[.pointer (some ⟨p,0,none⟩)] w (BOutF w G p pd (bgiveS S) (bgiveL S)):=by
 obtain⟨mo,sz,nx,ha,ta,ro,st,ix,sub,b,sm⟩:=S;obtain⟨A,n1,c1,hB,hby⟩:=id hS;obtain⟨hn1,hc1,hsl,hAn,hAG⟩:=hby h1;obtain rfl:ha=(h:Int):=hh;replace h256:b.length≤1000:=h256;replace hn1:n1=b.length:=hn1;obtain⟨hta0,hta1⟩:0≤ta∧ta≤1000:=hta;obtain⟨tot,ht⟩:∃tot,tot=btotal b:=⟨_,rfl⟩;replace hht:h < tot:=by rw[ht];exact hht
 have ht40:tot≤1000:=by rw[ht];unfold btotal;omega
 obtain⟨rw_,hrw⟩:∃r:Nat,(r:Int)=min ta ((tot:Int) - (h:Int)):=⟨(min ta ((tot:Int) - (h:Int))).toNat,by omega⟩;have hrow:browN ⟨mo,sz,nx,(h:Int),ta,ro,st,ix,sub,b,sm⟩=(rw_:Int):=by unfold browN;rw[hrw,ht]
 obtain⟨P,hP⟩:∃P,P=BOutF w G p pd (bgiveS ⟨mo,sz,nx,(h:Int),ta,ro,st,ix,sub,b,sm⟩) (bgiveL ⟨mo,sz,nx,(h:Int),ta,ro,st,ix,sub,b,sm⟩):=⟨_,rfl⟩;have HR:Hid (P=BOutF w G p pd ⟨mo,sz,nx,(h:Int),ta,(rw_:Int),5,ix,sub,b,sm⟩ (bgiveT tot h b rw_)):=zak (by
  rw[hP]
  congr 1
  · unfold bgiveS;rw[hrow]
  · unfold bgiveL bgiveT;rw[hrow,←ht];rfl)
 rw[←hP];have hz:=hB.lt;have HN1:=zak hn1;have HT:=zak ht;have HAG:=zak hAG;have HAN:=zak hAn;have hnb:n1≤1000:=by omega
 have hr1000:rw_≤1000:=by omega
 have hmin1:(if (tot:Int) - (h:Int) < ta then (tot:Int) - (h:Int) else ta)=(rw_:Int):=by split<;>omega
 have hsub1:IntKind.i64.wrap ((tot:Int) - (h:Int))=(tot:Int) - (h:Int):=by unfold IntKind.wrap;simp[IntKind.signed,IntKind.bits];omega
 have hne0:w.heap.size≠p:=by omega
 have hSl:=fun W (ho:zbv (fun q=>q=p) w W)=> zh9 hsl (fun ad e=>ho.block ad.block (hAG ad e).2.1 (hAG ad e).2.2)
 have HSL:=zak hSl;have hB1:=hB.set_ 7 (.int .i64 5);have hB1':Blk (w.setCell ⟨p,7,none⟩ (.int .i64 5)) p 114 (bsrV ⟨mo,sz,nx,(h:Int),ta,ro,5,ix,sub,b,sm⟩ pd A n1 c1):=hB1;have hO1:zbv (fun q=>q=p) w (w.setCell ⟨p,7,none⟩ (.int .i64 5)):=zbv.of_set (F:=fun q=>q=p) rfl _;have hzz:(w.setCell ⟨p,7,none⟩ (.int .i64 5)).heap.size=w.heap.size:=by simp[World.setCell]
 have hKn:=Blk.new (w.setCell ⟨p,7,none⟩ (.int .i64 5)) 93 (outV none 0 0 outZ none 0 0);rw[hzz] at hKn;have HI:=zak (And.intro (hO1.new (.cells (outV none 0 0 outZ none 0 0) 93)) (And.intro (hB1'.alloc (.cells (outV none 0 0 outZ none 0 0) 93)) hKn));have bb:=hB;unfold bsrV at bb;dsimp only at bb;obtain⟨ar,au,av,aw,ax,ay,az,aA,aB,aC,af,ag⟩:=zbc bb;have aE:=bb.frozen;clear hP hS hB hby hn1 hsl hAn hAG ht hSl hB1 hB1' hO1 hzz hKn hrow hrw h1;unfold outV outZ at HI;go_enter Tryz.func91,Tryz.ntmps91
 go_upto_region 2 with fail
 refine zb6 (P:=fun W=>zbv (fun q=>q=p) w W∧Blk W p 114 (bsrV ⟨mo,sz,nx,(h:Int),ta,ro,5,ix,sub,b,sm⟩ pd A n1 c1)∧ Blk W w.heap.size 93 (outV none 0 0 outZ none 0 0)) HI.out (fun W hW=>?_);clear ar au av aw ax ay az aA aB aC af ag aE;clear HI bb;obtain⟨hO,hBW,hK⟩:=hW;have HO:=zak hO;have HBW:=zak hBW;have HK:=zak hK;have zp:=hBW.lt;have b3:W.cell? ⟨p,3,none⟩=some (.int .i64 (h:Int)):=hBW.cell 3 rfl;have b4:W.cell? ⟨p,4,none⟩=some (.int .i64 ta):=hBW.cell 4 rfl;have b5w:W.cell? ⟨p,5,none⟩=some (.int .i64 ro):=hBW.cell 5 rfl;have f5w:=hBW.frozen 5;have HX2:=zak (hBW.set_ 5 (.int .i64 (rw_:Nat)));clear hO hBW hK
 refine zaj (fun w'=>w'.cell? ⟨p,3,none⟩=some (.int .i64 (h:Int))∧ w'.cell? ⟨p,4,none⟩=some (.int .i64 ta)) [0,1,2,3,4,5,6,8,9,10,11,12,13,14,15,16,17] (by kernel_rfl) ?hS1 (fun hHeld=>?rest1)
 case hS1=>((try dsimp only);exact⟨b3,b4⟩)
 case' rest1=>skip
 refine tkT 0 ?_;try simp only[PqL,Act.put]
 refine tkT 1 ?_;try simp only[PqL,Act.put]
 refine tkT 2 ?_;try simp only[PqL,Act.put]
 refine tkT 3 ?_;try simp only[PqL,Act.put]
 refine tkT 4 ?_;try simp only[PqL,Act.put]
 refine tkT 5 ?_;try simp only[PqL,Act.put]
 refine tkT 6 ?_;try simp only[PqL,Act.put]
 refine tkT 8 ?_;try simp only[PqL,Act.put]
 refine tkT 9 ?_;try simp only[PqL,Act.put]
 refine tkT 10 ?_;try simp only[PqL,Act.put]
 refine tkT 11 ?_;try simp only[PqL,Act.put]
 refine tkT 12 ?_;try simp only[PqL,Act.put]
 refine zag (i:=7) (o:=_) rfl (by kernel_rfl) (fun K hK=>?_)
 go_simp
 refine (zjk p pd _ A n1 c1 W.drew HBW.out HN1.out (by omega)).mono ?_;rintro e w8 ⟨rfl,hw8⟩;subst hw8;rw[show btotal (BlkS.b ⟨mo,sz,nx,(h:Int),ta,ro,5,ix,sub,b,sm⟩)=tot from HT.out.symm];dsimp only;refine hK.out _ _ ?hS15 (fun hHeld=>?rest15)
 case hS15=>((try dsimp only);(exact⟨b3,b4⟩))
 case' rest15=>(clear hK K;try simp only[PqL,Act.put])
 refine tkT 13 ?_;try simp only[PqL,Act.put]
 refine tkT 14 ?_;try simp only[PqL,Act.put]
 refine tkT 15 ?_;try simp only[PqL,Act.put]
 refine tkT 16 ?_;try simp only[PqL,Act.put]
 refine tkT 17 ?_;try simp only[PqL,Act.put]
 refine zah (i:=18) (o:=_) rfl (by kernel_rfl) (by kernel_rfl) (fun K hK=>?_)
 go_simp
 refine hK.out _ _ ?rest22
 case' rest22=>(clear hK K;try simp only[PqL,Act.put])
 refine zai (by kernel_rfl) ?_ _
 repeat (clear hHeld)
 clear b3 b4 b5w f5w;have HI:=zak (And.intro ((HO.out.drew.set _ rfl (.int .i64 (rw_:Nat)):zbv (fun q=>q=p) w (W.drew.setCell ⟨p,5,none⟩ (.int .i64 (rw_:Nat))))) (And.intro HX2.out (HK.out.far (p:=⟨p,5,none⟩) hne0 (.int .i64 (rw_:Nat)))));go_upto_region 3 with fail
 refine zb6 (P:=fun W2=>zbv (fun q=>q=p) w W2∧Blk W2 p 114 (bsrV ⟨mo,sz,nx,(h:Int),ta,(rw_:Int),5,ix,sub,b,sm⟩ pd A n1 c1)∧ Blk W2 w.heap.size 93 (outV none 0 0 outZ none 0 0)) HI.out (fun W2 hW2=>?_);clear HI HO HBW HK HX2 zp;obtain⟨hO,hBW,hK⟩:=hW2;have HO:=zak hO;have HBW:=zak hBW;have HK:=zak hK;have zp:=hBW.lt;have zk:=hK.lt;have b5:W2.cell? ⟨p,5,none⟩=some (.int .i64 (rw_:Nat)):=hBW.cell 5 rfl;clear hO hBW hK;obtain⟨i0,hi0,hz0,hz1,hz2⟩:=info_parts zdw;go_wp2_with fail
 go_loopw [3,4,5,6,33] (fun vl _ _ _ vi wr=>BGL W2 b rw_ tot h vl vi wr) (fun _ _ _ _ vi _=>rw_ - (intOf vi).toNat)
 case atStart=>exact⟨0,none,0,[],rfl,rfl,Nat.zero_le _,zdz.nil _ _,Below.refl _ _⟩
 case round=>
  obtain⟨k,A',c',ds,rfl,rfl,hk,hOM,hbr⟩:=hrel;have HOM:=zak hOM;have HBR:=zak hbr;have hBr:=HBW.out.below hbr zp;have HBr:=zak hBr;have zpr:=hBr.lt;have hzr:=hbr.size;by_cases hlt:k < rw_
  · obtain⟨kk,hkk⟩:∃kk,kk=h+k:=⟨_,rfl⟩;have hki:(h:Int)+(k:Int)=(kk:Int):=by omega
    have hkk2:kk≤2000:=by omega
    obtain⟨mm,hmm⟩:∃mm,mm=min (7 * kk) n1:=⟨_,rfl⟩;have hmin2:(if (n1:Int) < (kk:Int) * 7 then (n1:Int) else (kk:Int) * 7)=(mm:Int):=by split<;>omega
    have hwk:IntKind.i64.wrap ((kk:Int) * 7)=(kk:Int) * 7:=by unfold IntKind.wrap;simp[IntKind.signed,IntKind.bits];omega
    have hmm1:mm≤n1:=by omega
    have hmc:(mm:Int)≤ (n1:Int):=by omega
    have hmc2:(n1:Int)≤ (c1:Int):=by omega
    have HE:Hid ((b.drop mm).take 7 ++ (List.replicate 7 0).drop (n1 - mm)=bpiece b kk):=zak (by
     unfold bpiece;rw[List.drop_replicate,←HN1.out];by_cases h7:7 * kk≤n1
     · rw[show mm=7 * kk by omega]
     · rw[show mm=n1 by omega,List.drop_of_length_le (by rw[←HN1.out];exact Nat.le_refl _),List.drop_of_length_le (l:=b) (i:=7 * kk) (by rw[←HN1.out];omega)]
       congr 2
       omega)
    have HKK:=zak hkk;have b3:wr.cell? ⟨p,3,none⟩=some (.int .i64 (h:Int)):=hBr.cell 3 rfl;clear hOM hbr hBr hkk hmm;go_upto_region 9 with (at_make;refine mk_b _ rfl _ _ rfl .i64 .i64 7 7 7 7 rfl rfl rfl rfl (Nat.le_refl _) (by omega) wr.heap.size rfl ?_;intro w6 hO6 hz6 hb6;have HO6:=zak hO6;clear hO6)
    have HB6:=zak (HBr.out.below hb6 zpr);have HM6:=zak (HOM.out.below hb6);have HBL6:=zak (za5 hb6 HBR.out);have HBL67:=zak hb6;have zp6:=HB6.out.lt;have g10:w6.cell? ⟨p,10,none⟩=some (.slice A n1 c1):=HB6.out.cell 10 rfl;obtain⟨Am,hAm⟩:∃Am,Am=(if c1=mm then A else Option.map (fun x=>x.add mm) A):=⟨_,rfl⟩;have hAm':=hAm.symm;have HSd:Hid (Sl w6 Am ((b.drop mm).map bv)):=zak (by
     rw[hAm];have h2:=(HSL.out w6 (HO.out.step HBL6.out)).cut1 (k:=mm) (c:=c1) (by simp;have:=HN1.out;omega);unfold cutA at h2;rw[Nat.mul_one,←List.map_drop] at h2;exact h2)
    clear hb6 hAm;refine zaj (fun w'=>w'.cell? ⟨p,10,none⟩=some (.slice A n1 c1)) [0,1,2,3,4,5,6,7,8,9,10,11,12,13] (by kernel_rfl) ?hS24 (fun hHeld=>?rest24)
    case hS24=>((try dsimp only);exact g10)
    case' rest24=>skip
    refine tkT 0 ?_;try simp only[PqL,Act.put]
    refine tkT 1 ?_;try simp only[PqL,Act.put]
    refine tkT 2 ?_;try simp only[PqL,Act.put]
    refine tkT 3 ?_;try simp only[PqL,Act.put]
    refine tkT 4 ?_;try simp only[PqL,Act.put]
    refine tkT 5 ?_;try simp only[PqL,Act.put]
    refine tkT 6 ?_;try simp only[PqL,Act.put]
    refine tkT 7 ?_;try simp only[PqL,Act.put]
    refine tkT 8 ?_;try simp only[PqL,Act.put]
    refine tkT 9 ?_;try simp only[PqL,Act.put]
    refine tkT 10 ?_;try simp only[PqL,Act.put]
    refine tkT 11 ?_;try simp only[PqL,Act.put]
    refine tkT 12 ?_;try simp only[PqL,Act.put]
    refine tkT 13 ?_;try simp only[PqL,Act.put]
    refine zah (i:=14) (o:=_) rfl (by kernel_rfl) (by kernel_rfl) (fun K hK=>?_);rw[if_pos (show Region.wanted _ _=true by kernel_rfl)];refine zdt _ _ rfl wr.heap.size _ 7 _ rfl HO6.out.drew _ _ _ (b.drop mm) rfl (by rw[List.length_drop,←HN1.out]) HSd.out (bpiece b kk) HE.out ?_;intro w7 hO7 hg7 hb7;have HO7:=zak hO7;have HB7:=zak hb7;clear hO7 hg7 hb7;refine hK.out _ _ ?restcp
    case' restcp=>(clear hK K;try simp only[PqL,Act.put])
    refine zai (by kernel_rfl) ?_ _
    repeat (clear hHeld)
    go_upto_region 10 with fail
    have hb7:Below wr.heap.size w6 w7:=(zbo (Below.refl _ _)).trans HB7.out;obtain⟨dd,hdd⟩:∃dd,dd=bpiece b kk:=⟨_,rfl⟩;have hdl:dd.length=7:=by rw[hdd];exact zjn b kk
    obtain⟨la,hla⟩:∃la,la=decide ((h:Int)+(k:Int)+1=(tot:Int)):=⟨_,rfl⟩;have hlb:((kk:Int)+1 == (tot:Int))=la:=by
     rw[hla,←hki];by_cases hx:(h:Int)+(k:Int)+1=(tot:Int)
     · simp[hx]
     · simp[hx]
    have HM7:=zak (((HOM.out.mono (G:=fun g=>W2.heap.size≤g∧g < wr.heap.size) (fun g h1 h2=>⟨h2,h1⟩)).keep (w':=w6) (fun g hg _=>HBL67.out.block g hg.2)).keep (w':=w7) (fun g hg _=>hb7.block g hg.2));have hBp7:=(HB6.out.below hb7 zpr);have HBp7:=zak hBp7;have HBL7:=zak (HBL6.out.trans (hb7.mono hzr));have zw7:w6.heap.size≤w7.heap.size:=hb7.size;have HC7:Hid (∀o:Obj,OwnM (w7.alloc o) (fun g=>W2.heap.size≤g) A' k c' (bgiveT tot h b k) ds):=zak (fun o=>((HM7.out.below (za7 (Below.refl _ _) o)).mono (fun g _ hg=>hg.1)).1);have HAP:=zak (HOM.out.2.snoc (d:=(some ⟨wr.heap.size,0,none⟩,7)) (N:=wr.heap.size) (zdy HOM.out.1) (by intro g hg;injection hg with hg;injection hg with hg;subst hg;exact Nat.le_refl _))
    have HOd:Hid (∀o:Obj,zbs (w7.alloc o) 0 (some ⟨wr.heap.size,0,none⟩) dd.length 7 dd):=zak (fun o=>by rw[hdl,hdd];exact (HO7.out.alloc o).mono (Nat.zero_le _));have HDL:=zak hdl;have HDD:=zak hdd;have HLA:=zak hla;have zp7:=hBp7.lt;clear hb7 hBp7 hdl hdd hla g10;go_wp2_with fail
    refine (zjk p pd ⟨mo,sz,nx,(h:Int),ta,(rw_:Int),5,ix,sub,b,sm⟩ A n1 c1 w7 HBp7.out HN1.out (by omega)).mono ?_;rintro e w8 ⟨rfl,hw8⟩;subst hw8;rw[show btotal (BlkS.b ⟨mo,sz,nx,(h:Int),ta,(rw_:Int),5,ix,sub,b,sm⟩)=tot from HT.out.symm];go_wp2_with (at_builtin;refine app_f _ rfl _ _ 91 rfl zdu zdv (by decide) i0 _ 96 Tryz.underlying91 hi0 hz0 hz1 hz2 rfl (by omega) (by omega) A' k c' (bgiveT tot h b k) ds rfl (HC7.out _) (⟨21,0,0,false,la,false,false,0,0,dd,(k:Int)+1,0,0,0⟩:Ms) (some ⟨wr.heap.size,0,none⟩,7) _ rfl (by simp only[msF];rw[HDL.out];exact (Blk.new _ _ _).sl) (HOd.out _) (by intro g hg;injection hg with hg;injection hg with hg;subst hg;exact hzr) (fun g hg=>by have hz9:=HBL7.out.size;simp at hg;omega) (by omega) (k+1) rfl ?_;intro A4 c4 w9 hO9 hg9 hA9)
    have hin:=HOM.out.1.inF;have hgo:=zbv.of_grown (F:=fun g=>A'=some ⟨g,0,none⟩) hg9 (fun q hq=>by
     rcases HOM.out.1.own.shape with ⟨h1,_⟩ | ⟨q',h1,_⟩
     · rw[h1] at hq;simp[Value.ownBlock] at hq
     · rw[h1] at hq;simp[Value.ownBlock] at hq;subst hq;exact h1)
    have hzA:∀o:Obj,W2.heap.size≤(w7.alloc o).heap.size:=fun o=>by have:=HBL7.out.size;simp;omega
    have HB9:=zak ((za7 HBL7.out _).trans (hgo.below (N:=W2.heap.size) (hzA _) (fun q hq=>hin q hq)));have HO9:=zak hO9;clear hO9 hg9 hA9 hgo hin hzA
    go_roundw
    case rel=>
     refine⟨k+1,A4,c4,ds ++ [(some ⟨wr.heap.size,0,none⟩,7)],by go_num,rfl,by omega,?_,HB9.out⟩;rw[zjm];have h9:=HO9.out;rw[HLA.out,HDD.out,HKK.out] at h9;exact⟨h9,HAP.out⟩
    case measure=>simp[intOf];omega
  · have hkr:k=rw_:=by omega
    subst hkr;have HKr:=zak (HK.out.below hbr zk);clear hOM hbr hBr;go_wp2_with fail
    refine (zio A' k c' _).mono ?_;rintro e w4 ⟨rfl,hb4⟩;have HK4:=zak (HKr.out.below hb4 HKr.out.lt);have HB4:=zak (HBr.out.below hb4 HBr.out.lt);have HM4:=zak (HOM.out.below hb4);have HO4:=zak (HO.out.step (za5 hb4 HBR.out));have k2:=HK4.out;unfold outV outZ at k2;unfold outV outZ;dsimp only;obtain⟨aF,aG,aH,aI,aJ⟩:=za9 k2;have aP:=k2.frozen;clear hb4;go_wp2_with fail
    have F1:=zhs (As':=A') (ns':=k) (cs':=c') (O':=outZ) (A':=none) (n':=0) (c':=0) HK4.out;have F2:BOutF w G p pd ⟨mo,sz,nx,(h:Int),ta,(k:Int),5,ix,sub,b,sm⟩ (bgiveT tot h b k) (.returned (.agg (outV A' k c' outZ none 0 0))) (putO w4 w.heap.size A' k c' outZ none 0 0):=by
     refine⟨A',k,c',ds,rfl,(HM4.out.keep (fun g hg _=>zia (show g≠w.heap.size by omega) _ _ _ _ _ _ _)).mono (fun g _ hg=>by omega),⟨A,n1,c1,zht HB4.out (fun e=>hne0 e.symm) _ _ _ _ _ _ _,fun _=>⟨HN1.out,hc1,?_,HAN.out,fun ad e=>⟨(HAG.out ad e).1,?_,(HAG.out ad e).2.2⟩⟩⟩,zhu HO4.out (Nat.le_refl _) _ _ _ _ _ _ _⟩
     · exact zh9 (HSL.out w4 HO4.out) (fun ad e=>zia (by have:=(HAG.out ad e).2.1;omega) _ _ _ _ _ _ _)
     · rw[zib];exact Nat.lt_of_lt_of_le (HAG.out ad e).2.1 HO4.out.size
    rw[←HR.out] at F2;unfold putO outZ at F1 F2;dsimp only at F1 F2;refine zhr (O:=⟨[],false,0,0,[]⟩) rfl rfl rfl F1 ?_;exact F2
end
end Go.Proofs.YtkkpjbjmhaecjaaGreat
