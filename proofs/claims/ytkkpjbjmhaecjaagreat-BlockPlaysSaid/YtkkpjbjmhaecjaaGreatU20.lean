/- None -/
import Derived.Test.YtkkpjbjmhaecjaaGreatU19
namespace Go.Proofs.YtkkpjbjmhaecjaaGreat
set_option linter.all false
set_option maxRecDepth 100000
set_option maxHeartbeats 4000000
section
open Go.RowKit
theorem zjk (p pd:Nat)(S:BlkS)(A:Option Addr)(n c:Nat)(w:World)(hB:Blk w p 114 (bsrV S pd A n c))(hn:n=S.b.length)(h1:n≤100000) :
 Calls Tryz.prog 153 #[.pointer (some ⟨p,0,none⟩)] w fun e w'=>e= .returned (.int .i64 (btotal S.b:Nat))∧ w=w':=by
 have c10:w.cell? ⟨p,10,none⟩=some (.slice A n c):=hB.cell 10 rfl;have HT:=zak (zii S.b n hn);have hz:=hB.lt;obtain⟨t,ht⟩:∃t,t=btotal S.b:=⟨_,rfl⟩;rw[←ht] at HT;rw[←ht];clear hn hB ht;by_cases h7:1 < ((n:Int)+7 - 1) / 7
 · have e:(t:Int)=((n:Int)+7 - 1) / 7:=by have:=HT.out;split at this<;>omega
   have HE:=zak e;clear e;go_enter Tryz.func153,Tryz.ntmps153
   go_wp2_with fail
   go_ret
   exact⟨by rw[HE.out];rfl,rfl⟩
 · have e:(t:Int)=1:=by have:=HT.out;split at this<;>omega
   have HE:=zak e;clear e;go_enter Tryz.func153,Tryz.ntmps153
   go_wp2_with fail
   go_ret
   exact⟨by rw[HE.out];rfl,rfl⟩
section
variable {F:Nat→Prop} {pd gl n cl cv:Nat} {Av:Option Addr} {L:List Ent} {V:List (List UInt8)} {ds es:List (Option Addr×Nat)}
theorem zjl (p:Nat)(S:BlkS)(G:Nat→Prop)(M:Ms)(A3:Option Addr)(m3 c3:Nat)(w:World)(hD:DB 100 w F pd (some ⟨gl,0,none⟩) n cl Av cv L V ds es)(hs:SortedE L)(hn:n≤1000)(hv:∀v ∈ V,v.length≤256)
 (hp: ¬F p) (hS:BV_ w G p pd S) :
 Calls Tryz.prog 88 #[.pointer (some ⟨p,0,none⟩),.agg (msV M A3 m3 c3)] w (BOutR w G p pd (bupS L V S M) (bupO L V M)):=by
 obtain⟨A,n1,c1,hB,hby⟩:=id hS;obtain⟨P,hP⟩:∃P,P=BOutR w G p pd (bupS L V S M) (bupO L V M):=⟨_,rfl⟩;rw[←hP];have HP:=zak hP;have hz:=hB.lt;have HS0:Hid (BV_ w G p pd S):=zak hS;have HS:=zak hs;have H1:=zak hn;have HV:=zak hv;have HD:=zak (fun W (h:zbv (fun q=>q=p) w W)=> hD.keep (w':=W) (fun g hg hlt=>h.block g hlt (fun e=>hp (e ▸ hg))));have HH:=zak (zi4 (S:=S) (pd:=pd) (A:=A) (n1:=n1) (c1:=c1) M A3 m3 c3 hB);have HB0:=zak (za7 (za7 (Below.refl w.heap.size w) (.cells (msV M A3 m3 c3) 95)) (.cells (outV none 0 0 outZ none 0 0) 93));clear hP hS hB hby hD hs hn hv;unfold msV outV outZ at HH HB0
 unfold msV;go_enter Tryz.func88,Tryz.ntmps88
 go_upto_region 1 with fail
 refine zb6 (P:=fun W=>BX w p pd (KMO w M A3 m3 c3) S A n1 c1 W∧Below w.heap.size w W) ⟨HH.out,HB0.out⟩ (fun W hW=>?_);clear HH HB0;obtain⟨hX,hbw⟩:=hW;have HX:=zak hX;have hbwy:=hbw;have HBW:=zak hbw;have k1:=hX.msg;have zW:=hX.2.1.lt;have zK:=hX.out.lt;have zK1:=k1.lt;have hne0:w.heap.size≠p:=by omega
 have b0:W.cell? ⟨p,6,none⟩=some (.pointer (some ⟨pd,0,none⟩)):=hX.2.1.cell 6 rfl;have HDW:=zak (HD.out W hX.1);unfold msV at k1;obtain⟨am,ai,aj,an,ah,ak,al,ao,ap,aq,aa,ab,ac,ae⟩:=zbd k1;have aD:=k1.frozen;clear hX hbw;by_cases hbl:M.bl=0
 · have HXW:=HX;have HDC:Hid (bucode L M=(84148226:Nat)):=zak (by unfold bucode;rw[if_pos hbl];rfl);have HR:Hid (P=BOutR w G p pd S (outM (abM M.ix M.sub 84148226))):=zak (by
    rw[HP.out]
    congr 1
    · unfold bupS;rw[if_pos (by rw[HDC.out];omega)]
    · unfold bupO;rw[if_pos (by rw[HDC.out];omega),HDC.out];rfl)
   go_wp2_with fail
   refine (zip M.ix M.sub 84148226 _).mono ?_;rintro e w5 ⟨rfl,hb5⟩;have HX5:=zak ((HXW.out.step hb5).step (za7 (Below.refl _ _) (.cells (msV (abM M.ix M.sub 84148226) none 0 0) 95)));have HG5:=zak (Blk.new w5 95 (msV (abM M.ix M.sub 84148226) none 0 0));have hbw5:=za7 (za5 hb5 hbwy) (.cells (msV (abM M.ix M.sub 84148226) none 0 0) 95);have HBW5:=zak hbw5;have zz5:w.heap.size+2≤w5.heap.size:=Nat.le_trans HXW.out.2.2.2 hb5.size;unfold msV abM at HX5 HG5 HBW5;unfold msV abM;dsimp only;clear am ai aj an ah ak al ao ap aq aa ab ac ae aD;clear hbw5 hb5 k1;go_wp2_with fail
   refine (zio (some ⟨w5.heap.size,0,none⟩) 1 1 _).mono ?_;rintro e w6 ⟨rfl,hb6⟩;have HX6:=zak (HX5.out.step hb6);have HG6:=zak (HG5.out.below hb6 HG5.out.lt);have hbw6:=za5 hb6 HBW5.out;have HS6:=zak (HS0.out.keep (w':=w6) (H:=fun q=>((G q∨w.heap.size≤q)∧ ¬False)∧ q≠w.heap.size+1) (fun q _ hq=>hbw6.block q hq) hbw6.size (fun q h1 h2=>⟨⟨.inl h2,id⟩,by omega⟩));have k2:=HX6.out.out;unfold outV outZ at k2;unfold outV outZ;dsimp only;obtain⟨aF,aG,aH,aI,aJ⟩:=za9 k2;have aP:=k2.frozen;clear hb6 hbw6;go_wp2_with fail
   obtain⟨F1,F2⟩:=zi1 (fun _=>False) HX6.out.out (by omega) (M:=abM M.ix M.sub 84148226) HG6.out (zbs.nil _ _) (FIn.nil _) HS6.out HX6.out.1 hz;rw[←HR.out] at F2;clear HR;unfold putO outZ at F1 F2;dsimp only at F1 F2;refine zhr (O:=⟨[],false,0,0,[]⟩) rfl rfl rfl F1 ?_;exact F2
 · have hbl1:(M.bl == 0)=false:=by simp[hbl]
   go_upto_region 3 with fail
   refine wp_region_held_drew (S:=(fun w'=>(∀qA:Addr,qA.block < (W).heap.size→w'.cell? qA=(W).cell? qA)∧ Below (W).heap.size (W) w')) (by kernel_rfl) ?hS1 (fun hHeld=>?rest1)
   case hS1=>exact kSn
   case' rest1=>skip
   iterate 8 (refine tkN ?_;try simp only[PqL,Act.put])
   refine kRd 8 (fun K hK=>?_)
   go_simp
   refine (zgy M.ix M.sub _ (HDW.out.below (Below.drew (Below.refl _ _))) HS.out H1.out).mono ?_;rintro e w2 ⟨A4,n4,c4,b,rfl,hO4,hb4,hb2⟩;have HO4:=zak (hO4.mono (B':=W.heap.size) (Nat.le_refl _));have HB4:=zak hb4;clear hO4 hb4;dsimp only;refine hK.out _ _ ?hS12 (fun hHeld=>?rest12)
   case hS12=>exact kSn
   case' rest12=>(clear hK K;try simp only[PqL,Act.put])
   refine tkH 9 ?_;try simp only[PqL,Act.put]
   refine tkH 10 ?_;try simp only[PqL,Act.put]
   refine tkH 11 ?_;try simp only[PqL,Act.put]
   refine tkH 12 ?_;try simp only[PqL,Act.put]
   refine tkH 13 ?_;try simp only[PqL,Act.put]
   refine wpAnyH_done (by kernel_rfl) ?_ _;have hEnd:=hHeld.2
   repeat (clear hHeld)
   have HXW:=zak (HX.out.step hEnd);have hbwy:=za5 hEnd hbwy;have zWz:W.heap.size≤w2.heap.size:=hEnd.size;have zWz0:w.heap.size+2≤W.heap.size:=HX.out.2.2.2;clear am ai aj an ah ak al ao ap aq aa ab ac ae aD;clear k1 hEnd zK zK1 b0;have k1:=HXW.out.msg;have bb:=HXW.out.2.1;have zk1:=k1.lt;have zp:=bb.lt;unfold msV at k1;unfold bsrV at bb;obtain⟨am,ai,aj,an,ah,ak,al,ao,ap,aq,aa,ab,ac,ae⟩:=zbd k1;have aD:=k1.frozen;obtain⟨ar,au,av,aw,ax,ay,az,aA,aB,aC,af,ag⟩:=zbc bb;have aE:=bb.frozen;obtain⟨kc,hkc⟩:=zic L M.ix M.sub;rw[hkc];have HDC:Hid (bucode L M=kc):=zak (by unfold bucode;rw[if_neg hbl,hkc]);by_cases hc:kc=0
   · subst hc;have HGC:=zak hkc;clear hkc;have hn4:n4=b.length:=HO4.out.hn;have HN4:=zak hn4;have hb256:n4≤256:=by
      rw[hn4,HB4.out,if_pos (by rw[HGC.out];rfl)];unfold valK;rw[List.getD_eq_getElem?_getD];cases hx:V[locK L M.ix M.sub]? with
      | none=>simp
      | some v=>exact HV.out v (List.mem_of_getElem? hx)
     clear hn4;have hgb:getB L V M.ix M.sub=b:=HB4.out.symm;have HGB:=zak hgb;have HO4b:=zak (HO4.out.mono zWz0);have HSL4:Hid (∀W',zbv (fun q=>q=p) w2 W'→zbs W' (w.heap.size+2) A4 n4 c4 b):=zak (fun W' h=>zhf HO4b.out h (fun g h1 _ (e:g=p)=> by omega));have c3:(w2.setCell ⟨p,7,none⟩ (.int .i64 4)).cell? ⟨w.heap.size,1,none⟩=some (.int .i64 M.ix):=(k1.far (p:=⟨p,7,none⟩) hne0 _).cell 1 rfl;have c4':(w2.setCell ⟨p,7,none⟩ (.int .i64 4)).cell? ⟨w.heap.size,2,none⟩=some (.int .i64 M.sub):=(k1.far (p:=⟨p,7,none⟩) hne0 _).cell 2 rfl;have c5:((w2.setCell ⟨p,7,none⟩ (.int .i64 4)).setCell ⟨p,8,none⟩ (.int .i64 M.ix)).cell? ⟨w.heap.size,1,none⟩=some (.int .i64 M.ix):=((k1.far (p:=⟨p,7,none⟩) hne0 _).far (p:=⟨p,8,none⟩) hne0 _).cell 1 rfl
     have c6:((w2.setCell ⟨p,7,none⟩ (.int .i64 4)).setCell ⟨p,8,none⟩ (.int .i64 M.ix)).cell? ⟨w.heap.size,2,none⟩=some (.int .i64 M.sub):=((k1.far (p:=⟨p,7,none⟩) hne0 _).far (p:=⟨p,8,none⟩) hne0 _).cell 2 rfl;have X7:=(HXW.out.sets (S':={ S with st:=4,ix:=M.ix,sub:=M.sub }) [.int .i64 4,.int .i64 M.ix,.int .i64 M.sub] 7 (by simp) rfl);have HO7:Hid (zbv (fun q=>q=p) w2 (w2.setCells p 7 [.int .i64 4,.int .i64 M.ix,.int .i64 M.sub]).drew):=zak (zb4 (F:=fun q=>q=p) rfl _ _ (zbv.refl _ _)).drew;have HX7:=zak X7.drew;simp only[World.setCells,Nat.reduceAdd] at HX7 HO7;clear X7 hgb;go_wp2_with fail
     refine zaj (fun w'=>w'.cell? ⟨w.heap.size,1,none⟩=some (.int .i64 M.ix)∧ w'.cell? ⟨w.heap.size,2,none⟩=some (.int .i64 M.sub)) [0,1,2,3,4,5,6,7,8,10,11,13,14] (by kernel_rfl) ?hS19 (fun hHeld=>?rest19)
     case hS19=>((try dsimp only);exact⟨ai,aj⟩)
     case' rest19=>skip
     refine tkT 0 ?_;try simp only[PqL,Act.put]
     refine tkT 1 ?_;try simp only[PqL,Act.put]
     refine tkT 2 ?_;try simp only[PqL,Act.put]
     refine tkT 3 ?_;try simp only[PqL,Act.put]
     refine tkT 4 ?_;try simp only[PqL,Act.put]
     refine tkT 5 ?_;try simp only[PqL,Act.put]
     refine tkT 6 ?_;try simp only[PqL,Act.put]
     refine tkT 7 ?_;try simp only[PqL,Act.put]
     refine tkT 8 ?_;try simp only[PqL,Act.put]
     refine zag (i:=9) (o:=_) rfl (by kernel_rfl) (fun K hK=>?_)
     go_simp
     refine hK.out _ _ ?hS30 (fun hHeld=>?rest30)
     case hS30=>((try dsimp only);(exact⟨c3,c4'⟩))
     case' rest30=>(clear hK K;try simp only[PqL,Act.put])
     refine tkT 10 ?_;try simp only[PqL,Act.put]
     refine tkT 11 ?_;try simp only[PqL,Act.put]
     refine zag (i:=12) (o:=_) rfl (by kernel_rfl) (fun K hK=>?_)
     go_simp
     refine hK.out _ _ ?hS34 (fun hHeld=>?rest34)
     case hS34=>((try dsimp only);(exact⟨c5,c6⟩))
     case' rest34=>(clear hK K;try simp only[PqL,Act.put])
     refine tkT 13 ?_;try simp only[PqL,Act.put]
     refine tkT 14 ?_;try simp only[PqL,Act.put]
     refine zah (i:=15) (o:=_) rfl (by kernel_rfl) (by kernel_rfl) (fun K hK=>?_)
     go_simp
     refine hK.out _ _ ?rest38
     case' rest38=>(clear hK K;try simp only[PqL,Act.put])
     refine zai (by kernel_rfl) ?_ _
     repeat (clear hHeld)
     clear c3 c4' c5 c6;go_upto_region 7 with fail
     refine zb6 (P:=fun W2=>BX w p pd (KMO w M A3 m3 c3) { S with st:=4,ix:=M.ix,sub:=M.sub } A n1 c1 W2∧zbv (fun q=>q=p) w2 W2) ⟨HX7.out,HO7.out⟩ (fun W2 hW2=>?_);clear am ai aj an ah ak al ao ap aq aa ab ac ae aD;clear ar au av aw ax ay az aA aB aC af ag aE;clear k1 bb HX7 HO7;obtain⟨hX2,hO2⟩:=hW2;have k1:=hX2.msg;have bb:=hX2.2.1;have zp3:=bb.lt;have zk3:=k1.lt;have g1:(W2.setCell ⟨p,10,none⟩ (.slice A4 n4 c4)).cell? ⟨w.heap.size,5,none⟩=some (.bool M.cr):=(k1.far (p:=⟨p,10,none⟩) hne0 _).cell 5 rfl;have X10:=(hX2.sets (S':={ S with st:=4,ix:=M.ix,sub:=M.sub,b:=b,sm:=M.cr }) (A':=A4) (n':=n4) (c':=c4) [.slice A4 n4 c4,.bool M.cr] 10 (by simp) rfl)
     have HX10:=zak X10.drew;have HO10:Hid (zbv (fun q=>q=p) w2 (W2.setCells p 10 [.slice A4 n4 c4,.bool M.cr]).drew):=zak (hO2.trans (zb4 (F:=fun q=>q=p) rfl _ _ (zbv.refl _ _)) (fun _ _ h=>h)).drew;simp only[World.setCells,Nat.reduceAdd] at HX10 HO10;unfold msV at k1;unfold bsrV at bb;obtain⟨am,ai,aj,an,ah,ak,al,ao,ap,aq,aa,ab,ac,ae⟩:=zbd k1;have aD:=k1.frozen;obtain⟨ar,au,av,aw,ax,ay,az,aA,aB,aC,af,ag⟩:=zbc bb;have aE:=bb.frozen;clear hX2 hO2 X10;go_wp2_with fail
     refine zaj (fun w'=>w'.cell? ⟨w.heap.size,5,none⟩=some (.bool M.cr)) [0,1,2,3,4,5,6,8,9] (by kernel_rfl) ?hS40 (fun hHeld=>?rest40)
     case hS40=>((try dsimp only);exact ak)
     case' rest40=>skip
     refine tkT 0 ?_;try simp only[PqL,Act.put]
     refine tkT 1 ?_;try simp only[PqL,Act.put]
     refine tkT 2 ?_;try simp only[PqL,Act.put]
     refine tkT 3 ?_;try simp only[PqL,Act.put]
     refine tkT 4 ?_;try simp only[PqL,Act.put]
     refine tkT 5 ?_;try simp only[PqL,Act.put]
     refine tkT 6 ?_;try simp only[PqL,Act.put]
     refine zag (i:=7) (o:=_) rfl (by kernel_rfl) (fun K hK=>?_)
     go_simp
     refine hK.out _ _ ?hS49 (fun hHeld=>?rest49)
     case hS49=>((try dsimp only);(exact g1))
     case' rest49=>(clear hK K;try simp only[PqL,Act.put])
     refine tkT 8 ?_;try simp only[PqL,Act.put]
     refine tkT 9 ?_;try simp only[PqL,Act.put]
     refine zah (i:=10) (o:=_) rfl (by kernel_rfl) (by kernel_rfl) (fun K hK=>?_)
     go_simp
     refine hK.out _ _ ?rest53
     case' rest53=>(clear hK K;try simp only[PqL,Act.put])
     refine zai (by kernel_rfl) ?_ _
     repeat (clear hHeld)
     clear g1;go_upto_region 8 with fail
     refine zb6 (P:=fun W3=>BX w p pd (KMO w M A3 m3 c3) { S with st:=4,ix:=M.ix,sub:=M.sub,b:=b,sm:=M.cr } A4 n4 c4 W3∧zbv (fun q=>q=p) w2 W3) ⟨HX10.out,HO10.out⟩ (fun W3 hW3=>?_);clear am ai aj an ah ak al ao ap aq aa ab ac ae aD;clear ar au av aw ax ay az aA aB aC af ag aE;clear HX10 HO10 k1 bb;obtain⟨hX3,hO3⟩:=hW3;have X11:=(hX3.sets (S':=⟨S.mo,S.sz,S.nx,0,M.bl,0,4,M.ix,M.sub,b,M.cr⟩) (A':=A4) (n':=n4) (c':=c4) [.int .i64 0,.int .i64 M.bl,.int .i64 0] 3 (by simp) rfl);have HX11:=zak X11;have HO11:Hid (zbv (fun q=>q=p) w2 (W3.setCells p 3 [.int .i64 0,.int .i64 M.bl,.int .i64 0])):=zak (hO3.trans (zb4 (F:=fun q=>q=p) rfl _ _ (zbv.refl _ _)) (fun _ _ h=>h))
     simp only[World.setCells,Nat.reduceAdd] at HX11 HO11;have k1:=hX3.msg;have bb:=hX3.2.1;have zp4:=bb.lt;have zk4:=k1.lt;unfold msV at k1;unfold bsrV at bb;obtain⟨am,ai,aj,an,ah,ak,al,ao,ap,aq,aa,ab,ac,ae⟩:=zbd k1;have aD:=k1.frozen;obtain⟨ar,au,av,aw,ax,ay,az,aA,aB,aC,af,ag⟩:=zbc bb;have aE:=bb.frozen;clear hX3 hO3 X11;go_upto_region 9 with fail
     refine zb6 (P:=fun W4=>BX w p pd (KMO w M A3 m3 c3) ⟨S.mo,S.sz,S.nx,0,M.bl,0,4,M.ix,M.sub,b,M.cr⟩ A4 n4 c4 W4∧zbv (fun q=>q=p) w2 W4) ⟨HX11.out,HO11.out⟩ (fun W4 hW4=>?_);clear am ai aj an ah ak al ao ap aq aa ab ac ae aD;clear ar au av aw ax ay az aA aB aC af ag aE;clear HX11 HO11 k1 bb;obtain⟨hX4,hO4'⟩:=hW4;have HND:Hid (bupS L V S M=⟨S.mo,S.sz,S.nx,0,M.bl,0,4,M.ix,M.sub,b,M.cr⟩):=zak (by
      unfold bupS;rw[if_neg (by rw[HDC.out];simp),HGB.out])
     have HR:Hid (P=BOutR w G p pd (bupS L V S M) (outM (bupM M.ix M.sub n4))):=zak (by
      rw[HP.out]
      congr 1
      unfold bupO;rw[if_neg (by rw[HDC.out];simp),HGB.out,←HN4.out])
     have hmod:(n4:Int) % 4294967296=(n4:Int):=by omega
     have HX5:=zak (hX4.step (za7 (Below.refl _ _) (.cells (msV (bupM M.ix M.sub n4) none 0 0) 95)));have HO5:=zak (hO4'.new (.cells (msV (bupM M.ix M.sub n4) none 0 0) 95));have HG5:=zak (Blk.new W4 95 (msV (bupM M.ix M.sub n4) none 0 0));have k1:=hX4.msg;have zk5:=k1.lt;have zz5:=hX4.2.2.2;unfold msV at k1;unfold msV bupM at HX5 HO5 HG5;obtain⟨am,ai,aj,an,ah,ak,al,ao,ap,aq,aa,ab,ac,ae⟩:=zbd k1;have aD:=k1.frozen;clear hX4 hO4';go_wp2_with fail
     refine (zio (some ⟨W4.heap.size,0,none⟩) 1 1 _).mono ?_;rintro e w6 ⟨rfl,hb6⟩;have HX6:=zak (HX5.out.step hb6);have HO6:=zak (HO5.out.step hb6);have HG6:=zak (HG5.out.below hb6 HG5.out.lt);have HS6:Hid (BV_ w6 (fun q=>((G q∨w.heap.size≤q)∧ ¬False)∧ q≠w.heap.size+1) p pd (bupS L V S M)):=zak (by
      have ho:=HSL4.out w6 HO6.out;rw[HND.out];refine⟨A4,n4,c4,HX6.out.2.1,fun _=>⟨ho.hn,ho.le,ho.sl,fun h=>?_,fun ad h=>?_⟩⟩
      · rcases ho.own.shape with ⟨_,h1,_⟩ | ⟨g,h1,_⟩
        · exact h1
        · rw[h] at h1;cases h1
      · rcases ho.own.shape with ⟨h1,_⟩ | ⟨g,h1,h2,h3⟩
        · rw[h] at h1;cases h1
        · rw[h] at h1;injection h1 with h1
          subst h1;exact⟨⟨⟨.inr (by simp only;omega),id⟩,by simp only;omega⟩,h3,by simp only;omega⟩)
     have k2:=HX6.out.out;unfold outV outZ at k2;unfold outV outZ;dsimp only;clear am ai aj an ah ak al ao ap aq aa ab ac ae aD;obtain⟨aF,aG,aH,aI,aJ⟩:=za9 k2;have aP:=k2.frozen;clear hb6 k1;go_wp2_with fail
     obtain⟨F1,F2⟩:=zi1 (fun _=>False) HX6.out.out (by omega) (M:=bupM M.ix M.sub n4) HG6.out (zbs.nil _ _) (FIn.nil _) HS6.out HX6.out.1 hz;rw[←HR.out] at F2;clear HR;unfold putO outZ at F1 F2;dsimp only at F1 F2;refine zhr (O:=⟨[],false,0,0,[]⟩) rfl rfl rfl F1 ?_;exact F2
   · clear hkc;clear ar au av aw ax ay az aA aB aC af ag aE;clear bb;have HR:Hid (P=BOutR w G p pd S (outM (abM M.ix M.sub kc))):=zak (by
      rw[HP.out]
      congr 1
      · unfold bupS;rw[if_pos (by rw[HDC.out];omega)]
      · unfold bupO;rw[if_pos (by rw[HDC.out];omega),HDC.out];rfl)
     go_wp2_with fail
     refine (zip M.ix M.sub kc _).mono ?_;rintro e w5 ⟨rfl,hb5⟩;have HX5:=zak ((HXW.out.step hb5).step (za7 (Below.refl _ _) (.cells (msV (abM M.ix M.sub kc) none 0 0) 95)));have HG5:=zak (Blk.new w5 95 (msV (abM M.ix M.sub kc) none 0 0));have hbw5:=za7 (za5 hb5 hbwy) (.cells (msV (abM M.ix M.sub kc) none 0 0) 95);have HBW5:=zak hbw5;have zz5:w.heap.size+2≤w5.heap.size:=Nat.le_trans HXW.out.2.2.2 hb5.size;unfold msV abM at HX5 HG5 HBW5;unfold msV abM;dsimp only;clear am ai aj an ah ak al ao ap aq aa ab ac ae aD;clear hbw5 hb5 k1;go_wp2_with fail
     refine (zio (some ⟨w5.heap.size,0,none⟩) 1 1 _).mono ?_;rintro e w6 ⟨rfl,hb6⟩;have HX6:=zak (HX5.out.step hb6);have HG6:=zak (HG5.out.below hb6 HG5.out.lt);have hbw6:=za5 hb6 HBW5.out;have HS6:=zak (HS0.out.keep (w':=w6) (H:=fun q=>((G q∨w.heap.size≤q)∧ ¬False)∧ q≠w.heap.size+1) (fun q _ hq=>hbw6.block q hq) hbw6.size (fun q h1 h2=>⟨⟨.inl h2,id⟩,by omega⟩));have k2:=HX6.out.out;unfold outV outZ at k2;unfold outV outZ;dsimp only;obtain⟨aF,aG,aH,aI,aJ⟩:=za9 k2;have aP:=k2.frozen;clear hb6 hbw6;go_wp2_with fail
     obtain⟨F1,F2⟩:=zi1 (fun _=>False) HX6.out.out (by omega) (M:=abM M.ix M.sub kc) HG6.out (zbs.nil _ _) (FIn.nil _) HS6.out HX6.out.1 hz;rw[←HR.out] at F2;clear HR;unfold putO outZ at F1 F2;dsimp only at F1 F2;refine zhr (O:=⟨[],false,0,0,[]⟩) rfl rfl rfl F1 ?_;exact F2
end
end
end Go.Proofs.YtkkpjbjmhaecjaaGreat
