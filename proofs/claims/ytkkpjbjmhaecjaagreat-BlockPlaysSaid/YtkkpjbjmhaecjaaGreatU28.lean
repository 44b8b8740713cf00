/- None -/
import Derived.Test.YtkkpjbjmhaecjaaGreatU27
namespace Go.Proofs.YtkkpjbjmhaecjaaGreat
set_option linter.all false
set_option maxRecDepth 100000
set_option maxHeartbeats 4000000
section
open Go.RowKit Go.Maps
theorem zks (M:Ms)(A:Option Addr)(n c:Nat)(code:Nat)(w:World):Calls Tryz.prog 114 #[.agg (msV M A n c),.int .u32 (code:Nat)] w fun e w'=> ∃g,w.heap.size≤g∧e= .returned (.agg (outV (some ⟨g,0,none⟩) 1 1 outZ none 0 0))∧ Blk w' g 30 (msV (abM M.ix M.sub code) none 0 0)∧ Below w.heap.size w w':=by
 obtain⟨k1,k2,k3⟩:=zbh w 30 118 30 (msV M A n c) (outV (some ⟨w.heap.size+1+1,0,none⟩) 1 1 outZ none 0 0) (msV (abM M.ix M.sub code) none 0 0);have hbw:=za7 (za7 (za7 (Below.refl w.heap.size w) (.cells (msV M A n c) 30)) (.cells (outV (some ⟨w.heap.size+1+1,0,none⟩) 1 1 outZ none 0 0) 118)) (.cells (msV (abM M.ix M.sub code) none 0 0) 30);have HK2:=zak k2;have HK3:=zak k3;have HB:=zak hbw;clear k1 k2 k3 hbw;obtain⟨kind,ix,sub,tg,la,cr,sz,size,code0,data,sq,bl,em,sum⟩:=M;unfold msV abM at *
 go_enter Tryz.func114,Tryz.ntmps114
 go_wp2_with fail
 exact zkf (O:=outZ) rfl rfl rfl HK2.out ⟨w.heap.size+1+1,by omega,rfl,HK3.out,HB.out⟩
section
variable {w W:World} {G:Nat→Prop} {p pd n c g N:Nat} {A:Option Addr} {S:BlkS} {M:Ms} {ks:List KB} {rs:List RW} {cs:List Value}
theorem RN.new2 (h:RN w G p cs ks rs W)(hz:W.heap.size=N)(T1 T2:TypeId)(l1 l2:List Value):RN w G p cs (⟨N+1,T2,l2⟩ :: ⟨N,T1,l1⟩ :: ks) rs ((W.alloc (.cells l1.toArray T1)).alloc (.cells l2.toArray T2)):=by
 have h2:=(h.new T1 l1).new T2 l2
 rwa [show (W.alloc (.cells l1.toArray T1)).heap.size=N+1 by simp[hz],hz] at h2
theorem RN.k2 {x y z:KB}(h:RN w G p cs (x :: y :: z :: ks) rs W):Blk W z.g z.t z.l.toArray:=(h.keep z (by simp)).2
theorem zkt (h:RN w G p (rbkL S pd A n c) (⟨w.heap.size+1,118,outL_ none 0 0 outZ none 0 0⟩ :: ks) rs W)(hb:⟨A,n,c,S.b⟩ ∈ rs)(hr:∀r ∈ rs,∀ad,r.A=some ad→ad.block≠w.heap.size+1)(hM:Blk W g 30 (msV M none 0 0))(hg:w.heap.size+2≤g)(hO:zbs W 0 none 0 0 M.data) :
 Blk (putO W (w.heap.size+1) (some ⟨g,0,none⟩) 1 1 outZ none 0 0) (w.heap.size+1) 118 (outV (some ⟨g,0,none⟩) 1 1 outZ none 0 0)∧ RBO w G p pd S (outM M) (.returned (.agg (outV (some ⟨g,0,none⟩) 1 1 outZ none 0 0))) (putO W (w.heap.size+1) (some ⟨g,0,none⟩) 1 1 outZ none 0 0):=
 zkl (O:=outM M) h hb (Nat.le_succ _) hr (zkj hM ⟨by omega,by omega⟩ hO (FIn.nil _)) (zbs.nil _ _) (FIn.nil _)
theorem zku (h:RN w G p (rbkL S pd A n c) (⟨w.heap.size+1,118,outL_ none 0 0 outZ none 0 0⟩ :: ks) rs W)(hb:⟨A,n,c,S.b⟩ ∈ rs)(hr:∀r ∈ rs,∀ad,r.A=some ad→ad.block≠w.heap.size+1)(hz:W.heap.size=N)(hg:w.heap.size+2≤N)(hO:M.data= []) :
 Blk ((putO W (w.heap.size+1) (some ⟨N,0,none⟩) 1 1 outZ none 0 0).alloc (.cells (msV M none 0 0) 30)) (w.heap.size+1) 118 (outV (some ⟨N,0,none⟩) 1 1 outZ none 0 0)∧ RBO w G p pd S (outM M) (.returned (.agg (outV (some ⟨N,0,none⟩) 1 1 outZ none 0 0))) ((putO W (w.heap.size+1) (some ⟨N,0,none⟩) 1 1 outZ none 0 0).alloc (.cells (msV M none 0 0) 30)):=by
 subst hz;have hK:Blk W (w.heap.size+1) 118 (outV none 0 0 outZ none 0 0):=h.k0;have hgp:=(h.keep ⟨w.heap.size+1,118,outL_ none 0 0 outZ none 0 0⟩ (by simp)).1;have hz:(putO W (w.heap.size+1) (some ⟨W.heap.size,0,none⟩) 1 1 outZ none 0 0).heap.size=W.heap.size:=zib _ _ _ _ _ _ _ _ _;have hn:=Blk.new (putO W (w.heap.size+1) (some ⟨W.heap.size,0,none⟩) 1 1 outZ none 0 0) 30 (msV M none 0 0);rw[hz] at hn;refine⟨(zkg hK).alloc _,some ⟨W.heap.size,0,none⟩,1,1,[(none,0)],none,0,0,rfl,zkj hn (by omega) (by rw[hO];exact zbs.nil _ _) (FIn.nil _),zbs.nil _ _,⟨A,n,c,(zht h.blk (fun e=>hgp e.symm) _ _ _ _ _ _ _).alloc _,?_⟩,(zhu h.only (Nat.le_succ _) _ _ _ _ _ _ _).new _⟩
 obtain⟨h1,h2,h3,h4⟩:=h.rows _ hb;exact⟨h1,h2,zkh h3 (fun ad e=>by rw[Below.heap_alloc _ _ _ (by rw[hz];exact (h4 ad e).2.1)];exact zia (hr _ hb ad e) _ _ _ _ _ _ _),fun ad e=>⟨(h4 ad e).1,by have:=(h4 ad e).2.1;simp;omega,(h4 ad e).2.2⟩⟩
end
section
variable {F:Nat→Prop} {pd n cl cv:Nat} {Al Av:Option Addr} {L:List Ent} {V:List (List UInt8)} {ds es:List (Option Addr×Nat)}
theorem zkv (p:Nat)(S:BlkS)(G:Nat→Prop)(M:Ms)(A3:Option Addr)(m3 c3:Nat)(w:World)(hD:DB 106 w F pd Al n cl Av cv L V ds es)(hn:n≤1000)(hp: ¬F p)(hS:RBV w G p pd S)(hsz:M.size≤4294967295) :
 Calls Tryz.prog 108 #[.pointer (some ⟨p,0,none⟩),.agg (msV M A3 m3 c3)] w (RBO w G p pd (bdownS L S M) (bdownO L M)):=by
 obtain⟨A,n1,c1,hR⟩:=hS.rn;obtain⟨P,hP⟩:∃P,P=RBO w G p pd (bdownS L S M) (bdownO L M):=⟨_,rfl⟩;rw[←hP];have HP:=zak hP;have hz:=hR.lt;have H1:=zak hn;have HRW:Hid (∀ad,A=some ad→ad.block≠w.heap.size+1):=zak (fun ad e=>by have:=((hR.rows _ (List.mem_singleton.2 rfl)).2.2.2 ad e).2.1;omega);have HD:=zak (fun W (h:zbv (fun q=>q=p) w W)=> hD.keep (w':=W) (fun g hg hlt=>h.block g hlt (fun e=>hp (e ▸ hg))));have HH:=zak (hR.new2 rfl 30 118 (msL_ M A3 m3 c3) (outL_ none 0 0 outZ none 0 0));clear hP hS hR hD hn;unfold msL_ outL_ outZ at HH;unfold msV;go_enter Tryz.func108,Tryz.ntmps108
 go_wp2_with fail
 refine zb6 (P:=fun W=>RN w G p (rbkL S pd A n1 c1) [⟨w.heap.size+1,118,outL_ none 0 0 outZ none 0 0⟩,⟨w.heap.size,30,msL_ M A3 m3 c3⟩] [⟨A,n1,c1,S.b⟩] W) HH.out (fun W hW=>?_);clear HH;have HX:=zak hW;have zW:=hW.lt;have zK:=hW.k0.lt;have zK1:=hW.k1.lt;have b0:W.cell? ⟨p,0,none⟩=some (.pointer (some ⟨pd,0,none⟩)):=hW.blk.cell 0 rfl;have b1:W.cell? ⟨w.heap.size,1,none⟩=some (.int .i64 M.ix):=hW.k1.cell 1 rfl;have b2:W.cell? ⟨w.heap.size,2,none⟩=some (.int .i64 M.sub):=hW.k1.cell 2 rfl;have HDW:=zak (HD.out W hW.only);clear hW;go_cut [5,6] (fun s5 s6 wx=>DwnC W L M.ix M.sub s5 s6 wx)
 case first=>
  refine wp_region_held_drew (S:=(fun w'=>(∀qA:Addr,qA.block < (W).heap.size→w'.cell? qA=(W).cell? qA)∧ Below (W).heap.size (W) w')) (by kernel_rfl) ?hS1 (fun hHeld=>?rest1)
  case hS1=>exact kSn
  case' rest1=>skip
  iterate 8 (refine tkN ?_;try simp only[PqL,Act.put])
  refine wpAnyH_ready (rs:=[8,12]) (by kernel_rfl) (by simp) (AllReadyH.cons (o:=_) rfl (fun K hK=>?_) (AllReadyH.cons (o:=_) rfl (fun K hK=>?_) .nil))
  · go_simp
    refine (zkd M.ix M.sub _ (HDW.out.below (Below.drew (Below.refl _ _))) H1.out).mono ?_;rintro e w3 ⟨E,A4,n4,c4,rfl,hE,hb3⟩;unfold entV;dsimp only;replace hb3:=zhy hb3;have HE:=zak hE;clear hE;refine hK.out _ _ ?hS11 (fun hHeld=>?rest11)
    case hS11=>exact kSn
    case' rest11=>(clear hK K;try simp only[PqL,Act.put])
    refine tkH 9 ?_;try simp only[PqL,Act.put]
    refine tkH 10 ?_;try simp only[PqL,Act.put]
    refine tkH 11 ?_;try simp only[PqL,Act.put]
    refine kRd 12 (fun K hK=>?_)
    go_simp
    refine hK.out _ _ ?hS17 (fun hHeld=>?rest17)
    case hS17=>exact kSn
    case' rest17=>(clear hK K;try simp only[PqL,Act.put])
    refine kRd 13 (fun K hK=>?_)
    go_simp
    refine hK.out _ _ ?hS20 (fun hHeld=>?rest20)
    case hS20=>exact kSn
    case' rest20=>(clear hK K;try simp only[PqL,Act.put])
    refine tkH 14 ?_;try simp only[PqL,Act.put]
    refine wpAnyH_done (by kernel_rfl) ?_ _;have hEnd:=hHeld.2
    repeat (clear hHeld)
    go_wp2_with fail
    go_meet
    exact ziy hb3 HE.out
  · go_simp
    refine hK.out _ _ ?hS23 (fun hHeld=>?rest23)
    case hS23=>exact kSn
    case' rest23=>(clear hK K;try simp only[PqL,Act.put])
    refine kRd 8 (fun K hK=>?_)
    go_simp
    refine (zkd M.ix M.sub _ (HDW.out.below kBl) H1.out).mono ?_;rintro e w3 ⟨E,A4,n4,c4,rfl,hE,hb3⟩;unfold entV;dsimp only;have hb5:Below W.heap.size W w3:=ziu (z:= .cells (entV zeroE none 0 0) 90) (by simpa [entV,zeroE] using hb3);have hZ3:Blk w3 W.heap.size 90 (entV zeroE none 0 0):=ziv (by simpa [entV,zeroE] using hb3);have HZ3:=zak hZ3;have HE:=zak hE;unfold entV zeroE at hZ3;obtain⟨fk,fl,fm,fo,fp,fq,fs,ft,fu,fw,eL⟩:=zbb hZ3;have gi:=hZ3.frozen;clear hE hb3;refine hK.out _ _ ?hS26 (fun hHeld=>?rest26)
    case hS26=>exact kSn
    case' rest26=>(clear hK K;try simp only[PqL,Act.put])
    refine tkH 9 ?_;try simp only[PqL,Act.put]
    refine tkH 10 ?_;try simp only[PqL,Act.put]
    refine tkH 11 ?_;try simp only[PqL,Act.put]
    refine kRd 13 (fun K hK=>?_)
    go_simp
    refine hK.out _ _ ?hS32 (fun hHeld=>?rest32)
    case hS32=>exact kSn
    case' rest32=>(clear hK K;try simp only[PqL,Act.put])
    refine tkH 14 ?_;try simp only[PqL,Act.put]
    refine wpAnyH_done (by kernel_rfl) ?_ _;have hEnd:=hHeld.2
    repeat (clear hHeld)
    go_wp2_with fail
    go_meet
    have F:=ziz (L:=L) (ix:=M.ix) (sub:=M.sub) (A4:=A4) (n4:=n4) (c4:=c4) hb5 HZ3.out HE.out;unfold put11 at F;exact F
 case rest=>
  obtain⟨ge,E,A4,n4,c4,rfl,rfl,hge,hEb,hE,hbx⟩:=hcut;have hgp:ge≠p:=by have:=HX.out.lt;omega
  have HXW:=zak ((HX.out.step hbx).add ge 90 (entL_ E A4 n4 c4) hgp hEb);have hwz:w.heap.size+2≤wc.heap.size:=by have:=HXW.out.k1.lt;show _+1 < _;exact this
  have k1:=HXW.out.k2;have kk:=HXW.out.k1;have hEb2:=HXW.out.k0;have bb:=HXW.out.blk;have hne0:w.heap.size≠p:=by omega
  have hne1:w.heap.size+1≠p:=by omega
  clear hEb HX HDW HD;unfold msL_ at k1;unfold outL_ outZ at kk;unfold rbkL at bb;unfold entL_ at hEb2;have zk1:=k1.lt;have zkk:=kk.lt;have zp:=bb.lt;have zE:=hEb2.lt;obtain⟨am,ai,aj,an,ah,ak,al,ao,ap,aq,aa,ab,ac,ae⟩:=zbd k1;have aD:=k1.frozen;obtain⟨aK,aL,aM,aN,aO⟩:=za9 kk;have aQ:=kk.frozen;obtain⟨cH,cI,cJ,cK,cL,cM,cN,cO,cP,cQ,cn⟩:=zbb hEb2;have dh:=hEb2.frozen;obtain⟨ar,au,av,aw,ax,ay,az,aA,aB,aC,af,ag⟩:=zbc bb;have aE:=bb.frozen;obtain⟨k0,hk0⟩:=ziw L M.ix M.sub;rw[hk0];by_cases hk:k0=0
  · have hsm:smayC L M.ix M.sub=0:=by rw[hk0,hk];rfl
    have HEK:Hid (E=entK L (locK L M.ix M.sub)):=zak (hE hsm);have HSM:=zak hsm;subst hk;clear hE hk0 hsm;cases hsz':M.sz
    · have HSZ:=zak hsz';have HDC:Hid (bdcode L M=0):=zak (by unfold bdcode;rw[if_neg (by rw[HSZ.out];simp),HSM.out]);rw[HSZ.out] at al;have HX7:Hid (RN w G p (rbkL { S with st:=1,ix:=M.ix,sub:=M.sub } pd A n1 c1) [⟨ge,90,entL_ E A4 n4 c4⟩,⟨w.heap.size+1,118,outL_ none 0 0 outZ none 0 0⟩,⟨w.heap.size,30,msL_ M A3 m3 c3⟩] [⟨A,n1,c1,S.b⟩] _):=zak (((HXW.out.set 1 (.int .i64 1)).set 2 (.int .i64 M.ix)).set 3 (.int .i64 M.sub));clear hsz';go_wp2_with fail
      refine (zkb E A4 n4 c4 _).mono ?_;rintro e w8 ⟨rfl,hb8⟩;obtain⟨me,hme⟩:∃me,me=mostE E:=⟨_,rfl⟩;rw[←hme];have HME:=zak hme;have HX8:=zak (HX7.out.step hb8);have hz8:w.heap.size+2≤w8.heap.size:=by
       have:=hb8.size
       simp[World.setCell] at this;omega
      have k2:=HX8.out.k1;have k3:=HX8.out.k2;have b8:=HX8.out.blk;have X9:RN w G p (rbkL { S with st:=1,ix:=M.ix,sub:=M.sub,mo:=me,sz:=(-1),nx:=1,b:=[],sm:=M.cr } pd none 0 0) [⟨w.heap.size+1,118,outL_ none 0 0 outZ none 0 0⟩] [⟨none,0,0,[]⟩] _:=((((((HX8.out.set 4 (.int .i64 me)).set 5 (.int .i64 (-1))).set 6 (.slice none 0 0)).set 7 (.bool M.cr)).set 8 (.int .i64 1)).rnil.sub (ks':=[⟨w.heap.size+1,118,outL_ none 0 0 outZ none 0 0⟩]) (by simp)).subr (rs':=[⟨none,0,0,[]⟩]) (by simp);have HX9:=zak X9;unfold outL_ outZ at k2;unfold msL_ at k3;unfold rbkL at b8;have zk2:=k2.lt;have zk3:=k3.lt;have zb8:=b8.lt
      clear aK aL aM aN aO aQ;clear cH cI cJ cK cL cM cN cO cP cQ cn dh;clear ar au av aw ax ay az aA aB aC af ag aE;clear am ai aj an ah ak al ao ap aq aa ab ac ae aD;obtain⟨aF,aG,aH,aI,aJ⟩:=za9 k2;have aP:=k2.frozen;obtain⟨gn,gp,gq,gt,gu,gw,ew,gA,gB,gC,fI,fJ,fK,fL⟩:=zbd k3;have iw:=k3.frozen;obtain⟨gD,gE,gF,gG,gH,gI,gJ,gK,gL,gM,fM,fN⟩:=zbc b8;have iy:=b8.frozen;rw[HSZ.out] at ew;clear hme hb8 X9;have HND:Hid (bdownS L S M= { S with st:=1,ix:=M.ix,sub:=M.sub,mo:=me,sz:=(-1),nx:=1,b:=[],sm:=M.cr }):=zak (by
       unfold bdownS;rw[if_neg (by rw[HDC.out];simp),←HEK.out,←HME.out,HSZ.out]
       rfl)
      have HR:Hid (P=RBO w G p pd (bdownS L S M) (outM (bokM M.ix M.sub))):=zak (by
       rw[HP.out]
       congr 1
       unfold bdownO;rw[if_neg (by rw[HDC.out];simp)])
      go_wp2_with fail
      obtain⟨F1,F2⟩:=zku (ks:=[]) (M:=bokM M.ix M.sub) (N:=w8.heap.size) HX9.out (by simp) (fun r hr=>by simp at hr;subst hr;simp) (by simp[World.setCell]) hz8 rfl;rw[←HND.out,←HR.out] at F2;unfold putO outZ msV bokM at F1 F2;dsimp only at F1 F2;exact zkf (O:=outZ) rfl rfl rfl F1 F2
    · have HSZ:=zak hsz';have HF:=zak (fun W=>zkc E M.size (by omega) A4 n4 c4 W);obtain⟨kf,hkf⟩:=zix E M.size;rw[hkf] at HF;have HDC:Hid (bdcode L M=kf):=zak (by unfold bdcode;rw[if_pos ⟨HSM.out,hsz'⟩,←HEK.out,hkf]);rw[HSZ.out] at al;clear hsz' hkf;go_wp2_with fail
      refine (HF.out _).mono ?_;rintro e w7 ⟨rfl,hb7⟩;have HXW:=zak (HXW.out.step hb7);have hwz:w.heap.size+2≤w7.heap.size:=Nat.le_trans hwz hb7.size;clear am ai aj an ah ak al ao ap aq aa ab ac ae aD;clear aK aL aM aN aO aQ;clear cH cI cJ cK cL cM cN cO cP cQ cn dh;clear ar au av aw ax ay az aA aB aC af ag aE;clear hb7 k1 kk hEb2 bb zk1 zkk zE HF;have k1:=HXW.out.k2;have kk:=HXW.out.k1;have hEb2:=HXW.out.k0;have bb:=HXW.out.blk;unfold msL_ at k1;unfold outL_ outZ at kk;unfold rbkL at bb;unfold entL_ at hEb2;have zk1:=k1.lt;have zkk:=kk.lt;have zE:=hEb2.lt;obtain⟨am,ai,aj,an,ah,ak,al,ao,ap,aq,aa,ab,ac,ae⟩:=zbd k1
      have aD:=k1.frozen;obtain⟨aK,aL,aM,aN,aO⟩:=za9 kk;have aQ:=kk.frozen;obtain⟨cH,cI,cJ,cK,cL,cM,cN,cO,cP,cQ,cn⟩:=zbb hEb2;have dh:=hEb2.frozen;obtain⟨ar,au,av,aw,ax,ay,az,aA,aB,aC,af,ag⟩:=zbc bb;have aE:=bb.frozen;rw[HSZ.out] at al;by_cases hkf0:kf=0
      · subst hkf0;have HX7:Hid (RN w G p (rbkL { S with st:=1,ix:=M.ix,sub:=M.sub } pd A n1 c1) [⟨ge,90,entL_ E A4 n4 c4⟩,⟨w.heap.size+1,118,outL_ none 0 0 outZ none 0 0⟩,⟨w.heap.size,30,msL_ M A3 m3 c3⟩] [⟨A,n1,c1,S.b⟩] _):=zak (((HXW.out.set 1 (.int .i64 1)).set 2 (.int .i64 M.ix)).set 3 (.int .i64 M.sub));go_wp2_with fail
        refine (zkb E A4 n4 c4 _).mono ?_;rintro e w8 ⟨rfl,hb8⟩;obtain⟨me,hme⟩:∃me,me=mostE E:=⟨_,rfl⟩;rw[←hme];have HME:=zak hme;have HX8:=zak (HX7.out.step hb8);have hz8:w.heap.size+2≤w8.heap.size:=by
         have:=hb8.size
         simp[World.setCell] at this;omega
        have k2:=HX8.out.k1;have k3:=HX8.out.k2;have b8:=HX8.out.blk;have X9:RN w G p (rbkL { S with st:=1,ix:=M.ix,sub:=M.sub,mo:=me,sz:=M.size,nx:=1,b:=[],sm:=M.cr } pd none 0 0) [⟨w.heap.size+1,118,outL_ none 0 0 outZ none 0 0⟩] [⟨none,0,0,[]⟩] _:=(((((((HX8.out.set 4 (.int .i64 me)).set 5 (.int .i64 (-1))).set 5 (.int .i64 (M.size:Nat))).set 6 (.slice none 0 0)).set 7 (.bool M.cr)).set 8 (.int .i64 1)).rnil.sub (ks':=[⟨w.heap.size+1,118,outL_ none 0 0 outZ none 0 0⟩]) (by simp)).subr (rs':=[⟨none,0,0,[]⟩]) (by simp);have HX9:=zak X9;unfold outL_ outZ at k2;unfold msL_ at k3;unfold rbkL at b8
        have zk2:=k2.lt;have zk3:=k3.lt;have zb8:=b8.lt;clear aK aL aM aN aO aQ;clear cH cI cJ cK cL cM cN cO cP cQ cn dh;clear ar au av aw ax ay az aA aB aC af ag aE;clear am ai aj an ah ak al ao ap aq aa ab ac ae aD;obtain⟨aF,aG,aH,aI,aJ⟩:=za9 k2;have aP:=k2.frozen;obtain⟨gn,gp,gq,gt,gu,gw,ew,gA,gB,gC,fI,fJ,fK,fL⟩:=zbd k3;have iw:=k3.frozen;obtain⟨gD,gE,gF,gG,gH,gI,gJ,gK,gL,gM,fM,fN⟩:=zbc b8;have iy:=b8.frozen;rw[HSZ.out] at ew;clear hme hb8 X9;have HND:Hid (bdownS L S M= { S with st:=1,ix:=M.ix,sub:=M.sub,mo:=me,sz:=M.size,nx:=1,b:=[],sm:=M.cr }):=zak (by
         unfold bdownS;rw[if_neg (by rw[HDC.out];simp),←HEK.out,←HME.out,HSZ.out]
         rfl)
        have HR:Hid (P=RBO w G p pd (bdownS L S M) (outM (bokM M.ix M.sub))):=zak (by
         rw[HP.out]
         congr 1
         unfold bdownO;rw[if_neg (by rw[HDC.out];simp)])
        go_wp2_with fail
        obtain⟨F1,F2⟩:=zku (ks:=[]) (M:=bokM M.ix M.sub) (N:=w8.heap.size) HX9.out (by simp) (fun r hr=>by simp at hr;subst hr;simp) (by simp[World.setCell]) hz8 rfl;rw[←HND.out,←HR.out] at F2;unfold putO outZ msV bokM at F1 F2;dsimp only at F1 F2;exact zkf (O:=outZ) rfl rfl rfl F1 F2
      · have HND:Hid (bdownS L S M=S):=zak (by unfold bdownS;rw[if_pos (by rw[HDC.out];omega)]);have HR:Hid (P=RBO w G p pd S (outM (abM M.ix M.sub kf))):=zak (by
         rw[HP.out,HND.out]
         congr 1
         unfold bdownO;rw[if_pos (by rw[HDC.out];omega),HDC.out]
         rfl)
        have hkz: ¬(kf:Int)=0:=by omega
        go_wp2_with fail
        refine (zks { M with sz:=true } A3 m3 c3 kf _).mono ?_;rintro e w8 ⟨g8,hg8,rfl,hM8,hb8⟩;unfold outV outZ;dsimp only;have HX8:=zak (HXW.out.step hb8);have zg8:w.heap.size+2≤g8:=by omega
        have HM8:=zak hM8;have k2:=HX8.out.k1;unfold outL_ outZ at k2;have zk2:=k2.lt;clear aK aL aM aN aO aQ;obtain⟨aF,aG,aH,aI,aJ⟩:=za9 k2;have aP:=k2.frozen;clear hM8 hb8;go_wp2_with fail
        obtain⟨F1,F2⟩:=zkt (ks:=[]) (HX8.out.sub (by simp)) (by simp) (fun r hr=>by simp at hr;subst hr;exact HRW.out) HM8.out zg8 (zbs.nil _ _);rw[←HR.out] at F2;unfold putO outZ at F1 F2;dsimp only at F1 F2;exact zkf (O:=outZ) rfl rfl rfl F1 F2
  · have HDC:Hid (bdcode L M=(k0:Int)):=zak (by unfold bdcode;rw[if_neg (fun h=>hk (by have:=h.1;rw[hk0] at this;omega)),hk0]);have HND:Hid (bdownS L S M=S):=zak (by unfold bdownS;rw[if_pos (by rw[HDC.out];omega)]);have HR:Hid (P=RBO w G p pd S (outM (abM M.ix M.sub k0))):=zak (by
     rw[HP.out,HND.out]
     congr 1
     unfold bdownO;rw[if_pos (by rw[HDC.out];omega),HDC.out]
     rfl)
    have hkz: ¬(k0:Int)=0:=by omega
    clear hE hk0;go_wp2_with fail
    refine (zks M A3 m3 c3 k0 _).mono ?_;rintro e w8 ⟨g8,hg8,rfl,hM8,hb8⟩;unfold outV outZ;dsimp only;have HX8:=zak (HXW.out.step hb8);have zg8:w.heap.size+2≤g8:=by omega
    have HM8:=zak hM8;have k2:=HX8.out.k1;unfold outL_ outZ at k2;have zk2:=k2.lt;clear aK aL aM aN aO aQ;obtain⟨aF,aG,aH,aI,aJ⟩:=za9 k2;have aP:=k2.frozen;clear hM8 hb8;go_wp2_with fail
    obtain⟨F1,F2⟩:=zkt (ks:=[]) (HX8.out.sub (by simp)) (by simp) (fun r hr=>by simp at hr;subst hr;exact HRW.out) HM8.out zg8 (zbs.nil _ _);rw[←HR.out] at F2;unfold putO outZ at F1 F2;dsimp only at F1 F2;exact zkf (O:=outZ) rfl rfl rfl F1 F2
end
end
end Go.Proofs.YtkkpjbjmhaecjaaGreat
