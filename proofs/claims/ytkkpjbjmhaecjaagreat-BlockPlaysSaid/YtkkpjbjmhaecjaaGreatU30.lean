/- None -/
import Derived.Test.YtkkpjbjmhaecjaaGreatU29
namespace Go.Proofs.YtkkpjbjmhaecjaaGreat
set_option linter.all false
set_option maxRecDepth 100000
set_option maxHeartbeats 4000000
section
open Go.RowKit Go.Maps
def PtR (w:World) (G:Nat→Prop) (p pd:Nat) (ks:List KB) (S:BlkS) (wx:World):Prop:= ∃A n c,RN w G p (rbkL S pd A n c) ks [⟨A,n,c,S.b⟩] wx∧ ∀ad,A=some ad→ad.block≠w.heap.size+1
section
variable {pd:Nat}
theorem zk9 {w W':World}{G:Nat→Prop}{p g n c:Nat}{A:Option Addr}{S:BlkS}{code:Nat}{ks:List KB}(h:RN w G p (rbkL (blkIdle S) pd A n c) (⟨w.heap.size+1,118,outL_ none 0 0 outZ none 0 0⟩ :: ks) [⟨A,n,c,S.b⟩] W')(hA:∀ad,A=some ad→ad.block≠w.heap.size+1)(hM:Blk W' g 30 (msV (abM S.ix S.sub code) none 0 0))(hg:w.heap.size+2≤g)(h0:S.st≠0) :
 Blk (putO W' (w.heap.size+1) (some ⟨g,0,none⟩) 1 1 outZ none 0 0) (w.heap.size+1) 118 (outV (some ⟨g,0,none⟩) 1 1 outZ none 0 0)∧ RBO w G p pd (blkIdle S) (outL (bAbortL S code)) (.returned (.agg (outV (some ⟨g,0,none⟩) 1 1 outZ none 0 0))) (putO W' (w.heap.size+1) (some ⟨g,0,none⟩) 1 1 outZ none 0 0):=by
 rw[show outL (bAbortL S code)=outM (abM S.ix S.sub code) by unfold bAbortL;rw[if_neg h0];rfl];exact zkt h (by simp[blkIdle]) (fun r hr=>by simp at hr;subst hr;exact hA) hM hg (zbs.nil _ _)
theorem zla (p:Nat)(S:BlkS)(G:Nat→Prop)(M:Ms)(A3:Option Addr)(m3 c3:Nat)(w:World)(hS:RBV w G p pd S)(h1:S.st=1)(hw:BWf S)(hM:BMOk M)(hm:m3=M.data.length)(hm1:m3≤100000)(hs:∀W,zbv (fun q=>q=p) w W→Sl W A3 (M.data.map bv)) :
 Calls Tryz.prog 109 #[.pointer (some ⟨p,0,none⟩),.agg (msV M A3 m3 c3)] w (RBO w G p pd (bpartS S M) (bpartO S M)):=by
 obtain⟨A,n1,c1,hR⟩:=hS.rn;obtain⟨P,hP⟩:∃P,P=RBO w G p pd (bpartS S M) (bpartO S M):=⟨_,rfl⟩;rw[←hP];have HP:=zak hP;have hz:=hR.lt;have h0:S.st≠0:=by omega
 have H0:=zak h0;have H1:=zak h1;have HMN:=zak (And.intro hm hs);have hbl:S.b.length≤263:=by have a:=hw.b12 (.inl h1);have b:=hw.mo;omega
 have HNR:Hid (n1=S.b.length∧n1≤263):=zak ⟨(hR.rn (List.mem_singleton.2 rfl)),by rw[hR.rn (List.mem_singleton.2 rfl)];exact hbl⟩;have hq:=hM.sq;have hx:=hw.nx;have HMO:=zak hw.mo;have HRW:Hid (∀ad,A=some ad→ad.block≠w.heap.size+1):=zak (fun ad e=>by have:=((hR.rows _ (List.mem_singleton.2 rfl)).2.2.2 ad e).2.1;omega);have HH:=zak (hR.new2 rfl 30 118 (msL_ M A3 m3 c3) (outL_ none 0 0 outZ none 0 0));clear hP hS hR hm hs hbl h0 h1 hw hM;unfold msL_ outL_ outZ at HH;unfold msV;go_enter Tryz.func109,Tryz.ntmps109
 go_upto_region 1 with fail
 refine zb6 (P:=fun W=>RN w G p (rbkL S pd A n1 c1) [⟨w.heap.size+1,118,outL_ none 0 0 outZ none 0 0⟩,⟨w.heap.size,30,msL_ M A3 m3 c3⟩] [⟨A,n1,c1,S.b⟩] W) HH.out (fun W hW=>?_);clear HH;have HX:=zak hW;have k1:=hW.k1;have kk:=hW.k0;have bb:=hW.blk;have hwz:w.heap.size+2≤W.heap.size:=by have:=hW.k0.lt;show _+1 < _;exact this
 have hne0:w.heap.size≠p:=by omega
 have hne1:w.heap.size+1≠p:=by omega
 clear hW;unfold msL_ at k1;unfold outL_ outZ at kk;unfold rbkL at bb;have zk1:=k1.lt;have zkk:=kk.lt;have zp:=bb.lt;obtain⟨am,ai,aj,an,ah,ak,al,ao,ap,aq,aa,ab,ac,ae⟩:=zbd k1;have aD:=k1.frozen;obtain⟨aK,aL,aM,aN,aO⟩:=za9 kk;have aQ:=kk.frozen;obtain⟨ar,au,av,aw,ax,ay,az,aA,aB,aC,af,ag⟩:=zbc bb;have aE:=bb.frozen;by_cases h16:16 < M.sq
 · have HR:Hid (P=RBO w G p pd (blkIdle S) (outL (bAbortL S 84148227))):=zak (by
    rw[HP.out];unfold bpartS bpartO bpcode;rw[if_pos h16,if_pos h16,if_pos (by decide)]
    rfl)
   have HAB:=zak (zkn S A n1 c1 84148227 W HX.out H0.out);go_wp2_with fail
   refine HAB.out.mono ?_;rintro e w8 ⟨g8,hg8,rfl,hM8,hR8,ho8⟩;have HX8:=zak hR8;have zg8:w.heap.size+2≤g8:=by omega
   have HM8:=zak hM8;have k2:=hR8.k0;unfold outL_ outZ at k2;have zk2:=k2.lt;clear aK aL aM aN aO aQ;clear ar au av aw ax ay az aA aB aC af ag aE;clear am ai aj an ah ak al ao ap aq aa ab ac ae aD;obtain⟨aF,aG,aH,aI,aJ⟩:=za9 k2;have aP:=k2.frozen;clear hM8 hR8 ho8 HAB;go_wp2_with fail
   obtain⟨F1,F2⟩:=zk9 (ks:=[]) (HX8.out.sub (by simp)) HRW.out HM8.out zg8 H0.out;rw[←HR.out] at F2;unfold putO outZ at F1 F2;dsimp only at F1 F2;exact zkf (O:=outZ) rfl rfl rfl F1 F2
 · obtain⟨hsb,hhsb⟩:∃b:Bool,b=(M.sq == S.nx):=⟨_,rfl⟩;have hsb2:=hhsb.symm;have HSB:=zak hhsb;clear hhsb;go_upto_region 3 with fail
   go_quiet (fail)
   go_upto_if 18 with fail
   refine zb6 (P:=fun W=>RN w G p (rbkL S pd A n1 c1) [⟨w.heap.size+1,118,outL_ none 0 0 outZ none 0 0⟩,⟨w.heap.size,30,msL_ M A3 m3 c3⟩] [⟨A,n1,c1,S.b⟩] W) (HX.out.step (zbn (Below.refl _ _) _)) (fun W2 h2=>?_);clear am ai aj an ah ak al ao ap aq aa ab ac ae aD;clear aK aL aM aN aO aQ;clear ar au av aw ax ay az aA aB aC af ag aE;clear HX hsb2 k1 kk bb zk1 zkk zp hwz;have HX2:=zak h2;have hwz2:w.heap.size+2≤W2.heap.size:=by have:=h2.k0.lt;show _+1 < _;exact this
   have q9:W2.cell? ⟨w.heap.size,9,none⟩=some (.slice A3 m3 c3):=h2.k1.cell 9 rfl;have b6:W2.cell? ⟨p,6,none⟩=some (.slice A n1 c1):=h2.blk.cell 6 rfl;have z1:=h2.lt;have zg:w.heap.size < W2.heap.size:=by omega
   clear h2;go_cut [] (fun wx=>Hid (PtR w G p pd [⟨w.heap.size+1,118,outL_ none 0 0 outZ none 0 0⟩,⟨w.heap.size,30,msL_ M A3 m3 c3⟩] (btake S M) wx∧bpcode S M=0))
   case first=>
    cases hsb
    · have HTA:Hid (btake S M=S∧bpcode S M=0):=zak (by
       have hne: ¬M.sq=S.nx:=by have:=HSB.out;simpa using this.symm
       unfold btake bpcode;rw[if_neg hne,if_neg h16,if_neg (fun h=>hne h.1)];exact⟨rfl,rfl⟩)
      go_wp2_with fail
      go_meet
      exact zak (by rw[HTA.out.1];exact⟨⟨A,n1,c1,HX2.out,HRW.out⟩,HTA.out.2⟩)
    · have HEQ:Hid (M.sq=S.nx):=zak (by have:=HSB.out;simpa using this.symm);go_upto_region 4 with fail
      refine zaj (fun w'=>w'.cell? ⟨w.heap.size,9,none⟩=some (.slice A3 m3 c3)∧ w'.cell? ⟨p,6,none⟩=some (.slice A n1 c1)) [0,1,2,3,4,5,6,7,8,9] (by kernel_rfl) ?hS1 (fun hHeld=>?rest1)
      case hS1=>((try dsimp only);exact⟨q9,b6⟩)
      case' rest1=>skip
      refine tkT 0 ?_;try simp only[PqL,Act.put]
      refine tkT 1 ?_;try simp only[PqL,Act.put]
      refine tkT 2 ?_;try simp only[PqL,Act.put]
      refine tkT 3 ?_;try simp only[PqL,Act.put]
      refine tkT 4 ?_;try simp only[PqL,Act.put]
      refine tkT 5 ?_;try simp only[PqL,Act.put]
      refine tkT 6 ?_;try simp only[PqL,Act.put]
      refine zag (i:=7) (o:=_) rfl (by kernel_rfl) (fun K hK=>?_)
      go_simp
      refine (zep A A3 n1 m3 c1 c3 S.b M.data _ HNR.out.1 HMN.out.1 (by have:=HNR.out.2;omega) (by omega) (HX2.out.drew.sl (List.mem_singleton.2 rfl)) (HMN.out.2 _ HX2.out.drew.only)).mono ?_;rintro e w3 ⟨A6,N6,c6,rfl,hO6,hb6⟩;dsimp only;have H6:=zak ((HX2.out.drew.step hb6).row (hO6.mono HX2.out.drew.size));have HN6:Hid (N6=(S.b ++ M.data).length):=zak hO6.hn;have HA6:Hid (∀ad,A6=some ad→ad.block≠w.heap.size+1):=zak (zk7 (hO6.mono (B':=w.heap.size+2) hwz2) (by omega));have b6b:w3.cell? ⟨p,6,none⟩=some (.slice A n1 c1):=H6.out.blk.cell 6 rfl;have q9b:w3.cell? ⟨w.heap.size,9,none⟩=some (.slice A3 m3 c3):=H6.out.k1.cell 9 rfl
      have f6:=H6.out.blk.frozen 6;have z6:=H6.out.lt;clear hO6 hb6;refine hK.out _ _ ?hS10 (fun hHeld=>?rest10)
      case hS10=>((try dsimp only);(exact⟨q9b,b6b⟩))
      case' rest10=>(clear hK K;try simp only[PqL,Act.put])
      refine tkT 8 ?_;try simp only[PqL,Act.put]
      refine tkT 9 ?_;try simp only[PqL,Act.put]
      refine zah (i:=10) (o:=_) rfl (by kernel_rfl) (by kernel_rfl) (fun K hK=>?_)
      go_simp
      refine hK.out _ _ ?rest14
      case' rest14=>(clear hK K;try simp only[PqL,Act.put])
      refine zai (by kernel_rfl) ?_ _
      repeat (clear hHeld)
      have H7:Hid (RN w G p (rbkL { S with b:=S.b ++ M.data } pd A6 N6 c6) [⟨w.heap.size+1,118,outL_ none 0 0 outZ none 0 0⟩,⟨w.heap.size,30,msL_ M A3 m3 c3⟩] [⟨A6,N6,c6,S.b ++ M.data⟩] (w3.setCell ⟨p,6,none⟩ (.slice A6 N6 c6))):=zak ((H6.out.set 6 _).subr (by simp));clear H6 b6b f6 z6 b6 q9 q9b z1 zg HX2;go_upto_region 5 with fail
      refine zb6 (P:=RN w G p (rbkL { S with b:=S.b ++ M.data } pd A6 N6 c6) [⟨w.heap.size+1,118,outL_ none 0 0 outZ none 0 0⟩,⟨w.heap.size,30,msL_ M A3 m3 c3⟩] [⟨A6,N6,c6,S.b ++ M.data⟩]) H7.out (fun W7 h7=>?_);clear H7;have H8:Hid (RN w G p (rbkL { S with b:=S.b ++ M.data,nx:=S.nx+1 } pd A6 N6 c6) [⟨w.heap.size+1,118,outL_ none 0 0 outZ none 0 0⟩,⟨w.heap.size,30,msL_ M A3 m3 c3⟩] [⟨A6,N6,c6,S.b ++ M.data⟩] (W7.setCell ⟨p,8,none⟩ (.int .i64 (S.nx+1)))):=zak (h7.set 8 _);have b8:W7.cell? ⟨p,8,none⟩=some (.int .i64 S.nx):=h7.blk.cell 8 rfl;have f8:=h7.blk.frozen 8;have z7:=h7.lt;clear h7;go_upto_region 6 with fail
      refine zb6 (P:=RN w G p (rbkL { S with b:=S.b ++ M.data,nx:=S.nx+1 } pd A6 N6 c6) [⟨w.heap.size+1,118,outL_ none 0 0 outZ none 0 0⟩,⟨w.heap.size,30,msL_ M A3 m3 c3⟩] [⟨A6,N6,c6,S.b ++ M.data⟩]) H8.out (fun W8 h8=>?_);clear H8 b8 f8 z7;have H8:=zak h8;have z8:=h8.lt;have q:Blk W8 w.heap.size 30 (msL_ M A3 m3 c3).toArray:=h8.k1;have zg8:=q.lt;have b1:W8.cell? ⟨p,1,none⟩=some (.int .i64 S.st):=h8.blk.cell 1 rfl;have f1:=h8.blk.frozen 1;rcases Bool.eq_false_or_eq_true M.la with hla | hla
      · have q4:W8.cell? ⟨w.heap.size,4,none⟩=some (.bool true):=by rw[←hla];exact q.cell 4 rfl
        have HTA:Hid (btake S M= { S with b:=S.b ++ M.data,nx:=S.nx+1,st:=2 }):=zak (by unfold btake;rw[if_pos HEQ.out,hla];rfl);have HU:Hid (RN w G p (rbkL { S with b:=S.b ++ M.data,nx:=S.nx+1,st:=2 } pd A6 N6 c6) [⟨w.heap.size+1,118,outL_ none 0 0 outZ none 0 0⟩,⟨w.heap.size,30,msL_ M A3 m3 c3⟩] [⟨A6,N6,c6,S.b ++ M.data⟩] (W8.setCell ⟨p,1,none⟩ (.int .i64 2))):=zak (h8.set 1 _);clear h8 H8 q hla;go_upto_region 8 with fail
        refine zb6 (P:=RN w G p (rbkL { S with b:=S.b ++ M.data,nx:=S.nx+1,st:=2 } pd A6 N6 c6) [⟨w.heap.size+1,118,outL_ none 0 0 outZ none 0 0⟩,⟨w.heap.size,30,msL_ M A3 m3 c3⟩] [⟨A6,N6,c6,S.b ++ M.data⟩]) HU.out (fun W9 h9=>?_);clear HU q4 f1 b1 z8 zg8;have H9:=zak h9;have z9:=h9.lt;have b6:W9.cell? ⟨p,6,none⟩=some (.slice A6 N6 c6):=h9.blk.cell 6 rfl;have b4:W9.cell? ⟨p,4,none⟩=some (.int .i64 S.mo):=h9.blk.cell 4 rfl;have hmo:=HMO.out;clear h9;by_cases hov:S.mo+7 < (N6:Int)
        · have HR:Hid (P=RBO w G p pd (blkIdle { S with b:=S.b ++ M.data,nx:=S.nx+1,st:=2 }) (outL (bAbortL { S with b:=S.b ++ M.data,nx:=S.nx+1,st:=2 } 101122066))):=zak (by
           have hc:bpcode S M=101122066:=by unfold bpcode;rw[if_neg h16,if_pos ⟨HEQ.out,by rw[←HN6.out];exact hov⟩]
           rw[HP.out];unfold bpartS bpartO;rw[if_neg h16,if_pos (by rw[hc];decide),if_pos (by rw[hc];decide),hc,HTA.out];unfold bAbortL;rw[if_neg H0.out,if_neg (by show ¬(2:Int)=0;decide)]
           rfl)
          have HAB:=zak (fun W (h:RN w G p (rbkL { S with b:=S.b ++ M.data,nx:=S.nx+1,st:=2 } pd A6 N6 c6) [⟨w.heap.size+1,118,outL_ none 0 0 outZ none 0 0⟩,⟨w.heap.size,30,msL_ M A3 m3 c3⟩] [⟨A6,N6,c6,S.b ++ M.data⟩] W)=> zkn { S with b:=S.b ++ M.data,nx:=S.nx+1,st:=2 } A6 N6 c6 101122066 W h (by show ¬(2:Int)=0;decide));have hgt:decide (S.mo+7 < (N6:Int))=true:=decide_eq_true hov;have hw9:w.heap.size+2≤W9.heap.size:=by have:=H9.out.k0.lt;show _+1 < _;exact this
          go_quiet (fail)
          go_wp2_with fail
          refine (HAB.out _ (H9.out.step (zbn (Below.refl _ _) _))).mono ?_;rintro e w8 ⟨g8,hg8,rfl,hM8,hR8,ho8⟩;have HX8:=zak hR8;have zg8:w.heap.size+2≤g8:=Nat.le_trans hw9 hg8;have HM8:=zak hM8;have k2:=hR8.k0;unfold outL_ outZ at k2;have zk2:=k2.lt;obtain⟨aF,aG,aH,aI,aJ⟩:=za9 k2;have aP:=k2.frozen;clear hM8 hR8 ho8 HAB;go_wp2_with fail
          obtain⟨F1,F2⟩:=zk9 (ks:=[]) (HX8.out.sub (by simp)) HA6.out HM8.out zg8 (by show ¬(2:Int)=0;decide);rw[←HR.out] at F2;unfold putO outZ at F1 F2;dsimp only at F1 F2;exact zkf (O:=outZ) rfl rfl rfl F1 F2
        · have HC0:Hid (bpcode S M=0):=zak (by unfold bpcode;rw[if_neg h16,if_neg (fun h=>hov (by rw[HN6.out];exact h.2))]);have hgt:decide (S.mo+7 < (N6:Int))=false:=decide_eq_false hov
          go_quiet (fail)
          go_wp2_with fail
          go_meet
          exact zak ⟨by rw[HTA.out];exact⟨A6,N6,c6,H9.out.step (zbn (Below.refl _ _) _),HA6.out⟩,HC0.out⟩
      · have q4:W8.cell? ⟨w.heap.size,4,none⟩=some (.bool false):=by rw[←hla];exact q.cell 4 rfl
        have HTA:Hid (btake S M= { S with b:=S.b ++ M.data,nx:=S.nx+1 }):=zak (by unfold btake;rw[if_pos HEQ.out,hla];rw[if_neg (by decide),←H1.out]);have HU:Hid (RN w G p (rbkL { S with b:=S.b ++ M.data,nx:=S.nx+1 } pd A6 N6 c6) [⟨w.heap.size+1,118,outL_ none 0 0 outZ none 0 0⟩,⟨w.heap.size,30,msL_ M A3 m3 c3⟩] [⟨A6,N6,c6,S.b ++ M.data⟩] W8):=zak h8;clear h8 H8 q hla;go_upto_region 8 with fail
        refine zb6 (P:=RN w G p (rbkL { S with b:=S.b ++ M.data,nx:=S.nx+1 } pd A6 N6 c6) [⟨w.heap.size+1,118,outL_ none 0 0 outZ none 0 0⟩,⟨w.heap.size,30,msL_ M A3 m3 c3⟩] [⟨A6,N6,c6,S.b ++ M.data⟩]) HU.out (fun W9 h9=>?_);clear HU q4 f1 b1 z8 zg8;have H9:=zak h9;have z9:=h9.lt;have b6:W9.cell? ⟨p,6,none⟩=some (.slice A6 N6 c6):=h9.blk.cell 6 rfl;have b4:W9.cell? ⟨p,4,none⟩=some (.int .i64 S.mo):=h9.blk.cell 4 rfl;have hmo:=HMO.out;clear h9;by_cases hov:S.mo+7 < (N6:Int)
        · have HR:Hid (P=RBO w G p pd (blkIdle { S with b:=S.b ++ M.data,nx:=S.nx+1 }) (outL (bAbortL { S with b:=S.b ++ M.data,nx:=S.nx+1 } 101122066))):=zak (by
           have hc:bpcode S M=101122066:=by unfold bpcode;rw[if_neg h16,if_pos ⟨HEQ.out,by rw[←HN6.out];exact hov⟩]
           rw[HP.out];unfold bpartS bpartO;rw[if_neg h16,if_pos (by rw[hc];decide),if_pos (by rw[hc];decide),hc,HTA.out];unfold bAbortL;rw[if_neg H0.out,if_neg (by exact H0.out)]
           rfl)
          have HAB:=zak (fun W (h:RN w G p (rbkL { S with b:=S.b ++ M.data,nx:=S.nx+1 } pd A6 N6 c6) [⟨w.heap.size+1,118,outL_ none 0 0 outZ none 0 0⟩,⟨w.heap.size,30,msL_ M A3 m3 c3⟩] [⟨A6,N6,c6,S.b ++ M.data⟩] W)=> zkn { S with b:=S.b ++ M.data,nx:=S.nx+1 } A6 N6 c6 101122066 W h (by exact H0.out));have hgt:decide (S.mo+7 < (N6:Int))=true:=decide_eq_true hov;have hw9:w.heap.size+2≤W9.heap.size:=by have:=H9.out.k0.lt;show _+1 < _;exact this
          go_quiet (fail)
          go_wp2_with fail
          refine (HAB.out _ (H9.out.step (zbn (Below.refl _ _) _))).mono ?_;rintro e w8 ⟨g8,hg8,rfl,hM8,hR8,ho8⟩;have HX8:=zak hR8;have zg8:w.heap.size+2≤g8:=Nat.le_trans hw9 hg8;have HM8:=zak hM8;have k2:=hR8.k0;unfold outL_ outZ at k2;have zk2:=k2.lt;obtain⟨aF,aG,aH,aI,aJ⟩:=za9 k2;have aP:=k2.frozen;clear hM8 hR8 ho8 HAB;go_wp2_with fail
          obtain⟨F1,F2⟩:=zk9 (ks:=[]) (HX8.out.sub (by simp)) HA6.out HM8.out zg8 (by exact H0.out);rw[←HR.out] at F2;unfold putO outZ at F1 F2;dsimp only at F1 F2;exact zkf (O:=outZ) rfl rfl rfl F1 F2
        · have HC0:Hid (bpcode S M=0):=zak (by unfold bpcode;rw[if_neg h16,if_neg (fun h=>hov (by rw[HN6.out];exact h.2))]);have hgt:decide (S.mo+7 < (N6:Int))=false:=decide_eq_false hov
          go_quiet (fail)
          go_wp2_with fail
          go_meet
          exact zak ⟨by rw[HTA.out];exact⟨A6,N6,c6,H9.out.step (zbn (Below.refl _ _) _),HA6.out⟩,HC0.out⟩
   case rest=>
    obtain⟨⟨A5,n5,c5,hC,hA⟩,hbc⟩:=hcut.out;obtain⟨T,hT⟩:∃T,T=btake S M:=⟨_,rfl⟩;rw[←hT] at hC;have hx2:0≤T.nx∧T.nx≤101:=by
     rw[hT];unfold btake;split
     · show 0≤S.nx+1∧S.nx+1≤101;omega
     · omega
    have HT:=zak hT;have HBC:=zak hbc;have HC:=zak hC;have HA5:Hid (∀ad,A5=some ad→ad.block≠w.heap.size+1):=zak hA;have hwz3:w.heap.size+2≤wc.heap.size:=by have:=hC.k0.lt;show _+1 < _;exact this
    have k1:=hC.k1;have kk:=hC.k0;have bb:=hC.blk;clear hcut hC hA hT hbc HX2 q9 b6 z1 zg hwz2;unfold msL_ at k1;unfold outL_ outZ at kk;unfold rbkL at bb;have zk1:=k1.lt;have zkk:=kk.lt;have zp:=bb.lt;obtain⟨am,ai,aj,an,ah,ak,al,ao,ap,aq,aa,ab,ac,ae⟩:=zbd k1;have aD:=k1.frozen;obtain⟨aK,aL,aM,aN,aO⟩:=za9 kk;have aQ:=kk.frozen;obtain⟨ar,au,av,aw,ax,ay,az,aA,aB,aC,af,ag⟩:=zbc bb;have aE:=bb.frozen;by_cases hno:M.sq≠16∧M.la=false
    · obtain⟨hn1,hn3⟩:=hno;have HR:Hid (P=RBO w G p pd T outZ):=zak (by
       have hlt:M.sq < 16:=by omega
       rw[HP.out];unfold bpartS bpartO;rw[if_neg h16,if_neg (by rw[HBC.out];simp),if_pos ⟨hlt,hn3⟩,if_neg (by rw[HBC.out];simp),if_pos ⟨hlt,hn3⟩,←HT.out])
      have d1:(M.sq != 16)=true:=by simp[hn1]
      rw[hn3] at ah;clear hn1 hn3;go_wp2_with fail
      obtain⟨F1,F2⟩:=zkl (O:=outZ) (As:=none) (ns:=0) (cs:=0) (ds:=[]) (A9:=none) (n9:=0) (c9:=0) (ks:=[]) (HC.out.sub (by simp)) (by rw[HT.out];exact List.mem_singleton.2 rfl) (Nat.le_succ _) (fun r hr=>by simp at hr;subst hr;exact HA5.out) (zb2.nil _ _) (zbs.nil _ _) (FIn.nil _);rw[←HR.out] at F2;unfold putO outZ at F1 F2;dsimp only at F1 F2;exact zkf (O:=outZ) rfl rfl rfl F1 F2
    · have HR:Hid (P=RBO w G p pd { T with nx:=1 } (outM (ackM (T.nx - 1)))):=zak (by
       have hlt: ¬(M.sq < 16∧M.la=false):=fun h=>hno ⟨by omega,h.2⟩
       rw[HP.out];unfold bpartS bpartO;rw[if_neg h16,if_neg (by rw[HBC.out];simp),if_neg hlt,if_neg (by rw[HBC.out];simp),if_neg hlt,←HT.out])
      have X7:=HC.out.newz (N:=wc.heap.size) rfl 30 (msL_ (ackM (T.nx - 1)) none 0 0);unfold msL_ ackM at X7;dsimp only at X7;have HX7:=zak X7;clear X7;by_cases h16e:M.sq=16
      · have d1:(M.sq != 16)=false:=by simp[h16e]
        clear h16e hno;go_upto_region 13 with fail
        refine zb6 (P:=RN w G p (rbkL T pd A5 n5 c5) [⟨wc.heap.size,30,msL_ (ackM (T.nx - 1)) none 0 0⟩,⟨w.heap.size+1,118,outL_ none 0 0 outZ none 0 0⟩,⟨w.heap.size,30,msL_ M A3 m3 c3⟩] [⟨A5,n5,c5,T.b⟩]) HX7.out (fun W7 h7=>?_);obtain⟨gk,hgk⟩:∃gk,gk=wc.heap.size:=⟨_,rfl⟩;rw[←hgk] at h7 ⊢;clear hgk;clear am ai aj an ah ak al ao ap aq aa ab ac ae aD;clear aK aL aM aN aO aQ;clear ar au av aw ax ay az aA aB aC af ag aE;clear HX7 k1 kk bb zk1 zkk zp;have X9:RN w G p (rbkL { T with nx:=1 } pd A5 n5 c5) [⟨gk,30,msL_ (ackM (T.nx - 1)) none 0 0⟩,⟨w.heap.size+1,118,outL_ none 0 0 outZ none 0 0⟩] [⟨A5,n5,c5,T.b⟩] _:=(h7.set 8 (.int .i64 1)).sub (ks':=[⟨gk,30,msL_ (ackM (T.nx - 1)) none 0 0⟩,⟨w.heap.size+1,118,outL_ none 0 0 outZ none 0 0⟩]) (by simp)
        have HX9:=zak X9;have hgp:gk≠p:=(h7.keep ⟨gk,30,msL_ (ackM (T.nx - 1)) none 0 0⟩ (by simp)).1;have hw7:w.heap.size+2≤W7.heap.size:=by have:=h7.k1.lt;show _+1 < _;exact this
        have b8:W7.cell? ⟨p,8,none⟩=some (.int .i64 T.nx):=h7.blk.cell 8 rfl;have f8:=h7.blk.frozen 8;have z7:=h7.lt;have ka:Blk W7 gk 30 #[.int .i64 17,.int .i64 0,.int .i64 0,.bool false,.bool false,.bool false,.bool false,.int .u32 0,.int .u32 0,.slice none 0 0,.int .i64 (T.nx - 1),.int .i64 16,.int .i64 0,.int .u16 0]:=h7.k0;have kk:=h7.k1;unfold outL_ outZ at kk;have zka:=ka.lt;have zkk:=kk.lt;clear h7 X9;obtain⟨dl,dm,dn,dp,dq,dr,dt,du,dw,dx,cU,cV,cW,cX⟩:=zbd ka;have ex:=ka.frozen;obtain⟨aK,aL,aM,aN,aO⟩:=za9 kk;have aQ:=kk.frozen;go_wp2_with fail
        obtain⟨F1,F2⟩:=zku (ks:=[]) (M:=ackM (T.nx - 1)) (N:=W7.heap.size) (HX9.out.sub (by simp)) (List.mem_singleton.2 rfl) (fun r hr=>by simp at hr;subst hr;exact HA5.out) (by simp[World.setCell]) hw7 rfl;rw[←HR.out] at F2;unfold putO outZ msV ackM at F1 F2;dsimp only at F1 F2;exact zkf (O:=outZ) rfl rfl rfl F1 F2
      · have hla:M.la=true:=by
         cases hl:M.la
         · exact absurd ⟨h16e,hl⟩ hno
         · rfl
        have d1:(M.sq != 16)=true:=by simp[h16e]
        rw[hla] at ah;clear h16e hno hla;go_upto_region 13 with fail
        refine zb6 (P:=RN w G p (rbkL T pd A5 n5 c5) [⟨wc.heap.size,30,msL_ (ackM (T.nx - 1)) none 0 0⟩,⟨w.heap.size+1,118,outL_ none 0 0 outZ none 0 0⟩,⟨w.heap.size,30,msL_ M A3 m3 c3⟩] [⟨A5,n5,c5,T.b⟩]) HX7.out (fun W7 h7=>?_);obtain⟨gk,hgk⟩:∃gk,gk=wc.heap.size:=⟨_,rfl⟩;rw[←hgk] at h7 ⊢;clear hgk;clear am ai aj an ah ak al ao ap aq aa ab ac ae aD;clear aK aL aM aN aO aQ;clear ar au av aw ax ay az aA aB aC af ag aE;clear HX7 k1 kk bb zk1 zkk zp;have X9:RN w G p (rbkL { T with nx:=1 } pd A5 n5 c5) [⟨gk,30,msL_ (ackM (T.nx - 1)) none 0 0⟩,⟨w.heap.size+1,118,outL_ none 0 0 outZ none 0 0⟩] [⟨A5,n5,c5,T.b⟩] _:=(h7.set 8 (.int .i64 1)).sub (ks':=[⟨gk,30,msL_ (ackM (T.nx - 1)) none 0 0⟩,⟨w.heap.size+1,118,outL_ none 0 0 outZ none 0 0⟩]) (by simp)
        have HX9:=zak X9;have hgp:gk≠p:=(h7.keep ⟨gk,30,msL_ (ackM (T.nx - 1)) none 0 0⟩ (by simp)).1;have hw7:w.heap.size+2≤W7.heap.size:=by have:=h7.k1.lt;show _+1 < _;exact this
        have b8:W7.cell? ⟨p,8,none⟩=some (.int .i64 T.nx):=h7.blk.cell 8 rfl;have f8:=h7.blk.frozen 8;have z7:=h7.lt;have ka:Blk W7 gk 30 #[.int .i64 17,.int .i64 0,.int .i64 0,.bool false,.bool false,.bool false,.bool false,.int .u32 0,.int .u32 0,.slice none 0 0,.int .i64 (T.nx - 1),.int .i64 16,.int .i64 0,.int .u16 0]:=h7.k0;have kk:=h7.k1;unfold outL_ outZ at kk;have zka:=ka.lt;have zkk:=kk.lt;clear h7 X9;obtain⟨dl,dm,dn,dp,dq,dr,dt,du,dw,dx,cU,cV,cW,cX⟩:=zbd ka;have ex:=ka.frozen;obtain⟨aK,aL,aM,aN,aO⟩:=za9 kk;have aQ:=kk.frozen;go_wp2_with fail
        obtain⟨F1,F2⟩:=zku (ks:=[]) (M:=ackM (T.nx - 1)) (N:=W7.heap.size) (HX9.out.sub (by simp)) (List.mem_singleton.2 rfl) (fun r hr=>by simp at hr;subst hr;exact HA5.out) (by simp[World.setCell]) hw7 rfl;rw[←HR.out] at F2;unfold putO outZ msV ackM at F1 F2;dsimp only at F1 F2;exact zkf (O:=outZ) rfl rfl rfl F1 F2
end
end
end Go.Proofs.YtkkpjbjmhaecjaaGreat
