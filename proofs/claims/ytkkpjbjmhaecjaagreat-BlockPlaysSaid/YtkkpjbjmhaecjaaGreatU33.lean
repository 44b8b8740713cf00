/- None -/
import Derived.Test.YtkkpjbjmhaecjaaGreatU32
import Derived.Test.YtkkpjbjmhaecjaaGreatU31
namespace Go.Proofs.YtkkpjbjmhaecjaaGreat
set_option linter.all false
set_option maxRecDepth 100000
set_option maxHeartbeats 8000000
section
open Go.RowKit Go.Maps
theorem zlk {w W1 w8:World}{G:Nat→Prop}{p pd ns cs n c:Nat}{S':BlkS}{O:SegO}{As A:Option Addr}{cs0:List Value}{ks:List KB}{rs:List RW}{ds:List (Option Addr×Nat)}(hX:RN w G p cs0 (⟨w.heap.size+1,118,outL_ none 0 0 outZ none 0 0⟩ :: ks) rs W1)
 (h1:OwnMr w8 (fun g=>W1.heap.size≤g) As ns cs O.ms ds) (h2:zbs w8 W1.heap.size A n c O.b) (h4:RBV w8 (fun g=>(G g∧g < w.heap.size)∨ W1.heap.size≤g) p pd S') (h5:zbv (fun q=>q=p) W1 w8) :
 Blk (putO w8 (w.heap.size+1) As ns cs O A n c) (w.heap.size+1) 118 (outV As ns cs O A n c)∧ RBO w G p pd S' O (.returned (.agg (outV As ns cs O A n c))) (putO w8 (w.heap.size+1) As ns cs O A n c):=by
 have hp:=hX.lt0;have hwz:w.heap.size+2≤W1.heap.size:=by have:=hX.k0.lt;show _+1 < _;exact this
 have hK:Blk w8 (w.heap.size+1) 118 (outV none 0 0 outZ none 0 0):=(h5.block _ hX.k0.lt (show w.heap.size+1≠p by omega)).trans hX.k0;obtain⟨A',n',c',hB,g1,g2,g3,g4⟩:=h4;refine⟨zkg hK,As,ns,cs,ds,A,n,c,rfl,(h1.keep (fun g hg _=>zia (show g≠w.heap.size+1 by have hg:W1.heap.size≤g:=hg;omega) _ _ _ _ _ _ _)).mono (fun g _ hg=>by have hg:W1.heap.size≤g:=hg;show w.heap.size≤g;omega),(zhv h2 (by omega) _ _ _ _ _ _ _).mono (by omega),⟨A',n',c',zht hB (by omega) _ _ _ _ _ _ _,g1,g2,zkh g3 (fun ad e=>zia (by rcases (g4 ad e).1 with h | h;(have:=h.2;omega);omega) _ _ _ _ _ _ _),fun ad e=>⟨?_,by rw[zib];exact (g4 ad e).2.1,(g4 ad e).2.2⟩⟩,zhu (hX.only.trans h5 (fun _ _ h=>h)) (by omega) _ _ _ _ _ _ _⟩
 rcases (g4 ad e).1 with h | h
 · exact .inl h.1
 · exact .inr (by omega)
theorem zll {w W1:World}{G:Nat→Prop}{p pd n1 c1:Nat}{S':BlkS}{A:Option Addr}{ks:List KB}{rs:List RW}(hX:RN w G p (rbkL S' pd A n1 c1) ks rs W1)(hr:⟨A,n1,c1,S'.b⟩ ∈ rs)(hA:∀ad,A=some ad→G ad.block∧ad.block < w.heap.size):RBV W1 (fun g=>G g∧g < w.heap.size) p pd S':=by
 obtain⟨h1,h2,h3,h4⟩:=hX.rows _ hr;exact⟨A,n1,c1,hX.blk,h1,h2,h3,fun ad e=>⟨hA ad e,(h4 ad e).2⟩⟩
theorem zlm {S:BlkS}{M:Ms}{h2:Nat}(h0:bacode S M=0)(hh:S.ha+M.sq=(h2:Int))(hc:(h2:Int) < (btotal S.b:Int)):backS S M=bgiveS { S with ha:=(h2:Int),ta:=M.bl }∧ backO S M=outL (bgiveL { S with ha:=(h2:Int),ta:=M.bl }):=by
 have e:backS1 S M= { S with ha:=(h2:Int),ta:=M.bl }:=by unfold backS1;rw[hh]
 have hn: ¬bacode S M≠0:=by rw[h0];simp
 unfold backS backO;rw[e,if_neg hn,if_neg hn,if_pos hc,if_pos hc];exact⟨rfl,rfl⟩
theorem zln {S:BlkS}{M:Ms}{h2:Nat}(h0:bacode S M=0)(hh:S.ha+M.sq=(h2:Int))(hc: ¬(h2:Int) < (btotal S.b:Int)):backS S M= { S with ha:=(h2:Int),ta:=M.bl,st:=6 }∧ backO S M=outM (bendM (7 * (btotal S.b:Int) - S.b.length) (if S.sm=true then sum16L S.b else 0)):=by
 have e:backS1 S M= { S with ha:=(h2:Int),ta:=M.bl }:=by unfold backS1;rw[hh]
 have hn: ¬bacode S M≠0:=by rw[h0];simp
 unfold backS backO;rw[e,if_neg hn,if_neg hn,if_neg hc,if_neg hc];exact⟨rfl,rfl⟩
section
variable {pd:Nat}
theorem zlo (p:Nat)(S:BlkS)(G:Nat→Prop)(M:Ms)(A3:Option Addr)(m3 c3:Nat)(w:World)(hS:RBV w G p pd S)(h5:S.st=5)(hw:BWf S)(hM:BMOk M) :
 Calls Tryz.prog 113 #[.pointer (some ⟨p,0,none⟩),.agg (msV M A3 m3 c3)] w (RBO w G p pd (backS S M) (backO S M)):=by
 have hS0:=hS;obtain⟨A,n1,c1,hR⟩:=hS.rn;have HRG:Hid (∀ad,A=some ad→ad.block < w.heap.size):=zak (fun ad e=>((hR.rows _ (List.mem_singleton.2 rfl)).2.2.2 ad e).2.1);obtain⟨P,hP⟩:∃P,P=RBO w G p pd (backS S M) (backO S M):=⟨_,rfl⟩;rw[←hP];have HP:=zak hP;have hz:=hR.lt;have h0:S.st≠0:=by omega
 have H0:=zak h0;obtain⟨hbl,hha0,hha1,hha2⟩:=hw.b5 h5;have hnn:n1=S.b.length:=hR.rn (List.mem_singleton.2 rfl);have hcc:n1≤c1:=hR.rc (List.mem_singleton.2 rfl);have HNN:=zak hnn;have hnb:n1≤256:=by omega
 obtain⟨tot,ht⟩:∃tot,tot=btotal S.b:=⟨_,rfl⟩;have HT:=zak ht;have ht40:tot≤1000:=by rw[ht];unfold btotal;omega
 have htl:n1≤7 * tot∧7 * tot≤n1+7:=by rw[ht,hnn];unfold btotal;omega
 obtain⟨htl1,htl2⟩:=htl;obtain⟨hq0,hq1⟩:=hM.sq;obtain⟨hb0,hb1⟩:=hM.bl;have HHA:Hid (0≤S.ha∧S.ha+S.ro≤(tot:Int)):=zak (by rw[ht];exact⟨hha0,hha2⟩);have HBL:Hid (S.b.length≤1000):=zak (by omega);have HRW:Hid (∀ad,A=some ad→ad.block≠w.heap.size+1):=zak (fun ad e=>by have:=HRG.out ad e;omega);have HGA:Hid (∀ad,A=some ad→G ad.block∧ad.block < w.heap.size):=zak (fun ad e=>by
  obtain⟨A',n',c',hB',h1,h2,h3,h4⟩:=hS0;have e1:=hB'.cell 6 rfl;have e2:=hR.blk.cell 6 rfl;rw[e1] at e2;injection e2 with e2
  injection e2 with e2
  subst e2;exact⟨(h4 ad e).1,(h4 ad e).2.1⟩)
 have HH:=zak (hR.new2 rfl 30 118 (msL_ M A3 m3 c3) (outL_ none 0 0 outZ none 0 0));clear hP hS hS0 hR hbl h0 hw hM hnn h5 ht hha0 hha1 hha2;unfold msL_ outL_ outZ at HH;unfold msV;go_enter Tryz.func113,Tryz.ntmps113
 go_upto_region 1 with fail
 refine zb6 (P:=fun W=>RN w G p (rbkL S pd A n1 c1) [⟨w.heap.size+1,118,outL_ none 0 0 outZ none 0 0⟩,⟨w.heap.size,30,msL_ M A3 m3 c3⟩] [⟨A,n1,c1,S.b⟩] W) HH.out (fun W hW=>?_);clear HH;have HX:=zak hW;have q10:W.cell? ⟨w.heap.size,10,none⟩=some (.int .i64 M.sq):=hW.k1.cell 10 rfl;have q11:W.cell? ⟨w.heap.size,11,none⟩=some (.int .i64 M.bl):=hW.k1.cell 11 rfl;have b11:W.cell? ⟨p,11,none⟩=some (.int .i64 S.ro):=hW.blk.cell 11 rfl;have zk1:w.heap.size < W.heap.size:=hW.k1.lt;have zp:=hW.lt;clear hW;by_cases hro:S.ro < M.sq
 · have hdb:decide (S.ro < M.sq)=true:=decide_eq_true hro
   go_quiet (fail)
   go_upto_region 2 with fail
   refine zb6 (P:=fun W=>RN w G p (rbkL S pd A n1 c1) [⟨w.heap.size+1,118,outL_ none 0 0 outZ none 0 0⟩,⟨w.heap.size,30,msL_ M A3 m3 c3⟩] [⟨A,n1,c1,S.b⟩] W) (HX.out.step (zbn (Below.refl _ _) _)) (fun W2 h2=>?_);have HX2:=zak h2;clear h2 HX q10 q11 b11 zk1 zp;have HR:Hid (P=RBO w G p pd (blkIdle S) (outL (bAbortL S 84148227))):=zak (by
    have hc:bacode S M=84148227:=by unfold bacode;rw[if_pos hro]
    rw[HP.out];unfold backS backO;rw[hc,if_pos (by decide),if_pos (by decide)]
    rfl)
   have HAB:=zak (zkn S A n1 c1 84148227 W2 HX2.out H0.out);have hwz:w.heap.size+2≤W2.heap.size:=by have:=HX2.out.k0.lt;show _+1 < _;exact this
   go_wp2_with fail
   refine HAB.out.mono ?_;rintro e w8 ⟨g8,hg8,rfl,hM8,hR8,ho8⟩;have HX8:=zak hR8;have zg8:w.heap.size+2≤g8:=Nat.le_trans hwz hg8;have HM8:=zak hM8;have k2:=hR8.k0;unfold outL_ outZ at k2;have zk2:=k2.lt;obtain⟨aF,aG,aH,aI,aJ⟩:=za9 k2;have aP:=k2.frozen;clear hM8 hR8 ho8 HAB;go_wp2_with fail
   obtain⟨F1,F2⟩:=zk9 (ks:=[]) (HX8.out.sub (by simp)) HRW.out HM8.out zg8 H0.out;rw[←HR.out] at F2;unfold putO outZ at F1 F2;dsimp only at F1 F2;exact zkf (O:=outZ) rfl rfl rfl F1 F2
 · have hdb:decide (S.ro < M.sq)=false:=decide_eq_false hro
   go_quiet (fail)
   by_cases hbl:M.bl=0
   · have hbe:(M.bl == 0)=true:=by simp[hbl]
     have HBL0:=zak hbl;clear hbl;go_upto_region 4 with fail
     refine zb6 (P:=fun W=>RN w G p (rbkL S pd A n1 c1) [⟨w.heap.size+1,118,outL_ none 0 0 outZ none 0 0⟩,⟨w.heap.size,30,msL_ M A3 m3 c3⟩] [⟨A,n1,c1,S.b⟩] W) (HX.out.step (zbn (Below.refl _ _) _)) (fun W2 h2=>?_);have HX2:=zak h2;clear h2 HX q10 q11 b11 zk1 zp;have HR:Hid (P=RBO w G p pd (blkIdle S) (outL (bAbortL S 84148226))):=zak (by
      have hc:bacode S M=84148226:=by unfold bacode;rw[if_neg hro,if_pos HBL0.out]
      rw[HP.out];unfold backS backO;rw[hc,if_pos (by decide),if_pos (by decide)]
      rfl)
     have HAB:=zak (zkn S A n1 c1 84148226 W2 HX2.out H0.out);have hwz:w.heap.size+2≤W2.heap.size:=by have:=HX2.out.k0.lt;show _+1 < _;exact this
     go_wp2_with fail
     refine HAB.out.mono ?_;rintro e w8 ⟨g8,hg8,rfl,hM8,hR8,ho8⟩;have HX8:=zak hR8;have zg8:w.heap.size+2≤g8:=Nat.le_trans hwz hg8;have HM8:=zak hM8;have k2:=hR8.k0;unfold outL_ outZ at k2;have zk2:=k2.lt;obtain⟨aF,aG,aH,aI,aJ⟩:=za9 k2;have aP:=k2.frozen;clear hM8 hR8 ho8 HAB;go_wp2_with fail
     obtain⟨F1,F2⟩:=zk9 (ks:=[]) (HX8.out.sub (by simp)) HRW.out HM8.out zg8 H0.out;rw[←HR.out] at F2;unfold putO outZ at F1 F2;dsimp only at F1 F2;exact zkf (O:=outZ) rfl rfl rfl F1 F2
   · have hbe:(M.bl == 0)=false:=by simp[hbl]
     have HBC:Hid (bacode S M=0):=zak (by unfold bacode;rw[if_neg hro,if_neg hbl]);clear hbl;obtain⟨h2,hh2⟩:∃h2:Nat,S.ha+M.sq=(h2:Int):=⟨(S.ha+M.sq).toNat,by have:=HHA.out;omega⟩;have hh3:h2≤tot:=by have:=HHA.out;omega
     have hwh:IntKind.i64.wrap (h2:Int)=(h2:Int):=by unfold IntKind.wrap;simp[IntKind.signed,IntKind.bits];omega
     have HH2:=zak hh2;go_upto_region 5 with fail
     refine zb6 (P:=fun W=>RN w G p (rbkL S pd A n1 c1) [⟨w.heap.size+1,118,outL_ none 0 0 outZ none 0 0⟩,⟨w.heap.size,30,msL_ M A3 m3 c3⟩] [⟨A,n1,c1,S.b⟩] W) (HX.out.step (zbn (Below.refl _ _) _)) (fun W2 h2w=>?_);have HX2:=zak h2w;have d9:W2.cell? ⟨p,9,none⟩=some (.int .i64 S.ha):=h2w.blk.cell 9 rfl;have d10:W2.cell? ⟨w.heap.size,10,none⟩=some (.int .i64 M.sq):=h2w.k1.cell 10 rfl;have f9:=h2w.blk.frozen 9;have z2:=h2w.lt;have z2k:w.heap.size < W2.heap.size:=h2w.k1.lt;have HX3:=zak ((h2w.drew.set 9 (.int .i64 (h2:Int))));clear h2w HX q10 q11 b11 zk1 zp;refine zaj (fun w'=>w'.cell? ⟨p,9,none⟩=some (.int .i64 S.ha)∧ w'.cell? ⟨w.heap.size,10,none⟩=some (.int .i64 M.sq)) [0,1,2,3,4,5,6,7,8,9] (by kernel_rfl) ?hS1 (fun hHeld=>?rest1)
     case hS1=>((try dsimp only);exact⟨d9,d10⟩)
     case' rest1=>skip
     refine tkT 0 ?_;try simp only[PqL,Act.put]
     refine tkT 1 ?_;try simp only[PqL,Act.put]
     refine tkT 2 ?_;try simp only[PqL,Act.put]
     refine tkT 3 ?_;try simp only[PqL,Act.put]
     refine tkT 4 ?_;try simp only[PqL,Act.put]
     refine tkT 5 ?_;try simp only[PqL,Act.put]
     refine tkT 6 ?_;try simp only[PqL,Act.put]
     refine tkT 7 ?_;try simp only[PqL,Act.put]
     refine tkT 8 ?_;try simp only[PqL,Act.put]
     refine tkT 9 ?_;try simp only[PqL,Act.put]
     refine zah (i:=10) (o:=_) rfl (by kernel_rfl) (by kernel_rfl) (fun K hK=>?_)
     go_simp
     refine hK.out _ _ ?rest13
     case' rest13=>(clear hK K;try simp only[PqL,Act.put])
     refine zai (by kernel_rfl) ?_ _
     repeat (clear hHeld)
     go_upto_region 6 with fail
     refine zb6 (P:=fun W=>RN w G p (rbkL { S with ha:=(h2:Int) } pd A n1 c1) [⟨w.heap.size+1,118,outL_ none 0 0 outZ none 0 0⟩,⟨w.heap.size,30,msL_ M A3 m3 c3⟩] [⟨A,n1,c1,S.b⟩] W) HX3.out (fun W3 h3w=>?_);clear HX2 HX3 d9 d10 f9 z2 z2k hh2 hwh;have e11:W3.cell? ⟨w.heap.size,11,none⟩=some (.int .i64 M.bl):=h3w.k1.cell 11 rfl;have e10:W3.cell? ⟨p,10,none⟩=some (.int .i64 S.ta):=h3w.blk.cell 10 rfl;have f10:=h3w.blk.frozen 10;have z3:=h3w.lt;have z3k:w.heap.size < W3.heap.size:=h3w.k1.lt;have HX4:Hid (RN w G p (rbkL { S with ha:=(h2:Int),ta:=M.bl } pd A n1 c1) [⟨w.heap.size+1,118,outL_ none 0 0 outZ none 0 0⟩,⟨w.heap.size,30,msL_ M A3 m3 c3⟩] [⟨A,n1,c1,S.b⟩] (W3.setCell ⟨p,10,none⟩ (.int .i64 M.bl))):=zak (h3w.set 10 (.int .i64 M.bl))
     clear h3w;go_upto_region 7 with fail
     refine zb6 (P:=fun W=>RN w G p (rbkL { S with ha:=(h2:Int),ta:=M.bl } pd A n1 c1) [⟨w.heap.size+1,118,outL_ none 0 0 outZ none 0 0⟩,⟨w.heap.size,30,msL_ M A3 m3 c3⟩] [⟨A,n1,c1,S.b⟩] W) HX4.out (fun W4 h4w=>?_);clear HX4 e11 e10 f10 z3 z3k;have HX4:=zak h4w;have e9:W4.cell? ⟨p,9,none⟩=some (.int .i64 (h2:Int)):=h4w.blk.cell 9 rfl;have z4:=h4w.lt;clear h4w;refine wp_region_held_drew (S:=(fun w'=>(∀qA:Addr,qA.block < (W4).heap.size→w'.cell? qA=(W4).cell? qA)∧ Below (W4).heap.size (W4) w')) (by kernel_rfl) ?hS15 (fun hHeld=>?rest15)
     case hS15=>exact kSn
     case' rest15=>skip
     iterate 5 (refine tkN ?_;try simp only[PqL,Act.put])
     refine kRd 5 (fun K hK=>?_)
     go_simp
     refine (zko (p:=p) _ A n1 c1 S.b (HX4.out.drew.blk.cell 6 rfl) HNN.out (by omega)).mono ?_;rintro e w5 ⟨rfl,hw5⟩;subst hw5;rw[←HT.out];dsimp only;refine hK.out _ _ ?hS23 (fun hHeld=>?rest23)
     case hS23=>exact kSn
     case' rest23=>(clear hK K;try simp only[PqL,Act.put])
     refine tkH 6 ?_;try simp only[PqL,Act.put]
     refine wpAnyH_done (by kernel_rfl) ?_ _;have hEnd:=hHeld.2
     repeat (clear hHeld)
     by_cases hlt:h2 < tot
     · have hlt3:(h2:Int) < (tot:Int):=by omega
       have hdl:decide ((h2:Int) < (tot:Int))=true:=decide_eq_true hlt3;have HR:Hid (P=RBO w G p pd (bgiveS { S with ha:=(h2:Int),ta:=M.bl }) (outL (bgiveL { S with ha:=(h2:Int),ta:=M.bl }))):=zak (by
        obtain⟨e1,e2⟩:=zlm HBC.out HH2.out (by rw[←HT.out];exact hlt3);rw[HP.out,e1,e2])
       have HGV:Hid (∀W,RN w G p (rbkL { S with ha:=(h2:Int),ta:=M.bl } pd A n1 c1) [⟨w.heap.size+1,118,outL_ none 0 0 outZ none 0 0⟩,⟨w.heap.size,30,msL_ M A3 m3 c3⟩] [⟨A,n1,c1,S.b⟩] W→Calls Tryz.prog 112 #[.pointer (some ⟨p,0,none⟩)] W (RBO W (fun g=>G g∧g < w.heap.size) p pd (bgiveS { S with ha:=(h2:Int),ta:=M.bl }) (outL (bgiveL { S with ha:=(h2:Int),ta:=M.bl })))):=zak (fun W hW=>zlj p { S with ha:=(h2:Int),ta:=M.bl } _ W (zll (S':={ S with ha:=(h2:Int),ta:=M.bl }) hW (List.mem_singleton.2 rfl) HGA.out) HBL.out ⟨by show 0≤(h2:Int);omega,by show (h2:Int)≤ (btotal S.b:Int);rw[←HT.out];omega⟩ ⟨hb0,hb1⟩)
       go_upto_region 8 with fail
       refine zb6 (P:=fun W=>RN w G p (rbkL { S with ha:=(h2:Int),ta:=M.bl } pd A n1 c1) [⟨w.heap.size+1,118,outL_ none 0 0 outZ none 0 0⟩,⟨w.heap.size,30,msL_ M A3 m3 c3⟩] [⟨A,n1,c1,S.b⟩] W) (HX4.out.step hEnd) (fun W6 h6w=>?_);have HX6:=zak h6w;have hwz:w.heap.size+2≤W6.heap.size:=by have:=h6w.k0.lt;show _+1 < _;exact this
       clear h6w HX4 e9 z4 hEnd;go_wp2_with fail
       refine (HGV.out _ HX6.out).mono ?_;rintro e w8 ⟨As,ns,cs,ds,A8,n8,c8,rfl,h1,h2',h4,h5⟩;have HF:=zak (zlk HX6.out h1 h2' h4 h5);have k2:=zhe HX6.out.k0 h5 (show w.heap.size+1≠p by omega);unfold outL_ outZ at k2;have zk2:=k2.lt;obtain⟨aF,aG,aH,aI,aJ⟩:=za9 k2;have aP:=k2.frozen;clear h1 h2' h4 h5;unfold outV;try dsimp only
       go_wp2_with fail
       obtain⟨F1,F2⟩:=HF.out;rw[←HR.out] at F2;unfold putO at F1 F2;try dsimp only at F1 F2
       exact zkf (O:=outL (bgiveL { S with ha:=(h2:Int),ta:=M.bl })) rfl rfl rfl F1 F2
     · have hlt3: ¬(h2:Int) < (tot:Int):=by omega
       have hdl:decide ((h2:Int) < (tot:Int))=false:=decide_eq_false hlt3;obtain⟨em,hem⟩:∃em:Nat,em=7 * tot - n1:=⟨_,rfl⟩;have hem7:em≤7:=by omega
       have hem1:(7:Int) * (tot:Int) - (n1:Int)=(em:Int):=by omega
       have hwr1:IntKind.i64.wrap (7 * (tot:Int))=7 * (tot:Int):=by unfold IntKind.wrap;simp[IntKind.signed,IntKind.bits];omega
       have hwr2:IntKind.i64.wrap (em:Int)=(em:Int):=by unfold IntKind.wrap;simp[IntKind.signed,IntKind.bits];omega
       have HR:Hid (P=RBO w G p pd { S with ha:=(h2:Int),ta:=M.bl,st:=6 } (outM (bendM (em:Int) (if S.sm=true then sum16L S.b else 0)))):=zak (by
        obtain⟨e1,e2⟩:=zln HBC.out HH2.out (by rw[←HT.out];exact hlt3);rw[HP.out,e1,e2,←HNN.out,←HT.out,hem1])
       clear hem;go_upto_region 9 with fail
       refine zb6 (P:=fun W=>RN w G p (rbkL { S with ha:=(h2:Int),ta:=M.bl } pd A n1 c1) [⟨w.heap.size+1,118,outL_ none 0 0 outZ none 0 0⟩,⟨w.heap.size,30,msL_ M A3 m3 c3⟩] [⟨A,n1,c1,S.b⟩] W) (HX4.out.step hEnd) (fun W6 h6w=>?_);have b1:W6.cell? ⟨p,1,none⟩=some (.int .i64 S.st):=h6w.blk.cell 1 rfl;have f1:=h6w.blk.frozen 1;have z6:=h6w.lt;have HX7:Hid (RN w G p (rbkL { S with ha:=(h2:Int),ta:=M.bl,st:=6 } pd A n1 c1) [⟨w.heap.size+1,118,outL_ none 0 0 outZ none 0 0⟩,⟨w.heap.size,30,msL_ M A3 m3 c3⟩] [⟨A,n1,c1,S.b⟩] (W6.setCell ⟨p,1,none⟩ (.int .i64 6))):=zak (h6w.set 1 (.int .i64 6));clear h6w HX4 e9 z4 hEnd
       go_upto_region 10 with fail
       refine zb6 (P:=fun W=>RN w G p (rbkL { S with ha:=(h2:Int),ta:=M.bl,st:=6 } pd A n1 c1) [⟨w.heap.size+1,118,outL_ none 0 0 outZ none 0 0⟩,⟨w.heap.size,30,msL_ M A3 m3 c3⟩] [⟨A,n1,c1,S.b⟩] W) HX7.out (fun W7 h7w=>?_);clear HX7 b1 f1 z6;have HX7:=zak h7w;have e6:W7.cell? ⟨p,6,none⟩=some (.slice A n1 c1):=h7w.blk.cell 6 rfl;have z7:=h7w.lt;have hwz7:w.heap.size+2≤W7.heap.size:=by have:=h7w.k0.lt;show _+1 < _;exact this
       have HG7:=zak (h7w.drew.newz (N:=W7.heap.size) rfl 30 (msL_ (bendM (em:Int) 0) none 0 0));unfold msL_ bendM at HG7;dsimp only at HG7;clear h7w;go_cut [5] (fun s5 wx=> ∃gk,s5= .pointer (some ⟨gk,0,none⟩)∧ w.heap.size+2≤gk∧Hid (RN w G p (rbkL { S with ha:=(h2:Int),ta:=M.bl,st:=6 } pd A n1 c1) (⟨gk,30,msL_ (bendM (em:Int) 0) none 0 0⟩ :: [⟨w.heap.size+1,118,outL_ none 0 0 outZ none 0 0⟩,⟨w.heap.size,30,msL_ M A3 m3 c3⟩]) [⟨A,n1,c1,S.b⟩] wx))
       case first=>
        refine wp_region_held_drew (S:=(fun w'=>(∀qA:Addr,qA.block < (W7).heap.size→w'.cell? qA=(W7).cell? qA)∧ Below (W7).heap.size (W7) w')) (by kernel_rfl) ?hS26 (fun hHeld=>?rest26)
        case hS26=>exact kSn
        case' rest26=>skip
        refine tkH 0 ?_;try simp only[PqL,Act.put]
        refine tkH 3 ?_;try simp only[PqL,Act.put]
        refine tkH 4 ?_;try simp only[PqL,Act.put]
        refine tkH 5 ?_;try simp only[PqL,Act.put]
        refine tkH 6 ?_;try simp only[PqL,Act.put]
        refine tkH 7 ?_;try simp only[PqL,Act.put]
        refine wpAnyH_ready (rs:=[1,10]) (by kernel_rfl) (by simp) (AllReadyH.cons (o:=_) rfl (fun K hK=>?_) (AllReadyH.cons (o:=_) rfl (fun K hK=>?_) .nil))
        · go_simp
          refine (zko (p:=p) _ A n1 c1 S.b (HX7.out.drew.blk.cell 6 rfl) HNN.out (by omega)).mono ?_;rintro e w8 ⟨rfl,hw8⟩;subst hw8;rw[←HT.out];dsimp only;refine hK.out _ _ ?hS34 (fun hHeld=>?rest34)
          case hS34=>exact kSn
          case' rest34=>(clear hK K;try simp only[PqL,Act.put])
          refine tkH 2 ?_;try simp only[PqL,Act.put]
          refine tkH 8 ?_;try simp only[PqL,Act.put]
          refine tkH 9 ?_;try simp only[PqL,Act.put]
          refine kRd 10 (fun K hK=>?_)
          go_simp
          refine hK.out _ _ ?hS40 (fun hHeld=>?rest40)
          case hS40=>exact kSn
          case' rest40=>(clear hK K;try simp only[PqL,Act.put])
          refine kRd 11 (fun K hK=>?_)
          go_simp
          refine hK.out _ _ ?hS43 (fun hHeld=>?rest43)
          case hS43=>exact kSn
          case' rest43=>(clear hK K;try simp only[PqL,Act.put])
          refine wpAnyH_done (by kernel_rfl) ?_ _;have hEnd:=hHeld.2
          repeat (clear hHeld)
          go_wp2_with fail
          go_meet
          exact⟨W7.heap.size,rfl,hwz7,HG7⟩
        · go_simp
          refine hK.out _ _ ?hS45 (fun hHeld=>?rest45)
          case hS45=>exact kSn
          case' rest45=>(clear hK K;try simp only[PqL,Act.put])
          refine kRd 1 (fun K hK=>?_)
          go_simp
          refine (zko (p:=p) _ A n1 c1 S.b (by first | exact (HX7.out.drew.alloc _).blk.cell 6 rfl | exact (HX7.out.alloc _).drew.blk.cell 6 rfl | exact (HX7.out.alloc _).blk.cell 6 rfl) HNN.out (by omega)).mono ?_;rintro e w8 ⟨rfl,hw8⟩;subst hw8;rw[←HT.out];dsimp only;refine hK.out _ _ ?hS48 (fun hHeld=>?rest48)
          case hS48=>exact kSn
          case' rest48=>(clear hK K;try simp only[PqL,Act.put])
          refine tkH 2 ?_;try simp only[PqL,Act.put]
          refine tkH 8 ?_;try simp only[PqL,Act.put]
          refine tkH 9 ?_;try simp only[PqL,Act.put]
          refine kRd 11 (fun K hK=>?_)
          go_simp
          refine hK.out _ _ ?hS54 (fun hHeld=>?rest54)
          case hS54=>exact kSn
          case' rest54=>(clear hK K;try simp only[PqL,Act.put])
          refine wpAnyH_done (by kernel_rfl) ?_ _;have hEnd:=hHeld.2
          repeat (clear hHeld)
          go_wp2_with fail
          go_meet
          exact⟨W7.heap.size,rfl,hwz7,HG7⟩
       case rest=>
        obtain⟨gk,rfl,hgk,HX8⟩:=hcut;clear HX7 e6 z7 HG7;have e7:wc.cell? ⟨p,7,none⟩=some (.bool S.sm):=HX8.out.blk.cell 7 rfl;have z8:=HX8.out.lt;have hgp:gk≠p:=(HX8.out.keep ⟨gk,30,msL_ (bendM (em:Int) 0) none 0 0⟩ (by simp)).1;rcases Bool.eq_false_or_eq_true S.sm with hsm | hsm
        · rw[hsm] at e7;have HR2:Hid (P=RBO w G p pd { S with ha:=(h2:Int),ta:=M.bl,st:=6 } (outM (bendM (em:Int) (sum16L S.b)))):=zak (by rw[HR.out,if_pos hsm]);clear hsm;have e6:wc.cell? ⟨p,6,none⟩=some (.slice A n1 c1):=HX8.out.blk.cell 6 rfl;have HSM:=zak (zlf A n1 c1 S.b wc HNN.out (by omega) (HX8.out.sl (List.mem_singleton.2 rfl)));have ka:Blk wc gk 30 #[.int .i64 20,.int .i64 0,.int .i64 0,.bool false,.bool false,.bool false,.bool false,.int .u32 0,.int .u32 0,.slice none 0 0,.int .i64 0,.int .i64 0,.int .i64 (em:Int),.int .u16 0]:=HX8.out.k0;have zka:=ka.lt;have HPT:Hid (RN w G p (rbkL { S with ha:=(h2:Int),ta:=M.bl,st:=6 } pd A n1 c1) (⟨gk,30,msL_ (bendM (em:Int) (sum16L S.b)) none 0 0⟩ :: [⟨w.heap.size+1,118,outL_ none 0 0 outZ none 0 0⟩,⟨w.heap.size,30,msL_ M A3 m3 c3⟩]) [⟨A,n1,c1,S.b⟩] (wc.setCell ⟨gk,13,none⟩ (.int .u16 (sum16L S.b:Nat)))):=zak (HX8.out.put (by show ¬gk < w.heap.size;omega) (by intro y hy;simp at hy;rcases hy with rfl | rfl<;>(simp only;omega)) (fun r hr ad e=>by simp at hr;subst hr;have:=HRG.out ad e;show ad.block≠gk;omega) 13 _)
          obtain⟨dl,dm,dn,dp,dq,dr,dt,du,dw,dx,cU,cV,cW,cX⟩:=zbd ka;have ex:=ka.frozen;go_wp2_with fail
          refine HSM.out.mono ?_;rintro e w9 ⟨rfl,hw9⟩;subst hw9;go_upto_region 13 with fail
          refine zb6 (P:=fun W=>RN w G p (rbkL { S with ha:=(h2:Int),ta:=M.bl,st:=6 } pd A n1 c1) (⟨gk,30,msL_ (bendM (em:Int) (sum16L S.b)) none 0 0⟩ :: [⟨w.heap.size+1,118,outL_ none 0 0 outZ none 0 0⟩,⟨w.heap.size,30,msL_ M A3 m3 c3⟩]) [⟨A,n1,c1,S.b⟩] W) HPT.out (fun W9 h9w=>?_);clear dl dm dn dp dq dr dt du dw dx cU cV cW cX ex;have HX9:=zak h9w;clear h9w HX8 e7 e6 z8 ka zka HPT HSM;have hwz:w.heap.size+2≤W9.heap.size:=by have:=HX9.out.k1.lt;show _+1 < _;exact this
          have kk:=HX9.out.k1;have ka:Blk W9 gk 30 #[.int .i64 20,.int .i64 0,.int .i64 0,.bool false,.bool false,.bool false,.bool false,.int .u32 0,.int .u32 0,.slice none 0 0,.int .i64 0,.int .i64 0,.int .i64 (em:Int),.int .u16 (sum16L S.b:Nat)]:=HX9.out.k0;unfold outL_ outZ at kk;have zka:=ka.lt;have zkk:=kk.lt;obtain⟨dl,dm,dn,dp,dq,dr,dt,du,dw,dx,cU,cV,cW,cX⟩:=zbd ka;have ex:=ka.frozen;obtain⟨aK,aL,aM,aN,aO⟩:=za9 kk;have aQ:=kk.frozen;go_wp2_with fail
          obtain⟨F1,F2⟩:=zku (S:={ S with ha:=(h2:Int),ta:=M.bl,st:=6 }) (ks:=[]) (M:=bendM (em:Int) (sum16L S.b)) (N:=W9.heap.size) (HX9.out.sub (by simp)) (List.mem_singleton.2 rfl) (fun r hr=>by simp at hr;subst hr;exact HRW.out) rfl hwz rfl;rw[←HR2.out] at F2;unfold putO outZ msV bendM at F1 F2;dsimp only at F1 F2;exact zkf (O:=outZ) rfl rfl rfl F1 F2
        · rw[hsm] at e7;have HR2:Hid (P=RBO w G p pd { S with ha:=(h2:Int),ta:=M.bl,st:=6 } (outM (bendM (em:Int) 0))):=zak (by rw[HR.out,if_neg (by rw[hsm];simp)]);clear hsm;go_upto_region 13 with fail
          refine zb6 (P:=fun W=>RN w G p (rbkL { S with ha:=(h2:Int),ta:=M.bl,st:=6 } pd A n1 c1) (⟨gk,30,msL_ (bendM (em:Int) 0) none 0 0⟩ :: [⟨w.heap.size+1,118,outL_ none 0 0 outZ none 0 0⟩,⟨w.heap.size,30,msL_ M A3 m3 c3⟩]) [⟨A,n1,c1,S.b⟩] W) HX8.out (fun W9 h9w=>?_);have HX9:=zak h9w;clear h9w HX8 e7 z8;have hwz:w.heap.size+2≤W9.heap.size:=by have:=HX9.out.k1.lt;show _+1 < _;exact this
          have kk:=HX9.out.k1;have ka:Blk W9 gk 30 #[.int .i64 20,.int .i64 0,.int .i64 0,.bool false,.bool false,.bool false,.bool false,.int .u32 0,.int .u32 0,.slice none 0 0,.int .i64 0,.int .i64 0,.int .i64 (em:Int),.int .u16 0]:=HX9.out.k0;unfold outL_ outZ at kk;have zka:=ka.lt;have zkk:=kk.lt;obtain⟨dl,dm,dn,dp,dq,dr,dt,du,dw,dx,cU,cV,cW,cX⟩:=zbd ka;have ex:=ka.frozen;obtain⟨aK,aL,aM,aN,aO⟩:=za9 kk;have aQ:=kk.frozen;go_wp2_with fail
          obtain⟨F1,F2⟩:=zku (S:={ S with ha:=(h2:Int),ta:=M.bl,st:=6 }) (ks:=[]) (M:=bendM (em:Int) 0) (N:=W9.heap.size) (HX9.out.sub (by simp)) (List.mem_singleton.2 rfl) (fun r hr=>by simp at hr;subst hr;exact HRW.out) rfl hwz rfl;rw[←HR2.out] at F2;unfold putO outZ msV bendM at F1 F2;dsimp only at F1 F2;exact zkf (O:=outZ) rfl rfl rfl F1 F2
end
end
end Go.Proofs.YtkkpjbjmhaecjaaGreat
