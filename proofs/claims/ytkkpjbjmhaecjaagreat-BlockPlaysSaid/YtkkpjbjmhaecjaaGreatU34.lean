/- None -/
import Derived.Test.YtkkpjbjmhaecjaaGreatU33
namespace Go.Proofs.YtkkpjbjmhaecjaaGreat
set_option linter.all false
set_option maxRecDepth 100000
set_option maxHeartbeats 40000000
section
open Go.RowKit Go.Maps
def RBS (w:World) (G:Nat→Prop) (p pd:Nat) (S:BlkS):Prop:= ∃r,(S.st=5→r=S.ro)∧ RBV w G p pd { S with ro:=r }
def RBOS (w:World) (G:Nat→Prop) (p pd:Nat) (S':BlkS) (O:SegO) (e:Ending) (w':World):Prop:=
 ∃As ns cs ds A n c,e= .returned (.agg (outV As ns cs O A n c))∧ OwnMr w' (fun g=>w.heap.size≤g) As ns cs O.ms ds∧zbs w' w.heap.size A n c O.b∧RBS w' (fun g=>G g∨w.heap.size≤g) p pd S'∧zbv (fun g=>g=p) w w'
theorem zlp {w w':World}{G:Nat→Prop}{p pd:Nat}{T S':BlkS}{O:SegO}{e:Ending}(h:RBO w G p pd T O e w')(hT:T= { S' with ro:=T.ro })(h5:S'.st=5→T.ro=S'.ro):RBOS w G p pd S' O e w':=by
 obtain⟨As,ns,cs,ds,A,n,c,rfl,h1,h2,h3,h4⟩:=h;exact⟨As,ns,cs,ds,A,n,c,rfl,h1,h2,⟨T.ro,h5,by rw[←hT];exact h3⟩,h4⟩
theorem RBS.keep {w w':World}{G H:Nat→Prop}{p pd:Nat}{S:BlkS}(h:RBS w G p pd S)(hk:∀q,q=p∨G q→q < w.heap.size→w'.heap[q]? =w.heap[q]?)(hz:w.heap.size≤w'.heap.size)(hH:∀q,q < w.heap.size→G q→H q):RBS w' H p pd S:=by
 obtain⟨r,hr,h⟩:=h;exact⟨r,hr,h.keep hz hk hH⟩
theorem RBS.lt {w:World}{G:Nat→Prop}{p pd:Nat}{S:BlkS}(h:RBS w G p pd S):p < w.heap.size:=by
 obtain⟨r,_,A,n,c,hB,_⟩:=h;exact hB.lt
section
variable {F:Nat→Prop} {pd n cl cv:Nat} {Al Av:Option Addr} {L:List Ent} {V:List (List UInt8)} {ds es:List (Option Addr×Nat)}
theorem zlq (p:Nat)(S:BlkS)(G:Nat→Prop)(M:Ms)(A3:Option Addr)(m3 c3:Nat)(w:World)(hk:M.kind=1)(hS:RBV w G p pd S) :
 Calls Tryz.prog 48 #[.pointer (some ⟨p,0,none⟩),.agg (msV M A3 m3 c3)] w (RBO w G p pd (blkIdle S) outZ):=by
 have hS0:=hS;obtain⟨A,n1,c1,hR⟩:=hS.rn;obtain⟨P,hP⟩:∃P,P=RBO w G p pd (blkIdle S) outZ:=⟨_,rfl⟩;rw[←hP];have HP:=zak hP;have hz:=hR.lt;have HRW:Hid (∀ad,A=some ad→ad.block≠w.heap.size+1):=zak (fun ad e=>by have:=((hR.rows _ (List.mem_singleton.2 rfl)).2.2.2 ad e).2.1;omega);have HGA:Hid (∀ad,A=some ad→G ad.block∧ad.block < w.heap.size):=zak (fun ad e=>by
  obtain⟨A',n',c',hB',h1,h2,h3,h4⟩:=hS0;have e1:=hB'.cell 6 rfl;have e2:=hR.blk.cell 6 rfl;rw[e1] at e2;injection e2 with e2
  injection e2 with e2
  subst e2;exact⟨(h4 ad e).1,(h4 ad e).2.1⟩)
 have t1:(M.kind == 1)=true:=by simp[hk]
 have t6:(M.kind == 6)=false:=by simp[hk]
 have t21:(M.kind == 21)=false:=by simp[hk]
 have t7:(M.kind == 7)=false:=by simp[hk]
 have t8:(M.kind == 8)=false:=by simp[hk]
 have t9:(M.kind == 9)=false:=by simp[hk]
 have t10:(M.kind == 10)=false:=by simp[hk]
 have t11:(M.kind == 11)=false:=by simp[hk]
 have HH:=zak (hR.new2 rfl 30 118 (msL_ M A3 m3 c3) (outL_ none 0 0 outZ none 0 0));clear hP hS hS0 hR hk;unfold msL_ outL_ outZ at HH;unfold msV;go_enter Tryz.func48,Tryz.ntmps48
 go_upto_region 1 with fail
 refine zb6 (P:=fun W=>RN w G p (rbkL S pd A n1 c1) [⟨w.heap.size+1,118,outL_ none 0 0 outZ none 0 0⟩,⟨w.heap.size,30,msL_ M A3 m3 c3⟩] [⟨A,n1,c1,S.b⟩] W) HH.out (fun W hW=>?_);clear HH;have HX:=zak hW;have k1:=hW.k1;have bb:=hW.blk;have hne0:w.heap.size≠p:=by omega
 have hne1:w.heap.size+1≠p:=by omega
 have HX4:Hid (RN w G p (rbkL (blkIdle S) pd A n1 c1) [⟨w.heap.size+1,118,outL_ none 0 0 outZ none 0 0⟩,⟨w.heap.size,30,msL_ M A3 m3 c3⟩] [⟨A,n1,c1,S.b⟩] (W.setCell ⟨p,1,none⟩ (.int .i64 0))):=zak (hW.set 1 (.int .i64 0));clear hW;unfold msL_ at k1;unfold rbkL at bb;have zk1:=k1.lt;have zp:=bb.lt;obtain⟨am,ai,aj,an,ah,ak,al,ao,ap,aq,aa,ab,ac,ae⟩:=zbd k1;have aD:=k1.frozen;obtain⟨ar,au,av,aw,ax,ay,az,aA,aB,aC,af,ag⟩:=zbc bb;have aE:=bb.frozen;rcases Bool.eq_false_or_eq_true (S.st == 3) with u3 | u3
 · go_upto_region 4 with fail
   refine zb6 (P:=fun W=>RN w G p (rbkL (blkIdle S) pd A n1 c1) [⟨w.heap.size+1,118,outL_ none 0 0 outZ none 0 0⟩,⟨w.heap.size,30,msL_ M A3 m3 c3⟩] [⟨A,n1,c1,S.b⟩] W) HX4.out (fun W4 h4=>?_);clear am ai aj an ah ak al ao ap aq aa ab ac ae aD;clear ar au av aw ax ay az aA aB aC af ag aE;clear HX HX4 k1 bb zk1 zp;have HX4:=zak h4;have k1:=h4.k1;have kk:=h4.k0;have bb:=h4.blk;have hwz:w.heap.size+2≤W4.heap.size:=by have:=h4.k0.lt;show _+1 < _;exact this
   clear h4;unfold msL_ at k1;unfold outL_ outZ at kk;unfold rbkL blkIdle at bb;try dsimp only at bb
   have zk1:=k1.lt;have zkk:=kk.lt;have zp:=bb.lt;obtain⟨am,ai,aj,an,ah,ak,al,ao,ap,aq,aa,ab,ac,ae⟩:=zbd k1;have aD:=k1.frozen;obtain⟨aK,aL,aM,aN,aO⟩:=za9 kk;have aQ:=kk.frozen;obtain⟨ar,au,av,aw,ax,ay,az,aA,aB,aC,af,ag⟩:=zbc bb;have aE:=bb.frozen;have HF:Hid (Blk (putO W4 (w.heap.size+1) none 0 0 outZ none 0 0) (w.heap.size+1) 118 (outV none 0 0 outZ none 0 0)∧ RBO w G p pd (blkIdle S) outZ (.returned (.agg (outV none 0 0 outZ none 0 0))) (putO W4 (w.heap.size+1) none 0 0 outZ none 0 0)):=zak (zkl (S:=blkIdle S) (O:=outZ) (ks:=[]) (HX4.out.sub (by simp)) (List.mem_singleton.2 rfl) (Nat.le_succ _) (fun r hr=>by simp at hr;subst hr;exact HRW.out) (zb2.nil _ _) (zbs.nil _ _) (FIn.nil _))
   go_wp2_with fail
   obtain⟨F1,F2⟩:=HF.out;rw[←HP.out] at F2;unfold putO outZ at F1 F2;dsimp only at F1 F2;exact zkf (O:=outZ) rfl rfl rfl F1 F2
 · go_upto_region 4 with fail
   refine zb6 (P:=fun W=>RN w G p (rbkL (blkIdle S) pd A n1 c1) [⟨w.heap.size+1,118,outL_ none 0 0 outZ none 0 0⟩,⟨w.heap.size,30,msL_ M A3 m3 c3⟩] [⟨A,n1,c1,S.b⟩] W) HX4.out (fun W4 h4=>?_);clear am ai aj an ah ak al ao ap aq aa ab ac ae aD;clear ar au av aw ax ay az aA aB aC af ag aE;clear HX HX4 k1 bb zk1 zp;have HX4:=zak h4;have k1:=h4.k1;have kk:=h4.k0;have bb:=h4.blk;have hwz:w.heap.size+2≤W4.heap.size:=by have:=h4.k0.lt;show _+1 < _;exact this
   clear h4;unfold msL_ at k1;unfold outL_ outZ at kk;unfold rbkL blkIdle at bb;try dsimp only at bb
   have zk1:=k1.lt;have zkk:=kk.lt;have zp:=bb.lt;obtain⟨am,ai,aj,an,ah,ak,al,ao,ap,aq,aa,ab,ac,ae⟩:=zbd k1;have aD:=k1.frozen;obtain⟨aK,aL,aM,aN,aO⟩:=za9 kk;have aQ:=kk.frozen;obtain⟨ar,au,av,aw,ax,ay,az,aA,aB,aC,af,ag⟩:=zbc bb;have aE:=bb.frozen;have HF:Hid (Blk (putO W4 (w.heap.size+1) none 0 0 outZ none 0 0) (w.heap.size+1) 118 (outV none 0 0 outZ none 0 0)∧ RBO w G p pd (blkIdle S) outZ (.returned (.agg (outV none 0 0 outZ none 0 0))) (putO W4 (w.heap.size+1) none 0 0 outZ none 0 0)):=zak (zkl (S:=blkIdle S) (O:=outZ) (ks:=[]) (HX4.out.sub (by simp)) (List.mem_singleton.2 rfl) (Nat.le_succ _) (fun r hr=>by simp at hr;subst hr;exact HRW.out) (zb2.nil _ _) (zbs.nil _ _) (FIn.nil _))
   go_wp2_with fail
   obtain⟨F1,F2⟩:=HF.out;rw[←HP.out] at F2;unfold putO outZ at F1 F2;dsimp only at F1 F2;exact zkf (O:=outZ) rfl rfl rfl F1 F2
theorem zlr (p:Nat)(S:BlkS)(G:Nat→Prop)(M:Ms)(A3:Option Addr)(m3 c3:Nat)(w:World)(hD:DB 106 w F pd Al n cl Av cv L V ds es)(hn:n≤1000)(hv:∀v ∈ V,v.length≤256)(hp: ¬F p)(hMO:BMOk M)(hk:M.kind=6)(hS:RBV w G p pd S) :
 Calls Tryz.prog 48 #[.pointer (some ⟨p,0,none⟩),.agg (msV M A3 m3 c3)] w (RBO w G p pd (bdownS L (blkIdle S) M) (bdownO L M)):=by
 have hS0:=hS;obtain⟨A,n1,c1,hR⟩:=hS.rn;obtain⟨P,hP⟩:∃P,P=RBO w G p pd (bdownS L (blkIdle S) M) (bdownO L M):=⟨_,rfl⟩;rw[←hP];have HP:=zak hP;have hz:=hR.lt;have HRW:Hid (∀ad,A=some ad→ad.block≠w.heap.size+1):=zak (fun ad e=>by have:=((hR.rows _ (List.mem_singleton.2 rfl)).2.2.2 ad e).2.1;omega);have HGA:Hid (∀ad,A=some ad→G ad.block∧ad.block < w.heap.size):=zak (fun ad e=>by
  obtain⟨A',n',c',hB',h1,h2,h3,h4⟩:=hS0;have e1:=hB'.cell 6 rfl;have e2:=hR.blk.cell 6 rfl;rw[e1] at e2;injection e2 with e2
  injection e2 with e2
  subst e2;exact⟨(h4 ad e).1,(h4 ad e).2.1⟩)
 have t1:(M.kind == 1)=false:=by simp[hk]
 have t6:(M.kind == 6)=true:=by simp[hk]
 have t21:(M.kind == 21)=false:=by simp[hk]
 have t7:(M.kind == 7)=false:=by simp[hk]
 have t8:(M.kind == 8)=false:=by simp[hk]
 have t9:(M.kind == 9)=false:=by simp[hk]
 have t10:(M.kind == 10)=false:=by simp[hk]
 have t11:(M.kind == 11)=false:=by simp[hk]
 have HD:=zak (fun W (h:zbv (fun q=>q=p) w W)=> hD.keep (w':=W) (fun g hg hlt=>h.block g hlt (fun e=>hp (e ▸ hg))));have HDA:=zak (And.intro hn (And.intro hv hMO));have HH:=zak (hR.new2 rfl 30 118 (msL_ M A3 m3 c3) (outL_ none 0 0 outZ none 0 0));clear hP hS hS0 hR hk hD hn hv hMO;unfold msL_ outL_ outZ at HH;unfold msV;go_enter Tryz.func48,Tryz.ntmps48
 go_upto_region 1 with fail
 refine zb6 (P:=fun W=>RN w G p (rbkL S pd A n1 c1) [⟨w.heap.size+1,118,outL_ none 0 0 outZ none 0 0⟩,⟨w.heap.size,30,msL_ M A3 m3 c3⟩] [⟨A,n1,c1,S.b⟩] W) HH.out (fun W hW=>?_);clear HH;have HX:=zak hW;have k1:=hW.k1;have bb:=hW.blk;have hne0:w.heap.size≠p:=by omega
 have hne1:w.heap.size+1≠p:=by omega
 have HX4:Hid (RN w G p (rbkL (blkIdle S) pd A n1 c1) [⟨w.heap.size+1,118,outL_ none 0 0 outZ none 0 0⟩,⟨w.heap.size,30,msL_ M A3 m3 c3⟩] [⟨A,n1,c1,S.b⟩] (W.setCell ⟨p,1,none⟩ (.int .i64 0))):=zak (hW.set 1 (.int .i64 0));clear hW;unfold msL_ at k1;unfold rbkL at bb;have zk1:=k1.lt;have zp:=bb.lt;obtain⟨am,ai,aj,an,ah,ak,al,ao,ap,aq,aa,ab,ac,ae⟩:=zbd k1;have aD:=k1.frozen;obtain⟨ar,au,av,aw,ax,ay,az,aA,aB,aC,af,ag⟩:=zbc bb;have aE:=bb.frozen;rcases Bool.eq_false_or_eq_true (S.st == 3) with u3 | u3
 · go_upto_region 4 with fail
   refine zb6 (P:=fun W=>RN w G p (rbkL (blkIdle S) pd A n1 c1) [⟨w.heap.size+1,118,outL_ none 0 0 outZ none 0 0⟩,⟨w.heap.size,30,msL_ M A3 m3 c3⟩] [⟨A,n1,c1,S.b⟩] W) HX4.out (fun W4 h4=>?_);clear am ai aj an ah ak al ao ap aq aa ab ac ae aD;clear ar au av aw ax ay az aA aB aC af ag aE;clear HX HX4 k1 bb zk1 zp;have HX4:=zak h4;have k1:=h4.k1;have kk:=h4.k0;have bb:=h4.blk;have hwz:w.heap.size+2≤W4.heap.size:=by have:=h4.k0.lt;show _+1 < _;exact this
   clear h4;unfold msL_ at k1;unfold outL_ outZ at kk;unfold rbkL blkIdle at bb;try dsimp only at bb
   have zk1:=k1.lt;have zkk:=kk.lt;have zp:=bb.lt;obtain⟨am,ai,aj,an,ah,ak,al,ao,ap,aq,aa,ab,ac,ae⟩:=zbd k1;have aD:=k1.frozen;obtain⟨aK,aL,aM,aN,aO⟩:=za9 kk;have aQ:=kk.frozen;obtain⟨ar,au,av,aw,ax,ay,az,aA,aB,aC,af,ag⟩:=zbc bb;have aE:=bb.frozen;have HCL:=zak (zkv (L:=L) (V:=V) p (blkIdle S) _ M A3 m3 c3 W4 (HD.out W4 HX4.out.only) HDA.out.1 hp (zll (S':=blkIdle S) HX4.out (List.mem_singleton.2 rfl) HGA.out) HDA.out.2.2.size);go_wp2_with fail
   refine HCL.out.mono ?_;rintro e w8 ⟨As,ns,cs,ds8,A8,n8,c8,rfl,h1,h2',h4,h5⟩;have HF:=zak (zlk HX4.out h1 h2' h4 h5);have k2:=zhe HX4.out.k0 h5 hne1;unfold outL_ outZ at k2;have zk2:=k2.lt;clear aK aL aM aN aO aQ;clear ar au av aw ax ay az aA aB aC af ag aE;clear am ai aj an ah ak al ao ap aq aa ab ac ae aD;obtain⟨aF,aG,aH,aI,aJ⟩:=za9 k2;have aP:=k2.frozen;clear h1 h2' h4 h5;unfold outV;try dsimp only
   go_wp2_with fail
   obtain⟨F1,F2⟩:=HF.out;rw[←HP.out] at F2;unfold putO at F1 F2;try dsimp only at F1 F2
   exact zkf (O:=bdownO L M) rfl rfl rfl F1 F2
 · go_upto_region 4 with fail
   refine zb6 (P:=fun W=>RN w G p (rbkL (blkIdle S) pd A n1 c1) [⟨w.heap.size+1,118,outL_ none 0 0 outZ none 0 0⟩,⟨w.heap.size,30,msL_ M A3 m3 c3⟩] [⟨A,n1,c1,S.b⟩] W) HX4.out (fun W4 h4=>?_);clear am ai aj an ah ak al ao ap aq aa ab ac ae aD;clear ar au av aw ax ay az aA aB aC af ag aE;clear HX HX4 k1 bb zk1 zp;have HX4:=zak h4;have k1:=h4.k1;have kk:=h4.k0;have bb:=h4.blk;have hwz:w.heap.size+2≤W4.heap.size:=by have:=h4.k0.lt;show _+1 < _;exact this
   clear h4;unfold msL_ at k1;unfold outL_ outZ at kk;unfold rbkL blkIdle at bb;try dsimp only at bb
   have zk1:=k1.lt;have zkk:=kk.lt;have zp:=bb.lt;obtain⟨am,ai,aj,an,ah,ak,al,ao,ap,aq,aa,ab,ac,ae⟩:=zbd k1;have aD:=k1.frozen;obtain⟨aK,aL,aM,aN,aO⟩:=za9 kk;have aQ:=kk.frozen;obtain⟨ar,au,av,aw,ax,ay,az,aA,aB,aC,af,ag⟩:=zbc bb;have aE:=bb.frozen;have HCL:=zak (zkv (L:=L) (V:=V) p (blkIdle S) _ M A3 m3 c3 W4 (HD.out W4 HX4.out.only) HDA.out.1 hp (zll (S':=blkIdle S) HX4.out (List.mem_singleton.2 rfl) HGA.out) HDA.out.2.2.size);go_wp2_with fail
   refine HCL.out.mono ?_;rintro e w8 ⟨As,ns,cs,ds8,A8,n8,c8,rfl,h1,h2',h4,h5⟩;have HF:=zak (zlk HX4.out h1 h2' h4 h5);have k2:=zhe HX4.out.k0 h5 hne1;unfold outL_ outZ at k2;have zk2:=k2.lt;clear aK aL aM aN aO aQ;clear ar au av aw ax ay az aA aB aC af ag aE;clear am ai aj an ah ak al ao ap aq aa ab ac ae aD;obtain⟨aF,aG,aH,aI,aJ⟩:=za9 k2;have aP:=k2.frozen;clear h1 h2' h4 h5;unfold outV;try dsimp only
   go_wp2_with fail
   obtain⟨F1,F2⟩:=HF.out;rw[←HP.out] at F2;unfold putO at F1 F2;try dsimp only at F1 F2
   exact zkf (O:=bdownO L M) rfl rfl rfl F1 F2
theorem zls (p:Nat)(S:BlkS)(G:Nat→Prop)(M:Ms)(A3:Option Addr)(m3 c3:Nat)(w:World)(hD:DB 106 w F pd Al n cl Av cv L V ds es)(hn:n≤1000)(hv:∀v ∈ V,v.length≤256)(hp: ¬F p)(hMO:BMOk M)(hk:M.kind=8)(hS:RBV w G p pd S) :
 Calls Tryz.prog 48 #[.pointer (some ⟨p,0,none⟩),.agg (msV M A3 m3 c3)] w (RBO w G p pd (rbUpS L V (blkIdle S) M) (bupO L V M)):=by
 have hS0:=hS;obtain⟨A,n1,c1,hR⟩:=hS.rn;obtain⟨P,hP⟩:∃P,P=RBO w G p pd (rbUpS L V (blkIdle S) M) (bupO L V M):=⟨_,rfl⟩;rw[←hP];have HP:=zak hP;have hz:=hR.lt;have HRW:Hid (∀ad,A=some ad→ad.block≠w.heap.size+1):=zak (fun ad e=>by have:=((hR.rows _ (List.mem_singleton.2 rfl)).2.2.2 ad e).2.1;omega);have HGA:Hid (∀ad,A=some ad→G ad.block∧ad.block < w.heap.size):=zak (fun ad e=>by
  obtain⟨A',n',c',hB',h1,h2,h3,h4⟩:=hS0;have e1:=hB'.cell 6 rfl;have e2:=hR.blk.cell 6 rfl;rw[e1] at e2;injection e2 with e2
  injection e2 with e2
  subst e2;exact⟨(h4 ad e).1,(h4 ad e).2.1⟩)
 have t1:(M.kind == 1)=false:=by simp[hk]
 have t6:(M.kind == 6)=false:=by simp[hk]
 have t21:(M.kind == 21)=false:=by simp[hk]
 have t7:(M.kind == 7)=false:=by simp[hk]
 have t8:(M.kind == 8)=true:=by simp[hk]
 have t9:(M.kind == 9)=false:=by simp[hk]
 have t10:(M.kind == 10)=false:=by simp[hk]
 have t11:(M.kind == 11)=false:=by simp[hk]
 have HD:=zak (fun W (h:zbv (fun q=>q=p) w W)=> hD.keep (w':=W) (fun g hg hlt=>h.block g hlt (fun e=>hp (e ▸ hg))));have HDA:=zak (And.intro hn (And.intro hv hMO));have HH:=zak (hR.new2 rfl 30 118 (msL_ M A3 m3 c3) (outL_ none 0 0 outZ none 0 0));clear hP hS hS0 hR hk hD hn hv hMO;unfold msL_ outL_ outZ at HH;unfold msV;go_enter Tryz.func48,Tryz.ntmps48
 go_upto_region 1 with fail
 refine zb6 (P:=fun W=>RN w G p (rbkL S pd A n1 c1) [⟨w.heap.size+1,118,outL_ none 0 0 outZ none 0 0⟩,⟨w.heap.size,30,msL_ M A3 m3 c3⟩] [⟨A,n1,c1,S.b⟩] W) HH.out (fun W hW=>?_);clear HH;have HX:=zak hW;have k1:=hW.k1;have bb:=hW.blk;have hne0:w.heap.size≠p:=by omega
 have hne1:w.heap.size+1≠p:=by omega
 have HX4:Hid (RN w G p (rbkL (blkIdle S) pd A n1 c1) [⟨w.heap.size+1,118,outL_ none 0 0 outZ none 0 0⟩,⟨w.heap.size,30,msL_ M A3 m3 c3⟩] [⟨A,n1,c1,S.b⟩] (W.setCell ⟨p,1,none⟩ (.int .i64 0))):=zak (hW.set 1 (.int .i64 0));clear hW;unfold msL_ at k1;unfold rbkL at bb;have zk1:=k1.lt;have zp:=bb.lt;obtain⟨am,ai,aj,an,ah,ak,al,ao,ap,aq,aa,ab,ac,ae⟩:=zbd k1;have aD:=k1.frozen;obtain⟨ar,au,av,aw,ax,ay,az,aA,aB,aC,af,ag⟩:=zbc bb;have aE:=bb.frozen;rcases Bool.eq_false_or_eq_true (S.st == 3) with u3 | u3
 · go_upto_region 4 with fail
   refine zb6 (P:=fun W=>RN w G p (rbkL (blkIdle S) pd A n1 c1) [⟨w.heap.size+1,118,outL_ none 0 0 outZ none 0 0⟩,⟨w.heap.size,30,msL_ M A3 m3 c3⟩] [⟨A,n1,c1,S.b⟩] W) HX4.out (fun W4 h4=>?_);clear am ai aj an ah ak al ao ap aq aa ab ac ae aD;clear ar au av aw ax ay az aA aB aC af ag aE;clear HX HX4 k1 bb zk1 zp;have HX4:=zak h4;have k1:=h4.k1;have kk:=h4.k0;have bb:=h4.blk;have hwz:w.heap.size+2≤W4.heap.size:=by have:=h4.k0.lt;show _+1 < _;exact this
   clear h4;unfold msL_ at k1;unfold outL_ outZ at kk;unfold rbkL blkIdle at bb;try dsimp only at bb
   have zk1:=k1.lt;have zkk:=kk.lt;have zp:=bb.lt;obtain⟨am,ai,aj,an,ah,ak,al,ao,ap,aq,aa,ab,ac,ae⟩:=zbd k1;have aD:=k1.frozen;obtain⟨aK,aL,aM,aN,aO⟩:=za9 kk;have aQ:=kk.frozen;obtain⟨ar,au,av,aw,ax,ay,az,aA,aB,aC,af,ag⟩:=zbc bb;have aE:=bb.frozen;have HCL:=zak (zk8 (L:=L) (V:=V) p (blkIdle S) _ M A3 m3 c3 W4 (HD.out W4 HX4.out.only) HDA.out.1 HDA.out.2.1 hp (zll (S':=blkIdle S) HX4.out (List.mem_singleton.2 rfl) HGA.out));go_wp2_with fail
   refine HCL.out.mono ?_;rintro e w8 ⟨As,ns,cs,ds8,A8,n8,c8,rfl,h1,h2',h4,h5⟩;have HF:=zak (zlk HX4.out h1 h2' h4 h5);have k2:=zhe HX4.out.k0 h5 hne1;unfold outL_ outZ at k2;have zk2:=k2.lt;clear aK aL aM aN aO aQ;clear ar au av aw ax ay az aA aB aC af ag aE;clear am ai aj an ah ak al ao ap aq aa ab ac ae aD;obtain⟨aF,aG,aH,aI,aJ⟩:=za9 k2;have aP:=k2.frozen;clear h1 h2' h4 h5;unfold outV;try dsimp only
   go_wp2_with fail
   obtain⟨F1,F2⟩:=HF.out;rw[←HP.out] at F2;unfold putO at F1 F2;try dsimp only at F1 F2
   exact zkf (O:=bupO L V M) rfl rfl rfl F1 F2
 · go_upto_region 4 with fail
   refine zb6 (P:=fun W=>RN w G p (rbkL (blkIdle S) pd A n1 c1) [⟨w.heap.size+1,118,outL_ none 0 0 outZ none 0 0⟩,⟨w.heap.size,30,msL_ M A3 m3 c3⟩] [⟨A,n1,c1,S.b⟩] W) HX4.out (fun W4 h4=>?_);clear am ai aj an ah ak al ao ap aq aa ab ac ae aD;clear ar au av aw ax ay az aA aB aC af ag aE;clear HX HX4 k1 bb zk1 zp;have HX4:=zak h4;have k1:=h4.k1;have kk:=h4.k0;have bb:=h4.blk;have hwz:w.heap.size+2≤W4.heap.size:=by have:=h4.k0.lt;show _+1 < _;exact this
   clear h4;unfold msL_ at k1;unfold outL_ outZ at kk;unfold rbkL blkIdle at bb;try dsimp only at bb
   have zk1:=k1.lt;have zkk:=kk.lt;have zp:=bb.lt;obtain⟨am,ai,aj,an,ah,ak,al,ao,ap,aq,aa,ab,ac,ae⟩:=zbd k1;have aD:=k1.frozen;obtain⟨aK,aL,aM,aN,aO⟩:=za9 kk;have aQ:=kk.frozen;obtain⟨ar,au,av,aw,ax,ay,az,aA,aB,aC,af,ag⟩:=zbc bb;have aE:=bb.frozen;have HCL:=zak (zk8 (L:=L) (V:=V) p (blkIdle S) _ M A3 m3 c3 W4 (HD.out W4 HX4.out.only) HDA.out.1 HDA.out.2.1 hp (zll (S':=blkIdle S) HX4.out (List.mem_singleton.2 rfl) HGA.out));go_wp2_with fail
   refine HCL.out.mono ?_;rintro e w8 ⟨As,ns,cs,ds8,A8,n8,c8,rfl,h1,h2',h4,h5⟩;have HF:=zak (zlk HX4.out h1 h2' h4 h5);have k2:=zhe HX4.out.k0 h5 hne1;unfold outL_ outZ at k2;have zk2:=k2.lt;clear aK aL aM aN aO aQ;clear ar au av aw ax ay az aA aB aC af ag aE;clear am ai aj an ah ak al ao ap aq aa ab ac ae aD;obtain⟨aF,aG,aH,aI,aJ⟩:=za9 k2;have aP:=k2.frozen;clear h1 h2' h4 h5;unfold outV;try dsimp only
   go_wp2_with fail
   obtain⟨F1,F2⟩:=HF.out;rw[←HP.out] at F2;unfold putO at F1 F2;try dsimp only at F1 F2
   exact zkf (O:=bupO L V M) rfl rfl rfl F1 F2
theorem zlt (p:Nat)(S:BlkS)(G:Nat→Prop)(M:Ms)(A3:Option Addr)(m3 c3:Nat)(w:World)(hk:M.kind=21)(hst:S.st=1)(hw:BWf S)(hMO:BMOk M)(hm:m3=M.data.length)(hm1:m3≤100000)(hs:∀W,zbv (fun q=>q=p) w W→Sl W A3 (M.data.map bv))(hS:RBV w G p pd S) :
 Calls Tryz.prog 48 #[.pointer (some ⟨p,0,none⟩),.agg (msV M A3 m3 c3)] w (RBO w G p pd (bpartS S M) (bpartO S M)):=by
 have hS0:=hS;obtain⟨A,n1,c1,hR⟩:=hS.rn;obtain⟨P,hP⟩:∃P,P=RBO w G p pd (bpartS S M) (bpartO S M):=⟨_,rfl⟩;rw[←hP];have HP:=zak hP;have hz:=hR.lt;have HRW:Hid (∀ad,A=some ad→ad.block≠w.heap.size+1):=zak (fun ad e=>by have:=((hR.rows _ (List.mem_singleton.2 rfl)).2.2.2 ad e).2.1;omega);have HGA:Hid (∀ad,A=some ad→G ad.block∧ad.block < w.heap.size):=zak (fun ad e=>by
  obtain⟨A',n',c',hB',h1,h2,h3,h4⟩:=hS0;have e1:=hB'.cell 6 rfl;have e2:=hR.blk.cell 6 rfl;rw[e1] at e2;injection e2 with e2
  injection e2 with e2
  subst e2;exact⟨(h4 ad e).1,(h4 ad e).2.1⟩)
 have t1:(M.kind == 1)=false:=by simp[hk]
 have t6:(M.kind == 6)=false:=by simp[hk]
 have t21:(M.kind == 21)=true:=by simp[hk]
 have t7:(M.kind == 7)=false:=by simp[hk]
 have t8:(M.kind == 8)=false:=by simp[hk]
 have t9:(M.kind == 9)=false:=by simp[hk]
 have t10:(M.kind == 10)=false:=by simp[hk]
 have t11:(M.kind == 11)=false:=by simp[hk]
 have u1:(S.st == 1)=true:=by simp[hst]
 have u2:(S.st == 2)=false:=by simp[hst]
 have u3:(S.st == 3)=false:=by simp[hst]
 have u4:(S.st == 4)=false:=by simp[hst]
 have u5:(S.st == 5)=false:=by simp[hst]
 have u6:(S.st == 6)=false:=by simp[hst]
 have u0:(S.st != 0)=true:=by simp[hst]
 have HDA:=zak (And.intro hst (And.intro hw (And.intro hMO (And.intro hm (And.intro hm1 hs)))));have HH:=zak (hR.new2 rfl 30 118 (msL_ M A3 m3 c3) (outL_ none 0 0 outZ none 0 0));clear hP hS hS0 hR hk hst hw hMO hm hm1 hs;unfold msL_ outL_ outZ at HH;unfold msV;go_enter Tryz.func48,Tryz.ntmps48
 go_upto_region 1 with fail
 refine zb6 (P:=fun W=>RN w G p (rbkL S pd A n1 c1) [⟨w.heap.size+1,118,outL_ none 0 0 outZ none 0 0⟩,⟨w.heap.size,30,msL_ M A3 m3 c3⟩] [⟨A,n1,c1,S.b⟩] W) HH.out (fun W hW=>?_);clear HH;have HX:=zak hW;have k1:=hW.k1;have bb:=hW.blk;have hne0:w.heap.size≠p:=by omega
 have hne1:w.heap.size+1≠p:=by omega
 clear hW;unfold msL_ at k1;unfold rbkL at bb;have zk1:=k1.lt;have zp:=bb.lt;obtain⟨am,ai,aj,an,ah,ak,al,ao,ap,aq,aa,ab,ac,ae⟩:=zbd k1;have aD:=k1.frozen;obtain⟨ar,au,av,aw,ax,ay,az,aA,aB,aC,af,ag⟩:=zbc bb;have aE:=bb.frozen;go_upto_region 4 with fail
 refine zb6 (P:=fun W=>RN w G p (rbkL S pd A n1 c1) [⟨w.heap.size+1,118,outL_ none 0 0 outZ none 0 0⟩,⟨w.heap.size,30,msL_ M A3 m3 c3⟩] [⟨A,n1,c1,S.b⟩] W) HX.out (fun W4 h4=>?_);clear am ai aj an ah ak al ao ap aq aa ab ac ae aD;clear ar au av aw ax ay az aA aB aC af ag aE;clear HX k1 bb zk1 zp;have HX4:=zak h4;have k1:=h4.k1;have kk:=h4.k0;have bb:=h4.blk;have hwz:w.heap.size+2≤W4.heap.size:=by have:=h4.k0.lt;show _+1 < _;exact this
 clear h4;unfold msL_ at k1;unfold outL_ outZ at kk;unfold rbkL at bb;try dsimp only at bb
 have zk1:=k1.lt;have zkk:=kk.lt;have zp:=bb.lt;obtain⟨am,ai,aj,an,ah,ak,al,ao,ap,aq,aa,ab,ac,ae⟩:=zbd k1;have aD:=k1.frozen;obtain⟨aK,aL,aM,aN,aO⟩:=za9 kk;have aQ:=kk.frozen;obtain⟨ar,au,av,aw,ax,ay,az,aA,aB,aC,af,ag⟩:=zbc bb;have aE:=bb.frozen;have HCL:=zak (zla p S _ M A3 m3 c3 W4 (zll HX4.out (List.mem_singleton.2 rfl) HGA.out) HDA.out.1 HDA.out.2.1 HDA.out.2.2.1 HDA.out.2.2.2.1 HDA.out.2.2.2.2.1 (fun W h=>HDA.out.2.2.2.2.2 W (HX4.out.only.trans h (fun _ _ h=>h))));go_wp2_with fail
 refine HCL.out.mono ?_;rintro e w8 ⟨As,ns,cs,ds8,A8,n8,c8,rfl,h1,h2',h4,h5⟩;have HF:=zak (zlk HX4.out h1 h2' h4 h5);have k2:=zhe HX4.out.k0 h5 hne1;unfold outL_ outZ at k2;have zk2:=k2.lt;clear aK aL aM aN aO aQ;clear ar au av aw ax ay az aA aB aC af ag aE;clear am ai aj an ah ak al ao ap aq aa ab ac ae aD;obtain⟨aF,aG,aH,aI,aJ⟩:=za9 k2;have aP:=k2.frozen;clear h1 h2' h4 h5;unfold outV;try dsimp only
 go_wp2_with fail
 obtain⟨F1,F2⟩:=HF.out;rw[←HP.out] at F2;unfold putO at F1 F2;try dsimp only at F1 F2
 exact zkf (O:=bpartO S M) rfl rfl rfl F1 F2
theorem zlu (p:Nat)(S:BlkS)(G:Nat→Prop)(M:Ms)(A3:Option Addr)(m3 c3:Nat)(w:World)(hk:M.kind=7)(hst:S.st=2)(hw:BWf S)(hMO:BMOk M)(he:M.em≤S.b.length)(hsz: -1≤S.sz)(hS:RBV w G p pd S) :
 Calls Tryz.prog 48 #[.pointer (some ⟨p,0,none⟩),.agg (msV M A3 m3 c3)] w (RBO w G p pd (bendS S M) (bendO S M)):=by
 have hS0:=hS;obtain⟨A,n1,c1,hR⟩:=hS.rn;obtain⟨P,hP⟩:∃P,P=RBO w G p pd (bendS S M) (bendO S M):=⟨_,rfl⟩;rw[←hP];have HP:=zak hP;have hz:=hR.lt;have HRW:Hid (∀ad,A=some ad→ad.block≠w.heap.size+1):=zak (fun ad e=>by have:=((hR.rows _ (List.mem_singleton.2 rfl)).2.2.2 ad e).2.1;omega);have HGA:Hid (∀ad,A=some ad→G ad.block∧ad.block < w.heap.size):=zak (fun ad e=>by
  obtain⟨A',n',c',hB',h1,h2,h3,h4⟩:=hS0;have e1:=hB'.cell 6 rfl;have e2:=hR.blk.cell 6 rfl;rw[e1] at e2;injection e2 with e2
  injection e2 with e2
  subst e2;exact⟨(h4 ad e).1,(h4 ad e).2.1⟩)
 have t1:(M.kind == 1)=false:=by simp[hk]
 have t6:(M.kind == 6)=false:=by simp[hk]
 have t21:(M.kind == 21)=false:=by simp[hk]
 have t7:(M.kind == 7)=true:=by simp[hk]
 have t8:(M.kind == 8)=false:=by simp[hk]
 have t9:(M.kind == 9)=false:=by simp[hk]
 have t10:(M.kind == 10)=false:=by simp[hk]
 have t11:(M.kind == 11)=false:=by simp[hk]
 have u1:(S.st == 1)=false:=by simp[hst]
 have u2:(S.st == 2)=true:=by simp[hst]
 have u3:(S.st == 3)=false:=by simp[hst]
 have u4:(S.st == 4)=false:=by simp[hst]
 have u5:(S.st == 5)=false:=by simp[hst]
 have u6:(S.st == 6)=false:=by simp[hst]
 have u0:(S.st != 0)=true:=by simp[hst]
 have HDA:=zak (And.intro hst (And.intro hw (And.intro hMO (And.intro he hsz))));have HH:=zak (hR.new2 rfl 30 118 (msL_ M A3 m3 c3) (outL_ none 0 0 outZ none 0 0));clear hP hS hS0 hR hk hst hw hMO he hsz;unfold msL_ outL_ outZ at HH;unfold msV;go_enter Tryz.func48,Tryz.ntmps48
 go_upto_region 1 with fail
 refine zb6 (P:=fun W=>RN w G p (rbkL S pd A n1 c1) [⟨w.heap.size+1,118,outL_ none 0 0 outZ none 0 0⟩,⟨w.heap.size,30,msL_ M A3 m3 c3⟩] [⟨A,n1,c1,S.b⟩] W) HH.out (fun W hW=>?_);clear HH;have HX:=zak hW;have k1:=hW.k1;have bb:=hW.blk;have hne0:w.heap.size≠p:=by omega
 have hne1:w.heap.size+1≠p:=by omega
 clear hW;unfold msL_ at k1;unfold rbkL at bb;have zk1:=k1.lt;have zp:=bb.lt;obtain⟨am,ai,aj,an,ah,ak,al,ao,ap,aq,aa,ab,ac,ae⟩:=zbd k1;have aD:=k1.frozen;obtain⟨ar,au,av,aw,ax,ay,az,aA,aB,aC,af,ag⟩:=zbc bb;have aE:=bb.frozen;go_upto_region 4 with fail
 refine zb6 (P:=fun W=>RN w G p (rbkL S pd A n1 c1) [⟨w.heap.size+1,118,outL_ none 0 0 outZ none 0 0⟩,⟨w.heap.size,30,msL_ M A3 m3 c3⟩] [⟨A,n1,c1,S.b⟩] W) HX.out (fun W4 h4=>?_);clear am ai aj an ah ak al ao ap aq aa ab ac ae aD;clear ar au av aw ax ay az aA aB aC af ag aE;clear HX k1 bb zk1 zp;have HX4:=zak h4;have k1:=h4.k1;have kk:=h4.k0;have bb:=h4.blk;have hwz:w.heap.size+2≤W4.heap.size:=by have:=h4.k0.lt;show _+1 < _;exact this
 clear h4;unfold msL_ at k1;unfold outL_ outZ at kk;unfold rbkL at bb;try dsimp only at bb
 have zk1:=k1.lt;have zkk:=kk.lt;have zp:=bb.lt;obtain⟨am,ai,aj,an,ah,ak,al,ao,ap,aq,aa,ab,ac,ae⟩:=zbd k1;have aD:=k1.frozen;obtain⟨aK,aL,aM,aN,aO⟩:=za9 kk;have aQ:=kk.frozen;obtain⟨ar,au,av,aw,ax,ay,az,aA,aB,aC,af,ag⟩:=zbc bb;have aE:=bb.frozen;have HCL:=zak (zlg p S _ M A3 m3 c3 W4 (zll HX4.out (List.mem_singleton.2 rfl) HGA.out) HDA.out.1 HDA.out.2.1 HDA.out.2.2.1 HDA.out.2.2.2.1 HDA.out.2.2.2.2);go_wp2_with fail
 refine HCL.out.mono ?_;rintro e w8 ⟨As,ns,cs,ds8,A8,n8,c8,rfl,h1,h2',h4,h5⟩;have HF:=zak (zlk HX4.out h1 h2' h4 h5);have k2:=zhe HX4.out.k0 h5 hne1;unfold outL_ outZ at k2;have zk2:=k2.lt;clear aK aL aM aN aO aQ;clear ar au av aw ax ay az aA aB aC af ag aE;clear am ai aj an ah ak al ao ap aq aa ab ac ae aD;obtain⟨aF,aG,aH,aI,aJ⟩:=za9 k2;have aP:=k2.frozen;clear h1 h2' h4 h5;unfold outV;try dsimp only
 go_wp2_with fail
 obtain⟨F1,F2⟩:=HF.out;rw[←HP.out] at F2;unfold putO at F1 F2;try dsimp only at F1 F2
 exact zkf (O:=bendO S M) rfl rfl rfl F1 F2
theorem zlv (p:Nat)(S:BlkS)(G:Nat→Prop)(M:Ms)(A3:Option Addr)(m3 c3:Nat)(w:World)(hk:M.kind=9)(hst:S.st=4)(hw:BWf S)(hS:RBV w G p pd S) :
 Calls Tryz.prog 48 #[.pointer (some ⟨p,0,none⟩),.agg (msV M A3 m3 c3)] w (RBO w G p pd (bgiveS S) (outL (bgiveL S))):=by
 have hS0:=hS;obtain⟨A,n1,c1,hR⟩:=hS.rn;obtain⟨P,hP⟩:∃P,P=RBO w G p pd (bgiveS S) (outL (bgiveL S)):=⟨_,rfl⟩;rw[←hP];have HP:=zak hP;have hz:=hR.lt;have HRW:Hid (∀ad,A=some ad→ad.block≠w.heap.size+1):=zak (fun ad e=>by have:=((hR.rows _ (List.mem_singleton.2 rfl)).2.2.2 ad e).2.1;omega);have HGA:Hid (∀ad,A=some ad→G ad.block∧ad.block < w.heap.size):=zak (fun ad e=>by
  obtain⟨A',n',c',hB',h1,h2,h3,h4⟩:=hS0;have e1:=hB'.cell 6 rfl;have e2:=hR.blk.cell 6 rfl;rw[e1] at e2;injection e2 with e2
  injection e2 with e2
  subst e2;exact⟨(h4 ad e).1,(h4 ad e).2.1⟩)
 have t1:(M.kind == 1)=false:=by simp[hk]
 have t6:(M.kind == 6)=false:=by simp[hk]
 have t21:(M.kind == 21)=false:=by simp[hk]
 have t7:(M.kind == 7)=false:=by simp[hk]
 have t8:(M.kind == 8)=false:=by simp[hk]
 have t9:(M.kind == 9)=true:=by simp[hk]
 have t10:(M.kind == 10)=false:=by simp[hk]
 have t11:(M.kind == 11)=false:=by simp[hk]
 have u1:(S.st == 1)=false:=by simp[hst]
 have u2:(S.st == 2)=false:=by simp[hst]
 have u3:(S.st == 3)=false:=by simp[hst]
 have u4:(S.st == 4)=true:=by simp[hst]
 have u5:(S.st == 5)=false:=by simp[hst]
 have u6:(S.st == 6)=false:=by simp[hst]
 have u0:(S.st != 0)=true:=by simp[hst]
 have HDA:=zak (And.intro hst hw);have HH:=zak (hR.new2 rfl 30 118 (msL_ M A3 m3 c3) (outL_ none 0 0 outZ none 0 0));clear hP hS hS0 hR hk hst hw;unfold msL_ outL_ outZ at HH;unfold msV;go_enter Tryz.func48,Tryz.ntmps48
 go_upto_region 1 with fail
 refine zb6 (P:=fun W=>RN w G p (rbkL S pd A n1 c1) [⟨w.heap.size+1,118,outL_ none 0 0 outZ none 0 0⟩,⟨w.heap.size,30,msL_ M A3 m3 c3⟩] [⟨A,n1,c1,S.b⟩] W) HH.out (fun W hW=>?_);clear HH;have HX:=zak hW;have k1:=hW.k1;have bb:=hW.blk;have hne0:w.heap.size≠p:=by omega
 have hne1:w.heap.size+1≠p:=by omega
 clear hW;unfold msL_ at k1;unfold rbkL at bb;have zk1:=k1.lt;have zp:=bb.lt;obtain⟨am,ai,aj,an,ah,ak,al,ao,ap,aq,aa,ab,ac,ae⟩:=zbd k1;have aD:=k1.frozen;obtain⟨ar,au,av,aw,ax,ay,az,aA,aB,aC,af,ag⟩:=zbc bb;have aE:=bb.frozen;go_upto_region 4 with fail
 refine zb6 (P:=fun W=>RN w G p (rbkL S pd A n1 c1) [⟨w.heap.size+1,118,outL_ none 0 0 outZ none 0 0⟩,⟨w.heap.size,30,msL_ M A3 m3 c3⟩] [⟨A,n1,c1,S.b⟩] W) HX.out (fun W4 h4=>?_);clear am ai aj an ah ak al ao ap aq aa ab ac ae aD;clear ar au av aw ax ay az aA aB aC af ag aE;clear HX k1 bb zk1 zp;have HX4:=zak h4;have k1:=h4.k1;have kk:=h4.k0;have bb:=h4.blk;have hwz:w.heap.size+2≤W4.heap.size:=by have:=h4.k0.lt;show _+1 < _;exact this
 clear h4;unfold msL_ at k1;unfold outL_ outZ at kk;unfold rbkL at bb;try dsimp only at bb
 have zk1:=k1.lt;have zkk:=kk.lt;have zp:=bb.lt;obtain⟨am,ai,aj,an,ah,ak,al,ao,ap,aq,aa,ab,ac,ae⟩:=zbd k1;have aD:=k1.frozen;obtain⟨aK,aL,aM,aN,aO⟩:=za9 kk;have aQ:=kk.frozen;obtain⟨ar,au,av,aw,ax,ay,az,aA,aB,aC,af,ag⟩:=zbc bb;have aE:=bb.frozen;have HCL:=zak (zlj p S _ W4 (zll HX4.out (List.mem_singleton.2 rfl) HGA.out) (by have:=(HDA.out.2.b4 HDA.out.1).2.1;omega) (by have:=HDA.out.2.b4 HDA.out.1;have:=zky S.b;omega) (HDA.out.2.b4 HDA.out.1).2.2);go_wp2_with fail
 refine HCL.out.mono ?_;rintro e w8 ⟨As,ns,cs,ds8,A8,n8,c8,rfl,h1,h2',h4,h5⟩;have HF:=zak (zlk HX4.out h1 h2' h4 h5);have k2:=zhe HX4.out.k0 h5 hne1;unfold outL_ outZ at k2;have zk2:=k2.lt;clear aK aL aM aN aO aQ;clear ar au av aw ax ay az aA aB aC af ag aE;clear am ai aj an ah ak al ao ap aq aa ab ac ae aD;obtain⟨aF,aG,aH,aI,aJ⟩:=za9 k2;have aP:=k2.frozen;clear h1 h2' h4 h5;unfold outV;try dsimp only
 go_wp2_with fail
 obtain⟨F1,F2⟩:=HF.out;rw[←HP.out] at F2;unfold putO at F1 F2;try dsimp only at F1 F2
 exact zkf (O:=outL (bgiveL S)) rfl rfl rfl F1 F2
theorem zlw (p:Nat)(S:BlkS)(G:Nat→Prop)(M:Ms)(A3:Option Addr)(m3 c3:Nat)(w:World)(hk:M.kind=10)(hst:S.st=5)(hw:BWf S)(hMO:BMOk M)(hS:RBV w G p pd S) :
 Calls Tryz.prog 48 #[.pointer (some ⟨p,0,none⟩),.agg (msV M A3 m3 c3)] w (RBO w G p pd (backS S M) (backO S M)):=by
 have hS0:=hS;obtain⟨A,n1,c1,hR⟩:=hS.rn;obtain⟨P,hP⟩:∃P,P=RBO w G p pd (backS S M) (backO S M):=⟨_,rfl⟩;rw[←hP];have HP:=zak hP;have hz:=hR.lt;have HRW:Hid (∀ad,A=some ad→ad.block≠w.heap.size+1):=zak (fun ad e=>by have:=((hR.rows _ (List.mem_singleton.2 rfl)).2.2.2 ad e).2.1;omega);have HGA:Hid (∀ad,A=some ad→G ad.block∧ad.block < w.heap.size):=zak (fun ad e=>by
  obtain⟨A',n',c',hB',h1,h2,h3,h4⟩:=hS0;have e1:=hB'.cell 6 rfl;have e2:=hR.blk.cell 6 rfl;rw[e1] at e2;injection e2 with e2
  injection e2 with e2
  subst e2;exact⟨(h4 ad e).1,(h4 ad e).2.1⟩)
 have t1:(M.kind == 1)=false:=by simp[hk]
 have t6:(M.kind == 6)=false:=by simp[hk]
 have t21:(M.kind == 21)=false:=by simp[hk]
 have t7:(M.kind == 7)=false:=by simp[hk]
 have t8:(M.kind == 8)=false:=by simp[hk]
 have t9:(M.kind == 9)=false:=by simp[hk]
 have t10:(M.kind == 10)=true:=by simp[hk]
 have t11:(M.kind == 11)=false:=by simp[hk]
 have u1:(S.st == 1)=false:=by simp[hst]
 have u2:(S.st == 2)=false:=by simp[hst]
 have u3:(S.st == 3)=false:=by simp[hst]
 have u4:(S.st == 4)=false:=by simp[hst]
 have u5:(S.st == 5)=true:=by simp[hst]
 have u6:(S.st == 6)=false:=by simp[hst]
 have u0:(S.st != 0)=true:=by simp[hst]
 have HDA:=zak (And.intro hst (And.intro hw hMO));have HH:=zak (hR.new2 rfl 30 118 (msL_ M A3 m3 c3) (outL_ none 0 0 outZ none 0 0));clear hP hS hS0 hR hk hst hw hMO;unfold msL_ outL_ outZ at HH;unfold msV;go_enter Tryz.func48,Tryz.ntmps48
 go_upto_region 1 with fail
 refine zb6 (P:=fun W=>RN w G p (rbkL S pd A n1 c1) [⟨w.heap.size+1,118,outL_ none 0 0 outZ none 0 0⟩,⟨w.heap.size,30,msL_ M A3 m3 c3⟩] [⟨A,n1,c1,S.b⟩] W) HH.out (fun W hW=>?_);clear HH;have HX:=zak hW;have k1:=hW.k1;have bb:=hW.blk;have hne0:w.heap.size≠p:=by omega
 have hne1:w.heap.size+1≠p:=by omega
 clear hW;unfold msL_ at k1;unfold rbkL at bb;have zk1:=k1.lt;have zp:=bb.lt;obtain⟨am,ai,aj,an,ah,ak,al,ao,ap,aq,aa,ab,ac,ae⟩:=zbd k1;have aD:=k1.frozen;obtain⟨ar,au,av,aw,ax,ay,az,aA,aB,aC,af,ag⟩:=zbc bb;have aE:=bb.frozen;go_upto_region 4 with fail
 refine zb6 (P:=fun W=>RN w G p (rbkL S pd A n1 c1) [⟨w.heap.size+1,118,outL_ none 0 0 outZ none 0 0⟩,⟨w.heap.size,30,msL_ M A3 m3 c3⟩] [⟨A,n1,c1,S.b⟩] W) HX.out (fun W4 h4=>?_);clear am ai aj an ah ak al ao ap aq aa ab ac ae aD;clear ar au av aw ax ay az aA aB aC af ag aE;clear HX k1 bb zk1 zp;have HX4:=zak h4;have k1:=h4.k1;have kk:=h4.k0;have bb:=h4.blk;have hwz:w.heap.size+2≤W4.heap.size:=by have:=h4.k0.lt;show _+1 < _;exact this
 clear h4;unfold msL_ at k1;unfold outL_ outZ at kk;unfold rbkL at bb;try dsimp only at bb
 have zk1:=k1.lt;have zkk:=kk.lt;have zp:=bb.lt;obtain⟨am,ai,aj,an,ah,ak,al,ao,ap,aq,aa,ab,ac,ae⟩:=zbd k1;have aD:=k1.frozen;obtain⟨aK,aL,aM,aN,aO⟩:=za9 kk;have aQ:=kk.frozen;obtain⟨ar,au,av,aw,ax,ay,az,aA,aB,aC,af,ag⟩:=zbc bb;have aE:=bb.frozen;have HCL:=zak (zlo p S _ M A3 m3 c3 W4 (zll HX4.out (List.mem_singleton.2 rfl) HGA.out) HDA.out.1 HDA.out.2.1 HDA.out.2.2);go_wp2_with fail
 refine HCL.out.mono ?_;rintro e w8 ⟨As,ns,cs,ds8,A8,n8,c8,rfl,h1,h2',h4,h5⟩;have HF:=zak (zlk HX4.out h1 h2' h4 h5);have k2:=zhe HX4.out.k0 h5 hne1;unfold outL_ outZ at k2;have zk2:=k2.lt;clear aK aL aM aN aO aQ;clear ar au av aw ax ay az aA aB aC af ag aE;clear am ai aj an ah ak al ao ap aq aa ab ac ae aD;obtain⟨aF,aG,aH,aI,aJ⟩:=za9 k2;have aP:=k2.frozen;clear h1 h2' h4 h5;unfold outV;try dsimp only
 go_wp2_with fail
 obtain⟨F1,F2⟩:=HF.out;rw[←HP.out] at F2;unfold putO at F1 F2;try dsimp only at F1 F2
 exact zkf (O:=backO S M) rfl rfl rfl F1 F2
theorem zlx (p:Nat)(S:BlkS)(G:Nat→Prop)(M:Ms)(A3:Option Addr)(m3 c3:Nat)(w:World)(hk:M.kind=11)(hst:S.st=6)(hS:RBV w G p pd S) :
 Calls Tryz.prog 48 #[.pointer (some ⟨p,0,none⟩),.agg (msV M A3 m3 c3)] w (RBO w G p pd (blkIdle S) outZ):=by
 have hS0:=hS;obtain⟨A,n1,c1,hR⟩:=hS.rn;obtain⟨P,hP⟩:∃P,P=RBO w G p pd (blkIdle S) outZ:=⟨_,rfl⟩;rw[←hP];have HP:=zak hP;have hz:=hR.lt;have HRW:Hid (∀ad,A=some ad→ad.block≠w.heap.size+1):=zak (fun ad e=>by have:=((hR.rows _ (List.mem_singleton.2 rfl)).2.2.2 ad e).2.1;omega);have HGA:Hid (∀ad,A=some ad→G ad.block∧ad.block < w.heap.size):=zak (fun ad e=>by
  obtain⟨A',n',c',hB',h1,h2,h3,h4⟩:=hS0;have e1:=hB'.cell 6 rfl;have e2:=hR.blk.cell 6 rfl;rw[e1] at e2;injection e2 with e2
  injection e2 with e2
  subst e2;exact⟨(h4 ad e).1,(h4 ad e).2.1⟩)
 have t1:(M.kind == 1)=false:=by simp[hk]
 have t6:(M.kind == 6)=false:=by simp[hk]
 have t21:(M.kind == 21)=false:=by simp[hk]
 have t7:(M.kind == 7)=false:=by simp[hk]
 have t8:(M.kind == 8)=false:=by simp[hk]
 have t9:(M.kind == 9)=false:=by simp[hk]
 have t10:(M.kind == 10)=false:=by simp[hk]
 have t11:(M.kind == 11)=true:=by simp[hk]
 have u1:(S.st == 1)=false:=by simp[hst]
 have u2:(S.st == 2)=false:=by simp[hst]
 have u3:(S.st == 3)=false:=by simp[hst]
 have u4:(S.st == 4)=false:=by simp[hst]
 have u5:(S.st == 5)=false:=by simp[hst]
 have u6:(S.st == 6)=true:=by simp[hst]
 have u0:(S.st != 0)=true:=by simp[hst]
 have HH:=zak (hR.new2 rfl 30 118 (msL_ M A3 m3 c3) (outL_ none 0 0 outZ none 0 0));clear hP hS hS0 hR hk hst;unfold msL_ outL_ outZ at HH;unfold msV;go_enter Tryz.func48,Tryz.ntmps48
 go_upto_region 1 with fail
 refine zb6 (P:=fun W=>RN w G p (rbkL S pd A n1 c1) [⟨w.heap.size+1,118,outL_ none 0 0 outZ none 0 0⟩,⟨w.heap.size,30,msL_ M A3 m3 c3⟩] [⟨A,n1,c1,S.b⟩] W) HH.out (fun W hW=>?_);clear HH;have HX:=zak hW;have k1:=hW.k1;have bb:=hW.blk;have hne0:w.heap.size≠p:=by omega
 have hne1:w.heap.size+1≠p:=by omega
 clear hW;unfold msL_ at k1;unfold rbkL at bb;have zk1:=k1.lt;have zp:=bb.lt;obtain⟨am,ai,aj,an,ah,ak,al,ao,ap,aq,aa,ab,ac,ae⟩:=zbd k1;have aD:=k1.frozen;obtain⟨ar,au,av,aw,ax,ay,az,aA,aB,aC,af,ag⟩:=zbc bb;have aE:=bb.frozen;go_upto_region 4 with fail
 refine zb6 (P:=fun W=>RN w G p (rbkL S pd A n1 c1) [⟨w.heap.size+1,118,outL_ none 0 0 outZ none 0 0⟩,⟨w.heap.size,30,msL_ M A3 m3 c3⟩] [⟨A,n1,c1,S.b⟩] W) HX.out (fun W4 h4=>?_);clear am ai aj an ah ak al ao ap aq aa ab ac ae aD;clear ar au av aw ax ay az aA aB aC af ag aE;clear HX k1 bb zk1 zp;have HX4:=zak h4;have k1:=h4.k1;have kk:=h4.k0;have bb:=h4.blk;have hwz:w.heap.size+2≤W4.heap.size:=by have:=h4.k0.lt;show _+1 < _;exact this
 clear h4;unfold msL_ at k1;unfold outL_ outZ at kk;unfold rbkL at bb;try dsimp only at bb
 have zk1:=k1.lt;have zkk:=kk.lt;have zp:=bb.lt;obtain⟨am,ai,aj,an,ah,ak,al,ao,ap,aq,aa,ab,ac,ae⟩:=zbd k1;have aD:=k1.frozen;obtain⟨aK,aL,aM,aN,aO⟩:=za9 kk;have aQ:=kk.frozen;obtain⟨ar,au,av,aw,ax,ay,az,aA,aB,aC,af,ag⟩:=zbc bb;have aE:=bb.frozen;have HI:Hid (RN w G p (rbkL (blkIdle S) pd A n1 c1) [⟨w.heap.size+1,118,outL_ none 0 0 outZ none 0 0⟩,⟨w.heap.size,30,msL_ M A3 m3 c3⟩] [⟨A,n1,c1,S.b⟩] (W4.setCell ⟨p,1,none⟩ (.int .i64 0))):=zak (HX4.out.set 1 (.int .i64 0));have HF:Hid (Blk (putO (W4.setCell ⟨p,1,none⟩ (.int .i64 0)) (w.heap.size+1) none 0 0 outZ none 0 0) (w.heap.size+1) 118 (outV none 0 0 outZ none 0 0)∧ RBO w G p pd (blkIdle S) outZ (.returned (.agg (outV none 0 0 outZ none 0 0))) (putO (W4.setCell ⟨p,1,none⟩ (.int .i64 0)) (w.heap.size+1) none 0 0 outZ none 0 0)):=zak (zkl (S:=blkIdle S) (O:=outZ) (ks:=[]) (HI.out.sub (by simp)) (List.mem_singleton.2 rfl) (Nat.le_succ _) (fun r hr=>by simp at hr;subst hr;exact HRW.out) (zb2.nil _ _) (zbs.nil _ _) (FIn.nil _))
 go_wp2_with fail
 obtain⟨F1,F2⟩:=HF.out;rw[←HP.out] at F2;unfold putO outZ at F1 F2;dsimp only at F1 F2;exact zkf (O:=outZ) rfl rfl rfl F1 F2
def zmsg:Ms:=⟨0,0,0,false,false,false,false,0,0,[],0,0,0,0⟩
theorem zly (p:Nat)(S:BlkS)(G:Nat→Prop)(M:Ms)(A3:Option Addr)(m3 c3:Nat)(w:World)(hk1:M.kind≠1)(hk6:M.kind≠6)(hk8:M.kind≠8)(hst:S.st=0)(hS:RBV w G p pd S) :
 Calls Tryz.prog 48 #[.pointer (some ⟨p,0,none⟩),.agg (msV M A3 m3 c3)] w (RBO w G p pd S (outM (abM 0 0 84148225))):=by
 have hS0:=hS;obtain⟨A,n1,c1,hR⟩:=hS.rn;obtain⟨P,hP⟩:∃P,P=RBO w G p pd S (outM (abM 0 0 84148225)):=⟨_,rfl⟩;rw[←hP];have HP:=zak hP;have hz:=hR.lt;have HRW:Hid (∀ad,A=some ad→ad.block≠w.heap.size+1):=zak (fun ad e=>by have:=((hR.rows _ (List.mem_singleton.2 rfl)).2.2.2 ad e).2.1;omega);have HGA:Hid (∀ad,A=some ad→G ad.block∧ad.block < w.heap.size):=zak (fun ad e=>by
  obtain⟨A',n',c',hB',h1,h2,h3,h4⟩:=hS0;have e1:=hB'.cell 6 rfl;have e2:=hR.blk.cell 6 rfl;rw[e1] at e2;injection e2 with e2
  injection e2 with e2
  subst e2;exact⟨(h4 ad e).1,(h4 ad e).2.1⟩)
 have t1:(M.kind == 1)=false:=by simp[hk1]
 have t6:(M.kind == 6)=false:=by simp[hk6]
 have t8:(M.kind == 8)=false:=by simp[hk8]
 have u1:(S.st == 1)=false:=by simp[hst]
 have u2:(S.st == 2)=false:=by simp[hst]
 have u3:(S.st == 3)=false:=by simp[hst]
 have u4:(S.st == 4)=false:=by simp[hst]
 have u5:(S.st == 5)=false:=by simp[hst]
 have u6:(S.st == 6)=false:=by simp[hst]
 have u0:(S.st != 0)=false:=by simp[hst]
 have HH:=zak (hR.new2 rfl 30 118 (msL_ M A3 m3 c3) (outL_ none 0 0 outZ none 0 0));clear hP hS hS0 hR hk1 hk6 hk8 hst;unfold msL_ outL_ outZ at HH;unfold msV;go_enter Tryz.func48,Tryz.ntmps48
 go_upto_region 1 with fail
 refine zb6 (P:=fun W=>RN w G p (rbkL S pd A n1 c1) [⟨w.heap.size+1,118,outL_ none 0 0 outZ none 0 0⟩,⟨w.heap.size,30,msL_ M A3 m3 c3⟩] [⟨A,n1,c1,S.b⟩] W) HH.out (fun W hW=>?_);clear HH;have HX:=zak hW;have k1:=hW.k1;have bb:=hW.blk;have hne0:w.heap.size≠p:=by omega
 have hne1:w.heap.size+1≠p:=by omega
 clear hW;unfold msL_ at k1;unfold rbkL at bb;have zk1:=k1.lt;have zp:=bb.lt;obtain⟨am,ai,aj,an,ah,ak,al,ao,ap,aq,aa,ab,ac,ae⟩:=zbd k1;have aD:=k1.frozen;obtain⟨ar,au,av,aw,ax,ay,az,aA,aB,aC,af,ag⟩:=zbc bb;have aE:=bb.frozen;go_upto_region 4 with fail
 refine zb6 (P:=fun W=>RN w G p (rbkL S pd A n1 c1) [⟨w.heap.size+1,118,outL_ none 0 0 outZ none 0 0⟩,⟨w.heap.size,30,msL_ M A3 m3 c3⟩] [⟨A,n1,c1,S.b⟩] W) HX.out (fun W4 h4=>?_);clear am ai aj an ah ak al ao ap aq aa ab ac ae aD;clear ar au av aw ax ay az aA aB aC af ag aE;clear HX k1 bb zk1 zp;have HX4:=zak h4;have k1:=h4.k1;have kk:=h4.k0;have bb:=h4.blk;have hwz:w.heap.size+2≤W4.heap.size:=by have:=h4.k0.lt;show _+1 < _;exact this
 clear h4;unfold msL_ at k1;unfold outL_ outZ at kk;unfold rbkL at bb;try dsimp only at bb
 have zk1:=k1.lt;have zkk:=kk.lt;have zp:=bb.lt;obtain⟨am,ai,aj,an,ah,ak,al,ao,ap,aq,aa,ab,ac,ae⟩:=zbd k1;have aD:=k1.frozen;obtain⟨aK,aL,aM,aN,aO⟩:=za9 kk;have aQ:=kk.frozen;obtain⟨ar,au,av,aw,ax,ay,az,aA,aB,aC,af,ag⟩:=zbc bb;have aE:=bb.frozen;have HCL:=zak (zks zmsg none 0 0 84148225 W4);unfold zmsg msV at HCL;dsimp only at HCL;go_wp2_with fail
 all_goals
  refine HCL.out.mono ?_;rintro e w8 ⟨g8,hg8,rfl,hM8,hb8⟩;unfold outV outZ;try dsimp only
  have HX8:=zak (HX4.out.step hb8);have zg8:w.heap.size+2≤g8:=by omega
  have HM8:=zak hM8;have k2:=HX8.out.k0;unfold outL_ outZ at k2;have zk2:=k2.lt;clear aK aL aM aN aO aQ;clear ar au av aw ax ay az aA aB aC af ag aE;clear am ai aj an ah ak al ao ap aq aa ab ac ae aD;obtain⟨aF,aG,aH,aI,aJ⟩:=za9 k2;have aP:=k2.frozen;clear hM8 hb8;go_wp2_with fail
  obtain⟨F1,F2⟩:=zkt (M:=abM 0 0 84148225) (ks:=[]) (HX8.out.sub (by simp)) (List.mem_singleton.2 rfl) (fun r hr=>by simp at hr;subst hr;exact HRW.out) HM8.out zg8 (zbs.nil _ _);rw[←HP.out] at F2;unfold putO outZ at F1 F2;dsimp only at F1 F2;exact zkf (O:=outZ) rfl rfl rfl F1 F2
theorem zlz (p:Nat)(S:BlkS)(G:Nat→Prop)(M:Ms)(A3:Option Addr)(m3 c3:Nat)(w:World)(hk1:M.kind≠1)(hk6:M.kind≠6)(hk8:M.kind≠8)(hst:S.st=3)(hS:RBV w G p pd S) :
 Calls Tryz.prog 48 #[.pointer (some ⟨p,0,none⟩),.agg (msV M A3 m3 c3)] w (RBO w G p pd (blkIdle S) (outM (abM 0 0 84148225))):=by
 have hS0:=hS;obtain⟨A,n1,c1,hR⟩:=hS.rn;obtain⟨P,hP⟩:∃P,P=RBO w G p pd (blkIdle S) (outM (abM 0 0 84148225)):=⟨_,rfl⟩;rw[←hP];have HP:=zak hP;have hz:=hR.lt;have HRW:Hid (∀ad,A=some ad→ad.block≠w.heap.size+1):=zak (fun ad e=>by have:=((hR.rows _ (List.mem_singleton.2 rfl)).2.2.2 ad e).2.1;omega);have HGA:Hid (∀ad,A=some ad→G ad.block∧ad.block < w.heap.size):=zak (fun ad e=>by
  obtain⟨A',n',c',hB',h1,h2,h3,h4⟩:=hS0;have e1:=hB'.cell 6 rfl;have e2:=hR.blk.cell 6 rfl;rw[e1] at e2;injection e2 with e2
  injection e2 with e2
  subst e2;exact⟨(h4 ad e).1,(h4 ad e).2.1⟩)
 have t1:(M.kind == 1)=false:=by simp[hk1]
 have t6:(M.kind == 6)=false:=by simp[hk6]
 have t8:(M.kind == 8)=false:=by simp[hk8]
 have u1:(S.st == 1)=false:=by simp[hst]
 have u2:(S.st == 2)=false:=by simp[hst]
 have u3:(S.st == 3)=true:=by simp[hst]
 have u4:(S.st == 4)=false:=by simp[hst]
 have u5:(S.st == 5)=false:=by simp[hst]
 have u6:(S.st == 6)=false:=by simp[hst]
 have u0:(S.st != 0)=true:=by simp[hst]
 have HH:=zak (hR.new2 rfl 30 118 (msL_ M A3 m3 c3) (outL_ none 0 0 outZ none 0 0));clear hP hS hS0 hR hk1 hk6 hk8 hst;unfold msL_ outL_ outZ at HH;unfold msV;go_enter Tryz.func48,Tryz.ntmps48
 go_upto_region 1 with fail
 refine zb6 (P:=fun W=>RN w G p (rbkL S pd A n1 c1) [⟨w.heap.size+1,118,outL_ none 0 0 outZ none 0 0⟩,⟨w.heap.size,30,msL_ M A3 m3 c3⟩] [⟨A,n1,c1,S.b⟩] W) HH.out (fun W hW=>?_);clear HH;have HX:=zak hW;have k1:=hW.k1;have bb:=hW.blk;have hne0:w.heap.size≠p:=by omega
 have hne1:w.heap.size+1≠p:=by omega
 have HX4:Hid (RN w G p (rbkL (blkIdle S) pd A n1 c1) [⟨w.heap.size+1,118,outL_ none 0 0 outZ none 0 0⟩,⟨w.heap.size,30,msL_ M A3 m3 c3⟩] [⟨A,n1,c1,S.b⟩] (W.setCell ⟨p,1,none⟩ (.int .i64 0))):=zak (hW.set 1 (.int .i64 0));clear hW;unfold msL_ at k1;unfold rbkL at bb;have zk1:=k1.lt;have zp:=bb.lt;obtain⟨am,ai,aj,an,ah,ak,al,ao,ap,aq,aa,ab,ac,ae⟩:=zbd k1;have aD:=k1.frozen;obtain⟨ar,au,av,aw,ax,ay,az,aA,aB,aC,af,ag⟩:=zbc bb;have aE:=bb.frozen;go_upto_region 4 with fail
 refine zb6 (P:=fun W=>RN w G p (rbkL (blkIdle S) pd A n1 c1) [⟨w.heap.size+1,118,outL_ none 0 0 outZ none 0 0⟩,⟨w.heap.size,30,msL_ M A3 m3 c3⟩] [⟨A,n1,c1,S.b⟩] W) HX4.out (fun W4 h4=>?_);clear am ai aj an ah ak al ao ap aq aa ab ac ae aD;clear ar au av aw ax ay az aA aB aC af ag aE;clear HX HX4 k1 bb zk1 zp;have HX4:=zak h4;have k1:=h4.k1;have kk:=h4.k0;have bb:=h4.blk;have hwz:w.heap.size+2≤W4.heap.size:=by have:=h4.k0.lt;show _+1 < _;exact this
 clear h4;unfold msL_ at k1;unfold outL_ outZ at kk;unfold rbkL blkIdle at bb;try dsimp only at bb
 have zk1:=k1.lt;have zkk:=kk.lt;have zp:=bb.lt;obtain⟨am,ai,aj,an,ah,ak,al,ao,ap,aq,aa,ab,ac,ae⟩:=zbd k1;have aD:=k1.frozen;obtain⟨aK,aL,aM,aN,aO⟩:=za9 kk;have aQ:=kk.frozen;obtain⟨ar,au,av,aw,ax,ay,az,aA,aB,aC,af,ag⟩:=zbc bb;have aE:=bb.frozen;have HCL:=zak (zks zmsg none 0 0 84148225 W4);unfold zmsg msV at HCL;dsimp only at HCL;go_wp2_with fail
 all_goals
  refine HCL.out.mono ?_;rintro e w8 ⟨g8,hg8,rfl,hM8,hb8⟩;unfold outV outZ;try dsimp only
  have HX8:=zak (HX4.out.step hb8);have zg8:w.heap.size+2≤g8:=by omega
  have HM8:=zak hM8;have k2:=HX8.out.k0;unfold outL_ outZ at k2;have zk2:=k2.lt;clear aK aL aM aN aO aQ;clear ar au av aw ax ay az aA aB aC af ag aE;clear am ai aj an ah ak al ao ap aq aa ab ac ae aD;obtain⟨aF,aG,aH,aI,aJ⟩:=za9 k2;have aP:=k2.frozen;clear hM8 hb8;go_wp2_with fail
  obtain⟨F1,F2⟩:=zkt (M:=abM 0 0 84148225) (ks:=[]) (HX8.out.sub (by simp)) (List.mem_singleton.2 rfl) (fun r hr=>by simp at hr;subst hr;exact HRW.out) HM8.out zg8 (zbs.nil _ _);rw[←HP.out] at F2;unfold putO outZ at F1 F2;dsimp only at F1 F2;exact zkf (O:=outZ) rfl rfl rfl F1 F2
theorem zl0 (p:Nat)(S:BlkS)(G:Nat→Prop)(M:Ms)(A3:Option Addr)(m3 c3:Nat)(w:World)(hk1:M.kind≠1)(hk6:M.kind≠6)(hk8:M.kind≠8)(hst:S.st=1)(hno:M.kind≠21)(hS:RBV w G p pd S) :
 Calls Tryz.prog 48 #[.pointer (some ⟨p,0,none⟩),.agg (msV M A3 m3 c3)] w (RBO w G p pd (blkIdle S) (outM (abM S.ix S.sub 84148225))):=by
 have hS0:=hS;obtain⟨A,n1,c1,hR⟩:=hS.rn;obtain⟨P,hP⟩:∃P,P=RBO w G p pd (blkIdle S) (outM (abM S.ix S.sub 84148225)):=⟨_,rfl⟩;rw[←hP];have HP:=zak hP;have hz:=hR.lt;have HRW:Hid (∀ad,A=some ad→ad.block≠w.heap.size+1):=zak (fun ad e=>by have:=((hR.rows _ (List.mem_singleton.2 rfl)).2.2.2 ad e).2.1;omega);have HGA:Hid (∀ad,A=some ad→G ad.block∧ad.block < w.heap.size):=zak (fun ad e=>by
  obtain⟨A',n',c',hB',h1,h2,h3,h4⟩:=hS0;have e1:=hB'.cell 6 rfl;have e2:=hR.blk.cell 6 rfl;rw[e1] at e2;injection e2 with e2
  injection e2 with e2
  subst e2;exact⟨(h4 ad e).1,(h4 ad e).2.1⟩)
 have t1:(M.kind == 1)=false:=by simp[hk1]
 have t6:(M.kind == 6)=false:=by simp[hk6]
 have t8:(M.kind == 8)=false:=by simp[hk8]
 have t21:(M.kind == 21)=false:=by simp[hno]
 have u1:(S.st == 1)=true:=by simp[hst]
 have u2:(S.st == 2)=false:=by simp[hst]
 have u3:(S.st == 3)=false:=by simp[hst]
 have u4:(S.st == 4)=false:=by simp[hst]
 have u5:(S.st == 5)=false:=by simp[hst]
 have u6:(S.st == 6)=false:=by simp[hst]
 have u0:(S.st != 0)=true:=by simp[hst]
 have HS0:Hid (S.st≠0):=zak (by omega);have HH:=zak (hR.new2 rfl 30 118 (msL_ M A3 m3 c3) (outL_ none 0 0 outZ none 0 0));clear hP hS hS0 hR hk1 hk6 hk8 hst hno;unfold msL_ outL_ outZ at HH;unfold msV;go_enter Tryz.func48,Tryz.ntmps48
 go_upto_region 1 with fail
 refine zb6 (P:=fun W=>RN w G p (rbkL S pd A n1 c1) [⟨w.heap.size+1,118,outL_ none 0 0 outZ none 0 0⟩,⟨w.heap.size,30,msL_ M A3 m3 c3⟩] [⟨A,n1,c1,S.b⟩] W) HH.out (fun W hW=>?_);clear HH;have HX:=zak hW;have k1:=hW.k1;have bb:=hW.blk;have hne0:w.heap.size≠p:=by omega
 have hne1:w.heap.size+1≠p:=by omega
 clear hW;unfold msL_ at k1;unfold rbkL at bb;have zk1:=k1.lt;have zp:=bb.lt;obtain⟨am,ai,aj,an,ah,ak,al,ao,ap,aq,aa,ab,ac,ae⟩:=zbd k1;have aD:=k1.frozen;obtain⟨ar,au,av,aw,ax,ay,az,aA,aB,aC,af,ag⟩:=zbc bb;have aE:=bb.frozen;go_upto_region 4 with fail
 refine zb6 (P:=fun W=>RN w G p (rbkL S pd A n1 c1) [⟨w.heap.size+1,118,outL_ none 0 0 outZ none 0 0⟩,⟨w.heap.size,30,msL_ M A3 m3 c3⟩] [⟨A,n1,c1,S.b⟩] W) HX.out (fun W4 h4=>?_);clear am ai aj an ah ak al ao ap aq aa ab ac ae aD;clear ar au av aw ax ay az aA aB aC af ag aE;clear HX k1 bb zk1 zp;have HX4:=zak h4;have k1:=h4.k1;have kk:=h4.k0;have bb:=h4.blk;have hwz:w.heap.size+2≤W4.heap.size:=by have:=h4.k0.lt;show _+1 < _;exact this
 clear h4;unfold msL_ at k1;unfold outL_ outZ at kk;unfold rbkL at bb;try dsimp only at bb
 have zk1:=k1.lt;have zkk:=kk.lt;have zp:=bb.lt;obtain⟨am,ai,aj,an,ah,ak,al,ao,ap,aq,aa,ab,ac,ae⟩:=zbd k1;have aD:=k1.frozen;obtain⟨aK,aL,aM,aN,aO⟩:=za9 kk;have aQ:=kk.frozen;obtain⟨ar,au,av,aw,ax,ay,az,aA,aB,aC,af,ag⟩:=zbc bb;have aE:=bb.frozen;have HAB:=zak (zkn S A n1 c1 84148225 W4 HX4.out HS0.out);go_wp2_with fail
 all_goals
  refine HAB.out.mono ?_;rintro e w8 ⟨g8,hg8,rfl,hM8,hR8,ho8⟩;have HX8:=zak hR8;have zg8:w.heap.size+2≤g8:=Nat.le_trans hwz hg8;have HM8:=zak hM8;have k2:=hR8.k0;unfold outL_ outZ at k2;have zk2:=k2.lt;clear aK aL aM aN aO aQ;clear ar au av aw ax ay az aA aB aC af ag aE;clear am ai aj an ah ak al ao ap aq aa ab ac ae aD;obtain⟨aF,aG,aH,aI,aJ⟩:=za9 k2;have aP:=k2.frozen;clear hM8 hR8 ho8 HAB;go_wp2_with fail
  obtain⟨F1,F2⟩:=zkt (S:=blkIdle S) (M:=abM S.ix S.sub 84148225) (ks:=[]) (HX8.out.sub (by simp)) (List.mem_singleton.2 rfl) (fun r hr=>by simp at hr;subst hr;exact HRW.out) HM8.out zg8 (zbs.nil _ _);rw[←HP.out] at F2;unfold putO outZ at F1 F2;dsimp only at F1 F2;exact zkf (O:=outZ) rfl rfl rfl F1 F2
theorem zl1 (p:Nat)(S:BlkS)(G:Nat→Prop)(M:Ms)(A3:Option Addr)(m3 c3:Nat)(w:World)(hk1:M.kind≠1)(hk6:M.kind≠6)(hk8:M.kind≠8)(hst:S.st=2)(hno:M.kind≠7)(hS:RBV w G p pd S) :
 Calls Tryz.prog 48 #[.pointer (some ⟨p,0,none⟩),.agg (msV M A3 m3 c3)] w (RBO w G p pd (blkIdle S) (outM (abM S.ix S.sub 84148225))):=by
 have hS0:=hS;obtain⟨A,n1,c1,hR⟩:=hS.rn;obtain⟨P,hP⟩:∃P,P=RBO w G p pd (blkIdle S) (outM (abM S.ix S.sub 84148225)):=⟨_,rfl⟩;rw[←hP];have HP:=zak hP;have hz:=hR.lt;have HRW:Hid (∀ad,A=some ad→ad.block≠w.heap.size+1):=zak (fun ad e=>by have:=((hR.rows _ (List.mem_singleton.2 rfl)).2.2.2 ad e).2.1;omega);have HGA:Hid (∀ad,A=some ad→G ad.block∧ad.block < w.heap.size):=zak (fun ad e=>by
  obtain⟨A',n',c',hB',h1,h2,h3,h4⟩:=hS0;have e1:=hB'.cell 6 rfl;have e2:=hR.blk.cell 6 rfl;rw[e1] at e2;injection e2 with e2
  injection e2 with e2
  subst e2;exact⟨(h4 ad e).1,(h4 ad e).2.1⟩)
 have t1:(M.kind == 1)=false:=by simp[hk1]
 have t6:(M.kind == 6)=false:=by simp[hk6]
 have t8:(M.kind == 8)=false:=by simp[hk8]
 have t7:(M.kind == 7)=false:=by simp[hno]
 have u1:(S.st == 1)=false:=by simp[hst]
 have u2:(S.st == 2)=true:=by simp[hst]
 have u3:(S.st == 3)=false:=by simp[hst]
 have u4:(S.st == 4)=false:=by simp[hst]
 have u5:(S.st == 5)=false:=by simp[hst]
 have u6:(S.st == 6)=false:=by simp[hst]
 have u0:(S.st != 0)=true:=by simp[hst]
 have HS0:Hid (S.st≠0):=zak (by omega);have HH:=zak (hR.new2 rfl 30 118 (msL_ M A3 m3 c3) (outL_ none 0 0 outZ none 0 0));clear hP hS hS0 hR hk1 hk6 hk8 hst hno;unfold msL_ outL_ outZ at HH;unfold msV;go_enter Tryz.func48,Tryz.ntmps48
 go_upto_region 1 with fail
 refine zb6 (P:=fun W=>RN w G p (rbkL S pd A n1 c1) [⟨w.heap.size+1,118,outL_ none 0 0 outZ none 0 0⟩,⟨w.heap.size,30,msL_ M A3 m3 c3⟩] [⟨A,n1,c1,S.b⟩] W) HH.out (fun W hW=>?_);clear HH;have HX:=zak hW;have k1:=hW.k1;have bb:=hW.blk;have hne0:w.heap.size≠p:=by omega
 have hne1:w.heap.size+1≠p:=by omega
 clear hW;unfold msL_ at k1;unfold rbkL at bb;have zk1:=k1.lt;have zp:=bb.lt;obtain⟨am,ai,aj,an,ah,ak,al,ao,ap,aq,aa,ab,ac,ae⟩:=zbd k1;have aD:=k1.frozen;obtain⟨ar,au,av,aw,ax,ay,az,aA,aB,aC,af,ag⟩:=zbc bb;have aE:=bb.frozen;go_upto_region 4 with fail
 refine zb6 (P:=fun W=>RN w G p (rbkL S pd A n1 c1) [⟨w.heap.size+1,118,outL_ none 0 0 outZ none 0 0⟩,⟨w.heap.size,30,msL_ M A3 m3 c3⟩] [⟨A,n1,c1,S.b⟩] W) HX.out (fun W4 h4=>?_);clear am ai aj an ah ak al ao ap aq aa ab ac ae aD;clear ar au av aw ax ay az aA aB aC af ag aE;clear HX k1 bb zk1 zp;have HX4:=zak h4;have k1:=h4.k1;have kk:=h4.k0;have bb:=h4.blk;have hwz:w.heap.size+2≤W4.heap.size:=by have:=h4.k0.lt;show _+1 < _;exact this
 clear h4;unfold msL_ at k1;unfold outL_ outZ at kk;unfold rbkL at bb;try dsimp only at bb
 have zk1:=k1.lt;have zkk:=kk.lt;have zp:=bb.lt;obtain⟨am,ai,aj,an,ah,ak,al,ao,ap,aq,aa,ab,ac,ae⟩:=zbd k1;have aD:=k1.frozen;obtain⟨aK,aL,aM,aN,aO⟩:=za9 kk;have aQ:=kk.frozen;obtain⟨ar,au,av,aw,ax,ay,az,aA,aB,aC,af,ag⟩:=zbc bb;have aE:=bb.frozen;have HAB:=zak (zkn S A n1 c1 84148225 W4 HX4.out HS0.out);go_wp2_with fail
 all_goals
  refine HAB.out.mono ?_;rintro e w8 ⟨g8,hg8,rfl,hM8,hR8,ho8⟩;have HX8:=zak hR8;have zg8:w.heap.size+2≤g8:=Nat.le_trans hwz hg8;have HM8:=zak hM8;have k2:=hR8.k0;unfold outL_ outZ at k2;have zk2:=k2.lt;clear aK aL aM aN aO aQ;clear ar au av aw ax ay az aA aB aC af ag aE;clear am ai aj an ah ak al ao ap aq aa ab ac ae aD;obtain⟨aF,aG,aH,aI,aJ⟩:=za9 k2;have aP:=k2.frozen;clear hM8 hR8 ho8 HAB;go_wp2_with fail
  obtain⟨F1,F2⟩:=zkt (S:=blkIdle S) (M:=abM S.ix S.sub 84148225) (ks:=[]) (HX8.out.sub (by simp)) (List.mem_singleton.2 rfl) (fun r hr=>by simp at hr;subst hr;exact HRW.out) HM8.out zg8 (zbs.nil _ _);rw[←HP.out] at F2;unfold putO outZ at F1 F2;dsimp only at F1 F2;exact zkf (O:=outZ) rfl rfl rfl F1 F2
theorem zl2 (p:Nat)(S:BlkS)(G:Nat→Prop)(M:Ms)(A3:Option Addr)(m3 c3:Nat)(w:World)(hk1:M.kind≠1)(hk6:M.kind≠6)(hk8:M.kind≠8)(hst:S.st=4)(hno:M.kind≠9)(hS:RBV w G p pd S) :
 Calls Tryz.prog 48 #[.pointer (some ⟨p,0,none⟩),.agg (msV M A3 m3 c3)] w (RBO w G p pd (blkIdle S) (outM (abM S.ix S.sub 84148225))):=by
 have hS0:=hS;obtain⟨A,n1,c1,hR⟩:=hS.rn;obtain⟨P,hP⟩:∃P,P=RBO w G p pd (blkIdle S) (outM (abM S.ix S.sub 84148225)):=⟨_,rfl⟩;rw[←hP];have HP:=zak hP;have hz:=hR.lt;have HRW:Hid (∀ad,A=some ad→ad.block≠w.heap.size+1):=zak (fun ad e=>by have:=((hR.rows _ (List.mem_singleton.2 rfl)).2.2.2 ad e).2.1;omega);have HGA:Hid (∀ad,A=some ad→G ad.block∧ad.block < w.heap.size):=zak (fun ad e=>by
  obtain⟨A',n',c',hB',h1,h2,h3,h4⟩:=hS0;have e1:=hB'.cell 6 rfl;have e2:=hR.blk.cell 6 rfl;rw[e1] at e2;injection e2 with e2
  injection e2 with e2
  subst e2;exact⟨(h4 ad e).1,(h4 ad e).2.1⟩)
 have t1:(M.kind == 1)=false:=by simp[hk1]
 have t6:(M.kind == 6)=false:=by simp[hk6]
 have t8:(M.kind == 8)=false:=by simp[hk8]
 have t9:(M.kind == 9)=false:=by simp[hno]
 have u1:(S.st == 1)=false:=by simp[hst]
 have u2:(S.st == 2)=false:=by simp[hst]
 have u3:(S.st == 3)=false:=by simp[hst]
 have u4:(S.st == 4)=true:=by simp[hst]
 have u5:(S.st == 5)=false:=by simp[hst]
 have u6:(S.st == 6)=false:=by simp[hst]
 have u0:(S.st != 0)=true:=by simp[hst]
 have HS0:Hid (S.st≠0):=zak (by omega);have HH:=zak (hR.new2 rfl 30 118 (msL_ M A3 m3 c3) (outL_ none 0 0 outZ none 0 0));clear hP hS hS0 hR hk1 hk6 hk8 hst hno;unfold msL_ outL_ outZ at HH;unfold msV;go_enter Tryz.func48,Tryz.ntmps48
 go_upto_region 1 with fail
 refine zb6 (P:=fun W=>RN w G p (rbkL S pd A n1 c1) [⟨w.heap.size+1,118,outL_ none 0 0 outZ none 0 0⟩,⟨w.heap.size,30,msL_ M A3 m3 c3⟩] [⟨A,n1,c1,S.b⟩] W) HH.out (fun W hW=>?_);clear HH;have HX:=zak hW;have k1:=hW.k1;have bb:=hW.blk;have hne0:w.heap.size≠p:=by omega
 have hne1:w.heap.size+1≠p:=by omega
 clear hW;unfold msL_ at k1;unfold rbkL at bb;have zk1:=k1.lt;have zp:=bb.lt;obtain⟨am,ai,aj,an,ah,ak,al,ao,ap,aq,aa,ab,ac,ae⟩:=zbd k1;have aD:=k1.frozen;obtain⟨ar,au,av,aw,ax,ay,az,aA,aB,aC,af,ag⟩:=zbc bb;have aE:=bb.frozen;go_upto_region 4 with fail
 refine zb6 (P:=fun W=>RN w G p (rbkL S pd A n1 c1) [⟨w.heap.size+1,118,outL_ none 0 0 outZ none 0 0⟩,⟨w.heap.size,30,msL_ M A3 m3 c3⟩] [⟨A,n1,c1,S.b⟩] W) HX.out (fun W4 h4=>?_);clear am ai aj an ah ak al ao ap aq aa ab ac ae aD;clear ar au av aw ax ay az aA aB aC af ag aE;clear HX k1 bb zk1 zp;have HX4:=zak h4;have k1:=h4.k1;have kk:=h4.k0;have bb:=h4.blk;have hwz:w.heap.size+2≤W4.heap.size:=by have:=h4.k0.lt;show _+1 < _;exact this
 clear h4;unfold msL_ at k1;unfold outL_ outZ at kk;unfold rbkL at bb;try dsimp only at bb
 have zk1:=k1.lt;have zkk:=kk.lt;have zp:=bb.lt;obtain⟨am,ai,aj,an,ah,ak,al,ao,ap,aq,aa,ab,ac,ae⟩:=zbd k1;have aD:=k1.frozen;obtain⟨aK,aL,aM,aN,aO⟩:=za9 kk;have aQ:=kk.frozen;obtain⟨ar,au,av,aw,ax,ay,az,aA,aB,aC,af,ag⟩:=zbc bb;have aE:=bb.frozen;have HAB:=zak (zkn S A n1 c1 84148225 W4 HX4.out HS0.out);go_wp2_with fail
 all_goals
  refine HAB.out.mono ?_;rintro e w8 ⟨g8,hg8,rfl,hM8,hR8,ho8⟩;have HX8:=zak hR8;have zg8:w.heap.size+2≤g8:=Nat.le_trans hwz hg8;have HM8:=zak hM8;have k2:=hR8.k0;unfold outL_ outZ at k2;have zk2:=k2.lt;clear aK aL aM aN aO aQ;clear ar au av aw ax ay az aA aB aC af ag aE;clear am ai aj an ah ak al ao ap aq aa ab ac ae aD;obtain⟨aF,aG,aH,aI,aJ⟩:=za9 k2;have aP:=k2.frozen;clear hM8 hR8 ho8 HAB;go_wp2_with fail
  obtain⟨F1,F2⟩:=zkt (S:=blkIdle S) (M:=abM S.ix S.sub 84148225) (ks:=[]) (HX8.out.sub (by simp)) (List.mem_singleton.2 rfl) (fun r hr=>by simp at hr;subst hr;exact HRW.out) HM8.out zg8 (zbs.nil _ _);rw[←HP.out] at F2;unfold putO outZ at F1 F2;dsimp only at F1 F2;exact zkf (O:=outZ) rfl rfl rfl F1 F2
theorem zl3 (p:Nat)(S:BlkS)(G:Nat→Prop)(M:Ms)(A3:Option Addr)(m3 c3:Nat)(w:World)(hk1:M.kind≠1)(hk6:M.kind≠6)(hk8:M.kind≠8)(hst:S.st=5)(hno:M.kind≠10)(hS:RBV w G p pd S) :
 Calls Tryz.prog 48 #[.pointer (some ⟨p,0,none⟩),.agg (msV M A3 m3 c3)] w (RBO w G p pd (blkIdle S) (outM (abM S.ix S.sub 84148225))):=by
 have hS0:=hS;obtain⟨A,n1,c1,hR⟩:=hS.rn;obtain⟨P,hP⟩:∃P,P=RBO w G p pd (blkIdle S) (outM (abM S.ix S.sub 84148225)):=⟨_,rfl⟩;rw[←hP];have HP:=zak hP;have hz:=hR.lt;have HRW:Hid (∀ad,A=some ad→ad.block≠w.heap.size+1):=zak (fun ad e=>by have:=((hR.rows _ (List.mem_singleton.2 rfl)).2.2.2 ad e).2.1;omega);have HGA:Hid (∀ad,A=some ad→G ad.block∧ad.block < w.heap.size):=zak (fun ad e=>by
  obtain⟨A',n',c',hB',h1,h2,h3,h4⟩:=hS0;have e1:=hB'.cell 6 rfl;have e2:=hR.blk.cell 6 rfl;rw[e1] at e2;injection e2 with e2
  injection e2 with e2
  subst e2;exact⟨(h4 ad e).1,(h4 ad e).2.1⟩)
 have t1:(M.kind == 1)=false:=by simp[hk1]
 have t6:(M.kind == 6)=false:=by simp[hk6]
 have t8:(M.kind == 8)=false:=by simp[hk8]
 have t10:(M.kind == 10)=false:=by simp[hno]
 have u1:(S.st == 1)=false:=by simp[hst]
 have u2:(S.st == 2)=false:=by simp[hst]
 have u3:(S.st == 3)=false:=by simp[hst]
 have u4:(S.st == 4)=false:=by simp[hst]
 have u5:(S.st == 5)=true:=by simp[hst]
 have u6:(S.st == 6)=false:=by simp[hst]
 have u0:(S.st != 0)=true:=by simp[hst]
 have HS0:Hid (S.st≠0):=zak (by omega);have HH:=zak (hR.new2 rfl 30 118 (msL_ M A3 m3 c3) (outL_ none 0 0 outZ none 0 0));clear hP hS hS0 hR hk1 hk6 hk8 hst hno;unfold msL_ outL_ outZ at HH;unfold msV;go_enter Tryz.func48,Tryz.ntmps48
 go_upto_region 1 with fail
 refine zb6 (P:=fun W=>RN w G p (rbkL S pd A n1 c1) [⟨w.heap.size+1,118,outL_ none 0 0 outZ none 0 0⟩,⟨w.heap.size,30,msL_ M A3 m3 c3⟩] [⟨A,n1,c1,S.b⟩] W) HH.out (fun W hW=>?_);clear HH;have HX:=zak hW;have k1:=hW.k1;have bb:=hW.blk;have hne0:w.heap.size≠p:=by omega
 have hne1:w.heap.size+1≠p:=by omega
 clear hW;unfold msL_ at k1;unfold rbkL at bb;have zk1:=k1.lt;have zp:=bb.lt;obtain⟨am,ai,aj,an,ah,ak,al,ao,ap,aq,aa,ab,ac,ae⟩:=zbd k1;have aD:=k1.frozen;obtain⟨ar,au,av,aw,ax,ay,az,aA,aB,aC,af,ag⟩:=zbc bb;have aE:=bb.frozen;go_upto_region 4 with fail
 refine zb6 (P:=fun W=>RN w G p (rbkL S pd A n1 c1) [⟨w.heap.size+1,118,outL_ none 0 0 outZ none 0 0⟩,⟨w.heap.size,30,msL_ M A3 m3 c3⟩] [⟨A,n1,c1,S.b⟩] W) HX.out (fun W4 h4=>?_);clear am ai aj an ah ak al ao ap aq aa ab ac ae aD;clear ar au av aw ax ay az aA aB aC af ag aE;clear HX k1 bb zk1 zp;have HX4:=zak h4;have k1:=h4.k1;have kk:=h4.k0;have bb:=h4.blk;have hwz:w.heap.size+2≤W4.heap.size:=by have:=h4.k0.lt;show _+1 < _;exact this
 clear h4;unfold msL_ at k1;unfold outL_ outZ at kk;unfold rbkL at bb;try dsimp only at bb
 have zk1:=k1.lt;have zkk:=kk.lt;have zp:=bb.lt;obtain⟨am,ai,aj,an,ah,ak,al,ao,ap,aq,aa,ab,ac,ae⟩:=zbd k1;have aD:=k1.frozen;obtain⟨aK,aL,aM,aN,aO⟩:=za9 kk;have aQ:=kk.frozen;obtain⟨ar,au,av,aw,ax,ay,az,aA,aB,aC,af,ag⟩:=zbc bb;have aE:=bb.frozen;have HAB:=zak (zkn S A n1 c1 84148225 W4 HX4.out HS0.out);go_wp2_with fail
 all_goals
  refine HAB.out.mono ?_;rintro e w8 ⟨g8,hg8,rfl,hM8,hR8,ho8⟩;have HX8:=zak hR8;have zg8:w.heap.size+2≤g8:=Nat.le_trans hwz hg8;have HM8:=zak hM8;have k2:=hR8.k0;unfold outL_ outZ at k2;have zk2:=k2.lt;clear aK aL aM aN aO aQ;clear ar au av aw ax ay az aA aB aC af ag aE;clear am ai aj an ah ak al ao ap aq aa ab ac ae aD;obtain⟨aF,aG,aH,aI,aJ⟩:=za9 k2;have aP:=k2.frozen;clear hM8 hR8 ho8 HAB;go_wp2_with fail
  obtain⟨F1,F2⟩:=zkt (S:=blkIdle S) (M:=abM S.ix S.sub 84148225) (ks:=[]) (HX8.out.sub (by simp)) (List.mem_singleton.2 rfl) (fun r hr=>by simp at hr;subst hr;exact HRW.out) HM8.out zg8 (zbs.nil _ _);rw[←HP.out] at F2;unfold putO outZ at F1 F2;dsimp only at F1 F2;exact zkf (O:=outZ) rfl rfl rfl F1 F2
theorem zl4 (p:Nat)(S:BlkS)(G:Nat→Prop)(M:Ms)(A3:Option Addr)(m3 c3:Nat)(w:World)(hk1:M.kind≠1)(hk6:M.kind≠6)(hk8:M.kind≠8)(hst:S.st=6)(hno:M.kind≠11)(hS:RBV w G p pd S) :
 Calls Tryz.prog 48 #[.pointer (some ⟨p,0,none⟩),.agg (msV M A3 m3 c3)] w (RBO w G p pd (blkIdle S) (outM (abM S.ix S.sub 84148225))):=by
 have hS0:=hS;obtain⟨A,n1,c1,hR⟩:=hS.rn;obtain⟨P,hP⟩:∃P,P=RBO w G p pd (blkIdle S) (outM (abM S.ix S.sub 84148225)):=⟨_,rfl⟩;rw[←hP];have HP:=zak hP;have hz:=hR.lt;have HRW:Hid (∀ad,A=some ad→ad.block≠w.heap.size+1):=zak (fun ad e=>by have:=((hR.rows _ (List.mem_singleton.2 rfl)).2.2.2 ad e).2.1;omega);have HGA:Hid (∀ad,A=some ad→G ad.block∧ad.block < w.heap.size):=zak (fun ad e=>by
  obtain⟨A',n',c',hB',h1,h2,h3,h4⟩:=hS0;have e1:=hB'.cell 6 rfl;have e2:=hR.blk.cell 6 rfl;rw[e1] at e2;injection e2 with e2
  injection e2 with e2
  subst e2;exact⟨(h4 ad e).1,(h4 ad e).2.1⟩)
 have t1:(M.kind == 1)=false:=by simp[hk1]
 have t6:(M.kind == 6)=false:=by simp[hk6]
 have t8:(M.kind == 8)=false:=by simp[hk8]
 have t11:(M.kind == 11)=false:=by simp[hno]
 have u1:(S.st == 1)=false:=by simp[hst]
 have u2:(S.st == 2)=false:=by simp[hst]
 have u3:(S.st == 3)=false:=by simp[hst]
 have u4:(S.st == 4)=false:=by simp[hst]
 have u5:(S.st == 5)=false:=by simp[hst]
 have u6:(S.st == 6)=true:=by simp[hst]
 have u0:(S.st != 0)=true:=by simp[hst]
 have HS0:Hid (S.st≠0):=zak (by omega);have HH:=zak (hR.new2 rfl 30 118 (msL_ M A3 m3 c3) (outL_ none 0 0 outZ none 0 0));clear hP hS hS0 hR hk1 hk6 hk8 hst hno;unfold msL_ outL_ outZ at HH;unfold msV;go_enter Tryz.func48,Tryz.ntmps48
 go_upto_region 1 with fail
 refine zb6 (P:=fun W=>RN w G p (rbkL S pd A n1 c1) [⟨w.heap.size+1,118,outL_ none 0 0 outZ none 0 0⟩,⟨w.heap.size,30,msL_ M A3 m3 c3⟩] [⟨A,n1,c1,S.b⟩] W) HH.out (fun W hW=>?_);clear HH;have HX:=zak hW;have k1:=hW.k1;have bb:=hW.blk;have hne0:w.heap.size≠p:=by omega
 have hne1:w.heap.size+1≠p:=by omega
 clear hW;unfold msL_ at k1;unfold rbkL at bb;have zk1:=k1.lt;have zp:=bb.lt;obtain⟨am,ai,aj,an,ah,ak,al,ao,ap,aq,aa,ab,ac,ae⟩:=zbd k1;have aD:=k1.frozen;obtain⟨ar,au,av,aw,ax,ay,az,aA,aB,aC,af,ag⟩:=zbc bb;have aE:=bb.frozen;go_upto_region 4 with fail
 refine zb6 (P:=fun W=>RN w G p (rbkL S pd A n1 c1) [⟨w.heap.size+1,118,outL_ none 0 0 outZ none 0 0⟩,⟨w.heap.size,30,msL_ M A3 m3 c3⟩] [⟨A,n1,c1,S.b⟩] W) HX.out (fun W4 h4=>?_);clear am ai aj an ah ak al ao ap aq aa ab ac ae aD;clear ar au av aw ax ay az aA aB aC af ag aE;clear HX k1 bb zk1 zp;have HX4:=zak h4;have k1:=h4.k1;have kk:=h4.k0;have bb:=h4.blk;have hwz:w.heap.size+2≤W4.heap.size:=by have:=h4.k0.lt;show _+1 < _;exact this
 clear h4;unfold msL_ at k1;unfold outL_ outZ at kk;unfold rbkL at bb;try dsimp only at bb
 have zk1:=k1.lt;have zkk:=kk.lt;have zp:=bb.lt;obtain⟨am,ai,aj,an,ah,ak,al,ao,ap,aq,aa,ab,ac,ae⟩:=zbd k1;have aD:=k1.frozen;obtain⟨aK,aL,aM,aN,aO⟩:=za9 kk;have aQ:=kk.frozen;obtain⟨ar,au,av,aw,ax,ay,az,aA,aB,aC,af,ag⟩:=zbc bb;have aE:=bb.frozen;have HAB:=zak (zkn S A n1 c1 84148225 W4 HX4.out HS0.out);go_wp2_with fail
 all_goals
  refine HAB.out.mono ?_;rintro e w8 ⟨g8,hg8,rfl,hM8,hR8,ho8⟩;have HX8:=zak hR8;have zg8:w.heap.size+2≤g8:=Nat.le_trans hwz hg8;have HM8:=zak hM8;have k2:=hR8.k0;unfold outL_ outZ at k2;have zk2:=k2.lt;clear aK aL aM aN aO aQ;clear ar au av aw ax ay az aA aB aC af ag aE;clear am ai aj an ah ak al ao ap aq aa ab ac ae aD;obtain⟨aF,aG,aH,aI,aJ⟩:=za9 k2;have aP:=k2.frozen;clear hM8 hR8 ho8 HAB;go_wp2_with fail
  obtain⟨F1,F2⟩:=zkt (S:=blkIdle S) (M:=abM S.ix S.sub 84148225) (ks:=[]) (HX8.out.sub (by simp)) (List.mem_singleton.2 rfl) (fun r hr=>by simp at hr;subst hr;exact HRW.out) HM8.out zg8 (zbs.nil _ _);rw[←HP.out] at F2;unfold putO outZ at F1 F2;dsimp only at F1 F2;exact zkf (O:=outZ) rfl rfl rfl F1 F2
end
end
end Go.Proofs.YtkkpjbjmhaecjaaGreat
