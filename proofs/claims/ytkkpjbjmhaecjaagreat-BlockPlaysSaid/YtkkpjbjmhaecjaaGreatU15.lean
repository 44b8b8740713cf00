/- None -/
import Derived.Test.YtkkpjbjmhaecjaaGreatU14
namespace Go.Proofs.YtkkpjbjmhaecjaaGreat
set_option linter.all false
set_option maxRecDepth 100000
set_option maxHeartbeats 4000000
section
open Go.RowKit
def BV_ (w:World) (G:Nat→Prop) (p pd:Nat) (S:BlkS):Prop:=
 ∃A n c,Blk w p 114 (bsrV S pd A n c)∧ (S.st≠0→n=S.b.length∧n≤c∧Sl w A (S.b.map bv)∧ (A=none→n=0)∧ ∀ad,A=some ad→G ad.block∧ad.block < w.heap.size∧ad.block≠p)
def BOutR (w:World) (G:Nat→Prop) (p pd:Nat) (S':BlkS) (O:SegO) (e:Ending) (w':World):Prop:=
 ∃X As ns cs A n c,e= .returned (.agg (outV As ns cs O A n c))∧ MsR w' w.heap.size X As ns cs O.ms∧zbs w' w.heap.size A n c O.b∧FIn X A∧BV_ w' (fun g=>(G g∨w.heap.size≤g)∧ ¬X g) p pd S'∧zbv (fun g=>g=p) w w'
theorem BV_.keep {w w':World}{G H:Nat→Prop}{p pd:Nat}{S:BlkS}(h:BV_ w G p pd S)(hk:∀q,q=p∨G q→q < w.heap.size→w'.heap[q]? =w.heap[q]?)(hz:w.heap.size≤w'.heap.size)(hH:∀q,q < w.heap.size→G q→H q):BV_ w' H p pd S:=by
 obtain⟨A,n,c,hB,hb⟩:=h;refine⟨A,n,c,(hk p (.inl rfl) hB.lt).trans hB,fun h0=>?_⟩;obtain⟨h1,h2,h3,h4,h5⟩:=hb h0;exact⟨h1,h2,zh9 h3 (fun ad e=>hk _ (.inr (h5 ad e).1) (h5 ad e).2.1),h4,fun ad e=>⟨hH _ (h5 ad e).2.1 (h5 ad e).1,Nat.lt_of_lt_of_le (h5 ad e).2.1 hz,(h5 ad e).2.2⟩⟩
theorem zi0 {W:World}{G:Nat→Prop}{p pd:Nat}{S:BlkS}{A:Option Addr}{n c:Nat}(h:Blk W p 114 (bsrV (blkIdle S) pd A n c)):BV_ W G p pd (blkIdle S):=⟨A,n,c,h,fun h=>absurd rfl h⟩
theorem zi1 {w w3:World}{G:Nat→Prop}{p pd g n c:Nat}{S':BlkS}{M:Ms}{A:Option Addr}(X:Nat→Prop)(hK:Blk w3 (w.heap.size+1) 93 (outV none 0 0 outZ none 0 0))(hg:w.heap.size+2≤g)(hM:Blk w3 g 95 (msV M A n c))(hO:zbs w3 (w.heap.size+2) A n c M.data)(hX:FIn X A)
 (hS:BV_ w3 (fun q=>((G q∨w.heap.size≤q)∧ ¬X q)∧ q≠w.heap.size+1) p pd S') (ho:zbv (fun q=>q=p) w w3) (hp:p < w.heap.size) :
 Blk (putO w3 (w.heap.size+1) (some ⟨g,0,none⟩) 1 1 outZ none 0 0) (w.heap.size+1) 93 (outV (some ⟨g,0,none⟩) 1 1 outZ none 0 0)∧ BOutR w G p pd S' (outM M) (.returned (.agg (outV (some ⟨g,0,none⟩) 1 1 outZ none 0 0))) (putO w3 (w.heap.size+1) (some ⟨g,0,none⟩) 1 1 outZ none 0 0):=by
 refine⟨zhs hK,X,some ⟨g,0,none⟩,1,1,none,0,0,rfl,.inr ⟨M,g,A,n,c,rfl,rfl,rfl,rfl,by omega,zht hM (by omega) _ _ _ _ _ _ _,(zhv hO (by omega) _ _ _ _ _ _ _).mono (by omega),hX⟩,zbs.nil _ _,FIn.nil _,?_,zhu ho (by omega) _ _ _ _ _ _ _⟩;exact hS.keep (fun q hq _=>zia (by rcases hq with rfl | hq;omega;exact hq.2) _ _ _ _ _ _ _) (by rw[zib];exact Nat.le_refl _) (fun q _ hq=>hq.1)
theorem zi2 {w w3:World}{G:Nat→Prop}{p pd:Nat}{S':BlkS}(hK:Blk w3 (w.heap.size+1) 93 (outV none 0 0 outZ none 0 0))(hS:BV_ w3 (fun q=>(G q∨w.heap.size≤q)∧ q≠w.heap.size+1) p pd S')(ho:zbv (fun q=>q=p) w w3)(hp:p < w.heap.size) :
 Blk (putO w3 (w.heap.size+1) none 0 0 outZ none 0 0) (w.heap.size+1) 93 (outV none 0 0 outZ none 0 0)∧ BOutR w G p pd S' outZ (.returned (.agg (outV none 0 0 outZ none 0 0))) (putO w3 (w.heap.size+1) none 0 0 outZ none 0 0):=by
 refine⟨zhs hK,fun _=>False,none,0,0,none,0,0,rfl,.inl ⟨rfl,rfl,rfl,rfl⟩,zbs.nil _ _,FIn.nil _,?_,zhu ho (by omega) _ _ _ _ _ _ _⟩;exact hS.keep (fun q hq _=>zia (by rcases hq with rfl | hq;omega;exact hq.2) _ _ _ _ _ _ _) (by rw[zib];exact Nat.le_refl _) (fun q _ hq=>⟨hq.1,id⟩)
theorem zi3 {w w3:World}{G:Nat→Prop}{p pd:Nat}{S':BlkS}{ix sub:Int}{b:List UInt8}{A:Option Addr}{n c:Nat}(X:Nat→Prop)(hK:Blk w3 (w.heap.size+1) 93 (outV none 0 0 outZ none 0 0))(hO:zbs w3 (w.heap.size+2) A n c b)(hX:FIn X A)
 (hS:BV_ w3 (fun q=>((G q∨w.heap.size≤q)∧ ¬X q)∧ q≠w.heap.size+1) p pd S') (ho:zbv (fun q=>q=p) w w3) (hp:p < w.heap.size) :
 Blk (putO w3 (w.heap.size+1) none 0 0 ⟨[],true,ix,sub,b⟩ A n c) (w.heap.size+1) 93 (outV none 0 0 ⟨[],true,ix,sub,b⟩ A n c)∧ BOutR w G p pd S' ⟨[],true,ix,sub,b⟩ (.returned (.agg (outV none 0 0 ⟨[],true,ix,sub,b⟩ A n c))) (putO w3 (w.heap.size+1) none 0 0 ⟨[],true,ix,sub,b⟩ A n c):=by
 refine⟨zhs hK,X,none,0,0,A,n,c,rfl,.inl ⟨rfl,rfl,rfl,rfl⟩,(zhv hO (by omega) _ _ _ _ _ _ _).mono (by omega),hX,?_,zhu ho (by omega) _ _ _ _ _ _ _⟩;exact hS.keep (fun q hq _=>zia (by rcases hq with rfl | hq;omega;exact hq.2) _ _ _ _ _ _ _) (by rw[zib];exact Nat.le_refl _) (fun q _ hq=>hq.1)
def BX (w:World) (p pd:Nat) (K:Nat→TypeId→Array Value→Prop) (S:BlkS) (A:Option Addr) (n c:Nat) (W:World):Prop:=
 zbv (fun q=>q=p) w W∧Blk W p 114 (bsrV S pd A n c)∧ (∀q t cs,K q t cs→q≠p∧Blk W q t cs)∧ w.heap.size+2≤W.heap.size
theorem BX.step {w W W':World}{p pd:Nat}{K:Nat→TypeId→Array Value→Prop}{S:BlkS}{A:Option Addr}{n c:Nat}(h:BX w p pd K S A n c W)(hb:Below W.heap.size W W'):BX w p pd K S A n c W':=
 ⟨h.1.step hb,h.2.1.below hb h.2.1.lt,fun q t cs hq=>⟨(h.2.2.1 q t cs hq).1,(h.2.2.1 q t cs hq).2.below hb (h.2.2.1 q t cs hq).2.lt⟩,Nat.le_trans h.2.2.2 hb.size⟩
theorem BX.sets {w W:World}{p pd:Nat}{K:Nat→TypeId→Array Value→Prop}{S S':BlkS}{A A':Option Addr}{n c n' c':Nat}(h:BX w p pd K S A n c W)(vs:List Value)(o:Nat)(hl:o+vs.length≤12)(he:((bsrV S pd A n c).toList.take o ++ vs ++ (bsrV S pd A n c).toList.drop (o+vs.length)).toArray=bsrV S' pd A' n' c'):BX w p pd K S' A' n' c' (W.setCells p o vs):=by
 have s:=zb3 vs o (l:=(bsrV S pd A n c).toList) h.2.1 (by simpa [bsrV] using hl);rw[he] at s;have o1:zbv (fun q=>q=p) W (W.setCells p o vs):=zb4 (F:=fun q=>q=p) rfl _ _ (zbv.refl _ _);exact⟨h.1.trans o1 (fun _ _ h=>h),s,fun q t cs hq=>⟨(h.2.2.1 q t cs hq).1,zhe (h.2.2.1 q t cs hq).2 o1 (h.2.2.1 q t cs hq).1⟩,by rw[zb5];exact h.2.2.2⟩
theorem BX.drew {w W:World}{p pd:Nat}{K:Nat→TypeId→Array Value→Prop}{S:BlkS}{A:Option Addr}{n c:Nat}(h:BX w p pd K S A n c W):BX w p pd K S A n c W.drew:=⟨h.1.drew,h.2.1,h.2.2.1,h.2.2.2⟩
def KMO (w:World) (M:Ms) (A3:Option Addr) (m3 c3:Nat) (q:Nat) (t:TypeId) (cs:Array Value):Prop:=
 (q=w.heap.size∧t=95∧cs=msV M A3 m3 c3)∨ (q=w.heap.size+1∧t=93∧cs=outV none 0 0 outZ none 0 0)
theorem zi4 {w:World}{p pd:Nat}{S:BlkS}{A:Option Addr}{n1 c1:Nat}(M:Ms)(A3:Option Addr)(m3 c3:Nat)(hB:Blk w p 114 (bsrV S pd A n1 c1)) :
 BX w p pd (KMO w M A3 m3 c3) S A n1 c1 ((w.alloc (.cells (msV M A3 m3 c3) 95)).alloc (.cells (outV none 0 0 outZ none 0 0) 93)):=by
 obtain⟨k1,k2⟩:=zbg w 95 93 (msV M A3 m3 c3) (outV none 0 0 outZ none 0 0);have hbw:=za7 (za7 (Below.refl w.heap.size w) (.cells (msV M A3 m3 c3) 95)) (.cells (outV none 0 0 outZ none 0 0) 93);have hz:=hB.lt;refine⟨zbv.of_below hbw,hB.below hbw hB.lt,?_,by simp⟩;rintro q t cs (⟨rfl,rfl,rfl⟩ | ⟨rfl,rfl,rfl⟩)
 · exact⟨by omega,k1⟩
 · exact⟨by omega,k2⟩
theorem BX.msg {w W:World}{p pd:Nat}{M:Ms}{A3:Option Addr}{m3 c3:Nat}{S:BlkS}{A:Option Addr}{n c:Nat}(h:BX w p pd (KMO w M A3 m3 c3) S A n c W):Blk W w.heap.size 95 (msV M A3 m3 c3):=(h.2.2.1 _ _ _ (.inl ⟨rfl,rfl,rfl⟩)).2
theorem BX.out {w W:World}{p pd:Nat}{M:Ms}{A3:Option Addr}{m3 c3:Nat}{S:BlkS}{A:Option Addr}{n c:Nat}(h:BX w p pd (KMO w M A3 m3 c3) S A n c W):Blk W (w.heap.size+1) 93 (outV none 0 0 outZ none 0 0):=(h.2.2.1 _ _ _ (.inr ⟨rfl,rfl,rfl⟩)).2
section
variable {F:Nat→Prop} {pd gl n cl cv:Nat} {Av:Option Addr} {L:List Ent} {V:List (List UInt8)} {ds es:List (Option Addr×Nat)}
theorem zi5 (p:Nat)(S:BlkS)(G:Nat→Prop)(M:Ms)(A3:Option Addr)(m3 c3:Nat)(w:World)(hD:DB 100 w F pd (some ⟨gl,0,none⟩) n cl Av cv L V ds es)(hs:SortedE L)(hn:n≤1000)
 (hp: ¬F p) (hS:BV_ w G p pd S) (hsz:M.size≤4294967295) :
 Calls Tryz.prog 87 #[.pointer (some ⟨p,0,none⟩),.agg (msV M A3 m3 c3)] w (BOutR w G p pd (bdownS L S M) (bdownO L M)):=by
 obtain⟨A,n1,c1,hB,hby⟩:=id hS;obtain⟨P,hP⟩:∃P,P=BOutR w G p pd (bdownS L S M) (bdownO L M):=⟨_,rfl⟩;rw[←hP];have HP:=zak hP;have hz:=hB.lt;have HS0:Hid (BV_ w G p pd S):=zak hS;have HS:=zak hs;have H1:=zak hn;have HD:=zak (fun W (h:zbv (fun q=>q=p) w W)=> hD.keep (w':=W) (fun g hg hlt=>h.block g hlt (fun e=>hp (e ▸ hg))));have HH:=zak (zi4 (S:=S) (pd:=pd) (A:=A) (n1:=n1) (c1:=c1) M A3 m3 c3 hB);have HB0:=zak (za7 (za7 (Below.refl w.heap.size w) (.cells (msV M A3 m3 c3) 95)) (.cells (outV none 0 0 outZ none 0 0) 93));clear hP hS hB hby hD hs hn;unfold msV outV outZ at HH HB0;unfold msV;go_enter Tryz.func87,Tryz.ntmps87
 go_wp2_with fail
 refine zb6 (P:=fun W=>BX w p pd (KMO w M A3 m3 c3) S A n1 c1 W∧Below w.heap.size w W) ⟨HH.out,HB0.out⟩ (fun W hW=>?_);clear HH HB0;obtain⟨hX,hbw⟩:=hW;have HX:=zak hX;have HBW:=zak hbw;have hK1:=hX.msg;have zW:=hX.2.1.lt;have zK:=hX.out.lt;have zK1:=hK1.lt;have b0:W.cell? ⟨p,6,none⟩=some (.pointer (some ⟨pd,0,none⟩)):=hX.2.1.cell 6 rfl;have b1:W.cell? ⟨w.heap.size,1,none⟩=some (.int .i64 M.ix):=hK1.cell 1 rfl;have b2:W.cell? ⟨w.heap.size,2,none⟩=some (.int .i64 M.sub):=hK1.cell 2 rfl;have HDW:=zak (HD.out W hX.1);clear hX hK1 hbw;go_cut [5,6] (fun s5 s6 wx=>DwnC W L M.ix M.sub s5 s6 wx)
 case first=>
  refine wp_region_held_drew (S:=(fun w'=>(∀qA:Addr,qA.block < (W).heap.size→w'.cell? qA=(W).cell? qA)∧ Below (W).heap.size (W) w')) (by kernel_rfl) ?hS1 (fun hHeld=>?rest1)
  case hS1=>exact kSn
  case' rest1=>skip
  iterate 8 (refine tkN ?_;try simp only[PqL,Act.put])
  refine wpAnyH_ready (rs:=[8,12]) (by kernel_rfl) (by simp) (AllReadyH.cons (o:=_) rfl (fun K hK=>?_) (AllReadyH.cons (o:=_) rfl (fun K hK=>?_) .nil))
  · go_simp
    refine (zhp M.ix M.sub _ (HDW.out.below (Below.drew (Below.refl _ _))) HS.out H1.out).mono ?_;rintro e w3 ⟨E,A4,n4,c4,rfl,hE,hb3⟩;unfold entV;dsimp only;replace hb3:=zhy hb3;have HE:=zak hE;clear hE;refine hK.out _ _ ?hS11 (fun hHeld=>?rest11)
    case hS11=>exact kSn
    case' rest11=>(clear hK K;try simp only[PqL,Act.put])
    refine tkH 9 ?_;try simp only[PqL,Act.put]
    refine tkH 10 ?_;try simp only[PqL,Act.put]
    refine tkH 11 ?_;try simp only[PqL,Act.put]
    refine kRd 12 (fun K hK=>?_)
    go_simp
    refine hK.out _ _ ?hS17 (fun hHeld=>?rest17)
    case hS17=>exact kSn
    case' rest17=>(clear hK K;try simp only[PqL,Act.put])
    refine kRd 13 (fun K hK=>?_)
    go_simp
    refine hK.out _ _ ?hS20 (fun hHeld=>?rest20)
    case hS20=>exact kSn
    case' rest20=>(clear hK K;try simp only[PqL,Act.put])
    refine tkH 14 ?_;try simp only[PqL,Act.put]
    refine wpAnyH_done (by kernel_rfl) ?_ _;have hEnd:=hHeld.2
    repeat (clear hHeld)
    go_wp2_with fail
    go_meet
    exact ziy hb3 HE.out
  · go_simp
    refine hK.out _ _ ?hS23 (fun hHeld=>?rest23)
    case hS23=>exact kSn
    case' rest23=>(clear hK K;try simp only[PqL,Act.put])
    refine kRd 8 (fun K hK=>?_)
    go_simp
    refine (zhp M.ix M.sub _ (HDW.out.below kBl) HS.out H1.out).mono ?_;rintro e w3 ⟨E,A4,n4,c4,rfl,hE,hb3⟩;unfold entV;dsimp only;have hb5:Below W.heap.size W w3:=ziu (z:= .cells (entV zeroE none 0 0) 90) (by simpa [entV,zeroE] using hb3);have hZ3:Blk w3 W.heap.size 90 (entV zeroE none 0 0):=ziv (by simpa [entV,zeroE] using hb3);have HZ3:=zak hZ3;have HE:=zak hE;unfold entV zeroE at hZ3;obtain⟨fk,fl,fm,fo,fp,fq,fs,ft,fu,fw,eL⟩:=zbb hZ3;have gi:=hZ3.frozen;clear hE hb3;refine hK.out _ _ ?hS26 (fun hHeld=>?rest26)
    case hS26=>exact kSn
    case' rest26=>(clear hK K;try simp only[PqL,Act.put])
    refine tkH 9 ?_;try simp only[PqL,Act.put]
    refine tkH 10 ?_;try simp only[PqL,Act.put]
    refine tkH 11 ?_;try simp only[PqL,Act.put]
    refine kRd 13 (fun K hK=>?_)
    go_simp
    refine hK.out _ _ ?hS32 (fun hHeld=>?rest32)
    case hS32=>exact kSn
    case' rest32=>(clear hK K;try simp only[PqL,Act.put])
    refine tkH 14 ?_;try simp only[PqL,Act.put]
    refine wpAnyH_done (by kernel_rfl) ?_ _;have hEnd:=hHeld.2
    repeat (clear hHeld)
    go_wp2_with fail
    go_meet
    have F:=ziz (L:=L) (ix:=M.ix) (sub:=M.sub) (A4:=A4) (n4:=n4) (c4:=c4) hb5 HZ3.out HE.out;unfold put11 at F;exact F
 case rest=>
  obtain⟨ge,E,A4,n4,c4,rfl,rfl,hge,hEb,hE,hbx⟩:=hcut;have HXW:=zak (HX.out.step hbx);have hbwy:=za5 hbx HBW.out;have hne0:w.heap.size≠p:=by omega
  have hgp:ge≠p:=by have:=HX.out.2.2.2;omega
  have k1:=HXW.out.msg;have bb:=HXW.out.2.1;have zk1:=k1.lt;have zp:=bb.lt;have zE:=hEb.lt;have HEB:=zak hEb;unfold msV at k1;unfold bsrV at bb;unfold entV at hEb;obtain⟨am,ai,aj,an,ah,ak,al,ao,ap,aq,aa,ab,ac,ae⟩:=zbd k1;have aD:=k1.frozen;obtain⟨bp,bq,bs,bt,bu,bw,bx,bz,bA,bB,bk⟩:=zbb hEb;have bT:=hEb.frozen;obtain⟨ar,au,av,aw,ax,ay,az,aA,aB,aC,af,ag⟩:=zbc bb;have aE:=bb.frozen;obtain⟨k0,hk0⟩:=ziw L M.ix M.sub;rw[hk0];by_cases hk:k0=0
  · have hsm:smayC L M.ix M.sub=0:=by rw[hk0,hk];rfl
    have HEK:Hid (E=entK L (locK L M.ix M.sub)):=zak (hE hsm);have HSM:=zak hsm;subst hk;clear hE hk0 hsm;cases hsz':M.sz
    · have HDC:Hid (bdcode L M=0):=zak (by unfold bdcode;rw[if_neg (by rw[hsz'];simp),HSM.out]);have HSZ:=zak hsz';have c3:(wc.setCell ⟨p,7,none⟩ (.int .i64 1)).cell? ⟨w.heap.size,1,none⟩=some (.int .i64 M.ix):=(k1.far (p:=⟨p,7,none⟩) hne0 _).cell 1 rfl;have c4':(wc.setCell ⟨p,7,none⟩ (.int .i64 1)).cell? ⟨w.heap.size,2,none⟩=some (.int .i64 M.sub):=(k1.far (p:=⟨p,7,none⟩) hne0 _).cell 2 rfl;have c5:((wc.setCell ⟨p,7,none⟩ (.int .i64 1)).setCell ⟨p,8,none⟩ (.int .i64 M.ix)).cell? ⟨w.heap.size,1,none⟩=some (.int .i64 M.ix):=((k1.far (p:=⟨p,7,none⟩) hne0 _).far (p:=⟨p,8,none⟩) hne0 _).cell 1 rfl
      have c6:((wc.setCell ⟨p,7,none⟩ (.int .i64 1)).setCell ⟨p,8,none⟩ (.int .i64 M.ix)).cell? ⟨w.heap.size,2,none⟩=some (.int .i64 M.sub):=((k1.far (p:=⟨p,7,none⟩) hne0 _).far (p:=⟨p,8,none⟩) hne0 _).cell 2 rfl;have X7:=(HXW.out.sets (S':={ S with st:=1,ix:=M.ix,sub:=M.sub }) [.int .i64 1,.int .i64 M.ix,.int .i64 M.sub] 7 (by simp) rfl);have HX7:=zak X7.drew;have hE7:Blk (wc.setCells p 7 [.int .i64 1,.int .i64 M.ix,.int .i64 M.sub]) ge 90 (entV E A4 n4 c4):=zhe hEb (zb4 (F:=fun q=>q=p) rfl _ _ (zbv.refl _ _)) hgp;have HE7:=zak hE7;simp only[World.setCells,Nat.reduceAdd] at HX7 HE7;clear X7 hE7
      go_wp2_with fail
      refine zaj (fun w'=>w'.cell? ⟨w.heap.size,1,none⟩=some (.int .i64 M.ix)∧ w'.cell? ⟨w.heap.size,2,none⟩=some (.int .i64 M.sub)) [0,1,2,3,4,5,6,7,8,10,11,13,14] (by kernel_rfl) ?hS35 (fun hHeld=>?rest35)
      case hS35=>((try dsimp only);exact⟨ai,aj⟩)
      case' rest35=>skip
      refine tkT 0 ?_;try simp only[PqL,Act.put]
      refine tkT 1 ?_;try simp only[PqL,Act.put]
      refine tkT 2 ?_;try simp only[PqL,Act.put]
      refine tkT 3 ?_;try simp only[PqL,Act.put]
      refine tkT 4 ?_;try simp only[PqL,Act.put]
      refine tkT 5 ?_;try simp only[PqL,Act.put]
      refine tkT 6 ?_;try simp only[PqL,Act.put]
      refine tkT 7 ?_;try simp only[PqL,Act.put]
      refine tkT 8 ?_;try simp only[PqL,Act.put]
      refine zag (i:=9) (o:=_) rfl (by kernel_rfl) (fun K hK=>?_)
      go_simp
      refine hK.out _ _ ?hS46 (fun hHeld=>?rest46)
      case hS46=>((try dsimp only);(exact⟨c3,c4'⟩))
      case' rest46=>(clear hK K;try simp only[PqL,Act.put])
      refine tkT 10 ?_;try simp only[PqL,Act.put]
      refine tkT 11 ?_;try simp only[PqL,Act.put]
      refine zag (i:=12) (o:=_) rfl (by kernel_rfl) (fun K hK=>?_)
      go_simp
      refine hK.out _ _ ?hS50 (fun hHeld=>?rest50)
      case hS50=>((try dsimp only);(exact⟨c5,c6⟩))
      case' rest50=>(clear hK K;try simp only[PqL,Act.put])
      refine tkT 13 ?_;try simp only[PqL,Act.put]
      refine tkT 14 ?_;try simp only[PqL,Act.put]
      refine zah (i:=15) (o:=_) rfl (by kernel_rfl) (by kernel_rfl) (fun K hK=>?_)
      go_simp
      refine hK.out _ _ ?rest54
      case' rest54=>(clear hK K;try simp only[PqL,Act.put])
      refine zai (by kernel_rfl) ?_ _
      repeat (clear hHeld)
      clear c3 c4' c5 c6;go_upto_region 9 with fail
      refine zb6 (P:=fun W2=>BX w p pd (KMO w M A3 m3 c3) { S with st:=1,ix:=M.ix,sub:=M.sub } A n1 c1 W2∧Blk W2 ge 90 (entV E A4 n4 c4)) ⟨HX7.out,HE7.out⟩ (fun W2 hW2=>?_);clear am ai aj an ah ak al ao ap aq aa ab ac ae aD;clear bp bq bs bt bu bw bx bz bA bB bk bT;clear ar au av aw ax ay az aA aB aC af ag aE;clear k1 hEb bb HX7 HE7;obtain⟨hX2,hEb⟩:=hW2;have HX2:=zak hX2;have zE2:=hEb.lt;unfold entV at hEb;obtain⟨bp,bq,bs,bt,bu,bw,bx,bz,bA,bB,bk⟩:=zbb hEb;have bT:=hEb.frozen;clear hX2;go_wp2_with fail
      refine (zhn E A4 n4 c4 _).mono ?_;rintro e w8 ⟨rfl,hb8⟩;obtain⟨me,hme⟩:∃me,me=mostE E:=⟨_,rfl⟩;rw[←hme];have HME:=zak hme;have HX8:=zak (HX2.out.step hb8);clear bp bq bs bt bu bw bx bz bA bB bk bT;clear hEb hme hb8;have X9:=(HX8.out.sets (S':={ S with st:=1,ix:=M.ix,sub:=M.sub,mo:=me,sz:=(-1),nx:=1 }) [.int .i64 me,.int .i64 (-1),.int .i64 1] 0 (by simp) rfl);have HX9:=zak X9;simp only[World.setCells,Nat.reduceAdd] at HX9;have bb:=HX8.out.2.1;have zp8:=bb.lt;unfold bsrV at bb;obtain⟨ar,au,av,aw,ax,ay,az,aA,aB,aC,af,ag⟩:=zbc bb;have aE:=bb.frozen;clear X9;go_upto_region 10 with fail
      refine zb6 (P:=fun W3=>BX w p pd (KMO w M A3 m3 c3) { S with st:=1,ix:=M.ix,sub:=M.sub,mo:=me,sz:=(-1),nx:=1 } A n1 c1 W3) HX9.out (fun W3 hW3=>?_);clear ar au av aw ax ay az aA aB aC af ag aE;clear HX9 bb;have HX3:=zak hW3;have k1:=hW3.msg;have bb:=hW3.2.1;have zp3:=bb.lt;have zk3:=k1.lt;have g1:(W3.setCell ⟨p,10,none⟩ (.slice none 0 0)).cell? ⟨w.heap.size,5,none⟩=some (.bool M.cr):=(k1.far (p:=⟨p,10,none⟩) hne0 _).cell 5 rfl;have X10:=(hW3.sets (S':=⟨me,(-1),1,S.ha,S.ta,S.ro,1,M.ix,M.sub,[],M.cr⟩) (A':=none) (n':=0) (c':=0) [.slice none 0 0,.bool M.cr] 10 (by simp) rfl);have HX10:=zak X10.drew
      simp only[World.setCells,Nat.reduceAdd] at HX10;unfold msV at k1;unfold bsrV at bb;obtain⟨am,ai,aj,an,ah,ak,al,ao,ap,aq,aa,ab,ac,ae⟩:=zbd k1;have aD:=k1.frozen;obtain⟨ar,au,av,aw,ax,ay,az,aA,aB,aC,af,ag⟩:=zbc bb;have aE:=bb.frozen;clear hW3 X10;go_wp2_with fail
      refine zaj (fun w'=>w'.cell? ⟨w.heap.size,5,none⟩=some (.bool M.cr)) [0,1,2,3,4,5,7,8] (by kernel_rfl) ?hS56 (fun hHeld=>?rest56)
      case hS56=>((try dsimp only);exact ak)
      case' rest56=>skip
      refine tkT 0 ?_;try simp only[PqL,Act.put]
      refine tkT 1 ?_;try simp only[PqL,Act.put]
      refine tkT 2 ?_;try simp only[PqL,Act.put]
      refine tkT 3 ?_;try simp only[PqL,Act.put]
      refine tkT 4 ?_;try simp only[PqL,Act.put]
      refine tkT 5 ?_;try simp only[PqL,Act.put]
      refine zag (i:=6) (o:=_) rfl (by kernel_rfl) (fun K hK=>?_)
      go_simp
      refine hK.out _ _ ?hS64 (fun hHeld=>?rest64)
      case hS64=>((try dsimp only);(exact g1))
      case' rest64=>(clear hK K;try simp only[PqL,Act.put])
      refine tkT 7 ?_;try simp only[PqL,Act.put]
      refine tkT 8 ?_;try simp only[PqL,Act.put]
      refine zah (i:=9) (o:=_) rfl (by kernel_rfl) (by kernel_rfl) (fun K hK=>?_)
      go_simp
      refine hK.out _ _ ?rest68
      case' rest68=>(clear hK K;try simp only[PqL,Act.put])
      refine zai (by kernel_rfl) ?_ _
      repeat (clear hHeld)
      clear g1;go_upto_region 11 with fail
      refine zb6 (P:=fun W4=>BX w p pd (KMO w M A3 m3 c3) ⟨me,(-1),1,S.ha,S.ta,S.ro,1,M.ix,M.sub,[],M.cr⟩ none 0 0 W4) HX10.out (fun W4 hW4=>?_);clear am ai aj an ah ak al ao ap aq aa ab ac ae aD;clear ar au av aw ax ay az aA aB aC af ag aE;clear HX10 k1 bb;have HND:Hid (bdownS L S M=⟨me,(-1),1,S.ha,S.ta,S.ro,1,M.ix,M.sub,[],M.cr⟩):=zak (by
       unfold bdownS;rw[if_neg (by rw[HDC.out];simp),←HEK.out,←HME.out,HSZ.out]
       rfl)
      have HR:Hid (P=BOutR w G p pd (bdownS L S M) (outM (bokM M.ix M.sub))):=zak (by
       rw[HP.out]
       congr 1
       unfold bdownO;rw[if_neg (by rw[HDC.out];simp)])
      have HX4:=zak (hW4.step (za7 (Below.refl _ _) (.cells (msV (bokM M.ix M.sub) none 0 0) 95)));have HG4:=zak (Blk.new W4 95 (msV (bokM M.ix M.sub) none 0 0));have k1:=hW4.msg;have zk4:=k1.lt;have zz4:=hW4.2.2.2;unfold msV at k1;unfold msV bokM at HX4 HG4;obtain⟨am,ai,aj,an,ah,ak,al,ao,ap,aq,aa,ab,ac,ae⟩:=zbd k1;have aD:=k1.frozen;clear hW4;go_wp2_with fail
      refine (zio (some ⟨W4.heap.size,0,none⟩) 1 1 _).mono ?_;rintro e w6 ⟨rfl,hb6⟩;have HX6:=zak (HX4.out.step hb6);have HG6:=zak (HG4.out.below hb6 HG4.out.lt);have HS6:Hid (BV_ w6 (fun q=>((G q∨w.heap.size≤q)∧ ¬False)∧ q≠w.heap.size+1) p pd (bdownS L S M)):=zak ⟨none,0,0,by rw[HND.out];exact HX6.out.2.1,fun _=>⟨by rw[HND.out];rfl,Nat.le_refl _,by rw[HND.out];intro j u hu;simp at hu,fun _=>rfl,fun ad h=>by cases h⟩⟩;have k2:=HX6.out.out;unfold outV outZ at k2;unfold outV outZ;dsimp only;clear am ai aj an ah ak al ao ap aq aa ab ac ae aD;obtain⟨aF,aG,aH,aI,aJ⟩:=za9 k2;have aP:=k2.frozen;clear hb6 k1
      go_wp2_with fail
      obtain⟨F1,F2⟩:=zi1 (fun _=>False) HX6.out.out (by omega) (M:=bokM M.ix M.sub) HG6.out (zbs.nil _ _) (FIn.nil _) HS6.out HX6.out.1 hz;rw[←HR.out] at F2;clear HR;unfold putO outZ at F1 F2;dsimp only at F1 F2;refine zhr (O:=⟨[],false,0,0,[]⟩) rfl rfl rfl F1 ?_;exact F2
    · have HF:=zak (fun W=>zho E M.size A4 n4 c4 W);obtain⟨kf,hkf⟩:=zix E M.size;rw[hkf] at HF;have HDC:Hid (bdcode L M=kf):=zak (by unfold bdcode;rw[if_pos ⟨HSM.out,hsz'⟩,←HEK.out,hkf]);unfold entV at HF;clear hkf;have HSZ:=zak hsz';go_wp2_with fail
      refine (HF.out _).mono ?_;rintro e w4 ⟨rfl,hb4⟩;clear am ai aj an ah ak al ao ap aq aa ab ac ae aD;clear bp bq bs bt bu bw bx bz bA bB bk bT;clear ar au av aw ax ay az aA aB aC af ag aE;clear k1 hEb bb;replace HXW:=zak (HXW.out.step hb4);have hbwy:=za5 hb4 hbwy;have hEb:=HEB.out.below hb4 HEB.out.lt;replace HEB:=zak hEb;have k1:=HXW.out.msg;have bb:=HXW.out.2.1;have zk1:=k1.lt;have zp:=bb.lt;have zE:=hEb.lt;unfold msV at k1;unfold bsrV at bb;unfold entV at hEb;obtain⟨am,ai,aj,an,ah,ak,al,ao,ap,aq,aa,ab,ac,ae⟩:=zbd k1;have aD:=k1.frozen;obtain⟨bp,bq,bs,bt,bu,bw,bx,bz,bA,bB,bk⟩:=zbb hEb;have bT:=hEb.frozen
      obtain⟨ar,au,av,aw,ax,ay,az,aA,aB,aC,af,ag⟩:=zbc bb;have aE:=bb.frozen;by_cases hkf:kf=0
      · subst hkf;have c3:(w4.setCell ⟨p,7,none⟩ (.int .i64 1)).cell? ⟨w.heap.size,1,none⟩=some (.int .i64 M.ix):=(k1.far (p:=⟨p,7,none⟩) hne0 _).cell 1 rfl;have c4':(w4.setCell ⟨p,7,none⟩ (.int .i64 1)).cell? ⟨w.heap.size,2,none⟩=some (.int .i64 M.sub):=(k1.far (p:=⟨p,7,none⟩) hne0 _).cell 2 rfl;have c5:((w4.setCell ⟨p,7,none⟩ (.int .i64 1)).setCell ⟨p,8,none⟩ (.int .i64 M.ix)).cell? ⟨w.heap.size,1,none⟩=some (.int .i64 M.ix):=((k1.far (p:=⟨p,7,none⟩) hne0 _).far (p:=⟨p,8,none⟩) hne0 _).cell 1 rfl;have c6:((w4.setCell ⟨p,7,none⟩ (.int .i64 1)).setCell ⟨p,8,none⟩ (.int .i64 M.ix)).cell? ⟨w.heap.size,2,none⟩=some (.int .i64 M.sub):=((k1.far (p:=⟨p,7,none⟩) hne0 _).far (p:=⟨p,8,none⟩) hne0 _).cell 2 rfl
        have X7:=(HXW.out.sets (S':={ S with st:=1,ix:=M.ix,sub:=M.sub }) [.int .i64 1,.int .i64 M.ix,.int .i64 M.sub] 7 (by simp) rfl);have HX7:=zak X7.drew;have hE7:Blk (w4.setCells p 7 [.int .i64 1,.int .i64 M.ix,.int .i64 M.sub]) ge 90 (entV E A4 n4 c4):=zhe hEb (zb4 (F:=fun q=>q=p) rfl _ _ (zbv.refl _ _)) hgp;have HE7:=zak hE7;simp only[World.setCells,Nat.reduceAdd] at HX7 HE7;clear X7 hE7;go_wp2_with fail
        refine zaj (fun w'=>w'.cell? ⟨w.heap.size,1,none⟩=some (.int .i64 M.ix)∧ w'.cell? ⟨w.heap.size,2,none⟩=some (.int .i64 M.sub)) [0,1,2,3,4,5,6,7,8,10,11,13,14] (by kernel_rfl) ?hS70 (fun hHeld=>?rest70)
        case hS70=>((try dsimp only);exact⟨ai,aj⟩)
        case' rest70=>skip
        refine tkT 0 ?_;try simp only[PqL,Act.put]
        refine tkT 1 ?_;try simp only[PqL,Act.put]
        refine tkT 2 ?_;try simp only[PqL,Act.put]
        refine tkT 3 ?_;try simp only[PqL,Act.put]
        refine tkT 4 ?_;try simp only[PqL,Act.put]
        refine tkT 5 ?_;try simp only[PqL,Act.put]
        refine tkT 6 ?_;try simp only[PqL,Act.put]
        refine tkT 7 ?_;try simp only[PqL,Act.put]
        refine tkT 8 ?_;try simp only[PqL,Act.put]
        refine zag (i:=9) (o:=_) rfl (by kernel_rfl) (fun K hK=>?_)
        go_simp
        refine hK.out _ _ ?hS81 (fun hHeld=>?rest81)
        case hS81=>((try dsimp only);(exact⟨c3,c4'⟩))
        case' rest81=>(clear hK K;try simp only[PqL,Act.put])
        refine tkT 10 ?_;try simp only[PqL,Act.put]
        refine tkT 11 ?_;try simp only[PqL,Act.put]
        refine zag (i:=12) (o:=_) rfl (by kernel_rfl) (fun K hK=>?_)
        go_simp
        refine hK.out _ _ ?hS85 (fun hHeld=>?rest85)
        case hS85=>((try dsimp only);(exact⟨c5,c6⟩))
        case' rest85=>(clear hK K;try simp only[PqL,Act.put])
        refine tkT 13 ?_;try simp only[PqL,Act.put]
        refine tkT 14 ?_;try simp only[PqL,Act.put]
        refine zah (i:=15) (o:=_) rfl (by kernel_rfl) (by kernel_rfl) (fun K hK=>?_)
        go_simp
        refine hK.out _ _ ?rest89
        case' rest89=>(clear hK K;try simp only[PqL,Act.put])
        refine zai (by kernel_rfl) ?_ _
        repeat (clear hHeld)
        clear c3 c4' c5 c6;go_upto_region 9 with fail
        refine zb6 (P:=fun W2=>BX w p pd (KMO w M A3 m3 c3) { S with st:=1,ix:=M.ix,sub:=M.sub } A n1 c1 W2∧Blk W2 ge 90 (entV E A4 n4 c4)) ⟨HX7.out,HE7.out⟩ (fun W2 hW2=>?_);clear am ai aj an ah ak al ao ap aq aa ab ac ae aD;clear bp bq bs bt bu bw bx bz bA bB bk bT;clear ar au av aw ax ay az aA aB aC af ag aE;clear k1 hEb bb HX7 HE7;obtain⟨hX2,hEb⟩:=hW2;have HX2:=zak hX2;have zE2:=hEb.lt;unfold entV at hEb;obtain⟨bp,bq,bs,bt,bu,bw,bx,bz,bA,bB,bk⟩:=zbb hEb;have bT:=hEb.frozen;clear hX2;go_wp2_with fail
        refine (zhn E A4 n4 c4 _).mono ?_;rintro e w8 ⟨rfl,hb8⟩;obtain⟨me,hme⟩:∃me,me=mostE E:=⟨_,rfl⟩;rw[←hme];have HME:=zak hme;have HX8:=zak (HX2.out.step hb8);clear bp bq bs bt bu bw bx bz bA bB bk bT;clear hEb hme hb8;have X9:=(HX8.out.sets (S':={ S with st:=1,ix:=M.ix,sub:=M.sub,mo:=me,sz:=(M.size:Nat),nx:=1 }) [.int .i64 me,.int .i64 (M.size:Nat),.int .i64 1] 0 (by simp) rfl);have HX9:=zak X9;simp only[World.setCells,Nat.reduceAdd] at HX9;have bb:=HX8.out.2.1;have zp8:=bb.lt;unfold bsrV at bb;obtain⟨ar,au,av,aw,ax,ay,az,aA,aB,aC,af,ag⟩:=zbc bb;have aE:=bb.frozen;clear X9;go_upto_region 10 with fail
        refine zb6 (P:=fun W3=>BX w p pd (KMO w M A3 m3 c3) { S with st:=1,ix:=M.ix,sub:=M.sub,mo:=me,sz:=(M.size:Nat),nx:=1 } A n1 c1 W3) HX9.out (fun W3 hW3=>?_);clear ar au av aw ax ay az aA aB aC af ag aE;clear HX9 bb;have HX3:=zak hW3;have k1:=hW3.msg;have bb:=hW3.2.1;have zp3:=bb.lt;have zk3:=k1.lt;have g1:(W3.setCell ⟨p,10,none⟩ (.slice none 0 0)).cell? ⟨w.heap.size,5,none⟩=some (.bool M.cr):=(k1.far (p:=⟨p,10,none⟩) hne0 _).cell 5 rfl;have X10:=(hW3.sets (S':=⟨me,(M.size:Nat),1,S.ha,S.ta,S.ro,1,M.ix,M.sub,[],M.cr⟩) (A':=none) (n':=0) (c':=0) [.slice none 0 0,.bool M.cr] 10 (by simp) rfl)
        have HX10:=zak X10.drew;simp only[World.setCells,Nat.reduceAdd] at HX10;unfold msV at k1;unfold bsrV at bb;obtain⟨am,ai,aj,an,ah,ak,al,ao,ap,aq,aa,ab,ac,ae⟩:=zbd k1;have aD:=k1.frozen;obtain⟨ar,au,av,aw,ax,ay,az,aA,aB,aC,af,ag⟩:=zbc bb;have aE:=bb.frozen;clear hW3 X10;go_wp2_with fail
        refine zaj (fun w'=>w'.cell? ⟨w.heap.size,5,none⟩=some (.bool M.cr)) [0,1,2,3,4,5,7,8] (by kernel_rfl) ?hS91 (fun hHeld=>?rest91)
        case hS91=>((try dsimp only);exact ak)
        case' rest91=>skip
        refine tkT 0 ?_;try simp only[PqL,Act.put]
        refine tkT 1 ?_;try simp only[PqL,Act.put]
        refine tkT 2 ?_;try simp only[PqL,Act.put]
        refine tkT 3 ?_;try simp only[PqL,Act.put]
        refine tkT 4 ?_;try simp only[PqL,Act.put]
        refine tkT 5 ?_;try simp only[PqL,Act.put]
        refine zag (i:=6) (o:=_) rfl (by kernel_rfl) (fun K hK=>?_)
        go_simp
        refine hK.out _ _ ?hS99 (fun hHeld=>?rest99)
        case hS99=>((try dsimp only);(exact g1))
        case' rest99=>(clear hK K;try simp only[PqL,Act.put])
        refine tkT 7 ?_;try simp only[PqL,Act.put]
        refine tkT 8 ?_;try simp only[PqL,Act.put]
        refine zah (i:=9) (o:=_) rfl (by kernel_rfl) (by kernel_rfl) (fun K hK=>?_)
        go_simp
        refine hK.out _ _ ?rest103
        case' rest103=>(clear hK K;try simp only[PqL,Act.put])
        refine zai (by kernel_rfl) ?_ _
        repeat (clear hHeld)
        clear g1;go_upto_region 11 with fail
        refine zb6 (P:=fun W4=>BX w p pd (KMO w M A3 m3 c3) ⟨me,(M.size:Nat),1,S.ha,S.ta,S.ro,1,M.ix,M.sub,[],M.cr⟩ none 0 0 W4) HX10.out (fun W4 hW4=>?_);clear am ai aj an ah ak al ao ap aq aa ab ac ae aD;clear ar au av aw ax ay az aA aB aC af ag aE;clear HX10 k1 bb;have HND:Hid (bdownS L S M=⟨me,(M.size:Nat),1,S.ha,S.ta,S.ro,1,M.ix,M.sub,[],M.cr⟩):=zak (by
         unfold bdownS;rw[if_neg (by rw[HDC.out];simp),←HEK.out,←HME.out,HSZ.out]
         rfl)
        have HR:Hid (P=BOutR w G p pd (bdownS L S M) (outM (bokM M.ix M.sub))):=zak (by
         rw[HP.out]
         congr 1
         unfold bdownO;rw[if_neg (by rw[HDC.out];simp)])
        have HX4:=zak (hW4.step (za7 (Below.refl _ _) (.cells (msV (bokM M.ix M.sub) none 0 0) 95)));have HG4:=zak (Blk.new W4 95 (msV (bokM M.ix M.sub) none 0 0));have k1:=hW4.msg;have zk4:=k1.lt;have zz4:=hW4.2.2.2;unfold msV at k1;unfold msV bokM at HX4 HG4;obtain⟨am,ai,aj,an,ah,ak,al,ao,ap,aq,aa,ab,ac,ae⟩:=zbd k1;have aD:=k1.frozen;clear hW4;go_wp2_with fail
        refine (zio (some ⟨W4.heap.size,0,none⟩) 1 1 _).mono ?_;rintro e w6 ⟨rfl,hb6⟩;have HX6:=zak (HX4.out.step hb6);have HG6:=zak (HG4.out.below hb6 HG4.out.lt);have HS6:Hid (BV_ w6 (fun q=>((G q∨w.heap.size≤q)∧ ¬False)∧ q≠w.heap.size+1) p pd (bdownS L S M)):=zak ⟨none,0,0,by rw[HND.out];exact HX6.out.2.1,fun _=>⟨by rw[HND.out];rfl,Nat.le_refl _,by rw[HND.out];intro j u hu;simp at hu,fun _=>rfl,fun ad h=>by cases h⟩⟩;have k2:=HX6.out.out;unfold outV outZ at k2;unfold outV outZ;dsimp only;clear am ai aj an ah ak al ao ap aq aa ab ac ae aD;obtain⟨aF,aG,aH,aI,aJ⟩:=za9 k2;have aP:=k2.frozen;clear hb6 k1
        go_wp2_with fail
        obtain⟨F1,F2⟩:=zi1 (fun _=>False) HX6.out.out (by omega) (M:=bokM M.ix M.sub) HG6.out (zbs.nil _ _) (FIn.nil _) HS6.out HX6.out.1 hz;rw[←HR.out] at F2;clear HR;unfold putO outZ at F1 F2;dsimp only at F1 F2;refine zhr (O:=⟨[],false,0,0,[]⟩) rfl rfl rfl F1 ?_;exact F2
      · skip
        have HR:Hid (P=BOutR w G p pd S (outM (abM M.ix M.sub kf))):=zak (by
         rw[HP.out]
         congr 1
         · unfold bdownS;rw[if_pos (by rw[HDC.out];omega)]
         · unfold bdownO;rw[if_pos (by rw[HDC.out];omega),HDC.out];rfl)
        go_wp2_with fail
        refine (zip M.ix M.sub kf _).mono ?_;rintro e w5 ⟨rfl,hb5⟩;have HX5:=zak ((HXW.out.step hb5).step (za7 (Below.refl _ _) (.cells (msV (abM M.ix M.sub kf) none 0 0) 95)));have HG5:=zak (Blk.new w5 95 (msV (abM M.ix M.sub kf) none 0 0));have hbw5:=za7 (za5 hb5 hbwy) (.cells (msV (abM M.ix M.sub kf) none 0 0) 95);have HBW5:=zak hbw5;have zz5:w.heap.size+2≤w5.heap.size:=Nat.le_trans HXW.out.2.2.2 hb5.size;unfold msV abM at HX5 HG5 HBW5;unfold msV abM;dsimp only;clear am ai aj an ah ak al ao ap aq aa ab ac ae aD;clear bp bq bs bt bu bw bx bz bA bB bk bT;clear hbw5 hb5 k1 hEb;go_wp2_with fail
        refine (zio (some ⟨w5.heap.size,0,none⟩) 1 1 _).mono ?_;rintro e w6 ⟨rfl,hb6⟩;have HX6:=zak (HX5.out.step hb6);have HG6:=zak (HG5.out.below hb6 HG5.out.lt);have hbw6:=za5 hb6 HBW5.out;have HS6:=zak (HS0.out.keep (w':=w6) (H:=fun q=>((G q∨w.heap.size≤q)∧ ¬False)∧ q≠w.heap.size+1) (fun q _ hq=>hbw6.block q hq) hbw6.size (fun q h1 h2=>⟨⟨.inl h2,id⟩,by omega⟩));have k2:=HX6.out.out;unfold outV outZ at k2;unfold outV outZ;dsimp only;obtain⟨aF,aG,aH,aI,aJ⟩:=za9 k2;have aP:=k2.frozen;clear hb6 hbw6;go_wp2_with fail
        obtain⟨F1,F2⟩:=zi1 (fun _=>False) HX6.out.out (by omega) (M:=abM M.ix M.sub kf) HG6.out (zbs.nil _ _) (FIn.nil _) HS6.out HX6.out.1 hz;rw[←HR.out] at F2;clear HR;unfold putO outZ at F1 F2;dsimp only at F1 F2;refine zhr (O:=⟨[],false,0,0,[]⟩) rfl rfl rfl F1 ?_;exact F2
  · have HDC:Hid (bdcode L M=k0):=zak (by unfold bdcode;rw[if_neg (by rw[hk0];omega),hk0]);clear hE hk0;have HR:Hid (P=BOutR w G p pd S (outM (abM M.ix M.sub k0))):=zak (by
     rw[HP.out]
     congr 1
     · unfold bdownS;rw[if_pos (by rw[HDC.out];omega)]
     · unfold bdownO;rw[if_pos (by rw[HDC.out];omega),HDC.out];rfl)
    go_wp2_with fail
    refine (zip M.ix M.sub k0 _).mono ?_;rintro e w5 ⟨rfl,hb5⟩;have HX5:=zak ((HXW.out.step hb5).step (za7 (Below.refl _ _) (.cells (msV (abM M.ix M.sub k0) none 0 0) 95)));have HG5:=zak (Blk.new w5 95 (msV (abM M.ix M.sub k0) none 0 0));have hbw5:=za7 (za5 hb5 hbwy) (.cells (msV (abM M.ix M.sub k0) none 0 0) 95);have HBW5:=zak hbw5;have zz5:w.heap.size+2≤w5.heap.size:=Nat.le_trans HXW.out.2.2.2 hb5.size;unfold msV abM at HX5 HG5 HBW5;unfold msV abM;dsimp only;clear am ai aj an ah ak al ao ap aq aa ab ac ae aD;clear bp bq bs bt bu bw bx bz bA bB bk bT;clear hbw5 hb5 k1 hEb;go_wp2_with fail
    refine (zio (some ⟨w5.heap.size,0,none⟩) 1 1 _).mono ?_;rintro e w6 ⟨rfl,hb6⟩;have HX6:=zak (HX5.out.step hb6);have HG6:=zak (HG5.out.below hb6 HG5.out.lt);have hbw6:=za5 hb6 HBW5.out;have HS6:=zak (HS0.out.keep (w':=w6) (H:=fun q=>((G q∨w.heap.size≤q)∧ ¬False)∧ q≠w.heap.size+1) (fun q _ hq=>hbw6.block q hq) hbw6.size (fun q h1 h2=>⟨⟨.inl h2,id⟩,by omega⟩));have k2:=HX6.out.out;unfold outV outZ at k2;unfold outV outZ;dsimp only;obtain⟨aF,aG,aH,aI,aJ⟩:=za9 k2;have aP:=k2.frozen;clear hb6 hbw6;go_wp2_with fail
    obtain⟨F1,F2⟩:=zi1 (fun _=>False) HX6.out.out (by omega) (M:=abM M.ix M.sub k0) HG6.out (zbs.nil _ _) (FIn.nil _) HS6.out HX6.out.1 hz;rw[←HR.out] at F2;clear HR;unfold putO outZ at F1 F2;dsimp only at F1 F2;refine zhr (O:=⟨[],false,0,0,[]⟩) rfl rfl rfl F1 ?_;exact F2
end
end
end Go.Proofs.YtkkpjbjmhaecjaaGreat
