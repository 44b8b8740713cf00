/- None -/
import Derived.Test.YtkkpjbjmhaecjaaGreatT15
namespace Go.Proofs.YtkkpjbjmhaecjaaGreat
set_option linter.all false
set_option maxRecDepth 100000
set_option maxHeartbeats 4000000
section
open Go.RowKit
def writeS (S:SegS) (M:Ms):SegS:={ S with st:=3,wk:=M.kind,wi:=M.ix,ws:=M.sub,wt:=M.tg }
theorem zkp {w:World}{g:Nat}{t:TypeId}{v0 v1 v2 v3 v4 v5 v6 v7 v8 v9 v10 v11 v12 v13:Value}(h:Blk w g t #[v0,v1,v2,v3,v4,v5,v6,v7,v8,v9,v10,v11,v12,v13]):(w.cell? ⟨g,0,none⟩=some v0∧w.cell? ⟨g,1,none⟩=some v1∧w.cell? ⟨g,2,none⟩=some v2∧w.cell? ⟨g,3,none⟩=some v3∧w.cell? ⟨g,4,none⟩=some v4∧w.cell? ⟨g,5,none⟩=some v5∧w.cell? ⟨g,6,none⟩=some v6∧w.cell? ⟨g,7,none⟩=some v7∧w.cell? ⟨g,8,none⟩=some v8∧w.cell? ⟨g,9,none⟩=some v9∧w.cell? ⟨g,10,none⟩=some v10∧w.cell? ⟨g,11,none⟩=some v11∧w.cell? ⟨g,12,none⟩=some v12∧w.cell? ⟨g,13,none⟩=some v13)∧ True:=⟨⟨h.cell 0 rfl,h.cell 1 rfl,h.cell 2 rfl,h.cell 3 rfl,h.cell 4 rfl,h.cell 5 rfl,h.cell 6 rfl,h.cell 7 rfl,h.cell 8 rfl,h.cell 9 rfl,h.cell 10 rfl,h.cell 11 rfl,h.cell 12 rfl,h.cell 13 rfl⟩,trivial⟩
def WriteP (w:World) (p pd:Nat) (S':SegS) (A:Option Addr) (n c:Nat) (A2:Option Addr) (b:List UInt8) (W:World):Prop:=
 Blk W p 195 (srvV S' pd A n c)∧ Blk W (w.heap.size+1) 93 (outV none 0 0 outZ none 0 0)∧ zd0 (fun g=>g=p) w W∧Sl W A2 (b.map bv)
theorem zkq {w:World}{p pd:Nat}{S':SegS}{A:Option Addr}{n c:Nat}{A2:Option Addr}{b:List UInt8}{W:World}(h1:Blk W p 195 (srvV S' pd A n c))(h2:Blk W (w.heap.size+1) 93 (outV none 0 0 outZ none 0 0))(h3:zd0 (fun g=>g=p) w W)(h4:Sl W.drew A2 (b.map bv)) :
 WriteP w p pd S' A n c A2 b W.drew:=⟨h1,h2,h3.drew,h4⟩
theorem zkr (p pd:Nat)(S:SegS)(A:Option Addr)(n c:Nat)(A2:Option Addr)(m c2:Nat)(b:List UInt8)(k ix sub:Int)(tg:Bool)(w:World)(hB:Blk w p 195 (srvV S pd A n c))(hm:m=b.length)(hmb:m≤35184372088832)(hb:∀W,zd0 (fun g=>g=p) w W→Sl W A2 (b.map bv)) :
 Calls Tryz.prog 233 #[.pointer (some ⟨p,0,none⟩),.slice A2 m c2,.agg (msV (okM k ix sub tg) none 0 0)] w fun e w'=> ∃A3 c3,e= .returned (.agg (outV none 0 0 ⟨[],true,S.ix,S.sub,b⟩ A3 m c3))∧ zdv w' w.heap.size A3 m c3 b∧Blk w' p 195 (srvV (writeS S (okM k ix sub tg)) pd A n c)∧ zd0 (fun k=>k=p) w w':=by
 obtain⟨S',hS'⟩:∃S',S'=writeS S (okM k ix sub tg):=⟨_,rfl⟩;have hi':S'.ix=S.ix∧S'.sub=S.sub:=by rw[hS'];exact⟨rfl,rfl⟩
 rw[←hS'];have HS':=zak hS';have HM:=zak hm;clear hS' hm;obtain⟨k1,k2⟩:=zdh w 95 93 (msV (okM k ix sub tg) none 0 0) (outV none 0 0 outZ none 0 0);have hbw:=zc5 (zc5 (Below.refl w.heap.size w) (.cells (msV (okM k ix sub tg) none 0 0) 95)) (.cells (outV none 0 0 outZ none 0 0) 93);have q:=hB.below hbw hB.lt;have hz:=hB.lt;unfold msV okM outV outZ at k1 k2 hbw;unfold msV okM;have c0:=hB;unfold srvV at c0;obtain⟨kx,ky,kz,kA,kB,kC,kD,kE,kF,kG,j0,j1,j2,j3,j4,j5,j6,j7,j8,j9,ka,kb⟩:=zdf c0;have lz:=c0.frozen;go_enter Tryz.func233,Tryz.ntmps233
 go_wp2_with fail
 have k1b:=(zdh (w.setCell ⟨p,1,none⟩ (.int .i64 3)) 95 93 (msV (okM k ix sub tg) none 0 0) (outV none 0 0 outZ none 0 0)).1;rw[show (w.setCell ⟨p,1,none⟩ (.int .i64 3)).heap.size=w.heap.size by simp[World.setCell]] at k1b;unfold msV okM outV outZ at k1b;have hne:p≠w.heap.size:=by omega
 have hne1:p≠w.heap.size+1:=by omega
 refine zaj (fun w'=>(w'.cell? ⟨w.heap.size,0,none⟩=some (.int .i64 k)∧ w'.cell? ⟨w.heap.size,1,none⟩=some (.int .i64 ix)∧ w'.cell? ⟨w.heap.size,2,none⟩=some (.int .i64 sub)∧ w'.cell? ⟨w.heap.size,3,none⟩=some (.bool tg)∧ w'.cell? ⟨w.heap.size,4,none⟩=some (.bool false)∧ w'.cell? ⟨w.heap.size,5,none⟩=some (.bool false)∧ w'.cell? ⟨w.heap.size,6,none⟩=some (.bool false)∧ w'.cell? ⟨w.heap.size,7,none⟩=some (.int .u32 0)∧ w'.cell? ⟨w.heap.size,8,none⟩=some (.int .u32 0)∧ w'.cell? ⟨w.heap.size,9,none⟩=some (.slice none 0 0)∧ w'.cell? ⟨w.heap.size,10,none⟩=some (.int .i64 0)∧ w'.cell? ⟨w.heap.size,11,none⟩=some (.int .i64 0)∧ w'.cell? ⟨w.heap.size,12,none⟩=some (.int .i64 0)∧ w'.cell? ⟨w.heap.size,13,none⟩=some (.int .u16 0))∧ True) [0,1,2,3,4,6,7] (by kernel_rfl) ?hS1 (fun hHeld=>?rest1)
 case hS1=>((try dsimp only);exact zkp k1)
 case' rest1=>skip
 refine tkT 0 ?_;try simp only[PqL,Act.put]
 refine tkT 1 ?_;try simp only[PqL,Act.put]
 refine tkT 2 ?_;try simp only[PqL,Act.put]
 refine tkT 3 ?_;try simp only[PqL,Act.put]
 refine tkT 4 ?_;try simp only[PqL,Act.put]
 refine zag (i:=5) (o:=_) rfl (by kernel_rfl) (fun K hK=>?_)
 go_simp
 refine hK.out _ _ ?hS8 (fun hHeld=>?rest8)
 case hS8=>((try dsimp only);(exact zkp k1b))
 case' rest8=>(clear hK K;try simp only[PqL,Act.put])
 refine tkT 6 ?_;try simp only[PqL,Act.put]
 refine tkT 7 ?_;try simp only[PqL,Act.put]
 refine zah (i:=8) (o:=_) rfl (by kernel_rfl) (by kernel_rfl) (fun K hK=>?_)
 go_simp
 refine hK.out _ _ ?rest12
 case' rest12=>(clear hK K;try simp only[PqL,Act.put])
 refine zai (by kernel_rfl) ?_ _
 repeat (clear hHeld)
 have hw1:Blk (w.setCell ⟨p,1,none⟩ (.int .i64 3)) p 195 (srvV { S with st:=3 } pd A n c):=hB.set_ 1 (.int .i64 3);have hS1:=zea (msV (okM k ix sub tg) none 0 0).toList 8 (l:=(srvV { S with st:=3 } pd A n c).toList) hw1 (by simp[srvV,msV]);have hO1:zd0 (fun g=>g=p) w ((w.setCell ⟨p,1,none⟩ (.int .i64 3)).setCells p 8 (msV (okM k ix sub tg) none 0 0).toList):=zeb (F:=fun g=>g=p) rfl _ _ (zd0.set (fun g=>g=p) (zd0.refl _ _) rfl _);obtain⟨k3,k4⟩:=zdh ((w.setCell ⟨p,1,none⟩ (.int .i64 3)).setCells p 8 (msV (okM k ix sub tg) none 0 0).toList) 95 93 (msV (okM k ix sub tg) none 0 0) (outV none 0 0 outZ none 0 0)
 rw[zec] at k4;rw[show (w.setCell ⟨p,1,none⟩ (.int .i64 3)).heap.size=w.heap.size by simp[World.setCell]] at k4;have hS2:=(hS1.alloc (.cells (msV (okM k ix sub tg) none 0 0) 95)).alloc (.cells (outV none 0 0 outZ none 0 0) 93);have hO2:=(hO1.new (.cells (msV (okM k ix sub tg) none 0 0) 95)).new (.cells (outV none 0 0 outZ none 0 0) 93);have hX2:=hb _ hO2.drew;have e1:((srvV { S with st:=3 } pd A n c).toList.take 8 ++ (msV (okM k ix sub tg) none 0 0).toList ++ (srvV { S with st:=3 } pd A n c).toList.drop (8+(msV (okM k ix sub tg) none 0 0).toList.length)).toArray=srvV (writeS S (okM k ix sub tg)) pd A n c:=rfl
 rw[e1] at hS2;rw[←HS'.out] at hS2;have HP:=zak (zkq (S':=S') (A:=A) (n:=n) (c:=c) (pd:=pd) hS2 k4 hO2 hX2);clear hS1 hO1 hS2 k4 hO2 hX2 k1 k2 k1b k3 q hb hbw hB hw1 e1 HS';clear kx ky kz kA kB kC kD kE kF kG j0 j1 j2 j3 j4 j5 j6 j7 j8 j9 ka kb lz;clear c0;simp only[msV,okM,outV,outZ,World.setCells,Nat.reduceAdd] at HP;go_wp2_with fail
 refine zed (P:=WriteP w p pd S' A n c A2 b) HP.out (fun W hW=>?_);obtain⟨hS2,k4,hO2,hX2⟩:=hW;have HS2:=zak hS2;have HK4:=zak k4;have HO2:=zak hO2;have HX2:=zak hX2;have d2:W.cell? ⟨p,2,none⟩=some (.int .i64 S.ix):=by rw[←hi'.1];exact hS2.cell 2 rfl
 have d3:W.cell? ⟨p,3,none⟩=some (.int .i64 S.sub):=by rw[←hi'.2];exact hS2.cell 3 rfl
 clear hS2 hX2;refine zaj (fun w'=>w'.cell? ⟨p,2,none⟩=some (.int .i64 S.ix)∧ w'.cell? ⟨p,3,none⟩=some (.int .i64 S.sub)) [0,1,2,3,4,5,6,7,8,10,11] (by kernel_rfl) ?hS14 (fun hHeld=>?rest14)
 case hS14=>((try dsimp only);exact⟨d2,d3⟩)
 case' rest14=>skip
 refine tkT 0 ?_;try simp only[PqL,Act.put]
 refine tkT 1 ?_;try simp only[PqL,Act.put]
 refine tkT 2 ?_;try simp only[PqL,Act.put]
 refine tkT 3 ?_;try simp only[PqL,Act.put]
 refine tkT 4 ?_;try simp only[PqL,Act.put]
 refine tkT 5 ?_;try simp only[PqL,Act.put]
 refine tkT 6 ?_;try simp only[PqL,Act.put]
 refine tkT 7 ?_;try simp only[PqL,Act.put]
 refine tkT 8 ?_;try simp only[PqL,Act.put]
 refine zag (i:=9) (o:=_) rfl (by kernel_rfl) (fun K hK=>?_);rw[if_pos (show Region.wanted _ _=true by kernel_rfl)];refine zju _ _ rfl W.heap.size none 0 0 [] rfl (zdv.nil _ _) A2 m c2 b rfl HM.out HX2.out (by omega) (Nat.le_refl _) m (by omega) ?_;intro A3 c3 w3 hO3 hb3;replace hb3:=zke hb3;have HS3:=zak (HS2.out.below hb3 HS2.out.lt);have hk3:Blk w3 (w.heap.size+1) 93 (outV none 0 0 outZ none 0 0):=HK4.out.below hb3 HK4.out.lt;have HK3:=zak hk3;have HO3:=zak hO3;have zz:w.heap.size+1 < W.heap.size:=HK4.out.lt;have HOn:=zak (HO2.out.step (c:=w3) hb3);have g2:=(hb3.cell (p:=⟨p,2,none⟩) HS2.out.lt).trans d2
 have g3:=(hb3.cell (p:=⟨p,3,none⟩) HS2.out.lt).trans d3;clear hO3 hO2 k4;refine hK.out _ _ ?hS25 (fun hHeld=>?rest25)
 case hS25=>((try dsimp only);(exact⟨g2,g3⟩))
 case' rest25=>(clear hK K;try simp only[PqL,Act.put])
 unfold outV outZ at hk3;obtain⟨eT,eU,eV,eW,eX⟩:=zc9 hk3;have ib:=hk3.frozen;refine tkT 10 ?_;try simp only[PqL,Act.put]
 refine tkT 11 ?_;try simp only[PqL,Act.put]
 refine zah (i:=12) (o:=_) rfl (by kernel_rfl) (by kernel_rfl) (fun K hK=>?_)
 go_simp
 refine hK.out _ _ ?rest29
 case' rest29=>(clear hK K;try simp only[PqL,Act.put])
 refine zai (by kernel_rfl) ?_ _
 repeat (clear hHeld)
 go_wp2_with fail
 have F1:=zj3 (As':=none) (ns':=0) (cs':=0) (O':=⟨[],true,S.ix,S.sub,b⟩) (A':=A3) (n':=m) (c':=c3) HK3.out;have F2:=zj6 HO3.out zz none 0 0 ⟨[],true,S.ix,S.sub,b⟩ A3 m c3;have F3:=zj4 HS3.out hne1 none 0 0 ⟨[],true,S.ix,S.sub,b⟩ A3 m c3;have F4:=zj5 HOn.out (show w.heap.size≤w.heap.size+1 by omega) none 0 0 ⟨[],true,S.ix,S.sub,b⟩ A3 m c3;unfold putO at F1 F2 F3 F4;refine zj2 (O:=⟨[],true,S.ix,S.sub,b⟩) (As:=none) (ns:=0) (cs:=0) (A:=A3) (n:=m) (c:=c3) rfl rfl rfl F1 ?_;exact⟨A3,c3,rfl,F2.mono (by omega),F3,F4⟩
end
section
open Go.RowKit
def MsR (w:World) (N:Nat) (X:Nat→Prop) (As:Option Addr) (ns cs:Nat) (l:List Ms):Prop:=
 (l= []∧ As=none∧ns=0∧cs=0)∨ ∃M g A n c,l= [M]∧ As=some ⟨g,0,none⟩∧ ns=1∧cs=1∧N≤g∧Blk w g 95 (msV M A n c)∧ zdv w N A n c M.data∧FIn X A
def SV_ (w:World) (G:Nat→Prop) (p pd:Nat) (S:SegS):Prop:=
 ∃A n c,Blk w p 195 (srvV S pd A n c)∧ ((S.st=1∨S.st=2)→ n=S.b.length∧n≤c∧Sl w A (S.b.map bv)∧ (A=none→n=0)∧ ∀ad,A=some ad→G ad.block∧ad.block < w.heap.size∧ad.block≠p)
def SOutR (w:World) (G:Nat→Prop) (p pd:Nat) (S':SegS) (O:SegO) (e:Ending) (w':World):Prop:=
 ∃X As ns cs A n c,e= .returned (.agg (outV As ns cs O A n c))∧ MsR w' w.heap.size X As ns cs O.ms∧zdv w' w.heap.size A n c O.b∧FIn X A∧SV_ w' (fun g=>(G g∨w.heap.size≤g)∧ ¬X g) p pd S'∧zd0 (fun g=>g=p) w w'
section
variable {F:Nat→Prop} {pd gl n cl cv:Nat} {Av:Option Addr} {L:List Ent} {V:List (List UInt8)} {ds es:List (Option Addr×Nat)}
theorem zks {w w':World}{A:Option Addr}{xs:List Value}(h:Sl w A xs)(hk:∀ad,A=some ad→w'.heap[ad.block]? =w.heap[ad.block]?):Sl w' A xs:=by
 intro j u hu;obtain⟨ad,rfl,hc⟩:=h j u hu;refine⟨ad,rfl,?_⟩;rw[←hc];unfold World.cell?;rw[show (ad.add j).block=ad.block by unfold Addr.add;split<;>rfl,hk ad rfl]
theorem SV_.keep {w w':World}{G H:Nat→Prop}{p pd:Nat}{S:SegS}(h:SV_ w G p pd S)(hk:∀q,q=p∨G q→q < w.heap.size→w'.heap[q]? =w.heap[q]?)(hz:w.heap.size≤w'.heap.size)(hH:∀q,q < w.heap.size→G q→H q):SV_ w' H p pd S:=by
 obtain⟨A,n,c,hB,hb⟩:=h;refine⟨A,n,c,(hk p (.inl rfl) hB.lt).trans hB,fun h0=>?_⟩;obtain⟨h1,h2,h3,h4,h5⟩:=hb h0;exact⟨h1,h2,zks h3 (fun ad e=>hk _ (.inr (h5 ad e).1) (h5 ad e).2.1),h4,fun ad e=>⟨hH _ (h5 ad e).2.1 (h5 ad e).1,Nat.lt_of_lt_of_le (h5 ad e).2.1 hz,(h5 ad e).2.2⟩⟩
theorem zkt {w:World}{g q:Nat}(hne:q≠g)(As:Option Addr)(ns cs:Nat)(O:SegO)(A:Option Addr)(n c:Nat):(putO w g As ns cs O A n c).heap[q]? =w.heap[q]? :=by
 unfold putO;rw[Below.heap_setCell _ _ _ _ hne,Below.heap_setCell _ _ _ _ hne,Below.heap_setCell _ _ _ _ hne,Below.heap_setCell _ _ _ _ hne,Below.heap_setCell _ _ _ _ hne]
theorem zku (w:World)(g:Nat)(As:Option Addr)(ns cs:Nat)(O:SegO)(A:Option Addr)(n c:Nat):(putO w g As ns cs O A n c).heap.size=w.heap.size:=by
 unfold putO;simp[World.setCell]
theorem zkv {w w3:World}{G:Nat→Prop}{p pd g n c:Nat}{S':SegS}{M:Ms}{A:Option Addr}(X:Nat→Prop)(hK:Blk w3 (w.heap.size+1) 93 (outV none 0 0 outZ none 0 0))(hg:w.heap.size+2≤g)(hM:Blk w3 g 95 (msV M A n c))(hO:zdv w3 (w.heap.size+2) A n c M.data)(hX:FIn X A)
 (hS:SV_ w3 (fun q=>((G q∨w.heap.size≤q)∧ ¬X q)∧ q≠w.heap.size+1) p pd S') (ho:zd0 (fun q=>q=p) w w3) (hp:p < w.heap.size) :
 Blk (putO w3 (w.heap.size+1) (some ⟨g,0,none⟩) 1 1 outZ none 0 0) (w.heap.size+1) 93 (outV (some ⟨g,0,none⟩) 1 1 outZ none 0 0)∧ SOutR w G p pd S' (outM M) (.returned (.agg (outV (some ⟨g,0,none⟩) 1 1 outZ none 0 0))) (putO w3 (w.heap.size+1) (some ⟨g,0,none⟩) 1 1 outZ none 0 0):=by
 refine⟨zj3 hK,X,some ⟨g,0,none⟩,1,1,none,0,0,rfl,.inr ⟨M,g,A,n,c,rfl,rfl,rfl,rfl,by omega,zj4 hM (by omega) _ _ _ _ _ _ _,(zj6 hO (by omega) _ _ _ _ _ _ _).mono (by omega),hX⟩,zdv.nil _ _,FIn.nil _,?_,zj5 ho (by omega) _ _ _ _ _ _ _⟩;exact hS.keep (fun q hq _=>zkt (by rcases hq with rfl | hq;omega;exact hq.2) _ _ _ _ _ _ _) (by rw[zku];exact Nat.le_refl _) (fun q _ hq=>hq.1)
def UpX (w w2:World) (p pd:Nat) (S':SegS) (A:Option Addr) (n c:Nat) (b:List UInt8) (M:Ms) (W:World):Prop:=
 Blk W p 195 (srvV S' pd A n c)∧ zd0 (fun q=>q=p) w W∧Blk W w2.heap.size 95 (msV M none 0 0)∧ Blk W (w.heap.size+1) 93 (outV none 0 0 outZ none 0 0)∧ zdv W (w.heap.size+2) A n c b∧W.heap.size=w2.heap.size+1
theorem zkw {w w2:World}{p pd:Nat}{S':SegS}{A:Option Addr}{n c:Nat}{b:List UInt8}{M:Ms}{W0:World}{f:Nat}{args:Array Value}{K:Ending→World→Prop}(h:UpX w w2 p pd S' A n c b M W0)(k:∀W,UpX w w2 p pd S' A n c b M W→Calls Tryz.prog f args W K):Calls Tryz.prog f args W0.drew K:=
 k _ ⟨h.1,h.2.1.drew,h.2.2.1,h.2.2.2.1,h.2.2.2.2.1.drew,h.2.2.2.2.2⟩
theorem zkx {w:World}{N p pd n c:Nat}{S:SegS}{A:Option Addr}{H:Nat→Prop}(hB:Blk w p 195 (srvV S pd A n c))(hO:zdv w N A n c S.b)(hp:p < N)(hH:∀q,N≤q→H q):SV_ w H p pd S:=by
 refine⟨A,n,c,hB,fun _=>⟨hO.hn,hO.le,hO.sl,?_,?_⟩⟩
 · rintro rfl;rcases hO.own.shape with ⟨_,h,_⟩ | ⟨g,h,_⟩
   · exact h
   · cases h
 · rintro ad rfl;rcases hO.own.shape with ⟨h,_⟩ | ⟨g,h,h1,h2⟩
   · cases h
   · injection h with h
     subst h;exact⟨hH _ h1,h2,by simp only;omega⟩
theorem zky (L:List Ent)(ix sub:Int):∃k:Nat,getC L ix sub=(k:Int):=⟨(getC L ix sub).toNat,by
 have:0≤getC L ix sub:=by unfold getC codeL readE;(repeat' split)<;> omega
 omega⟩
def UpW (w:World) (F:Nat→Prop) (p pd gl n cl:Nat) (Av:Option Addr) (cv:Nat) (L:List Ent) (V:List (List UInt8)) (ds es:List (Option Addr×Nat)) (S:SegS) (A:Option Addr) (n1 c1:Nat) (M:Ms) (A3:Option Addr) (m3 c3:Nat) (W:World):Prop:=
 Below w.heap.size w W∧DB 100 W F pd (some ⟨gl,0,none⟩) n cl Av cv L V ds es∧Blk W p 195 (srvV S pd A n1 c1)∧ Blk W w.heap.size 95 (msV M A3 m3 c3)∧ Blk W (w.heap.size+1) 93 (outV none 0 0 outZ none 0 0)
theorem zkz (p:Nat)(S:SegS)(G:Nat→Prop)(M:Ms)(A3:Option Addr)(m3 c3:Nat)(w:World)(hD:DB 100 w F pd (some ⟨gl,0,none⟩) n cl Av cv L V ds es)(hs:SortedE L)(hn:n≤1000)(hv:∀v ∈ V,v.length≤256)
 (hp: ¬F p) (hS:SV_ w G p pd S) (h0:S.st=0) :
 Calls Tryz.prog 213 #[.pointer (some ⟨p,0,none⟩),.agg (msV M A3 m3 c3)] w (SOutR w G p pd (upS L V S M) (upO L V M)):=by
 obtain⟨A,n1,c1,hB,_⟩:=id hS;obtain⟨k1,k2⟩:=zdh w 95 93 (msV M A3 m3 c3) (outV none 0 0 outZ none 0 0);have hbw:=zc5 (zc5 (Below.refl w.heap.size w) (.cells (msV M A3 m3 c3) 95)) (.cells (outV none 0 0 outZ none 0 0) 93);obtain⟨P,hP⟩:∃P,P=SOutR w G p pd (upS L V S M) (upO L V M):=⟨_,rfl⟩;rw[←hP];have HP:=zak hP;have HS:=zak hs;have H1:=zak hn;have HV:=zak hv;have HD:=zak (hD.below hbw);have HB:=zak hB;have HB2:=zak (hB.below hbw hB.lt);have hz:=hB.lt;have HK2:=zak k2;have HK1:=zak k1;have HS0:Hid (SV_ w G p pd S):=zak hS;clear hP hs hn hv hD hB hS;have hne1:p≠w.heap.size+1:=by omega
 have HH:Hid (UpW w F p pd gl n cl Av cv L V ds es S A n1 c1 M A3 m3 c3 ((w.alloc (.cells (msV M A3 m3 c3) 95)).alloc (.cells (outV none 0 0 outZ none 0 0) 93))):=zak ⟨hbw,HD.out,HB2.out,HK1.out,HK2.out⟩;unfold msV outV outZ at HH;clear hbw HD HB2 HK1 HK2 k1 k2;unfold msV;go_enter Tryz.func213,Tryz.ntmps213
 go_wp2_with fail
 refine zed (P:=UpW w F p pd gl n cl Av cv L V ds es S A n1 c1 M A3 m3 c3) HH.out (fun W hW=>?_);clear HH;obtain⟨hbw,hD,hB,hK1,hK2⟩:=hW;have HD:=zak hD;have HBW:=zak hB;have HK1:=zak hK1;have HK2:=zak hK2;have zW:=hB.lt;have zK:=hK2.lt;have zK1:=hK1.lt;have b0:W.cell? ⟨p,0,none⟩=some (.pointer (some ⟨pd,0,none⟩)):=hB.cell 0 rfl;have b1:W.cell? ⟨w.heap.size,1,none⟩=some (.int .i64 M.ix):=hK1.cell 1 rfl;have b2:W.cell? ⟨w.heap.size,2,none⟩=some (.int .i64 M.sub):=hK1.cell 2 rfl;clear hD hB hK1 hK2;refine wp_region_held_drew (S:=(fun w'=>(∀qA:Addr,qA.block < (W).heap.size→w'.cell? qA=(W).cell? qA)∧ Below (W).heap.size (W) w')) (by kernel_rfl) ?hS1 (fun hHeld=>?rest1)
 case hS1=>exact kSn
 case' rest1=>skip
 iterate 8 (refine tkN ?_;try simp only[PqL,Act.put])
 refine kRd 8 (fun K hK=>?_)
 go_simp
 refine (zjb M.ix M.sub _ (HD.out.below (Below.drew (Below.refl _ _))) HS.out H1.out).mono ?_;rintro e w2 ⟨A4,n4,c4,b,rfl,hO4,hb4,hb2⟩;have HO4:=zak (hO4.mono (B':=W.heap.size) (Nat.le_refl _));have HB4:=zak hb4;clear hO4 hb4;dsimp only;refine hK.out _ _ ?hS12 (fun hHeld=>?rest12)
 case hS12=>exact kSn
 case' rest12=>(clear hK K;try simp only[PqL,Act.put])
 refine tkH 9 ?_;try simp only[PqL,Act.put]
 refine tkH 10 ?_;try simp only[PqL,Act.put]
 refine tkH 11 ?_;try simp only[PqL,Act.put]
 refine tkH 12 ?_;try simp only[PqL,Act.put]
 refine tkH 13 ?_;try simp only[PqL,Act.put]
 refine wpAnyH_done (by kernel_rfl) ?_ _;have hEnd:=hHeld.2
 repeat (clear hHeld)
 have HD2:=zak (HD.out.below hEnd);have hbw2:=zc4 hEnd hbw;have HBW2:=zak (HBW.out.below hEnd zW);have HK12:=zak (HK1.out.below hEnd HK1.out.lt);have HK22:=zak (HK2.out.below hEnd zK);have k1:=HK12.out;have k2:=HK22.out;have bb:=HBW2.out;have zW2:=bb.lt;unfold msV at k1;unfold outV outZ at k2;unfold srvV at bb;obtain⟨ai,af,ag,am,ah,aj,an,ao,ap,aq,aa,ab,ac,ae⟩:=zde k1;have aM:=k1.frozen;obtain⟨aB,aC,aD,aE,aF⟩:=zc9 k2;have aO:=k2.frozen;obtain⟨ak,al,av,aw,ax,ay,az,aA⟩:=zdb bb;have aN:=bb.frozen;obtain⟨cc,hcc⟩:∃cc,cc=getC L M.ix M.sub:=⟨_,rfl⟩;have HCC:=zak hcc;rw[←hcc];clear hcc;have hne0:w.heap.size≠p:=by omega
 have hO2:Hid (zd0 (fun q=>q=p) w w2):=zak (zd0.of_below hbw2);have zw2:w.heap.size+1 < w2.heap.size:=HK22.out.lt;have zWz:W.heap.size≤w2.heap.size:=hEnd.size;by_cases hc:cc=0
 · have hgc:getC L M.ix M.sub=0:=by rw[←HCC.out];exact hc
   have hgb:getB L V M.ix M.sub=b:=HB4.out.symm;have hn4:n4=b.length:=HO4.out.hn;have hb256:n4≤256:=by
    rw[hn4,HB4.out,if_pos hgc];unfold valK;rw[List.getD_eq_getElem?_getD];cases hx:V[locK L M.ix M.sub]? with
    | none=>simp
    | some v=>exact HV.out v (List.mem_of_getElem? hx)
   by_cases hsh:0 < n4∧n4≤4
   · have HR:Hid (P=SOutR w G p pd S (outM (upM M.ix M.sub 0 b))):=zak (by
      rw[HP.out]
      congr 1
      · unfold upS;rw[if_neg (by rw[hgc];simp),if_pos (by rw[hgb,←hn4];exact hsh)]
      · unfold upO;rw[if_neg (by rw[hgc];simp),if_pos (by rw[hgb,←hn4];exact hsh),hgb])
     obtain⟨h1,h2⟩:=hsh;clear hgc hgb hn4 HP;go_wp2_with fail
     refine (zka (upM M.ix M.sub 0 b) A4 n4 c4 _).mono ?_;rintro e w3 ⟨g,hg,rfl,hBg,hb3⟩;unfold outV outZ;dsimp only;have hb23:=zc4 hb3 (zc5 (Below.refl w2.heap.size w2) (.cells (msV (upM M.ix M.sub 0 b) A4 n4 c4) 95));have hgz:w2.heap.size≤g:=Nat.le_trans (by simp) hg;have HK23:=zak (HK22.out.below hb23 zw2);have HO43:=zak (HO4.out.below hb23);have HBG:=zak hBg;have HS3:=zak (HS0.out.keep (w':=w3) (H:=fun q=>((G q∨w.heap.size≤q)∧ ¬W.heap.size≤q)∧ q≠w.heap.size+1) (fun q _ hq=>(hbw2.trans (hb23.mono hbw2.size)).block q hq) (zc4 hb23 hbw2).size (fun q h1 h2=>⟨⟨.inl h2,by have:=hbw.size;omega⟩,by omega⟩))
     have HO3:=zak (hO2.out.step hb23);clear aB aC aD aE aF aO;clear k2 hBg;have k2:=HK23.out;unfold outV outZ at k2;obtain⟨aB,aC,aD,aE,aF⟩:=zc9 k2;have aO:=k2.frozen;go_wp2_with fail
     have F:=zkv (fun q=>W.heap.size≤q) HK23.out (by omega) HBG.out (HO43.out.mono (by omega)) (HO43.out.own.fin.mono (fun q h=>h.1)) HS3.out HO3.out hz;obtain⟨F1,F2⟩:=F;rw[←HR.out] at F2;clear HR;unfold putO outZ at F1 F2;dsimp only at F1 F2;refine zj2 (O:=⟨[],false,0,0,[]⟩) rfl rfl rfl F1 ?_;exact F2
   · have HR:Hid (P=SOutR w G p pd (upS L V S M) (outM (upM M.ix M.sub n4 []))):=zak (by
      rw[HP.out]
      congr 1
      unfold upO;rw[if_neg (by rw[hgc];simp),if_neg (by rw[hgb,←hn4];exact hsh),hgb,←hn4])
     have HU:Hid (upS L V S M= { S with st:=2,ix:=M.ix,sub:=M.sub,b:=b,tg:=false }):=zak (by unfold upS;rw[if_neg (by rw[hgc];simp),if_neg (by rw[hgb,←hn4];exact hsh),hgb]);have HUb:Hid ((upS L V S M).b=b):=zak (by rw[HU.out]);have hmod:(n4:Int) % 4294967296=(n4:Int):=by omega
     rcases (show n4=0∨4 < n4 by omega) with hcs | hcs
     · subst hcs;clear hmod;have s1:=zea [.int .i64 2,.int .i64 M.ix,.int .i64 M.sub] 1 (l:=(srvV S pd A n1 c1).toList) HBW2.out (by simp[srvV]);have s2:=zea [.slice A4 0 c4,.bool false] 6 s1 (by simp[srvV]);have s3:Blk (World.setCells _ p 6 _) p 195 (srvV { S with st:=2,ix:=M.ix,sub:=M.sub,b:=b,tg:=false } pd A4 0 c4):=s2;rw[←HU.out] at s3;have s4:zd0 (fun q=>q=p) w (((w2.setCells p 1 [.int .i64 2,.int .i64 M.ix,.int .i64 M.sub]).setCells p 6 [.slice A4 0 c4,.bool false])):=zeb (F:=fun q=>q=p) rfl _ _ (zeb (F:=fun q=>q=p) rfl _ _ hO2.out);have sz:(((w2.setCells p 1 [.int .i64 2,.int .i64 M.ix,.int .i64 M.sub]).setCells p 6 [.slice A4 0 c4,.bool false])).heap.size=w2.heap.size:=by rw[zec,zec]
       have HH:Hid (UpX w w2 p pd (upS L V S M) A4 0 c4 b (upM M.ix M.sub 0 []) ((((w2.setCells p 1 [.int .i64 2,.int .i64 M.ix,.int .i64 M.sub]).setCells p 6 [.slice A4 0 c4,.bool false])).alloc (.cells (msV (upM M.ix M.sub 0 []) none 0 0) 95))):=zak (by
        refine⟨s3.alloc _,(s4.new _),?_,?_,?_,by rw[←sz];simp⟩
        · have:=Blk.new (((w2.setCells p 1 [.int .i64 2,.int .i64 M.ix,.int .i64 M.sub]).setCells p 6 [.slice A4 0 c4,.bool false])) 95 (msV (upM M.ix M.sub 0 []) none 0 0)
          rw[sz] at this;exact this
        · exact (zjo HK22.out (zeb (F:=fun q=>q=p) rfl _ _ (zeb (F:=fun q=>q=p) rfl _ _ (zd0.refl _ _))) (by omega)).alloc _
        · exact (zjp HO4.out (zeb (F:=fun q=>q=p) rfl _ _ (zeb (F:=fun q=>q=p) rfl _ _ (zd0.refl _ _))) (fun g h1 _ h2=>by omega)).mono (by omega) |>.alloc _)
       simp only[World.setCells,Nat.reduceAdd,msV,upM] at HH;have c1:(w2.alloc (.cells (msV (upM M.ix M.sub 0 []) none 0 0) 95)).cell? ⟨w.heap.size,1,none⟩=some (.int .i64 M.ix):=(HK12.out.alloc _).cell 1 rfl;have c2:(w2.alloc (.cells (msV (upM M.ix M.sub 0 []) none 0 0) 95)).cell? ⟨w.heap.size,2,none⟩=some (.int .i64 M.sub):=(HK12.out.alloc _).cell 2 rfl;have c3:((w2.setCell ⟨p,1,none⟩ (.int .i64 2)).alloc (.cells (msV (upM M.ix M.sub 0 []) none 0 0) 95)).cell? ⟨w.heap.size,1,none⟩=some (.int .i64 M.ix):=((HK12.out.far (p:=⟨p,1,none⟩) hne0 _).alloc _).cell 1 rfl;have c4':((w2.setCell ⟨p,1,none⟩ (.int .i64 2)).alloc (.cells (msV (upM M.ix M.sub 0 []) none 0 0) 95)).cell? ⟨w.heap.size,2,none⟩=some (.int .i64 M.sub):=((HK12.out.far (p:=⟨p,1,none⟩) hne0 _).alloc _).cell 2 rfl
       have c5:(((w2.setCell ⟨p,1,none⟩ (.int .i64 2)).setCell ⟨p,2,none⟩ (.int .i64 M.ix)).alloc (.cells (msV (upM M.ix M.sub 0 []) none 0 0) 95)).cell? ⟨w.heap.size,1,none⟩=some (.int .i64 M.ix):=(((HK12.out.far (p:=⟨p,1,none⟩) hne0 _).far (p:=⟨p,2,none⟩) hne0 _).alloc _).cell 1 rfl;have c6:(((w2.setCell ⟨p,1,none⟩ (.int .i64 2)).setCell ⟨p,2,none⟩ (.int .i64 M.ix)).alloc (.cells (msV (upM M.ix M.sub 0 []) none 0 0) 95)).cell? ⟨w.heap.size,2,none⟩=some (.int .i64 M.sub):=(((HK12.out.far (p:=⟨p,1,none⟩) hne0 _).far (p:=⟨p,2,none⟩) hne0 _).alloc _).cell 2 rfl;unfold msV upM at c1 c2 c3 c4' c5 c6
       clear s1 s2 s3 s4 sz HU hgc hgb hn4 HP;go_wp2_with fail
       refine zaj (fun w'=>w'.cell? ⟨w.heap.size,1,none⟩=some (.int .i64 M.ix)∧ w'.cell? ⟨w.heap.size,2,none⟩=some (.int .i64 M.sub)) [0,1,2,3,4,5,6,7,8,10,11,13,14] (by kernel_rfl) ?hS19 (fun hHeld=>?rest19)
       case hS19=>((try dsimp only);exact⟨c1,c2⟩)
       case' rest19=>skip
       refine tkT 0 ?_;try simp only[PqL,Act.put]
       refine tkT 1 ?_;try simp only[PqL,Act.put]
       refine tkT 2 ?_;try simp only[PqL,Act.put]
       refine tkT 3 ?_;try simp only[PqL,Act.put]
       refine tkT 4 ?_;try simp only[PqL,Act.put]
       refine tkT 5 ?_;try simp only[PqL,Act.put]
       refine tkT 6 ?_;try simp only[PqL,Act.put]
       refine tkT 7 ?_;try simp only[PqL,Act.put]
       refine tkT 8 ?_;try simp only[PqL,Act.put]
       refine zag (i:=9) (o:=_) rfl (by kernel_rfl) (fun K hK=>?_)
       go_simp
       refine hK.out _ _ ?hS30 (fun hHeld=>?rest30)
       case hS30=>((try dsimp only);(exact⟨c3,c4'⟩))
       case' rest30=>(clear hK K;try simp only[PqL,Act.put])
       refine tkT 10 ?_;try simp only[PqL,Act.put]
       refine tkT 11 ?_;try simp only[PqL,Act.put]
       refine zag (i:=12) (o:=_) rfl (by kernel_rfl) (fun K hK=>?_)
       go_simp
       refine hK.out _ _ ?hS34 (fun hHeld=>?rest34)
       case hS34=>((try dsimp only);(exact⟨c5,c6⟩))
       case' rest34=>(clear hK K;try simp only[PqL,Act.put])
       refine tkT 13 ?_;try simp only[PqL,Act.put]
       refine tkT 14 ?_;try simp only[PqL,Act.put]
       refine zah (i:=15) (o:=_) rfl (by kernel_rfl) (by kernel_rfl) (fun K hK=>?_)
       go_simp
       refine hK.out _ _ ?rest38
       case' rest38=>(clear hK K;try simp only[PqL,Act.put])
       refine zai (by kernel_rfl) ?_ _
       repeat (clear hHeld)
       clear c1 c2 c3 c4' c5 c6;go_wp2_with fail
       refine zkw HH.out (fun W3 hW3=>?_);obtain⟨hB5,hO5,hM5,hK5,hOw5,hz5⟩:=hW3;refine (zka (upM M.ix M.sub 0 []) none 0 0 _).mono ?_;rintro e w3 ⟨g,hg,rfl,hBg,hb3⟩;unfold outV outZ;dsimp only;have HK23:=zak (hK5.below hb3 hK5.lt);have HBG:=zak hBg;have HS3:Hid (SV_ w3 (fun q=>((G q∨w.heap.size≤q)∧ ¬False)∧ q≠w.heap.size+1) p pd (upS L V S M)):=zak (zkx (N:=w.heap.size+2) (hB5.below hb3 hB5.lt) (by rw[HUb.out];exact hOw5.below hb3) (by omega) (fun q h=>⟨⟨.inr (by omega),id⟩,by omega⟩));have HO3:=zak (hO5.step hb3);clear aB aC aD aE aF aO;clear k2 hBg hB5 hO5 hM5 hOw5;have k2:=HK23.out;unfold outV outZ at k2
       obtain⟨aB,aC,aD,aE,aF⟩:=zc9 k2;have aO:=k2.frozen;go_wp2_with fail
       obtain⟨F1,F2⟩:=zkv (fun _=>False) HK23.out (by omega) HBG.out (zdv.nil _ _) (FIn.nil _) HS3.out HO3.out hz;rw[←HR.out] at F2;clear HR;unfold putO outZ at F1 F2;dsimp only at F1 F2;refine zj2 (O:=⟨[],false,0,0,[]⟩) rfl rfl rfl F1 ?_;exact F2
     · skip
       have s1:=zea [.int .i64 2,.int .i64 M.ix,.int .i64 M.sub] 1 (l:=(srvV S pd A n1 c1).toList) HBW2.out (by simp[srvV]);have s2:=zea [.slice A4 n4 c4,.bool false] 6 s1 (by simp[srvV]);have s3:Blk (World.setCells _ p 6 _) p 195 (srvV { S with st:=2,ix:=M.ix,sub:=M.sub,b:=b,tg:=false } pd A4 n4 c4):=s2;rw[←HU.out] at s3;have s4:zd0 (fun q=>q=p) w (((w2.setCells p 1 [.int .i64 2,.int .i64 M.ix,.int .i64 M.sub]).setCells p 6 [.slice A4 n4 c4,.bool false])):=zeb (F:=fun q=>q=p) rfl _ _ (zeb (F:=fun q=>q=p) rfl _ _ hO2.out);have sz:(((w2.setCells p 1 [.int .i64 2,.int .i64 M.ix,.int .i64 M.sub]).setCells p 6 [.slice A4 n4 c4,.bool false])).heap.size=w2.heap.size:=by rw[zec,zec]
       have HH:Hid (UpX w w2 p pd (upS L V S M) A4 n4 c4 b (upM M.ix M.sub n4 []) ((((w2.setCells p 1 [.int .i64 2,.int .i64 M.ix,.int .i64 M.sub]).setCells p 6 [.slice A4 n4 c4,.bool false])).alloc (.cells (msV (upM M.ix M.sub n4 []) none 0 0) 95))):=zak (by
        refine⟨s3.alloc _,(s4.new _),?_,?_,?_,by rw[←sz];simp⟩
        · have:=Blk.new (((w2.setCells p 1 [.int .i64 2,.int .i64 M.ix,.int .i64 M.sub]).setCells p 6 [.slice A4 n4 c4,.bool false])) 95 (msV (upM M.ix M.sub n4 []) none 0 0)
          rw[sz] at this;exact this
        · exact (zjo HK22.out (zeb (F:=fun q=>q=p) rfl _ _ (zeb (F:=fun q=>q=p) rfl _ _ (zd0.refl _ _))) (by omega)).alloc _
        · exact (zjp HO4.out (zeb (F:=fun q=>q=p) rfl _ _ (zeb (F:=fun q=>q=p) rfl _ _ (zd0.refl _ _))) (fun g h1 _ h2=>by omega)).mono (by omega) |>.alloc _)
       simp only[World.setCells,Nat.reduceAdd,msV,upM] at HH;have c1:(w2.alloc (.cells (msV (upM M.ix M.sub n4 []) none 0 0) 95)).cell? ⟨w.heap.size,1,none⟩=some (.int .i64 M.ix):=(HK12.out.alloc _).cell 1 rfl;have c2:(w2.alloc (.cells (msV (upM M.ix M.sub n4 []) none 0 0) 95)).cell? ⟨w.heap.size,2,none⟩=some (.int .i64 M.sub):=(HK12.out.alloc _).cell 2 rfl;have c3:((w2.setCell ⟨p,1,none⟩ (.int .i64 2)).alloc (.cells (msV (upM M.ix M.sub n4 []) none 0 0) 95)).cell? ⟨w.heap.size,1,none⟩=some (.int .i64 M.ix):=((HK12.out.far (p:=⟨p,1,none⟩) hne0 _).alloc _).cell 1 rfl;have c4':((w2.setCell ⟨p,1,none⟩ (.int .i64 2)).alloc (.cells (msV (upM M.ix M.sub n4 []) none 0 0) 95)).cell? ⟨w.heap.size,2,none⟩=some (.int .i64 M.sub):=((HK12.out.far (p:=⟨p,1,none⟩) hne0 _).alloc _).cell 2 rfl
       have c5:(((w2.setCell ⟨p,1,none⟩ (.int .i64 2)).setCell ⟨p,2,none⟩ (.int .i64 M.ix)).alloc (.cells (msV (upM M.ix M.sub n4 []) none 0 0) 95)).cell? ⟨w.heap.size,1,none⟩=some (.int .i64 M.ix):=(((HK12.out.far (p:=⟨p,1,none⟩) hne0 _).far (p:=⟨p,2,none⟩) hne0 _).alloc _).cell 1 rfl;have c6:(((w2.setCell ⟨p,1,none⟩ (.int .i64 2)).setCell ⟨p,2,none⟩ (.int .i64 M.ix)).alloc (.cells (msV (upM M.ix M.sub n4 []) none 0 0) 95)).cell? ⟨w.heap.size,2,none⟩=some (.int .i64 M.sub):=(((HK12.out.far (p:=⟨p,1,none⟩) hne0 _).far (p:=⟨p,2,none⟩) hne0 _).alloc _).cell 2 rfl;unfold msV upM at c1 c2 c3 c4' c5 c6
       clear s1 s2 s3 s4 sz HU hgc hgb hn4 HP;go_wp2_with fail
       refine zaj (fun w'=>w'.cell? ⟨w.heap.size,1,none⟩=some (.int .i64 M.ix)∧ w'.cell? ⟨w.heap.size,2,none⟩=some (.int .i64 M.sub)) [0,1,2,3,4,5,6,7,8,10,11,13,14] (by kernel_rfl) ?hS40 (fun hHeld=>?rest40)
       case hS40=>((try dsimp only);exact⟨c1,c2⟩)
       case' rest40=>skip
       refine tkT 0 ?_;try simp only[PqL,Act.put]
       refine tkT 1 ?_;try simp only[PqL,Act.put]
       refine tkT 2 ?_;try simp only[PqL,Act.put]
       refine tkT 3 ?_;try simp only[PqL,Act.put]
       refine tkT 4 ?_;try simp only[PqL,Act.put]
       refine tkT 5 ?_;try simp only[PqL,Act.put]
       refine tkT 6 ?_;try simp only[PqL,Act.put]
       refine tkT 7 ?_;try simp only[PqL,Act.put]
       refine tkT 8 ?_;try simp only[PqL,Act.put]
       refine zag (i:=9) (o:=_) rfl (by kernel_rfl) (fun K hK=>?_)
       go_simp
       refine hK.out _ _ ?hS51 (fun hHeld=>?rest51)
       case hS51=>((try dsimp only);(exact⟨c3,c4'⟩))
       case' rest51=>(clear hK K;try simp only[PqL,Act.put])
       refine tkT 10 ?_;try simp only[PqL,Act.put]
       refine tkT 11 ?_;try simp only[PqL,Act.put]
       refine zag (i:=12) (o:=_) rfl (by kernel_rfl) (fun K hK=>?_)
       go_simp
       refine hK.out _ _ ?hS55 (fun hHeld=>?rest55)
       case hS55=>((try dsimp only);(exact⟨c5,c6⟩))
       case' rest55=>(clear hK K;try simp only[PqL,Act.put])
       refine tkT 13 ?_;try simp only[PqL,Act.put]
       refine tkT 14 ?_;try simp only[PqL,Act.put]
       refine zah (i:=15) (o:=_) rfl (by kernel_rfl) (by kernel_rfl) (fun K hK=>?_)
       go_simp
       refine hK.out _ _ ?rest59
       case' rest59=>(clear hK K;try simp only[PqL,Act.put])
       refine zai (by kernel_rfl) ?_ _
       repeat (clear hHeld)
       clear c1 c2 c3 c4' c5 c6;go_wp2_with fail
       refine zkw HH.out (fun W3 hW3=>?_);obtain⟨hB5,hO5,hM5,hK5,hOw5,hz5⟩:=hW3;refine (zka (upM M.ix M.sub n4 []) none 0 0 _).mono ?_;rintro e w3 ⟨g,hg,rfl,hBg,hb3⟩;unfold outV outZ;dsimp only;have HK23:=zak (hK5.below hb3 hK5.lt);have HBG:=zak hBg;have HS3:Hid (SV_ w3 (fun q=>((G q∨w.heap.size≤q)∧ ¬False)∧ q≠w.heap.size+1) p pd (upS L V S M)):=zak (zkx (N:=w.heap.size+2) (hB5.below hb3 hB5.lt) (by rw[HUb.out];exact hOw5.below hb3) (by omega) (fun q h=>⟨⟨.inr (by omega),id⟩,by omega⟩));have HO3:=zak (hO5.step hb3);clear aB aC aD aE aF aO;clear k2 hBg hB5 hO5 hM5 hOw5;have k2:=HK23.out;unfold outV outZ at k2
       obtain⟨aB,aC,aD,aE,aF⟩:=zc9 k2;have aO:=k2.frozen;go_wp2_with fail
       obtain⟨F1,F2⟩:=zkv (fun _=>False) HK23.out (by omega) HBG.out (zdv.nil _ _) (FIn.nil _) HS3.out HO3.out hz;rw[←HR.out] at F2;clear HR;unfold putO outZ at F1 F2;dsimp only at F1 F2;refine zj2 (O:=⟨[],false,0,0,[]⟩) rfl rfl rfl F1 ?_;exact F2
 · obtain⟨kc,hkc⟩:=zky L M.ix M.sub;rw[←HCC.out] at hkc;have HR:Hid (P=SOutR w G p pd S (outM (abM M.ix M.sub kc))):=zak (by
    rw[HP.out]
    congr 1
    · unfold upS;rw[if_pos (by rw[←HCC.out];exact hc)]
    · unfold upO;rw[if_pos (by rw[←HCC.out];exact hc),←HCC.out,hkc];rfl)
   subst hkc;have hcn: ¬kc=0:=by omega
   clear HP HCC HB4;go_wp2_with fail
   refine (zj9 M.ix M.sub kc _).mono ?_;rintro e w3 ⟨rfl,hBg,hb3,hz3⟩;have HK23:=zak (HK22.out.below hb3 zw2);have HBG:=zak hBg;have HS3:=zak (HS0.out.keep (w':=w3) (H:=fun q=>((G q∨w.heap.size≤q)∧ ¬W.heap.size≤q)∧ q≠w.heap.size+1) (fun q _ hq=>(hbw2.trans (hb3.mono hbw2.size)).block q hq) (zc4 hb3 hbw2).size (fun q h1 h2=>⟨⟨.inl h2,by have:=hbw.size;omega⟩,by omega⟩));have HO3:=zak (hO2.out.step hb3);clear aB aC aD aE aF aO;clear k2 hBg;have k2:=HK23.out;unfold outV outZ at k2;obtain⟨aB,aC,aD,aE,aF⟩:=zc9 k2;have aO:=k2.frozen;go_wp2_with fail
   obtain⟨F1,F2⟩:=zkv (fun q=>W.heap.size≤q) HK23.out (by omega) HBG.out (zdv.nil _ _) (FIn.nil _) HS3.out HO3.out hz;rw[←HR.out] at F2;clear HR;unfold putO outZ at F1 F2;dsimp only at F1 F2;refine zj2 (O:=⟨[],false,0,0,[]⟩) rfl rfl rfl F1 ?_;exact F2
end
end
end Go.Proofs.YtkkpjbjmhaecjaaGreat
