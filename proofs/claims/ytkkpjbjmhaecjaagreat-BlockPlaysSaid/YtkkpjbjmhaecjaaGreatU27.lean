/- None -/
import Derived.Test.YtkkpjbjmhaecjaaGreatU23
import Derived.Test.YtkkpjbjmhaecjaaGreatU26
namespace Go.Proofs.YtkkpjbjmhaecjaaGreat
set_option linter.all false
set_option maxRecDepth 100000
set_option maxHeartbeats 40000000
section
open Go.RowKit
theorem zkh {w w':World}{A:Option Addr}{xs:List Value}(h:Sl w A xs)(hk:∀ad,A=some ad→w'.heap[ad.block]? =w.heap[ad.block]?):Sl w' A xs:=by
 intro j u hu;obtain⟨ad,rfl,hc⟩:=h j u hu;refine⟨ad,rfl,?_⟩;rw[←hc];unfold World.cell?;rw[show (ad.add j).block=ad.block by unfold Addr.add;split<;>rfl,hk ad rfl]
structure RW where
 A:Option Addr
 n:Nat
 c:Nat
 l:List UInt8
def RdN (W:World) (G:Nat→Prop) (p:Nat) (r:RW):Prop:=r.n=r.l.length∧r.n≤r.c∧Sl W r.A (r.l.map bv)∧ ∀ad,r.A=some ad→G ad.block∧ad.block < W.heap.size∧ad.block≠p
theorem RdN.nil (W:World)(G:Nat→Prop)(p:Nat):RdN W G p ⟨none,0,0,[]⟩:=⟨rfl,Nat.le_refl _,Sl.nil _ _,by simp⟩
theorem RdN.keep {W W':World}{G H:Nat→Prop}{p:Nat}{r:RW}(h:RdN W G p r)(hz:W.heap.size≤W'.heap.size)(hk:∀q,G q→q < W.heap.size→q≠p→W'.heap[q]? =W.heap[q]?)(hH:∀q,q < W.heap.size→G q→H q):RdN W' H p r:=
 ⟨h.1,h.2.1,zkh h.2.2.1 (fun ad e=>hk _ (h.2.2.2 ad e).1 (h.2.2.2 ad e).2.1 (h.2.2.2 ad e).2.2),fun ad e=>⟨hH _ (h.2.2.2 ad e).2.1 (h.2.2.2 ad e).1,Nat.lt_of_lt_of_le (h.2.2.2 ad e).2.1 hz,(h.2.2.2 ad e).2.2⟩⟩
theorem zki {W:World}{N p n c:Nat}{A:Option Addr}{l:List UInt8}{G:Nat→Prop}(h:zbs W N A n c l)(hG:∀g,N≤g→g < W.heap.size→G g∧g≠p):RdN W G p ⟨A,n,c,l⟩:=by
 refine⟨h.hn,?_,h.sl,fun ad e=>?_⟩
 · exact h.own.le
 · rcases h.own.shape with ⟨rfl,_⟩ | ⟨q,rfl,h1,h2⟩
   · simp at e
   · injection e with e
     subst e;exact⟨(hG q h1 h2).1,h2,(hG q h1 h2).2⟩
structure RN (w0:World) (G:Nat→Prop) (p:Nat) (cs:List Value) (ks:List KB) (rs:List RW) (W:World):Prop where
 blk:Blk W p 51 cs.toArray
 lt0:p < w0.heap.size
 only:zbv (fun q=>q=p) w0 W
 keep:∀x ∈ ks,x.g≠p∧Blk W x.g x.t x.l.toArray
 rows:∀r ∈ rs,RdN W (fun g=>G g∨w0.heap.size≤g) p r
section
variable {w0 W W':World} {G:Nat→Prop} {p:Nat} {cs cs':List Value} {ks:List KB} {rs:List RW} {x:KB}
theorem RN.lt (h:RN w0 G p cs ks rs W):p < W.heap.size:=h.blk.lt
theorem RN.size (h:RN w0 G p cs ks rs W):w0.heap.size≤W.heap.size:=h.only.size
theorem RN.turn (h:RN w0 G p cs ks rs W)(ho:zbv (fun q=>q=p) W W')(hB:Blk W' p 51 cs'.toArray):RN w0 G p cs' ks rs W':=
 ⟨hB,h.lt0,h.only.trans ho (fun _ _ e=>e),fun x hx=>⟨(h.keep x hx).1,(ho.block x.g (h.keep x hx).2.lt (h.keep x hx).1).trans (h.keep x hx).2⟩,
  fun r hr=>(h.rows r hr).keep ho.size (fun q _ hq hp=>ho.block q hq hp) (fun _ _ h=>h)⟩
theorem RN.set (h:RN w0 G p cs ks rs W)(i:Nat)(v:Value):RN w0 G p (cs.set i v) ks rs (W.setCell ⟨p,i,none⟩ v):=
 h.turn (zbv.of_set (F:=fun q=>q=p) rfl v) (by have:=h.blk.set_ i v;rwa [List.setIfInBounds_toArray] at this)
theorem RN.step (h:RN w0 G p cs ks rs W)(hb:Below W.heap.size W W'):RN w0 G p cs ks rs W':=
 ⟨h.blk.below hb h.blk.lt,h.lt0,h.only.step hb,fun x hx=>⟨(h.keep x hx).1,(h.keep x hx).2.below hb (h.keep x hx).2.lt⟩,fun r hr=>(h.rows r hr).keep hb.size (fun q _ hq _=>hb.block q hq) (fun _ _ h=>h)⟩
theorem RN.alloc (h:RN w0 G p cs ks rs W)(o:Obj):RN w0 G p cs ks rs (W.alloc o):=h.step (za7 (Below.refl _ _) o)
theorem RN.drew (h:RN w0 G p cs ks rs W):RN w0 G p cs ks rs W.drew:=⟨h.blk.drew,h.lt0,h.only.drew,fun x hx=>⟨(h.keep x hx).1,(h.keep x hx).2.drew⟩,fun r hr=>(h.rows r hr)⟩
theorem RN.add (h:RN w0 G p cs ks rs W)(g:Nat)(t:TypeId)(l:List Value)(hg:g≠p)(hB:Blk W g t l.toArray):RN w0 G p cs (⟨g,t,l⟩ :: ks) rs W:=⟨h.blk,h.lt0,h.only,by
 intro x hx;rcases List.mem_cons.1 hx with rfl | hx
 · exact⟨hg,hB⟩
 · exact h.keep x hx,h.rows⟩
theorem RN.new (h:RN w0 G p cs ks rs W)(t:TypeId)(l:List Value):RN w0 G p cs (⟨W.heap.size,t,l⟩ :: ks) rs (W.alloc (.cells l.toArray t)):=(h.alloc _).add _ _ _ (fun e=>by have:=h.lt;omega) (Blk.new W t l.toArray)
theorem RN.newz {N:Nat}(h:RN w0 G p cs ks rs W)(hz:W.heap.size=N)(t:TypeId)(l:List Value):RN w0 G p cs (⟨N,t,l⟩ :: ks) rs (W.alloc (.cells l.toArray t)):=by
 have:=h.new t l
 rwa [hz] at this
theorem RN.sub (h:RN w0 G p cs ks rs W){ks':List KB}(hk:∀x ∈ ks',x ∈ ks):RN w0 G p cs ks' rs W:=⟨h.blk,h.lt0,h.only,fun x hx=>h.keep x (hk x hx),h.rows⟩
theorem RN.subr (h:RN w0 G p cs ks rs W){rs':List RW}(hk:∀r ∈ rs',r ∈ rs):RN w0 G p cs ks rs' W:=⟨h.blk,h.lt0,h.only,h.keep,fun r hr=>h.rows r (hk r hr)⟩
theorem RN.rnil (h:RN w0 G p cs ks rs W):RN w0 G p cs ks (⟨none,0,0,[]⟩ :: rs) W:=⟨h.blk,h.lt0,h.only,h.keep,by
 intro r hr;rcases List.mem_cons.1 hr with rfl | hr
 · exact RdN.nil _ _ _
 · exact h.rows r hr⟩
theorem RN.row (h:RN w0 G p cs ks rs W){A:Option Addr}{n c:Nat}{l:List UInt8}(hO:zbs W w0.heap.size A n c l):RN w0 G p cs ks (⟨A,n,c,l⟩ :: rs) W:=⟨h.blk,h.lt0,h.only,h.keep,by
 intro r hr;rcases List.mem_cons.1 hr with rfl | hr
 · exact zki hO (fun g h1 _=>⟨.inr h1,fun e=>by have:=h.lt0;omega⟩)
 · exact h.rows r hr⟩
theorem RN.k0 (h:RN w0 G p cs (x :: ks) rs W):Blk W x.g x.t x.l.toArray:=(h.keep x (by simp)).2
theorem RN.k1 {y:KB}(h:RN w0 G p cs (x :: y :: ks) rs W):Blk W y.g y.t y.l.toArray:=(h.keep y (by simp)).2
theorem RN.sl {A:Option Addr}{n c:Nat}{l:List UInt8}(h:RN w0 G p cs ks rs W)(hr:⟨A,n,c,l⟩ ∈ rs):Sl W A (l.map bv):=(h.rows _ hr).2.2.1
theorem RN.rn {A:Option Addr}{n c:Nat}{l:List UInt8}(h:RN w0 G p cs ks rs W)(hr:⟨A,n,c,l⟩ ∈ rs):n=l.length:=(h.rows _ hr).1
theorem RN.rc {A:Option Addr}{n c:Nat}{l:List UInt8}(h:RN w0 G p cs ks rs W)(hr:⟨A,n,c,l⟩ ∈ rs):n≤c:=(h.rows _ hr).2.1
theorem RN.put (h:RN w0 G p cs (x :: ks) rs W)(hn: ¬x.g < w0.heap.size)(hk:∀y ∈ ks,y.g≠x.g)(hr:∀r ∈ rs,∀ad,r.A=some ad→ad.block≠x.g)(i:Nat)(v:Value):RN w0 G p cs (⟨x.g,x.t,x.l.set i v⟩ :: ks) rs (W.setCell ⟨x.g,i,none⟩ v):=by
 have h0:=h.keep x (by simp);have ho:zbv (fun q=>q=x.g) W (W.setCell ⟨x.g,i,none⟩ v):=zbv.of_set (F:=fun q=>q=x.g) rfl v;refine⟨(ho.block p h.lt (fun e=>h0.1 e.symm)).trans h.blk,h.lt0,⟨ho.os.trans h.only.os,ho.tape.trans h.only.tape,ho.output.trans h.only.output,Nat.le_trans h.only.size ho.size,fun i hi hF=>(ho.block i (Nat.lt_of_lt_of_le hi h.only.size) (fun e=>hn (by rw[←e];exact hi))).trans (h.only.block i hi hF)⟩,?_,?_⟩
 · intro y hy;rcases List.mem_cons.1 hy with rfl | hy
   · refine⟨h0.1,?_⟩
     have:=h0.2.set_ i v
     rwa [List.setIfInBounds_toArray] at this
   · have h1:=h.keep y (by simp[hy]);exact⟨h1.1,(ho.block y.g h1.2.lt (hk y hy)).trans h1.2⟩
 · intro r hr';obtain⟨h1,h2,h3,h4⟩:=h.rows r hr';exact⟨h1,h2,zkh h3 (fun ad e=>ho.block _ (h4 ad e).2.1 (hr r hr' ad e)),fun ad e=>⟨(h4 ad e).1,Nat.lt_of_lt_of_le (h4 ad e).2.1 ho.size,(h4 ad e).2.2⟩⟩
end
def rbkL (S:BlkS) (pd:Nat) (A:Option Addr) (n c:Nat):List Value:=[.pointer (some ⟨pd,0,none⟩),.int .i64 S.st,.int .i64 S.ix,.int .i64 S.sub,.int .i64 S.mo,.int .i64 S.sz,.slice A n c,.bool S.sm,.int .i64 S.nx,.int .i64 S.ha,.int .i64 S.ta,.int .i64 S.ro]
abbrev OwnMr (w:World) (F:Nat→Prop) (A:Option Addr) (n c:Nat) (L:List Ms) (ds:List (Option Addr×Nat)):Prop:=zb2 msF 14 30 Ms.data w F A n c L ds
def RBV (w:World) (G:Nat→Prop) (p pd:Nat) (S:BlkS):Prop:= ∃A n c,Blk w p 51 (rbkL S pd A n c).toArray∧RdN w G p ⟨A,n,c,S.b⟩
def RBO (w:World) (G:Nat→Prop) (p pd:Nat) (S':BlkS) (O:SegO) (e:Ending) (w':World):Prop:=
 ∃As ns cs ds A n c,e= .returned (.agg (outV As ns cs O A n c))∧ OwnMr w' (fun g=>w.heap.size≤g) As ns cs O.ms ds∧zbs w' w.heap.size A n c O.b∧RBV w' (fun g=>G g∨w.heap.size≤g) p pd S'∧zbv (fun g=>g=p) w w'
theorem RBV.rn {w:World}{G:Nat→Prop}{p pd:Nat}{S:BlkS}(h:RBV w G p pd S):∃A n c,RN w G p (rbkL S pd A n c) [] [⟨A,n,c,S.b⟩] w:=by
 obtain⟨A,n,c,hB,h1⟩:=h;refine⟨A,n,c,hB,hB.lt,zbv.refl _ _,by simp,fun r hr=>?_⟩;simp at hr;subst hr;exact h1.keep (Nat.le_refl _) (fun _ _ _ _=>rfl) (fun _ _ h=> .inl h)
theorem RBV.keep {w w':World}{G H:Nat→Prop}{p pd:Nat}{S:BlkS}(h:RBV w G p pd S)(hz:w.heap.size≤w'.heap.size)(hk:∀q,q=p∨G q→q < w.heap.size→w'.heap[q]? =w.heap[q]?)(hH:∀q,q < w.heap.size→G q→H q):RBV w' H p pd S:=by
 obtain⟨A,n,c,hB,h1⟩:=h;exact⟨A,n,c,(hk p (.inl rfl) hB.lt).trans hB,h1.keep hz (fun q hq hl _=>hk q (.inr hq) hl) hH⟩
theorem zkj {w:World}{F:Nat→Prop}{g:Nat}{M:Ms}{A:Option Addr}{n c:Nat}(hB:Blk w g 30 (msV M A n c))(hF:F g)(hO:zbs w 0 A n c M.data)(hA:FIn F A):OwnMr w F (some ⟨g,0,none⟩) 1 1 [M] [(A,c)]:=by
 have hn:=hO.hn;refine⟨rfl,rfl,⟨by simp[cellsG,msF],.inr ⟨g,1,msV M A n c,rfl,Nat.zero_le _,hB,Nat.le_refl _,by unfold maxLen;omega,by simp[msV],?_⟩⟩,?_,?_⟩
 · simp[cellsG,msF,msV,hn]
 · intro q hq;injection hq with hq
   injection hq with hq
   subst hq;exact hF
 · intro j v d hv hd;cases j with
   | zero=>
     simp at hv hd;subst hv;subst hd;exact⟨by rw[←hn];exact hO,hA⟩
   | succ j=>simp at hv
section
variable {w0 W:World} {G:Nat→Prop} {p pd go:Nat} {ks:List KB} {rs:List RW} {S:BlkS} {A A9 As:Option Addr} {n c n9 c9 ns cs:Nat} {ds:List (Option Addr×Nat)} {O:SegO}
theorem zkl (h:RN w0 G p (rbkL S pd A n c) (⟨go,118,outL_ none 0 0 outZ none 0 0⟩ :: ks) rs W)(hb:⟨A,n,c,S.b⟩ ∈ rs)(hgo:w0.heap.size≤go)(hr:∀r ∈ rs,∀ad,r.A=some ad→ad.block≠go)
 (hm:OwnMr W (fun g=>w0.heap.size≤g∧g≠go) As ns cs O.ms ds) (hO:zbs W w0.heap.size A9 n9 c9 O.b) (hO9:FIn (fun g=>g≠go) A9) :
 Blk (putO W go As ns cs O A9 n9 c9) go 118 (outV As ns cs O A9 n9 c9)∧ RBO w0 G p pd S O (.returned (.agg (outV As ns cs O A9 n9 c9))) (putO W go As ns cs O A9 n9 c9):=by
 have hK:Blk W go 118 (outV none 0 0 outZ none 0 0):=h.k0;have hgp:=(h.keep ⟨go,118,outL_ none 0 0 outZ none 0 0⟩ (by simp)).1;refine⟨zkg hK,As,ns,cs,ds,A9,n9,c9,rfl,(hm.keep (fun g hg _=>zia hg.2 _ _ _ _ _ _ _)).mono (fun g _ hg=>hg.1),⟨hO.hn,hO.own.keep fun g _ _ hA=>zia (hO9 g hA) _ _ _ _ _ _ _⟩,⟨A,n,c,zht h.blk (fun e=>hgp e.symm) _ _ _ _ _ _ _,?_⟩,zhu h.only hgo _ _ _ _ _ _ _⟩;obtain⟨h1,h2,h3,h4⟩:=h.rows _ hb;exact⟨h1,h2,zkh h3 (fun ad e=>zia (hr _ hb ad e) _ _ _ _ _ _ _),fun ad e=>⟨(h4 ad e).1,by rw[zib];exact (h4 ad e).2.1,(h4 ad e).2.2⟩⟩
end
theorem zkm (pd:Nat)(w:World):Calls Tryz.prog 12 #[.pointer (some ⟨pd,0,none⟩)] w fun e w'=>e= .returned (.pointer (some ⟨w.heap.size,0,none⟩))∧ RBV w' (fun _=>False) w.heap.size pd blkZ∧Below w.heap.size w w'∧w'.heap.size=w.heap.size+1:=by
 have HR:Hid (RBV (w.alloc (.cells (rbkL blkZ pd none 0 0).toArray 51)) (fun _=>False) w.heap.size pd blkZ):=zak ⟨none,0,0,Blk.new w _ _,RdN.nil _ _ _⟩;have HB:=zak (za7 (Below.refl w.heap.size w) (.cells (rbkL blkZ pd none 0 0).toArray 51));go_enter Tryz.func12,Tryz.ntmps12
 go_wp2_with fail
 go_ret
 exact⟨rfl,HR.out,HB.out,by simp⟩
section
variable {w0:World} {G:Nat→Prop} {p pd:Nat} {ks:List KB} {rs:List RW}
theorem zkn (S:BlkS)(A:Option Addr)(n c code:Nat)(W:World)(h:RN w0 G p (rbkL S pd A n c) ks rs W)(h0:S.st≠0) :
 Calls Tryz.prog 54 #[.pointer (some ⟨p,0,none⟩),.int .u32 (code:Nat)] W fun e W'=> ∃g,W.heap.size≤g∧e= .returned (.slice (some ⟨g,0,none⟩) 1 1)∧ Blk W' g 30 (msV (abM S.ix S.sub code) none 0 0)∧ RN w0 G p (rbkL (blkIdle S) pd A n c) ks rs W'∧zbv (fun q=>q=p) W W':=by
 have H1:Hid (RN w0 G p (rbkL (blkIdle S) pd A n c) ks rs (W.setCell ⟨p,1,none⟩ (.int .i64 0))):=zak (h.set 1 (.int .i64 0));have c1:W.cell? ⟨p,1,none⟩=some (.int .i64 S.st):=h.blk.cell 1 rfl;have f1:=h.blk.frozen 1;have z:=h.lt;have hz0:(W.setCell ⟨p,1,none⟩ (.int .i64 0)).heap.size=W.heap.size:=by simp[World.setCell]
 have hne:(S.st == 0)=false:=by simp[h0]
 have d2:(W.setCell ⟨p,1,none⟩ (.int .i64 0)).cell? ⟨p,2,none⟩=some (.int .i64 S.ix):=H1.out.blk.cell 2 rfl;have d3:(W.setCell ⟨p,1,none⟩ (.int .i64 0)).cell? ⟨p,3,none⟩=some (.int .i64 S.sub):=H1.out.blk.cell 3 rfl;have HN:=zak (Blk.new (W.setCell ⟨p,1,none⟩ (.int .i64 0)).drew 30 (msV (abM S.ix S.sub code) none 0 0));have HO:Hid (zbv (fun q=>q=p) W (W.setCell ⟨p,1,none⟩ (.int .i64 0))):=zak (zbv.of_set (F:=fun q=>q=p) rfl _);unfold msV abM at HN;dsimp only at HN;clear h h0;go_enter Tryz.func54,Tryz.ntmps54
 go_wp2_with fail
 go_upto_region 4 with fail
 refine wp_region_held_drew (S:=(fun w'=>(∀qA:Addr,qA.block < ((W.setCell ⟨p,1,none⟩ (.int .i64 0))).heap.size→w'.cell? qA=((W.setCell ⟨p,1,none⟩ (.int .i64 0))).cell? qA)∧ Below ((W.setCell ⟨p,1,none⟩ (.int .i64 0))).heap.size ((W.setCell ⟨p,1,none⟩ (.int .i64 0))) w')) (by kernel_rfl) ?hS1 (fun hHeld=>?rest1)
 case hS1=>exact kSn
 case' rest1=>skip
 iterate 10 (refine tkN ?_;try simp only[PqL,Act.put])
 refine kRd 10 (fun K hK=>?_)
 go_simp
 refine hK.out _ _ ?hS14 (fun hHeld=>?rest14)
 case hS14=>exact kSn
 case' rest14=>(clear hK K;try simp only[PqL,Act.put])
 refine tkH 11 ?_;try simp only[PqL,Act.put]
 refine wpAnyH_done (by kernel_rfl) ?_ _;have hEnd:=hHeld.2
 repeat (clear hHeld)
 go_wp2_with fail
 go_ret
 have hB:=HN.out;rw[show (W.setCell ⟨p,1,none⟩ (.int .i64 0)).drew.heap.size=W.heap.size from hz0] at hB;exact⟨W.heap.size,Nat.le_refl _,rfl,hB,H1.out.step hEnd,HO.out.trans (zbv.of_below (F:=fun k=>k=p) hEnd) (fun _ _ h=>h)⟩
theorem zko (W:World)(A:Option Addr)(n c:Nat)(b:List UInt8)(h4:W.cell? ⟨p,6,none⟩=some (.slice A n c))(hn:n=b.length)(hl:n≤1000000) :
 Calls Tryz.prog 172 #[.pointer (some ⟨p,0,none⟩)] W fun e W'=>e= .returned (.int .i64 (btotal b:Nat))∧ W=W':=by
 have HT0:Hid (n=0→btotal b=1):=zak (by unfold btotal;omega);have HT1:Hid (n≠0→btotal b=(n+6) / 7):=zak (by unfold btotal;omega);clear hn;by_cases h0:n=0
 · subst h0;go_enter Tryz.func172,Tryz.ntmps172
   go_wp2_with fail
   go_ret
   exact⟨zau (by rw[HT0.out trivial];rfl),rfl⟩
 · have h1:((n:Int) == 0)=false:=by simp;omega
   have h2: ¬(n:Int)=0:=by omega
   have HN:=zak h0;clear h0;go_enter Tryz.func172,Tryz.ntmps172
   go_wp2_with fail
   go_ret
   exact⟨zau (by rw[HT1.out HN.out];simp),rfl⟩
theorem zkp {w W:World}{S:BlkS}{A:Option Addr}{n c:Nat}(h:RN w G p (rbkL S pd A n c) ks rs W)(hr:⟨A,n,c,S.b⟩ ∈ rs):RBV W (fun g=>G g∨w.heap.size≤g) p pd S:=⟨A,n,c,h.blk,h.rows _ hr⟩
theorem zkq (S:BlkS)(code:Nat)(w:World)(h:RBV w G p pd S) :
 Calls Tryz.prog 52 #[.pointer (some ⟨p,0,none⟩),.int .u32 (code:Nat)] w fun e w'=> ∃As ns cs ds,e= .returned (.slice As ns cs)∧ OwnMr w' (fun g=>w.heap.size≤g) As ns cs (bAnswerL S code) ds∧RBV w' (fun g=>G g∨w.heap.size≤g) p pd (bAnswerS S)∧ zbv (fun g=>g=p) w w':=by
 obtain⟨A,n,c,hR⟩:=h.rn;have c1:w.cell? ⟨p,1,none⟩=some (.int .i64 S.st):=hR.blk.cell 1 rfl;have f1:=hR.blk.frozen 1;have z:=hR.lt;have HR:=zak hR;by_cases h3:S.st=3
 · by_cases hc:code=0
   · have hL:bAnswerL S code= [okM 18 0 0 false]:=by unfold bAnswerL;rw[if_pos h3,if_neg (by simp[hc])]
     have hS:bAnswerS S=blkIdle S:=by unfold bAnswerS;rw[if_pos h3];rfl
     rw[hL,hS];have H1:Hid (RN w G p (rbkL (blkIdle S) pd A n c) [] [⟨A,n,c,S.b⟩] (w.setCell ⟨p,1,none⟩ (.int .i64 0))):=zak (hR.set 1 (.int .i64 0));have hz0:(w.setCell ⟨p,1,none⟩ (.int .i64 0)).heap.size=w.heap.size:=by simp[World.setCell]
     have HN:=zak (Blk.new (w.setCell ⟨p,1,none⟩ (.int .i64 0)) 30 (msV (okM 18 0 0 false) none 0 0));have HO:Hid (zbv (fun q=>q=p) w (w.setCell ⟨p,1,none⟩ (.int .i64 0))):=zak (zbv.of_set (F:=fun q=>q=p) rfl _);have HB:=zak (za7 (Below.refl _ (w.setCell ⟨p,1,none⟩ (.int .i64 0))) (.cells (msV (okM 18 0 0 false) none 0 0) 30));have HZ0:=zak hz0;unfold msV okM at HN HB;dsimp only at HN HB;subst hc;rw[h3] at c1;clear h hR hL hS h3 hz0;go_enter Tryz.func52,Tryz.ntmps52
     go_wp2_with fail
     go_ret
     have hB:=HN.out;rw[HZ0.out] at hB;refine⟨some ⟨w.heap.size,0,none⟩,1,1,[(none,0)],rfl,zkj hB (Nat.le_refl _) (zbs.nil _ _) (FIn.nil _),zkp (H1.out.step HB.out) (by simp[blkIdle]),HO.out.trans (zbv.of_below (F:=fun k=>k=p) HB.out) (fun _ _ h=>h)⟩
   · have hL:bAnswerL S code= [abM S.ix S.sub code]:=by unfold bAnswerL;rw[if_pos h3,if_pos hc]
     have hS:bAnswerS S=blkIdle S:=by unfold bAnswerS;rw[if_pos h3];rfl
     rw[hL,hS];have HAB:=zak (zkn S A n c code w hR (by omega));rw[h3] at c1;have hcn:((code:Int) != 0)=true:=by simp[hc]
     clear h hR hL hS h3 hc;go_enter Tryz.func52,Tryz.ntmps52
     go_wp2_with fail
     refine HAB.out.mono ?_;rintro e W' ⟨g,hg,rfl,hB,hR',ho⟩;have HB:=zak hB;have HR':=zak hR';have HO:=zak ho;clear hB hR' ho c1 f1;go_wp2_with fail
     go_ret
     exact⟨some ⟨g,0,none⟩,1,1,[(none,0)],rfl,zkj HB.out hg (zbs.nil _ _) (FIn.nil _),zkp HR'.out (by simp[blkIdle]),HO.out⟩
 · have hL:bAnswerL S code= []:=by unfold bAnswerL;rw[if_neg h3]
   have hS:bAnswerS S=S:=by unfold bAnswerS;rw[if_neg h3]
   rw[hL,hS];have hne:(S.st != 3)=true:=by simp[h3]
   clear h hR hL hS h3;go_enter Tryz.func52,Tryz.ntmps52
   go_wp2_with fail
   go_ret
   exact⟨none,0,0,[],rfl,zb2.nil _ _,zkp HR.out (by simp),zbv.refl _ _⟩
end
end
section
open Go.RowKit
theorem zkr {P:World→Prop}{f:Nat}{args:Array Value}{Q:Ending→World→Prop}{w:World}(h:P w)(k:∀W,P W→Calls Tryz.prog f args W Q):Calls Tryz.prog f args w Q:=k w h
def entL_ (E:Ent) (A:Option Addr) (n c:Nat):List Value:=[.int .i64 E.ix,.int .i64 E.sub,.string E.nm,.int .i64 E.ty,.int .i64 E.acc,.bool E.mp,.bool E.st,.int .i64 E.mx,.int .i64 E.lo,.int .i64 E.hi,.slice A n c]
section
variable {F:Nat→Prop} {pd n cl cv:Nat} {Al Av:Option Addr} {L:List Ent} {V:List (List UInt8)} {ds es:List (Option Addr×Nat)}
end
end
end Go.Proofs.YtkkpjbjmhaecjaaGreat
