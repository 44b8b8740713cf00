/- None -/
import Derived.Test.YtkkpjbjmhaecjaaGreatU38
import Derived.Maps.OwnSet
import Derived.ChangeAlike
namespace Go.Proofs.YtkkpjbjmhaecjaaGreat
set_option linter.all false
set_option maxRecDepth 100000
set_option maxHeartbeats 4000000
section
section
open Go.RowKit
theorem BV_.lt {w:World}{G:Nat→Prop}{p pd:Nat}{S:BlkS}(h:BV_ w G p pd S):p < w.heap.size:=by
 obtain⟨A,n,c,hB,_⟩:=h;exact hB.lt
theorem MsG.keep {w w':World}{N:Nat}{X:Nat→Prop}{As:Option Addr}{ns cs:Nat}{l:List Ms}{ds:List (Option Addr×Nat)}(h:MsG w N X As ns cs l ds)(hk:∀g,N≤g→g < w.heap.size→w'.heap[g]? =w.heap[g]?):MsG w' N X As ns cs l ds:=⟨h.1.keep hk,h.2⟩
theorem MsG.only {w w':World}{N:Nat}{X F:Nat→Prop}{As:Option Addr}{ns cs:Nat}{l:List Ms}{ds:List (Option Addr×Nat)}(h:MsG w N X As ns cs l ds)(ho:zbv F w w')(hF:∀q,F q→q < N):MsG w' N X As ns cs l ds:=h.keep (fun g hg hl=>ho.block g hl (fun k=>by have:=hF g k;omega))
theorem MsG.mono {w:World}{N N':Nat}{X:Nat→Prop}{As:Option Addr}{ns cs:Nat}{l:List Ms}{ds:List (Option Addr×Nat)}(h:MsG w N X As ns cs l ds)(hn:N'≤N):MsG w N' X As ns cs l ds:=⟨h.1.mono (fun g _ hg=>Nat.le_trans hn hg),h.2⟩
theorem MsG.x {w:World}{N:Nat}{X Y:Nat→Prop}{As:Option Addr}{ns cs:Nat}{l:List Ms}{ds:List (Option Addr×Nat)}(h:MsG w N X As ns cs l ds)(hy:∀q,X q→N≤q→q < w.heap.size→Y q):MsG w N Y As ns cs l ds:=⟨h.1,fun d hd g hg=>by
 obtain⟨j,hj,rfl⟩:=List.getElem_of_mem hd;obtain⟨v,hv⟩:∃v,l[j]? =some v:=⟨l[j]'(by rw[←h.1.1.hd];exact hj),List.getElem?_eq_getElem _⟩;have hd2:=h.1.1.data j v _ hv (List.getElem?_eq_getElem hj);exact hy g (h.2 _ hd g hg) (hd2.2 g hg) (hd2.1.own.fin g hg).2⟩
def CallB (w:World) (p:Nat) (V:World→Prop) (l:List Ms) (e:Ending) (w':World):Prop:=
 ∃As ns cs ds,e= .returned (.slice As ns cs)∧ MsG w' w.heap.size (fun _=>False) As ns cs l ds∧V w'∧zbv (fun q=>q=p) w w'
def CallC (w:World) (p:Nat) (V:World→Prop) (l:List Ms) (e:Ending) (w':World):Prop:=
 ∃As ns cs ds,e= .returned (.slice As ns cs)∧ OwnMr w' (fun g=>w.heap.size≤g) As ns cs l ds∧V w'∧zbv (fun q=>q=p) w w'
theorem znf {w:World}{N g:Nat}{M:Ms}(hg:N≤g)(hB:Blk w g 95 (msV M none 0 0))(hd:M.data= []):MsG w N (fun _=>False) (some ⟨g,0,none⟩) 1 1 [M] [(none,0)]:=
 zmh hg hB (by rw[hd];exact zbs.nil _ _) (FIn.nil _)
theorem zng (p pd:Nat)(S:BlkS)(G:Nat→Prop)(code:Nat)(w:World)(hS:BV_ w G p pd S) :
 Calls Tryz.prog 38 #[.pointer (some ⟨p,0,none⟩),.int .u32 (code:Nat)] w (CallB w p (fun w'=>BV_ w' G p pd (bAnswerS S)) (bAnswerL S code)):=by
 obtain⟨A,n,c,hB,hb⟩:=id hS;refine (zit p pd S code A n c w hB).mono ?_;rintro e w' ⟨h1,h2⟩;by_cases h3:S.st=3
 · obtain⟨g,hg,rfl,hM,hB',ho⟩:=h2 h3;refine⟨_,_,_,[(none,0)],rfl,?_,?_,ho⟩
   · unfold bAnswerL;rw[if_pos h3];by_cases h0:code=0
     · rw[if_neg (by simp[h0])];rw[if_pos h0] at hM;exact znf hg hM rfl
     · rw[if_pos h0];rw[if_neg h0] at hM;exact znf hg hM rfl
   · unfold bAnswerS;rw[if_pos h3];exact zi0 hB'
 · obtain⟨rfl,rfl⟩:=h1 h3;exact⟨none,0,0,[],rfl,by unfold bAnswerL;rw[if_neg h3];exact zmg _ _ _,by unfold bAnswerS;rw[if_neg h3];exact hS,zbv.refl _ _⟩
theorem znh (p pd:Nat)(S:BlkS)(G:Nat→Prop)(code:Nat)(w:World)(hS:BV_ w G p pd S) :
 Calls Tryz.prog 53 #[.pointer (some ⟨p,0,none⟩),.int .u32 (code:Nat)] w (CallB w p (fun w'=>BV_ w' G p pd (blkIdle S)) (bAbortL S code)):=by
 obtain⟨A,n,c,hB,hb⟩:=id hS;refine (zir p pd S code A n c w hB).mono ?_;rintro e w' ⟨h1,h2⟩;by_cases h3:S.st=0
 · obtain⟨rfl,rfl⟩:=h1 h3;exact⟨none,0,0,[],rfl,by unfold bAbortL;rw[if_pos h3];exact zmg _ _ _,by rw[zl5 h3];exact hS,zbv.refl _ _⟩
 · obtain⟨g,hg,rfl,hM,hB',ho⟩:=h2 h3;exact⟨_,_,_,[(none,0)],rfl,by unfold bAbortL;rw[if_neg h3];exact znf hg hM rfl,zi0 hB',ho⟩
theorem zni (p pd:Nat)(S:BlkS)(G:Nat→Prop)(w:World)(hS:BV_ w G p pd S) :
 Calls Tryz.prog 55 #[.pointer (some ⟨p,0,none⟩)] w fun e w'=>e= .returned (.tuple #[])∧ BV_ w' G p pd (blkIdle S)∧ zbv (fun q=>q=p) w w':=by
 obtain⟨A,n,c,hB,hb⟩:=id hS;refine (zin p pd S A n c w hB).mono ?_;rintro e w' ⟨rfl,hB',ho⟩;exact⟨rfl,zi0 hB',ho⟩
theorem RBS.blk_ {w:World}{G:Nat→Prop}{p pd:Nat}{S:BlkS}(h:RBS w G p pd S):∃r A n c,Blk w p 51 (rbkL { S with ro:=r } pd A n c).toArray:=by
 obtain⟨r,_,A,n,c,hB,_⟩:=h;exact⟨r,A,n,c,hB⟩
theorem RBS.set0 {w:World}{G:Nat→Prop}{p pd:Nat}{S:BlkS}(h:RBS w G p pd S):RBS (w.setCell ⟨p,1,none⟩ (.int .i64 0)) G p pd (blkIdle S):=by
 obtain⟨r,_,A,n,c,hB,hr⟩:=h;refine⟨r,fun h=>absurd h (show ¬(0:Int)=5 by decide),A,n,c,?_,hr.keep (by simp[World.setCell]) (fun q _ _ hne=>Below.heap_setCell _ _ _ _ (fun e=>hne e)) (fun _ _ h=>h)⟩
 have:=hB.set_ 1 (.int .i64 0)
 rwa [List.setIfInBounds_toArray] at this
theorem znj (p pd:Nat)(S:BlkS)(G:Nat→Prop)(code:Nat)(w:World)(hS:RBS w G p pd S) :
 Calls Tryz.prog 52 #[.pointer (some ⟨p,0,none⟩),.int .u32 (code:Nat)] w (CallC w p (fun w'=>RBS w' (fun g=>G g∨w.heap.size≤g) p pd (bAnswerS S)) (bAnswerL S code)):=by
 obtain⟨r,hr,h⟩:=hS;refine (zkq { S with ro:=r } code w h).mono ?_;rintro e w' ⟨As,ns,cs,ds,rfl,h1,h2,h3⟩;refine⟨As,ns,cs,ds,rfl,h1,⟨r,?_,?_⟩,h3⟩
 · intro h5;by_cases h:S.st=3
   · unfold bAnswerS at h5;rw[if_pos h] at h5;exact absurd h5 (show ¬(0:Int)=5 by decide)
   · unfold bAnswerS at h5 ⊢;rw[if_neg h] at h5 ⊢;exact hr h5
 · have e:bAnswerS { S with ro:=r }= { bAnswerS S with ro:=r }:=by unfold bAnswerS;(repeat' split)<;> first | rfl | contradiction
   rw[←e];exact h2
theorem znk (S:BlkS)(p pd code:Nat)(A:Option Addr)(n c:Nat)(w:World)(h:Blk w p 51 (rbkL S pd A n c).toArray)(h0:S.st=0) :
 Calls Tryz.prog 54 #[.pointer (some ⟨p,0,none⟩),.int .u32 (code:Nat)] w fun e w'=>e= .returned (.slice none 0 0)∧ w=w':=by
 have c1:w.cell? ⟨p,1,none⟩=some (.int .i64 0):=by rw[←h0];exact h.cell 1 rfl
 have f1:=h.frozen 1;have z:=h.lt;clear h h0;go_enter Tryz.func54,Tryz.ntmps54
 go_wp2_with fail
 go_ret
 exact⟨rfl,rfl⟩
theorem znl (p pd:Nat)(S:BlkS)(G:Nat→Prop)(code:Nat)(w:World)(hS:RBS w G p pd S) :
 Calls Tryz.prog 54 #[.pointer (some ⟨p,0,none⟩),.int .u32 (code:Nat)] w (CallC w p (fun w'=>RBS w' (fun g=>G g∨w.heap.size≤g) p pd (blkIdle S)) (bAbortL S code)):=by
 obtain⟨r,hr,h⟩:=hS;by_cases h3:S.st=0
 · obtain⟨A,n,c,hB,hd⟩:=h;refine (znk { S with ro:=r } p pd code A n c w hB h3).mono ?_;rintro e w' ⟨rfl,rfl⟩;refine⟨none,0,0,[],rfl,by unfold bAbortL;rw[if_pos h3];exact zb2.nil _ _,⟨r,fun h=>absurd h (show ¬(0:Int)=5 by decide),A,n,c,?_,hd.keep (Nat.le_refl _) (fun _ _ _ _=>rfl) (fun _ _ h=> .inl h)⟩,zbv.refl _ _⟩;have e:rbkL { blkIdle S with ro:=r } pd A n c=rbkL { S with ro:=r } pd A n c:=by rw[zl5 h3]
   rw[e];exact hB
 · obtain⟨A,n,c,hR⟩:=h.rn;refine (zkn { S with ro:=r } A n c code w hR h3).mono ?_;rintro e w' ⟨g,hg,rfl,hM,hR',ho⟩;refine⟨some ⟨g,0,none⟩,1,1,[(none,0)],rfl,by unfold bAbortL;rw[if_neg h3];exact zkj hM hg (zbs.nil _ _) (FIn.nil _),⟨r,fun h=>absurd h (show ¬(0:Int)=5 by decide),?_⟩,ho⟩;exact zkp (S:={ blkIdle S with ro:=r }) hR' (List.mem_singleton.2 rfl)
structure znm (Z:Nat→Prop) (N:Nat) (L:List Ent) (pp pd pt ps pr:Nat) (V:List (List UInt8)) (S T:BlkS) (lix lsub:Int) (lb:List UInt8) (X Gs Gr:Nat→Prop) (Al:Option Addr) (cl:Nat) (W:World):Prop where
 two:zmx N X L V pt W pd
 pb:Blk W pp 48 #[.pointer (some ⟨pd,0,none⟩),.pointer (some ⟨pt,0,none⟩),.pointer (some ⟨ps,0,none⟩),.pointer (some ⟨pr,0,none⟩),.int .i64 lix,.int .i64 lsub,.slice Al lb.length cl]
 sv:BV_ W Gs ps pd S
 rv:RBS W Gr pr pt T
 lc:lb.length≤cl
 le:lb.length≤200000
 lsl:Sl W Al (lb.map bv)
 lal:∀ad,Al=some ad→ad.block < W.heap.size∧ad.block≠pp∧ad.block≠ps∧ad.block≠pr∧ ¬Z ad.block∧X ad.block
 gs:∀q,Gs q→q < W.heap.size→X q∧q≠pp∧q≠pr∧ ¬Z q
 gr:∀q,Gr q→q < W.heap.size→X q∧q≠pp∧q≠ps∧ ¬Z q
 zx:∀q,Z q→X q
 xs:X pp∧X ps∧X pr
 zs: ¬Z pp∧ ¬Z ps∧ ¬Z pr
 nn:N≤pp∧N≤ps∧N≤pr
 ne:pp≠ps∧pp≠pr∧ps≠pr
section
variable {Z Z' Zn:Nat→Prop} {N:Nat} {L:List Ent} {pp pd pt ps pr:Nat} {V V':List (List UInt8)} {S S' T T':BlkS} {lix lsub:Int} {lb:List UInt8} {X Gs Gr G':Nat→Prop} {Al:Option Addr} {cl:Nat} {W W':World}
theorem znm.mono (h:znm Z N L pp pd pt ps pr V S T lix lsub lb X Gs Gr Al cl W)(hz:∀q,Z' q→Z q):znm Z' N L pp pd pt ps pr V S T lix lsub lb X Gs Gr Al cl W:=
 { h with
  lal:=fun ad e=>⟨(h.lal ad e).1,(h.lal ad e).2.1,(h.lal ad e).2.2.1,(h.lal ad e).2.2.2.1,fun k=>(h.lal ad e).2.2.2.2.1 (hz _ k),(h.lal ad e).2.2.2.2.2⟩
  gs:=fun q a b=>⟨(h.gs q a b).1,(h.gs q a b).2.1,(h.gs q a b).2.2.1,fun k=>(h.gs q a b).2.2.2 (hz _ k)⟩
  gr:=fun q a b=>⟨(h.gr q a b).1,(h.gr q a b).2.1,(h.gr q a b).2.2.1,fun k=>(h.gr q a b).2.2.2 (hz _ k)⟩
  zx:=fun q k=>h.zx q (hz q k)
  zs:=⟨fun k=>h.zs.1 (hz _ k),fun k=>h.zs.2.1 (hz _ k),fun k=>h.zs.2.2 (hz _ k)⟩ }
theorem znm.only (h:znm Z N L pp pd pt ps pr V S T lix lsub lb X Gs Gr Al cl W)(ho:zbv Z W W'):znm Z N L pp pd pt ps pr V S T lix lsub lb X (fun q=>Gs q∧q < W.heap.size) (fun q=>Gr q∧q < W.heap.size) Al cl W':=
 { h with
  two:=h.two.far (ho.mono (fun q _ k=>h.zx q k))
  pb:=(ho.block pp h.pb.lt h.zs.1).trans h.pb
  sv:=h.sv.keep (fun q hq hlt=>ho.block q hlt (by rcases hq with rfl | hq;exact h.zs.2.1;exact (h.gs q hq hlt).2.2.2)) ho.size (fun q h1 h2=>⟨h2,h1⟩)
  rv:=h.rv.keep (fun q hq hlt=>ho.block q hlt (by rcases hq with rfl | hq;exact h.zs.2.2;exact (h.gr q hq hlt).2.2.2)) ho.size (fun q h1 h2=>⟨h2,h1⟩)
  lsl:=zh9 h.lsl (fun ad e=>ho.block _ (h.lal ad e).1 (h.lal ad e).2.2.2.2.1)
  lal:=fun ad e=>⟨Nat.lt_of_lt_of_le (h.lal ad e).1 ho.size,(h.lal ad e).2⟩
  gs:=fun q a _=>h.gs q a.1 a.2
  gr:=fun q a _=>h.gr q a.1 a.2 }
theorem znm.below (h:znm Z N L pp pd pt ps pr V S T lix lsub lb X Gs Gr Al cl W)(hb:Below W.heap.size W W'):znm Z N L pp pd pt ps pr V S T lix lsub lb X (fun q=>Gs q∧q < W.heap.size) (fun q=>Gr q∧q < W.heap.size) Al cl W':=h.only (zbv.of_below hb)
theorem znm.prog (h:znm Z N L pp pd pt ps pr V S T lix lsub lb X Gs Gr Al cl W)(ho:zbv (fun q=>q=ps) W W')(hS:BV_ W' G' ps pd S')(hG:∀q,G' q→(Gs q∨W.heap.size≤q)∧ ¬Zn q)(hZ:∀q,Zn q→W.heap.size≤q)(hZW:∀q,Z q→q < W.heap.size) :
 znm (fun q=>Z q∨Zn q) N L pp pd pt ps pr V S' T lix lsub lb (fun q=>X q∨W.heap.size≤q) (fun q=>G' q) (fun q=>Gr q∧q < W.heap.size) Al cl W':=by
 have z1:=h.pb.lt;have z2:=h.sv.lt;have z3:=h.rv.lt;have zs:=ho.size;refine { two:=(h.two.grow (G':=fun q=>X q∨W.heap.size≤q) (fun q h1 h2=>h2.elim id (fun h2=>by omega))).far (ho.mono (fun q _ e=>by rw[e];exact .inl h.xs.2.1)),pb:=(ho.block pp z1 h.ne.1).trans h.pb,sv:=hS,rv:=h.rv.keep (fun q hq hlt=>ho.block q hlt (by rcases hq with rfl | hq;exact fun e=>h.ne.2.2 e.symm;exact (h.gr q hq hlt).2.2.1)) zs (fun q h1 h2=>⟨h2,h1⟩),lc:=h.lc,le:=h.le,lsl:=zh9 h.lsl (fun ad e=>ho.block _ (h.lal ad e).1 (h.lal ad e).2.2.1),lal:=fun ad e=>?_,gs:=fun q a b=>?_,gr:=fun q a _=>?_,zx:=fun q k=>?_,xs:=⟨.inl h.xs.1,.inl h.xs.2.1,.inl h.xs.2.2⟩,zs:=⟨fun k=>?_,fun k=>?_,fun k=>?_⟩,nn:=h.nn,ne:=h.ne }
 · obtain⟨a1,a2,a3,a4,a5,a6⟩:=h.lal ad e;exact⟨by omega,a2,a3,a4,fun k=>k.elim a5 (fun k=>by have:=hZ _ k;omega),.inl a6⟩
 · obtain⟨k1,k2⟩:=hG q a;rcases k1 with k1 | k1
   · by_cases hlt:q < W.heap.size
     · obtain⟨a1,a2,a3,a4⟩:=h.gs q k1 hlt;exact⟨.inl a1,a2,a3,fun k=>k.elim a4 k2⟩
     · exact⟨.inr (by omega),by omega,by omega,fun k=>k.elim (fun k=>by have:=hZW q k;omega) k2⟩
   · exact⟨.inr k1,by omega,by omega,fun k=>k.elim (fun k=>by have:=hZW q k;omega) k2⟩
 · obtain⟨a1,a2,a3,a4⟩:=h.gr q a.1 a.2;exact⟨.inl a1,a2,a3,fun k=>k.elim a4 (fun k=>by have:=hZ _ k;have:=a.2;omega)⟩
 · exact k.elim (fun k=> .inl (h.zx q k)) (fun k=> .inr (hZ q k))
 · exact k.elim h.zs.1 (fun k=>by have:=hZ _ k;omega)
 · exact k.elim h.zs.2.1 (fun k=>by have:=hZ _ k;omega)
 · exact k.elim h.zs.2.2 (fun k=>by have:=hZ _ k;omega)
theorem znm.refc (h:znm Z N L pp pd pt ps pr V S T lix lsub lb X Gs Gr Al cl W)(ho:zbv (fun q=>q=pr) W W')(hS:RBS W' G' pr pt T')(hG:∀q,G' q→Gr q∨W.heap.size≤q)(hZW:∀q,Z q→q < W.heap.size) :
 znm Z N L pp pd pt ps pr V S T' lix lsub lb (fun q=>X q∨W.heap.size≤q) (fun q=>Gs q∧q < W.heap.size) (fun q=>G' q) Al cl W':=by
 have z1:=h.pb.lt;have z2:=h.sv.lt;have z3:=h.rv.lt;have zs:=ho.size;refine { two:=(h.two.grow (G':=fun q=>X q∨W.heap.size≤q) (fun q h1 h2=>h2.elim id (fun h2=>by omega))).far (ho.mono (fun q _ e=>by rw[e];exact .inl h.xs.2.2)),pb:=(ho.block pp z1 h.ne.2.1).trans h.pb,sv:=h.sv.keep (fun q hq hlt=>ho.block q hlt (by rcases hq with rfl | hq;exact h.ne.2.2;exact (h.gs q hq hlt).2.2.1)) zs (fun q h1 h2=>⟨h2,h1⟩),rv:=hS,lc:=h.lc,le:=h.le,lsl:=zh9 h.lsl (fun ad e=>ho.block _ (h.lal ad e).1 (h.lal ad e).2.2.2.1),lal:=fun ad e=>?_,gs:=fun q a _=>?_,gr:=fun q a b=>?_,zx:=fun q k=> .inl (h.zx q k),xs:=⟨.inl h.xs.1,.inl h.xs.2.1,.inl h.xs.2.2⟩,zs:=h.zs,nn:=h.nn,ne:=h.ne }
 · obtain⟨a1,a2,a3,a4,a5,a6⟩:=h.lal ad e;exact⟨by omega,a2,a3,a4,a5,.inl a6⟩
 · obtain⟨a1,a2,a3,a4⟩:=h.gs q a.1 a.2;exact⟨.inl a1,a2,a3,a4⟩
 · rcases hG q a with k1 | k1
   · by_cases hlt:q < W.heap.size
     · obtain⟨a1,a2,a3,a4⟩:=h.gr q k1 hlt;exact⟨.inl a1,a2,a3,a4⟩
     · exact⟨.inr (by omega),by omega,by omega,fun k=>by have:=hZW q k;omega⟩
   · exact⟨.inr k1,by omega,by omega,fun k=>by have:=hZW q k;omega⟩
theorem znm.last {b:List UInt8}{Ab:Option Addr}{cb:Nat}{ix sub:Int}(h:znm Z N L pp pd pt ps pr V S T lix lsub lb X Gs Gr Al cl W)(ho:zbv (fun q=>q=pp) W W')(hB:Blk W' pp 48 #[.pointer (some ⟨pd,0,none⟩),.pointer (some ⟨pt,0,none⟩),.pointer (some ⟨ps,0,none⟩),.pointer (some ⟨pr,0,none⟩),.int .i64 ix,.int .i64 sub,.slice Ab b.length cb])
 (hc:b.length≤cb) (hle:b.length≤200000) (hsl:Sl W Ab (b.map bv)) (hal:∀ad,Ab=some ad→ad.block < W.heap.size∧ad.block≠pp∧ad.block≠ps∧ad.block≠pr∧ ¬Z ad.block∧X ad.block) :
 znm Z N L pp pd pt ps pr V S T ix sub b X (fun q=>Gs q∧q < W.heap.size) (fun q=>Gr q∧q < W.heap.size) Ab cb W':=by
 have zs:=ho.size;exact { two:=h.two.far (ho.mono (fun q _ e=>by rw[e];exact h.xs.1)),pb:=hB,sv:=h.sv.keep (fun q hq hlt=>ho.block q hlt (by rcases hq with rfl | hq;exact fun e=>h.ne.1 e.symm;exact (h.gs q hq hlt).2.1)) zs (fun q h1 h2=>⟨h2,h1⟩),rv:=h.rv.keep (fun q hq hlt=>ho.block q hlt (by rcases hq with rfl | hq;exact fun e=>h.ne.2.1 e.symm;exact (h.gr q hq hlt).2.1)) zs (fun q h1 h2=>⟨h2,h1⟩),lc:=hc,le:=hle,lsl:=zh9 hsl (fun ad e=>ho.block _ (hal ad e).1 (hal ad e).2.1),lal:=fun ad e=>⟨Nat.lt_of_lt_of_le (hal ad e).1 zs,(hal ad e).2⟩,gs:=fun q a _=>h.gs q a.1 a.2,gr:=fun q a _=>h.gr q a.1 a.2,zx:=h.zx,xs:=h.xs,zs:=h.zs,nn:=h.nn,ne:=h.ne }
theorem znm.dicts {Fd Fr:Nat→Prop}{W1:World}(h:znm Z N L pp pd pt ps pr V S T lix lsub lb X Gs Gr Al cl W)(hX:∀q,Fd q→ ¬X q)(hXr:∀q,Fr q→ ¬X q)(ho:zbv Fd W W1)(ho2:zbv Fr W1 W')(h2:zmx N (fun q=>X q∧q < W.heap.size) L V' pt W' pd)(hZW:∀q,Z q→q < W.heap.size) :
 znm Z N L pp pd pt ps pr V' S T lix lsub lb (fun q=>X q∧q < W.heap.size) (fun q=>Gs q∧q < W.heap.size) (fun q=>Gr q∧q < W.heap.size) Al cl W':=by
 have z1:=h.pb.lt;have z2:=h.sv.lt;have z3:=h.rv.lt;have zs:=ho.size;have zs2:=ho2.size;have hk:∀q,X q→q < W.heap.size→W'.heap[q]? =W.heap[q]? :=fun q hq hlt=>(ho2.block q (by omega) (fun e=>hXr q e hq)).trans (ho.block q hlt (fun e=>hX q e hq))
 exact { two:=h2,pb:=(hk pp h.xs.1 z1).trans h.pb,sv:=h.sv.keep (fun q hq hlt=>hk q (by rcases hq with rfl | hq;exact h.xs.2.1;exact (h.gs q hq hlt).1) hlt) (by omega) (fun q h1 h2=>⟨h2,h1⟩),rv:=h.rv.keep (fun q hq hlt=>hk q (by rcases hq with rfl | hq;exact h.xs.2.2;exact (h.gr q hq hlt).1) hlt) (by omega) (fun q h1 h2=>⟨h2,h1⟩),lc:=h.lc,le:=h.le,lsl:=zh9 h.lsl (fun ad e=>hk _ (h.lal ad e).2.2.2.2.2 (h.lal ad e).1),lal:=fun ad e=>⟨by have:=(h.lal ad e).1;omega,(h.lal ad e).2.1,(h.lal ad e).2.2.1,(h.lal ad e).2.2.2.1,(h.lal ad e).2.2.2.2.1,(h.lal ad e).2.2.2.2.2,(h.lal ad e).1⟩,gs:=fun q a _=>⟨⟨(h.gs q a.1 a.2).1,a.2⟩,(h.gs q a.1 a.2).2⟩,gr:=fun q a _=>⟨⟨(h.gr q a.1 a.2).1,a.2⟩,(h.gr q a.1 a.2).2⟩,zx:=fun q k=>⟨h.zx q k,hZW q k⟩,xs:=⟨⟨h.xs.1,z1⟩,⟨h.xs.2.1,z2⟩,⟨h.xs.2.2,z3⟩⟩,zs:=h.zs,nn:=h.nn,ne:=h.ne }
end
end
end
section
open Go.RowKit
def z8:List UInt8:=[0,0,0,0,0,0,0,0]
end
section
open Go.RowKit
set_option maxRecDepth 20000
end
section

end
section
open Go.RowKit Go.Maps
set_option maxHeartbeats 4000000
end
section
open Go.RowKit Go.Maps
structure RB where
 A:Option Addr
 n:Nat
 c:Nat
 l:List UInt8
section
variable {w0 W W':World} {G:Nat→Prop} {p m:Nat} {wk k:Int} {cs cs':List Value} {ks:List KB} {rs:List RB} {x:KB}
end
section
variable {w0:World} {G:Nat→Prop} {p m:Nat} {wk:Int} {cs:List Value} {ks:List KB} {rs:List RB}
end
end
section
open Go.RowKit
set_option maxHeartbeats 2000000
end
section
open Go.RowKit
set_option maxHeartbeats 2000000
end
section
open Go.RowKit
set_option maxHeartbeats 2000000
end
section
open Go.RowKit
set_option maxHeartbeats 2000000
end
section
open Go.RowKit
set_option maxHeartbeats 2000000
end
section
open Go.RowKit
set_option maxHeartbeats 2000000
end
section
open Go.RowKit
set_option maxHeartbeats 2000000
end
section
open Go.RowKit
set_option maxHeartbeats 4000000
end
section
open Go.RowKit
set_option maxHeartbeats 4000000
end
end Go.Proofs.YtkkpjbjmhaecjaaGreat
