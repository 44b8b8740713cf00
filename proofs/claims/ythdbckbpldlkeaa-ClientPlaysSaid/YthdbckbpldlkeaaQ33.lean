/- None -/
import Derived.Test.YthdbckbpldlkeaaQ32
import Derived.Test.YthdbckbpldlkeaaRows
import Derived.ProofKit
import Derived.OpenShut
import Derived.ChangeOld
import Derived.Deep.Slices
import Derived.Deep.Fields
import Derived.Lib.SmallJoins
namespace Go.Proofs.Ythdbckbpldlkeaa
set_option linter.unusedVariables false
set_option linter.unusedSimpArgs false
set_option linter.unnecessarySimpa false
section
open Go.RowKit Go.Maps
set_option maxRecDepth 100000
set_option maxHeartbeats 4000000
theorem zle {w w':World} {A:Option Addr} {xs:List Value} (h:Sl w A xs) (hk:∀ ad,A=some ad→w'.heap[ad.block]? =w.heap[ad.block]?):Sl w' A xs:=by
 intro j u hu
 obtain⟨ad,rfl,hc⟩:= h j u hu
 refine⟨ad,rfl,?_⟩
 rw[← hc]
 unfold World.cell?
 rw[show (ad.add j).block=ad.block by unfold Addr.add;split<;>rfl,hk ad rfl]
theorem zlf {A:Option Addr} {c k s:Nat} {ad:Addr} (h:cutA A c k s=some ad):∃ a0,A=some a0∧ad.block=a0.block:=by
 unfold cutA at h
 split at h
 · exact⟨ad,h,rfl⟩
 · cases A with
   | none=>cases h
   | some a0=>
     injection h with h
     refine⟨a0,rfl,?_⟩
     rw[← h]
     show (a0.add (k * s)).block=a0.block
     unfold Addr.add
     split<;>rfl
theorem zlg (A:Option Addr) (n c:Nat) (l:List UInt8) (w:World) (hn:n=l.length) (hl:n≤35184372088832) (hs:Sl w A (l.map bv)) :
 Calls Try.prog 30 #[.slice none 0 0,.slice A n c] w fun e w'=> ∃ A' c',e= .returned (.slice A' n c')∧ zb7 w' w.heap.size A' n c' l∧Below w.heap.size w w':=by
 refine (zc8 none A 0 n 0 c [] l w rfl hn (by omega) hl (Sl.nil _ _) hs).mono ?_
 rintro e w' ⟨A',n',c',rfl,hO,hb⟩
 have h1:n'=n:=by have:=hO.hn;simp at this;omega
 subst h1
 exact⟨A',c',rfl,hO,hb⟩
structure RR where
 A:Option Addr
 n:Nat
 c:Nat
 A2:Option Addr
 n2:Nat
 c2:Nat
def rrZ:RR:=⟨none,0,0,none,0,0⟩
def rclL (T:RCli) (R:RR):List Value:= [.int .i64 T.nd,.int .i64 T.wk,.int .i64 T.ix,.int .i64 T.sub,.slice R.A R.n R.c,.int .u32 (T.code:Nat),.slice R.A2 R.n2 R.c2,.bool T.tg,.bool T.la,.bool T.sz,.int .i64 T.si,.bool T.cr,.int .i64 T.ha,.int .i64 T.ro,.int .i64 T.nx,.bool T.qk]
def RdB (W:World) (G:Nat→Prop) (p:Nat) (r:RB):Prop:=r.n=r.l.length∧r.n≤r.c∧Sl W r.A (r.l.map bv)∧ ∀ ad,r.A=some ad→G ad.block∧ad.block < W.heap.size∧ad.block≠p
theorem RdB.nil (W:World) (G:Nat→Prop) (p:Nat):RdB W G p ⟨none,0,0,[]⟩:= ⟨rfl,Nat.le_refl _,Sl.nil _ _,by simp⟩
theorem RdB.keep {W W':World} {G H:Nat→Prop} {p:Nat} {r:RB} (h:RdB W G p r) (hz:W.heap.size≤W'.heap.size) (hk:∀ q,G q→q < W.heap.size→q≠p→W'.heap[q]? =W.heap[q]?) (hH:∀ q,q < W.heap.size→G q→H q):RdB W' H p r:=
 ⟨h.1,h.2.1,zle h.2.2.1 (fun ad e=>hk _ (h.2.2.2 ad e).1 (h.2.2.2 ad e).2.1 (h.2.2.2 ad e).2.2),fun ad e=>⟨hH _ (h.2.2.2 ad e).2.1 (h.2.2.2 ad e).1,Nat.lt_of_lt_of_le (h.2.2.2 ad e).2.1 hz,(h.2.2.2 ad e).2.2⟩⟩
theorem RdB.cut {W:World} {G:Nat→Prop} {p:Nat} {A:Option Addr} {n c:Nat} {l:List UInt8} (h:RdB W G p ⟨A,n,c,l⟩) (k m:Nat) (hk:k≤n) (hm:m=n - k):RdB W G p ⟨cutA A c k 1,m,c - k,l.drop k⟩:= by
 subst hm
 obtain⟨h1,h2,h3,h4⟩:= h
 dsimp only at h1 h2 h3 h4
 refine⟨by simp[h1],by dsimp only;omega,?_,fun ad e=>?_⟩
 · have:=h3.cut1 (k:=k) (c:=c) (by rw[List.length_map];omega)
   simpa [List.map_drop] using this
 · obtain⟨a0,e0,eb⟩:= zlf e
   rw[eb]
   exact h4 a0 e0
theorem zlh {W:World} {N p n c:Nat} {A:Option Addr} {l:List UInt8} {G:Nat→Prop} (h:zb7 W N A n c l) (hG:∀ g,N≤g→g < W.heap.size→G g∧g≠p):RdB W G p ⟨A,n,c,l⟩:= by
 refine⟨h.hn,?_,h.sl,fun ad e=>?_⟩
 · exact h.own.le
 · rcases h.own.shape with ⟨rfl,_⟩ | ⟨q,rfl,h1,h2⟩
   · simp at e
   · injection e with e
     subst e
     exact⟨(hG q h1 h2).1,h2,(hG q h1 h2).2⟩
structure RM (w0:World) (G:Nat→Prop) (p:Nat) (cs:List Value) (ks:List KB) (rs:List RB) (W:World):Prop where
 blk:Blk W p 48 cs.toArray
 lt0:p < w0.heap.size
 only:zcd (fun q=>q=p) w0 W
 keep:∀ x ∈ ks,x.g≠p∧Blk W x.g x.t x.l.toArray
 rows:∀ r ∈ rs,RdB W (fun g=>G g∨w0.heap.size≤g) p r
section
variable {w0 W W':World} {G:Nat→Prop} {p:Nat} {cs cs':List Value} {ks:List KB} {rs:List RB} {x:KB}
theorem RM.lt (h:RM w0 G p cs ks rs W):p < W.heap.size:=h.blk.lt
theorem RM.size (h:RM w0 G p cs ks rs W):w0.heap.size≤W.heap.size:=h.only.size
theorem RM.turn (h:RM w0 G p cs ks rs W) (ho:zcd (fun q=>q=p) W W') (hB:Blk W' p 48 cs'.toArray):RM w0 G p cs' ks rs W':=
 ⟨hB,h.lt0,h.only.trans ho (fun _ _ e=>e),fun x hx=>⟨(h.keep x hx).1,(ho.block x.g (h.keep x hx).2.lt (h.keep x hx).1).trans (h.keep x hx).2⟩,
  fun r hr=>(h.rows r hr).keep ho.size (fun q _ hq hp=>ho.block q hq hp) (fun _ _ h=>h)⟩
theorem RM.set (h:RM w0 G p cs ks rs W) (i:Nat) (v:Value):RM w0 G p (cs.set i v) ks rs (W.setCell ⟨p,i,none⟩ v):=
 h.turn (zcd.of_set (F:=fun q=>q=p) rfl v) (by have:=h.blk.set_ i v;rwa [List.setIfInBounds_toArray] at this)
theorem RM.step (h:RM w0 G p cs ks rs W) (hb:Below W.heap.size W W'):RM w0 G p cs ks rs W':=
 ⟨h.blk.below hb h.blk.lt,h.lt0,h.only.step hb,fun x hx=>⟨(h.keep x hx).1,(h.keep x hx).2.below hb (h.keep x hx).2.lt⟩,fun r hr=>(h.rows r hr).keep hb.size (fun q _ hq _=>hb.block q hq) (fun _ _ h=>h)⟩
theorem RM.alloc (h:RM w0 G p cs ks rs W) (o:Obj):RM w0 G p cs ks rs (W.alloc o):= h.step (zbp (Below.refl _ _) o)
theorem RM.drew (h:RM w0 G p cs ks rs W):RM w0 G p cs ks rs W.drew:=⟨h.blk.drew,h.lt0,h.only.drew,fun x hx=>⟨(h.keep x hx).1,(h.keep x hx).2.drew⟩,fun r hr=>(h.rows r hr)⟩
theorem RM.add (h:RM w0 G p cs ks rs W) (g:Nat) (t:TypeId) (l:List Value) (hg:g≠p) (hB:Blk W g t l.toArray):RM w0 G p cs (⟨g,t,l⟩ :: ks) rs W:=⟨h.blk,h.lt0,h.only,by
 intro x hx
 rcases List.mem_cons.1 hx with rfl | hx
 · exact⟨hg,hB⟩
 · exact h.keep x hx,h.rows⟩
theorem RM.new (h:RM w0 G p cs ks rs W) (t:TypeId) (l:List Value):RM w0 G p cs (⟨W.heap.size,t,l⟩ :: ks) rs (W.alloc (.cells l.toArray t)):= (h.alloc _).add _ _ _ (fun e=>by have:=h.lt;omega) (Blk.new W t l.toArray)
theorem RM.subr (h:RM w0 G p cs ks rs W) {rs':List RB} (hk:∀ r ∈ rs',r ∈ rs):RM w0 G p cs ks rs' W:=⟨h.blk,h.lt0,h.only,h.keep,fun r hr=>h.rows r (hk r hr)⟩
theorem RM.rnil (h:RM w0 G p cs ks rs W):RM w0 G p cs ks (⟨none,0,0,[]⟩ :: rs) W:=⟨h.blk,h.lt0,h.only,h.keep,by
 intro r hr
 rcases List.mem_cons.1 hr with rfl | hr
 · exact RdB.nil _ _ _
 · exact h.rows r hr⟩
theorem RM.row (h:RM w0 G p cs ks rs W) {A:Option Addr} {n c:Nat} {l:List UInt8} (hO:zb7 W w0.heap.size A n c l):RM w0 G p cs ks (⟨A,n,c,l⟩ :: rs) W:=⟨h.blk,h.lt0,h.only,h.keep,by
 intro r hr
 rcases List.mem_cons.1 hr with rfl | hr
 · exact zlh hO (fun g h1 _=>⟨.inr h1,fun e=>by have:=h.lt0;omega⟩)
 · exact h.rows r hr⟩
theorem RM.rowcut (h:RM w0 G p cs ks rs W) {A:Option Addr} {n c:Nat} {l:List UInt8} (hr:⟨A,n,c,l⟩ ∈ rs) (k m:Nat) (hk:k≤n) (hm:m=n - k):RM w0 G p cs ks (⟨cutA A c k 1,m,c - k,l.drop k⟩ :: rs) W:=⟨h.blk,h.lt0,h.only,h.keep,by
 intro r hr'
 rcases List.mem_cons.1 hr' with rfl | hr'
 · exact (h.rows _ hr).cut k m hk hm
 · exact h.rows r hr'⟩
theorem RM.k0 (h:RM w0 G p cs (x :: ks) rs W):Blk W x.g x.t x.l.toArray:=(h.keep x (by simp)).2
theorem RM.sl {A:Option Addr} {n c:Nat} {l:List UInt8} (h:RM w0 G p cs ks rs W) (hr:⟨A,n,c,l⟩ ∈ rs):Sl W A (l.map bv):= (h.rows _ hr).2.2.1
theorem RM.rn {A:Option Addr} {n c:Nat} {l:List UInt8} (h:RM w0 G p cs ks rs W) (hr:⟨A,n,c,l⟩ ∈ rs):n=l.length:=(h.rows _ hr).1
theorem RM.rc {A:Option Addr} {n c:Nat} {l:List UInt8} (h:RM w0 G p cs ks rs W) (hr:⟨A,n,c,l⟩ ∈ rs):n≤c:=(h.rows _ hr).2.1
end
def RCV (w:World) (G:Nat→Prop) (p:Nat) (T:RCli):Prop:=
 ∃ R:RR,Blk w p 48 (rclL T R).toArray∧RdB w G p ⟨R.A,R.n,R.c,T.b⟩∧ RdB w G p ⟨R.A2,R.n2,R.c2,T.data⟩
def zli (w:World) (G:Nat→Prop) (p:Nat) (T':RCli) (L:List Frm) (e:Ending) (w':World):Prop:=
 ∃ As ns cs ds,e= .returned (.slice As ns cs)∧ zfe w' (fun g=>w.heap.size≤g) As ns cs L ds∧RCV w' (fun g=>G g∨w.heap.size≤g) p T'∧zcd (fun q=>q=p) w w'
theorem zli.shape {w:World} {G:Nat→Prop} {p:Nat} {T':RCli} {L:List Frm} {e:Ending} {w':World} (h:zli w G p T' L e w'):∃ As ns cs,e= .returned (.slice As ns cs):= by
 obtain⟨As,ns,cs,ds,he,_⟩:= h
 exact⟨As,ns,cs,he⟩
theorem RCV.rm {w:World} {G:Nat→Prop} {p:Nat} {T:RCli} (h:RCV w G p T):∃ R:RR,RM w G p (rclL T R) [] [⟨R.A,R.n,R.c,T.b⟩,⟨R.A2,R.n2,R.c2,T.data⟩] w:=by
 obtain⟨R,hB,h1,h2⟩:= h
 refine⟨R,hB,hB.lt,zcd.refl _ _,by simp,fun r hr=>?_⟩
 simp at hr
 rcases hr with rfl | rfl
 · exact h1.keep (Nat.le_refl _) (fun _ _ _ _=>rfl) (fun _ _ h=> .inl h)
 · exact h2.keep (Nat.le_refl _) (fun _ _ _ _=>rfl) (fun _ _ h=> .inl h)
theorem RCV.keep {w w':World} {G H:Nat→Prop} {p:Nat} {T:RCli} (h:RCV w G p T) (hz:w.heap.size≤w'.heap.size) (hk:∀ q,q=p∨G q→q < w.heap.size→w'.heap[q]? =w.heap[q]?) (hH:∀ q,q < w.heap.size→G q→H q):RCV w' H p T:=by
 obtain⟨R,hB,h1,h2⟩:= h
 exact⟨R,(hk p (.inl rfl) hB.lt).trans hB,h1.keep hz (fun q hq hl _=>hk q (.inr hq) hl) hH,h2.keep hz (fun q hq hl _=>hk q (.inr hq) hl) hH⟩
section
variable {w0 W W':World} {G:Nat→Prop} {p:Nat} {ks:List KB} {rs:List RB} {T:RCli} {R:RR}
theorem zlj (h:RM w0 G p (rclL T R) ks rs W) (hb:⟨R.A,R.n,R.c,T.b⟩ ∈ rs) (hd:⟨R.A2,R.n2,R.c2,T.data⟩ ∈ rs):RCV W (fun g=>G g∨w0.heap.size≤g) p T:=⟨R,h.blk,h.rows _ hb,h.rows _ hd⟩
theorem zlk {L:List Ms} {e:Ending} (h:RM w0 G p (rclL T R) ks rs W) (hb:⟨R.A,R.n,R.c,T.b⟩ ∈ rs) (hd:⟨R.A2,R.n2,R.c2,T.data⟩ ∈ rs) (hs:RSendR (1536+T.nd) L W e W'):zli w0 G p T (rSend T L) e W':=by
 obtain⟨As,ns,cs,ds,rfl,hO,hbel⟩:= hs
 have h2:=h.step hbel
 exact⟨As,ns,cs,ds,rfl,hO.mono (fun g _ hg=>Nat.le_trans h.size hg),zlj h2 hb hd,h2.only⟩
theorem zll (h:RM w0 G p (rclL T R) ks rs W) (hb:⟨R.A,R.n,R.c,T.b⟩ ∈ rs) (hd:⟨R.A2,R.n2,R.c2,T.data⟩ ∈ rs):zli w0 G p T [] (.returned (.slice none 0 0)) W:=
 ⟨none,0,0,[],rfl,zfe.nil _ _,zlj h hb hd,h.only⟩
end
theorem zlm {w:World} {g:Nat} {t:TypeId} {M:Ms} {A:Option Addr} {n c:Nat} (hB:Blk w g t (msV M A n c)) (hn:n=M.data.length) (hs:Sl w A (M.data.map bv)):SlM w (some ⟨g,0,none⟩) [M]:= by
 intro j N hN
 cases j with
 | succ j=>simp at hN
 | zero=>
   simp at hN
   subst hN
   subst hn
   exact⟨g,0,A,c,rfl,⟨hB.cell 0 rfl,hB.cell 1 rfl,hB.cell 2 rfl,hB.cell 3 rfl,hB.cell 4 rfl,hB.cell 5 rfl,hB.cell 6 rfl,hB.cell 7 rfl,hB.cell 8 rfl,hB.cell 9 rfl,hB.cell 10 rfl,hB.cell 11 rfl,hB.cell 12 rfl,hB.cell 13 rfl⟩,hs⟩
section
variable {w0:World} {G:Nat→Prop} {p:Nat} {ks:List KB} {rs:List RB}
theorem zln (nd:Int) (M:Ms) (A:Option Addr) (n c:Nat) (W:World) (h1:W.cell? ⟨p,0,none⟩=some (.int .i64 nd)) (hnd:1≤nd∧nd≤127) (hn:n=M.data.length) (hs:Sl W A (M.data.map bv)) (hu:MsOk M) :
 Calls Try.prog 31 #[.pointer (some ⟨p,0,none⟩),.agg (msV M A n c)] W (RSendR (1536+nd) [M] W):= by
 have HB0:=zbv W 72 72 (msV M A n c) (msV M A n c)
 have hbw:=zbp (zbp (Below.refl W.heap.size W) (.cells (msV M A n c) 72)) (.cells (msV M A n c) 72)
 have hz:=zal h1
 simp only at hz
 have HF:=zak (zld p nd [M] (some ⟨W.heap.size+1,0,none⟩) 1 1 ((W.alloc (.cells (msV M A n c) 72)).alloc (.cells (msV M A n c) 72)) (by rw[hbw.cell hz];exact h1) hnd rfl (zlm HB0.2 hn (hs.below hbw)) (by simpa using hu) (by omega))
 have HB:=zak hbw
 have q:=zbu W 72 (msV M A n c)
 clear HB0 hbw hn hs hu h1
 unfold msV at HF HB q ⊢
 obtain⟨q_c0,q_c1,q_c2,q_c3,q_c4,q_c5,q_c6,q_c7,q_c8,q_c9,q_c10,q_c11,q_c12,q_c13⟩:= zbs q
 have q_f:=q.frozen
 go_enter Try.func31,Try.ntmps31
 go_wp2_with fail
 refine HF.out.mono ?_
 rintro e w2 ⟨As,ns,cs,ds,rfl,hO,hb⟩
 have HO:=zak hO
 have HBB:=zak (HB.out.trans (hb.mono (by simp;omega)))
 clear hO hb
 go_wp2_with fail
 go_ret
 exact⟨As,ns,cs,ds,rfl,HO.out.mono (fun g _ h=>by simp at h;omega),HBB.out⟩
theorem zlo (ix sub mode:Int) (W:World) (hb:cBegB ix sub mode=false) :
 Calls Try.prog 29 #[.pointer (some ⟨p,0,none⟩),.int .i64 ix,.int .i64 sub,.int .i64 mode] W fun e W'=>e= .returned (.bool false)∧ W=W':=by
 have hq: ¬ (0≤ix∧ix≤65535∧0≤sub∧sub≤255∧0≤mode∧mode≤2):= by unfold cBegB at hb;simpa using hb
 have HQ:=zak hq
 clear hb hq
 by_cases g1:ix < 0
 · go_enter Try.func29,Try.ntmps29
   go_wp2_with fail
   go_ret
   exact⟨rfl,rfl⟩
 by_cases g2:65535 < ix
 · go_enter Try.func29,Try.ntmps29
   go_wp2_with fail
   go_ret
   exact⟨rfl,rfl⟩
 by_cases g3:sub < 0
 · go_enter Try.func29,Try.ntmps29
   go_wp2_with fail
   go_ret
   exact⟨rfl,rfl⟩
 by_cases g4:255 < sub
 · go_enter Try.func29,Try.ntmps29
   go_wp2_with fail
   go_ret
   exact⟨rfl,rfl⟩
 by_cases g5:mode < 0
 · go_enter Try.func29,Try.ntmps29
   go_wp2_with fail
   go_ret
   exact⟨rfl,rfl⟩
 have g6:2 < mode:=by
  have:=HQ.out
  omega
 go_enter Try.func29,Try.ntmps29
 go_wp2_with fail
 go_ret
 exact⟨rfl,rfl⟩
theorem zlp (T:RCli) (R:RR) (ix sub mode:Int) (W:World) (h:RM w0 G p (rclL T R) ks rs W) (hb:cBegB ix sub mode=true) :
 Calls Try.prog 29 #[.pointer (some ⟨p,0,none⟩),.int .i64 ix,.int .i64 sub,.int .i64 mode] W fun e W'=>e= .returned (.bool true)∧ RM w0 G p (rclL (rBegS T ix sub) rrZ) ks rs W':=by
 have hq:0≤ix∧ix≤65535∧0≤sub∧sub≤255∧0≤mode∧mode≤2:=by unfold cBegB at hb;simpa using hb
 obtain⟨g1,g2,g3,g4,g5,g6⟩:= hq
 have HF:Hid (RM w0 G p (rclL (rBegS T ix sub) rrZ) ks rs _):= zak (((((((((((h.set 2 (.int .i64 ix)).set 3 (.int .i64 sub)).set 5 (.int .u32 0)).set 6 (.slice none 0 0)).set 4 (.slice none 0 0)).set 7 (.bool false)).set 8 (.bool false)).set 12 (.int .i64 0)).set 13 (.int .i64 0)).set 14 (.int .i64 1)).set 15 (.bool false))
 have bb:=h.blk
 unfold rclL at bb
 have zb:=bb.lt
 clear h hb
 obtain⟨bb_c0,bb_c1,bb_c2,bb_c3,bb_c4,bb_c5,bb_c6,bb_c7,bb_c8,bb_c9,bb_c10,bb_c11,bb_c12,bb_c13,bb_c14,bb_c15⟩:= zbt bb
 have bb_f:=bb.frozen
 go_enter Try.func29,Try.ntmps29
 go_wp2_with fail
 go_ret
 exact⟨rfl,HF.out⟩
theorem zlq (T:RCli) (R:RR) (code:Nat) (A:Option Addr) (n c:Nat) (b:List UInt8) (W:World) (h:RM w0 G p (rclL T R) ks rs W) (hr:⟨A,n,c,b⟩ ∈ rs) (hl:b.length≤1000000) :
 Calls Try.prog 41 #[.pointer (some ⟨p,0,none⟩),.int .u32 (code:Nat),.slice A n c] W fun e W'=>e= .returned (.tuple #[])∧ ∃ A' c',RM w0 G p (rclL (rEnds T code b) { R with A2:=A',n2:=n,c2:=c' }) ks (⟨A',n,c',b⟩ :: rs) W':=by
 have HX:=zak ((h.set 1 (.int .i64 0)).set 5 (.int .u32 (code:Nat)))
 have HR:=zak hr
 have HN:=zak (h.rn hr)
 have hb1:n≤1000000:=by have:=HN.out;omega
 have bb:=h.blk
 unfold rclL at bb
 have zb:=bb.lt
 clear h hr hl
 obtain⟨bb_c0,bb_c1,bb_c2,bb_c3,bb_c4,bb_c5,bb_c6,bb_c7,bb_c8,bb_c9,bb_c10,bb_c11,bb_c12,bb_c13,bb_c14,bb_c15⟩:= zbt bb
 have bb_f:=bb.frozen
 go_enter Try.func41,Try.ntmps41
 go_wp2_with fail
 refine (zlg A n c b _ HN.out (by omega) (HX.out.sl HR.out)).mono ?_
 rintro e w3 ⟨A',c',rfl,hO,hb⟩
 have HY:=zak (HX.out.step hb)
 have HO:=zak (hO.mono HX.out.size)
 clear hO hb
 clear bb_c0 bb_c1 bb_c2 bb_c3 bb_c4 bb_c5 bb_c6 bb_c7 bb_c8 bb_c9 bb_c10 bb_c11 bb_c12 bb_c13 bb_c14 bb_c15 bb_f
 clear bb zb
 have b6:w3.cell? ⟨p,6,none⟩=some (.slice R.A2 R.n2 R.c2):= HY.out.blk.cell 6 rfl
 have f6:=HY.out.blk.frozen 6
 have z6:=HY.out.lt
 go_wp2_with fail
 go_end0
 exact⟨rfl,A',c',(HY.out.row HO.out).set 6 _⟩
theorem zlr (T:RCli) (R:RR) (code:Nat) (W:World) (h:RM w0 G p (rclL T R) ks rs W) (hnd:1≤T.nd∧T.nd≤127) (hb:⟨R.A,R.n,R.c,T.b⟩ ∈ rs) (hc:code≤4294967295) :
 Calls Try.prog 43 #[.pointer (some ⟨p,0,none⟩),.int .u32 (code:Nat)] W (zli w0 G p (rEnds T code []) (rGivL T code)):= by
 have HC:=zak h.rnil
 have HND:=zak hnd
 have HBB:=zak hb
 have HOK:=zak (zfr T.ix T.sub code hc)
 obtain⟨P,hP⟩:∃ P,P=zli w0 G p (rEnds T code []) (rGivL T code):= ⟨_,rfl⟩
 rw[← hP]
 have HP:=zak hP
 clear h hnd hb hc hP
 go_enter Try.func43,Try.ntmps43
 go_wp2_with fail
 refine (zlq T R code none 0 0 [] W HC.out (by simp) (by simp)).mono ?_
 rintro e W1 ⟨rfl,A',c',h1⟩
 have H1:=zak h1
 have z1:=h1.lt
 have b2:W1.cell? ⟨p,2,none⟩=some (.int .i64 T.ix):= h1.blk.cell 2 rfl
 have b3:W1.cell? ⟨p,3,none⟩=some (.int .i64 T.sub):= h1.blk.cell 3 rfl
 have HS:=zak (zln (p:=p) T.nd (abM T.ix T.sub code) none 0 0 W1.drew (h1.drew.blk.cell 0 rfl) HND.out rfl (Sl.nil _ _) (HOK.out _ (by simp)))
 unfold msV abM at HS
 clear h1 HC
 go_upto_region 2 with fail
 refine wp_region_held_drew (S:=(fun w'=>(∀ qA:Addr,qA.block < (W1).heap.size→w'.cell? qA=(W1).cell? qA)∧ Below (W1).heap.size (W1) w')) (by kernel_rfl) ?hS1 (fun hHeld=>?rest1)
 case hS1=>((try dsimp only);(((try go_split_ands);refine zbn ?_;all_goals exact bl)))
 case' rest1=>skip
 iterate 11 (refine tkN ?_;try simp only[PqL,Act.put])
 refine wpAnyH_ready (rs:= [11]) (by kernel_rfl) (by simp) ?_
 refine AllReadyH.cons (o:=_) rfl (fun K hK=>?_) .nil
 go_simp
 refine HS.out.mono ?_
 rintro e w2 ⟨As,ns,cs,ds,rfl,hO,hb⟩
 have HF:=zak (zlk (T:=rEnds T code []) (R:={ R with A2:=A',n2:=0,c2:=c' }) H1.out.drew (by simp;exact .inr (.inr HBB.out)) (by simp[rEnds]) ⟨As,ns,cs,ds,rfl,hO,hb⟩)
 clear hO
 refine hK.out _ _ ?hS15 (fun hHeld=>?rest15)
 case hS15=>((try dsimp only);(((try go_split_ands);refine zbn ?_;all_goals exact bl)))
 case' rest15=>(clear hK K;try simp only[PqL,Act.put])
 refine tkH 12 ?_
 try simp only[PqL,Act.put]
 refine wpAnyH_done (by kernel_rfl) ?_ _
 have hEnd:=hHeld.2
 repeat (clear hHeld)
 go_wp2_with fail
 rw[HP.out]
 exact HF.out
theorem zls (node:Int) (w:World):Calls Try.prog 8 #[.int .i64 node] w fun e w'=> ∃ nd,e= .returned (.tuple #[.pointer (some ⟨w.heap.size,0,none⟩),.int .i64 (if 1≤node∧node≤127 then 0 else 1)])∧ RCV w' (fun _=>False) w.heap.size (rcliZ nd)∧ (1≤node∧node≤127→nd=node)∧ Below w.heap.size w w'∧w'.heap.size=w.heap.size+1:=by
 have HR:=fun nd=>show RCV (w.alloc (.cells (rclL (rcliZ nd) rrZ).toArray 48)) (fun _=>False) w.heap.size (rcliZ nd) from ⟨rrZ,Blk.new w _ _,RdB.nil _ _ _,RdB.nil _ _ _⟩
 have HB:=fun nd=>zbp (Below.refl w.heap.size w) (.cells (rclL (rcliZ nd) rrZ).toArray 48)
 obtain⟨P,hP⟩:∃ P:Ending→World→Prop,P=fun e w'=> ∃ nd,e= .returned (.tuple #[.pointer (some ⟨w.heap.size,0,none⟩),.int .i64 (if 1≤node∧node≤127 then 0 else 1)])∧ RCV w' (fun _=>False) w.heap.size (rcliZ nd)∧ (1≤node∧node≤127→nd=node)∧ Below w.heap.size w w'∧w'.heap.size=w.heap.size+1:=⟨_,rfl⟩
 rw[← hP]
 by_cases hn:1≤node∧node≤127
 · have HF:Hid (P (.returned (.tuple #[.pointer (some ⟨w.heap.size,0,none⟩),.int .i64 0])) (w.alloc (.cells (rclL (rcliZ node) rrZ).toArray 48))):= zak (by
    rw[hP];exact⟨node,by rw[if_pos hn],HR node,fun _=>rfl,HB node,by simp⟩)
   obtain⟨h1,h2⟩:= hn
   have h3: ¬ node < 1:=by omega
   have h4: ¬ 127 < node:=by omega
   clear hP HR HB
   go_enter Try.func8,Try.ntmps8
   go_wp2_with fail
   exact HF.out
 · have HF:Hid (P (.returned (.tuple #[.pointer (some ⟨w.heap.size,0,none⟩),.int .i64 1])) (w.alloc (.cells (rclL (rcliZ 0) rrZ).toArray 48))):= zak (by
    rw[hP];exact⟨0,by rw[if_neg hn],HR 0,fun h=>absurd h hn,HB 0,by simp⟩)
   clear hP HR HB
   by_cases h1:node < 1
   · clear hn
     go_enter Try.func8,Try.ntmps8
     go_wp2_with fail
     exact HF.out
   · have h2:127 < node:=by omega
     clear hn
     go_enter Try.func8,Try.ntmps8
     go_wp2_with fail
     exact HF.out
end
end
section
open Go.RowKit Go.Maps
structure KM (w0:World) (p m p2:Nat) (G1 G2:Nat→Prop) (S:CliS) (T:RCli) (W:World):Prop where
 bel:Below w0.heap.size w0 W
 cv:CV_ W G1 p m S
 rv:RCV W G2 p2 T
 lo:w0.heap.size≤p∧w0.heap.size≤m∧w0.heap.size≤p2
 hi:p < W.heap.size∧m < W.heap.size∧p2 < W.heap.size
 l1:∀ g,G1 g→w0.heap.size≤g∧g < W.heap.size
 l2:∀ g,G2 g→w0.heap.size≤g∧g < W.heap.size
 ne:p≠p2∧m≠p2∧ ¬ G1 p2∧ ¬ G2 p∧ ¬ G2 m
 dj:∀ g,G1 g→ ¬ G2 g
section
variable {w0 W W':World} {p m p2:Nat} {G1 G2:Nat→Prop} {S S':CliS} {T T':RCli} {L:List Frm} {e:Ending}
theorem KM.far {F:Nat→Prop} (h:KM w0 p m p2 G1 G2 S T W) (ho:zcd F W W') (hF:∀ g,F g→g < W.heap.size→w0.heap.size≤g∧g≠p∧g≠m∧g≠p2∧ ¬ G1 g∧ ¬ G2 g):KM w0 p m p2 G1 G2 S T W':=by
 have hz:=ho.size
 obtain⟨a1,a2,a3⟩:= h.hi
 refine⟨?_,?_,?_,h.lo,⟨by omega,by omega,by omega⟩,fun g hg=>⟨(h.l1 g hg).1,Nat.lt_of_lt_of_le (h.l1 g hg).2 hz⟩,fun g hg=>⟨(h.l2 g hg).1,Nat.lt_of_lt_of_le (h.l2 g hg).2 hz⟩,h.ne,h.dj⟩
 · have hb:=h.bel
   exact⟨ho.os.trans hb.os,ho.tape.trans hb.tape,ho.output.trans hb.output,Nat.le_trans hb.size hz,fun k hk=>by
    have hkW:k < W.heap.size:=Nat.lt_of_lt_of_le hk hb.size
    rw[ho.block k hkW (fun hf=>by have:=(hF k hf hkW).1;omega)]
    exact hb.block k hk⟩
 · refine h.cv.keep (fun q hq hl=>ho.block q hl (fun hf=>?_)) (fun _ _ h=>h)
   obtain⟨_,b1,b2,_,b4,_⟩:= hF q hf hl
   rcases hq with hq | hq | hq
   · exact b1 hq
   · exact b2 hq
   · exact b4 hq
 · refine h.rv.keep hz (fun q hq hl=>ho.block q hl (fun hf=>?_)) (fun _ _ h=>h)
   obtain⟨_,_,_,b3,_,b5⟩:= hF q hf hl
   rcases hq with hq | hq
   · exact b3 hq
   · exact b5 hq
theorem KM.step (h:KM w0 p m p2 G1 G2 S T W) (hb:Below W.heap.size W W'):KM w0 p m p2 G1 G2 S T W':=h.far (F:=fun _=>False) (zcd.of_below hb) (fun _ h=>h.elim)
theorem KM.prog (h:KM w0 p m p2 G1 G2 S T W) (hr:zf4 W G1 p m S' L e W'):∃ N As ns cs ds,e= .returned (.slice As ns cs)∧ zfe W' (fun g=>N≤g) As ns cs L ds∧W.heap.size≤N∧
 KM w0 p m p2 (fun g=>(G1 g∨W.heap.size≤g)∧ g < N∧g < W'.heap.size) G2 S' T W':=by
 obtain⟨N,As,ns,cs,ds,he,hO,hN,hS,ho⟩:= hr
 have hz:=ho.size
 obtain⟨a1,a2,a3⟩:= h.hi
 obtain⟨c1,c2,c3⟩:= h.lo
 obtain⟨d1,d2,d3,d4,d5⟩:= h.ne
 have hb0:=h.bel.size
 refine⟨N,As,ns,cs,ds,he,hO,hN,?_⟩
 refine⟨?_,?_,?_,h.lo,⟨by omega,by omega,by omega⟩,?_,fun g hg=>⟨(h.l2 g hg).1,Nat.lt_of_lt_of_le (h.l2 g hg).2 hz⟩,⟨d1,d2,?_,d4,d5⟩,?_⟩
 · exact zce ho h.bel (fun i hi=>by
    rcases hi with hi | hi | hi
    · omega
    · omega
    · exact (h.l1 i hi).1)
 · exact hS.keep (fun _ _ _=>rfl) (fun q hq hh=>⟨hh.1,hh.2,hq⟩)
 · refine h.rv.keep hz (fun q hq hl=>ho.block q hl (fun hf=>?_)) (fun _ _ h=>h)
   rcases hq with rfl | hq<;>rcases hf with rfl | rfl | hf
   · exact d1 rfl
   · exact d2 rfl
   · exact d3 hf
   · exact d4 hq
   · exact d5 hq
   · exact h.dj q hf hq
 · rintro g ⟨hg | hg,_,hlt⟩
   · exact⟨(h.l1 g hg).1,hlt⟩
   · exact⟨by omega,hlt⟩
 · rintro⟨hg | hg,_,_⟩
   · exact d3 hg
   · omega
 · rintro g ⟨hg | hg,_,_⟩ hg2
   · exact h.dj g hg hg2
   · have:=(h.l2 g hg2).2;omega
theorem KM.refc (h:KM w0 p m p2 G1 G2 S T W) (hr:zli W G2 p2 T' L e W'):∃ As ns cs ds,e= .returned (.slice As ns cs)∧ zfe W' (fun g=>W.heap.size≤g) As ns cs L ds∧zcd (fun q=>q=p2) W W'∧
 KM w0 p m p2 G1 (fun g=>G2 g∨(W.heap.size≤g∧g < W'.heap.size)) S T' W':=by
 obtain⟨As,ns,cs,ds,he,hO,hS,ho⟩:= hr
 have hz:=ho.size
 obtain⟨a1,a2,a3⟩:= h.hi
 obtain⟨c1,c2,c3⟩:= h.lo
 obtain⟨d1,d2,d3,d4,d5⟩:= h.ne
 have hb0:=h.bel.size
 refine⟨As,ns,cs,ds,he,hO,ho,?_⟩
 refine⟨?_,?_,?_,h.lo,⟨by omega,by omega,by omega⟩,fun g hg=>⟨(h.l1 g hg).1,Nat.lt_of_lt_of_le (h.l1 g hg).2 hz⟩,?_,⟨d1,d2,d3,?_,?_⟩,?_⟩
 · exact zce ho h.bel (fun i hi=>by omega)
 · refine h.cv.keep (fun q hq hl=>ho.block q hl (fun hf=>?_)) (fun _ _ h=>h)
   rcases hq with rfl | rfl | hq
   · exact d1 hf
   · exact d2 hf
   · exact d3 (hf ▸ hq)
 · exact hS.keep (Nat.le_refl _) (fun _ _ _=>rfl) (fun q hq hh=>hh.imp id (fun hh=>⟨hh,hq⟩))
 · rintro g (hg | hg)
   · exact⟨(h.l2 g hg).1,Nat.lt_of_lt_of_le (h.l2 g hg).2 hz⟩
   · exact⟨by omega,hg.2⟩
 · rintro (hg | hg)
   · exact d4 hg
   · omega
 · rintro (hg | hg)
   · exact d5 hg
   · omega
 · rintro g hg (hg2 | hg2)
   · exact h.dj g hg hg2
   · have:=(h.l1 g hg).2;omega
end
end
section
open Go.RowKit Go.ChangeShapes Go.WideShapes Go.Deep
set_option maxRecDepth 20000
theorem zlt:Try.prog.cellsOf 5=1:=by kernel_rfl
theorem zlu (zs:List Int) (k:Nat) (hz:∀ n ∈ zs,(Lit.int .u8 n).wf=true):∃ l:List UInt8,l.length=(zs.take k).length∧ ∀ i,i < l.length→ ∃ c,l[i]? =some c∧zs.getD i 0=(c.toNat:Int):= by
 refine⟨(zs.take k).map fun n=>UInt8.ofNat n.toNat,by simp,?_⟩
 intro i hi
 simp at hi
 have hlt:i < zs.length:=by omega
 refine⟨UInt8.ofNat (zs[i]).toNat,?_,?_⟩
 · rw[List.getElem?_map,List.getElem?_take,if_pos (by omega),List.getElem?_eq_getElem hlt];rfl
 · have hw:=hz _ (List.getElem_mem hlt)
   have hb:0≤zs[i]∧ zs[i]≤ 255:=by simpa [Lit.wf,IntKind.min,IntKind.max,IntKind.signed,IntKind.bits] using hw
   rw[List.getD_eq_getElem?_getD,List.getElem?_eq_getElem hlt]
   simp only[Option.getD_some,UInt8.toNat_ofNat']
   omega
theorem zlv {α:Type} (n:Nat) (Q:Nat→α→Prop) (h:∀ i,i < n→ ∃ a,Q i a):∃ L:List α,L.length=n∧ ∀ i a,L[i]? =some a→Q i a:=by
 induction n with
 | zero=>exact⟨[],rfl,by intro i a h;simp at h⟩
 | succ n ih=>
   obtain⟨L,hL,hQ⟩:= ih fun i hi=>h i (by omega)
   obtain⟨a,ha⟩:= h n (by omega)
   refine⟨L ++ [a],by simp[hL],?_⟩
   intro i b hb
   rcases Nat.lt_or_ge i n with hi | hi
   · rw[List.getElem?_append_left (by omega)] at hb
     exact hQ i b hb
   · have:i < (L ++ [a]).length:=(List.getElem?_eq_some_iff.1 hb).1
     simp[hL] at this
     obtain rfl:i=n:=by omega
     rw[List.getElem?_append_right (by omega),hL] at hb
     simp at hb
     subst hb
     exact ha
section
variable {H:Type} {enc:TypeId×Value→H} {w:World} {base:Nat} {spare:Nat→Bool} {held:Bool}
theorem zlw {fuel:Nat} {v:Value} {x:DataW H×List MemPlace} (h:DataW.trod enc Try.prog w base spare held fuel 32 [v]=some x) :
 ∃ (A:Option Addr) (c:Nat) (l:List UInt8),v= .slice A l.length c∧l.length≤c∧Sl w A (l.map bv):= by
 rcases open_ints Try.underlying32 Try.underlying5 zlt h with ⟨hcs,_⟩ | ⟨a,len,cap,zs,hcs,_,hl,hm,hz,_,hcell,hwz⟩
 · simp at hcs
   exact⟨none,0,[],hcs,Nat.le_refl _,Sl.nil _ _⟩
 · simp at hcs
   obtain⟨l,hll,hg⟩:= zlu zs len hwz
   have hlz:len≤zs.length:=by rw[hz];split<;>omega
   have hlen:l.length=len:=by rw[hll,List.length_take];omega
   refine⟨some a,cap,l,by rw[hlen];exact hcs,by omega,?_⟩
   · intro j u hu
     have hj:j < l.length:=by have:=(List.getElem?_eq_some_iff.1 hu).1;simpa using this
     obtain⟨c,hc,hzc⟩:= hg j hj
     refine⟨a,rfl,?_⟩
     rw[hcell j (by omega),hzc]
     rw[List.getElem?_map,hc] at hu
     simpa [bv] using hu
end
end
end Go.Proofs.Ythdbckbpldlkeaa
