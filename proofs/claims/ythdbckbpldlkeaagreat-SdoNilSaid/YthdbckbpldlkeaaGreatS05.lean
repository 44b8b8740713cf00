/- None -/
import Derived.Test.YthdbckbpldlkeaaGreatProg
import Derived.Test.YthdbckbpldlkeaaGreatS04
import Derived.Laws.CopyRow
import Derived.Laws.IdiomCopy
import Derived.Test.YthdbckbpldlkeaaGreatS03
import Derived.Maps.OwnSet
import Derived.Deep.Light
namespace Go.Proofs.YthdbckbpldlkeaaGreat
set_option linter.unusedVariables false
set_option linter.unusedSimpArgs false
set_option linter.unnecessarySimpa false
section
open Go.RowKit
def TrueB (w:World) (e:Ending) (w':World):Prop:=e= .returned (.bool true)∧ Below w.heap.size w w'
theorem zdo:(Tryz.prog.info? 5).map (fun i=>(i.zero,i.size,i.bytes))=some (some (.int .u8 0),1,1):= by kernel_rfl
theorem zdp:(Tryz.prog.info? 5).map (·.size)=some 1:=by kernel_rfl
structure zdq (w:World) (B:Nat) (A:Option Addr) (n c:Nat) (l:List UInt8):Prop where
 hn:n=l.length
 own:Own w B 5 1 A n c (l.map bv)
section
variable {w w':World} {B n c:Nat} {A:Option Addr} {l:List UInt8}
theorem zdq.nil (w:World) (B:Nat):zdq w B none 0 0 []:= ⟨rfl,Own.nil _ _ _ _⟩
theorem zdq.sl (h:zdq w B A n c l):Sl w A (l.map bv):= h.own.sl
theorem zdq.below (h:zdq w B A n c l) (hb:Below w.heap.size w w'):zdq w' B A n c l:=⟨h.hn,h.own.below hb⟩
theorem zdq.alloc (h:zdq w B A n c l) (o:Obj):zdq (w.alloc o) B A n c l:=⟨h.hn,h.own.alloc o⟩
theorem zdq.drew (h:zdq w B A n c l):zdq w.drew B A n c l:=⟨h.hn,h.own.drew⟩
theorem zdq.mono {B':Nat} (h:zdq w B A n c l) (hB:B'≤B):zdq w B' A n c l:=⟨h.hn,h.own.mono hB⟩
theorem zdq.set_ (h:zdq w B A n c l) {p:Addr} (hp:p.block < B) (u:Value):zdq (w.setCell p u) B A n c l:=⟨h.hn,h.own.set_ hp u⟩
theorem zdq.le (h:zdq w B A n c l):n≤c:=h.own.le
end
section
variable {ops:Array Oper} {rest:List Oper} {o:Oper} {a:Act} {Q:Exit→Act→World→Prop}
theorem zdr (w:World) (hgd:o.guard=none) (s x:Operand) (ho:o.op= .call { callee:= .builtin .append,args:= #[s,x],argTypes:= #[27,27] })
 (B:Nat) (A:Option Addr) (n c:Nat) (l:List UInt8) (hs:a.eval s= .slice A n c) (hown:zdq w B A n c l)
 (A2:Option Addr) (m c2:Nat) (l2:List UInt8) (hx:a.eval x= .slice A2 m c2) (hm:m=l2.length) (hr:Sl w A2 (l2.map bv)) (hb:n+m≤140737488355328) (hB:B≤w.heap.size)
 (N:Nat) (hN:n+m=N)
 (h:∀ A' c' w',zdq w' B A' N c' (l ++ l2)→ w.grownBy w' (Value.ownBlock (.slice A n c))→ (A'=A∨A'=some ⟨w.heap.size,0,none⟩)→ Below B w w'→
   wpList Tryz.prog ops Q rest (a.put o.dst (.slice A' N c')) w'):wpList Tryz.prog ops Q (o :: rest) a w:=by
 obtain⟨i0,hi0,hz0,hz1,hz2⟩:= info_parts zdo
 refine zcu w hgd s x _ ho B 5 i0 _ 1 1 Tryz.underlying27 hi0 hz0 hz1 hz2 rfl (by omega) A n c _ hs hown.own A2 m c2 (l2.map bv) hx (by simp[hm]) hr (zcw _) (by unfold maxLen;omega) (by omega) hB N hN ((l ++ l2).map bv) (by simp) ?_
 intro A' c' w' h1 h2 h3 h4
 exact h A' c' w' ⟨by rw[← hN,hown.hn,hm];simp,h1⟩ h2 h3 h4
theorem mk_b (w:World) (hgd:o.guard=none) (l cc:Operand) (ho:o.op=Op.makeSlice 27 l cc)
 (kl kc:IntKind) (L C:Int) (n c:Nat) (hl:a.eval l= .int kl L) (hc:a.eval cc= .int kc C) (hL:L=(n:Int)) (hC:C=(c:Int)) (hnc:n≤c)
 (hb:c≤281474976710656) (H:Nat) (hH:w.heap.size=H)
 (h:∀ w',zdq w' H (some ⟨H,0,none⟩) n c (List.replicate n 0)→ H < w'.heap.size→Below H w w'→
   wpList Tryz.prog ops Q rest (a.put o.dst (.slice (some ⟨H,0,none⟩) n c)) w'):wpList Tryz.prog ops Q (o :: rest) a w:=by
 subst hH
 obtain⟨i0,hi0,hz0,hz1,hz2⟩:= info_parts zdo
 refine zcv w hgd l cc _ ho 5 i0 _ 1 Tryz.underlying27 hi0 hz0 hz1 hz2 rfl kl kc L C n c hl hc hL hC hnc (by omega) (by unfold maxLen;omega) w.heap.size (Nat.le_refl _) ?_
 intro w' h1 h2 h3
 have hlt:w.heap.size < w'.heap.size:=by
  rcases h1.2 with ⟨hv,_⟩ | ⟨g,cap,cur,hv,_,hg,_⟩
  · injection hv with hv;cases hv
  · injection hv with hv
    injection hv with hv
    injection hv with hv
    rw[hv]
    exact (Array.getElem?_eq_some_iff.1 hg).1
 exact h w' ⟨by simp,by simpa [bv] using h1⟩ hlt h3
end
theorem zds {w:World} {A:Option Addr} {n:Nat} (c:Nat) {l:List UInt8} (hn:n=l.length) (h:Sl w A (l.map bv)) :
 (convert 27 9 (.slice A n c)).run Tryz.prog w= .ok (.string ⟨l.toArray⟩) w:=
 zcx Tryz.underlying27 Tryz.underlying5 Tryz.underlying9 c hn h
theorem zdt (A:Option Addr) (n c k:Nat) (kk:Int) (kd:IntKind) (hk:kk=(k:Int)) (hn:k≤n) (hc:n≤c) (w:World) :
 (Instr.slice 27 (.slice A n c) (some (.int kd kk)) none none).run Tryz.prog w= .ok (.slice (cutA A c k 1) (n - k) (c - k)) w:=by
 obtain⟨i0,hi0,hz0,hz1,hz2⟩:= info_parts zdo
 exact zdh Tryz.underlying27 hi0 hz1 A n c k kk kd hk hn hc w
theorem zdu (A:Option Addr) (n c k m:Nat) (kk mm:Int) (kd kd':IntKind) (hk:kk=(k:Int)) (hm:mm=(m:Int)) (hn:k≤m) (hc:m≤c) (w:World) :
 (Instr.slice 27 (.slice A n c) (some (.int kd kk)) (some (.int kd' mm)) none).run Tryz.prog w= .ok (.slice (cutA A c k 1) (m - k) (c - k)) w:=by
 obtain⟨i0,hi0,hz0,hz1,hz2⟩:= info_parts zdo
 exact zdi Tryz.underlying27 hi0 hz1 A n c k m kk mm kd kd' hk hm hn hc w
end
section
section
open Go.RowKit
set_option maxRecDepth 20000
set_option maxHeartbeats 1000000
structure zdv (F:Nat→Prop) (w w':World):Prop where
 os:w'.os=w.os
 tape:w'.tape=w.tape
 output:w'.output=w.output
 size:w.heap.size≤w'.heap.size
 block:∀ k,k < w.heap.size→ ¬ F k→w'.heap[k]? =w.heap[k]?
section
variable {F G:Nat→Prop} {a b c w w':World} {N:Nat}
theorem zdv.refl (F:Nat→Prop) (w:World):zdv F w w:=⟨rfl,rfl,rfl,Nat.le_refl _,fun _ _ _=>rfl⟩
theorem zdv.of_below (h:Below w.heap.size w w'):zdv F w w':=⟨h.os,h.tape,h.output,h.size,fun k hk _=>h.block k hk⟩
theorem zdv.of_grown {row:Option Nat} (h:w.grownBy w' row) (hr:∀ g,row=some g→F g):zdv F w w':=⟨h.os,h.tape,h.output,h.size,fun k hk hF=>h.block k hk (fun e=>hF (hr k e.symm))⟩
theorem zdv.of_set {p:Addr} (hp:F p.block) (u:Value):zdv F w (w.setCell p u):= ⟨rfl,rfl,rfl,by simp[World.setCell],fun k _ hF=>Below.heap_setCell _ _ _ _ (by rintro rfl;exact hF hp)⟩
theorem zdv.trans (h:zdv F a b) (k:zdv G b c) (hG:∀ i,i < a.heap.size→G i→F i):zdv F a c:=
 ⟨k.os.trans h.os,k.tape.trans h.tape,k.output.trans h.output,Nat.le_trans h.size k.size,fun i hi hF=>(k.block i (Nat.lt_of_lt_of_le hi h.size) (fun hg=>hF (hG i hi hg))).trans (h.block i hi hF)⟩
theorem zdv.step (h:zdv F a b) (k:Below b.heap.size b c):zdv F a c:=h.trans (G:=F) (zdv.of_below k) (fun _ _ h=>h)
theorem zdv.mono (h:zdv F w w') (hG:∀ i,i < w.heap.size→F i→G i):zdv G w w':=⟨h.os,h.tape,h.output,h.size,fun k hk hF=>h.block k hk (fun hf=>hF (hG k hk hf))⟩
theorem zdv.below (h:zdv F w w') (hN:N≤w.heap.size) (hF:∀ i,F i→N≤i):Below N w w':=⟨h.os,h.tape,h.output,h.size,fun k hk=>h.block k (by omega) (fun hf=>by have:=hF k hf;omega)⟩
end
theorem zdw {F:Nat→Prop} {w w1 w2:World} (ho:zdv F w1 w2) (h:Below w.heap.size w w1) (hF:∀ i,F i→w.heap.size≤i):Below w.heap.size w w2:=h.trans (ho.below h.size hF)
def FIn (F:Nat→Prop) (A:Option Addr):Prop:= ∀ g,A=some (⟨g,0,none⟩:Addr)→ F g
theorem FIn.nil (F:Nat→Prop):FIn F none:=fun _ h=>by cases h
theorem FIn.mono {F G:Nat→Prop} {A:Option Addr} (h:FIn F A) (hG:∀ g,F g→G g):FIn G A:=fun g hg=>hG g (h g hg)
theorem Own.fin {w:World} {B e size n c:Nat} {A:Option Addr} {xs:List Value} (h:Own w B e size A n c xs):FIn (fun g=>B≤g∧g < w.heap.size) A:=by
 intro g hg
 rcases h.shape with ⟨h1,_⟩ | ⟨g',h1,h2,h3⟩
 · rw[h1] at hg;cases hg
 · rw[h1] at hg
   injection hg with hg
   injection hg with hg
   subst hg
   exact⟨h2,h3⟩
theorem zdq.keepF {w w':World} {B n c:Nat} {A:Option Addr} {l:List UInt8} {F:Nat→Prop} (h:zdq w B A n c l) (hF:FIn F A) (hk:∀ g,F g→g < w.heap.size→w'.heap[g]? =w.heap[g]?):zdq w' B A n c l:=
 ⟨h.hn,h.own.keep fun g _ hlt hA=>hk g (hF g hA) hlt⟩
theorem zdx {w:World} {B B' e e' s s' n n' c c':Nat} {A A':Option Addr} {xs xs':List Value} (h:Own w B e s A n c xs) (h':Own w B' e' s' A' n' c' xs') (hne:e≠e') :
 ∀ g,A=some ⟨g,0,none⟩→ some g≠Value.ownBlock (.slice A' n' c'):= by
 intro g hA hg
 subst hA
 rcases h'.shape with ⟨rfl,_⟩ | ⟨g',rfl,_⟩
 · simp[Value.ownBlock] at hg
 · simp[Value.ownBlock] at hg
   subst hg
   rcases h.2 with ⟨hv,_⟩ | ⟨g1,cap,cur,hv,_,hg1,_⟩
   · injection hv with hv;cases hv
   · rcases h'.2 with ⟨hv',_⟩ | ⟨g2,cap',cur',hv',_,hg2,_⟩
     · injection hv' with hv';cases hv'
     · injection hv with hv;injection hv with hv;injection hv with hv
       injection hv' with hv';injection hv' with hv';injection hv' with hv'
       subst hv
       subst hv'
       rw[hg1] at hg2
       injection hg2 with hg2
       injection hg2 with _ ht
       exact hne ht
theorem zdy {w:World} {B e' s' n' c':Nat} {A':Option Addr} {xs':List Value} {g:Nat} {t:TypeId} {cs:Array Value} (h:Blk w g t cs) (h':Own w B e' s' A' n' c' xs') (hne:t≠e'):some g≠Value.ownBlock (.slice A' n' c'):= by
 intro hg
 rcases h'.shape with ⟨rfl,_⟩ | ⟨g',rfl,_⟩
 · simp[Value.ownBlock] at hg
 · simp[Value.ownBlock] at hg
   subst hg
   rcases h'.2 with ⟨hv',_⟩ | ⟨g2,cap',cur',hv',_,hg2,_⟩
   · injection hv' with hv';cases hv'
   · injection hv' with hv';injection hv' with hv';injection hv' with hv'
     subst hv'
     unfold Blk at h
     rw[h] at hg2
     injection hg2 with hg2
     injection hg2 with _ ht
     exact hne ht
section
variable {α:Type} {f: α→Option Addr×Nat→List Value} {k:Nat}
def cellsG (f: α→Option Addr×Nat→List Value):List α→List (Option Addr×Nat)→ List Value
 | v :: L,d :: ds=>f v d ++ cellsG f L ds
 | _,_=> []
theorem zdz (hf:∀ v d,(f v d).length=k):∀ (L:List α) (ds:List (Option Addr×Nat)) (j i:Nat) (v: α) (d:Option Addr×Nat) (u:Value),L[j]? =some v→ds[j]? =some d→(f v d)[i]? =some u→(cellsG f L ds)[j * k+i]? =some u:=by
 intro L
 induction L with
 | nil=>intro ds j i v d u h;simp at h
 | cons x L ih=>
   intro ds j i v d u h1 h2 h3
   cases ds with
   | nil=>simp at h2
   | cons y ds=>
     cases j with
     | zero=>
       simp at h1 h2
       subst h1 h2
       rw[cellsG,Nat.zero_mul,Nat.zero_add,List.getElem?_append_left (List.getElem?_eq_some_iff.1 h3).1]
       exact h3
     | succ j=>
       have:=ih ds j i v d u (by simpa using h1) (by simpa using h2) h3
       rw[cellsG,List.getElem?_append_right (by rw[hf,Nat.succ_mul];omega),hf,Nat.succ_mul,show j * k+k+i - k=j * k+i by omega]
       exact this
theorem zd0:∀ (L:List α) (ds:List (Option Addr×Nat)) (v: α) (d:Option Addr×Nat),ds.length=L.length→cellsG f (L ++ [v]) (ds ++ [d])=cellsG f L ds ++ f v d:=by
 intro L
 induction L with
 | nil=>
   intro ds v d h
   obtain rfl:ds= []:= List.eq_nil_of_length_eq_zero h
   simp[cellsG]
 | cons u L ih=>
   intro ds v d h
   cases ds with
   | nil=>simp at h
   | cons e ds=>simp only[List.cons_append,cellsG];rw[ih ds v d (by simpa using h),List.append_assoc]
theorem zd1 (hf:∀ v d,(f v d).length=k):∀ (L:List α) (ds:List (Option Addr×Nat)),ds.length=L.length→(cellsG f L ds).length=L.length * k:=by
 intro L
 induction L with
 | nil=>intro ds h;cases ds<;>simp[cellsG]
 | cons u L ih=>
   intro ds h
   cases ds with
   | nil=>simp at h
   | cons e ds=>
     rw[cellsG,List.length_append,hf,ih ds (by simpa using h),List.length_cons,Nat.succ_mul]
     omega
theorem zd2 (hf:∀ v d,(f v d).length=1):∀ (L:List α) (ds:List (Option Addr×Nat)) (j:Nat) (v: α) (d:Option Addr×Nat) (u:Value),ds.length=L.length→f v d= [u]→ j < L.length→cellsG f (L.set j v) (ds.set j d)=(cellsG f L ds).set j u:=by
 intro L
 induction L with
 | nil=>intro ds j v d u _ _ h;simp at h
 | cons x L ih=>
   intro ds j v d u hl hu hj
   cases ds with
   | nil=>simp at hl
   | cons y ds=>
     obtain⟨z,hz⟩:∃ z,f x y= [z]:= List.length_eq_one_iff.1 (hf x y)
     cases j with
     | zero=>simp[cellsG,hz,hu]
     | succ j=>
       simp only[List.set_cons_succ,cellsG,hz,List.singleton_append]
       rw[ih ds j v d u (by simpa using hl) hu (by simpa using hj)]
end
structure zd3 {α:Type} (f: α→Option Addr×Nat→List Value) (k:Nat) (e:TypeId) (dat: α→List UInt8) (w:World) (F:Nat→Prop) (A:Option Addr) (n c:Nat) (L:List α) (ds:List (Option Addr×Nat)):Prop where
 hn:n=L.length
 hd:ds.length=L.length
 own:Own w 0 e k A n c (cellsG f L ds)
 inF:FIn F A
 data:∀ (j:Nat) (v: α) (d:Option Addr×Nat),L[j]? =some v→ds[j]? =some d→zdq w 0 d.1 (dat v).length d.2 (dat v)∧ FIn F d.1
section
variable {α:Type} {f: α→Option Addr×Nat→List Value} {k:Nat} {e:TypeId} {dat: α→List UInt8} {w w':World} {F G:Nat→Prop} {n c:Nat} {A:Option Addr} {L:List α} {ds:List (Option Addr×Nat)}
theorem zd3.nil (w:World) (F:Nat→Prop):zd3 f k e dat w F none 0 0 [] []:= ⟨rfl,rfl,Own.nil _ _ _ _,FIn.nil _,by intro j v d h;simp at h⟩
theorem zd3.keep (h:zd3 f k e dat w F A n c L ds) (hk:∀ g,F g→g < w.heap.size→w'.heap[g]? =w.heap[g]?):zd3 f k e dat w' F A n c L ds:=
 ⟨h.hn,h.hd,h.own.keep (fun g _ hlt hA=>hk g (h.inF g hA) hlt),h.inF,fun j v d h1 h2=>⟨(h.data j v d h1 h2).1.keepF (h.data j v d h1 h2).2 hk,(h.data j v d h1 h2).2⟩⟩
theorem zd3.below (h:zd3 f k e dat w F A n c L ds) (hb:Below w.heap.size w w'):zd3 f k e dat w' F A n c L ds:=h.keep fun g _ hlt=>hb.block g hlt
theorem zd3.mono (h:zd3 f k e dat w F A n c L ds) (hG:∀ g,g < w.heap.size→F g→G g):zd3 f k e dat w G A n c L ds:=
 ⟨h.hn,h.hd,h.own,fun g hg=>hG g (h.own.fin g hg).2 (h.inF g hg),fun j v d h1 h2=>⟨(h.data j v d h1 h2).1,fun g hg=>hG g ((h.data j v d h1 h2).1.own.fin g hg).2 ((h.data j v d h1 h2).2 g hg)⟩⟩
theorem zd3.elem (h:zd3 f k e dat w F A n c L ds) {j:Nat} {v: α} (hv:L[j]? =some v):∃ d,ds[j]? =some d∧zdq w 0 d.1 (dat v).length d.2 (dat v)∧ FIn F d.1:=by
 have hj:=(List.getElem?_eq_some_iff.1 hv).1
 have hj':j < ds.length:=by rw[h.hd];exact hj
 exact⟨ds[j],List.getElem?_eq_getElem hj',h.data j v _ hv (List.getElem?_eq_getElem hj')⟩
theorem zd3.cells (hf:∀ v d,(f v d).length=k) (h:zd3 f k e dat w F A n c L ds) {j:Nat} {v: α} {d:Option Addr×Nat} (hv:L[j]? =some v) (hd:ds[j]? =some d) (hk:0 < k) :
 ∃ g,A=some ⟨g,0,none⟩∧ g < w.heap.size∧ ∀ i u,(f v d)[i]? =some u→w.cell? ⟨g,j * k+i,none⟩=some u:=by
 have hj:=(List.getElem?_eq_some_iff.1 hv).1
 obtain⟨g,rfl,_,hlt⟩:= h.own.at_ (by rw[h.hn];omega)
 refine⟨g,rfl,hlt,?_⟩
 intro i u hu
 obtain⟨b,off,hA,hc⟩:= h.own.sl.at_ (zdz hf L ds j i v d u hv hd hu)
 injection hA with hA
 injection hA with h1 h2
 subst h1
 subst h2
 rw[Nat.zero_add] at hc
 exact hc
theorem zd3.snoc (h:zd3 f k e dat w F A n c L ds) (hne:5≠e) {A':Option Addr} {c':Nat} {v: α} {d:Option Addr×Nat} (h1:Own w' 0 e k A' (n+1) c' (cellsG f L ds ++ f v d)) (h2:w.grownBy w' (Value.ownBlock (.slice A n c)))
 (h3:A'=A∨A'=some ⟨w.heap.size,0,none⟩) (hF:∀ g,w.heap.size≤g→F g) (hv:zdq w 0 d.1 (dat v).length d.2 (dat v)) (hvF:FIn F d.1):zd3 f k e dat w' F A' (n+1) c' (L ++ [v]) (ds ++ [d]):= by
 have keep:∀ {m:Nat} {dd:Option Addr×Nat} {l:List UInt8},zdq w 0 dd.1 m dd.2 l→zdq w' 0 dd.1 m dd.2 l:=fun hO=>⟨hO.hn,hO.own.grown h2 (zdx hO.own h.own hne)⟩
 refine⟨by rw[h.hn];simp,by simp[h.hd],by rw[zd0 L ds v d h.hd];exact h1,?_,?_⟩
 · intro g hg
   rcases h3 with h3 | h3
   · exact h.inF g (h3.symm.trans hg)
   · rw[h3] at hg
     injection hg with hg
     injection hg with hg
     subst hg
     exact hF _ (Nat.le_refl _)
 · intro j u d' hu hd'
   rcases Nat.lt_or_ge j L.length with hj | hj
   · rw[List.getElem?_append_left hj] at hu
     rw[List.getElem?_append_left (by rw[h.hd];exact hj)] at hd'
     exact⟨keep (h.data j u d' hu hd').1,(h.data j u d' hu hd').2⟩
   · have hj':j=L.length:=by
      have:=(List.getElem?_eq_some_iff.1 hu).1
      simp at this
      omega
     subst hj'
     rw[List.getElem?_append_right (Nat.le_refl _)] at hu
     rw[List.getElem?_append_right (by rw[h.hd];exact Nat.le_refl _)] at hd'
     simp at hu
     simp[h.hd] at hd'
     subst hu
     subst hd'
     exact⟨keep hv,hvF⟩
theorem zd3.store (hf:∀ v d,(f v d).length=1) {g:Nat} (h:zd3 f 1 e dat w F (some ⟨g,0,none⟩) n c L ds) (hne:5≠e) {j:Nat} {v: α} {d:Option Addr×Nat} {u:Value} (hu:f v d= [u]) (hj:j < n) (hv:zdq w 0 d.1 (dat v).length d.2 (dat v)) (hvF:FIn F d.1) :
 zd3 f 1 e dat (w.setCell ⟨g,j,none⟩ u) F (some ⟨g,0,none⟩) n c (L.set j v) (ds.set j d):= by
 have hG:w.grownBy (w.setCell ⟨g,j,none⟩ u) (Value.ownBlock (.slice (some ⟨g,0,none⟩) n c)):= zcy (World.grownBy.refl _ _) (.inl rfl) j u
 have keep:∀ {m:Nat} {dd:Option Addr×Nat} {l:List UInt8},zdq w 0 dd.1 m dd.2 l→zdq (w.setCell ⟨g,j,none⟩ u) 0 dd.1 m dd.2 l:=fun hO=>⟨hO.hn,hO.own.grown hG (zdx hO.own h.own hne)⟩
 refine⟨by rw[List.length_set];exact h.hn,by simp[h.hd],?_,h.inF,?_⟩
 · rw[zd2 hf L ds j v d u h.hd hu (by rw[← h.hn];exact hj)]
   exact h.own.stored j u
 · intro i x d' hx hd'
   rcases Nat.decEq i j with hij | hij
   · rw[List.getElem?_set_ne (fun e=>hij e.symm)] at hx hd'
     exact⟨keep (h.data i x d' hx hd').1,(h.data i x d' hx hd').2⟩
   · subst hij
     have hl:i < L.length:=by rw[← h.hn];exact hj
     rw[List.getElem?_set_self hl] at hx
     rw[List.getElem?_set_self (by rw[h.hd];exact hl)] at hd'
     injection hx with hx
     injection hd' with hd'
     subst hx
     subst hd'
     exact⟨keep hv,hvF⟩
end
theorem zd4 {α:Type} {f: α→Option Addr×Nat→List Value} {k:Nat} {e:TypeId} {dat: α→List UInt8} {F:Nat→Prop} {ops:Array Oper} {rest:List Oper} {o:Oper} {a:Act} {Q:Exit→Act→World→Prop} (w:World) (hgd:o.guard=none) (s x:Operand) (ty:TypeId)
 (ho:o.op= .call { callee:= .builtin .append,args:= #[s,x],argTypes:= #[ty,ty] })
 (hf:∀ v d,(f v d).length=k) (hone:∀ v d,∀ u ∈ f v d,u.oneCell'=true) (hne:5≠e) (i:TypeInfo) (z:Value) (bytes:Nat) (hu:Tryz.prog.underlying ty=some (.slice e)) (hi:Tryz.prog.info? e=some i) (hz:i.zero=some z) (hk:i.size=k) (hby:i.bytes=bytes) (hzs:z.cells.size=k) (hk0:0 < k) (hb4:bytes≤4096)
 (A:Option Addr) (n c:Nat) (L:List α) (ds:List (Option Addr×Nat)) (hs:a.eval s= .slice A n c) (hown:zd3 f k e dat w F A n c L ds)
 (v: α) (d:Option Addr×Nat) (A2:Option Addr) (hx:a.eval x= .slice A2 1 1)
 (hr:Sl w A2 (f v d)) (hv:zdq w 0 d.1 (dat v).length d.2 (dat v)) (hvF:FIn F d.1) (hF:∀ g,w.heap.size≤g→F g)
 (hb:n≤34359738) (N:Nat) (hN:n+1=N)
 (h:∀ A' c' w',zd3 f k e dat w' F A' N c' (L ++ [v]) (ds ++ [d])→ w.grownBy w' (Value.ownBlock (.slice A n c))→ (A'=A∨A'=some ⟨w.heap.size,0,none⟩)→ wpList Tryz.prog ops Q rest (a.put o.dst (.slice A' N c')) w'):wpList Tryz.prog ops Q (o :: rest) a w:=by
 subst hN
 refine zcu w hgd s x _ ho 0 e i _ k bytes hu hi hz hk hby hzs hk0 A n c _ hs hown.own A2 1 1 _ hx (by rw[hf];omega) hr (hone v d) (by unfold maxLen;omega) ?_ (Nat.zero_le _) (n+1) rfl _ rfl ?_
 · calc (n+1) * bytes≤(n+1) * 4096:=Nat.mul_le_mul_left _ hb4
    _≤_:=by omega
 · intro A' c' w' h1 h2 h3 _
   exact h A' c' w' (hown.snoc hne h1 h2 h3 hF hv hvF) h2 h3
end
section
open Go.RowKit
theorem zd5 {g:Nat} {t:TypeId}:∀ (vs:List Value) (o:Nat) {w:World} {l:List Value},Blk w g t l.toArray→o+vs.length≤l.length→Blk (w.setCells g o vs) g t (l.take o ++ vs ++ l.drop (o+vs.length)).toArray
 | [],o,w,l,h,_=>by simpa [World.setCells] using h
 | v :: vs,o,w,l,h,hl=>by
   have h1:=h.set_ o v
   simp only[List.setIfInBounds_toArray] at h1
   have h2:=zd5 vs (o+1) h1 (by simp at hl ⊢;omega)
   rw[list_seg_step l o v vs (by simp at hl;omega)] at h2
   rw[World.setCells]
   simpa [Nat.add_assoc,Nat.add_comm 1] using h2
theorem zd6 {F:Nat→Prop} {w:World} {g:Nat} (hg:F g):∀ (vs:List Value) (o:Nat) {W:World},zdv F w W→zdv F w (W.setCells g o vs)
 | [],_,_,h=>h
 | v :: vs,o,W,h=>by
   rw[World.setCells]
   exact zd6 hg vs (o+1) (h.trans (zdv.of_set (F:=F) (p:=⟨g,o,none⟩) hg v) (fun _ _ h=>h))
theorem zd7 {g:Nat}:∀ (vs:List Value) (o:Nat) (W:World),(W.setCells g o vs).heap.size=W.heap.size
 | [],_,_=>rfl
 | v :: vs,o,W=>by rw[World.setCells,zd7 vs];simp[World.setCell]
theorem zd8 {P:World→Prop} {c:Code} {Q:Exit→Act→World→Prop} {a:Act} {w:World} (h:P w) (k:∀ W,P W→Code.wp Tryz.prog c Q a W):Code.wp Tryz.prog c Q a w:=k w h
theorem zdv.set (F:Nat→Prop) {w W:World} (h:zdv F w W) {p i:Nat} (hp:F p) (u:Value):zdv F w (W.setCell ⟨p,i,none⟩ u):= h.trans (zdv.of_set (F:=F) hp u) (fun _ _ h=>h)
theorem zdv.new {F:Nat→Prop} {w W:World} (h:zdv F w W) (o:Obj):zdv F w (W.alloc o):= h.step (zc1 (Below.refl _ _) o)
theorem zdv.drew {F:Nat→Prop} {w W:World} (h:zdv F w W):zdv F w W.drew:=⟨h.os,h.tape,h.output,h.size,h.block⟩
theorem zdv.setNew {F:Nat→Prop} {w W:World} (h:zdv F w W) {g i:Nat} (hg:w.heap.size≤g) (u:Value):zdv F w (W.setCell ⟨g,i,none⟩ u):= h.trans (zdv.of_set (F:=fun k=>k=g) rfl u) (fun i hi (e:i=g)=> by omega)
end
section
open Go.RowKit
structure KB where
 g:Nat
 t:TypeId
 l:List Value
structure PX (w:World) (p:Nat) (t:TypeId) (cs:List Value) (ks:List KB) (W:World):Prop where
 blk:Blk W p t cs.toArray
 only:zdv (fun q=>q=p) w W
 keep:∀ x ∈ ks,x.g≠p∧Blk W x.g x.t x.l.toArray
section
variable {w W W':World} {p q i:Nat} {t:TypeId} {cs:List Value} {ks:List KB} {x:KB} {v:Value}
end
end
end
section
open Go.RowKit Go.Maps
set_option maxRecDepth 100000
set_option maxHeartbeats 4000000
def wmD (k:Int):DataW Unit:=if k=0 then .map [] else .map [(.int .i64 k,.lit (.int .i64 1))]
def WM (w:World) (m:Nat) (k:Int):Prop:=w.ownsMap Tryz.prog 3 (plainElem Tryz.prog 3) m 1 (wmD k)
def dropD (k:Int) (j:Nat):DataW Unit:=if k < j then .map [] else wmD k
end
section
open Go.RowKit Go.Maps
set_option maxRecDepth 100000
set_option maxHeartbeats 4000000
structure RB where
 A:Option Addr
 n:Nat
 c:Nat
 l:List UInt8
structure CR where
 E:Ms
 Ae:Option Addr
 ne:Nat
 ce:Nat
 A:Option Addr
 n:Nat
 c:Nat
 A2:Option Addr
 n2:Nat
 c2:Nat
def cliL (S:CliS) (m:Nat) (R:CR):List Value:= [.int .i64 (1408+S.nd),.int .i64 (1536+S.nd),.map (some m),.int .i64 0,.int .i64 S.ix,.int .i64 S.sub,.bool false,.bool false,.bool false,.bool false,.int .u32 0,.int .u32 0,.slice none 0 0,.int .i64 0,.int .i64 0,.int .i64 0,.int .u16 0,
 .slice R.A R.n R.c,.int .i64 S.at_,.int .i64 S.ro,.bool S.tg,
 .int .i64 R.E.kind,.int .i64 R.E.ix,.int .i64 R.E.sub,.bool R.E.tg,.bool R.E.la,.bool R.E.cr,.bool R.E.sz,.int .u32 (R.E.size:Nat),.int .u32 (R.E.code:Nat),.slice R.Ae R.ne R.ce,.int .i64 R.E.sq,.int .i64 R.E.bl,.int .i64 R.E.em,.int .u16 (R.E.sum:Nat),
 .int .u32 (S.code:Nat),.slice R.A2 R.n2 R.c2]
structure CM (w0:World) (G:Nat→Prop) (p m:Nat) (wk:Int) (cs:List Value) (ks:List KB) (rs:List RB) (W:World):Prop where
 blk:Blk W p 166 cs.toArray
 wm:WM W m wk
 only:zdv (fun q=>q=p∨q=m∨G q) w0 W
 keep:∀ x ∈ ks,x.g≠p∧x.t≠5∧Blk W x.g x.t x.l.toArray
 rows:∀ r ∈ rs,zdq W 0 r.A r.n r.c r.l∧FIn (fun g=>G g∨w0.heap.size≤g) r.A
section
variable {w0 W W':World} {G:Nat→Prop} {p m:Nat} {wk k:Int} {cs cs':List Value} {ks:List KB} {rs:List RB} {x:KB}
end
section
variable {w0:World} {G:Nat→Prop} {p m:Nat} {wk:Int} {cs:List Value} {ks:List KB} {rs:List RB}
end
end
section
section
open Go.RowKit
theorem zd9 (n:Int) (w:World):Calls Tryz.prog 247 #[.int .i64 n] w fun e w'=>e= .returned (.bool (decide (1≤n) && decide (n≤8)))∧ w=w':=by
 by_cases h1:1≤n
 · by_cases h2:n≤8
   · go_enter Tryz.func247,Tryz.ntmps247
     go_wp2
     go_ret
     exact⟨by simp[h1,h2],rfl⟩
   · go_enter Tryz.func247,Tryz.ntmps247
     go_wp2
     go_ret
     exact⟨by simp[h1,h2],rfl⟩
 · go_enter Tryz.func247,Tryz.ntmps247
   go_wp2
   go_ret
   exact⟨by simp;omega,rfl⟩
set_option maxHeartbeats 400000 in
theorem zea (A:Option Addr) (cap:Nat) (l:List UInt8) (at_ wd:Int) (w:World)
 (hl:l.length≤cap) (hcap:l.length≤4611686018427387904) (ha0:0≤at_) (ha:at_+wd≤l.length) (h1:1≤wd) (h8:wd≤8) (hc:Sl w A (l.map bv)) :
 Calls Tryz.prog 236 #[.slice A l.length cap,.int .i64 at_,.int .i64 wd] w fun e w'=>
  e= .returned (.tuple #[.int .u64 (leN ((l.drop at_.toNat).take wd.toNat)),.int .i64 0])∧ w=w':=by
 have g1:(decide (1≤(wd:Int)) && decide ((wd:Int)≤ 8))=true:=by simp;omega
 go_enter Tryz.func236,Tryz.ntmps236
 go_wp2_with (go_at_call 247;refine (zd9 _ _).mono ?_;rintro e w' ⟨rfl,rfl⟩)
 go_loop [8,9,32] (fun n _ i=> ∃ k:Nat,k≤wd∧i= .int .i64 k∧n= .int .u64 (leN ((l.drop at_.toNat).take k))) (fun _ _ i=>wd.toNat - (intOf i).toNat)
 case atStart=>exact⟨0,by omega,rfl,rfl⟩
 case round=>
  obtain⟨k,hk,rfl,rfl⟩:= hrel
  by_cases hlt:(k:Int) < wd
  · obtain⟨ad,rfl,hcell⟩:= hc.byte (j:=at_.toNat+k) (by omega)
    have e1:(at_+k).toNat=at_.toNat+k:=by omega
    go_wp2_with fail
    go_round
    case rel=>
     have hd:k < (l.drop at_.toNat).length:=by simp;omega
     have hlt':=zan ((l.drop at_.toNat).take k)
     rw[List.length_take,Nat.min_eq_left (Nat.le_of_lt hd)] at hlt'
     refine⟨k+1,by omega,by go_num,?_⟩
     rw[zas _ _ _ hlt' (UInt8.toNat_lt _) (by omega),zap _ _ hd]
     simp
    case measure=>simp[intOf];omega
  · go_wp2
    go_ret2
    have:k=wd.toNat:=by omega
    subst this
    exact⟨rfl,rfl⟩
theorem zeb (x k:Nat):Value.int IntKind.u8 ((x:Int) / 2 ^ (8 * k) % 256)=bv (UInt8.ofNat (x / 256 ^ k)):= by
 have:((x:Int) / 2 ^ (8 * k))=((x / 256 ^ k:Nat):Int):= by
  rw[← zar];push_cast;rfl
 rw[this]
 simp only[bv,UInt8.toNat_ofNat']
 congr 1
theorem zec (A:Option Addr) (n cap:Nat) (l:List UInt8) (at_ wd:Int) (w:World) (hn:n=l.length)
 (hl:n≤cap) (hcap:n≤4611686018427387904) (ha0:0≤at_) (ha:at_+wd≤n) (h1:1≤wd) (h8:wd≤8) (hc:Sl w A (l.map bv)) :
 Calls Tryz.prog 236 #[.slice A n cap,.int .i64 at_,.int .i64 wd] w fun e w'=>
  e= .returned (.tuple #[.int .u64 (leN ((l.drop at_.toNat).take wd.toNat)),.int .i64 0])∧ w=w':=by
 subst hn
 exact zea A cap l at_ wd w hl hcap ha0 ha h1 h8 hc
end
section
open Go.RowKit
end
section
open Go.RowKit
end
end
end Go.Proofs.YthdbckbpldlkeaaGreat
