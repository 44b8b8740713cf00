/- None -/
import Derived.Test.YtehabbnohoomjaaGreatDoorP02
import Derived.Laws.CopyRow
import Derived.Laws.IdiomCopy
namespace Go.Proofs.YtehabbnohoomjaaGreatDoor
set_option linter.unusedVariables false
set_option linter.unusedSimpArgs false
set_option linter.unnecessarySimpa false
section
section
open Go.RowKit
set_option maxRecDepth 20000
set_option maxHeartbeats 1000000
structure zcj (F:Nat→Prop) (w w':World):Prop where
 os:w'.os=w.os
 tape:w'.tape=w.tape
 output:w'.output=w.output
 size:w.heap.size≤w'.heap.size
 block:∀ k,k < w.heap.size→ ¬ F k→w'.heap[k]? =w.heap[k]?
section
variable {F G:Nat→Prop} {a b c w w':World} {N:Nat}
theorem zcj.refl (F:Nat→Prop) (w:World):zcj F w w:=⟨rfl,rfl,rfl,Nat.le_refl _,fun _ _ _=>rfl⟩
theorem zcj.of_below (h:Below w.heap.size w w'):zcj F w w':=⟨h.os,h.tape,h.output,h.size,fun k hk _=>h.block k hk⟩
theorem zcj.of_set {p:Addr} (hp:F p.block) (u:Value):zcj F w (w.setCell p u):= ⟨rfl,rfl,rfl,by simp[World.setCell],fun k _ hF=>Below.heap_setCell _ _ _ _ (by rintro rfl;exact hF hp)⟩
theorem zcj.trans (h:zcj F a b) (k:zcj G b c) (hG:∀ i,i < a.heap.size→G i→F i):zcj F a c:=
 ⟨k.os.trans h.os,k.tape.trans h.tape,k.output.trans h.output,Nat.le_trans h.size k.size,fun i hi hF=>(k.block i (Nat.lt_of_lt_of_le hi h.size) (fun hg=>hF (hG i hi hg))).trans (h.block i hi hF)⟩
theorem zcj.step (h:zcj F a b) (k:Below b.heap.size b c):zcj F a c:=h.trans (G:=F) (zcj.of_below k) (fun _ _ h=>h)
theorem zcj.mono (h:zcj F w w') (hG:∀ i,i < w.heap.size→F i→G i):zcj G w w':=⟨h.os,h.tape,h.output,h.size,fun k hk hF=>h.block k hk (fun hf=>hF (hG k hk hf))⟩
theorem zcj.below (h:zcj F w w') (hN:N≤w.heap.size) (hF:∀ i,F i→N≤i):Below N w w':=⟨h.os,h.tape,h.output,h.size,fun k hk=>h.block k (by omega) (fun hf=>by have:=hF k hf;omega)⟩
end
theorem zck {F:Nat→Prop} {w w1 w2:World} (ho:zcj F w1 w2) (h:Below w.heap.size w w1) (hF:∀ i,F i→w.heap.size≤i):Below w.heap.size w w2:=h.trans (ho.below h.size hF)
def FIn (F:Nat→Prop) (A:Option Addr):Prop:= ∀ g,A=some (⟨g,0,none⟩:Addr)→ F g
theorem FIn.nil (F:Nat→Prop):FIn F none:=fun _ h=>by cases h
theorem FIn.mono {F G:Nat→Prop} {A:Option Addr} (h:FIn F A) (hG:∀ g,F g→G g):FIn G A:=fun g hg=>hG g (h g hg)
theorem Own.fin {w:World} {B e size n c:Nat} {A:Option Addr} {xs:List Value} (h:Own w B e size A n c xs):FIn (fun g=>B≤g∧g < w.heap.size) A:=by
 intro g hg
 rcases h.shape with ⟨h1,_⟩ | ⟨g',h1,h2,h3⟩
 · rw[h1] at hg;cases hg
 · rw[h1] at hg
   injection hg with hg
   injection hg with hg
   subst hg
   exact⟨h2,h3⟩
theorem zcd.keepF {w w':World} {B n c:Nat} {A:Option Addr} {l:List UInt8} {F:Nat→Prop} (h:zcd w B A n c l) (hF:FIn F A) (hk:∀ g,F g→g < w.heap.size→w'.heap[g]? =w.heap[g]?):zcd w' B A n c l:=
 ⟨h.hn,h.own.keep fun g _ hlt hA=>hk g (hF g hA) hlt⟩
theorem zcl {w:World} {B B' e e' s s' n n' c c':Nat} {A A':Option Addr} {xs xs':List Value} (h:Own w B e s A n c xs) (h':Own w B' e' s' A' n' c' xs') (hne:e≠e') :
 ∀ g,A=some ⟨g,0,none⟩→ some g≠Value.ownBlock (.slice A' n' c'):= by
 intro g hA hg
 subst hA
 rcases h'.shape with ⟨rfl,_⟩ | ⟨g',rfl,_⟩
 · simp[Value.ownBlock] at hg
 · simp[Value.ownBlock] at hg
   subst hg
   rcases h.2 with ⟨hv,_⟩ | ⟨g1,cap,cur,hv,_,hg1,_⟩
   · injection hv with hv;cases hv
   · rcases h'.2 with ⟨hv',_⟩ | ⟨g2,cap',cur',hv',_,hg2,_⟩
     · injection hv' with hv';cases hv'
     · injection hv with hv;injection hv with hv;injection hv with hv
       injection hv' with hv';injection hv' with hv';injection hv' with hv'
       subst hv
       subst hv'
       rw[hg1] at hg2
       injection hg2 with hg2
       injection hg2 with _ ht
       exact hne ht
theorem zcm {w:World} {B e' s' n' c':Nat} {A':Option Addr} {xs':List Value} {g:Nat} {t:TypeId} {cs:Array Value} (h:Blk w g t cs) (h':Own w B e' s' A' n' c' xs') (hne:t≠e'):some g≠Value.ownBlock (.slice A' n' c'):= by
 intro hg
 rcases h'.shape with ⟨rfl,_⟩ | ⟨g',rfl,_⟩
 · simp[Value.ownBlock] at hg
 · simp[Value.ownBlock] at hg
   subst hg
   rcases h'.2 with ⟨hv',_⟩ | ⟨g2,cap',cur',hv',_,hg2,_⟩
   · injection hv' with hv';cases hv'
   · injection hv' with hv';injection hv' with hv';injection hv' with hv'
     subst hv'
     unfold Blk at h
     rw[h] at hg2
     injection hg2 with hg2
     injection hg2 with _ ht
     exact hne ht
section
variable {α:Type} {f: α→Option Addr×Nat→List Value} {k:Nat}
def cellsG (f: α→Option Addr×Nat→List Value):List α→List (Option Addr×Nat)→ List Value
 | v :: L,d :: ds=>f v d ++ cellsG f L ds
 | _,_=> []
theorem zcn (hf:∀ v d,(f v d).length=k):∀ (L:List α) (ds:List (Option Addr×Nat)) (j i:Nat) (v: α) (d:Option Addr×Nat) (u:Value),L[j]? =some v→ds[j]? =some d→(f v d)[i]? =some u→(cellsG f L ds)[j * k+i]? =some u:=by
 intro L
 induction L with
 | nil=>intro ds j i v d u h;simp at h
 | cons x L ih=>
   intro ds j i v d u h1 h2 h3
   cases ds with
   | nil=>simp at h2
   | cons y ds=>
     cases j with
     | zero=>
       simp at h1 h2
       subst h1 h2
       rw[cellsG,Nat.zero_mul,Nat.zero_add,List.getElem?_append_left (List.getElem?_eq_some_iff.1 h3).1]
       exact h3
     | succ j=>
       have:=ih ds j i v d u (by simpa using h1) (by simpa using h2) h3
       rw[cellsG,List.getElem?_append_right (by rw[hf,Nat.succ_mul];omega),hf,Nat.succ_mul,show j * k+k+i - k=j * k+i by omega]
       exact this
theorem zco:∀ (L:List α) (ds:List (Option Addr×Nat)) (v: α) (d:Option Addr×Nat),ds.length=L.length→cellsG f (L ++ [v]) (ds ++ [d])=cellsG f L ds ++ f v d:=by
 intro L
 induction L with
 | nil=>
   intro ds v d h
   obtain rfl:ds= []:= List.eq_nil_of_length_eq_zero h
   simp[cellsG]
 | cons u L ih=>
   intro ds v d h
   cases ds with
   | nil=>simp at h
   | cons e ds=>simp only[List.cons_append,cellsG];rw[ih ds v d (by simpa using h),List.append_assoc]
theorem zcp (hf:∀ v d,(f v d).length=1):∀ (L:List α) (ds:List (Option Addr×Nat)) (j:Nat) (v: α) (d:Option Addr×Nat) (u:Value),ds.length=L.length→f v d= [u]→ j < L.length→cellsG f (L.set j v) (ds.set j d)=(cellsG f L ds).set j u:=by
 intro L
 induction L with
 | nil=>intro ds j v d u _ _ h;simp at h
 | cons x L ih=>
   intro ds j v d u hl hu hj
   cases ds with
   | nil=>simp at hl
   | cons y ds=>
     obtain⟨z,hz⟩:∃ z,f x y= [z]:= List.length_eq_one_iff.1 (hf x y)
     cases j with
     | zero=>simp[cellsG,hz,hu]
     | succ j=>
       simp only[List.set_cons_succ,cellsG,hz,List.singleton_append]
       rw[ih ds j v d u (by simpa using hl) hu (by simpa using hj)]
end
structure zcq {α:Type} (f: α→Option Addr×Nat→List Value) (k:Nat) (e:TypeId) (dat: α→List UInt8) (w:World) (F:Nat→Prop) (A:Option Addr) (n c:Nat) (L:List α) (ds:List (Option Addr×Nat)):Prop where
 hn:n=L.length
 hd:ds.length=L.length
 own:Own w 0 e k A n c (cellsG f L ds)
 inF:FIn F A
 data:∀ (j:Nat) (v: α) (d:Option Addr×Nat),L[j]? =some v→ds[j]? =some d→zcd w 0 d.1 (dat v).length d.2 (dat v)∧ FIn F d.1
section
variable {α:Type} {f: α→Option Addr×Nat→List Value} {k:Nat} {e:TypeId} {dat: α→List UInt8} {w w':World} {F G:Nat→Prop} {n c:Nat} {A:Option Addr} {L:List α} {ds:List (Option Addr×Nat)}
theorem zcq.nil (w:World) (F:Nat→Prop):zcq f k e dat w F none 0 0 [] []:= ⟨rfl,rfl,Own.nil _ _ _ _,FIn.nil _,by intro j v d h;simp at h⟩
theorem zcq.keep (h:zcq f k e dat w F A n c L ds) (hk:∀ g,F g→g < w.heap.size→w'.heap[g]? =w.heap[g]?):zcq f k e dat w' F A n c L ds:=
 ⟨h.hn,h.hd,h.own.keep (fun g _ hlt hA=>hk g (h.inF g hA) hlt),h.inF,fun j v d h1 h2=>⟨(h.data j v d h1 h2).1.keepF (h.data j v d h1 h2).2 hk,(h.data j v d h1 h2).2⟩⟩
theorem zcq.below (h:zcq f k e dat w F A n c L ds) (hb:Below w.heap.size w w'):zcq f k e dat w' F A n c L ds:=h.keep fun g _ hlt=>hb.block g hlt
theorem zcq.mono (h:zcq f k e dat w F A n c L ds) (hG:∀ g,g < w.heap.size→F g→G g):zcq f k e dat w G A n c L ds:=
 ⟨h.hn,h.hd,h.own,fun g hg=>hG g (h.own.fin g hg).2 (h.inF g hg),fun j v d h1 h2=>⟨(h.data j v d h1 h2).1,fun g hg=>hG g ((h.data j v d h1 h2).1.own.fin g hg).2 ((h.data j v d h1 h2).2 g hg)⟩⟩
theorem zcq.elem (h:zcq f k e dat w F A n c L ds) {j:Nat} {v: α} (hv:L[j]? =some v):∃ d,ds[j]? =some d∧zcd w 0 d.1 (dat v).length d.2 (dat v)∧ FIn F d.1:=by
 have hj:=(List.getElem?_eq_some_iff.1 hv).1
 have hj':j < ds.length:=by rw[h.hd];exact hj
 exact⟨ds[j],List.getElem?_eq_getElem hj',h.data j v _ hv (List.getElem?_eq_getElem hj')⟩
theorem zcq.cells (hf:∀ v d,(f v d).length=k) (h:zcq f k e dat w F A n c L ds) {j:Nat} {v: α} {d:Option Addr×Nat} (hv:L[j]? =some v) (hd:ds[j]? =some d) (hk:0 < k) :
 ∃ g,A=some ⟨g,0,none⟩∧ g < w.heap.size∧ ∀ i u,(f v d)[i]? =some u→w.cell? ⟨g,j * k+i,none⟩=some u:=by
 have hj:=(List.getElem?_eq_some_iff.1 hv).1
 obtain⟨g,rfl,_,hlt⟩:= h.own.at_ (by rw[h.hn];omega)
 refine⟨g,rfl,hlt,?_⟩
 intro i u hu
 obtain⟨b,off,hA,hc⟩:= h.own.sl.at_ (zcn hf L ds j i v d u hv hd hu)
 injection hA with hA
 injection hA with h1 h2
 subst h1
 subst h2
 rw[Nat.zero_add] at hc
 exact hc
theorem zcq.snoc (h:zcq f k e dat w F A n c L ds) (hne:5≠e) {A':Option Addr} {c':Nat} {v: α} {d:Option Addr×Nat} (h1:Own w' 0 e k A' (n+1) c' (cellsG f L ds ++ f v d)) (h2:w.grownBy w' (Value.ownBlock (.slice A n c)))
 (h3:A'=A∨A'=some ⟨w.heap.size,0,none⟩) (hF:∀ g,w.heap.size≤g→F g) (hv:zcd w 0 d.1 (dat v).length d.2 (dat v)) (hvF:FIn F d.1):zcq f k e dat w' F A' (n+1) c' (L ++ [v]) (ds ++ [d]):= by
 have keep:∀ {m:Nat} {dd:Option Addr×Nat} {l:List UInt8},zcd w 0 dd.1 m dd.2 l→zcd w' 0 dd.1 m dd.2 l:=fun hO=>⟨hO.hn,hO.own.grown h2 (zcl hO.own h.own hne)⟩
 refine⟨by rw[h.hn];simp,by simp[h.hd],by rw[zco L ds v d h.hd];exact h1,?_,?_⟩
 · intro g hg
   rcases h3 with h3 | h3
   · exact h.inF g (h3.symm.trans hg)
   · rw[h3] at hg
     injection hg with hg
     injection hg with hg
     subst hg
     exact hF _ (Nat.le_refl _)
 · intro j u d' hu hd'
   rcases Nat.lt_or_ge j L.length with hj | hj
   · rw[List.getElem?_append_left hj] at hu
     rw[List.getElem?_append_left (by rw[h.hd];exact hj)] at hd'
     exact⟨keep (h.data j u d' hu hd').1,(h.data j u d' hu hd').2⟩
   · have hj':j=L.length:=by
      have:=(List.getElem?_eq_some_iff.1 hu).1
      simp at this
      omega
     subst hj'
     rw[List.getElem?_append_right (Nat.le_refl _)] at hu
     rw[List.getElem?_append_right (by rw[h.hd];exact Nat.le_refl _)] at hd'
     simp at hu
     simp[h.hd] at hd'
     subst hu
     subst hd'
     exact⟨keep hv,hvF⟩
theorem zcq.store (hf:∀ v d,(f v d).length=1) {g:Nat} (h:zcq f 1 e dat w F (some ⟨g,0,none⟩) n c L ds) (hne:5≠e) {j:Nat} {v: α} {d:Option Addr×Nat} {u:Value} (hu:f v d= [u]) (hj:j < n) (hv:zcd w 0 d.1 (dat v).length d.2 (dat v)) (hvF:FIn F d.1) :
 zcq f 1 e dat (w.setCell ⟨g,j,none⟩ u) F (some ⟨g,0,none⟩) n c (L.set j v) (ds.set j d):= by
 have hG:w.grownBy (w.setCell ⟨g,j,none⟩ u) (Value.ownBlock (.slice (some ⟨g,0,none⟩) n c)):= za9 (World.grownBy.refl _ _) (.inl rfl) j u
 have keep:∀ {m:Nat} {dd:Option Addr×Nat} {l:List UInt8},zcd w 0 dd.1 m dd.2 l→zcd (w.setCell ⟨g,j,none⟩ u) 0 dd.1 m dd.2 l:=fun hO=>⟨hO.hn,hO.own.grown hG (zcl hO.own h.own hne)⟩
 refine⟨by rw[List.length_set];exact h.hn,by simp[h.hd],?_,h.inF,?_⟩
 · rw[zcp hf L ds j v d u h.hd hu (by rw[← h.hn];exact hj)]
   exact h.own.stored j u
 · intro i x d' hx hd'
   rcases Nat.decEq i j with hij | hij
   · rw[List.getElem?_set_ne (fun e=>hij e.symm)] at hx hd'
     exact⟨keep (h.data i x d' hx hd').1,(h.data i x d' hx hd').2⟩
   · subst hij
     have hl:i < L.length:=by rw[← h.hn];exact hj
     rw[List.getElem?_set_self hl] at hx
     rw[List.getElem?_set_self (by rw[h.hd];exact hl)] at hd'
     injection hx with hx
     injection hd' with hd'
     subst hx
     subst hd'
     exact⟨keep hv,hvF⟩
end
theorem zcr {α:Type} {f: α→Option Addr×Nat→List Value} {k:Nat} {e:TypeId} {dat: α→List UInt8} {F:Nat→Prop} {ops:Array Oper} {rest:List Oper} {o:Oper} {a:Act} {Q:Exit→Act→World→Prop} (w:World) (hgd:o.guard=none) (s x:Operand) (ty:TypeId)
 (ho:o.op= .call { callee:= .builtin .append,args:= #[s,x],argTypes:= #[ty,ty] })
 (hf:∀ v d,(f v d).length=k) (hone:∀ v d,∀ u ∈ f v d,u.oneCell'=true) (hne:5≠e) (i:TypeInfo) (z:Value) (bytes:Nat) (hu:Tryz.prog.underlying ty=some (.slice e)) (hi:Tryz.prog.info? e=some i) (hz:i.zero=some z) (hk:i.size=k) (hby:i.bytes=bytes) (hzs:z.cells.size=k) (hk0:0 < k) (hb4:bytes≤4096)
 (A:Option Addr) (n c:Nat) (L:List α) (ds:List (Option Addr×Nat)) (hs:a.eval s= .slice A n c) (hown:zcq f k e dat w F A n c L ds)
 (v: α) (d:Option Addr×Nat) (A2:Option Addr) (hx:a.eval x= .slice A2 1 1)
 (hr:Sl w A2 (f v d)) (hv:zcd w 0 d.1 (dat v).length d.2 (dat v)) (hvF:FIn F d.1) (hF:∀ g,w.heap.size≤g→F g)
 (hb:n≤34359738) (N:Nat) (hN:n+1=N)
 (h:∀ A' c' w',zcq f k e dat w' F A' N c' (L ++ [v]) (ds ++ [d])→ w.grownBy w' (Value.ownBlock (.slice A n c))→ (A'=A∨A'=some ⟨w.heap.size,0,none⟩)→ wpList Tryz.prog ops Q rest (a.put o.dst (.slice A' N c')) w'):wpList Tryz.prog ops Q (o :: rest) a w:=by
 subst hN
 refine za4 w hgd s x _ ho 0 e i _ k bytes hu hi hz hk hby hzs hk0 A n c _ hs hown.own A2 1 1 _ hx (by rw[hf];omega) hr (hone v d) (by unfold maxLen;omega) ?_ (Nat.zero_le _) (n+1) rfl _ rfl ?_
 · calc (n+1) * bytes≤(n+1) * 4096:=Nat.mul_le_mul_left _ hb4
    _≤_:=by omega
 · intro A' c' w' h1 h2 h3 _
   exact h A' c' w' (hown.snoc hne h1 h2 h3 hF hv hvF) h2 h3
end
section
open Go.RowKit
theorem zcs {P:World→Prop} {c:Code} {Q:Exit→Act→World→Prop} {a:Act} {w:World} (h:P w) (k:∀ W,P W→Code.wp Tryz.prog c Q a W):Code.wp Tryz.prog c Q a w:=k w h
theorem zcj.set (F:Nat→Prop) {w W:World} (h:zcj F w W) {p i:Nat} (hp:F p) (u:Value):zcj F w (W.setCell ⟨p,i,none⟩ u):= h.trans (zcj.of_set (F:=F) hp u) (fun _ _ h=>h)
theorem zcj.new {F:Nat→Prop} {w W:World} (h:zcj F w W) (o:Obj):zcj F w (W.alloc o):= h.step (zbf (Below.refl _ _) o)
theorem zcj.drew {F:Nat→Prop} {w W:World} (h:zcj F w W):zcj F w W.drew:=⟨h.os,h.tape,h.output,h.size,h.block⟩
theorem zcj.setNew {F:Nat→Prop} {w W:World} (h:zcj F w W) {g i:Nat} (hg:w.heap.size≤g) (u:Value):zcj F w (W.setCell ⟨g,i,none⟩ u):= h.trans (zcj.of_set (F:=fun k=>k=g) rfl u) (fun i hi (e:i=g)=> by omega)
end
section
open Go.RowKit
structure KB where
 g:Nat
 t:TypeId
 l:List Value
structure PX (w:World) (p:Nat) (t:TypeId) (cs:List Value) (ks:List KB) (W:World):Prop where
 blk:Blk W p t cs.toArray
 only:zcj (fun q=>q=p) w W
 keep:∀ x ∈ ks,x.g≠p∧Blk W x.g x.t x.l.toArray
section
variable {w W W':World} {p q i:Nat} {t:TypeId} {cs:List Value} {ks:List KB} {x:KB} {v:Value}
end
end
end
section
section
open Go.RowKit
theorem zct (n:Int) (w:World):Calls Tryz.prog 150 #[.int .i64 n] w fun e w'=>e= .returned (.bool (decide (1≤n) && decide (n≤8)))∧ w=w':=by
 by_cases h1:1≤n
 · by_cases h2:n≤8
   · go_enter Tryz.func150,Tryz.ntmps150
     go_wp2
     go_ret
     exact⟨by simp[h1,h2],rfl⟩
   · go_enter Tryz.func150,Tryz.ntmps150
     go_wp2
     go_ret
     exact⟨by simp[h1,h2],rfl⟩
 · go_enter Tryz.func150,Tryz.ntmps150
   go_wp2
   go_ret
   exact⟨by simp;omega,rfl⟩
set_option maxHeartbeats 400000 in
theorem zcu (A:Option Addr) (cap:Nat) (l:List UInt8) (at_ wd:Int) (w:World)
 (hl:l.length≤cap) (hcap:l.length≤4611686018427387904) (ha0:0≤at_) (ha:at_+wd≤l.length) (h1:1≤wd) (h8:wd≤8) (hc:Sl w A (l.map bv)) :
 Calls Tryz.prog 122 #[.slice A l.length cap,.int .i64 at_,.int .i64 wd] w fun e w'=>
  e= .returned (.tuple #[.int .u64 (leN ((l.drop at_.toNat).take wd.toNat)),.int .i64 0])∧ w=w':=by
 have g1:(decide (1≤(wd:Int)) && decide ((wd:Int)≤ 8))=true:=by simp;omega
 go_enter Tryz.func122,Tryz.ntmps122
 go_wp2_with (go_at_call 150;refine (zct _ _).mono ?_;rintro e w' ⟨rfl,rfl⟩)
 go_loop [8,9,32] (fun n _ i=> ∃ k:Nat,k≤wd∧i= .int .i64 k∧n= .int .u64 (leN ((l.drop at_.toNat).take k))) (fun _ _ i=>wd.toNat - (intOf i).toNat)
 case atStart=>exact⟨0,by omega,rfl,rfl⟩
 case round=>
  obtain⟨k,hk,rfl,rfl⟩:= hrel
  by_cases hlt:(k:Int) < wd
  · obtain⟨ad,rfl,hcell⟩:= hc.byte (j:=at_.toNat+k) (by omega)
    have e1:(at_+k).toNat=at_.toNat+k:=by omega
    go_wp2_with fail
    go_round
    case rel=>
     have hd:k < (l.drop at_.toNat).length:=by simp;omega
     have hlt':=zao ((l.drop at_.toNat).take k)
     rw[List.length_take,Nat.min_eq_left (Nat.le_of_lt hd)] at hlt'
     refine⟨k+1,by omega,by go_num,?_⟩
     rw[zaw _ _ _ hlt' (UInt8.toNat_lt _) (by omega),zas _ _ hd]
     simp
    case measure=>simp[intOf];omega
  · go_wp2
    go_ret2
    have:k=wd.toNat:=by omega
    subst this
    exact⟨rfl,rfl⟩
theorem zcv (n:Int) (w:World) (h1:1≤n) (h2:n≤8):Calls Tryz.prog 150 #[.int .i64 n] w fun e w'=>e= .returned (.bool true)∧ w=w':=
 (zct n w).mono fun _ _ ⟨he,hw⟩=> ⟨by rw[he];simp[h1,h2],hw⟩
theorem zcw (wd:Int):(2:Int) ^ (8 * wd).toNat=((256 ^ wd.toNat:Nat):Int):= by
 have:(8 * wd).toNat=8 * wd.toNat:=by omega
 rw[this,← zav]
 push_cast
 rfl
theorem zcx (x k:Nat):Value.int IntKind.u8 ((x:Int) / 2 ^ (8 * k) % 256)=bv (UInt8.ofNat (x / 256 ^ k)):= by
 have:((x:Int) / 2 ^ (8 * k))=((x / 256 ^ k:Nat):Int):= by
  rw[← zav];push_cast;rfl
 rw[this]
 simp only[bv,UInt8.toNat_ofNat']
 congr 1
set_option maxRecDepth 20000 in
set_option maxHeartbeats 400000 in
theorem zcy (A:Option Addr) (c:Nat) (l:List UInt8) (wd:Int) (x:Nat) (w:World) (h1:1≤wd) (h8:wd≤8) (hx:x < 256 ^ wd.toNat) (hl:l.length≤35184372088832)
 (hs:Sl w A (l.map bv)) :
 Calls Tryz.prog 159 #[.slice A l.length c,.int .i64 wd,.int .u64 x] w fun e w'=> ∃ A' n' c',e= .returned (.tuple #[.slice A' n' c',.int .i64 0])∧
  zcd w' w.heap.size A' n' c' (l ++ leB wd.toNat x)∧ Below w.heap.size w w':=by
 have ht:wd < 8→((x:Int) / 2 ^ (8 * wd).toNat != 0)=false:=by
  intro _
  rw[zcw]
  have:x / 256 ^ wd.toNat=0:=Nat.div_eq_of_lt hx
  simp only[bne_eq_false_iff_eq]
  exact_mod_cast this
 clear hx
 go_enter Tryz.func159,Tryz.ntmps159
 go_wp2_with (first
  | (go_at_call 150;refine (zcv _ _ h1 (by omega)).mono ?_;rintro e w' ⟨rfl,rfl⟩)
  | (at_make;refine mk_b _ rfl _ _ rfl _ _ _ _ l.length (l.length+wd.toNat) rfl rfl rfl (by omega) (by omega) (by omega) w.heap.size rfl ?_;intro w1 hown1 _ hb1)
  | (with_reducible refine zcf _ rfl (.tmp 32) (.tmp 33) rfl w.heap.size _ _ _ rfl hown1 _ _ _ l rfl rfl (hs.below hb1) hb1.size (l ++ leB 0 x) (by simp[leB]) ?_;intro w2 hO2 _ hb2))
 all_goals
  have hb:=hb1.trans hb2
  clear hown1 hb1 hb2 ht
  go_loopw [8,9,36] (fun v _ i wr=> ∃ k n A c,k≤wd.toNat∧i= .int .i64 (k:Nat)∧ v= .slice A n c∧zcd wr w.heap.size A n c (l ++ leB k x)∧ Below w.heap.size w wr) (fun _ _ i _=>wd.toNat - (intOf i).toNat)
  case atStart=>exact⟨0,_,_,_,by omega,rfl,rfl,hO2,hb⟩
  case round=>
   obtain⟨k,n,A,c,hk,rfl,rfl,hO,hbr⟩:= hrel
   clear hO2 hb
   have hn':n≤35184372088840:=by rw[hO.hn];simp[zan];omega
   by_cases hlt:(k:Int) < wd
   · go_wp2_with (first
      | (at_builtin;refine zce _ rfl (.tmp 39) (.tmp 46) rfl w.heap.size _ _ _ _ rfl (hO.alloc _) _ _ _ [UInt8.ofNat (x / 256 ^ k)] rfl rfl (by rw[zcx];exact Sl.one _ _ _) (by omega) (by have:=hbr.size;simp;omega) (n+1) rfl ?_;intro A3 c3 w3 hown3 _ _ hb3))
     go_roundw
     case rel=>exact⟨k+1,_,_,_,by omega,by go_num,rfl,by rw[zat,← List.append_assoc];exact hown3,(hbr.alloc hbr.size _).trans hb3⟩
     case measure=>simp[intOf];omega
   · go_wp2
     go_ret2
     have hk2:k=wd.toNat:=by omega
     subst hk2
     exact⟨_,_,_,rfl,hO,hbr⟩
theorem zcz (A:Option Addr) (n c:Nat) (l:List UInt8) (wd:Int) (x:Nat) (w:World) (hn:n=l.length) (h1:1≤wd) (h8:wd≤8) (hx:x < 256 ^ wd.toNat) (hl:n≤35184372088832)
 (hs:Sl w A (l.map bv)) :
 Calls Tryz.prog 159 #[.slice A n c,.int .i64 wd,.int .u64 x] w fun e w'=> ∃ A' n' c',e= .returned (.tuple #[.slice A' n' c',.int .i64 0])∧
  zcd w' w.heap.size A' n' c' (l ++ leB wd.toNat x)∧ Below w.heap.size w w':=by
 subst hn
 exact zcy A c l wd x w h1 h8 hx hl hs
theorem zc0 (A:Option Addr) (n cap:Nat) (l:List UInt8) (at_ wd:Int) (w:World) (hn:n=l.length)
 (hl:n≤cap) (hcap:n≤4611686018427387904) (ha0:0≤at_) (ha:at_+wd≤n) (h1:1≤wd) (h8:wd≤8) (hc:Sl w A (l.map bv)) :
 Calls Tryz.prog 122 #[.slice A n cap,.int .i64 at_,.int .i64 wd] w fun e w'=>
  e= .returned (.tuple #[.int .u64 (leN ((l.drop at_.toNat).take wd.toNat)),.int .i64 0])∧ w=w':=by
 subst hn
 exact zcu A cap l at_ wd w hl hcap ha0 ha h1 h8 hc
end
section
open Go.RowKit
theorem zc1 (A1 A2:Option Addr) (n1 n2 c1 c2:Nat) (l1 l2:List UInt8) (w:World) (hn1:n1=l1.length) (hn2:n2=l2.length) (hl:n1≤35184372088832) (hl2:n2≤35184372088832)
 (h1:Sl w A1 (l1.map bv)) (h2:Sl w A2 (l2.map bv)) :
 Calls Tryz.prog 64 #[.slice A1 n1 c1,.slice A2 n2 c2] w fun e w'=> ∃ A' n' c',e= .returned (.slice A' n' c')∧
  zcd w' w.heap.size A' n' c' (l1 ++ l2)∧ Below w.heap.size w w':=by
 have H1:=zak hn1
 have H2:=zak hn2
 clear hn1 hn2
 go_enter Tryz.func64,Tryz.ntmps64
 go_wp2_with (first
  | (at_builtin;refine zce _ rfl (.tmp 6) (.tmp 7) rfl w.heap.size _ _ _ _ rfl (zcd.nil _ _) _ _ _ l1 rfl H1.out h1 (by omega) (Nat.le_refl _) n1 (by omega) ?_;intro A3 c3 w3 hown3 _ _ hb3)
  | (at_builtin;refine zce _ rfl (.tmp 9) (.tmp 10) rfl w.heap.size _ _ _ _ rfl hown3 _ _ _ l2 rfl H2.out (h2.below hb3) (by omega) hb3.size (n1+n2) rfl ?_;intro A4 c4 w4 hown4 _ _ hb4))
 go_ret
 exact⟨_,_,_,rfl,by simpa using hown4,hb3.trans hb4⟩
theorem zc2 (x:Nat):Value.int IntKind.u8 ((x:Int) % 256)=bv (UInt8.ofNat x):= by
 simp only[bv,UInt8.toNat_ofNat']
 congr 1
set_option maxRecDepth 20000 in
theorem zc3 (x:Nat) (wd:Int) (w:World) (hx:U64 x) (h0:0≤wd) (h8:wd≤64) :
 Calls Tryz.prog 216 #[.int .u64 x,.int .i64 wd] w fun e w'=> ∃ A' n' c',e= .returned (.tuple #[.slice A' n' c',.int .u64 ((x / 256 ^ wd.toNat:Nat):Int)])∧
  zcd w' w.heap.size A' n' c' (leB wd.toNat x)∧ Below w.heap.size w w':=by
 go_enter Tryz.func216,Tryz.ntmps216
 go_wp2
 go_loopw [0,6,7] (fun y v i wr=> ∃ k n A c,k≤wd.toNat∧i= .int .i64 (k:Nat)∧ v= .slice A n c∧y= .int .u64 ((x / 256 ^ k:Nat):Int)∧ zcd wr w.heap.size A n c (leB k x)∧ Below w.heap.size w wr)
  (fun _ _ i _=>wd.toNat - (intOf i).toNat)
 case atStart=>exact⟨0,_,_,_,by omega,rfl,rfl,by simp,zcd.nil _ _,Below.refl _ _⟩
 case round=>
  obtain⟨k,n,A,c,hk,rfl,rfl,rfl,hO,hbr⟩:= hrel
  have hn':n≤100:=by rw[hO.hn];simp[zan];omega
  obtain⟨y,hy⟩:∃ y,y=x / 256 ^ k:=⟨_,rfl⟩
  have HY:=zak hy
  rw[← hy]
  clear hy
  by_cases hlt:(k:Int) < wd
  · go_wp2_with (first
     | (at_builtin;refine zce _ rfl (.tmp 13) (.tmp 17) rfl w.heap.size _ _ _ _ rfl (hO.alloc _) _ _ _ [UInt8.ofNat y] rfl rfl (by rw[zc2];exact Sl.one _ _ _) (by omega) (by have:=hbr.size;simp;omega) (n+1) rfl ?_;intro A3 c3 w3 hown3 _ _ hb3))
    go_roundw
    case rel=>
     exact⟨k+1,_,_,_,by omega,by go_num,rfl,by rw[show ((256:Int))=((256:Nat):Int) from rfl,zay (by rw[HY.out];exact hx.div _),HY.out,Nat.div_div_eq_div_mul,Nat.pow_succ],by rw[zat,← HY.out];exact hown3,(hbr.alloc hbr.size _).trans hb3⟩
    case measure=>simp[intOf];omega
  · go_wp2
    go_ret2
    have hk2:k=wd.toNat:=by omega
    subst hk2
    exact⟨_,_,_,by rw[HY.out];rfl,hO,hbr⟩
theorem zc4 (d:List UInt8) (k b:Nat) (h1:1≤k) (hk:k≤d.length) (h8:d.length≤8) (hb:b=(d[k - 1]'(by omega)).toNat) :
 IntKind.u64.wrap (IntKind.u64.wrap (256 * ↑(leN (List.drop k d)))+IntKind.u64.wrap (b:Int))=(leN (d.drop (k - 1)):Int):= by
 have e:d.drop (k - 1)=d[k - 1]'(by omega) :: d.drop k:=by
  rw[List.drop_eq_getElem_cons (by omega)]
  congr 2
  omega
 have hu:U64 (leN (d.drop (k - 1))):= zaz (by simp;omega)
 rw[e] at hu ⊢
 simp only[leN] at hu ⊢
 rw[← hb] at hu ⊢
 unfold U64 at hu
 have e1:IntKind.u64.wrap (256 * ↑(leN (List.drop k d)))=256 * ↑(leN (List.drop k d)):= by rw[IntKind.wrap_u64];omega
 have e2:IntKind.u64.wrap (b:Int)=b:=by rw[IntKind.wrap_u64];omega
 rw[e1,e2,IntKind.wrap_u64]
 omega
theorem zc5 (A:Option Addr) (n c:Nat) (l:List UInt8) (wd:Int) (x:Nat) (w:World) (hu:U64 x) (h1:1≤wd) (h8:wd≤8) (h:x < 256 ^ wd.toNat) (hn:n=l.length) (hl:n≤35184372088832)
 (hs:Sl w A (l.map bv)) :
 Calls Tryz.prog 198 #[.slice A n c,.int .i64 wd,.int .u64 x] w fun e w'=> ∃ A' n' c',e= .returned (.tuple #[.slice A' n' c',.int .i64 0])∧
  zcd w' w.heap.size A' n' c' (l ++ leB wd.toNat x)∧ Below w.heap.size w w':=by
 have hd:=zc3 x wd w hu (by omega) (by omega)
 rw[Nat.div_eq_of_lt h] at hd
 have HD:=zak hd
 have HN:=zak hn
 clear hd h hn
 go_enter Tryz.func198,Tryz.ntmps198
 go_wp2_with (first
  | (go_at_call 216;refine HD.out.mono ?_;rintro e w' ⟨A1,n1,c1,rfl,hO1,hb1⟩)
  | (go_at_call 64;refine (zc1 _ _ _ _ _ _ _ _ _ HN.out hO1.hn hl (by rw[hO1.hn,zan];omega) (hs.below hb1) hO1.sl).mono ?_;rintro e w' ⟨A2,n2,c2,rfl,hO2,hb2⟩))
 go_ret2
 exact⟨_,_,_,rfl,hO2.mono hb1.size,hb1.trans (hb2.mono hb1.size)⟩
set_option maxHeartbeats 400000 in
theorem zc6 (A:Option Addr) (n cap:Nat) (l:List UInt8) (at_ wd:Int) (w:World) (hn:n=l.length)
 (hl:n≤cap) (hcap:n≤4611686018427387904) (ha0:0≤at_) (ha:at_+wd≤n) (h1:1≤wd) (h8:wd≤8) (hc:Sl w A (l.map bv)) :
 Calls Tryz.prog 143 #[.slice A n cap,.int .i64 at_,.int .i64 wd] w fun e w'=>
  e= .returned (.tuple #[.int .u64 (leN ((l.drop at_.toNat).take wd.toNat)),.int .i64 0])∧ w=w':=by
 have HN:=zak hn
 clear hn
 have hlen:((l.drop at_.toNat).take wd.toNat).length=wd.toNat:=by have:=HN.out;rw[List.length_take,List.length_drop];omega
 obtain⟨d,hd⟩:∃ d,d=(l.drop at_.toNat).take wd.toNat:=⟨_,rfl⟩
 rw[← hd] at hlen ⊢
 have HD:=zak hd
 have HL:=zak hlen
 clear hd hlen
 go_enter Tryz.func143,Tryz.ntmps143
 go_wp2_with fail
 go_loop [8,9] (fun n i=> ∃ k:Nat,k≤wd∧i= .int .i64 ((k:Int) - 1)∧ n= .int .u64 (leN (d.drop k))) (fun _ i=>(intOf i+1).toNat)
 case atStart=>exact⟨wd.toNat,by omega,by go_num,by rw[List.drop_eq_nil_of_le (by rw[HL.out];omega)];rfl⟩
 case round=>
  obtain⟨k,hk,rfl,rfl⟩:= hrel
  by_cases hlt:1≤k
  · obtain⟨ad,rfl,hcell⟩:= hc.byte (j:=at_.toNat+(k - 1)) (by have:=HN.out;omega)
    have e1:(at_+(↑k - 1)).toNat=at_.toNat+(k - 1):= by omega
    go_wp2_with fail
    go_round
    case rel=>
     refine⟨k - 1,by omega,by go_num,?_⟩
     rw[zc4 d k _ hlt (by rw[HL.out];omega) (by rw[HL.out];omega)]
     have hd:=HD.out
     subst hd
     rw[List.getElem_take,List.getElem_drop]
    case measure=>simp[intOf];omega
  · go_wp2
    go_ret2
    have:k=0:=by omega
    subst this
    exact⟨by rw[HD.out];rfl,rfl⟩
end
section
open Go.RowKit
theorem zc7 (n m:Int) (w:World) (hm:1≤m) (hm2:m≤4611686018427387904) :
 Calls Tryz.prog 22 #[.int .i64 n,.int .i64 m] w fun e w'=>e= .returned (.int .i64 (n % m))∧ w=w':=by
 have hp:0≤n % m:=Int.emod_nonneg _ (by omega)
 have hq:n % m < m:=Int.emod_lt_of_pos _ (by omega)
 have he:n.tmod m=n % m∨n.tmod m=n % m - m:=by
  rw[Int.tmod_eq_emod]
  split
  · left;simp
  · right;omega
 have h1:n.tmod m < 0→n.tmod m+m=n % m:=by omega
 have h2:0≤n.tmod m→n.tmod m=n % m:=by omega
 have h3: -m≤n.tmod m:=by omega
 have HE:=And.intro (zak h1) (zak h2)
 clear he h1 h2 hp hq
 go_enter Tryz.func22,Tryz.ntmps22
 go_wp2
 · go_ret
   exact⟨za0 (HE.1.out ‹_›),rfl⟩
 · go_ret
   exact⟨za0 (HE.2.out ‹_›),rfl⟩
set_option maxRecDepth 20000 in
theorem zc8 (A:Option Addr) (n c B:Nat) (l:List UInt8) (w:World) (hl:n≤35184372088832) (hO:Own w B 5 1 A n c (l.map bv)) (hB:B≤w.heap.size) :
 Calls Tryz.prog 34 #[.slice A n c] w fun e w'=>e= .returned (.tuple #[])∧ w.grownBy w' (Value.ownBlock (.slice A n c)):= by
 obtain⟨i0,hi0,hz0,hz1,hz2⟩:= info_parts zcb
 go_enter Tryz.func34,Tryz.ntmps34
 go_wp2
 go_loopw [2] (fun i wr=> ∃ k zs,k≤n∧i= .int .i64 (k:Nat)∧ Own wr B 5 1 A n c (List.map (Value.int .u8) zs)∧ w.grownBy wr (Value.ownBlock (.slice A n c))) (fun i _=>n - (intOf i).toNat)
 case atStart=>exact⟨0,l.map (fun c=>(c.toNat:Int)),by omega,rfl,by rw[List.map_map];exact hO,World.grownBy.refl _ _⟩
 case round=>
  obtain⟨k,zs,hk,rfl,hOr,hgr⟩:= hrel
  by_cases hlt:k < n
  · obtain⟨g,u,rfl,hg1,hg2,hu,hcell,hfr⟩:= hOr.cell hlt
    obtain⟨z,hz,rfl⟩:∃ z,zs[k]? =some z∧u= .int .u8 z:=by
     rw[List.getElem?_map] at hu
     obtain⟨z,h1,h2⟩:= Option.map_eq_some_iff.1 hu
     exact⟨z,h1,h2.symm⟩
    clear hu hz
    go_wp2_with fail
    go_roundw
    case rel=>exact⟨k+1,_,by omega,by go_num,by rw[List.map_set];exact hOr.stored _ _,za9 hgr (.inl rfl) _ _⟩
    case measure=>simp[intOf];omega
  · have hB2:B≤wr.heap.size:=Nat.le_trans hB hgr.size
    go_wp2_with (first
     | (at_builtin;refine za4 _ rfl (.tmp 17) (.tmp 18) _ rfl B 5 i0 _ 1 1 Tryz.underlying23 hi0 hz0 hz1 hz2 rfl (by omega) _ _ _ _ rfl (hOr.alloc _) _ _ _ _ rfl rfl (Sl.one _ _ _) (by intro u hu;simp at hu;subst hu;rfl) (by unfold maxLen;omega) (by omega) (by simp;omega) (n+1) rfl _ rfl ?_;intro A4 c4 w4 hown4 hg4 hat4 hb4;obtain⟨g,u,rfl,hg1,hg2,hu,hcell,hfr⟩:= hown4.cell (k:=n) (by omega)))
    go_end0
    refine⟨rfl,za9 ((zba hgr _).trans hg4) ?_ _ _⟩
    have hs:=hgr.size
    rcases hat4 with h | h
    · left;rw[← h];rfl
    · right;simp at h;omega
end
end
section
def poly:Nat:=3988292384
def crcBit (r b:Nat):Nat:=if r % 2=b then r / 2 else (r / 2) ^^^ poly
def crcBits (r c:Nat):Nat→Nat
 | 0=>r
 | k+1=>crcBit (crcBits r c k) (c / 2 ^ k % 2)
def crcL (r:Nat) (l:List UInt8):Nat:=l.foldl (fun r c=>crcBits r c.toNat 8) r
def U32 (r:Nat):Prop:=r < 4294967296
def crcOn (s:Nat) (l:List UInt8):Nat:=4294967295 - crcL (4294967295 - s) l
theorem zc9:U32 poly:=by unfold U32 poly;omega
theorem U32.xor {a b:Nat} (ha:U32 a) (hb:U32 b):U32 (a ^^^ b):= Nat.xor_lt_two_pow (n:=32) ha hb
theorem U32.half {a:Nat} (ha:U32 a):U32 (a / 2):= by unfold U32 at *;omega
theorem zda {r:Nat} (h:U32 r) (b:Nat):U32 (crcBit r b):= by
 unfold crcBit
 split
 · exact h.half
 · exact h.half.xor zc9
theorem zdb {r:Nat} (h:U32 r) (c k:Nat):U32 (crcBits r c k):= by
 induction k with
 | zero=>exact h
 | succ k ih=>exact zda ih _
theorem zdc {r:Nat} (h:U32 r) (l:List UInt8):U32 (crcL r l):= by
 induction l generalizing r with
 | nil=>exact h
 | cons c l ih=>exact ih (zdb h _ _)
theorem zdd (r:Nat) (l:List UInt8) (c:UInt8):crcL r (l ++ [c])=crcBits (crcL r l) c.toNat 8:=by simp[crcL]
theorem zde (r:Nat) (l:List UInt8) (k:Nat) (h:k < l.length):crcL r (l.take (k+1))=crcBits (crcL r (l.take k)) (l[k]).toNat 8:=by
 rw[List.take_succ_eq_append_getElem h,zdd]
theorem zdf (s:Nat) (l:List UInt8):U32 (crcOn s l):= by unfold crcOn U32;omega
theorem U32.comp (s:Nat):U32 (4294967295 - s):= by unfold U32;omega
end
end Go.Proofs.YtehabbnohoomjaaGreatDoor
