/- None -/
import Derived.Test.YtkkpjbjmhaecjaaGreatT04
import Derived.Laws.CopyRow
import Derived.Laws.IdiomCopy
import Derived.Test.YtkkpjbjmhaecjaaGreatT03
import Derived.Maps.OwnSet
import Derived.Deep.Light
namespace Go.Proofs.YtkkpjbjmhaecjaaGreat
set_option linter.all false
set_option maxRecDepth 100000
set_option maxHeartbeats 4000000
section
section
open Go.RowKit
structure zd0 (F:Nat→Prop) (w w':World):Prop where
 os:w'.os=w.os
 tape:w'.tape=w.tape
 output:w'.output=w.output
 size:w.heap.size≤w'.heap.size
 block:∀k,k < w.heap.size→ ¬F k→w'.heap[k]? =w.heap[k]?
section
variable {F G:Nat→Prop} {a b c w w':World} {N:Nat}
theorem zd0.refl (F:Nat→Prop)(w:World):zd0 F w w:=⟨rfl,rfl,rfl,Nat.le_refl _,fun _ _ _=>rfl⟩
theorem zd0.of_below (h:Below w.heap.size w w'):zd0 F w w':=⟨h.os,h.tape,h.output,h.size,fun k hk _=>h.block k hk⟩
theorem zd0.of_grown {row:Option Nat}(h:w.grownBy w' row)(hr:∀g,row=some g→F g):zd0 F w w':=⟨h.os,h.tape,h.output,h.size,fun k hk hF=>h.block k hk (fun e=>hF (hr k e.symm))⟩
theorem zd0.of_set {p:Addr}(hp:F p.block)(u:Value):zd0 F w (w.setCell p u):=⟨rfl,rfl,rfl,by simp[World.setCell],fun k _ hF=>Below.heap_setCell _ _ _ _ (by rintro rfl;exact hF hp)⟩
theorem zd0.trans (h:zd0 F a b)(k:zd0 G b c)(hG:∀i,i < a.heap.size→G i→F i):zd0 F a c:=
 ⟨k.os.trans h.os,k.tape.trans h.tape,k.output.trans h.output,Nat.le_trans h.size k.size,fun i hi hF=>(k.block i (Nat.lt_of_lt_of_le hi h.size) (fun hg=>hF (hG i hi hg))).trans (h.block i hi hF)⟩
theorem zd0.step (h:zd0 F a b)(k:Below b.heap.size b c):zd0 F a c:=h.trans (G:=F) (zd0.of_below k) (fun _ _ h=>h)
theorem zd0.mono (h:zd0 F w w')(hG:∀i,i < w.heap.size→F i→G i):zd0 G w w':=⟨h.os,h.tape,h.output,h.size,fun k hk hF=>h.block k hk (fun hf=>hF (hG k hk hf))⟩
theorem zd0.below (h:zd0 F w w')(hN:N≤w.heap.size)(hF:∀i,F i→N≤i):Below N w w':=⟨h.os,h.tape,h.output,h.size,fun k hk=>h.block k (by omega) (fun hf=>by have:=hF k hf;omega)⟩
end
theorem zd1 {F:Nat→Prop}{w w1 w2:World}(ho:zd0 F w1 w2)(h:Below w.heap.size w w1)(hF:∀i,F i→w.heap.size≤i):Below w.heap.size w w2:=h.trans (ho.below h.size hF)
def FIn (F:Nat→Prop) (A:Option Addr):Prop:= ∀g,A=some (⟨g,0,none⟩:Addr)→ F g
theorem FIn.nil (F:Nat→Prop):FIn F none:=fun _ h=>by cases h
theorem FIn.mono {F G:Nat→Prop}{A:Option Addr}(h:FIn F A)(hG:∀g,F g→G g):FIn G A:=fun g hg=>hG g (h g hg)
theorem Own.fin {w:World}{B e size n c:Nat}{A:Option Addr}{xs:List Value}(h:Own w B e size A n c xs):FIn (fun g=>B≤g∧g < w.heap.size) A:=by
 intro g hg;rcases h.shape with ⟨h1,_⟩ | ⟨g',h1,h2,h3⟩
 · rw[h1] at hg;cases hg
 · rw[h1] at hg;injection hg with hg
   injection hg with hg
   subst hg;exact⟨h2,h3⟩
theorem zdv.keepF {w w':World}{B n c:Nat}{A:Option Addr}{l:List UInt8}{F:Nat→Prop}(h:zdv w B A n c l)(hF:FIn F A)(hk:∀g,F g→g < w.heap.size→w'.heap[g]? =w.heap[g]?):zdv w' B A n c l:=
 ⟨h.hn,h.own.keep fun g _ hlt hA=>hk g (hF g hA) hlt⟩
theorem zd2 {w:World}{B B' e e' s s' n n' c c':Nat}{A A':Option Addr}{xs xs':List Value}(h:Own w B e s A n c xs)(h':Own w B' e' s' A' n' c' xs')(hne:e≠e') :
 ∀g,A=some ⟨g,0,none⟩→ some g≠Value.ownBlock (.slice A' n' c'):=by
 intro g hA hg;subst hA;rcases h'.shape with ⟨rfl,_⟩ | ⟨g',rfl,_⟩
 · simp[Value.ownBlock] at hg
 · simp[Value.ownBlock] at hg;subst hg;rcases h.2 with ⟨hv,_⟩ | ⟨g1,cap,cur,hv,_,hg1,_⟩
   · injection hv with hv;cases hv
   · rcases h'.2 with ⟨hv',_⟩ | ⟨g2,cap',cur',hv',_,hg2,_⟩
     · injection hv' with hv';cases hv'
     · injection hv with hv;injection hv with hv;injection hv with hv
       injection hv' with hv';injection hv' with hv';injection hv' with hv'
       subst hv;subst hv';rw[hg1] at hg2;injection hg2 with hg2
       injection hg2 with _ ht
       exact hne ht
theorem zd3 {w:World}{B e' s' n' c':Nat}{A':Option Addr}{xs':List Value}{g:Nat}{t:TypeId}{cs:Array Value}(h:Blk w g t cs)(h':Own w B e' s' A' n' c' xs')(hne:t≠e'):some g≠Value.ownBlock (.slice A' n' c'):=by
 intro hg;rcases h'.shape with ⟨rfl,_⟩ | ⟨g',rfl,_⟩
 · simp[Value.ownBlock] at hg
 · simp[Value.ownBlock] at hg;subst hg;rcases h'.2 with ⟨hv',_⟩ | ⟨g2,cap',cur',hv',_,hg2,_⟩
   · injection hv' with hv';cases hv'
   · injection hv' with hv';injection hv' with hv';injection hv' with hv'
     subst hv';unfold Blk at h;rw[h] at hg2;injection hg2 with hg2
     injection hg2 with _ ht
     exact hne ht
section
variable {α:Type} {f: α→Option Addr×Nat→List Value} {k:Nat}
def cellsG (f: α→Option Addr×Nat→List Value):List α→List (Option Addr×Nat)→ List Value
 | v :: L,d :: ds=>f v d ++ cellsG f L ds
 | _,_=> []
theorem zd4 (hf:∀v d,(f v d).length=k):∀(L:List α) (ds:List (Option Addr×Nat)) (j i:Nat) (v: α) (d:Option Addr×Nat) (u:Value),L[j]? =some v→ds[j]? =some d→(f v d)[i]? =some u→(cellsG f L ds)[j * k+i]? =some u:=by
 intro L
 induction L with
 | nil=>intro ds j i v d u h;simp at h
 | cons x L ih=>
   intro ds j i v d u h1 h2 h3;cases ds with
   | nil=>simp at h2
   | cons y ds=>
     cases j with
     | zero=>
       simp at h1 h2;subst h1 h2;rw[cellsG,Nat.zero_mul,Nat.zero_add,List.getElem?_append_left (List.getElem?_eq_some_iff.1 h3).1];exact h3
     | succ j=>
       have:=ih ds j i v d u (by simpa using h1) (by simpa using h2) h3
       rw[cellsG,List.getElem?_append_right (by rw[hf,Nat.succ_mul];omega),hf,Nat.succ_mul,show j * k+k+i - k=j * k+i by omega];exact this
theorem zd5:∀(L:List α) (ds:List (Option Addr×Nat)) (v: α) (d:Option Addr×Nat),ds.length=L.length→cellsG f (L ++ [v]) (ds ++ [d])=cellsG f L ds ++ f v d:=by
 intro L
 induction L with
 | nil=>
   intro ds v d h;obtain rfl:ds= []:=List.eq_nil_of_length_eq_zero h;simp[cellsG]
 | cons u L ih=>
   intro ds v d h;cases ds with
   | nil=>simp at h
   | cons e ds=>simp only[List.cons_append,cellsG];rw[ih ds v d (by simpa using h),List.append_assoc]
theorem zd6 (hf:∀v d,(f v d).length=k):∀(L:List α) (ds:List (Option Addr×Nat)),ds.length=L.length→(cellsG f L ds).length=L.length * k:=by
 intro L
 induction L with
 | nil=>intro ds h;cases ds<;>simp[cellsG]
 | cons u L ih=>
   intro ds h;cases ds with
   | nil=>simp at h
   | cons e ds=>
     rw[cellsG,List.length_append,hf,ih ds (by simpa using h),List.length_cons,Nat.succ_mul];omega
theorem zd7 (hf:∀v d,(f v d).length=1):∀(L:List α) (ds:List (Option Addr×Nat)) (j:Nat) (v: α) (d:Option Addr×Nat) (u:Value),ds.length=L.length→f v d= [u]→ j < L.length→cellsG f (L.set j v) (ds.set j d)=(cellsG f L ds).set j u:=by
 intro L
 induction L with
 | nil=>intro ds j v d u _ _ h;simp at h
 | cons x L ih=>
   intro ds j v d u hl hu hj;cases ds with
   | nil=>simp at hl
   | cons y ds=>
     obtain⟨z,hz⟩:∃z,f x y= [z]:=List.length_eq_one_iff.1 (hf x y);cases j with
     | zero=>simp[cellsG,hz,hu]
     | succ j=>
       simp only[List.set_cons_succ,cellsG,hz,List.singleton_append];rw[ih ds j v d u (by simpa using hl) hu (by simpa using hj)]
end
structure zd8 {α:Type} (f: α→Option Addr×Nat→List Value) (k:Nat) (e:TypeId) (dat: α→List UInt8) (w:World) (F:Nat→Prop) (A:Option Addr) (n c:Nat) (L:List α) (ds:List (Option Addr×Nat)):Prop where
 hn:n=L.length
 hd:ds.length=L.length
 own:Own w 0 e k A n c (cellsG f L ds)
 inF:FIn F A
 data:∀(j:Nat) (v: α) (d:Option Addr×Nat),L[j]? =some v→ds[j]? =some d→zdv w 0 d.1 (dat v).length d.2 (dat v)∧ FIn F d.1
section
variable {α:Type} {f: α→Option Addr×Nat→List Value} {k:Nat} {e:TypeId} {dat: α→List UInt8} {w w':World} {F G:Nat→Prop} {n c:Nat} {A:Option Addr} {L:List α} {ds:List (Option Addr×Nat)}
theorem zd8.nil (w:World)(F:Nat→Prop):zd8 f k e dat w F none 0 0 [] []:=⟨rfl,rfl,Own.nil _ _ _ _,FIn.nil _,by intro j v d h;simp at h⟩
theorem zd8.keep (h:zd8 f k e dat w F A n c L ds)(hk:∀g,F g→g < w.heap.size→w'.heap[g]? =w.heap[g]?):zd8 f k e dat w' F A n c L ds:=
 ⟨h.hn,h.hd,h.own.keep (fun g _ hlt hA=>hk g (h.inF g hA) hlt),h.inF,fun j v d h1 h2=>⟨(h.data j v d h1 h2).1.keepF (h.data j v d h1 h2).2 hk,(h.data j v d h1 h2).2⟩⟩
theorem zd8.below (h:zd8 f k e dat w F A n c L ds)(hb:Below w.heap.size w w'):zd8 f k e dat w' F A n c L ds:=h.keep fun g _ hlt=>hb.block g hlt
theorem zd8.mono (h:zd8 f k e dat w F A n c L ds)(hG:∀g,g < w.heap.size→F g→G g):zd8 f k e dat w G A n c L ds:=
 ⟨h.hn,h.hd,h.own,fun g hg=>hG g (h.own.fin g hg).2 (h.inF g hg),fun j v d h1 h2=>⟨(h.data j v d h1 h2).1,fun g hg=>hG g ((h.data j v d h1 h2).1.own.fin g hg).2 ((h.data j v d h1 h2).2 g hg)⟩⟩
theorem zd8.elem (h:zd8 f k e dat w F A n c L ds){j:Nat}{v: α}(hv:L[j]? =some v):∃d,ds[j]? =some d∧zdv w 0 d.1 (dat v).length d.2 (dat v)∧ FIn F d.1:=by
 have hj:=(List.getElem?_eq_some_iff.1 hv).1;have hj':j < ds.length:=by rw[h.hd];exact hj
 exact⟨ds[j],List.getElem?_eq_getElem hj',h.data j v _ hv (List.getElem?_eq_getElem hj')⟩
theorem zd8.cells (hf:∀v d,(f v d).length=k)(h:zd8 f k e dat w F A n c L ds){j:Nat}{v: α}{d:Option Addr×Nat}(hv:L[j]? =some v)(hd:ds[j]? =some d)(hk:0 < k) :
 ∃g,A=some ⟨g,0,none⟩∧ g < w.heap.size∧ ∀i u,(f v d)[i]? =some u→w.cell? ⟨g,j * k+i,none⟩=some u:=by
 have hj:=(List.getElem?_eq_some_iff.1 hv).1;obtain⟨g,rfl,_,hlt⟩:=h.own.at_ (by rw[h.hn];omega);refine⟨g,rfl,hlt,?_⟩;intro i u hu;obtain⟨b,off,hA,hc⟩:=h.own.sl.at_ (zd4 hf L ds j i v d u hv hd hu);injection hA with hA
 injection hA with h1 h2
 subst h1;subst h2;rw[Nat.zero_add] at hc;exact hc
theorem zd8.snoc (h:zd8 f k e dat w F A n c L ds)(hne:5≠e){A':Option Addr}{c':Nat}{v: α}{d:Option Addr×Nat}(h1:Own w' 0 e k A' (n+1) c' (cellsG f L ds ++ f v d))(h2:w.grownBy w' (Value.ownBlock (.slice A n c)))
 (h3:A'=A∨A'=some ⟨w.heap.size,0,none⟩) (hF:∀g,w.heap.size≤g→F g) (hv:zdv w 0 d.1 (dat v).length d.2 (dat v)) (hvF:FIn F d.1):zd8 f k e dat w' F A' (n+1) c' (L ++ [v]) (ds ++ [d]):=by
 have keep:∀ {m:Nat} {dd:Option Addr×Nat} {l:List UInt8},zdv w 0 dd.1 m dd.2 l→zdv w' 0 dd.1 m dd.2 l:=fun hO=>⟨hO.hn,hO.own.grown h2 (zd2 hO.own h.own hne)⟩
 refine⟨by rw[h.hn];simp,by simp[h.hd],by rw[zd5 L ds v d h.hd];exact h1,?_,?_⟩
 · intro g hg;rcases h3 with h3 | h3
   · exact h.inF g (h3.symm.trans hg)
   · rw[h3] at hg;injection hg with hg
     injection hg with hg
     subst hg;exact hF _ (Nat.le_refl _)
 · intro j u d' hu hd';rcases Nat.lt_or_ge j L.length with hj | hj
   · rw[List.getElem?_append_left hj] at hu;rw[List.getElem?_append_left (by rw[h.hd];exact hj)] at hd';exact⟨keep (h.data j u d' hu hd').1,(h.data j u d' hu hd').2⟩
   · have hj':j=L.length:=by
      have:=(List.getElem?_eq_some_iff.1 hu).1
      simp at this;omega
     subst hj';rw[List.getElem?_append_right (Nat.le_refl _)] at hu;rw[List.getElem?_append_right (by rw[h.hd];exact Nat.le_refl _)] at hd';simp at hu;simp[h.hd] at hd';subst hu;subst hd';exact⟨keep hv,hvF⟩
theorem zd8.store (hf:∀v d,(f v d).length=1){g:Nat}(h:zd8 f 1 e dat w F (some ⟨g,0,none⟩) n c L ds)(hne:5≠e){j:Nat}{v: α}{d:Option Addr×Nat}{u:Value}(hu:f v d= [u])(hj:j < n)(hv:zdv w 0 d.1 (dat v).length d.2 (dat v))(hvF:FIn F d.1) :
 zd8 f 1 e dat (w.setCell ⟨g,j,none⟩ u) F (some ⟨g,0,none⟩) n c (L.set j v) (ds.set j d):=by
 have hG:w.grownBy (w.setCell ⟨g,j,none⟩ u) (Value.ownBlock (.slice (some ⟨g,0,none⟩) n c)):=zc3 (World.grownBy.refl _ _) (.inl rfl) j u;have keep:∀ {m:Nat} {dd:Option Addr×Nat} {l:List UInt8},zdv w 0 dd.1 m dd.2 l→zdv (w.setCell ⟨g,j,none⟩ u) 0 dd.1 m dd.2 l:=fun hO=>⟨hO.hn,hO.own.grown hG (zd2 hO.own h.own hne)⟩
 refine⟨by rw[List.length_set];exact h.hn,by simp[h.hd],?_,h.inF,?_⟩
 · rw[zd7 hf L ds j v d u h.hd hu (by rw[←h.hn];exact hj)];exact h.own.stored j u
 · intro i x d' hx hd';rcases Nat.decEq i j with hij | hij
   · rw[List.getElem?_set_ne (fun e=>hij e.symm)] at hx hd';exact⟨keep (h.data i x d' hx hd').1,(h.data i x d' hx hd').2⟩
   · subst hij;have hl:i < L.length:=by rw[←h.hn];exact hj
     rw[List.getElem?_set_self hl] at hx;rw[List.getElem?_set_self (by rw[h.hd];exact hl)] at hd';injection hx with hx
     injection hd' with hd'
     subst hx;subst hd';exact⟨keep hv,hvF⟩
end
theorem zd9 {α:Type}{f: α→Option Addr×Nat→List Value}{k:Nat}{e:TypeId}{dat: α→List UInt8}{F:Nat→Prop}{ops:Array Oper}{rest:List Oper}{o:Oper}{a:Act}{Q:Exit→Act→World→Prop}(w:World)(hgd:o.guard=none)(s x:Operand)(ty:TypeId)
 (ho:o.op= .call { callee:= .builtin .append,args:=#[s,x],argTypes:=#[ty,ty] })
 (hf:∀v d,(f v d).length=k) (hone:∀v d,∀u ∈ f v d,u.oneCell'=true) (hne:5≠e) (i:TypeInfo) (z:Value) (bytes:Nat) (hu:Tryz.prog.underlying ty=some (.slice e)) (hi:Tryz.prog.info? e=some i) (hz:i.zero=some z) (hk:i.size=k) (hby:i.bytes=bytes) (hzs:z.cells.size=k) (hk0:0 < k) (hb4:bytes≤4096)
 (A:Option Addr) (n c:Nat) (L:List α) (ds:List (Option Addr×Nat)) (hs:a.eval s= .slice A n c) (hown:zd8 f k e dat w F A n c L ds)
 (v: α) (d:Option Addr×Nat) (A2:Option Addr) (hx:a.eval x= .slice A2 1 1)
 (hr:Sl w A2 (f v d)) (hv:zdv w 0 d.1 (dat v).length d.2 (dat v)) (hvF:FIn F d.1) (hF:∀g,w.heap.size≤g→F g)
 (hb:n≤34359738) (N:Nat) (hN:n+1=N)
 (h:∀A' c' w',zd8 f k e dat w' F A' N c' (L ++ [v]) (ds ++ [d])→ w.grownBy w' (Value.ownBlock (.slice A n c))→ (A'=A∨A'=some ⟨w.heap.size,0,none⟩)→ wpList Tryz.prog ops Q rest (a.put o.dst (.slice A' N c')) w'):wpList Tryz.prog ops Q (o :: rest) a w:=by
 subst hN;refine zcy w hgd s x _ ho 0 e i _ k bytes hu hi hz hk hby hzs hk0 A n c _ hs hown.own A2 1 1 _ hx (by rw[hf];omega) hr (hone v d) (by unfold maxLen;omega) ?_ (Nat.zero_le _) (n+1) rfl _ rfl ?_
 · calc (n+1) * bytes≤(n+1) * 4096:=Nat.mul_le_mul_left _ hb4
    _≤_:=by omega
 · intro A' c' w' h1 h2 h3 _;exact h A' c' w' (hown.snoc hne h1 h2 h3 hF hv hvF) h2 h3
end
section
open Go.RowKit
theorem zea {g:Nat}{t:TypeId}:∀(vs:List Value) (o:Nat) {w:World} {l:List Value},Blk w g t l.toArray→o+vs.length≤l.length→Blk (w.setCells g o vs) g t (l.take o ++ vs ++ l.drop (o+vs.length)).toArray
 | [],o,w,l,h,_=>by simpa [World.setCells] using h
 | v :: vs,o,w,l,h,hl=>by
   have h1:=h.set_ o v;simp only[List.setIfInBounds_toArray] at h1;have h2:=zea vs (o+1) h1 (by simp at hl ⊢;omega);rw[list_seg_step l o v vs (by simp at hl;omega)] at h2;rw[World.setCells]
   simpa [Nat.add_assoc,Nat.add_comm 1] using h2
theorem zeb {F:Nat→Prop}{w:World}{g:Nat}(hg:F g):∀(vs:List Value) (o:Nat) {W:World},zd0 F w W→zd0 F w (W.setCells g o vs)
 | [],_,_,h=>h
 | v :: vs,o,W,h=>by
   rw[World.setCells];exact zeb hg vs (o+1) (h.trans (zd0.of_set (F:=F) (p:=⟨g,o,none⟩) hg v) (fun _ _ h=>h))
theorem zec {g:Nat}:∀(vs:List Value) (o:Nat) (W:World),(W.setCells g o vs).heap.size=W.heap.size
 | [],_,_=>rfl
 | v :: vs,o,W=>by rw[World.setCells,zec vs];simp[World.setCell]
theorem zed {P:World→Prop}{c:Code}{Q:Exit→Act→World→Prop}{a:Act}{w:World}(h:P w)(k:∀W,P W→Code.wp Tryz.prog c Q a W):Code.wp Tryz.prog c Q a w:=k w h
theorem zd0.set (F:Nat→Prop){w W:World}(h:zd0 F w W){p i:Nat}(hp:F p)(u:Value):zd0 F w (W.setCell ⟨p,i,none⟩ u):=h.trans (zd0.of_set (F:=F) hp u) (fun _ _ h=>h)
theorem zd0.new {F:Nat→Prop}{w W:World}(h:zd0 F w W)(o:Obj):zd0 F w (W.alloc o):=h.step (zc5 (Below.refl _ _) o)
theorem zd0.drew {F:Nat→Prop}{w W:World}(h:zd0 F w W):zd0 F w W.drew:=⟨h.os,h.tape,h.output,h.size,h.block⟩
theorem zd0.setNew {F:Nat→Prop}{w W:World}(h:zd0 F w W){g i:Nat}(hg:w.heap.size≤g)(u:Value):zd0 F w (W.setCell ⟨g,i,none⟩ u):=h.trans (zd0.of_set (F:=fun k=>k=g) rfl u) (fun i hi (e:i=g)=> by omega)
end
section
open Go.RowKit
structure KB where
 g:Nat
 t:TypeId
 l:List Value
section
variable {w W W':World} {p q i:Nat} {t:TypeId} {cs:List Value} {ks:List KB} {x:KB} {v:Value}
end
end
end
section
open Go.RowKit Go.Maps
theorem kInt:Keyed Tryz.prog 3:=int_keyed Tryz.underlying3
theorem zee (w:World):(zeroValue 3).run Tryz.prog w= .ok (.int .i64 0) w:=by kernel_rfl
def wmD (k:Int):DataW Unit:=if k=0 then .map [] else .map [(.int .i64 k,.lit (.int .i64 1))]
def WM (w:World) (m:Nat) (k:Int):Prop:=w.ownsMap Tryz.prog 3 (plainElem Tryz.prog 3) m 1 (wmD k)
theorem wf64 (k:Int)(h:0≤k∧k≤100):(Lit.int .i64 k).wf=true:=WalkArith.wf_i64 (by omega)
theorem zef {w:World}{m n:Nat}{D:DataW Unit}(h:w.ownsMap Tryz.prog 3 (plainElem Tryz.prog 3) m n D):w.ownsMap Tryz.prog 3 (plainElem Tryz.prog 3) m (Maps.size D) D:=by
 obtain⟨es,clock,hb,F,hs,rfl⟩:=h;exact⟨es,clock,hb,F,by simp[Maps.size,length_sorted],rfl⟩
theorem WM.lt {w:World}{m:Nat}{k:Int}(h:WM w m k):m < w.heap.size:=World.ownsMap.lt h
theorem WM.keep {w w':World}{m:Nat}{k:Int}(h:WM w m k)(hk:w'.heap[m]? =w.heap[m]?):WM w' m k:=by
 obtain⟨es,clock,hb,r⟩:=h;exact⟨es,clock,hk.trans hb,r⟩
theorem WM.blk_ne {w:World}{m g:Nat}{k:Int}{t:TypeId}{cs:Array Value}(h:WM w m k)(hB:Blk w g t cs):g≠m:=by
 rintro rfl;obtain⟨es,clock,hb,_⟩:=h;unfold Blk at hB;rw[hb] at hB;cases hB
theorem WM.row_ne {w:World}{m B e s n c:Nat}{k:Int}{A:Option Addr}{xs:List Value}(h:WM w m k)(hO:Own w B e s A n c xs):∀g,A=some ⟨g,0,none⟩→ g≠m:=by
 rintro g rfl rfl;obtain⟨es,clock,hb,_⟩:=h;rcases hO.2 with ⟨hv,_⟩ | ⟨g2,cap,cur,hv,_,hg,_⟩
 · injection hv with hv;cases hv
 · injection hv with hv;injection hv with hv;injection hv with hv
   subst hv;rw[hb] at hg;cases hg
theorem zeg (w:World):WM (w.alloc (.map #[] 0)) w.heap.size 0:=(World.ownsMap_made w Tryz.prog 3 (plainElem Tryz.prog 3)).mono (Nat.zero_le _)
theorem WM.look {w:World}{m:Nat}{k:Int}(h:WM w m k)(j:Int)(hj:0≤j∧j≤100)(hk:0≤k∧k≤100):(Instr.lookup 156 (.map (some m)) (.int .i64 j) false).run Tryz.prog w= .ok (.int .i64 (if k≠0∧k=j then 1 else 0)) w:=by
 obtain⟨c,hrun,hat,_⟩:=World.ownsMap.lookup_int h kInt Tryz.underlying156 Tryz.underlying3 (zee w) (keyOf_int_mk Tryz.underlying3 (wf64 j hj));rw[hrun]
 congr 2
 unfold wmD at hat;split at hat
 · rename_i h0;rw[if_neg (by simp[h0])];injection hat with hat
   injection hat with _ hat
   exact hat.symm
 · rename_i h0;by_cases e:k=j
   · subst e;rw[if_pos ⟨h0,rfl⟩];simp[DataW.atKey,Lit.sameKey] at hat;exact hat.symm
   · rw[if_neg (fun hh=>e hh.2)];simp[DataW.atKey,Lit.sameKey,e] at hat;exact hat.symm
theorem WM.len {w:World}{m:Nat}{k:Int}(h:WM w m k)(ty:TypeId):(Builtin.len_ #[156] ty #[.map (some m)]).run Tryz.prog w= .ok (.int .i64 (if k=0 then 0 else 1)) w:=by
 rw[World.ownsMap.len h Tryz.underlying156 ty];unfold wmD;split<;>rfl
def dropD (k:Int) (j:Nat):DataW Unit:=if k < j then .map [] else wmD k
theorem zeh (k:Int)(j:Nat)(hk:0≤k):(dropD k j).del (.int .i64 (j:Nat))=dropD k (j+1):=by
 unfold dropD wmD;by_cases h1:k < (j:Int)
 · rw[if_pos h1,if_pos (by omega)];rfl
 · rw[if_neg h1];by_cases h0:k=0
   · rw[if_pos h0];split<;>rfl
   · rw[if_neg h0,DataW.del_eq];by_cases e:k=(j:Int)
     · rw[if_pos (by omega)];simp[ChangeMaps.delKey,ChangeMaps.notKey,Lit.sameKey,e]
     · rw[if_neg (by omega)];simp[ChangeMaps.delKey,ChangeMaps.notKey,Lit.sameKey,e]
end
end Go.Proofs.YtkkpjbjmhaecjaaGreat
