/- None -/
import Derived.Test.YtkkpjbjmhaecjaaGreatProg
import Derived.Test.YtkkpjbjmhaecjaaGreatU02
import Derived.Laws.CopyRow
import Derived.Laws.IdiomCopy
namespace Go.Proofs.YtkkpjbjmhaecjaaGreat
set_option linter.all false
set_option maxRecDepth 20000
set_option maxHeartbeats 1000000
section
open Go.RowKit
def TrueB (w:World) (e:Ending) (w':World):Prop:=e= .returned (.bool true)∧ Below w.heap.size w w'
theorem zbq:(Tryz.prog.info? 5).map (fun i=>(i.zero,i.size,i.bytes))=some (some (.int .u8 0),1,1):=by kernel_rfl
theorem zbr:(Tryz.prog.info? 5).map (·.size)=some 1:=by kernel_rfl
structure zbs (w:World) (B:Nat) (A:Option Addr) (n c:Nat) (l:List UInt8):Prop where
 hn:n=l.length
 own:Own w B 5 1 A n c (l.map bv)
section
variable {w w':World} {B n c:Nat} {A:Option Addr} {l:List UInt8}
theorem zbs.nil (w:World)(B:Nat):zbs w B none 0 0 []:=⟨rfl,Own.nil _ _ _ _⟩
theorem zbs.sl (h:zbs w B A n c l):Sl w A (l.map bv):=h.own.sl
theorem zbs.below (h:zbs w B A n c l)(hb:Below w.heap.size w w'):zbs w' B A n c l:=⟨h.hn,h.own.below hb⟩
theorem zbs.alloc (h:zbs w B A n c l)(o:Obj):zbs (w.alloc o) B A n c l:=⟨h.hn,h.own.alloc o⟩
theorem zbs.drew (h:zbs w B A n c l):zbs w.drew B A n c l:=⟨h.hn,h.own.drew⟩
theorem zbs.mono {B':Nat}(h:zbs w B A n c l)(hB:B'≤B):zbs w B' A n c l:=⟨h.hn,h.own.mono hB⟩
theorem zbs.set_ (h:zbs w B A n c l){p:Addr}(hp:p.block < B)(u:Value):zbs (w.setCell p u) B A n c l:=⟨h.hn,h.own.set_ hp u⟩
theorem zbs.le (h:zbs w B A n c l):n≤c:=h.own.le
end
section
variable {ops:Array Oper} {rest:List Oper} {o:Oper} {a:Act} {Q:Exit→Act→World→Prop}
theorem zbt (w:World)(hgd:o.guard=none)(s x:Operand)(ho:o.op= .call { callee:= .builtin .append,args:=#[s,x],argTypes:=#[27,27] })
 (B:Nat) (A:Option Addr) (n c:Nat) (l:List UInt8) (hs:a.eval s= .slice A n c) (hown:zbs w B A n c l)
 (A2:Option Addr) (m c2:Nat) (l2:List UInt8) (hx:a.eval x= .slice A2 m c2) (hm:m=l2.length) (hr:Sl w A2 (l2.map bv)) (hb:n+m≤140737488355328) (hB:B≤w.heap.size)
 (N:Nat) (hN:n+m=N)
 (h:∀A' c' w',zbs w' B A' N c' (l ++ l2)→ w.grownBy w' (Value.ownBlock (.slice A n c))→ (A'=A∨A'=some ⟨w.heap.size,0,none⟩)→ Below B w w'→
   wpList Tryz.prog ops Q rest (a.put o.dst (.slice A' N c')) w'):wpList Tryz.prog ops Q (o :: rest) a w:=by
 obtain⟨i0,hi0,hz0,hz1,hz2⟩:=info_parts zbq;refine zay w hgd s x _ ho B 5 i0 _ 1 1 Tryz.underlying27 hi0 hz0 hz1 hz2 rfl (by omega) A n c _ hs hown.own A2 m c2 (l2.map bv) hx (by simp[hm]) hr (za1 _) (by unfold maxLen;omega) (by omega) hB N hN ((l ++ l2).map bv) (by simp) ?_;intro A' c' w' h1 h2 h3 h4;exact h A' c' w' ⟨by rw[←hN,hown.hn,hm];simp,h1⟩ h2 h3 h4
theorem mk_b (w:World)(hgd:o.guard=none)(l cc:Operand)(ho:o.op=Op.makeSlice 27 l cc)
 (kl kc:IntKind) (L C:Int) (n c:Nat) (hl:a.eval l= .int kl L) (hc:a.eval cc= .int kc C) (hL:L=(n:Int)) (hC:C=(c:Int)) (hnc:n≤c)
 (hb:c≤281474976710656) (H:Nat) (hH:w.heap.size=H)
 (h:∀w',zbs w' H (some ⟨H,0,none⟩) n c (List.replicate n 0)→ H < w'.heap.size→Below H w w'→
   wpList Tryz.prog ops Q rest (a.put o.dst (.slice (some ⟨H,0,none⟩) n c)) w'):wpList Tryz.prog ops Q (o :: rest) a w:=by
 subst hH;obtain⟨i0,hi0,hz0,hz1,hz2⟩:=info_parts zbq;refine zaz w hgd l cc _ ho 5 i0 _ 1 Tryz.underlying27 hi0 hz0 hz1 hz2 rfl kl kc L C n c hl hc hL hC hnc (by omega) (by unfold maxLen;omega) w.heap.size (Nat.le_refl _) ?_;intro w' h1 h2 h3;have hlt:w.heap.size < w'.heap.size:=by
  rcases h1.2 with ⟨hv,_⟩ | ⟨g,cap,cur,hv,_,hg,_⟩
  · injection hv with hv;cases hv
  · injection hv with hv
    injection hv with hv
    injection hv with hv
    rw[hv];exact (Array.getElem?_eq_some_iff.1 hg).1
 exact h w' ⟨by simp,by simpa [bv] using h1⟩ hlt h3
theorem cpy_b (w:World)(hgd:o.guard=none)(d s:Operand)
 (ho:o.op= .call { callee:= .builtin .copy,args:=#[d,s],argTypes:=#[27,27] })
 (B:Nat) (A:Option Addr) (n c:Nat) {l:List UInt8} (hd:a.eval d= .slice A n c) (hown:zbs w B A n c l)
 (A2:Option Addr) (m c2:Nat) (l2:List UInt8) (hs:a.eval s= .slice A2 m c2) (hm:m=l2.length) (hr:Sl w A2 (l2.map bv)) (hB:B≤w.heap.size)
 (l3:List UInt8) (hl3:l2.take n ++ l.drop m=l3)
 (h:∀w',zbs w' B A n c l3→w.grownBy w' (Value.ownBlock (.slice A n c))→ Below B w w'→wpList Tryz.prog ops Q rest (a.put o.dst (goInt (Nat.min m n))) w'):wpList Tryz.prog ops Q (o :: rest) a w:=by
 refine za0 w hgd d s _ _ ho 5 Tryz.underlying27 zbr B _ A n c _ hd hown.own A2 m c2 _ hs (by simp[hm]) hr (za1 _) hB ?_;intro w' h1 h2 h3;refine h w' ⟨?_,?_⟩ h2 h3
 · have:=hown.hn
   rw[←hl3]
   simp
   omega
 · rw[←hl3]
   simpa using h1
end
theorem zbu {w:World}{A:Option Addr}{n:Nat}(c:Nat){l:List UInt8}(hn:n=l.length)(h:Sl w A (l.map bv)) :
 (convert 27 9 (.slice A n c)).run Tryz.prog w= .ok (.string ⟨l.toArray⟩) w:=
 za2 Tryz.underlying27 Tryz.underlying5 Tryz.underlying9 c hn h
theorem cut_b (A:Option Addr)(n c k:Nat)(kk:Int)(kd:IntKind)(hk:kk=(k:Int))(hn:k≤n)(hc:n≤c)(w:World) :
 (Instr.slice 27 (.slice A n c) (some (.int kd kk)) none none).run Tryz.prog w= .ok (.slice (cutA A c k 1) (n - k) (c - k)) w:=by
 obtain⟨i0,hi0,hz0,hz1,hz2⟩:=info_parts zbq;exact zbl Tryz.underlying27 hi0 hz1 A n c k kk kd hk hn hc w
end
section
section
open Go.RowKit
structure zbv (F:Nat→Prop) (w w':World):Prop where
 os:w'.os=w.os
 tape:w'.tape=w.tape
 output:w'.output=w.output
 size:w.heap.size≤w'.heap.size
 block:∀k,k < w.heap.size→ ¬F k→w'.heap[k]? =w.heap[k]?
section
variable {F G:Nat→Prop} {a b c w w':World} {N:Nat}
theorem zbv.refl (F:Nat→Prop)(w:World):zbv F w w:=⟨rfl,rfl,rfl,Nat.le_refl _,fun _ _ _=>rfl⟩
theorem zbv.of_below (h:Below w.heap.size w w'):zbv F w w':=⟨h.os,h.tape,h.output,h.size,fun k hk _=>h.block k hk⟩
theorem zbv.of_grown {row:Option Nat}(h:w.grownBy w' row)(hr:∀g,row=some g→F g):zbv F w w':=⟨h.os,h.tape,h.output,h.size,fun k hk hF=>h.block k hk (fun e=>hF (hr k e.symm))⟩
theorem zbv.of_set {p:Addr}(hp:F p.block)(u:Value):zbv F w (w.setCell p u):=⟨rfl,rfl,rfl,by simp[World.setCell],fun k _ hF=>Below.heap_setCell _ _ _ _ (by rintro rfl;exact hF hp)⟩
theorem zbv.trans (h:zbv F a b)(k:zbv G b c)(hG:∀i,i < a.heap.size→G i→F i):zbv F a c:=
 ⟨k.os.trans h.os,k.tape.trans h.tape,k.output.trans h.output,Nat.le_trans h.size k.size,fun i hi hF=>(k.block i (Nat.lt_of_lt_of_le hi h.size) (fun hg=>hF (hG i hi hg))).trans (h.block i hi hF)⟩
theorem zbv.step (h:zbv F a b)(k:Below b.heap.size b c):zbv F a c:=h.trans (G:=F) (zbv.of_below k) (fun _ _ h=>h)
theorem zbv.after (h:Below a.heap.size a b)(k:zbv F b c):zbv F a c:=(zbv.of_below (F:=F) h).trans k (fun _ _ h=>h)
theorem zbv.mono (h:zbv F w w')(hG:∀i,i < w.heap.size→F i→G i):zbv G w w':=⟨h.os,h.tape,h.output,h.size,fun k hk hF=>h.block k hk (fun hf=>hF (hG k hk hf))⟩
theorem zbv.below (h:zbv F w w')(hN:N≤w.heap.size)(hF:∀i,F i→N≤i):Below N w w':=⟨h.os,h.tape,h.output,h.size,fun k hk=>h.block k (by omega) (fun hf=>by have:=hF k hf;omega)⟩
end
theorem zbw {F:Nat→Prop}{w w1 w2:World}(ho:zbv F w1 w2)(h:Below w.heap.size w w1)(hF:∀i,F i→w.heap.size≤i):Below w.heap.size w w2:=h.trans (ho.below h.size hF)
def FIn (F:Nat→Prop) (A:Option Addr):Prop:= ∀g,A=some (⟨g,0,none⟩:Addr)→ F g
theorem FIn.nil (F:Nat→Prop):FIn F none:=fun _ h=>by cases h
theorem FIn.mono {F G:Nat→Prop}{A:Option Addr}(h:FIn F A)(hG:∀g,F g→G g):FIn G A:=fun g hg=>hG g (h g hg)
theorem Own.fin {w:World}{B e size n c:Nat}{A:Option Addr}{xs:List Value}(h:Own w B e size A n c xs):FIn (fun g=>B≤g∧g < w.heap.size) A:=by
 intro g hg;rcases h.shape with ⟨h1,_⟩ | ⟨g',h1,h2,h3⟩
 · rw[h1] at hg;cases hg
 · rw[h1] at hg;injection hg with hg
   injection hg with hg
   subst hg;exact⟨h2,h3⟩
theorem zbs.keepF {w w':World}{B n c:Nat}{A:Option Addr}{l:List UInt8}{F:Nat→Prop}(h:zbs w B A n c l)(hF:FIn F A)(hk:∀g,F g→g < w.heap.size→w'.heap[g]? =w.heap[g]?):zbs w' B A n c l:=
 ⟨h.hn,h.own.keep fun g _ hlt hA=>hk g (hF g hA) hlt⟩
theorem zbx {w:World}{B B' e e' s s' n n' c c':Nat}{A A':Option Addr}{xs xs':List Value}(h:Own w B e s A n c xs)(h':Own w B' e' s' A' n' c' xs')(hne:e≠e') :
 ∀g,A=some ⟨g,0,none⟩→ some g≠Value.ownBlock (.slice A' n' c'):=by
 intro g hA hg;subst hA;rcases h'.shape with ⟨rfl,_⟩ | ⟨g',rfl,_⟩
 · simp[Value.ownBlock] at hg
 · simp[Value.ownBlock] at hg;subst hg;rcases h.2 with ⟨hv,_⟩ | ⟨g1,cap,cur,hv,_,hg1,_⟩
   · injection hv with hv;cases hv
   · rcases h'.2 with ⟨hv',_⟩ | ⟨g2,cap',cur',hv',_,hg2,_⟩
     · injection hv' with hv';cases hv'
     · injection hv with hv;injection hv with hv;injection hv with hv
       injection hv' with hv';injection hv' with hv';injection hv' with hv'
       subst hv;subst hv';rw[hg1] at hg2;injection hg2 with hg2
       injection hg2 with _ ht
       exact hne ht
theorem zby {w:World}{B e' s' n' c':Nat}{A':Option Addr}{xs':List Value}{g:Nat}{t:TypeId}{cs:Array Value}(h:Blk w g t cs)(h':Own w B e' s' A' n' c' xs')(hne:t≠e'):some g≠Value.ownBlock (.slice A' n' c'):=by
 intro hg;rcases h'.shape with ⟨rfl,_⟩ | ⟨g',rfl,_⟩
 · simp[Value.ownBlock] at hg
 · simp[Value.ownBlock] at hg;subst hg;rcases h'.2 with ⟨hv',_⟩ | ⟨g2,cap',cur',hv',_,hg2,_⟩
   · injection hv' with hv';cases hv'
   · injection hv' with hv';injection hv' with hv';injection hv' with hv'
     subst hv';unfold Blk at h;rw[h] at hg2;injection hg2 with hg2
     injection hg2 with _ ht
     exact hne ht
section
variable {α:Type} {f: α→Option Addr×Nat→List Value} {k:Nat}
def cellsG (f: α→Option Addr×Nat→List Value):List α→List (Option Addr×Nat)→ List Value
 | v :: L,d :: ds=>f v d ++ cellsG f L ds
 | _,_=> []
theorem zbz (hf:∀v d,(f v d).length=k):∀(L:List α) (ds:List (Option Addr×Nat)) (j i:Nat) (v: α) (d:Option Addr×Nat) (u:Value),L[j]? =some v→ds[j]? =some d→(f v d)[i]? =some u→(cellsG f L ds)[j * k+i]? =some u:=by
 intro L
 induction L with
 | nil=>intro ds j i v d u h;simp at h
 | cons x L ih=>
   intro ds j i v d u h1 h2 h3;cases ds with
   | nil=>simp at h2
   | cons y ds=>
     cases j with
     | zero=>
       simp at h1 h2;subst h1 h2;rw[cellsG,Nat.zero_mul,Nat.zero_add,List.getElem?_append_left (List.getElem?_eq_some_iff.1 h3).1];exact h3
     | succ j=>
       have:=ih ds j i v d u (by simpa using h1) (by simpa using h2) h3
       rw[cellsG,List.getElem?_append_right (by rw[hf,Nat.succ_mul];omega),hf,Nat.succ_mul,show j * k+k+i - k=j * k+i by omega];exact this
theorem zb0:∀(L:List α) (ds:List (Option Addr×Nat)) (v: α) (d:Option Addr×Nat),ds.length=L.length→cellsG f (L ++ [v]) (ds ++ [d])=cellsG f L ds ++ f v d:=by
 intro L
 induction L with
 | nil=>
   intro ds v d h;obtain rfl:ds= []:=List.eq_nil_of_length_eq_zero h;simp[cellsG]
 | cons u L ih=>
   intro ds v d h;cases ds with
   | nil=>simp at h
   | cons e ds=>simp only[List.cons_append,cellsG];rw[ih ds v d (by simpa using h),List.append_assoc]
theorem zb1 (hf:∀v d,(f v d).length=1):∀(L:List α) (ds:List (Option Addr×Nat)) (j:Nat) (v: α) (d:Option Addr×Nat) (u:Value),ds.length=L.length→f v d= [u]→ j < L.length→cellsG f (L.set j v) (ds.set j d)=(cellsG f L ds).set j u:=by
 intro L
 induction L with
 | nil=>intro ds j v d u _ _ h;simp at h
 | cons x L ih=>
   intro ds j v d u hl hu hj;cases ds with
   | nil=>simp at hl
   | cons y ds=>
     obtain⟨z,hz⟩:∃z,f x y= [z]:=List.length_eq_one_iff.1 (hf x y);cases j with
     | zero=>simp[cellsG,hz,hu]
     | succ j=>
       simp only[List.set_cons_succ,cellsG,hz,List.singleton_append];rw[ih ds j v d u (by simpa using hl) hu (by simpa using hj)]
end
structure zb2 {α:Type} (f: α→Option Addr×Nat→List Value) (k:Nat) (e:TypeId) (dat: α→List UInt8) (w:World) (F:Nat→Prop) (A:Option Addr) (n c:Nat) (L:List α) (ds:List (Option Addr×Nat)):Prop where
 hn:n=L.length
 hd:ds.length=L.length
 own:Own w 0 e k A n c (cellsG f L ds)
 inF:FIn F A
 data:∀(j:Nat) (v: α) (d:Option Addr×Nat),L[j]? =some v→ds[j]? =some d→zbs w 0 d.1 (dat v).length d.2 (dat v)∧ FIn F d.1
section
variable {α:Type} {f: α→Option Addr×Nat→List Value} {k:Nat} {e:TypeId} {dat: α→List UInt8} {w w':World} {F G:Nat→Prop} {n c:Nat} {A:Option Addr} {L:List α} {ds:List (Option Addr×Nat)}
theorem zb2.nil (w:World)(F:Nat→Prop):zb2 f k e dat w F none 0 0 [] []:=⟨rfl,rfl,Own.nil _ _ _ _,FIn.nil _,by intro j v d h;simp at h⟩
theorem zb2.keep (h:zb2 f k e dat w F A n c L ds)(hk:∀g,F g→g < w.heap.size→w'.heap[g]? =w.heap[g]?):zb2 f k e dat w' F A n c L ds:=
 ⟨h.hn,h.hd,h.own.keep (fun g _ hlt hA=>hk g (h.inF g hA) hlt),h.inF,fun j v d h1 h2=>⟨(h.data j v d h1 h2).1.keepF (h.data j v d h1 h2).2 hk,(h.data j v d h1 h2).2⟩⟩
theorem zb2.below (h:zb2 f k e dat w F A n c L ds)(hb:Below w.heap.size w w'):zb2 f k e dat w' F A n c L ds:=h.keep fun g _ hlt=>hb.block g hlt
theorem zb2.mono (h:zb2 f k e dat w F A n c L ds)(hG:∀g,g < w.heap.size→F g→G g):zb2 f k e dat w G A n c L ds:=
 ⟨h.hn,h.hd,h.own,fun g hg=>hG g (h.own.fin g hg).2 (h.inF g hg),fun j v d h1 h2=>⟨(h.data j v d h1 h2).1,fun g hg=>hG g ((h.data j v d h1 h2).1.own.fin g hg).2 ((h.data j v d h1 h2).2 g hg)⟩⟩
theorem zb2.elem (h:zb2 f k e dat w F A n c L ds){j:Nat}{v: α}(hv:L[j]? =some v):∃d,ds[j]? =some d∧zbs w 0 d.1 (dat v).length d.2 (dat v)∧ FIn F d.1:=by
 have hj:=(List.getElem?_eq_some_iff.1 hv).1;have hj':j < ds.length:=by rw[h.hd];exact hj
 exact⟨ds[j],List.getElem?_eq_getElem hj',h.data j v _ hv (List.getElem?_eq_getElem hj')⟩
theorem zb2.cells (hf:∀v d,(f v d).length=k)(h:zb2 f k e dat w F A n c L ds){j:Nat}{v: α}{d:Option Addr×Nat}(hv:L[j]? =some v)(hd:ds[j]? =some d)(hk:0 < k) :
 ∃g,A=some ⟨g,0,none⟩∧ g < w.heap.size∧ ∀i u,(f v d)[i]? =some u→w.cell? ⟨g,j * k+i,none⟩=some u:=by
 have hj:=(List.getElem?_eq_some_iff.1 hv).1;obtain⟨g,rfl,_,hlt⟩:=h.own.at_ (by rw[h.hn];omega);refine⟨g,rfl,hlt,?_⟩;intro i u hu;obtain⟨b,off,hA,hc⟩:=h.own.sl.at_ (zbz hf L ds j i v d u hv hd hu);injection hA with hA
 injection hA with h1 h2
 subst h1;subst h2;rw[Nat.zero_add] at hc;exact hc
theorem zb2.snoc (h:zb2 f k e dat w F A n c L ds)(hne:5≠e){A':Option Addr}{c':Nat}{v: α}{d:Option Addr×Nat}(h1:Own w' 0 e k A' (n+1) c' (cellsG f L ds ++ f v d))(h2:w.grownBy w' (Value.ownBlock (.slice A n c)))
 (h3:A'=A∨A'=some ⟨w.heap.size,0,none⟩) (hF:∀g,w.heap.size≤g→F g) (hv:zbs w 0 d.1 (dat v).length d.2 (dat v)) (hvF:FIn F d.1):zb2 f k e dat w' F A' (n+1) c' (L ++ [v]) (ds ++ [d]):=by
 have keep:∀ {m:Nat} {dd:Option Addr×Nat} {l:List UInt8},zbs w 0 dd.1 m dd.2 l→zbs w' 0 dd.1 m dd.2 l:=fun hO=>⟨hO.hn,hO.own.grown h2 (zbx hO.own h.own hne)⟩
 refine⟨by rw[h.hn];simp,by simp[h.hd],by rw[zb0 L ds v d h.hd];exact h1,?_,?_⟩
 · intro g hg;rcases h3 with h3 | h3
   · exact h.inF g (h3.symm.trans hg)
   · rw[h3] at hg;injection hg with hg
     injection hg with hg
     subst hg;exact hF _ (Nat.le_refl _)
 · intro j u d' hu hd';rcases Nat.lt_or_ge j L.length with hj | hj
   · rw[List.getElem?_append_left hj] at hu;rw[List.getElem?_append_left (by rw[h.hd];exact hj)] at hd';exact⟨keep (h.data j u d' hu hd').1,(h.data j u d' hu hd').2⟩
   · have hj':j=L.length:=by
      have:=(List.getElem?_eq_some_iff.1 hu).1
      simp at this;omega
     subst hj';rw[List.getElem?_append_right (Nat.le_refl _)] at hu;rw[List.getElem?_append_right (by rw[h.hd];exact Nat.le_refl _)] at hd';simp at hu;simp[h.hd] at hd';subst hu;subst hd';exact⟨keep hv,hvF⟩
theorem zb2.store (hf:∀v d,(f v d).length=1){g:Nat}(h:zb2 f 1 e dat w F (some ⟨g,0,none⟩) n c L ds)(hne:5≠e){j:Nat}{v: α}{d:Option Addr×Nat}{u:Value}(hu:f v d= [u])(hj:j < n)(hv:zbs w 0 d.1 (dat v).length d.2 (dat v))(hvF:FIn F d.1) :
 zb2 f 1 e dat (w.setCell ⟨g,j,none⟩ u) F (some ⟨g,0,none⟩) n c (L.set j v) (ds.set j d):=by
 have hG:w.grownBy (w.setCell ⟨g,j,none⟩ u) (Value.ownBlock (.slice (some ⟨g,0,none⟩) n c)):=za3 (World.grownBy.refl _ _) (.inl rfl) j u;have keep:∀ {m:Nat} {dd:Option Addr×Nat} {l:List UInt8},zbs w 0 dd.1 m dd.2 l→zbs (w.setCell ⟨g,j,none⟩ u) 0 dd.1 m dd.2 l:=fun hO=>⟨hO.hn,hO.own.grown hG (zbx hO.own h.own hne)⟩
 refine⟨by rw[List.length_set];exact h.hn,by simp[h.hd],?_,h.inF,?_⟩
 · rw[zb1 hf L ds j v d u h.hd hu (by rw[←h.hn];exact hj)];exact h.own.stored j u
 · intro i x d' hx hd';rcases Nat.decEq i j with hij | hij
   · rw[List.getElem?_set_ne (fun e=>hij e.symm)] at hx hd';exact⟨keep (h.data i x d' hx hd').1,(h.data i x d' hx hd').2⟩
   · subst hij;have hl:i < L.length:=by rw[←h.hn];exact hj
     rw[List.getElem?_set_self hl] at hx;rw[List.getElem?_set_self (by rw[h.hd];exact hl)] at hd';injection hx with hx
     injection hd' with hd'
     subst hx;subst hd';exact⟨keep hv,hvF⟩
end
theorem app_f {α:Type}{f: α→Option Addr×Nat→List Value}{k:Nat}{e:TypeId}{dat: α→List UInt8}{F:Nat→Prop}{ops:Array Oper}{rest:List Oper}{o:Oper}{a:Act}{Q:Exit→Act→World→Prop}(w:World)(hgd:o.guard=none)(s x:Operand)(ty:TypeId)
 (ho:o.op= .call { callee:= .builtin .append,args:=#[s,x],argTypes:=#[ty,ty] })
 (hf:∀v d,(f v d).length=k) (hone:∀v d,∀u ∈ f v d,u.oneCell'=true) (hne:5≠e) (i:TypeInfo) (z:Value) (bytes:Nat) (hu:Tryz.prog.underlying ty=some (.slice e)) (hi:Tryz.prog.info? e=some i) (hz:i.zero=some z) (hk:i.size=k) (hby:i.bytes=bytes) (hzs:z.cells.size=k) (hk0:0 < k) (hb4:bytes≤4096)
 (A:Option Addr) (n c:Nat) (L:List α) (ds:List (Option Addr×Nat)) (hs:a.eval s= .slice A n c) (hown:zb2 f k e dat w F A n c L ds)
 (v: α) (d:Option Addr×Nat) (A2:Option Addr) (hx:a.eval x= .slice A2 1 1)
 (hr:Sl w A2 (f v d)) (hv:zbs w 0 d.1 (dat v).length d.2 (dat v)) (hvF:FIn F d.1) (hF:∀g,w.heap.size≤g→F g)
 (hb:n≤34359738) (N:Nat) (hN:n+1=N)
 (h:∀A' c' w',zb2 f k e dat w' F A' N c' (L ++ [v]) (ds ++ [d])→ w.grownBy w' (Value.ownBlock (.slice A n c))→ (A'=A∨A'=some ⟨w.heap.size,0,none⟩)→ wpList Tryz.prog ops Q rest (a.put o.dst (.slice A' N c')) w'):wpList Tryz.prog ops Q (o :: rest) a w:=by
 subst hN;refine zay w hgd s x _ ho 0 e i _ k bytes hu hi hz hk hby hzs hk0 A n c _ hs hown.own A2 1 1 _ hx (by rw[hf];omega) hr (hone v d) (by unfold maxLen;omega) ?_ (Nat.zero_le _) (n+1) rfl _ rfl ?_
 · calc (n+1) * bytes≤(n+1) * 4096:=Nat.mul_le_mul_left _ hb4
    _≤_:=by omega
 · intro A' c' w' h1 h2 h3 _;exact h A' c' w' (hown.snoc hne h1 h2 h3 hF hv hvF) h2 h3
end
section
open Go.RowKit
theorem zb3 {g:Nat}{t:TypeId}:∀(vs:List Value) (o:Nat) {w:World} {l:List Value},Blk w g t l.toArray→o+vs.length≤l.length→Blk (w.setCells g o vs) g t (l.take o ++ vs ++ l.drop (o+vs.length)).toArray
 | [],o,w,l,h,_=>by simpa [World.setCells] using h
 | v :: vs,o,w,l,h,hl=>by
   have h1:=h.set_ o v;simp only[List.setIfInBounds_toArray] at h1;have h2:=zb3 vs (o+1) h1 (by simp at hl ⊢;omega);rw[list_seg_step l o v vs (by simp at hl;omega)] at h2;rw[World.setCells]
   simpa [Nat.add_assoc,Nat.add_comm 1] using h2
theorem zb4 {F:Nat→Prop}{w:World}{g:Nat}(hg:F g):∀(vs:List Value) (o:Nat) {W:World},zbv F w W→zbv F w (W.setCells g o vs)
 | [],_,_,h=>h
 | v :: vs,o,W,h=>by
   rw[World.setCells];exact zb4 hg vs (o+1) (h.trans (zbv.of_set (F:=F) (p:=⟨g,o,none⟩) hg v) (fun _ _ h=>h))
theorem zb5 {g:Nat}:∀(vs:List Value) (o:Nat) (W:World),(W.setCells g o vs).heap.size=W.heap.size
 | [],_,_=>rfl
 | v :: vs,o,W=>by rw[World.setCells,zb5 vs];simp[World.setCell]
theorem zb6 {P:World→Prop}{c:Code}{Q:Exit→Act→World→Prop}{a:Act}{w:World}(h:P w)(k:∀W,P W→Code.wp Tryz.prog c Q a W):Code.wp Tryz.prog c Q a w:=k w h
theorem zbv.set (F:Nat→Prop){w W:World}(h:zbv F w W){p i:Nat}(hp:F p)(u:Value):zbv F w (W.setCell ⟨p,i,none⟩ u):=h.trans (zbv.of_set (F:=F) hp u) (fun _ _ h=>h)
theorem zbv.new {F:Nat→Prop}{w W:World}(h:zbv F w W)(o:Obj):zbv F w (W.alloc o):=h.step (za7 (Below.refl _ _) o)
theorem zbv.drew {F:Nat→Prop}{w W:World}(h:zbv F w W):zbv F w W.drew:=⟨h.os,h.tape,h.output,h.size,h.block⟩
theorem zbv.setNew {F:Nat→Prop}{w W:World}(h:zbv F w W){g i:Nat}(hg:w.heap.size≤g)(u:Value):zbv F w (W.setCell ⟨g,i,none⟩ u):=h.trans (zbv.of_set (F:=fun k=>k=g) rfl u) (fun i hi (e:i=g)=> by omega)
end
section
open Go.RowKit
structure KB where
 g:Nat
 t:TypeId
 l:List Value
section
variable {w W W':World} {p q i:Nat} {t:TypeId} {cs:List Value} {ks:List KB} {x:KB} {v:Value}
end
end
end
end Go.Proofs.YtkkpjbjmhaecjaaGreat
