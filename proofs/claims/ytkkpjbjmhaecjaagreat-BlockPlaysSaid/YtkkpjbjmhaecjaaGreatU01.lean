/- None -/
import Derived.RegionTactic
import Derived.Deep.RegionHeld3
import Derived.KernelRfl
import Derived.WalkKit
import Derived.WalkSpells
import Derived.WalkLawsBesides
namespace Go.Proofs.YtkkpjbjmhaecjaaGreat
set_option linter.all false
section
open Go
section
variable {P:Program} {ops:Array Oper} {Q:Exit→Act→World→Prop} {md:Region.Mode} {S:World→Prop} {T:List Nat}
def waitsF (md:Region.Mode) (ops:Array Oper):Nat→Nat→Nat→Bool
 | 0,_,_=>false
 | f+1,i,j=>match ops[j]? with | some o=>o.after.any (fun e=>Region.binds md e && (e.on == i || waitsF md ops f i e.on)) | none=>false
def waitsT (md:Region.Mode) (ops:Array Oper) (T:List Nat) (j:Nat):Bool:=T.all fun i=>waitsF md ops ops.size i j
def closedL (md:Region.Mode) (ops:Array Oper) (listed:Array Bool):Prop:= ∀(k:Nat) (o:Oper),ops[k]? =some o→listed.getD k false=true→ ∀e ∈ o.after,Region.binds md e=true→listed.getD e.on false=true
def closedB (md:Region.Mode) (ops:Array Oper) (listed:Array Bool):Bool:=(List.range ops.size).all fun k=>!(listed.getD k false) || match ops[k]? with | some o=>o.after.all (fun e=>!(Region.binds md e) || listed.getD e.on false) | none=>true
theorem zaa {listed:Array Bool}(h:closedB md ops listed=true):closedL md ops listed:=by
 intro k o ho hk e he hb
 unfold closedB at h
 rw[List.all_eq_true] at h
 have h1:=h k (List.mem_range.2 (Array.getElem?_eq_some_iff.1 ho).1)
 rw[hk,ho] at h1
 simp only[Bool.not_true,Bool.false_or] at h1
 have h2:=Array.all_eq_true_iff_forall_mem.1 h1 e he
 rw[hb] at h2
 simpa using h2
theorem zab {listed:Array Bool}(hc:closedL md ops listed){i:Nat}:∀(f j:Nat) (o:Oper),ops[j]? =some o→(∀e ∈ o.after,Region.binds md e=true→listed.getD e.on false=true)→ waitsF md ops f i j=true→listed.getD i false=true:=by
 intro f
 induction f with
 | zero=>intro j o _ _ h;cases h
 | succ f ih=>
   intro j o ho hall h
   rw[waitsF,ho] at h
   obtain⟨e,he,hb⟩:=Array.any_eq_true'.1 h
   simp only[Bool.and_eq_true,Bool.or_eq_true,beq_iff_eq] at hb
   have hl:=hall e he hb.1
   rcases hb.2 with h1 | h1
   · rw[←h1];exact hl
   · cases hk:ops[e.on]? with
     | none=>
       cases f with
       | zero=>cases h1
       | succ f=>rw[waitsF,hk] at h1;cases h1
     | some o'=>exact ih e.on o' hk (hc e.on o' hk hl) h1
def zac (P:Program) (md:Region.Mode) (ops:Array Oper) (Q:Exit→Act→World→Prop) (S:World→Prop) (T:List Nat):Nat→Array Bool→Act→World→Prop
 | 0,listed,a,w=>Region.ready md ops listed= []∧ Q .normal a w
 | f+1,listed,a,w=>(Region.ready md ops listed= []→ Q .normal a w)∧
   ∀j ∈ Region.ready md ops listed,wpOp P ops Q j (fun a' w'=>(waitsT md ops T j=false→S w')∧ zac P md ops Q S T f (listed.setIfInBounds j true) a' w') a w
theorem zac.any:∀ {f:Nat} {listed:Array Bool} {a:Act} {w:World},zac P md ops Q S T f listed a w→wpAny P md ops Q f listed a w
 | 0,_,_,_,h=>h
 | _+1,_,_,_,h=>And.intro h.1 (fun j hj=>wpOp_mono (fun _ _ h'=>zac.any h'.2) (h.2 j hj))
theorem zad {listed:Array Bool}(hc:closedL md ops listed){i j:Nat}(hT:i ∈ T)(hi:listed.getD i true=false)(hj:j ∈ Region.ready md ops listed):waitsT md ops T j=false:=by
 obtain⟨_,o,ho,hall⟩:=mem_ready.1 hj
 unfold waitsT
 rw[List.all_eq_false]
 refine⟨i,hT,?_⟩
 intro h
 have h1:=zab hc _ j o ho hall h
 rcases Nat.lt_or_ge i listed.size with h2 | h2
 · rw[Array.getD,dif_pos h2] at h1 hi
   rw[h1] at hi
   cases hi
 · rw[Array.getD,dif_neg (by omega)] at h1
   cases h1
theorem zae {listed:Array Bool}(hc:closedL md ops listed){j:Nat}(hj:j ∈ Region.ready md ops listed):closedL md ops (listed.setIfInBounds j true):=by
 intro k o ho hk e he hb
 refine getD_set_true ?_
 rcases Nat.decEq j k with hne | rfl
 · refine hc k o ho ?_ e he hb
   simpa [Array.getElem?_setIfInBounds_ne hne] using hk
 · obtain⟨_,o',ho',hall⟩:=mem_ready.1 hj
   rw[ho] at ho'
   injection ho' with ho'
   subst ho'
   exact hall e he hb
theorem zac.first {i:Nat}{oi:Oper}{v:Value}(hT:i ∈ T)(hi:ops[i]? =some oi)(hsel:∀(j:Nat) (o:Oper) cs b,ops[j]? =some o→o.op≠ .select cs b)
 (hQ:∀c a w,Q (.panic c) (a.put oi.dst v) w→Q (.panic c) a w) (f:Nat) :
 ∀(listed:Array Bool) (a:Act) (w:World),closedL md ops listed→
  (∀j oj,ops[j]? =some oj→j≠i→listed.getD j true=false→(∀e ∈ oj.after,Region.binds md e=true→e.on≠i)→ oi.apart ops oj=true)→
  i ∈ Region.ready md ops listed→YieldsIf P ops S oi v a→S w→
  zac P md ops Q S T f (listed.setIfInBounds i true) (a.put oi.dst v) w→zac P md ops Q S T (f+1) listed a w:=by
 induction f with
 | zero=>
   intro listed a w _ _ hr hy hS H
   refine⟨fun h0=>(by rw[h0] at hr;cases hr),fun j hj=>?_⟩
   rcases Nat.decEq j i with hji | rfl
   · have h1:=ready_mono hj hji
     rw[H.1] at h1
     cases h1
   · exact hy.wpOp hi hS ⟨fun _=>hS,H⟩
 | succ f ih=>
   intro listed a w hcl hfr hr hy hS H
   refine⟨fun h0=>(by rw[h0] at hr;cases hr),fun j hj=>?_⟩
   rcases Nat.decEq j i with hji | rfl
   · have hnw:=zad hcl hT (mem_ready.1 hr).1 hj
     have hju:=(mem_ready.1 hj).1
     obtain⟨_,oj,hoj,hall⟩:=mem_ready.1 hj
     have hno:∀e ∈ oj.after,Region.binds md e=true→e.on≠i:=by
      rintro e he hb rfl
      have h1:=hall e he hb
      have h0:=(mem_ready.1 hr).1
      rcases Nat.lt_or_ge e.on listed.size with h2 | h2
      · rw[Array.getD,dif_pos h2] at h0 h1
        rw[h1] at h0
        cases h0
      · rw[Array.getD,dif_neg (by omega)] at h1
        cases h1
     have hp:=wpOp_putIf hoj (hfr j oj hoj hji hju hno) (fun cs b=>hsel i oi cs b hi) (fun cs b=>hsel j oj cs b hoj) hQ hy (H.2 j (ready_mono hj hji))
     refine wpOp_mono ?_ hp
     rintro a' w' ⟨hy',hS',hrest⟩
     refine⟨fun _=>hS' hnw,ih (listed.setIfInBounds j true) a' w' (zae hcl hj) ?_ (ready_mono hr (Ne.symm hji)) hy' (hS' hnw) (by rw[Array.setIfInBounds_comm _ _ hji];exact hrest)⟩
     intro m om hm hmi hmu hmn
     refine hfr m om hm hmi ?_ hmn
     rcases Nat.decEq j m with hjm | rfl
     · rw[getD_set_ne true hjm] at hmu;exact hmu
     · exact hju
   · exact hy.wpOp hi hS ⟨fun _=>hS,H⟩
theorem zaf {i:Nat}{oi:Oper}{v:Value}{f:Nat}{listed:Array Bool}{a:Act}{w:World}(hT:T.contains i=true)(hcl:closedB md ops listed=true)(hi:ops[i]? =some oi)
 (hs:Region.noSelect ops=true) (hf:Region.free md ops listed i=true) (hr:(Region.ready md ops listed).contains i=true)
 (hQ:∀c a w,Q (.panic c) (a.put oi.dst v) w→Q (.panic c) a w) (hy:YieldsIf P ops S oi v a) (hS:S w)
 (h:zac P md ops Q S T f (listed.setIfInBounds i true) (a.put oi.dst v) w):zac P md ops Q S T (f+1) listed a w:=
 zac.first (by simpa using hT) hi (Region.noSelect_spec hs) hQ f listed a w (zaa hcl) (Region.free_spec hi hf) (by simpa using hr) hy hS h
theorem zag {i:Nat}{o:Oper}{f:Nat}{listed:Array Bool}{a:Act}{w:World}(ho:ops[i]? =some o)(hr:Region.ready md ops listed= [i])
 (h:∀K':Act→World→Prop,Shut (∀a w,S w→(S w→zac P md ops Q S T f (listed.setIfInBounds i true) a w)→ K' a w)→ if Region.wanted o (yielded ops a.tmps)=true then Oper.wp P o a w K' Q else K' (a.put o.dst undef) w) :
 zac P md ops Q S T (f+1) listed a w:=by
 refine⟨fun h0=>(by rw[hr] at h0;cases h0),?_⟩
 rw[hr]
 intro j hj
 obtain rfl:=List.mem_singleton.1 hj
 exact wpOp_step ho (fun K' hK=>h K' (fun a w hS hW=>hK a w ⟨fun _=>hS,hW hS⟩))
theorem zah {i:Nat}{o:Oper}{f:Nat}{listed:Array Bool}{a:Act}{w:World}(ho:ops[i]? =some o)(hr:Region.ready md ops listed= [i])(hw:waitsT md ops T i=true)
 (h:∀K':Act→World→Prop,Shut (∀a w,zac P md ops Q S T f (listed.setIfInBounds i true) a w→K' a w)→ if Region.wanted o (yielded ops a.tmps)=true then Oper.wp P o a w K' Q else K' (a.put o.dst undef) w) :
 zac P md ops Q S T (f+1) listed a w:=by
 refine⟨fun h0=>(by rw[hr] at h0;cases h0),?_⟩
 rw[hr]
 intro j hj
 obtain rfl:=List.mem_singleton.1 hj
 exact wpOp_step ho (fun K' hK=>h K' (fun a w hW=>hK a w ⟨fun h0=>(by rw[hw] at h0;cases h0),hW⟩))
theorem zai {listed:Array Bool}{a:Act}{w:World}(hr:Region.ready md ops listed= [])(h:Q .normal a w):∀f,zac P md ops Q S T f listed a w
 | 0=>⟨hr,h⟩
 | _+1=>⟨fun _=>h,by rw[hr];intro j hj;cases hj⟩
theorem zaj (S:World→Prop)(T:List Nat){id:Nat}{a:Act}{w:World}(hm:P.follows .mixedOrders=true)(hS:S w.drew)
 (h:S w.drew→zac P .any ops Q S T ops.size (Array.replicate ops.size false) a w.drew):(Code.region id ops true).wp P Q a w:=
 wp_region_any hm (zac.any (h hS))
end
end
section
section
variable {P:Program} {ops:Array Oper} {Q:Exit→Act→World→Prop} {md:Region.Mode} {S:World→Prop} {T:List Nat} {oi:Oper} {v:Value} {f:Nat} {listed:Array Bool} {a:Act} {w:World}
theorem tkH (i:Nat)(h:wpAnyH P md ops Q S f (listed.setIfInBounds i true) (a.put oi.dst v) w)(hi:ops[i]? =some oi:=by rfl)(hs:Region.noSelect ops=true:=by kernel_rfl)(hf:Region.free md ops listed i=true:=by kernel_rfl)(hr:(Region.ready md ops listed).contains i=true:=by kernel_rfl)
 (hw:Region.wanted oi (yielded ops a.tmps)=true:=by rfl) (hy:∀w,S w→(execOp a.eval oi).run P w= .ok (.value v) w:=by ((intro w hSw;(try dsimp only at hSw);go_simp)<;> with_reducible rfl)) (hQ:∀c a w,Q (.panic c) (a.put oi.dst v) w→Q (.panic c) a w:=by exact fun _ _ _ h=>h) (hS:S w:=by assumption):wpAnyH P md ops Q S (f+1) listed a w:=
 wpAnyH_take hi hs hf hr hQ (.inl ⟨hw,hy⟩) hS h
theorem tkT (i:Nat)(h:zac P md ops Q S T f (listed.setIfInBounds i true) (a.put oi.dst v) w)(hT:T.contains i=true:=by kernel_rfl)(hcl:closedB md ops listed=true:=by kernel_rfl)(hi:ops[i]? =some oi:=by rfl)(hs:Region.noSelect ops=true:=by kernel_rfl)(hf:Region.free md ops listed i=true:=by kernel_rfl)(hr:(Region.ready md ops listed).contains i=true:=by kernel_rfl)
 (hw:Region.wanted oi (yielded ops a.tmps)=true:=by rfl) (hy:∀w,S w→(execOp a.eval oi).run P w= .ok (.value v) w:=by ((intro w hSw;(try dsimp only at hSw);go_simp)<;> with_reducible rfl)) (hQ:∀c a w,Q (.panic c) (a.put oi.dst v) w→Q (.panic c) a w:=by exact fun _ _ _ h=>h) (hS:S w:=by assumption):zac P md ops Q S T (f+1) listed a w:=
 zaf hT hcl hi hs hf hr hQ (.inl ⟨hw,hy⟩) hS h
end
theorem PqL {α:Type}:(∀(l:List α) (i:Nat) (h:i < l.toArray.size),l.toArray[i]=l[i]'(by simpa using h))∧ (∀(a: α) (l:List α) (h:0 < (a :: l).length),(a :: l)[0]=a)∧ (∀(a: α) (l:List α) (i:Nat) (h:i+1 < (a :: l).length),(a :: l)[i+1]=l[i]'(by simpa using h))∧ (∀(l:List α) (i:Nat) (a: α),l.toArray.setIfInBounds i a=(l.set i a).toArray)∧ (∀(x: α) (l:List α) (b: α),(x :: l).set 0 b=b :: l)∧ (∀(x: α) (l:List α) (i:Nat) (b: α),(x :: l).set (i+1) b=x :: l.set i b):=
 ⟨fun _ _ _=>rfl,fun _ _ _=>rfl,fun _ _ _ _=>rfl,fun _ _ _=>by simp,fun _ _ _=>rfl,fun _ _ _ _=>rfl⟩
def NxI (l:Array Bool) (i:Nat):Prop:=(l.toList.idxOf false == i)=true
theorem nxI (i:Nat){l:Array Bool}(h:(l.toList.idxOf false == i)=true):NxI l i:=h
theorem tkN {P:Program}{ops:Array Oper}{Q:Exit→Act→World→Prop}{md:Region.Mode}{S:World→Prop}{oi:Oper}{v:Value}{f:Nat}{listed:Array Bool}{a:Act}{w:World}{i:Nat}(h:wpAnyH P md ops Q S f (listed.setIfInBounds i true) (a.put oi.dst v) w)(hn:NxI listed i:=by first | exact nxI 0 (by decide) | exact nxI 1 (by decide) | exact nxI 2 (by decide) | exact nxI 3 (by decide) | exact nxI 4 (by decide) | exact nxI 5 (by decide) | exact nxI 6 (by decide) | exact nxI 7 (by decide) | exact nxI 8 (by decide) | exact nxI 9 (by decide) | exact nxI 10 (by decide) | exact nxI 11 (by decide) | exact nxI 12 (by decide) | exact nxI 13 (by decide) | exact nxI 14 (by decide) | exact nxI 15 (by decide) | exact nxI 16 (by decide) | exact nxI 17 (by decide) | exact nxI 18 (by decide) | exact nxI 19 (by decide) | exact nxI 20 (by decide) | exact nxI 21 (by decide) | exact nxI 22 (by decide) | exact nxI 23 (by decide) | exact nxI 24 (by decide) | exact nxI 25 (by decide) | exact nxI 26 (by decide) | exact nxI 27 (by decide) | exact nxI 28 (by decide) | exact nxI 29 (by decide) | exact nxI 30 (by decide) | exact nxI 31 (by decide) | exact nxI 32 (by decide) | exact nxI 33 (by decide) | exact nxI 34 (by decide) | exact nxI 35 (by decide) | exact nxI 36 (by decide) | exact nxI 37 (by decide) | exact nxI 38 (by decide) | exact nxI 39 (by decide) | exact nxI 40 (by decide) | exact nxI 41 (by decide) | exact nxI 42 (by decide) | exact nxI 43 (by decide) | exact nxI 44 (by decide) | exact nxI 45 (by decide))(hi:ops[i]? =some oi:=by rfl)(hs:Region.noSelect ops=true:=by kernel_rfl)(hf:Region.free md ops listed i=true:=by kernel_rfl)(hr:(Region.ready md ops listed).contains i=true:=by kernel_rfl)
 (hw:Region.wanted oi (yielded ops a.tmps)=true:=by rfl) (hy:∀w,S w→(execOp a.eval oi).run P w= .ok (.value v) w:=by ((intro w hSw;(try dsimp only at hSw);go_simp)<;> with_reducible rfl)) (hQ:∀c a w,Q (.panic c) (a.put oi.dst v) w→Q (.panic c) a w:=by exact fun _ _ _ h=>h) (hS:S w:=by assumption):wpAnyH P md ops Q S (f+1) listed a w:=
 tkH i h hi hs hf hr hw hy hQ hS
theorem tkU {P:Program}{ops:Array Oper}{Q:Exit→Act→World→Prop}{md:Region.Mode}{S:World→Prop}{oi:Oper}{f:Nat}{listed:Array Bool}{a:Act}{w:World}(i:Nat)(h:wpAnyH P md ops Q S f (listed.setIfInBounds i true) (a.put oi.dst undef) w)(hi:ops[i]? =some oi:=by rfl)(hs:Region.noSelect ops=true:=by kernel_rfl)(hf:Region.free md ops listed i=true:=by kernel_rfl)(hr:(Region.ready md ops listed).contains i=true:=by kernel_rfl)
 (hw:Region.wanted oi (yielded ops a.tmps)=false:=by rfl) (hQ:∀c a w,Q (.panic c) (a.put oi.dst undef) w→Q (.panic c) a w:=by exact fun _ _ _ h=>h) (hS:S w:=by assumption):wpAnyH P md ops Q S (f+1) listed a w:=
 wpAnyH_take hi hs hf hr hQ (.inr ⟨hw,rfl⟩) hS h
theorem tkV {P:Program}{ops:Array Oper}{Q:Exit→Act→World→Prop}{md:Region.Mode}{S:World→Prop}{oi:Oper}{f:Nat}{listed:Array Bool}{a:Act}{w:World}{i:Nat}(h:wpAnyH P md ops Q S f (listed.setIfInBounds i true) (a.put oi.dst undef) w)(hn:NxI listed i:=by first | exact nxI 0 (by decide) | exact nxI 1 (by decide) | exact nxI 2 (by decide) | exact nxI 3 (by decide) | exact nxI 4 (by decide) | exact nxI 5 (by decide) | exact nxI 6 (by decide) | exact nxI 7 (by decide) | exact nxI 8 (by decide) | exact nxI 9 (by decide) | exact nxI 10 (by decide) | exact nxI 11 (by decide) | exact nxI 12 (by decide) | exact nxI 13 (by decide) | exact nxI 14 (by decide) | exact nxI 15 (by decide) | exact nxI 16 (by decide) | exact nxI 17 (by decide) | exact nxI 18 (by decide) | exact nxI 19 (by decide) | exact nxI 20 (by decide) | exact nxI 21 (by decide) | exact nxI 22 (by decide) | exact nxI 23 (by decide) | exact nxI 24 (by decide) | exact nxI 25 (by decide) | exact nxI 26 (by decide) | exact nxI 27 (by decide) | exact nxI 28 (by decide) | exact nxI 29 (by decide) | exact nxI 30 (by decide) | exact nxI 31 (by decide) | exact nxI 32 (by decide) | exact nxI 33 (by decide) | exact nxI 34 (by decide) | exact nxI 35 (by decide) | exact nxI 36 (by decide) | exact nxI 37 (by decide) | exact nxI 38 (by decide) | exact nxI 39 (by decide) | exact nxI 40 (by decide) | exact nxI 41 (by decide) | exact nxI 42 (by decide) | exact nxI 43 (by decide) | exact nxI 44 (by decide) | exact nxI 45 (by decide))(hi:ops[i]? =some oi:=by rfl)(hs:Region.noSelect ops=true:=by kernel_rfl)(hf:Region.free md ops listed i=true:=by kernel_rfl)(hr:(Region.ready md ops listed).contains i=true:=by kernel_rfl)
 (hw:Region.wanted oi (yielded ops a.tmps)=false:=by rfl) (hQ:∀c a w,Q (.panic c) (a.put oi.dst undef) w→Q (.panic c) a w:=by exact fun _ _ _ h=>h) (hS:S w:=by assumption):wpAnyH P md ops Q S (f+1) listed a w:=
 tkU i h hi hs hf hr hw hQ hS
theorem kRd {P:Program}{ops:Array Oper}{Q:Exit→Act→World→Prop}{md:Region.Mode}{S:World→Prop}{o:Oper}{f:Nat}{listed:Array Bool}{a:Act}{w:World}(i:Nat)(h:∀K':Act→World→Prop,Shut (∀a w,S w→(S w→wpAnyH P md ops Q S f (listed.setIfInBounds i true) a w)→ K' a w)→ if Region.wanted o (yielded ops a.tmps)=true then Oper.wp P o a w K' Q else K' (a.put o.dst undef) w)(hr:Region.ready md ops listed= [i]:=by kernel_rfl)(ho:ops[i]? =some o:=by rfl):wpAnyH P md ops Q S (f+1) listed a w:=wpAnyH_ready hr (by simp) (AllReadyH.cons ho h .nil)
end
section
open Go.RowKit
theorem zak {p:Prop}(h:p):Hid p:=h
def bv (c:UInt8):Value:= .int .u8 c.toNat
def Sl (w:World) (A:Option Addr) (xs:List Value):Prop:= ∀j u,xs[j]? =some u→ ∃ad,A=some ad∧w.cell? (ad.add j)=some u
theorem Sl.nil (w:World)(A:Option Addr):Sl w A []:=by intro j u h;simp at h
theorem Sl.byte {w:World}{A:Option Addr}{l:List UInt8}(h:Sl w A (l.map bv)){j:Nat}(hj:j < l.length) :
 ∃ad,A=some ad∧w.cell? (ad.add j)=some (.int .u8 (l[j]).toNat):=
 h j _ (by simp[List.getElem?_map,List.getElem?_eq_getElem hj];rfl)
theorem Sl.at_ {w:World}{A:Option Addr}{xs:List Value}(h:Sl w A xs){j:Nat}{u:Value}(hj:xs[j]? =some u) :
 ∃b off,A=some ⟨b,off,none⟩∧ w.cell? ⟨b,off+j,none⟩=some u:=by
 obtain⟨⟨b,off,spot⟩,rfl,hc⟩:=h j u hj
 by_cases h0:j=0
 · subst h0
   have:spot=none:=by
    have:=World.cell?_spot hc
    simpa [Addr.add] using this
   subst this
   exact⟨b,off,rfl,by simpa [Addr.add] using hc⟩
 · obtain⟨⟨b',off',spot'⟩,h',hc'⟩:=h 0 (xs[0]'(by have:=(List.getElem?_eq_some_iff.1 hj).1;omega)) (List.getElem?_eq_getElem _)
   injection h' with h'
   rw[←h'] at hc'
   have:spot=none:=by
    have:=World.cell?_spot hc'
    simpa [Addr.add] using this
   subst this
   exact⟨b,off,rfl,by simpa [Addr.add,h0] using hc⟩
theorem Sl.byte_ {w:World}{A:Option Addr}{l:List UInt8}(h:Sl w A (l.map bv)){j:Nat}(hj:j < l.length) :
 ∃b off,A=some ⟨b,off,none⟩∧ w.cell? ⟨b,off+j,none⟩=some (.int .u8 (l[j]).toNat):=
 h.at_ (j:=j) (by simp[List.getElem?_map,List.getElem?_eq_getElem hj];rfl)
theorem Sl.keep {w w':World}{A:Option Addr}{xs:List Value}(h:Sl w A xs)(hk:∀p v,w.cell? p=some v→w'.cell? p=some v):Sl w' A xs:=by
 intro j u hu
 obtain⟨ad,e,hc⟩:=h j u hu
 exact⟨ad,e,hk _ _ hc⟩
theorem Sl.drew {w:World}{A:Option Addr}{xs:List Value}(h:Sl w A xs):Sl w.drew A xs:=h
theorem zal {w:World}{p:Addr}{v:Value}(h:w.cell? p=some v):p.block < w.heap.size:=World.block_lt_of_cell? w p h
theorem Sl.below {w w':World}{A:Option Addr}{xs:List Value}(h:Sl w A xs)(hb:Below w.heap.size w w'):Sl w' A xs:=
 h.keep fun _ _ hc=>(hb.cell (zal hc)).trans hc
theorem zam (a:Addr)(i j:Nat):(a.add i).add j=a.add (i+j):=by
 unfold Addr.add
 by_cases hi:i=0<;>by_cases hj:j=0<;>simp[hi,hj,Nat.add_assoc]
def leN:List UInt8→Nat
 | []=> 0
 | c :: l=>c.toNat+256 * leN l
def leB:Nat→Nat→List UInt8
 | 0,_=> []
 | k+1,n=>UInt8.ofNat n :: leB k (n / 256)
theorem zan (l:List UInt8):leN l < 256 ^ l.length:=by
 induction l with
 | nil=>simp[leN]
 | cons c l ih=>
   have:=c.toNat_lt
   simp only[leN,List.length_cons,Nat.pow_succ]
   omega
theorem zao (l:List UInt8)(c:UInt8):leN (l ++ [c])=leN l+256 ^ l.length * c.toNat:=by
 induction l with
 | nil=>simp[leN]
 | cons d l ih=>simp[leN,ih,Nat.pow_succ,Nat.mul_add,Nat.add_assoc,Nat.mul_assoc,Nat.mul_comm,Nat.mul_left_comm]
theorem zap (l:List UInt8)(k:Nat)(h:k < l.length):leN (l.take (k+1))=leN (l.take k)+256 ^ k * (l[k]).toNat:=by
 rw[List.take_succ_eq_append_getElem h,zao]
 simp[Nat.min_eq_left (Nat.le_of_lt h)]
theorem zaq {k:Nat}(h:k≤7):256 ^ k≤72057594037927936:=by
 have:256 ^ k≤256 ^ 7:=Nat.pow_le_pow_right (by omega) h
 simpa using this
theorem zar (k:Nat):2 ^ (8 * k)=256 ^ k:=by rw[Nat.pow_mul]
theorem zas (a b k:Nat)(ha:a < 256 ^ k)(hb:b < 256)(hk:k≤7) :
 bits BinOp.or IntKind.u64 (a:Int) (IntKind.u64.wrap (IntKind.u64.wrap (b:Int) * 2 ^ (8 * k)))=((a+256 ^ k * b:Nat):Int):=by
 have hp:=zaq hk
 have e1:IntKind.u64.wrap (b:Int)=b:=by rw[IntKind.wrap_u64];omega
 have hm:256 ^ k * b≤72057594037927936 * 255:=Nat.mul_le_mul hp (by omega)
 have e2:IntKind.u64.wrap ((b:Int) * 2 ^ (8 * k))=((256 ^ k * b:Nat):Int):=by
  have:((b:Int) * 2 ^ (8 * k))=((256 ^ k * b:Nat):Int):=by
   rw[←zar];push_cast;rw[Int.mul_comm]
  rw[this,IntKind.wrap_u64]
  omega
 rw[e1,e2,u64_or_nat a _ (by omega) (by omega)]
 have e3:a ||| 256 ^ k * b=a+256 ^ k * b:=by
  rw[Nat.or_comm,Nat.add_comm,←zar]
  exact nat_join (8 * k) _ _ (by simp) (by rw[zar];exact ha)
 rw[e3]
def U64 (x:Nat):Prop:=x < 18446744073709551616
theorem zat {l:List UInt8}(h:l.length≤8):U64 (leN l):=by
 have h1:=zan l
 have h2:256 ^ l.length≤256 ^ 8:=Nat.pow_le_pow_right (by omega) h
 have h3:(256:Nat) ^ 8=18446744073709551616:=by decide
 unfold U64
 omega
theorem p1:256 ^ (Int.toNat 1)=256:=rfl
theorem p2:256 ^ (Int.toNat 2)=65536:=rfl
theorem p4:256 ^ (Int.toNat 4)=4294967296:=rfl
theorem zau {k:IntKind}{a b:Int}(h:a=b):Ending.returned (.int k a)= .returned (.int k b):=by rw[h]
theorem zav {a b:Bool}(h:a=b):Ending.returned (.bool a)= .returned (.bool b):=by rw[h]
end
end Go.Proofs.YtkkpjbjmhaecjaaGreat
