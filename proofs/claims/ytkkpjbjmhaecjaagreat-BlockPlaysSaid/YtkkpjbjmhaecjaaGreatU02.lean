/- None -/
import Derived.Test.YtkkpjbjmhaecjaaGreatU01
import Derived.Maps.AppendAt
import Derived.Deep.AppendLies
import Derived.Laws.CopyOwn
import Derived.Deep.Draws
namespace Go.Proofs.YtkkpjbjmhaecjaaGreat
set_option linter.all false
section
open Go.RowKit
def Own (w:World) (B e size:Nat) (A:Option Addr) (n c:Nat) (xs:List Value):Prop:=w.ownsRow B e size (.slice A n c) n xs
section
variable {w w':World} {B e size n c:Nat} {A:Option Addr} {xs:List Value}
theorem Own.nil (w:World)(B e size:Nat):Own w B e size none 0 0 []:=World.ownsRow_nil _ _ _ _
theorem Own.len (h:Own w B e size A n c xs):xs.length=n * size:=h.1
theorem Own.le (h:Own w B e size A n c xs):n≤c:=by
 rcases h.2 with ⟨hv,h0⟩ | ⟨g,cap,cur,hv,hb,hg,hn,_⟩
 · omega
 · injection hv with _ _ hc;omega
theorem Own.sl (h:Own w B e size A n c xs):Sl w A xs:=by
 intro j u hu;rcases h.2 with ⟨hv,h0⟩ | ⟨g,cap,cur,hv,hb,hg,hn,hm,hs,ht⟩
 · have h1:=h.1
   have:=(List.getElem?_eq_some_iff.1 hu).1
   rw[h0] at h1;omega
 · injection hv with hA _ _
   subst hA;exact⟨_,rfl,World.ownsRow.cells h (g:=g) rfl j u hu⟩
theorem Own.at_ (h:Own w B e size A n c xs)(hn:0 < n):∃g,A=some ⟨g,0,none⟩∧ B≤g∧g < w.heap.size:=by
 obtain⟨g,cap,hv,hb,hlt⟩:=World.ownsRow.form h hn;injection hv with hA
 exact⟨g,hA,hb,hlt⟩
theorem Own.shape (h:Own w B e size A n c xs):(A=none∧n=0∧c=0)∨ ∃g,A=some ⟨g,0,none⟩∧ B≤g∧g < w.heap.size:=by
 rcases h.2 with ⟨hv,h0⟩ | ⟨g,cap,cur,hv,hb,hg,hn,hm,hs,ht⟩
 · injection hv with h1 h2 h3;exact .inl ⟨h1,h2,h3⟩
 · injection hv with hA
   exact .inr ⟨g,hA,hb,(Array.getElem?_eq_some_iff.1 hg).1⟩
theorem Own.keep (h:Own w B e size A n c xs)(hk:∀g,B≤g→g < w.heap.size→A=some ⟨g,0,none⟩→ w'.heap[g]? =w.heap[g]?):Own w' B e size A n c xs:=by
 refine⟨h.1,?_⟩;rcases h.2 with hn | ⟨g,cap,cur,hv,hb,hg,rest⟩
 · exact .inl hn
 · refine .inr ⟨g,cap,cur,hv,hb,?_,rest⟩;have hA:A=some ⟨g,0,none⟩:=by injection hv
   rw[hk g hb (Array.getElem?_eq_some_iff.1 hg).1 hA];exact hg
theorem Own.below (h:Own w B e size A n c xs)(hb:Below w.heap.size w w'):Own w' B e size A n c xs:=h.keep fun g _ hlt _=>hb.block g hlt
theorem Own.alloc (h:Own w B e size A n c xs)(o:Obj):Own (w.alloc o) B e size A n c xs:=h.keep fun g _ hlt _=>Below.heap_alloc _ _ _ hlt
theorem Own.drew (h:Own w B e size A n c xs):Own w.drew B e size A n c xs:=h
theorem Own.mono {B':Nat}(h:Own w B e size A n c xs)(hB:B'≤B):Own w B' e size A n c xs:=by
 refine⟨h.1,?_⟩;rcases h.2 with hn | ⟨g,cap,cur,hv,hb,rest⟩
 · exact .inl hn
 · exact .inr ⟨g,cap,cur,hv,by omega,rest⟩
theorem Own.grown {row:Option Nat}(h:Own w B e size A n c xs)(hg:w.grownBy w' row)(hne:∀g,A=some ⟨g,0,none⟩→ some g≠row):Own w' B e size A n c xs:=
 h.keep fun g _ hlt hA=>hg.block g hlt (hne g hA)
end
theorem Sl.one (w:World)(x:Value)(t:TypeId):Sl (w.alloc (.cells #[x] t)) (some ⟨w.heap.size,0,none⟩) [x]:=
 fun j u hu=>⟨_,rfl,cell_one_new w x t j u hu⟩
theorem Sl.alloc {w:World}{A:Option Addr}{xs:List Value}(h:Sl w A xs)(o:Obj):Sl (w.alloc o) A xs:=
 h.below (Below.alloc (Below.refl _ _) (Nat.le_refl _) o)
theorem zaw {w w':World}{B e size n c:Nat}{A:Option Addr}{xs:List Value}(h:Own w B e size A n c xs)(hB:B≤w.heap.size)
 (hg:w.grownBy w' (Value.ownBlock (.slice A n c))):Below B w w':=
 (Below.refl _ _).grown hg hB (fun k hk=>by
   rcases h.shape with ⟨rfl,_⟩ | ⟨g,rfl,hb,_⟩
   · simp[Value.ownBlock] at hk
   · simp[Value.ownBlock] at hk;omega)
section
variable {P:Program} (w:World)
theorem zax (B:Nat)(t ty e:TypeId)(i:TypeInfo)(z:Value)(size bytes:Nat)(ht:P.underlying t=some (.slice e))(hi:P.info? e=some i)(hz:i.zero=some z)
 (hsize:i.size=size) (hby:i.bytes=bytes) (hzs:z.cells.size=size) (hsz:0 < size)
 (A:Option Addr) (n c:Nat) (xs:List Value) (hown:Own w B e size A n c xs)
 (A2:Option Addr) (m c2:Nat) (ys:List Value) (hl:ys.length=m * size) (hr:Sl w A2 ys) (h1:∀u ∈ ys,u.oneCell'=true)
 (h63:n+m≤maxLen) (hbytes:(n+m) * bytes≤140737488355328) (hB:B≤w.heap.size) :
 ∃A' c' w',(Builtin.append_ #[t,t] ty #[.slice A n c,.slice A2 m c2]).run P w= .ok (.slice A' (n+m) c') w'∧Own w' B e size A' (n+m) c' (xs ++ ys)∧
  w.grownBy w' (Value.ownBlock (.slice A n c))∧ (A'=A∨A'=some ⟨w.heap.size,0,none⟩):=by
 have mk:∀v' w',w'.ownsRow B e size v' (n+m) (xs ++ ys)→ (v'.ownBlock=Value.ownBlock (.slice A n c)∨ v'.ownBlock=some w.heap.size)→
  ∃A' c',v'= .slice A' (n+m) c'∧Own w' B e size A' (n+m) c' (xs ++ ys)∧ (A'=A∨A'=some ⟨w.heap.size,0,none⟩):=by
  intro v' w' h2 h3;have hs:=h2.2;rcases hs with ⟨hv,h0⟩ | ⟨g,cap,cur,hv,rest⟩
  · refine⟨none,0,by rw[hv,h0],by rw[h0] at h2 ⊢;rw[hv] at h2;exact h2,?_⟩;have hn0:n=0:=by omega
    rcases hown.shape with ⟨hA,_⟩ | ⟨g,hA,_⟩
    · exact .inl hA.symm
    · rw[hv,hA] at h3;simp[Value.ownBlock] at h3
  · refine⟨some ⟨g,0,none⟩,cap,hv,by rw[hv] at h2;exact h2,?_⟩;rw[hv] at h3;rcases hown.shape with ⟨hA,_⟩ | ⟨g',hA,_⟩
    · rw[hA] at h3;simp[Value.ownBlock] at h3;exact .inr (by rw[h3])
    · rw[hA] at h3;simp[Value.ownBlock] at h3;rcases h3 with h3 | h3
      · exact .inl (by rw[h3,hA])
      · exact .inr (by rw[h3])
 rcases A2 with _ | ad
 · have hm:m=0:=by
    rcases Nat.eq_zero_or_pos m with h0 | h0
    · exact h0
    · have hlt:0 < ys.length:=by rw[hl];exact Nat.mul_pos h0 hsz
      obtain⟨ad,h,_⟩:=hr 0 _ (List.getElem?_eq_getElem hlt);cases h
   subst hm;have hn:ys= []:=List.eq_nil_of_length_eq_zero (by simpa using hl);subst hn;have hrun:(Builtin.append_ #[t,t] ty #[.slice A n c,.slice none 0 c2]).run P w= .ok (.slice A n c) w:=by
    rcases hown.shape with ⟨rfl,rfl,rfl⟩ | ⟨g,rfl,_⟩
    · simp[Builtin.append_,run_underlying ht,sizeOf,typeInfo,hi,Builtin.lenOf,Builtin.firstCells]
    · have:=hown.le
      simp[Builtin.append_,run_underlying ht,sizeOf,typeInfo,hi,Builtin.lenOf,Builtin.firstCells,this,storeCells]
   exact⟨A,c,w,hrun,by simpa using hown,World.grownBy.refl w _,.inl rfl⟩
 · have hcells:∀j u,ys[j]? =some u→w.cell? (ad.add j)=some u:=by
    intro j u hu;obtain⟨ad',h,hc⟩:=hr j u hu;injection h with h
    subst h;exact hc
   obtain⟨v',w',hrun,h2,h3,_,h5⟩:=run_append_own_at (P:=P) w B t ty e i z size bytes ht hi hz hsize hby hzs hsz _ n xs hown ad m c2 ys hl hcells h1 h63 hbytes hB;obtain⟨A',c',rfl,h6,h7⟩:=mk v' w' h2 h5;exact⟨A',c',w',hrun,h6,h3,h7⟩
theorem zay {ops:Array Oper}{rest:List Oper}{o:Oper}{a:Act}{Q:Exit→Act→World→Prop}(hgd:o.guard=none)(s x:Operand)(t:TypeId)
 (ho:o.op= .call { callee:= .builtin .append,args:=#[s,x],argTypes:=#[t,t] })
 (B e:Nat) (i:TypeInfo) (z:Value) (size bytes:Nat) (ht:P.underlying t=some (.slice e)) (hi:P.info? e=some i) (hz:i.zero=some z)
 (hsize:i.size=size) (hby:i.bytes=bytes) (hzs:z.cells.size=size) (hsz:0 < size)
 (A:Option Addr) (n c:Nat) (xs:List Value) (hs:a.eval s= .slice A n c) (hown:Own w B e size A n c xs)
 (A2:Option Addr) (m c2:Nat) (ys:List Value) (hx:a.eval x= .slice A2 m c2) (hl:ys.length=m * size) (hr:Sl w A2 ys) (h1:∀u ∈ ys,u.oneCell'=true)
 (h63:n+m≤maxLen) (hbytes:(n+m) * bytes≤140737488355328) (hB:B≤w.heap.size) (N:Nat) (hN:n+m=N) (zs:List Value) (hzz:xs ++ ys=zs)
 (h:∀A' c' w',Own w' B e size A' N c' zs→w.grownBy w' (Value.ownBlock (.slice A n c))→ (A'=A∨A'=some ⟨w.heap.size,0,none⟩)→ Below B w w'→
   wpList P ops Q rest (a.put o.dst (.slice A' N c')) w'):wpList P ops Q (o :: rest) a w:=by
 subst hN;subst hzz;refine wpList_plain hgd fun K hK=>?_
 obtain⟨A',c',w',hr,h2,h3,h4⟩:=zax (P:=P) w B t o.type e i z size bytes ht hi hz hsize hby hzs hsz A n c xs hown A2 m c2 ys hl hr h1 h63 hbytes hB;unfold Oper.wp execOp;simp only[ho,resolve,invoke,builtin,Sem.run_bind,Sem.run_pure,Result.andThen_ok,List.map_toArray,List.map_cons,List.map_nil,hs,hx,hr];exact hK _ _ (h A' c' w' h2 h3 h4 (zaw hown hB h3))
theorem zaz {ops:Array Oper}{rest:List Oper}{o:Oper}{a:Act}{Q:Exit→Act→World→Prop}(hgd:o.guard=none)(l cc:Operand)(t:TypeId)
 (ho:o.op=Op.makeSlice t l cc)
 (e:Nat) (i:TypeInfo) (z:Value) (bytes:Nat) (ht:P.underlying t=some (.slice e)) (hi:P.info? e=some i) (hz:i.zero=some z)
 (hsize:i.size=1) (hby:i.bytes=bytes) (hzs:z.cells= #[z])
 (kl kc:IntKind) (L C:Int) (n c:Nat) (hl:a.eval l= .int kl L) (hc:a.eval cc= .int kc C) (hL:L=(n:Int)) (hC:C=(c:Int)) (hnc:n≤c)
 (hbytes:bytes * c≤281474976710656) (h63:c≤maxLen) (B:Nat) (hB:B≤w.heap.size)
 (h:∀w',Own w' B e 1 (some ⟨w.heap.size,0,none⟩) n c (List.replicate n z)→ w.grownBy w' none→Below B w w'→
   wpList P ops Q rest (a.put o.dst (.slice (some ⟨w.heap.size,0,none⟩) n c)) w'):wpList P ops Q (o :: rest) a w:=by
 subst hL;subst hC;refine wpList_plain hgd fun K hK=>?_
 have hb:(i.bytes:Int) * (c:Int)≤ 281474976710656:=by
  rw[hby];have h:((bytes * c:Nat):Int)≤ 281474976710656:=by omega
  rwa [Int.natCast_mul] at h
 have hr:=run_make (P:=P) w t e i z ht hi hz kl kc n c (by omega) (by omega) hb (by unfold maxLen at h63;omega);simp only[Int.toNat_natCast,hsize,Nat.mul_one] at hr;unfold Oper.wp execOp;simp only[ho,hl,hc,hr,Sem.run_bind,Result.andThen_ok];have hmc:(madeCells z.cells c)=(List.replicate c z).toArray:=by
  rw[hzs];apply Array.ext';simp[madeCells];apply List.ext_getElem
  · simp
  · intro k h1 h2;simp[Nat.mod_one]
 refine hK _ _ (h _ ⟨by simp,.inr ⟨w.heap.size,c,_,rfl,hB,heap_alloc_new w _,hnc,h63,by simp[size_madeCells],?_⟩⟩ (World.grownBy_alloc w _ none) (Below.alloc (Below.refl _ _) hB _));rw[hmc];simp[List.take_replicate,Nat.min_eq_left hnc]
theorem za0 {ops:Array Oper}{rest:List Oper}{o:Oper}{a:Act}{Q:Exit→Act→World→Prop}(hgd:o.guard=none)(d s:Operand)(dT sT:TypeId)
 (ho:o.op= .call { callee:= .builtin .copy,args:=#[d,s],argTypes:=#[dT,sT] }) (elem:TypeId) (hu:P.underlying dT=some (.slice elem)) (hsz:(P.info? elem).map (·.size)=some 1)
 (B e:Nat) (A:Option Addr) (n c:Nat) (xs:List Value) (hd:a.eval d= .slice A n c) (hown:Own w B e 1 A n c xs)
 (A2:Option Addr) (m c2:Nat) (ys:List Value) (hs:a.eval s= .slice A2 m c2) (hl:ys.length=m) (hr:Sl w A2 ys) (h1:∀u ∈ ys,u.oneCell'=true) (hB:B≤w.heap.size)
 (h:∀w',Own w' B e 1 A n c (ys.take n ++ xs.drop m)→ w.grownBy w' (Value.ownBlock (.slice A n c))→ Below B w w'→
   wpList P ops Q rest (a.put o.dst (goInt (Nat.min m n))) w'):wpList P ops Q (o :: rest) a w:=by
 have hxl:xs.length=n:=by simpa using hown.len
 by_cases h0:Nat.min m n=0
 · refine wpList_copy_nothing hgd d s dT sT ho elem hu hsz A A2 n c m c2 hd hs h0 ?_;rw[h0] at h;refine h w ?_ (World.grownBy.refl _ _) (Below.refl _ _);have hm:m=0∨n=0:=by
    rcases Nat.le_total m n with h' | h'
    · left;rw[←h0];exact (Nat.min_eq_left h').symm
    · right;rw[←h0];exact (Nat.min_eq_right h').symm
   rcases hm with rfl | rfl
   · rw[List.eq_nil_of_length_eq_zero hl];simpa using hown
   · rw[List.eq_nil_of_length_eq_zero hxl] at hown ⊢;simpa using hown
 · have hn0:0 < n:=by
    rcases Nat.eq_zero_or_pos n with h' | h'
    · subst h';simp at h0
    · exact h'
   have hm0:0 < m:=by
    rcases Nat.eq_zero_or_pos m with h' | h'
    · subst h';simp at h0
    · exact h'
   obtain⟨ad,rfl,_⟩:=hr 0 _ (List.getElem?_eq_getElem (by omega));rcases hown.2 with ⟨hv,hz⟩ | ⟨g,cap,cur,hv,hb,hg,hnc,hcm,hcs,htake⟩
   · omega
   · injection hv with hA _ hcc
     subst hA;subst hcc;have hmn:Nat.min m n≤n:=Nat.min_le_right _ _;have hcl:(ys.take n).length=Nat.min m n:=by rw[List.length_take,hl];exact Nat.min_comm _ _
     refine wpList_copy_own hgd d s dT sT ho elem hu hsz g 0 n c ad m c2 hd hs cur e hg (ys.take n) hcl ?_ (by rw[hcl];omega) ?_ ?_
     · intro j v hv;rw[List.getElem?_take] at hv;split at hv
       · obtain⟨ad',h',hc⟩:=hr j v hv;injection h' with h'
         subst h';exact hc
       · simp at hv
     · intro v hv;exact h1 v (List.mem_of_mem_take hv)
     · rw[hcl];have hnl:(ys.take n ++ xs.drop m).length=n:=by
        rw[List.length_append,hcl,List.length_drop,hxl];show min m n+(n - m)=n;omega
       refine h _ ⟨by simpa using hnl,.inr ⟨g,c,_,rfl,hb,setRow_heap w g _ _ e _ hg,hnc,hcm,?_,?_⟩⟩ ⟨rfl,rfl,rfl,by simp[World.setRow],fun k hk hne=>setRow_other w g k _ (by simpa [Value.ownBlock] using hne)⟩ (below_setRow (Below.refl _ _) hb _)
       · simp only[List.size_toArray,List.take_zero,List.nil_append,List.length_append,List.length_drop,Array.length_toList,hcl];omega
       · simp only[List.take_zero,List.nil_append,Nat.zero_add,Nat.mul_one];rw[List.take_append,hcl];have e1:(ys.take n).take n=ys.take n:=by rw[List.take_take,Nat.min_self]
         rw[e1]
         congr 1
         rw[List.take_drop];have e2:Nat.min m n+(n - Nat.min m n)=n:=by omega
         rw[e2];rw[Nat.mul_one] at htake;rw[htake];rcases Nat.le_total m n with h' | h'
         · rw[show Nat.min m n=m from Nat.min_eq_left h']
         · rw[show Nat.min m n=n from Nat.min_eq_right h',List.drop_eq_nil_of_le (by omega),List.drop_eq_nil_of_le (by omega)]
end
theorem za1 (l:List UInt8):∀u ∈ l.map bv,u.oneCell'=true:=by
 intro u hu;obtain⟨c,_,rfl⟩:=List.mem_map.1 hu
 rfl
theorem za2 {P:Program}{w:World}{src e dst:TypeId}(hs:P.underlying src=some (.slice e))(he:P.underlying e=some (.int .u8))(hd:P.underlying dst=some .string)
 {A:Option Addr} {n:Nat} (c:Nat) {l:List UInt8} (hn:n=l.length) (h:Sl w A (l.map bv)):(convert src dst (.slice A n c)).run P w= .ok (.string ⟨l.toArray⟩) w:=by
 subst hn;rcases A with _ | ad
 · have:l= []:=by
    rcases l with _ | ⟨x,l⟩
    · rfl
    · obtain⟨ad,h',_⟩:=h 0 (bv x) rfl;cases h'
   subst this;exact run_convert_bytes_nil w src e hs he 0 c dst hd
 · have hl:(loadCells ad l.length).run P w= .ok ((l.map fun c=>(c.toNat:Int)).map (Value.int .u8)).toArray w:=by
    have:=run_loadCells_list (P:=P) w ad (l.map bv) (fun j v hj=>by
     obtain⟨ad',h',hc⟩:=h j v hj;injection h' with h'
     subst h';exact hc)
    rw[List.map_map];rw[List.length_map] at this;exact this
   rw[run_convert_bytes_string w src dst e _ l.length c hs he hd,run_bytesToString w _ l.length c _ hl,foldl_push_bytes];simp[ByteArray.empty,ByteArray.emptyWithCapacity,Function.comp_def]
   rfl
section
variable {w w':World} {B e n c:Nat} {xs:List Value}
theorem Own.cell {A:Option Addr}(h:Own w B e 1 A n c xs){k:Nat}(hk:k < n):∃g u,A=some ⟨g,0,none⟩∧ B≤g∧g < w.heap.size∧xs[k]? =some u∧w.cell? ⟨g,k,none⟩=some u∧w.frozen? ⟨g,k,none⟩=false:=by
 obtain⟨g,rfl,hb,hlt⟩:=h.at_ (by omega);have hl:=h.len;have hk':k < xs.length:=by omega
 refine⟨g,xs[k],rfl,hb,hlt,List.getElem?_eq_getElem hk',?_,World.ownsRow.frozenAt h k⟩;rw[World.ownsRow.cellAt h k (by omega)];exact List.getElem?_eq_getElem hk'
theorem Own.stored {g:Nat}(h:Own w B e 1 (some ⟨g,0,none⟩) n c xs)(k:Nat)(u:Value) :
 Own (w.setCell ⟨g,k,none⟩ u) B e 1 (some ⟨g,0,none⟩) n c (xs.set k u):=(World.ownsRow.stored h k u).1
end
theorem za3 {w w':World}{g:Nat}{row:Option Nat}(h:w.grownBy w' row)(hr:row=some g∨w.heap.size≤g)(k:Nat)(u:Value):w.grownBy (w'.setCell ⟨g,k,none⟩ u) row:=
 ⟨h.os,h.tape,h.output,by simpa [World.setCell] using h.size,fun i hi hne=>(Below.heap_setCell w' ⟨g,k,none⟩ u i (by
   rintro rfl;rcases hr with hr | hr
   · exact hne hr.symm
   · exact absurd hi (Nat.not_lt.2 hr))).trans (h.block i hi hne)⟩
theorem za4 {w w':World}{row:Option Nat}(h:w.grownBy w' row)(o:Obj):w.grownBy (w'.alloc o) row:=
 ⟨h.os,h.tape,h.output,Nat.le_trans h.size (by simp),fun i hi hne=>(Below.heap_alloc w' o i (Nat.lt_of_lt_of_le hi h.size)).trans (h.block i hi hne)⟩
theorem sn_of {W w':World}(h:Below W.heap.size W w'):(∀p:Addr,p.block < W.heap.size→w'.cell? p=W.cell? p)∧ Below W.heap.size W w':=⟨fun _ hp=>h.cell hp,h⟩
theorem za5 {W w' w'':World}(h2:Below w'.heap.size w' w'')(h1:Below W.heap.size W w'):Below W.heap.size W w'':=h1.trans (h2.mono h1.size)
theorem za6 {B:Nat}{W w' w'':World}(h2:Below B w' w'')(hB:W.heap.size≤B)(h1:Below W.heap.size W w'):Below W.heap.size W w'':=h1.trans (h2.mono hB)
theorem za7 {W w':World}(h1:Below W.heap.size W w')(o:Obj):Below W.heap.size W (w'.alloc o):=h1.alloc h1.size o
def Blk (w:World) (g:Nat) (t:TypeId) (cs:Array Value):Prop:=w.heap[g]? =some (.cells cs t (0,0))
section
variable {w w':World} {g:Nat} {t:TypeId} {cs:Array Value}
theorem Blk.lt (h:Blk w g t cs):g < w.heap.size:=by
 rcases Nat.lt_or_ge g w.heap.size with hlt | hge
 · exact hlt
 · unfold Blk at h;rw[Array.getElem?_eq_none hge] at h;cases h
theorem Blk.cell (h:Blk w g t cs)(i:Nat){u:Value}(hu:cs[i]? =some u):w.cell? ⟨g,i,none⟩=some u:=(cell_of_row w g i cs t (0,0) h).trans hu
theorem Blk.frozen (h:Blk w g t cs)(i:Nat):w.frozen? ⟨g,i,none⟩=false:=by
 unfold Blk at h;simp[World.frozen?,h]
theorem Blk.new (w:World)(t:TypeId)(cs:Array Value):Blk (w.alloc (.cells cs t)) w.heap.size t cs:=heap_alloc_new w _
theorem Blk.drew (h:Blk w g t cs):Blk w.drew g t cs:=h
theorem Blk.alloc (h:Blk w g t cs)(o:Obj):Blk (w.alloc o) g t cs:=(Below.heap_alloc w o g h.lt).trans h
theorem Blk.set_ (h:Blk w g t cs)(i:Nat)(u:Value):Blk (w.setCell ⟨g,i,none⟩ u) g t (cs.setIfInBounds i u):=by
 unfold Blk at h ⊢;simp[World.setCell,Array.getElem?_modify,h]
theorem Blk.far (h:Blk w g t cs){p:Addr}(hp:g≠p.block)(u:Value):Blk (w.setCell p u) g t cs:=(Below.heap_setCell w p u g hp).trans h
theorem Blk.below {B:Nat}(h:Blk w g t cs)(hb:Below B w w')(hg:g < B):Blk w' g t cs:=(hb.block g hg).trans h
theorem Blk.grown {row:Option Nat}(h:Blk w g t cs)(hb:w.grownBy w' row)(hg:some g≠row):Blk w' g t cs:=(hb.block g h.lt hg).trans h
theorem za8 {v0 v1:Value}{l:List Value}(h:Blk w g t (v0 :: v1 :: l).toArray):w.cell? ⟨g,0,none⟩=some v0∧w.cell? ⟨g,1,none⟩=some v1:=⟨h.cell 0 (by simp),h.cell 1 (by simp)⟩
theorem cel4 {v0 v1 v2 v3:Value}{l:List Value}(h:Blk w g t (v0 :: v1 :: v2 :: v3 :: l).toArray):w.cell? ⟨g,0,none⟩=some v0∧w.cell? ⟨g,1,none⟩=some v1∧w.cell? ⟨g,2,none⟩=some v2∧w.cell? ⟨g,3,none⟩=some v3:=⟨h.cell 0 (by simp),h.cell 1 (by simp),h.cell 2 (by simp),h.cell 3 (by simp)⟩
theorem za9 {v0 v1 v2 v3 v4:Value}{l:List Value}(h:Blk w g t (v0 :: v1 :: v2 :: v3 :: v4 :: l).toArray):w.cell? ⟨g,0,none⟩=some v0∧w.cell? ⟨g,1,none⟩=some v1∧w.cell? ⟨g,2,none⟩=some v2∧w.cell? ⟨g,3,none⟩=some v3∧w.cell? ⟨g,4,none⟩=some v4:=⟨h.cell 0 (by simp),h.cell 1 (by simp),h.cell 2 (by simp),h.cell 3 (by simp),h.cell 4 (by simp)⟩
theorem zba {v0 v1 v2 v3 v4 v5 v6:Value}{l:List Value}(h:Blk w g t (v0 :: v1 :: v2 :: v3 :: v4 :: v5 :: v6 :: l).toArray):w.cell? ⟨g,0,none⟩=some v0∧w.cell? ⟨g,1,none⟩=some v1∧w.cell? ⟨g,2,none⟩=some v2∧w.cell? ⟨g,3,none⟩=some v3∧w.cell? ⟨g,4,none⟩=some v4∧w.cell? ⟨g,5,none⟩=some v5∧w.cell? ⟨g,6,none⟩=some v6:=⟨h.cell 0 (by simp),h.cell 1 (by simp),h.cell 2 (by simp),h.cell 3 (by simp),h.cell 4 (by simp),h.cell 5 (by simp),h.cell 6 (by simp)⟩
theorem zbb {v0 v1 v2 v3 v4 v5 v6 v7 v8 v9 v10:Value}{l:List Value}(h:Blk w g t (v0 :: v1 :: v2 :: v3 :: v4 :: v5 :: v6 :: v7 :: v8 :: v9 :: v10 :: l).toArray):w.cell? ⟨g,0,none⟩=some v0∧w.cell? ⟨g,1,none⟩=some v1∧w.cell? ⟨g,2,none⟩=some v2∧w.cell? ⟨g,3,none⟩=some v3∧w.cell? ⟨g,4,none⟩=some v4∧w.cell? ⟨g,5,none⟩=some v5∧w.cell? ⟨g,6,none⟩=some v6∧w.cell? ⟨g,7,none⟩=some v7∧w.cell? ⟨g,8,none⟩=some v8∧w.cell? ⟨g,9,none⟩=some v9∧w.cell? ⟨g,10,none⟩=some v10:=⟨h.cell 0 (by simp),h.cell 1 (by simp),h.cell 2 (by simp),h.cell 3 (by simp),h.cell 4 (by simp),h.cell 5 (by simp),h.cell 6 (by simp),h.cell 7 (by simp),h.cell 8 (by simp),h.cell 9 (by simp),h.cell 10 (by simp)⟩
theorem zbc {v0 v1 v2 v3 v4 v5 v6 v7 v8 v9 v10 v11:Value}{l:List Value}(h:Blk w g t (v0 :: v1 :: v2 :: v3 :: v4 :: v5 :: v6 :: v7 :: v8 :: v9 :: v10 :: v11 :: l).toArray):w.cell? ⟨g,0,none⟩=some v0∧w.cell? ⟨g,1,none⟩=some v1∧w.cell? ⟨g,2,none⟩=some v2∧w.cell? ⟨g,3,none⟩=some v3∧w.cell? ⟨g,4,none⟩=some v4∧w.cell? ⟨g,5,none⟩=some v5∧w.cell? ⟨g,6,none⟩=some v6∧w.cell? ⟨g,7,none⟩=some v7∧w.cell? ⟨g,8,none⟩=some v8∧w.cell? ⟨g,9,none⟩=some v9∧w.cell? ⟨g,10,none⟩=some v10∧w.cell? ⟨g,11,none⟩=some v11:=⟨h.cell 0 (by simp),h.cell 1 (by simp),h.cell 2 (by simp),h.cell 3 (by simp),h.cell 4 (by simp),h.cell 5 (by simp),h.cell 6 (by simp),h.cell 7 (by simp),h.cell 8 (by simp),h.cell 9 (by simp),h.cell 10 (by simp),h.cell 11 (by simp)⟩
theorem zbd {v0 v1 v2 v3 v4 v5 v6 v7 v8 v9 v10 v11 v12 v13:Value}{l:List Value}(h:Blk w g t (v0 :: v1 :: v2 :: v3 :: v4 :: v5 :: v6 :: v7 :: v8 :: v9 :: v10 :: v11 :: v12 :: v13 :: l).toArray):w.cell? ⟨g,0,none⟩=some v0∧w.cell? ⟨g,1,none⟩=some v1∧w.cell? ⟨g,2,none⟩=some v2∧w.cell? ⟨g,3,none⟩=some v3∧w.cell? ⟨g,4,none⟩=some v4∧w.cell? ⟨g,5,none⟩=some v5∧w.cell? ⟨g,6,none⟩=some v6∧w.cell? ⟨g,7,none⟩=some v7∧w.cell? ⟨g,8,none⟩=some v8∧w.cell? ⟨g,9,none⟩=some v9∧w.cell? ⟨g,10,none⟩=some v10∧w.cell? ⟨g,11,none⟩=some v11∧w.cell? ⟨g,12,none⟩=some v12∧w.cell? ⟨g,13,none⟩=some v13:=⟨h.cell 0 (by simp),h.cell 1 (by simp),h.cell 2 (by simp),h.cell 3 (by simp),h.cell 4 (by simp),h.cell 5 (by simp),h.cell 6 (by simp),h.cell 7 (by simp),h.cell 8 (by simp),h.cell 9 (by simp),h.cell 10 (by simp),h.cell 11 (by simp),h.cell 12 (by simp),h.cell 13 (by simp)⟩
theorem zbe {v0 v1 v2 v3 v4 v5 v6 v7 v8 v9 v10 v11 v12 v13 v14 v15:Value}{l:List Value}(h:Blk w g t (v0 :: v1 :: v2 :: v3 :: v4 :: v5 :: v6 :: v7 :: v8 :: v9 :: v10 :: v11 :: v12 :: v13 :: v14 :: v15 :: l).toArray):w.cell? ⟨g,0,none⟩=some v0∧w.cell? ⟨g,1,none⟩=some v1∧w.cell? ⟨g,2,none⟩=some v2∧w.cell? ⟨g,3,none⟩=some v3∧w.cell? ⟨g,4,none⟩=some v4∧w.cell? ⟨g,5,none⟩=some v5∧w.cell? ⟨g,6,none⟩=some v6∧w.cell? ⟨g,7,none⟩=some v7∧w.cell? ⟨g,8,none⟩=some v8∧w.cell? ⟨g,9,none⟩=some v9∧w.cell? ⟨g,10,none⟩=some v10∧w.cell? ⟨g,11,none⟩=some v11∧w.cell? ⟨g,12,none⟩=some v12∧w.cell? ⟨g,13,none⟩=some v13∧w.cell? ⟨g,14,none⟩=some v14∧w.cell? ⟨g,15,none⟩=some v15:=⟨h.cell 0 (by simp),h.cell 1 (by simp),h.cell 2 (by simp),h.cell 3 (by simp),h.cell 4 (by simp),h.cell 5 (by simp),h.cell 6 (by simp),h.cell 7 (by simp),h.cell 8 (by simp),h.cell 9 (by simp),h.cell 10 (by simp),h.cell 11 (by simp),h.cell 12 (by simp),h.cell 13 (by simp),h.cell 14 (by simp),h.cell 15 (by simp)⟩
theorem Blk.sl (h:Blk w g t cs):Sl w (some ⟨g,0,none⟩) cs.toList:=by
 intro j u hu;refine⟨_,rfl,?_⟩;rw[Addr.add_lit,Nat.zero_add];exact h.cell j (by simpa using hu)
end
theorem zbf (w:World)(t:TypeId)(c:Array Value):Blk (w.alloc (.cells c t)) w.heap.size t c:=Blk.new _ _ _
theorem zbg (w:World)(t t':TypeId)(c c':Array Value):Blk ((w.alloc (.cells c t)).alloc (.cells c' t')) w.heap.size t c∧Blk ((w.alloc (.cells c t)).alloc (.cells c' t')) (w.heap.size+1) t' c':=
 ⟨(Blk.new _ _ _).alloc _,by have:=Blk.new (w.alloc (.cells c t)) t' c';simpa using this⟩
theorem zbh (w:World)(t t' t'':TypeId)(c c' c'':Array Value):Blk (((w.alloc (.cells c t)).alloc (.cells c' t')).alloc (.cells c'' t'')) w.heap.size t c∧
 Blk (((w.alloc (.cells c t)).alloc (.cells c' t')).alloc (.cells c'' t'')) (w.heap.size+1) t' c'∧Blk (((w.alloc (.cells c t)).alloc (.cells c' t')).alloc (.cells c'' t'')) (w.heap.size+1+1) t'' c'':=
 ⟨(zbg _ _ _ _ _).1.alloc _,(zbg _ _ _ _ _).2.alloc _,by have:=Blk.new ((w.alloc (.cells c t)).alloc (.cells c' t')) t'' c'';simpa using this⟩
theorem Own.set_ {w:World}{B e size n c:Nat}{A:Option Addr}{xs:List Value}(h:Own w B e size A n c xs){p:Addr}(hp:p.block < B)(u:Value):Own (w.setCell p u) B e size A n c xs:=
 h.keep fun g hg _ _=>Below.heap_setCell w p u g (by omega)
theorem zbi {W w:World}{N:Nat}(h:Below N W w){p:Addr}(hp:N≤p.block)(u:Value):Below N W (w.setCell p u):=h.setCell hp u
theorem zbj {k n:Nat}(h1:1≤k)(h2:k≤n)(hn:n≤4611686018427387904):(0:Int)≤ (k:Int) - 1∧(k:Int) - 1 < (n:Int)∧ (0:Int) < (k:Int)∧ (1:Int)≤ (k:Int)∧ (k:Int) < (n:Int)+1∧(k:Int)≤ (n:Int)∧
 k - 1 < n∧decide ((0:Int) < (k:Int))=true∧decide (0 < k)=true∧((k:Int) - 1).toNat=k - 1∧IntKind.i64.wrap ((k:Int) - 1)=(k:Int) - 1:=by
 refine⟨by omega,by omega,by omega,by omega,by omega,by omega,by omega,by simp;omega,by simp;omega,by omega,IntWalk.i64_in _ (by omega)⟩
theorem zbk {k n:Nat}(h:k < n):(0:Int)≤ (k:Int)∧ (k:Int) < (n:Int)∧ ((k:Int)).toNat=k:=by refine⟨by omega,by omega,by omega⟩
def cutA (A:Option Addr) (c k s:Nat):Option Addr:=if c=k then A else A.map (·.add (k * s))
theorem Sl.cutA {w:World}{A:Option Addr}{xs:List Value}(h:Sl w A xs){k c s:Nat}(hc:xs.length≤c * s)(hs:0 < s):Sl w (cutA A c k s) (xs.drop (k * s)):=by
 intro j u hu;rw[List.getElem?_drop] at hu;obtain⟨ad,rfl,hcell⟩:=h _ _ hu;have hlt:=(List.getElem?_eq_some_iff.1 hu).1;unfold Go.Proofs.YtkkpjbjmhaecjaaGreat.cutA;rw[if_neg (by rintro rfl;omega)];exact⟨ad.add (k * s),rfl,by rw[zam];exact hcell⟩
theorem Sl.cut1 {w:World}{A:Option Addr}{xs:List Value}(h:Sl w A xs){k c:Nat}(hc:xs.length≤c):Sl w (Go.Proofs.YtkkpjbjmhaecjaaGreat.cutA A c k 1) (xs.drop k):=by
 have:=h.cutA (k:=k) (c:=c) (s:=1) (by omega) (by omega)
 simpa using this
theorem zbl {P:Program}{T e:TypeId}{i:TypeInfo}{s:Nat}(ht:P.underlying T=some (.slice e))(hi:P.info? e=some i)(hs:i.size=s)(A:Option Addr)(n c k:Nat)(kk:Int)(kd:IntKind)(hk:kk=(k:Int))(hn:k≤n)(hc:n≤c)(w:World) :
 (Instr.slice T (.slice A n c) (some (.int kd kk)) none none).run P w= .ok (.slice (cutA A c k s) (n - k) (c - k)) w:=by
 subst hk;have he:P.elem T=e:=by simp[Program.elem,ht]
 have ht':P.underlying T=some (.slice (P.elem T)):=by rw[he];exact ht
 rw[run_slice_l (P:=P) (w:=w) (t:=T) (a:=A) (len:=n) (cap:=c) ht' kd k (by omega) (by omega)];simp[he,sizeOf,typeInfo,hi,sliced,Go.Proofs.YtkkpjbjmhaecjaaGreat.cutA,hs]
def cellAt (w:World) (g i:Nat):Value:=(w.cell? ⟨g,i,none⟩).getD undef
section
variable {w w' W:World} {g n:Nat}
end
theorem zbm {W w:World}{N:Nat}(h:Below N W w)(g i:Nat)(hg:N≤g)(u:Value):Below N W (w.setCell ⟨g,i,none⟩ u):=h.setCell (p:=⟨g,i,none⟩) hg u
theorem zbn {B:Nat}{a w:World}(h:Below B a w)(n:Nat):Below B a (w.drewN n):=⟨h.os,h.tape,h.output,h.size,h.block⟩
theorem zbo {B:Nat}{a w:World}(h:Below B a w):Below B a w.drew:=h.drew
theorem zbp {W w:World}{N:Nat}{g i:Nat}{u:Value}(hg:N≤g)(h:Below N W w):Below N W (w.setCell ⟨g,i,none⟩ u):=zbm h g i hg u
theorem kBl {P:Prop}(h:P:=by repeat' (first | with_reducible assumption | with_reducible exact Below.refl _ _ | with_reducible apply za7 | with_reducible apply zbo | with_reducible apply zbn | (with_reducible apply za5;with_reducible assumption) | (with_reducible apply zbp;(first | exact Nat.le_refl _ | (simp;done) | omega)))):P:=h
theorem kSn {P:Prop}(h:P:=by ((try dsimp only);(((try go_split_ands);refine sn_of ?_;all_goals exact kBl)))):P:=h
end
end Go.Proofs.YtkkpjbjmhaecjaaGreat
