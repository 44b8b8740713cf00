/- None -/
import Derived.Test.YtkkpjbjmhaecjaaGreatU04
import Derived.Test.YtkkpjbjmhaecjaaGreatU03
namespace Go.Proofs.YtkkpjbjmhaecjaaGreat
set_option linter.all false
set_option maxRecDepth 100000
set_option maxHeartbeats 4000000
section
section
open Go.RowKit
structure Ms where
 kind:Int
 ix:Int
 sub:Int
 tg:Bool
 la:Bool
 cr:Bool
 sz:Bool
 size:Nat
 code:Nat
 data:List UInt8
 sq:Int
 bl:Int
 em:Int
 sum:Nat
 deriving DecidableEq
def msV (M:Ms) (A:Option Addr) (n c:Nat):Array Value:=#[.int .i64 M.kind,.int .i64 M.ix,.int .i64 M.sub,.bool M.tg,.bool M.la,.bool M.cr,.bool M.sz,.int .u32 (M.size:Nat),.int .u32 (M.code:Nat),.slice A n c,.int .i64 M.sq,.int .i64 M.bl,.int .i64 M.em,.int .u16 (M.sum:Nat)]
end
section
open Go.RowKit
structure SegO where
 ms:List Ms
 wr:Bool
 ix:Int
 sub:Int
 b:List UInt8
def outZ:SegO:=⟨[],false,0,0,[]⟩
def outM (M:Ms):SegO:=⟨[M],false,0,0,[]⟩
def outL (l:List Ms):SegO:=⟨l,false,0,0,[]⟩
def mostE (E:Ent):Int:=if 0 < tyBits E.ty then tySize E.ty else if E.mx < 0 then 0 else if 256 < E.mx then 256 else E.mx
def fitsC (E:Ent) (n:Int):Int:=if mostE E < n then 101122066 else if n < tySize E.ty then 101122067 else 0
def smayC (L:List Ent) (ix sub:Int):Int:=if codeL L ix sub=0 then writeE (entK L (locK L ix sub)).acc else codeL L ix sub
def abM (ix sub:Int) (code:Nat):Ms:=⟨1,ix,sub,false,false,false,false,0,code,[],0,0,0,0⟩
def okM (k ix sub:Int) (tg:Bool):Ms:=⟨k,ix,sub,tg,false,false,false,0,0,[],0,0,0,0⟩
def getB (L:List Ent) (V:List (List UInt8)) (ix sub:Int):List UInt8:=if getC L ix sub=0 then valK V (locK L ix sub) else []
end
end
section
open Go.RowKit
theorem zds {P:Program}{w:World}(dT sT ty elem:TypeId)(hu:P.underlying dT=some (.slice elem))(hsz:(P.info? elem).map (·.size)=some 1)
 (B e:Nat) (A:Option Addr) (n c:Nat) (xs:List Value) (hown:Own w B e 1 A n c xs)
 (A2:Option Addr) (m c2:Nat) (ys:List Value) (hl:ys.length=m) (hr:Sl w A2 ys) (h1:∀u ∈ ys,u.oneCell'=true) :
 ∃w',(Builtin.copy_ #[dT,sT] ty #[.slice A n c,.slice A2 m c2]).run P w= .ok (goInt (Nat.min m n)) w'∧Own w' B e 1 A n c (ys.take n ++ xs.drop m)∧ w.grownBy w' (Value.ownBlock (.slice A n c))∧ Below B w w':=by
 have hxl:xs.length=n:=by simpa using hown.len
 by_cases h0:Nat.min m n=0
 · refine⟨w,by rw[h0];exact run_copy_none (P:=P) w dT sT ty elem A A2 n c m c2 hu hsz h0,?_,World.grownBy.refl _ _,Below.refl _ _⟩;have hm:m=0∨n=0:=by
    rcases Nat.le_total m n with h' | h'
    · left;rw[←h0];exact (Nat.min_eq_left h').symm
    · right;rw[←h0];exact (Nat.min_eq_right h').symm
   rcases hm with rfl | rfl
   · rw[List.eq_nil_of_length_eq_zero hl];simpa using hown
   · rw[List.eq_nil_of_length_eq_zero hxl] at hown ⊢;simpa using hown
 · have hn0:0 < n:=by
    rcases Nat.eq_zero_or_pos n with h' | h'
    · subst h';simp at h0
    · exact h'
   have hm0:0 < m:=by
    rcases Nat.eq_zero_or_pos m with h' | h'
    · subst h';simp at h0
    · exact h'
   obtain⟨ad,rfl,_⟩:=hr 0 _ (List.getElem?_eq_getElem (by omega));rcases hown.2 with ⟨hv,hz⟩ | ⟨g,cap,cur,hv,hb,hg,hnc,hcm,hcs,htake⟩
   · omega
   · injection hv with hA _ hcc
     subst hA;subst hcc;have hmn:Nat.min m n≤n:=Nat.min_le_right _ _;have hcl:(ys.take n).length=Nat.min m n:=by rw[List.length_take,hl];exact Nat.min_comm _ _
     have hrun:=run_copy_row (P:=P) w dT sT ty elem g 0 n c ad m c2 cur e (ys.take n) hu hsz hg hcl (by
      intro j v hv;rw[List.getElem?_take] at hv;split at hv
      · obtain⟨ad',h',hc⟩:=hr j v hv;injection h' with h'
        subst h';exact hc
      · simp at hv) (by rw[hcl];omega) (by intro v hv;exact h1 v (List.mem_of_mem_take hv))
     rw[hcl] at hrun;refine⟨_,hrun,?_⟩;have hnl:(ys.take n ++ xs.drop m).length=n:=by
      rw[List.length_append,hcl,List.length_drop,hxl];show min m n+(n - m)=n;omega
     refine⟨⟨by simpa using hnl,.inr ⟨g,c,_,rfl,hb,setRow_heap w g _ _ e _ hg,hnc,hcm,?_,?_⟩⟩,⟨rfl,rfl,rfl,by simp[World.setRow],fun k hk hne=>setRow_other w g k _ (by simpa [Value.ownBlock] using hne)⟩,below_setRow (Below.refl _ _) hb _⟩
     · simp only[List.size_toArray,List.take_zero,List.nil_append,List.length_append,List.length_drop,Array.length_toList,hcl];omega
     · simp only[List.take_zero,List.nil_append,Nat.zero_add,Nat.mul_one];rw[List.take_append,hcl];have e1:(ys.take n).take n=ys.take n:=by rw[List.take_take,Nat.min_self]
       rw[e1]
       congr 1
       rw[List.take_drop];have e2:Nat.min m n+(n - Nat.min m n)=n:=by omega
       rw[e2];rw[Nat.mul_one] at htake;rw[htake];rcases Nat.le_total m n with h' | h'
       · rw[show Nat.min m n=m from Nat.min_eq_left h']
       · rw[show Nat.min m n=n from Nat.min_eq_right h',List.drop_eq_nil_of_le (by omega),List.drop_eq_nil_of_le (by omega)]
theorem zdt {o:Oper}{a:Act}{K:Act→World→Prop}{Q:Exit→Act→World→Prop}{w:World}(d s:Operand)
 (ho:o.op= .call { callee:= .builtin .copy,args:=#[d,s],argTypes:=#[27,27] })
 (B:Nat) (A:Option Addr) (n c:Nat) {l:List UInt8} (hd:a.eval d= .slice A n c) (hown:zbs w B A n c l)
 (A2:Option Addr) (m c2:Nat) (l2:List UInt8) (hs:a.eval s= .slice A2 m c2) (hm:m=l2.length) (hr:Sl w A2 (l2.map bv))
 (l3:List UInt8) (hl3:l2.take n ++ l.drop m=l3)
 (h:∀w',zbs w' B A n c l3→w.grownBy w' (Value.ownBlock (.slice A n c))→ Below B w w'→K (a.put o.dst (goInt (Nat.min m n))) w'):Oper.wp Tryz.prog o a w K Q:=by
 obtain⟨w',hrun,h1,h2,h3⟩:=zds (P:=Tryz.prog) (w:=w) 27 27 o.type 5 Tryz.underlying27 zbr B _ A n c _ hown.own A2 m c2 (l2.map bv) (by simp[hm]) hr (za1 _);unfold Oper.wp;simp[execOp,ho,resolve,invoke,builtin,hd,hs,hrun,Result.andThen];refine h w' ⟨?_,?_⟩ h2 h3
 · have:=hown.hn
   rw[←hl3]
   simp
   omega
 · rw[←hl3]
   simpa using h1
def msF (M:Ms) (d:Option Addr×Nat):List Value:=[.int .i64 M.kind,.int .i64 M.ix,.int .i64 M.sub,.bool M.tg,.bool M.la,.bool M.cr,.bool M.sz,.int .u32 (M.size:Nat),.int .u32 (M.code:Nat),.slice d.1 M.data.length d.2,.int .i64 M.sq,.int .i64 M.bl,.int .i64 M.em,.int .u16 (M.sum:Nat)]
theorem zdu (M:Ms)(d:Option Addr×Nat):(msF M d).length=14:=rfl
theorem zdv (M:Ms)(d:Option Addr×Nat):∀u ∈ msF M d,u.oneCell'=true:=by
 intro u hu;simp[msF] at hu;rcases hu with rfl | rfl | rfl | rfl | rfl | rfl | rfl | rfl | rfl | rfl | rfl | rfl | rfl | rfl<;>rfl
theorem zdw:(Tryz.prog.info? 95).map (fun i=>(i.zero,i.size,i.bytes))=some (some (.agg #[.int .i64 0,.int .i64 0,.int .i64 0,.bool false,.bool false,.bool false,.bool false,.int .u32 0,.int .u32 0,.slice none 0 0,.int .i64 0,.int .i64 0,.int .i64 0,.int .u16 0]),14,96):=by kernel_rfl
abbrev OwnM (w:World) (F:Nat→Prop) (A:Option Addr) (n c:Nat) (L:List Ms) (ds:List (Option Addr×Nat)):Prop:=zb2 msF 14 95 Ms.data w F A n c L ds
def zdx (ds:List (Option Addr×Nat)):Prop:=ds.Pairwise (fun a b=> ∀g,a.1=some (⟨g,0,none⟩:Addr)→ b.1≠some ⟨g,0,none⟩)
theorem zdx.snoc {ds:List (Option Addr×Nat)}(h:zdx ds){d:Option Addr×Nat}{N:Nat}(h1:∀e ∈ ds,∀g,e.1=some (⟨g,0,none⟩:Addr)→ g < N)(h2:FIn (fun g=>N≤g) d.1):zdx (ds ++ [d]):=by
 unfold zdx;rw[List.pairwise_append];refine⟨h,List.pairwise_singleton _ _,?_⟩;intro a ha b hb g hg he;simp at hb;subst hb
 have:=h1 a ha g hg
 have:=h2 g he
 omega
theorem zdy {α:Type}{f: α→Option Addr×Nat→List Value}{k:Nat}{e:TypeId}{dat: α→List UInt8}{w:World}{F:Nat→Prop}{A:Option Addr}{n c:Nat}{L:List α}{ds:List (Option Addr×Nat)}(h:zb2 f k e dat w F A n c L ds):∀d ∈ ds,∀g,d.1=some (⟨g,0,none⟩:Addr)→ g < w.heap.size:=by
 intro d hd g hg;obtain⟨j,hj,rfl⟩:=List.getElem_of_mem hd;obtain⟨v,hv⟩:∃v,L[j]? =some v:=⟨L[j]'(by rw[←h.hd];exact hj),List.getElem?_eq_getElem _⟩;exact ((h.data j v _ hv (List.getElem?_eq_getElem hj)).1.own.fin g hg).2
def zdz (w:World) (F:Nat→Prop) (A:Option Addr) (n c:Nat) (L:List Ms) (ds:List (Option Addr×Nat)):Prop:=OwnM w F A n c L ds∧zdx ds
theorem zdz.nil (w:World)(F:Nat→Prop):zdz w F none 0 0 [] []:=⟨zb2.nil _ _,List.Pairwise.nil⟩
theorem zdz.below {w w':World}{F:Nat→Prop}{A:Option Addr}{n c:Nat}{L:List Ms}{ds:List (Option Addr×Nat)}(h:zdz w F A n c L ds)(hb:Below w.heap.size w w'):zdz w' F A n c L ds:=⟨h.1.below hb,h.2⟩
theorem zdz.keep {w w':World}{F:Nat→Prop}{A:Option Addr}{n c:Nat}{L:List Ms}{ds:List (Option Addr×Nat)}(h:zdz w F A n c L ds)(hk:∀g,F g→g < w.heap.size→w'.heap[g]? =w.heap[g]?):zdz w' F A n c L ds:=⟨h.1.keep hk,h.2⟩
theorem zdz.mono {w:World}{F G:Nat→Prop}{A:Option Addr}{n c:Nat}{L:List Ms}{ds:List (Option Addr×Nat)}(h:zdz w F A n c L ds)(hG:∀g,g < w.heap.size→F g→G g):zdz w G A n c L ds:=⟨h.1.mono hG,h.2⟩
end
section
open Go.RowKit
theorem zd0:(Tryz.prog.info? 95).map (·.size)=some 14:=by kernel_rfl
theorem zd1 {fn:Func}{p:Tmp}(h:fn.results= #[.cell p 95]){a:Act}{w:World}{g:Nat}{M:Ms}{A:Option Addr}{n c:Nat}{R:Ending→World→Prop}(hd:a.defers= [])(hp:a.tmps.getD p undef= .pointer (some ⟨g,0,none⟩))
 (hB:Blk w g 95 (msV M A n c)) (hR:R (.returned (.agg (msV M A n c))) w):bodyPost Tryz.prog fn R .ret a w:=
 bodyPost_ret (results_cell_row h _ _ _ _ _ _ _ hp hB Tryz.underlying95 rfl zd0) hd hR
end
section
open Go.RowKit
def entF (E:Ent) (d:Option Addr×Nat):List Value:=(entV E d.1 E.df.length d.2).toList
def valF (v:List UInt8) (d:Option Addr×Nat):List Value:=[.slice d.1 v.length d.2]
theorem zd2 (E:Ent)(d:Option Addr×Nat):(entF E d).length=11:=rfl
theorem zd3 (v:List UInt8)(d:Option Addr×Nat):(valF v d).length=1:=rfl
theorem zd4 (E:Ent)(d:Option Addr×Nat):∀u ∈ entF E d,u.oneCell'=true:=by
 intro u hu;simp only[entF,entV,List.mem_cons,List.not_mem_nil,or_false] at hu;rcases hu with rfl | rfl | rfl | rfl | rfl | rfl | rfl | rfl | rfl | rfl | rfl<;>rfl
theorem zd5 (v:List UInt8)(d:Option Addr×Nat):∀u ∈ valF v d,u.oneCell'=true:=by
 intro u hu;simp only[valF,List.mem_cons,List.not_mem_nil,or_false] at hu;subst hu
 rfl
theorem zd6:(Tryz.prog.info? 90).map (fun i=>(i.zero,i.size,i.bytes))=some (some (.agg #[.int .i64 0,.int .i64 0,.string ⟨#[]⟩,.int .i64 0,.int .i64 0,.bool false,.bool false,.int .i64 0,.int .i64 0,.int .i64 0,.slice none 0 0]),11,104):=by kernel_rfl
theorem zd7:(Tryz.prog.info? 27).map (fun i=>(i.zero,i.size,i.bytes))=some (some (.slice none 0 0),1,24):=by kernel_rfl
def fitE (E:Ent):Prop:=E.df.length≤35184372088832∧E.nm.size≤9223372036854775807
def fitB (v:List UInt8):Prop:=v.length≤35184372088832
abbrev OwnE (w:World) (F:Nat→Prop) (A:Option Addr) (n c:Nat) (L:List Ent) (ds:List (Option Addr×Nat)):Prop:=zb2 entF 11 90 Ent.df w F A n c L ds
abbrev OwnS (w:World) (F:Nat→Prop) (A:Option Addr) (n c:Nat) (V:List (List UInt8)) (es:List (Option Addr×Nat)):Prop:=zb2 valF 1 27 (fun v=>v) w F A n c V es
structure DB (T:TypeId) (w:World) (F:Nat→Prop) (p:Nat) (Al:Option Addr) (n cl:Nat) (Av:Option Addr) (cv:Nat) (L:List Ent) (V:List (List UInt8)) (ds es:List (Option Addr×Nat)):Prop where
 blk:Blk w p T #[.slice Al n cl,.slice Av n cv]
 inF:F p
 ents:OwnE w F Al n cl L ds
 vals:OwnS w F Av n cv V es
 fe:∀E ∈ L,fitE E
 fv:∀v ∈ V,fitB v
section
variable {T:TypeId} {w w':World} {F G:Nat→Prop} {p n cl cv:Nat} {Al Av:Option Addr} {L:List Ent} {V:List (List UInt8)} {ds es:List (Option Addr×Nat)}
theorem DB.keep (h:DB T w F p Al n cl Av cv L V ds es)(hk:∀g,F g→g < w.heap.size→w'.heap[g]? =w.heap[g]?):DB T w' F p Al n cl Av cv L V ds es:=
 ⟨(hk p h.inF h.blk.lt).trans h.blk,h.inF,h.ents.keep hk,h.vals.keep hk,h.fe,h.fv⟩
theorem DB.below (h:DB T w F p Al n cl Av cv L V ds es)(hb:Below w.heap.size w w'):DB T w' F p Al n cl Av cv L V ds es:=h.keep fun g _ hlt=>hb.block g hlt
theorem DB.mono (h:DB T w F p Al n cl Av cv L V ds es)(hG:∀g,g < w.heap.size→F g→G g):DB T w G p Al n cl Av cv L V ds es:=
 ⟨h.blk,hG p h.blk.lt h.inF,h.ents.mono hG,h.vals.mono hG,h.fe,h.fv⟩
theorem DB.lenV (h:DB T w F p Al n cl Av cv L V ds es):V.length=L.length:=by rw[←h.vals.hn,←h.ents.hn]
theorem DB.ent (h:DB T w F p Al n cl Av cv L V ds es){k:Nat}{E:Ent}(hE:L[k]? =some E):∃g d,Al=some ⟨g,0,none⟩∧ g < w.heap.size∧ds[k]? =some d∧zbs w 0 d.1 E.df.length d.2 E.df∧fitE E∧
 w.cell? ⟨g,k * 11,none⟩=some (.int .i64 E.ix)∧ w.cell? ⟨g,k * 11+1,none⟩=some (.int .i64 E.sub)∧ w.cell? ⟨g,k * 11+2,none⟩=some (.string E.nm)∧ w.cell? ⟨g,k * 11+3,none⟩=some (.int .i64 E.ty)∧
 w.cell? ⟨g,k * 11+4,none⟩=some (.int .i64 E.acc)∧ w.cell? ⟨g,k * 11+5,none⟩=some (.bool E.mp)∧ w.cell? ⟨g,k * 11+6,none⟩=some (.bool E.st)∧ w.cell? ⟨g,k * 11+7,none⟩=some (.int .i64 E.mx)∧
 w.cell? ⟨g,k * 11+8,none⟩=some (.int .i64 E.lo)∧ w.cell? ⟨g,k * 11+9,none⟩=some (.int .i64 E.hi)∧ w.cell? ⟨g,k * 11+10,none⟩=some (.slice d.1 E.df.length d.2):=by
 obtain⟨d,hd,hO,_⟩:=h.ents.elem hE;obtain⟨g,hA,hlt,hc⟩:=h.ents.cells zd2 hE hd (by omega);exact⟨g,d,hA,hlt,hd,hO,h.fe E (List.mem_of_getElem? hE),hc 0 _ rfl,hc 1 _ rfl,hc 2 _ rfl,hc 3 _ rfl,hc 4 _ rfl,hc 5 _ rfl,hc 6 _ rfl,hc 7 _ rfl,hc 8 _ rfl,hc 9 _ rfl,hc 10 _ rfl⟩
theorem DB.val (h:DB T w F p Al n cl Av cv L V ds es){k:Nat}{v:List UInt8}(hv:V[k]? =some v):∃g d,Av=some ⟨g,0,none⟩∧ g < w.heap.size∧es[k]? =some d∧zbs w 0 d.1 v.length d.2 v∧fitB v∧
 w.cell? ⟨g,k,none⟩=some (.slice d.1 v.length d.2)∧ w.frozen? ⟨g,k,none⟩=false∧F g:=by
 obtain⟨d,hd,hO,_⟩:=h.vals.elem hv;obtain⟨g,hA,hlt,hc⟩:=h.vals.cells zd3 hv hd (by omega);have hk:k < n:=by rw[h.vals.hn];exact (List.getElem?_eq_some_iff.1 hv).1
 obtain⟨g',u,hA',_,_,_,_,hf⟩:=h.vals.own.cell hk;rw[hA] at hA';injection hA' with hA'
 injection hA' with hA'
 subst hA';exact⟨g,d,hA,hlt,hd,hO,h.fv v (List.mem_of_getElem? hv),by have:=hc 0 _ rfl;rw[Nat.mul_one] at this;exact this,hf,h.vals.inF g hA⟩
theorem DB.store {g:Nat}(h:DB T w F p Al n cl (some ⟨g,0,none⟩) cv L V ds es)(hT:T≠27){k:Nat}{v:List UInt8}{A:Option Addr}{m c:Nat}(hk:k < n)(hv:zbs w 0 A m c v)(hF:FIn F A)(hfit:fitB v) :
 DB T (w.setCell ⟨g,k,none⟩ (.slice A m c)) F p Al n cl (some ⟨g,0,none⟩) cv L (V.set k v) ds (es.set k (A,c)):=by
 obtain rfl:=hv.hn;have hv':zbs w 0 (A,c).1 v.length (A,c).2 v:=hv;have hG:w.grownBy (w.setCell ⟨g,k,none⟩ (.slice A v.length c)) (Value.ownBlock (.slice (some ⟨g,0,none⟩) n cv)):=za3 (World.grownBy.refl _ _) (.inl rfl) k _;have keepB:∀ {m:Nat} {dd:Option Addr×Nat} {l:List UInt8},zbs w 0 dd.1 m dd.2 l→zbs (w.setCell ⟨g,k,none⟩ (.slice A v.length c)) 0 dd.1 m dd.2 l:=fun hO=>⟨hO.hn,hO.own.grown hG (zbx hO.own h.vals.own (by decide))⟩
 refine⟨h.blk.grown hG (zby h.blk h.vals.own hT),h.inF,⟨h.ents.hn,h.ents.hd,h.ents.own.grown hG (zbx h.ents.own h.vals.own (by decide)),h.ents.inF,fun j E d h1 h2=>⟨keepB (h.ents.data j E d h1 h2).1,(h.ents.data j E d h1 h2).2⟩⟩,?_,h.fe,?_⟩
 · exact h.vals.store zd3 (by decide) (v:=v) (d:=(A,c)) (u:= .slice A v.length c) rfl hk hv' hF
 · intro x hx;rcases List.mem_or_eq_of_mem_set hx with hx | rfl
   · exact h.fv x hx
   · exact hfit
end
end
section
open Go.RowKit
theorem zd8 (E:Ent)(A:Option Addr)(n c:Nat)(w:World):Calls Tryz.prog 85 #[.agg (entV E A n c)] w fun e w'=>e= .returned (.int .u32 (readE E.acc))∧ Below w.heap.size w w':=by
 obtain⟨ix,sub,nm,ty,acc,mp,st,mx,lo,hi,df⟩:=E;unfold entV;go_enter Tryz.func85,Tryz.ntmps85
 go_wp2_with fail
 all_goals (go_ret;exact⟨zau (by simp_all [readE];try omega),za7 (Below.refl _ _) _⟩)
theorem zd9 (E:Ent)(A:Option Addr)(n c:Nat)(w:World):Calls Tryz.prog 144 #[.agg (entV E A n c)] w fun e w'=>e= .returned (.int .u32 (writeE E.acc))∧ Below w.heap.size w w':=by
 obtain⟨ix,sub,nm,ty,acc,mp,st,mx,lo,hi,df⟩:=E;unfold entV;go_enter Tryz.func144,Tryz.ntmps144
 go_wp2_with fail
 all_goals (go_ret;exact⟨zau (by simp_all [writeE];try omega),za7 (Below.refl _ _) _⟩)
theorem zea (E:Ent)(A:Option Addr)(n c:Nat)(w:World):Calls Tryz.prog 210 #[.agg (entV E A n c)] w fun e w'=>e= .returned (.int .u32 (readE E.acc))∧ Below w.heap.size w w':=by
 obtain⟨ix,sub,nm,ty,acc,mp,st,mx,lo,hi,df⟩:=E;unfold entV;go_enter Tryz.func210,Tryz.ntmps210
 go_wp2_with fail
 all_goals (go_ret;exact⟨zau (by simp_all [readE];try omega),za7 (Below.refl _ _) _⟩)
theorem zeb (E:Ent)(A:Option Addr)(n c:Nat)(w:World):Calls Tryz.prog 174 #[.agg (entV E A n c)] w fun e w'=>e= .returned (.int .u32 (writeE E.acc))∧ Below w.heap.size w w':=by
 obtain⟨ix,sub,nm,ty,acc,mp,st,mx,lo,hi,df⟩:=E;unfold entV;go_enter Tryz.func174,Tryz.ntmps174
 go_wp2_with fail
 all_goals (go_ret;exact⟨zau (by simp_all [writeE];try omega),za7 (Below.refl _ _) _⟩)
theorem zec (E F:Ent)(A B:Option Addr)(n c m d:Nat)(w:World):Calls Tryz.prog 40 #[.agg (entV E A n c),.agg (entV F B m d)] w fun e w'=>e= .returned (.bool (beforeB E.ix E.sub F.ix F.sub))∧ Below w.heap.size w w':=by
 obtain⟨ix,sub,nm,ty,acc,mp,st,mx,lo,hi,df⟩:=E;obtain⟨ix',sub',nm',ty',acc',mp',st',mx',lo',hi',df'⟩:=F;unfold entV;go_enter Tryz.func40,Tryz.ntmps40
 go_wp2_with fail
 all_goals (go_ret;exact⟨zav (by rw[Bool.eq_iff_iff];simp_all [beforeB];try omega),za7 (za7 (Below.refl _ _) _) _⟩)
theorem zed (E F:Ent)(A B:Option Addr)(n c m d:Nat)(w:World):Calls Tryz.prog 44 #[.agg (entV E A n c),.agg (entV F B m d)] w fun e w'=>e= .returned (.bool (beforeB E.ix E.sub F.ix F.sub))∧ Below w.heap.size w w':=by
 obtain⟨ix,sub,nm,ty,acc,mp,st,mx,lo,hi,df⟩:=E;obtain⟨ix',sub',nm',ty',acc',mp',st',mx',lo',hi',df'⟩:=F;unfold entV;go_enter Tryz.func44,Tryz.ntmps44
 go_wp2_with fail
 all_goals (go_ret;exact⟨zav (by rw[Bool.eq_iff_iff];simp_all [beforeB];try omega),za7 (za7 (Below.refl _ _) _) _⟩)
end
end Go.Proofs.YtkkpjbjmhaecjaaGreat
