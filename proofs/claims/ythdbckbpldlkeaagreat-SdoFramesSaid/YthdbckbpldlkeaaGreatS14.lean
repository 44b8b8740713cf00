/- None -/
import Derived.Test.YthdbckbpldlkeaaGreatS13
namespace Go.Proofs.YthdbckbpldlkeaaGreat
set_option linter.unusedVariables false
set_option linter.unusedSimpArgs false
set_option linter.unnecessarySimpa false
section
open Go.RowKit
set_option maxRecDepth 100000
set_option maxHeartbeats 4000000
theorem zf3 {P:Program} {w:World} (dT sT ty elem:TypeId) (hu:P.underlying dT=some (.slice elem)) (hsz:(P.info? elem).map (·.size)=some 1)
 (B e:Nat) (A:Option Addr) (n c:Nat) (xs:List Value) (hown:Own w B e 1 A n c xs)
 (A2:Option Addr) (m c2:Nat) (ys:List Value) (hl:ys.length=m) (hr:Sl w A2 ys) (h1:∀ u ∈ ys,u.oneCell'=true) :
 ∃ w',(Builtin.copy_ #[dT,sT] ty #[.slice A n c,.slice A2 m c2]).run P w= .ok (goInt (Nat.min m n)) w'∧Own w' B e 1 A n c (ys.take n ++ xs.drop m)∧ w.grownBy w' (Value.ownBlock (.slice A n c))∧ Below B w w':=by
 have hxl:xs.length=n:=by simpa using hown.len
 by_cases h0:Nat.min m n=0
 · refine⟨w,by rw[h0];exact run_copy_none (P:=P) w dT sT ty elem A A2 n c m c2 hu hsz h0,?_,World.grownBy.refl _ _,Below.refl _ _⟩
   have hm:m=0∨n=0:=by
    rcases Nat.le_total m n with h' | h'
    · left;rw[← h0];exact (Nat.min_eq_left h').symm
    · right;rw[← h0];exact (Nat.min_eq_right h').symm
   rcases hm with rfl | rfl
   · rw[List.eq_nil_of_length_eq_zero hl];simpa using hown
   · rw[List.eq_nil_of_length_eq_zero hxl] at hown ⊢;simpa using hown
 · have hn0:0 < n:=by
    rcases Nat.eq_zero_or_pos n with h' | h'
    · subst h';simp at h0
    · exact h'
   have hm0:0 < m:=by
    rcases Nat.eq_zero_or_pos m with h' | h'
    · subst h';simp at h0
    · exact h'
   obtain⟨ad,rfl,_⟩:= hr 0 _ (List.getElem?_eq_getElem (by omega))
   rcases hown.2 with ⟨hv,hz⟩ | ⟨g,cap,cur,hv,hb,hg,hnc,hcm,hcs,htake⟩
   · omega
   · injection hv with hA _ hcc
     subst hA
     subst hcc
     have hmn:Nat.min m n≤n:=Nat.min_le_right _ _
     have hcl:(ys.take n).length=Nat.min m n:=by rw[List.length_take,hl];exact Nat.min_comm _ _
     have hrun:=run_copy_row (P:=P) w dT sT ty elem g 0 n c ad m c2 cur e (ys.take n) hu hsz hg hcl (by
      intro j v hv
      rw[List.getElem?_take] at hv
      split at hv
      · obtain⟨ad',h',hc⟩:= hr j v hv
        injection h' with h'
        subst h'
        exact hc
      · simp at hv) (by rw[hcl];omega) (by intro v hv;exact h1 v (List.mem_of_mem_take hv))
     rw[hcl] at hrun
     refine⟨_,hrun,?_⟩
     have hnl:(ys.take n ++ xs.drop m).length=n:=by
      rw[List.length_append,hcl,List.length_drop,hxl]
      show min m n+(n - m)=n
      omega
     refine⟨⟨by simpa using hnl,.inr ⟨g,c,_,rfl,hb,setRow_heap w g _ _ e _ hg,hnc,hcm,?_,?_⟩⟩,⟨rfl,rfl,rfl,by simp[World.setRow],fun k hk hne=>setRow_other w g k _ (by simpa [Value.ownBlock] using hne)⟩,below_setRow (Below.refl _ _) hb _⟩
     · simp only[List.size_toArray,List.take_zero,List.nil_append,List.length_append,List.length_drop,Array.length_toList,hcl]
       omega
     · simp only[List.take_zero,List.nil_append,Nat.zero_add,Nat.mul_one]
       rw[List.take_append,hcl]
       have e1:(ys.take n).take n=ys.take n:=by rw[List.take_take,Nat.min_self]
       rw[e1]
       congr 1
       rw[List.take_drop]
       have e2:Nat.min m n+(n - Nat.min m n)=n:=by omega
       rw[e2]
       rw[Nat.mul_one] at htake
       rw[htake]
       rcases Nat.le_total m n with h' | h'
       · rw[show Nat.min m n=m from Nat.min_eq_left h']
       · rw[show Nat.min m n=n from Nat.min_eq_right h',List.drop_eq_nil_of_le (by omega),List.drop_eq_nil_of_le (by omega)]
theorem zf4 {o:Oper} {a:Act} {K:Act→World→Prop} {Q:Exit→Act→World→Prop} {w:World} (d s:Operand)
 (ho:o.op= .call { callee:= .builtin .copy,args:= #[d,s],argTypes:= #[27,27] })
 (B:Nat) (A:Option Addr) (n c:Nat) {l:List UInt8} (hd:a.eval d= .slice A n c) (hown:zdq w B A n c l)
 (A2:Option Addr) (m c2:Nat) (l2:List UInt8) (hs:a.eval s= .slice A2 m c2) (hm:m=l2.length) (hr:Sl w A2 (l2.map bv))
 (l3:List UInt8) (hl3:l2.take n ++ l.drop m=l3)
 (h:∀ w',zdq w' B A n c l3→w.grownBy w' (Value.ownBlock (.slice A n c))→ Below B w w'→K (a.put o.dst (goInt (Nat.min m n))) w'):Oper.wp Tryz.prog o a w K Q:=by
 obtain⟨w',hrun,h1,h2,h3⟩:= zf3 (P:=Tryz.prog) (w:=w) 27 27 o.type 5 Tryz.underlying27 zdp B _ A n c _ hown.own A2 m c2 (l2.map bv) (by simp[hm]) hr (zcw _)
 unfold Oper.wp
 simp[execOp,ho,resolve,invoke,builtin,hd,hs,hrun,Result.andThen]
 refine h w' ⟨?_,?_⟩ h2 h3
 · have:=hown.hn
   rw[← hl3]
   simp
   omega
 · rw[← hl3]
   simpa using h1
def msF (M:Ms) (d:Option Addr×Nat):List Value:= [.int .i64 M.kind,.int .i64 M.ix,.int .i64 M.sub,.bool M.tg,.bool M.la,.bool M.cr,.bool M.sz,.int .u32 (M.size:Nat),.int .u32 (M.code:Nat),.slice d.1 M.data.length d.2,.int .i64 M.sq,.int .i64 M.bl,.int .i64 M.em,.int .u16 (M.sum:Nat)]
theorem zf5 (M:Ms) (d:Option Addr×Nat):(msF M d).length=14:=rfl
theorem zf6 (M:Ms) (d:Option Addr×Nat):∀ u ∈ msF M d,u.oneCell'=true:=by
 intro u hu
 simp[msF] at hu
 rcases hu with rfl | rfl | rfl | rfl | rfl | rfl | rfl | rfl | rfl | rfl | rfl | rfl | rfl | rfl<;>rfl
theorem zf7:(Tryz.prog.info? 102).map (fun i=>(i.zero,i.size,i.bytes))=some (some (.agg #[.int .i64 0,.int .i64 0,.int .i64 0,.bool false,.bool false,.bool false,.bool false,.int .u32 0,.int .u32 0,.slice none 0 0,.int .i64 0,.int .i64 0,.int .i64 0,.int .u16 0]),14,96):= by kernel_rfl
abbrev OwnM (w:World) (F:Nat→Prop) (A:Option Addr) (n c:Nat) (L:List Ms) (ds:List (Option Addr×Nat)):Prop:=zd3 msF 14 102 Ms.data w F A n c L ds
def zf8 (ds:List (Option Addr×Nat)):Prop:=ds.Pairwise (fun a b=> ∀ g,a.1=some (⟨g,0,none⟩:Addr)→ b.1≠some ⟨g,0,none⟩)
theorem zf8.snoc {ds:List (Option Addr×Nat)} (h:zf8 ds) {d:Option Addr×Nat} {N:Nat} (h1:∀ e ∈ ds,∀ g,e.1=some (⟨g,0,none⟩:Addr)→ g < N) (h2:FIn (fun g=>N≤g) d.1):zf8 (ds ++ [d]):= by
 unfold zf8
 rw[List.pairwise_append]
 refine⟨h,List.pairwise_singleton _ _,?_⟩
 intro a ha b hb g hg he
 simp at hb
 subst hb
 have:=h1 a ha g hg
 have:=h2 g he
 omega
theorem zf9 {α:Type} {f: α→Option Addr×Nat→List Value} {k:Nat} {e:TypeId} {dat: α→List UInt8} {w:World} {F:Nat→Prop} {A:Option Addr} {n c:Nat} {L:List α} {ds:List (Option Addr×Nat)} (h:zd3 f k e dat w F A n c L ds):∀ d ∈ ds,∀ g,d.1=some (⟨g,0,none⟩:Addr)→ g < w.heap.size:=by
 intro d hd g hg
 obtain⟨j,hj,rfl⟩:= List.getElem_of_mem hd
 obtain⟨v,hv⟩:∃ v,L[j]? =some v:=⟨L[j]'(by rw[← h.hd];exact hj),List.getElem?_eq_getElem _⟩
 exact ((h.data j v _ hv (List.getElem?_eq_getElem hj)).1.own.fin g hg).2
def zgb (w:World) (F:Nat→Prop) (A:Option Addr) (n c:Nat) (L:List Ms) (ds:List (Option Addr×Nat)):Prop:=OwnM w F A n c L ds∧zf8 ds
theorem zgb.nil (w:World) (F:Nat→Prop):zgb w F none 0 0 [] []:= ⟨zd3.nil _ _,List.Pairwise.nil⟩
theorem zgb.below {w w':World} {F:Nat→Prop} {A:Option Addr} {n c:Nat} {L:List Ms} {ds:List (Option Addr×Nat)} (h:zgb w F A n c L ds) (hb:Below w.heap.size w w'):zgb w' F A n c L ds:=⟨h.1.below hb,h.2⟩
theorem zgb.keep {w w':World} {F:Nat→Prop} {A:Option Addr} {n c:Nat} {L:List Ms} {ds:List (Option Addr×Nat)} (h:zgb w F A n c L ds) (hk:∀ g,F g→g < w.heap.size→w'.heap[g]? =w.heap[g]?):zgb w' F A n c L ds:=⟨h.1.keep hk,h.2⟩
theorem zgb.mono {w:World} {F G:Nat→Prop} {A:Option Addr} {n c:Nat} {L:List Ms} {ds:List (Option Addr×Nat)} (h:zgb w F A n c L ds) (hG:∀ g,g < w.heap.size→F g→G g):zgb w G A n c L ds:=⟨h.1.mono hG,h.2⟩
end
section
open Go.RowKit Go.Maps
set_option maxRecDepth 100000
set_option maxHeartbeats 4000000
def frF (f:Frm) (d:Option Addr×Nat):List Value:= [.int .i64 f.id,.bool f.re,.slice d.1 f.data.length d.2]
theorem zgd (f:Frm) (d:Option Addr×Nat):(frF f d).length=3:=rfl
theorem zge (f:Frm) (d:Option Addr×Nat):∀ u ∈ frF f d,u.oneCell'=true:=by
 intro u hu
 simp[frF] at hu
 rcases hu with rfl | rfl | rfl<;>rfl
theorem zgf:(Tryz.prog.info? 62).map (fun i=>(i.zero,i.size,i.bytes))=some (some (.agg #[.int .i64 0,.bool false,.slice none 0 0]),3,40):= by kernel_rfl
def zgg (w:World) (F:Nat→Prop) (A:Option Addr) (n c:Nat) (L:List Frm) (ds:List (Option Addr×Nat)):Prop:=zd3 frF 3 62 Frm.data w F A n c L ds∧zf8 ds
theorem zgg.nil (w:World) (F:Nat→Prop):zgg w F none 0 0 [] []:= ⟨zd3.nil _ _,List.Pairwise.nil⟩
theorem zgg.below {w w':World} {F:Nat→Prop} {A:Option Addr} {n c:Nat} {L:List Frm} {ds:List (Option Addr×Nat)} (h:zgg w F A n c L ds) (hb:Below w.heap.size w w'):zgg w' F A n c L ds:=⟨h.1.below hb,h.2⟩
def SlM (w:World) (A:Option Addr) (L:List Ms):Prop:= ∀ j M,L[j]? =some M→ ∃ b off Aj cj,A=some ⟨b,off,none⟩∧ (w.cell? ⟨b,off+j * 14+0,none⟩=some (.int .i64 M.kind)∧ w.cell? ⟨b,off+j * 14+1,none⟩=some (.int .i64 M.ix)∧ w.cell? ⟨b,off+j * 14+2,none⟩=some (.int .i64 M.sub)∧ w.cell? ⟨b,off+j * 14+3,none⟩=some (.bool M.tg)∧ w.cell? ⟨b,off+j * 14+4,none⟩=some (.bool M.la)∧ w.cell? ⟨b,off+j * 14+5,none⟩=some (.bool M.cr)∧ w.cell? ⟨b,off+j * 14+6,none⟩=some (.bool M.sz)∧ w.cell? ⟨b,off+j * 14+7,none⟩=some (.int .u32 (M.size:Nat))∧ w.cell? ⟨b,off+j * 14+8,none⟩=some (.int .u32 (M.code:Nat))∧ w.cell? ⟨b,off+j * 14+9,none⟩=some (.slice Aj M.data.length cj)∧ w.cell? ⟨b,off+j * 14+10,none⟩=some (.int .i64 M.sq)∧ w.cell? ⟨b,off+j * 14+11,none⟩=some (.int .i64 M.bl)∧ w.cell? ⟨b,off+j * 14+12,none⟩=some (.int .i64 M.em)∧ w.cell? ⟨b,off+j * 14+13,none⟩=some (.int .u16 (M.sum:Nat)))∧ Sl w Aj (M.data.map bv)
theorem SlM.below {w w':World} {A:Option Addr} {L:List Ms} (h:SlM w A L) (hb:Below w.heap.size w w'):SlM w' A L:=by
 intro j M hM
 obtain⟨b,off,Aj,cj,hA,⟨c0,c1,c2,c3,c4,c5,c6,c7,c8,c9,c10,c11,c12,c13⟩,hs⟩:= h j M hM
 have k:∀ {p v},w.cell? p=some v→w'.cell? p=some v:=fun hc=>(hb.cell (zal hc)).trans hc
 exact⟨b,off,Aj,cj,hA,⟨k c0,k c1,k c2,k c3,k c4,k c5,k c6,k c7,k c8,k c9,k c10,k c11,k c12,k c13⟩,hs.below hb⟩
theorem zgh (id:Int) (L:List Ms) (k:Nat) (M:Ms) (h:L[k]? =some M):frmL id (L.take (k+1))=if canB M=true then frmL id (L.take k) ++ [⟨id,false,laidB M⟩] else frmL id (L.take k):= by
 obtain⟨hk,hx⟩:= List.getElem?_eq_some_iff.1 h
 rw[List.take_succ_eq_append_getElem hk,hx]
 unfold frmL
 rw[List.filter_append,List.map_append]
 by_cases hc:canB M=true
 · rw[if_pos hc,List.filter_cons_of_pos hc];rfl
 · rw[if_neg hc,List.filter_cons_of_neg hc];simp
theorem zgi {α:Type} {f: α→Option Addr×Nat→List Value} {k:Nat} {e:TypeId} {dat: α→List UInt8} {w:World} {F:Nat→Prop} {A:Option Addr} {n c g:Nat} {L:List α} {ds:List (Option Addr×Nat)} (h:zd3 f k e dat w F A n c L ds) (hg:Value.ownBlock (.slice A n c)=some g):F g:=by
 rcases h.own.shape with ⟨rfl,_⟩ | ⟨q,rfl,_⟩
 · simp[Value.ownBlock] at hg
 · simp[Value.ownBlock] at hg
   subst hg
   exact h.inF _ rfl
theorem tfr8:(5:TypeId)≠ 62:=by decide
def MsOk (M:Ms):Prop:=M.size≤4294967295∧M.code≤4294967295∧M.sum≤65535
def SendR (id:Int) (L:List Ms) (W:World) (e:Ending) (W':World):Prop:=
 ∃ A' n' c' ds,e= .returned (.slice A' n' c')∧ zgg W' (fun g=>W.heap.size≤g) A' n' c' (frmL id L) ds∧Below W.heap.size W W'
end
section
open Go.RowKit
set_option maxRecDepth 20000
set_option maxHeartbeats 1000000
def entF (E:Ent) (d:Option Addr×Nat):List Value:=(entV E d.1 E.df.length d.2).toList
def valF (v:List UInt8) (d:Option Addr×Nat):List Value:= [.slice d.1 v.length d.2]
theorem zgj (E:Ent) (d:Option Addr×Nat):(entF E d).length=11:=rfl
theorem zgk (v:List UInt8) (d:Option Addr×Nat):(valF v d).length=1:=rfl
theorem zgl (E:Ent) (d:Option Addr×Nat):∀ u ∈ entF E d,u.oneCell'=true:=by
 intro u hu
 simp only[entF,entV,List.mem_cons,List.not_mem_nil,or_false] at hu
 rcases hu with rfl | rfl | rfl | rfl | rfl | rfl | rfl | rfl | rfl | rfl | rfl<;>rfl
theorem zgm (v:List UInt8) (d:Option Addr×Nat):∀ u ∈ valF v d,u.oneCell'=true:=by
 intro u hu
 simp only[valF,List.mem_cons,List.not_mem_nil,or_false] at hu
 subst hu
 rfl
theorem infoE:(Tryz.prog.info? 97).map (fun i=>(i.zero,i.size,i.bytes))=some (some (.agg #[.int .i64 0,.int .i64 0,.string ⟨#[]⟩,.int .i64 0,.int .i64 0,.bool false,.bool false,.int .i64 0,.int .i64 0,.int .i64 0,.slice none 0 0]),11,104):= by kernel_rfl
theorem infoS:(Tryz.prog.info? 27).map (fun i=>(i.zero,i.size,i.bytes))=some (some (.slice none 0 0),1,24):= by kernel_rfl
def fitE (E:Ent):Prop:=E.df.length≤35184372088832∧E.nm.size≤9223372036854775807
def fitB (v:List UInt8):Prop:=v.length≤35184372088832
abbrev OwnE (w:World) (F:Nat→Prop) (A:Option Addr) (n c:Nat) (L:List Ent) (ds:List (Option Addr×Nat)):Prop:=zd3 entF 11 97 Ent.df w F A n c L ds
abbrev OwnS (w:World) (F:Nat→Prop) (A:Option Addr) (n c:Nat) (V:List (List UInt8)) (es:List (Option Addr×Nat)):Prop:=zd3 valF 1 27 (fun v=>v) w F A n c V es
structure DB (T:TypeId) (w:World) (F:Nat→Prop) (p:Nat) (Al:Option Addr) (n cl:Nat) (Av:Option Addr) (cv:Nat) (L:List Ent) (V:List (List UInt8)) (ds es:List (Option Addr×Nat)):Prop where
 blk:Blk w p T #[.slice Al n cl,.slice Av n cv]
 inF:F p
 ents:OwnE w F Al n cl L ds
 vals:OwnS w F Av n cv V es
 fe:∀ E ∈ L,fitE E
 fv:∀ v ∈ V,fitB v
section
variable {T:TypeId} {w w':World} {F G:Nat→Prop} {p n cl cv:Nat} {Al Av:Option Addr} {L:List Ent} {V:List (List UInt8)} {ds es:List (Option Addr×Nat)}
theorem DB.keep (h:DB T w F p Al n cl Av cv L V ds es) (hk:∀ g,F g→g < w.heap.size→w'.heap[g]? =w.heap[g]?):DB T w' F p Al n cl Av cv L V ds es:=
 ⟨(hk p h.inF h.blk.lt).trans h.blk,h.inF,h.ents.keep hk,h.vals.keep hk,h.fe,h.fv⟩
theorem DB.below (h:DB T w F p Al n cl Av cv L V ds es) (hb:Below w.heap.size w w'):DB T w' F p Al n cl Av cv L V ds es:=h.keep fun g _ hlt=>hb.block g hlt
theorem DB.mono (h:DB T w F p Al n cl Av cv L V ds es) (hG:∀ g,g < w.heap.size→F g→G g):DB T w G p Al n cl Av cv L V ds es:=
 ⟨h.blk,hG p h.blk.lt h.inF,h.ents.mono hG,h.vals.mono hG,h.fe,h.fv⟩
theorem DB.lenV (h:DB T w F p Al n cl Av cv L V ds es):V.length=L.length:=by rw[← h.vals.hn,← h.ents.hn]
theorem DB.ent (h:DB T w F p Al n cl Av cv L V ds es) {k:Nat} {E:Ent} (hE:L[k]? =some E):∃ g d,Al=some ⟨g,0,none⟩∧ g < w.heap.size∧ds[k]? =some d∧zdq w 0 d.1 E.df.length d.2 E.df∧fitE E∧
 w.cell? ⟨g,k * 11,none⟩=some (.int .i64 E.ix)∧ w.cell? ⟨g,k * 11+1,none⟩=some (.int .i64 E.sub)∧ w.cell? ⟨g,k * 11+2,none⟩=some (.string E.nm)∧ w.cell? ⟨g,k * 11+3,none⟩=some (.int .i64 E.ty)∧
 w.cell? ⟨g,k * 11+4,none⟩=some (.int .i64 E.acc)∧ w.cell? ⟨g,k * 11+5,none⟩=some (.bool E.mp)∧ w.cell? ⟨g,k * 11+6,none⟩=some (.bool E.st)∧ w.cell? ⟨g,k * 11+7,none⟩=some (.int .i64 E.mx)∧
 w.cell? ⟨g,k * 11+8,none⟩=some (.int .i64 E.lo)∧ w.cell? ⟨g,k * 11+9,none⟩=some (.int .i64 E.hi)∧ w.cell? ⟨g,k * 11+10,none⟩=some (.slice d.1 E.df.length d.2):= by
 obtain⟨d,hd,hO,_⟩:= h.ents.elem hE
 obtain⟨g,hA,hlt,hc⟩:= h.ents.cells zgj hE hd (by omega)
 exact⟨g,d,hA,hlt,hd,hO,h.fe E (List.mem_of_getElem? hE),hc 0 _ rfl,hc 1 _ rfl,hc 2 _ rfl,hc 3 _ rfl,hc 4 _ rfl,hc 5 _ rfl,hc 6 _ rfl,hc 7 _ rfl,hc 8 _ rfl,hc 9 _ rfl,hc 10 _ rfl⟩
theorem DB.val (h:DB T w F p Al n cl Av cv L V ds es) {k:Nat} {v:List UInt8} (hv:V[k]? =some v):∃ g d,Av=some ⟨g,0,none⟩∧ g < w.heap.size∧es[k]? =some d∧zdq w 0 d.1 v.length d.2 v∧fitB v∧
 w.cell? ⟨g,k,none⟩=some (.slice d.1 v.length d.2)∧ w.frozen? ⟨g,k,none⟩=false∧F g:=by
 obtain⟨d,hd,hO,_⟩:= h.vals.elem hv
 obtain⟨g,hA,hlt,hc⟩:= h.vals.cells zgk hv hd (by omega)
 have hk:k < n:=by rw[h.vals.hn];exact (List.getElem?_eq_some_iff.1 hv).1
 obtain⟨g',u,hA',_,_,_,_,hf⟩:= h.vals.own.cell hk
 rw[hA] at hA'
 injection hA' with hA'
 injection hA' with hA'
 subst hA'
 exact⟨g,d,hA,hlt,hd,hO,h.fv v (List.mem_of_getElem? hv),by have:=hc 0 _ rfl;rw[Nat.mul_one] at this;exact this,hf,h.vals.inF g hA⟩
theorem DB.store {g:Nat} (h:DB T w F p Al n cl (some ⟨g,0,none⟩) cv L V ds es) (hT:T≠27) {k:Nat} {v:List UInt8} {A:Option Addr} {m c:Nat} (hk:k < n) (hv:zdq w 0 A m c v) (hF:FIn F A) (hfit:fitB v) :
 DB T (w.setCell ⟨g,k,none⟩ (.slice A m c)) F p Al n cl (some ⟨g,0,none⟩) cv L (V.set k v) ds (es.set k (A,c)):= by
 obtain rfl:=hv.hn
 have hv':zdq w 0 (A,c).1 v.length (A,c).2 v:=hv
 have hG:w.grownBy (w.setCell ⟨g,k,none⟩ (.slice A v.length c)) (Value.ownBlock (.slice (some ⟨g,0,none⟩) n cv)):= zcy (World.grownBy.refl _ _) (.inl rfl) k _
 have keepB:∀ {m:Nat} {dd:Option Addr×Nat} {l:List UInt8},zdq w 0 dd.1 m dd.2 l→zdq (w.setCell ⟨g,k,none⟩ (.slice A v.length c)) 0 dd.1 m dd.2 l:=fun hO=>⟨hO.hn,hO.own.grown hG (zdx hO.own h.vals.own (by decide))⟩
 refine⟨h.blk.grown hG (zdy h.blk h.vals.own hT),h.inF,⟨h.ents.hn,h.ents.hd,h.ents.own.grown hG (zdx h.ents.own h.vals.own (by decide)),h.ents.inF,fun j E d h1 h2=>⟨keepB (h.ents.data j E d h1 h2).1,(h.ents.data j E d h1 h2).2⟩⟩,?_,h.fe,?_⟩
 · exact h.vals.store zgk (by decide) (v:=v) (d:=(A,c)) (u:= .slice A v.length c) rfl hk hv' hF
 · intro x hx
   rcases List.mem_or_eq_of_mem_set hx with hx | rfl
   · exact h.fv x hx
   · exact hfit
end
end
section
open Go.RowKit
set_option maxRecDepth 100000
set_option maxHeartbeats 2000000
theorem zgn (E:Ent) (A:Option Addr) (n c:Nat) (w:World):Calls Tryz.prog 95 #[.agg (entV E A n c)] w fun e w'=>e= .returned (.int .u32 (readE E.acc))∧ Below w.heap.size w w':=by
 obtain⟨ix,sub,nm,ty,acc,mp,st,mx,lo,hi,df⟩:= E
 unfold entV
 go_enter Tryz.func95,Tryz.ntmps95
 go_wp2_with fail
 all_goals (go_ret;exact⟨zat (by simp_all [readE];try omega),zc1 (Below.refl _ _) _⟩)
theorem zgo (E:Ent) (A:Option Addr) (n c:Nat) (w:World):Calls Tryz.prog 153 #[.agg (entV E A n c)] w fun e w'=>e= .returned (.int .u32 (writeE E.acc))∧ Below w.heap.size w w':=by
 obtain⟨ix,sub,nm,ty,acc,mp,st,mx,lo,hi,df⟩:= E
 unfold entV
 go_enter Tryz.func153,Tryz.ntmps153
 go_wp2_with fail
 all_goals (go_ret;exact⟨zat (by simp_all [writeE];try omega),zc1 (Below.refl _ _) _⟩)
theorem zgp (E F:Ent) (A B:Option Addr) (n c m d:Nat) (w:World):Calls Tryz.prog 49 #[.agg (entV E A n c),.agg (entV F B m d)] w fun e w'=>e= .returned (.bool (beforeB E.ix E.sub F.ix F.sub))∧ Below w.heap.size w w':=by
 obtain⟨ix,sub,nm,ty,acc,mp,st,mx,lo,hi,df⟩:= E
 obtain⟨ix',sub',nm',ty',acc',mp',st',mx',lo',hi',df'⟩:= F
 unfold entV
 go_enter Tryz.func49,Tryz.ntmps49
 go_wp2_with fail
 all_goals (go_ret;exact⟨zau (by rw[Bool.eq_iff_iff];simp_all [beforeB];try omega),zc1 (zc1 (Below.refl _ _) _) _⟩)
end
end Go.Proofs.YthdbckbpldlkeaaGreat
