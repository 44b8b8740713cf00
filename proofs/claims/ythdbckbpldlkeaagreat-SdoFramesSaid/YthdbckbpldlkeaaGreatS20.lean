/- None -/
import Derived.Test.YthdbckbpldlkeaaGreatS19
namespace Go.Proofs.YthdbckbpldlkeaaGreat
set_option linter.unusedVariables false
set_option linter.unusedSimpArgs false
set_option linter.unnecessarySimpa false
section
open Go.RowKit
set_option maxRecDepth 20000
set_option maxHeartbeats 1000000
theorem zjo {α:Type} {f: α→Option Addr×Nat→List Value} {k:Nat} {e:TypeId} {dat: α→List UInt8} {F:Nat→Prop} {o:Oper} {a:Act} {K:Act→World→Prop} {Q:Exit→Act→World→Prop} {w:World} (s x:Operand) (ty:TypeId)
 (ho:o.op= .call { callee:= .builtin .append,args:= #[s,x],argTypes:= #[ty,ty] })
 (hf:∀ v d,(f v d).length=k) (hone:∀ v d,∀ u ∈ f v d,u.oneCell'=true) (hne:5≠e) (bytes:Nat) (z:Value) (hu:Tryz.prog.underlying ty=some (.slice e)) (hi:(Tryz.prog.info? e).map (fun i=>(i.zero,i.size,i.bytes))=some (some z,k,bytes)) (hzs:z.cells.size=k) (hk0:0 < k) (hb4:bytes≤4096)
 (A:Option Addr) (n c:Nat) (L:List α) (ds:List (Option Addr×Nat)) (hs:a.eval s= .slice A n c) (hown:zd3 f k e dat w F A n c L ds)
 (v: α) (d:Option Addr×Nat) (A2:Option Addr) (hx:a.eval x= .slice A2 1 1)
 (hr:Sl w A2 (f v d)) (hv:zdq w 0 d.1 (dat v).length d.2 (dat v)) (hvF:FIn F d.1) (hF:∀ g,w.heap.size≤g→F g)
 (hb:n≤34359738)
 (h:∀ A' c' w',zd3 f k e dat w' F A' (n+1) c' (L ++ [v]) (ds ++ [d])→ w.grownBy w' (Value.ownBlock (.slice A n c))→ (A'=A∨A'=some ⟨w.heap.size,0,none⟩)→ K (a.put o.dst (.slice A' (n+1) c')) w'):Oper.wp Tryz.prog o a w K Q:=by
 obtain⟨i0,hi0,hz0,hz1,hz2⟩:= info_parts hi
 obtain⟨A',c',w',hr',h2,h3,h4⟩:= zct (P:=Tryz.prog) w 0 ty o.type e i0 _ k bytes hu hi0 hz0 hz1 hz2 hzs hk0 A n c _ hown.own A2 1 1 _ (by rw[hf];omega) hr (hone v d) (by unfold maxLen;omega) (by
  calc (n+1) * bytes≤(n+1) * 4096:=Nat.mul_le_mul_left _ hb4
   _≤_:=by omega) (Nat.zero_le _)
 unfold Oper.wp execOp
 simp only[ho,resolve,invoke,builtin,Sem.run_bind,Sem.run_pure,Result.andThen_ok,List.map_toArray,List.map_cons,List.map_nil,hs,hx,hr']
 exact h A' c' w' (hown.snoc hne h2 h3 h4 hF hv hvF) h3 h4
def SlE (w:World) (A:Option Addr) (L:List Ent):Prop:= ∀ j E,L[j]? =some E→ ∃ b off Aj cj,A=some ⟨b,off,none⟩∧ (w.cell? ⟨b,off+j * 11,none⟩=some (.int .i64 E.ix)∧ w.cell? ⟨b,off+j * 11+1,none⟩=some (.int .i64 E.sub)∧ w.cell? ⟨b,off+j * 11+2,none⟩=some (.string E.nm)∧ w.cell? ⟨b,off+j * 11+3,none⟩=some (.int .i64 E.ty)∧ w.cell? ⟨b,off+j * 11+4,none⟩=some (.int .i64 E.acc)∧ w.cell? ⟨b,off+j * 11+5,none⟩=some (.bool E.mp)∧ w.cell? ⟨b,off+j * 11+6,none⟩=some (.bool E.st)∧ w.cell? ⟨b,off+j * 11+7,none⟩=some (.int .i64 E.mx)∧ w.cell? ⟨b,off+j * 11+8,none⟩=some (.int .i64 E.lo)∧ w.cell? ⟨b,off+j * 11+9,none⟩=some (.int .i64 E.hi)∧ w.cell? ⟨b,off+j * 11+10,none⟩=some (.slice Aj E.df.length cj))∧ E.df.length≤cj∧Sl w Aj (E.df.map bv)
theorem SlE.below {w w':World} {A:Option Addr} {L:List Ent} (h:SlE w A L) (hb:Below w.heap.size w w'):SlE w' A L:=by
 intro j E hE
 obtain⟨b,off,Aj,cj,hA,⟨c0,c1,c2,c3,c4,c5,c6,c7,c8,c9,c10⟩,hc,hs⟩:= h j E hE
 have k:∀ {p v},w.cell? p=some v→w'.cell? p=some v:=fun hc=>(hb.cell (zal hc)).trans hc
 exact⟨b,off,Aj,cj,hA,⟨k c0,k c1,k c2,k c3,k c4,k c5,k c6,k c7,k c8,k c9,k c10⟩,hc,hs.below hb⟩
theorem SlE.two {w w':World} {A:Option Addr} {L:List Ent} (h:SlE w A L) (hb:Below w.heap.size w w') {j:Nat} {E:Ent} (hE:L[j]? =some E) :
 ∃ b off Aj cj,A=some ⟨b,off,none⟩∧ (w'.cell? ⟨b,off+j * 11,none⟩=some (.int .i64 E.ix)∧ w'.cell? ⟨b,off+j * 11+1,none⟩=some (.int .i64 E.sub)∧ w'.cell? ⟨b,off+j * 11+2,none⟩=some (.string E.nm)∧ w'.cell? ⟨b,off+j * 11+3,none⟩=some (.int .i64 E.ty)∧ w'.cell? ⟨b,off+j * 11+4,none⟩=some (.int .i64 E.acc)∧ w'.cell? ⟨b,off+j * 11+5,none⟩=some (.bool E.mp)∧ w'.cell? ⟨b,off+j * 11+6,none⟩=some (.bool E.st)∧ w'.cell? ⟨b,off+j * 11+7,none⟩=some (.int .i64 E.mx)∧ w'.cell? ⟨b,off+j * 11+8,none⟩=some (.int .i64 E.lo)∧ w'.cell? ⟨b,off+j * 11+9,none⟩=some (.int .i64 E.hi)∧ w'.cell? ⟨b,off+j * 11+10,none⟩=some (.slice Aj E.df.length cj))∧ E.df.length≤cj∧Sl w Aj (E.df.map bv):= by
 obtain⟨b,off,Aj,cj,hA,⟨c0,c1,c2,c3,c4,c5,c6,c7,c8,c9,c10⟩,hc,hs⟩:= h j E hE
 have k:∀ {p v},w.cell? p=some v→w'.cell? p=some v:=fun hc=>(hb.cell (zal hc)).trans hc
 exact⟨b,off,Aj,cj,hA,⟨k c0,k c1,k c2,k c3,k c4,k c5,k c6,k c7,k c8,k c9,k c10⟩,hc,hs⟩
theorem zjp {w w':World} (h:Below w.drew.heap.size w.drew w'):Below w.heap.size w w':=⟨h.os,h.tape,h.output,h.size,h.block⟩
theorem zjq {w:World} {b:Nat} {E:Ent} {A:Option Addr} {n c:Nat} (h:Blk w b 97 (entV E A n c)):w.cell? ⟨b,0,none⟩=some (.int .i64 E.ix)∧ w.cell? ⟨b,1,none⟩=some (.int .i64 E.sub)∧ w.cell? ⟨b,2,none⟩=some (.string E.nm)∧ w.cell? ⟨b,3,none⟩=some (.int .i64 E.ty)∧ w.cell? ⟨b,4,none⟩=some (.int .i64 E.acc)∧ w.cell? ⟨b,5,none⟩=some (.bool E.mp)∧ w.cell? ⟨b,6,none⟩=some (.bool E.st)∧ w.cell? ⟨b,7,none⟩=some (.int .i64 E.mx)∧ w.cell? ⟨b,8,none⟩=some (.int .i64 E.lo)∧ w.cell? ⟨b,9,none⟩=some (.int .i64 E.hi)∧ w.cell? ⟨b,10,none⟩=some (.slice A n c):=
 ⟨h.cell 0 rfl,h.cell 1 rfl,h.cell 2 rfl,h.cell 3 rfl,h.cell 4 rfl,h.cell 5 rfl,h.cell 6 rfl,h.cell 7 rfl,h.cell 8 rfl,h.cell 9 rfl,h.cell 10 rfl⟩
theorem zjr {g H:Nat} {A':Option Addr} (h:A'=some (⟨g,0,none⟩:Addr)∨ A'=some ⟨H,0,none⟩):∃ g',A'=some ⟨g',0,none⟩:= h.elim (fun h=>⟨g,h⟩) (fun h=>⟨H,h⟩)
def svF (v:SV) (d:Option Addr×Nat):List Value:= [.int .i64 v.ix,.int .i64 v.sub,.slice d.1 v.data.length d.2]
theorem zjs (v:SV) (d:Option Addr×Nat):(svF v d).length=3:=rfl
theorem zjt (v:SV) (d:Option Addr×Nat):∀ u ∈ svF v d,u.oneCell'=true:=by
 intro u hu
 simp only[svF,List.mem_cons,List.not_mem_nil,or_false] at hu
 rcases hu with rfl | rfl | rfl<;>rfl
theorem zju:(Tryz.prog.info? 46).map (fun i=>(i.zero,i.size,i.bytes))=some (some (.agg #[.int .i64 0,.int .i64 0,.slice none 0 0]),3,40):= by kernel_rfl
abbrev OwnSV (w:World) (F:Nat→Prop) (A:Option Addr) (n c:Nat) (L:List SV) (ds:List (Option Addr×Nat)):Prop:=zd3 svF 3 46 SV.data w F A n c L ds
def zjv (ds:List (Option Addr×Nat)):Prop:=ds.Pairwise (fun a b=> ∀ g,a.1=some (⟨g,0,none⟩:Addr)→ b.1≠some ⟨g,0,none⟩)
theorem zjv.nil:zjv []:= List.Pairwise.nil
theorem zjv.snoc {ds:List (Option Addr×Nat)} (h:zjv ds) {d:Option Addr×Nat} {N:Nat} (h1:∀ e ∈ ds,∀ g,e.1=some (⟨g,0,none⟩:Addr)→ g < N) (h2:FIn (fun g=>N≤g) d.1):zjv (ds ++ [d]):= by
 unfold zjv
 rw[List.pairwise_append]
 refine⟨h,List.pairwise_singleton _ _,?_⟩
 intro a ha b hb g hg he
 simp at hb
 subst hb
 have:=h1 a ha g hg
 have:=h2 g he
 omega
section
variable {w:World} {F:Nat→Prop} {A:Option Addr} {n c:Nat} {L:List SV} {ds:List (Option Addr×Nat)}
theorem zd3.dlt {α:Type} {f: α→Option Addr×Nat→List Value} {k:Nat} {e:TypeId} {dat: α→List UInt8} {L:List α} (h:zd3 f k e dat w F A n c L ds):∀ d ∈ ds,∀ g,d.1=some (⟨g,0,none⟩:Addr)→ g < w.heap.size:=by
 intro d hd g hg
 obtain⟨j,hj,rfl⟩:= List.getElem_of_mem hd
 obtain⟨v,hv⟩:∃ v,L[j]? =some v:=⟨L[j]'(by rw[← h.hd];exact hj),List.getElem?_eq_getElem _⟩
 exact ((h.data j v _ hv (List.getElem?_eq_getElem hj)).1.own.fin g hg).2
theorem zd3.slV (h:OwnSV w F A n c L ds):SlV w A L:=by
 intro j v hv
 obtain⟨d,hd,hO,_⟩:= h.elem hv
 obtain⟨g,hA,_,hc⟩:= h.cells zjs hv hd (by omega)
 exact⟨g,0,d.1,d.2,hA,by rw[Nat.zero_add];exact hc 0 _ rfl,by rw[Nat.zero_add];exact hc 1 _ rfl,by rw[Nat.zero_add];exact hc 2 _ rfl,hO.own.le,hO.sl⟩
end
section
variable {α:Type} {f: α→Option Addr×Nat→List Value} {k:Nat} {e:TypeId} {dat: α→List UInt8} {w w':World} {F:Nat→Prop} {n c:Nat} {A:Option Addr} {L:List α} {ds:List (Option Addr×Nat)}
theorem zd3.grownT (h:zd3 f k e dat w F A n c L ds) {B2 e2 s2 n2 c2:Nat} {A2:Option Addr} {xs2:List Value} (hg:w.grownBy w' (Value.ownBlock (.slice A2 n2 c2))) (h2:Own w B2 e2 s2 A2 n2 c2 xs2) (h1:e≠e2) (h3:5≠e2):zd3 f k e dat w' F A n c L ds:=
 ⟨h.hn,h.hd,h.own.grown hg (zdx h.own h2 h1),h.inF,fun j v d hv hd=>⟨⟨(h.data j v d hv hd).1.hn,(h.data j v d hv hd).1.own.grown hg (zdx (h.data j v d hv hd).1.own h2 h3)⟩,(h.data j v d hv hd).2⟩⟩
theorem zjw {B e' s' n' c':Nat} {A':Option Addr} {xs':List Value} {g:Nat} {t:TypeId} {cs:Array Value} (h':Own w B e' s' A' n' c' xs') (h:Blk w g t cs) (hne:t≠e'):∀ g',A'=some (⟨g',0,none⟩:Addr)→ some g'≠some g:=by
 rintro g' rfl hg
 have:=zdy h h' hne
 simp[Value.ownBlock] at this
 injection hg with hg
 exact this hg.symm
theorem zd3.setT (h:zd3 f k e dat w F A n c L ds) {g:Nat} {t:TypeId} {cs:Array Value} (hB:Blk w g t cs) (h1:t≠e) (h3:t≠5) (i:Nat) (u:Value):zd3 f k e dat (w.setCell ⟨g,i,none⟩ u) F A n c L ds:=by
 have hg:w.grownBy (w.setCell ⟨g,i,none⟩ u) (some g):= zcy (World.grownBy.refl _ _) (.inl rfl) i u
 exact⟨h.hn,h.hd,h.own.grown hg (zjw h.own hB h1),h.inF,fun j v d hv hd=>⟨⟨(h.data j v d hv hd).1.hn,(h.data j v d hv hd).1.own.grown hg (zjw (h.data j v d hv hd).1.own hB h3)⟩,(h.data j v d hv hd).2⟩⟩
theorem zd3.empty {g:Nat} (hB:Blk w g e #[]) (hF:F g):zd3 f k e dat w F (some ⟨g,0,none⟩) 0 0 [] []:=
 ⟨rfl,rfl,⟨by simp[cellsG],.inr ⟨g,0,#[],rfl,Nat.zero_le _,hB,Nat.le_refl _,by unfold maxLen;omega,by simp,by simp[cellsG]⟩⟩,fun g' hg=>by injection hg with hg;injection hg with hg;subst hg;exact hF,by intro j v d h;simp at h⟩
end
def svL (L:List Ent) (V:List (List UInt8)):List SV:=List.zipWith (fun E v=>⟨E.ix,E.sub,v⟩) L V
theorem zjx (L:List Ent) (V:List (List UInt8)) (h:V.length=L.length):(svL L V).length=L.length:=by simp[svL,h]
theorem zjy {L:List Ent} {V:List (List UInt8)} {k:Nat} {E:Ent} {v:List UInt8} (hE:L[k]? =some E) (hv:V[k]? =some v):(svL L V)[k]? =some ⟨E.ix,E.sub,v⟩:= by simp[svL,List.getElem?_zipWith,hE,hv]
theorem zjz {α:Type} {L:List α} {k:Nat} {x: α} (h:L[k]? =some x):L.take (k+1)=L.take k ++ [x]:= by
 obtain⟨hk,rfl⟩:= List.getElem?_eq_some_iff.1 h
 exact List.take_succ_eq_append_getElem hk
end
section
open Go.RowKit
set_option maxRecDepth 100000
set_option maxHeartbeats 4000000
def writeS (S:SegS) (M:Ms):SegS:={ S with st:=3,wk:=M.kind,wi:=M.ix,ws:=M.sub,wt:=M.tg }
theorem zj0 {w:World} {g:Nat} {t:TypeId} {v0 v1 v2 v3 v4 v5 v6 v7 v8 v9 v10 v11 v12 v13:Value} (h:Blk w g t #[v0,v1,v2,v3,v4,v5,v6,v7,v8,v9,v10,v11,v12,v13]):(w.cell? ⟨g,0,none⟩=some v0∧w.cell? ⟨g,1,none⟩=some v1∧w.cell? ⟨g,2,none⟩=some v2∧w.cell? ⟨g,3,none⟩=some v3∧w.cell? ⟨g,4,none⟩=some v4∧w.cell? ⟨g,5,none⟩=some v5∧w.cell? ⟨g,6,none⟩=some v6∧w.cell? ⟨g,7,none⟩=some v7∧w.cell? ⟨g,8,none⟩=some v8∧w.cell? ⟨g,9,none⟩=some v9∧w.cell? ⟨g,10,none⟩=some v10∧w.cell? ⟨g,11,none⟩=some v11∧w.cell? ⟨g,12,none⟩=some v12∧w.cell? ⟨g,13,none⟩=some v13)∧ True:=⟨⟨h.cell 0 rfl,h.cell 1 rfl,h.cell 2 rfl,h.cell 3 rfl,h.cell 4 rfl,h.cell 5 rfl,h.cell 6 rfl,h.cell 7 rfl,h.cell 8 rfl,h.cell 9 rfl,h.cell 10 rfl,h.cell 11 rfl,h.cell 12 rfl,h.cell 13 rfl⟩,trivial⟩
def WriteP (w:World) (p pd:Nat) (S':SegS) (A:Option Addr) (n c:Nat) (A2:Option Addr) (b:List UInt8) (W:World):Prop:=
 Blk W p 199 (srvV S' pd A n c)∧ Blk W (w.heap.size+1) 100 (outV none 0 0 outZ none 0 0)∧ zdv (fun g=>g=p) w W∧Sl W A2 (b.map bv)
theorem zj1 {w:World} {p pd:Nat} {S':SegS} {A:Option Addr} {n c:Nat} {A2:Option Addr} {b:List UInt8} {W:World} (h1:Blk W p 199 (srvV S' pd A n c)) (h2:Blk W (w.heap.size+1) 100 (outV none 0 0 outZ none 0 0)) (h3:zdv (fun g=>g=p) w W) (h4:Sl W.drew A2 (b.map bv)) :
 WriteP w p pd S' A n c A2 b W.drew:=⟨h1,h2,h3.drew,h4⟩
theorem zj2 (p pd:Nat) (S:SegS) (A:Option Addr) (n c:Nat) (A2:Option Addr) (m c2:Nat) (b:List UInt8) (k ix sub:Int) (tg:Bool) (w:World) (hB:Blk w p 199 (srvV S pd A n c)) (hm:m=b.length) (hmb:m≤35184372088832) (hb:∀ W,zdv (fun g=>g=p) w W→Sl W A2 (b.map bv)) :
 Calls Tryz.prog 223 #[.pointer (some ⟨p,0,none⟩),.slice A2 m c2,.agg (msV (okM k ix sub tg) none 0 0)] w fun e w'=> ∃ A3 c3,e= .returned (.agg (outV none 0 0 ⟨[],true,S.ix,S.sub,b⟩ A3 m c3))∧ zdq w' w.heap.size A3 m c3 b∧Blk w' p 199 (srvV (writeS S (okM k ix sub tg)) pd A n c)∧ zdv (fun k=>k=p) w w':=by
 obtain⟨S',hS'⟩:∃ S',S'=writeS S (okM k ix sub tg):= ⟨_,rfl⟩
 have hi':S'.ix=S.ix∧S'.sub=S.sub:=by rw[hS'];exact⟨rfl,rfl⟩
 rw[← hS']
 have HS':=zak hS'
 have HM:=zak hm
 clear hS' hm
 obtain⟨k1,k2⟩:= zdc w 102 100 (msV (okM k ix sub tg) none 0 0) (outV none 0 0 outZ none 0 0)
 have hbw:=zc1 (zc1 (Below.refl w.heap.size w) (.cells (msV (okM k ix sub tg) none 0 0) 102)) (.cells (outV none 0 0 outZ none 0 0) 100)
 have q:=hB.below hbw hB.lt
 have hz:=hB.lt
 unfold msV okM outV outZ at k1 k2 hbw
 unfold msV okM
 have c0:=hB
 unfold srvV at c0
 obtain⟨c0_c0,c0_c1,c0_c2,c0_c3,c0_c4,c0_c5,c0_c6,c0_c7,c0_c8,c0_c9,c0_c10,c0_c11,c0_c12,c0_c13,c0_c14,c0_c15,c0_c16,c0_c17,c0_c18,c0_c19,c0_c20,c0_c21⟩:= zda c0
 have c0_f:=c0.frozen
 go_enter Tryz.func223,Tryz.ntmps223
 go_wp2_with fail
 have k1b:=(zdc (w.setCell ⟨p,1,none⟩ (.int .i64 3)) 102 100 (msV (okM k ix sub tg) none 0 0) (outV none 0 0 outZ none 0 0)).1
 rw[show (w.setCell ⟨p,1,none⟩ (.int .i64 3)).heap.size=w.heap.size by simp[World.setCell]] at k1b
 unfold msV okM outV outZ at k1b
 have hne:p≠w.heap.size:=by omega
 have hne1:p≠w.heap.size+1:=by omega
 refine zaj (fun w'=>(w'.cell? ⟨w.heap.size,0,none⟩=some (.int .i64 k)∧ w'.cell? ⟨w.heap.size,1,none⟩=some (.int .i64 ix)∧ w'.cell? ⟨w.heap.size,2,none⟩=some (.int .i64 sub)∧ w'.cell? ⟨w.heap.size,3,none⟩=some (.bool tg)∧ w'.cell? ⟨w.heap.size,4,none⟩=some (.bool false)∧ w'.cell? ⟨w.heap.size,5,none⟩=some (.bool false)∧ w'.cell? ⟨w.heap.size,6,none⟩=some (.bool false)∧ w'.cell? ⟨w.heap.size,7,none⟩=some (.int .u32 0)∧ w'.cell? ⟨w.heap.size,8,none⟩=some (.int .u32 0)∧ w'.cell? ⟨w.heap.size,9,none⟩=some (.slice none 0 0)∧ w'.cell? ⟨w.heap.size,10,none⟩=some (.int .i64 0)∧ w'.cell? ⟨w.heap.size,11,none⟩=some (.int .i64 0)∧ w'.cell? ⟨w.heap.size,12,none⟩=some (.int .i64 0)∧ w'.cell? ⟨w.heap.size,13,none⟩=some (.int .u16 0))∧ True) [0,1,2,3,4,6,7] (by kernel_rfl) ?hS1 (fun hHeld=>?rest1)
 case hS1=>((try dsimp only);exact zj0 k1)
 case' rest1=>skip
 refine tkT 0 ?_
 try simp only[PqL,Act.put]
 refine tkT 1 ?_
 try simp only[PqL,Act.put]
 refine tkT 2 ?_
 try simp only[PqL,Act.put]
 refine tkT 3 ?_
 try simp only[PqL,Act.put]
 refine tkT 4 ?_
 try simp only[PqL,Act.put]
 refine zag (i:=5) (o:=_) rfl (by kernel_rfl) (fun K hK=>?_)
 go_simp
 refine hK.out _ _ ?hS8 (fun hHeld=>?rest8)
 case hS8=>((try dsimp only);(exact zj0 k1b))
 case' rest8=>(clear hK K;try simp only[PqL,Act.put])
 refine tkT 6 ?_
 try simp only[PqL,Act.put]
 refine tkT 7 ?_
 try simp only[PqL,Act.put]
 refine zah (i:=8) (o:=_) rfl (by kernel_rfl) (by kernel_rfl) (fun K hK=>?_)
 go_simp
 refine hK.out _ _ ?rest12
 case' rest12=>(clear hK K;try simp only[PqL,Act.put])
 refine zai (by kernel_rfl) ?_ _
 repeat (clear hHeld)
 have hw1:Blk (w.setCell ⟨p,1,none⟩ (.int .i64 3)) p 199 (srvV { S with st:=3 } pd A n c):= hB.set_ 1 (.int .i64 3)
 have hS1:=zd5 (msV (okM k ix sub tg) none 0 0).toList 8 (l:=(srvV { S with st:=3 } pd A n c).toList) hw1 (by simp[srvV,msV])
 have hO1:zdv (fun g=>g=p) w ((w.setCell ⟨p,1,none⟩ (.int .i64 3)).setCells p 8 (msV (okM k ix sub tg) none 0 0).toList):= zd6 (F:=fun g=>g=p) rfl _ _ (zdv.set (fun g=>g=p) (zdv.refl _ _) rfl _)
 obtain⟨k3,k4⟩:= zdc ((w.setCell ⟨p,1,none⟩ (.int .i64 3)).setCells p 8 (msV (okM k ix sub tg) none 0 0).toList) 102 100 (msV (okM k ix sub tg) none 0 0) (outV none 0 0 outZ none 0 0)
 rw[zd7] at k4
 rw[show (w.setCell ⟨p,1,none⟩ (.int .i64 3)).heap.size=w.heap.size by simp[World.setCell]] at k4
 have hS2:=(hS1.alloc (.cells (msV (okM k ix sub tg) none 0 0) 102)).alloc (.cells (outV none 0 0 outZ none 0 0) 100)
 have hO2:=(hO1.new (.cells (msV (okM k ix sub tg) none 0 0) 102)).new (.cells (outV none 0 0 outZ none 0 0) 100)
 have hX2:=hb _ hO2.drew
 have e1:((srvV { S with st:=3 } pd A n c).toList.take 8 ++ (msV (okM k ix sub tg) none 0 0).toList ++ (srvV { S with st:=3 } pd A n c).toList.drop (8+(msV (okM k ix sub tg) none 0 0).toList.length)).toArray=srvV (writeS S (okM k ix sub tg)) pd A n c:=rfl
 rw[e1] at hS2
 rw[← HS'.out] at hS2
 have HP:=zak (zj1 (S':=S') (A:=A) (n:=n) (c:=c) (pd:=pd) hS2 k4 hO2 hX2)
 clear hS1 hO1 hS2 k4 hO2 hX2 k1 k2 k1b k3 q hb hbw hB hw1 e1 HS'
 clear c0_c0 c0_c1 c0_c2 c0_c3 c0_c4 c0_c5 c0_c6 c0_c7 c0_c8 c0_c9 c0_c10 c0_c11 c0_c12 c0_c13 c0_c14 c0_c15 c0_c16 c0_c17 c0_c18 c0_c19 c0_c20 c0_c21 c0_f
 clear c0
 simp only[msV,okM,outV,outZ,World.setCells,Nat.reduceAdd] at HP
 go_wp2_with fail
 refine zd8 (P:=WriteP w p pd S' A n c A2 b) HP.out (fun W hW=>?_)
 obtain⟨hS2,k4,hO2,hX2⟩:= hW
 have HS2:=zak hS2
 have HK4:=zak k4
 have HO2:=zak hO2
 have HX2:=zak hX2
 have d2:W.cell? ⟨p,2,none⟩=some (.int .i64 S.ix):= by rw[← hi'.1];exact hS2.cell 2 rfl
 have d3:W.cell? ⟨p,3,none⟩=some (.int .i64 S.sub):= by rw[← hi'.2];exact hS2.cell 3 rfl
 clear hS2 hX2
 refine zaj (fun w'=>w'.cell? ⟨p,2,none⟩=some (.int .i64 S.ix)∧ w'.cell? ⟨p,3,none⟩=some (.int .i64 S.sub)) [0,1,2,3,4,5,6,7,8,10,11] (by kernel_rfl) ?hS14 (fun hHeld=>?rest14)
 case hS14=>((try dsimp only);exact⟨d2,d3⟩)
 case' rest14=>skip
 refine tkT 0 ?_
 try simp only[PqL,Act.put]
 refine tkT 1 ?_
 try simp only[PqL,Act.put]
 refine tkT 2 ?_
 try simp only[PqL,Act.put]
 refine tkT 3 ?_
 try simp only[PqL,Act.put]
 refine tkT 4 ?_
 try simp only[PqL,Act.put]
 refine tkT 5 ?_
 try simp only[PqL,Act.put]
 refine tkT 6 ?_
 try simp only[PqL,Act.put]
 refine tkT 7 ?_
 try simp only[PqL,Act.put]
 refine tkT 8 ?_
 try simp only[PqL,Act.put]
 refine zag (i:=9) (o:=_) rfl (by kernel_rfl) (fun K hK=>?_)
 rw[if_pos (show Region.wanted _ _=true by kernel_rfl)]
 refine zi5 _ _ rfl W.heap.size none 0 0 [] rfl (zdq.nil _ _) A2 m c2 b rfl HM.out HX2.out (by omega) (Nat.le_refl _) m (by omega) ?_
 intro A3 c3 w3 hO3 hb3
 replace hb3:=zjp hb3
 have HS3:=zak (HS2.out.below hb3 HS2.out.lt)
 have hk3:Blk w3 (w.heap.size+1) 100 (outV none 0 0 outZ none 0 0):= HK4.out.below hb3 HK4.out.lt
 have HK3:=zak hk3
 have HO3:=zak hO3
 have zz:w.heap.size+1 < W.heap.size:=HK4.out.lt
 have HOn:=zak (HO2.out.step (c:=w3) hb3)
 have g2:=(hb3.cell (p:=⟨p,2,none⟩) HS2.out.lt).trans d2
 have g3:=(hb3.cell (p:=⟨p,3,none⟩) HS2.out.lt).trans d3
 clear hO3 hO2 k4
 refine hK.out _ _ ?hS25 (fun hHeld=>?rest25)
 case hS25=>((try dsimp only);(exact⟨g2,g3⟩))
 case' rest25=>(clear hK K;try simp only[PqL,Act.put])
 unfold outV outZ at hk3
 obtain⟨hk3_c0,hk3_c1,hk3_c2,hk3_c3,hk3_c4⟩:= zc5 hk3
 have hk3_f:=hk3.frozen
 refine tkT 10 ?_
 try simp only[PqL,Act.put]
 refine tkT 11 ?_
 try simp only[PqL,Act.put]
 refine zah (i:=12) (o:=_) rfl (by kernel_rfl) (by kernel_rfl) (fun K hK=>?_)
 go_simp
 refine hK.out _ _ ?rest29
 case' rest29=>(clear hK K;try simp only[PqL,Act.put])
 refine zai (by kernel_rfl) ?_ _
 repeat (clear hHeld)
 go_wp2_with fail
 have F1:=zje (As':=none) (ns':=0) (cs':=0) (O':=⟨[],true,S.ix,S.sub,b⟩) (A':=A3) (n':=m) (c':=c3) HK3.out
 have F2:=zjh HO3.out zz none 0 0 ⟨[],true,S.ix,S.sub,b⟩ A3 m c3
 have F3:=zjf HS3.out hne1 none 0 0 ⟨[],true,S.ix,S.sub,b⟩ A3 m c3
 have F4:=zjg HOn.out (show w.heap.size≤w.heap.size+1 by omega) none 0 0 ⟨[],true,S.ix,S.sub,b⟩ A3 m c3
 unfold putO at F1 F2 F3 F4
 refine zjd (O:=⟨[],true,S.ix,S.sub,b⟩) (As:=none) (ns:=0) (cs:=0) (A:=A3) (n:=m) (c:=c3) rfl rfl rfl F1 ?_
 exact⟨A3,c3,rfl,F2.mono (by omega),F3,F4⟩
end
end Go.Proofs.YthdbckbpldlkeaaGreat
