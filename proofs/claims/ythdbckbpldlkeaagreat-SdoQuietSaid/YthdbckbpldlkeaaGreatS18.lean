/- None -/
import Derived.Test.YthdbckbpldlkeaaGreatS17
namespace Go.Proofs.YthdbckbpldlkeaaGreat
set_option linter.unusedVariables false
set_option linter.unusedSimpArgs false
set_option linter.unnecessarySimpa false
section
open Go.RowKit
set_option maxRecDepth 100000
set_option maxHeartbeats 4000000
def put11 (w:World) (g:Nat) (E:Ent) (A:Option Addr) (n c:Nat):World:=
 ((((((((((w.setCell ⟨g,0,none⟩ (.int .i64 E.ix)).setCell ⟨g,1,none⟩ (.int .i64 E.sub)).setCell ⟨g,2,none⟩ (.string E.nm)).setCell ⟨g,3,none⟩ (.int .i64 E.ty)).setCell ⟨g,4,none⟩ (.int .i64 E.acc)).setCell ⟨g,5,none⟩ (.bool E.mp)).setCell ⟨g,6,none⟩ (.bool E.st)).setCell ⟨g,7,none⟩ (.int .i64 E.mx)).setCell ⟨g,8,none⟩ (.int .i64 E.lo)).setCell ⟨g,9,none⟩ (.int .i64 E.hi)).setCell ⟨g,10,none⟩ (.slice A n c)
theorem zis {α:Type} (a0 a1 a2 a3 a4 a5 a6 a7 a8 a9 a10: α) (l:List α) (h:l.length=11) :
 ((((((((((((((((((((((l.set 0 a0).set 1 a1).set 2 a2).set 3 a3).set 4 a4).set 5 a5).set 6 a6).set 7 a7).set 8 a8).set 9 a9).set 10 a10))))))))))))= [a0,a1,a2,a3,a4,a5,a6,a7,a8,a9,a10]:= by
 match l,h with
 | [_,_,_,_,_,_,_,_,_,_,_],_=>rfl
theorem zit {w:World} {g:Nat} {t:TypeId} {cs:Array Value} (hB:Blk w g t cs) (hs:cs.size=11) (E:Ent) (A:Option Addr) (n c:Nat):Blk (put11 w g E A n c) g t (entV E A n c):= by
 have h:=((((((((((hB.set_ 0 (.int .i64 E.ix)).set_ 1 (.int .i64 E.sub)).set_ 2 (.string E.nm)).set_ 3 (.int .i64 E.ty)).set_ 4 (.int .i64 E.acc)).set_ 5 (.bool E.mp)).set_ 6 (.bool E.st)).set_ 7 (.int .i64 E.mx)).set_ 8 (.int .i64 E.lo)).set_ 9 (.int .i64 E.hi)).set_ 10 (.slice A n c)
 obtain⟨l⟩:= cs
 simp only[List.setIfInBounds_toArray] at h
 rw[zis _ _ _ _ _ _ _ _ _ _ _ l (by simpa using hs)] at h
 exact h
theorem ziu (w:World) (g:Nat) (E:Ent) (A:Option Addr) (n c:Nat):zdv (fun k=>k=g) w (put11 w g E A n c):= by
 have st:∀ (w':World) (i:Nat) (u:Value),zdv (fun k=>k=g) w w'→zdv (fun k=>k=g) w (w'.setCell ⟨g,i,none⟩ u):= fun w' i u h=>h.trans (zdv.of_set (F:=fun k=>k=g) rfl u) (fun _ _ h=>h)
 unfold put11
 exact st _ _ _ (st _ _ _ (st _ _ _ (st _ _ _ (st _ _ _ (st _ _ _ (st _ _ _ (st _ _ _ (st _ _ _ (st _ _ _ (st _ _ _ (zdv.refl _ _)))))))))))
theorem ziv:(Tryz.prog.info? 97).map (·.size)=some 11:=by kernel_rfl
theorem ziw (E:Ent) (A:Option Addr) (n c:Nat):(Tryz.prog.info? 97).map (·.size)=some (entV E A n c).size:=ziv
theorem zix {fn:Func} {p:Tmp} (h:fn.results= #[.cell p 97]) {a:Act} {w:World} {g:Nat} {E:Ent} {A:Option Addr} {n c:Nat} {R:Ending→World→Prop} (hd:a.defers= []) (hp:a.tmps.getD p undef= .pointer (some ⟨g,0,none⟩))
 (hB:Blk w g 97 (entV E A n c)) (hR:R (.returned (.agg (entV E A n c))) w):bodyPost Tryz.prog fn R .ret a w:=
 bodyPost_ret (results_cell_row h _ _ _ _ _ _ _ hp hB Tryz.underlying97 rfl (ziw E A n c)) hd hR
theorem ziy {fn:Func} {p u:Tmp} (h:fn.results= #[.cell p 97,.tmp u]) {a:Act} {w:World} {g:Nat} {E:Ent} {A:Option Addr} {n c:Nat} {R:Ending→World→Prop} (hd:a.defers= []) (hp:a.tmps.getD p undef= .pointer (some ⟨g,0,none⟩))
 (hB:Blk w g 97 (entV E A n c)) (hR:R (.returned (.tuple #[.agg (entV E A n c),a.tmps.getD u undef])) w):bodyPost Tryz.prog fn R .ret a w:=by
 refine bodyPost_ret ?_ hd hR
 rw[results_cell_tmp h,hp]
 simp only[asAddr,Sem.run_pure,Result.andThen_ok]
 rw[run_loadVar_row w g _ _ _ _ _ hB Tryz.underlying97 rfl (ziw E A n c)]
 rfl
theorem ziz {w w':World} {g:Nat} {t:TypeId} {cs:Array Value} {F:Nat→Prop} (h:Blk w g t cs) (ho:zdv F w w') (hF: ¬ F g):Blk w' g t cs:=(ho.block g h.lt hF).trans h
theorem zi0 {w w':World} {B n c:Nat} {A:Option Addr} {l:List UInt8} {F:Nat→Prop} (h:zdq w B A n c l) (ho:zdv F w w') (hF:∀ g,B≤g→g < w.heap.size→ ¬ F g):zdq w' B A n c l:=
 ⟨h.hn,h.own.keep fun g hB hlt _=>ho.block g hlt (hF g hB hlt)⟩
end
section
open Go.RowKit
set_option maxRecDepth 100000
set_option maxHeartbeats 4000000
theorem zi1 (E:Ent) (A:Option Addr) (n c:Nat) (w:World) (hn:n=E.df.length) (hl:n≤35184372088832) (hs:Sl w A (E.df.map bv)) :
 Calls Tryz.prog 50 #[.agg (entV E A n c)] w fun e w'=> ∃ A' c',e= .returned (.agg (entV E A' n c'))∧ zdq w' w.heap.size A' n c' E.df∧Below w.heap.size w w':=by
 have HN:=zak hn
 have HS:=zak hs
 clear hn hs
 have K0:=zdc w 97 97 (entV E A n c) (entV zeroE none 0 0)
 have hbw:=zc1 (zc1 (Below.refl w.heap.size w) (.cells (entV E A n c) 97)) (.cells (entV zeroE none 0 0) 97)
 have HS1:=zak (HS.out.below hbw)
 have HQ:Hid (∀ w1 A1 c1,zdq w1 (w.heap.size+1+1) A1 n c1 E.df→Below w.heap.size w w1→Blk w1 (w.heap.size+1) 97 (entV zeroE none 0 0)→ (Blk (put11 (w1.setCell ⟨w.heap.size,10,none⟩ (.slice A1 n c1)) (w.heap.size+1) E A1 n c1) (w.heap.size+1) 97 (entV E A1 n c1)∧
  zdq (put11 (w1.setCell ⟨w.heap.size,10,none⟩ (.slice A1 n c1)) (w.heap.size+1) E A1 n c1) w.heap.size A1 n c1 E.df∧Below w.heap.size w (put11 (w1.setCell ⟨w.heap.size,10,none⟩ (.slice A1 n c1)) (w.heap.size+1) E A1 n c1))):= zak (by
  intro w1 A1 c1 hO hb hB
  have o1:zdv (fun k=>k=w.heap.size∨k=w.heap.size+1) w1 (put11 (w1.setCell ⟨w.heap.size,10,none⟩ (.slice A1 n c1)) (w.heap.size+1) E A1 n c1):=
   (zdv.of_set (F:=fun k=>k=w.heap.size∨k=w.heap.size+1) (.inl rfl) _).trans (ziu _ _ _ _ _ _) (fun i _ h=> .inr h)
  refine⟨zit (hB.far (p:=⟨w.heap.size,10,none⟩) (by simp) _) rfl E A1 n c1,(zi0 hO o1 (fun g h1 _ h2=>by omega)).mono (by omega),hb.trans (o1.below hb.size (fun i h=>by omega))⟩)
 unfold put11 at HQ
 have HQ':=zak HQ
 clear HQ
 unfold entV zeroE at K0 hbw
 unfold entV
 obtain⟨K1,K2⟩:= K0
 go_enter Tryz.func50,Tryz.ntmps50
 go_wp2_with fail
 refine (zgq A n c E.df _ HN.out hl HS1.out).mono ?_
 rintro e w1 ⟨A1,c1,rfl,hO1,hb1⟩
 have q1:=K1.below hb1 K1.lt
 have q2:=K2.below hb1 K2.lt
 replace hO1:=hO1.mono (B':=w.heap.size+1+1) (by simp)
 have HO:=zak hO1
 have HQ2:=zak q2
 have hbw2:=zc0 hb1 hbw
 have hne:w.heap.size≠w.heap.size+1:=by omega
 clear K1 K2 hO1
 obtain⟨q1_c0,q1_c1,q1_c2,q1_c3,q1_c4,q1_c5,q1_c6,q1_c7,q1_c8,q1_c9,q1_c10⟩:= zc7 q1
 have q1_f:=q1.frozen
 obtain⟨q2_c0,q2_c1,q2_c2,q2_c3,q2_c4,q2_c5,q2_c6,q2_c7,q2_c8,q2_c9,q2_c10⟩:= zc7 q2
 have q2_f:=q2.frozen
 go_wp2_with fail
 obtain⟨r1,r2,r3⟩:= HQ'.out.out w1 A1 c1 HO.out hbw2 HQ2.out
 exact zix (E:=E) (A:=A1) (n:=n) (c:=c1) rfl rfl rfl r1 ⟨A1,c1,rfl,r2,r3⟩
theorem zi2 (k:Nat) (E:Ent) (w:World) (F:Nat→Prop) (p gl n cl cv:Nat) (Av:Option Addr) (L:List Ent) (V:List (List UInt8)) (ds es:List (Option Addr×Nat))
 (hD:DB 107 w F p (some ⟨gl,0,none⟩) n cl Av cv L V ds es) (hE:L[k]? =some E) :
 Calls Tryz.prog 209 #[.pointer (some ⟨p,0,none⟩),.int .i64 k] w fun e w'=> ∃ A c,e= .returned (.tuple #[.agg (entV E A E.df.length c),.bool true])∧ zdq w' w.heap.size A E.df.length c E.df∧Below w.heap.size w w':=by
 have hbw:=zc1 (Below.refl w.heap.size w) (.cells (entV zeroE none 0 0) 97)
 have q:=zdb w 97 (entV zeroE none 0 0)
 have hk:k < n:=by rw[hD.ents.hn];exact (List.getElem?_eq_some_iff.1 hE).1
 have hD1:=hD.below hbw
 obtain⟨g,d,hA,zg,_,hO,hfit,c0,c1,c2,c3,c4,c5,c6,c7,c8,c9,c10⟩:= hD1.ent hE
 injection hA with hA
 injection hA with hA
 subst hA
 have hBr:=hD1.blk
 have HO:=zak hO.sl
 have hf:E.df.length≤35184372088832:=hfit.1
 have HQ:Hid (∀ w1 A1 c1,zdq w1 (w.heap.size+1) A1 E.df.length c1 E.df→Below w.heap.size w w1→Blk w1 w.heap.size 97 (entV zeroE none 0 0)→ (Blk (put11 w1 w.heap.size E A1 E.df.length c1) w.heap.size 97 (entV E A1 E.df.length c1)∧
  zdq (put11 w1 w.heap.size E A1 E.df.length c1) w.heap.size A1 E.df.length c1 E.df∧Below w.heap.size w (put11 w1 w.heap.size E A1 E.df.length c1))):= zak (by
  intro w1 A1 c1 hO hb hB
  have o1:=ziu w1 w.heap.size E A1 E.df.length c1
  exact⟨zit hB rfl E A1 _ c1,(zi0 hO o1 (fun g h1 _ h2=>by omega)).mono (by omega),hb.trans (o1.below hb.size (fun i h=>by omega))⟩)
 unfold put11 at HQ
 have HQ':=zak HQ
 clear HQ hD hE hO hfit hD1
 unfold entV zeroE at q hbw hBr c0 c1 c2 c3 c4 c5 c6 c7 c8 c9 c10 zg
 have HB:=zak hBr
 obtain⟨hBr_c0,hBr_c1⟩:= zc3 hBr
 have hBr_f:=hBr.frozen
 go_enter Tryz.func209,Tryz.ntmps209
 go_wp2_with fail
 refine (zgs _ HB.out).mono ?_
 rintro e w1 ⟨rfl,rfl⟩
 go_wp2_with fail
 refine (zi1 E d.1 E.df.length d.2 _ rfl hf HO.out).mono ?_
 rintro e w2 ⟨A2,c2',rfl,hO2,hb2⟩
 clear c0 c1 c2 c3 c4 c5 c6 c7 c8 c9 c10
 clear hBr_c0 hBr_c1 hBr_f
 have q2:=q.below hb2 q.lt
 have HQ2:=zak q2
 replace hO2:=hO2.mono (B':=w.heap.size+1) (by simp)
 have HO2:=zak hO2
 have hbw2:=zc0 hb2 hbw
 unfold entV
 clear hO2
 obtain⟨q2_c0,q2_c1,q2_c2,q2_c3,q2_c4,q2_c5,q2_c6,q2_c7,q2_c8,q2_c9,q2_c10⟩:= zc7 q2
 have q2_f:=q2.frozen
 go_wp2_with fail
 obtain⟨r1,r2,r3⟩:= HQ'.out.out w2 A2 c2' HO2.out hbw2 HQ2.out
 exact ziy (E:=E) (A:=A2) (n:=E.df.length) (c:=c2') rfl rfl rfl r1 ⟨A2,c2',rfl,r2,r3⟩
end
section
open Go.RowKit
set_option maxRecDepth 20000
theorem zi3 (ty:TypeId) (A:Option Addr) (n:Nat) (l:List UInt8) (A2:Option Addr) (m c2:Nat) (l2:List UInt8) (w:World) (hn:n=l.length) (h1:Sl w A (l.map bv)) (hm:m=l2.length) (h2:Sl w A2 (l2.map bv)) (hb:n+m≤140737488355328) (hA:A=none→n=0) :
 ∃ A' c' w',(Builtin.append_ #[27,27] ty #[.slice A n n,.slice A2 m c2]).run Tryz.prog w= .ok (.slice A' (n+m) c') w'∧Sl w' A' ((l ++ l2).map bv)∧ n+m≤c'∧Below w.heap.size w w'∧((m=0∧A'=A)∨ (A'=some ⟨w.heap.size,0,none⟩∧ w.heap.size < w'.heap.size)):= by
 obtain⟨i0,hi0,hz0,hz1,hz2⟩:= info_parts zdo
 rcases Nat.eq_zero_or_pos m with h0 | h0
 · subst h0
   obtain rfl:l2= []:= List.eq_nil_of_length_eq_zero hm.symm
   refine⟨A,n,w,?_,by simpa using h1,by omega,Below.refl _ _,.inl ⟨rfl,rfl⟩⟩
   have hl:∀ (x:Addr),(loadCells x 0).run Tryz.prog w= .ok #[] w:=fun x=>by simpa using run_loadCells_list (P:=Tryz.prog) w x [] (by simp)
   rcases A with _ | a
   · obtain rfl:=hA rfl
     cases A2<;>simp[Builtin.append_,run_underlying (P:=Tryz.prog) Tryz.underlying27,sizeOf,typeInfo,hi0,Builtin.lenOf,Builtin.firstCells,hl]
   · cases A2<;>simp[Builtin.append_,run_underlying (P:=Tryz.prog) Tryz.underlying27,sizeOf,typeInfo,hi0,Builtin.lenOf,Builtin.firstCells,hl,storeCells]
 · have hx:∃ a2,A2=some a2∧ ∀ j u,(l2.map bv)[j]? =some u→w.cell? (a2.add j)=some u:=by
    obtain⟨a2,rfl,_⟩:= h2 0 _ (List.getElem?_eq_getElem (by simp;omega))
    refine⟨a2,rfl,fun j u hu=>?_⟩
    obtain⟨a',e,hc⟩:= h2 j u hu
    injection e with e
    subst e
    exact hc
   obtain⟨a2,rfl,hnews⟩:= hx
   rcases A with _ | a
   · obtain rfl:=hA rfl
     obtain rfl:l= []:= List.eq_nil_of_length_eq_zero hn.symm
     have hr:=run_append_nil (P:=Tryz.prog) w 27 ty 5 i0 (.int .u8 0) Tryz.underlying27 hi0 hz0 a2 m c2 (l2.map bv) (by simp[hm,hz1]) hnews h0 (by omega) (by rw[hz2];omega)
     refine⟨some ⟨w.heap.size,0,none⟩,grownCap w m 0 5,_,by simpa using hr,?_,by simpa using grownCap_ge w m 0 _,(Below.refl _ _).drew.alloc (Nat.le_refl _) _,.inr ⟨rfl,by simp⟩⟩
     intro j u hu
     refine⟨_,rfl,?_⟩
     simp only[List.nil_append] at hu
     rw[Addr.add_lit,Nat.zero_add]
     have hj:=(List.getElem?_eq_some_iff.1 hu).1
     rw[World.cell?]
     simp only[heap_alloc_new]
     have hs:(w.drew.alloc (.cells ((l2.map bv).toArray ++ Builtin.zeroCells (Value.int IntKind.u8 0).cells (grownCap w m 0 5 - m)) 5)).heap[w.heap.size]? =some (.cells ((l2.map bv).toArray ++ Builtin.zeroCells (Value.int IntKind.u8 0).cells (grownCap w m 0 5 - m)) 5):= heap_alloc_new w.drew _
     rw[hs]
     simp only[]
     rw[Array.getElem?_append_left (by simpa using hj)]
     simpa using hu
   · have holds:∀ j u,(l.map bv)[j]? =some u→w.cell? (a.add j)=some u:=by
      intro j u hu
      obtain⟨a',e,hc⟩:= h1 j u hu
      injection e with e
      subst e
      exact hc
     have hr:=run_append_grow (P:=Tryz.prog) w 27 ty 5 i0 (.int .u8 0) Tryz.underlying27 hi0 hz0 a n n (l.map bv) (by simp[hn,hz1]) holds a2 m c2 (l2.map bv) (by simp[hm,hz1]) hnews (by omega) (by omega) (by rw[hz2];have:=nextslicecap_le (need:=n+m) (old:=n) (by omega);omega)
     refine⟨some ⟨w.heap.size,0,none⟩,grownCap w (n+m) n 5,_,hr,?_,grownCap_ge w (n+m) n _,(Below.refl _ _).drew.alloc (Nat.le_refl _) _,.inr ⟨rfl,by simp⟩⟩
     intro j u hu
     refine⟨_,rfl,?_⟩
     rw[Addr.add_lit,Nat.zero_add]
     have hj:=(List.getElem?_eq_some_iff.1 hu).1
     rw[World.cell?]
     have hs:(w.drew.alloc (.cells ((l.map bv).toArray ++ (l2.map bv).toArray ++ Builtin.zeroCells (Value.int IntKind.u8 0).cells (grownCap w (n+m) n 5 - (n+m))) 5)).heap[w.heap.size]? =some (.cells ((l.map bv).toArray ++ (l2.map bv).toArray ++ Builtin.zeroCells (Value.int IntKind.u8 0).cells (grownCap w (n+m) n 5 - (n+m))) 5):= heap_alloc_new w.drew _
     rw[hs]
     simp only[]
     rw[Array.getElem?_append_left (by simpa using hj)]
     simpa using hu
theorem zi4 {o:Oper} {a:Act} {K:Act→World→Prop} {Q:Exit→Act→World→Prop} {w:World} (s x:Operand) (ho:o.op= .call { callee:= .builtin .append,args:= #[s,x],argTypes:= #[27,27] })
 (A:Option Addr) (n:Nat) (l:List UInt8) (hs:a.eval s= .slice A n n) (hn:n=l.length) (h1:Sl w A (l.map bv)) (hA:A=none→n=0)
 (A2:Option Addr) (m c2:Nat) (l2:List UInt8) (hx:a.eval x= .slice A2 m c2) (hm:m=l2.length) (h2:Sl w A2 (l2.map bv)) (hb:n+m≤140737488355328)
 (h:∀ A' c' w',Sl w' A' ((l ++ l2).map bv)→ n+m≤c'→Below w.heap.size w w'→((m=0∧A'=A)∨ (A'=some ⟨w.heap.size,0,none⟩∧ w.heap.size < w'.heap.size))→ K (a.put o.dst (.slice A' (n+m) c')) w'):Oper.wp Tryz.prog o a w K Q:=by
 obtain⟨A',c',w',hr,h3,h4,h5,h6⟩:= zi3 o.type A n l A2 m c2 l2 w hn h1 hm h2 hb hA
 unfold Oper.wp execOp
 simp only[ho,resolve,invoke,builtin,Sem.run_bind,Sem.run_pure,Result.andThen_ok,List.map_toArray,List.map_cons,List.map_nil,hs,hx,hr]
 exact h A' c' w' h3 h4 h5 h6
theorem zi5 {o:Oper} {a:Act} {K:Act→World→Prop} {Q:Exit→Act→World→Prop} {w:World} (s x:Operand) (ho:o.op= .call { callee:= .builtin .append,args:= #[s,x],argTypes:= #[27,27] })
 (B:Nat) (A:Option Addr) (n c:Nat) (l:List UInt8) (hs:a.eval s= .slice A n c) (hown:zdq w B A n c l)
 (A2:Option Addr) (m c2:Nat) (l2:List UInt8) (hx:a.eval x= .slice A2 m c2) (hm:m=l2.length) (hr:Sl w A2 (l2.map bv)) (hb:n+m≤140737488355328) (hB:B≤w.heap.size) (N:Nat) (hN:n+m=N)
 (h:∀ A' c' w',zdq w' B A' N c' (l ++ l2)→ Below B w w'→K (a.put o.dst (.slice A' N c')) w'):Oper.wp Tryz.prog o a w K Q:=by
 subst hN
 obtain⟨i0,hi0,hz0,hz1,hz2⟩:= info_parts zdo
 obtain⟨A',c',w',hr',h2,h3,h4⟩:= zct (P:=Tryz.prog) w B 27 o.type 5 i0 _ 1 1 Tryz.underlying27 hi0 hz0 hz1 hz2 rfl (by omega) A n c _ hown.own A2 m c2 (l2.map bv) (by simp[hm]) hr (zcw _) (by unfold maxLen;omega) (by omega) hB
 unfold Oper.wp execOp
 simp only[ho,resolve,invoke,builtin,Sem.run_bind,Sem.run_pure,Result.andThen_ok,List.map_toArray,List.map_cons,List.map_nil,hs,hx,hr']
 exact h A' c' w' ⟨by rw[hown.hn,hm];simp,by rw[List.map_append];exact h2⟩ (zcs hown.own hB h3)
theorem zi6 (A:Option Addr):A.map (fun x=>x.add 0)=A:=by
 cases A with
 | none=>rfl
 | some a=>
   obtain⟨b,o,s⟩:= a
   cases s<;>simp[Addr.add]
theorem zi7 (A:Option Addr) (n c k:Nat) (kk:Int) (kd:IntKind) (hk:kk=(k:Int)) (hc:k≤c) (w:World) :
 (Instr.slice 27 (.slice A n c) none (some (.int kd kk)) none).run Tryz.prog w= .ok (.slice A k c) w:=by
 subst hk
 obtain⟨i0,hi0,hz0,hz1,hz2⟩:= info_parts zdo
 have he:Tryz.prog.elem 27=5:=by simp[Program.elem,Tryz.underlying27]
 have ht':Tryz.prog.underlying 27=some (.slice (Tryz.prog.elem 27)):= by rw[he];exact Tryz.underlying27
 rw[run_slice_h (P:=Tryz.prog) (w:=w) (t:=27) (a:=A) (len:=n) (cap:=c) ht' kd k (by omega) (by omega)]
 simp[he,sizeOf,typeInfo,hi0,sliced,zi6]
theorem zi8 (A:Option Addr) (n c k m:Nat) (kk mm:Int) (kd kd':IntKind) (hk:kk=(k:Int)) (hm:mm=(m:Int)) (hkm:k≤m) (hc:m≤c) (w:World) :
 (Instr.slice 27 (.slice A n c) none (some (.int kd kk)) (some (.int kd' mm))).run Tryz.prog w= .ok (.slice A k m) w:=by
 subst hk
 subst hm
 obtain⟨i0,hi0,hz0,hz1,hz2⟩:= info_parts zdo
 have he:Tryz.prog.elem 27=5:=by simp[Program.elem,Tryz.underlying27]
 have ht':Tryz.prog.underlying 27=some (.slice (Tryz.prog.elem 27)):= by rw[he];exact Tryz.underlying27
 rw[run_slice_hm (P:=Tryz.prog) (w:=w) (t:=27) (a:=A) (len:=n) (cap:=c) ht' kd kd' k m (by omega) (by omega) (by omega)]
 simp[he,sizeOf,typeInfo,hi0,sliced,zi6]
theorem Sl.take_ {w:World} {A:Option Addr} {xs:List Value} (h:Sl w A xs) (k:Nat):Sl w A (xs.take k):= by
 intro j u hu
 rw[List.getElem?_take] at hu
 split at hu
 · exact h j u hu
 · cases hu
end
end Go.Proofs.YthdbckbpldlkeaaGreat
