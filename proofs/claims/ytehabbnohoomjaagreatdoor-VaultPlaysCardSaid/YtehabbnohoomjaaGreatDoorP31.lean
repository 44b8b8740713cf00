/- None -/
import Derived.Test.YtehabbnohoomjaaGreatDoorP30
namespace Go.Proofs.YtehabbnohoomjaaGreatDoor
set_option linter.unusedVariables false
set_option linter.unusedSimpArgs false
set_option linter.unnecessarySimpa false
section
open Go.RowKit
set_option maxRecDepth 20000
set_option maxHeartbeats 1000000
theorem ztc {α:Type} {f: α→Option Addr×Nat→List Value} {k:Nat} {e:TypeId} {dat: α→List UInt8} {F:Nat→Prop} {o:Oper} {a:Act} {K:Act→World→Prop} {Q:Exit→Act→World→Prop} {w:World} (s x:Operand) (ty:TypeId)
 (ho:o.op= .call { callee:= .builtin .append,args:= #[s,x],argTypes:= #[ty,ty] })
 (hf:∀ v d,(f v d).length=k) (hone:∀ v d,∀ u ∈ f v d,u.oneCell'=true) (hne:5≠e) (bytes:Nat) (z:Value) (hu:Tryz.prog.underlying ty=some (.slice e)) (hi:(Tryz.prog.info? e).map (fun i=>(i.zero,i.size,i.bytes))=some (some z,k,bytes)) (hzs:z.cells.size=k) (hk0:0 < k) (hb4:bytes≤4096)
 (A:Option Addr) (n c:Nat) (L:List α) (ds:List (Option Addr×Nat)) (hs:a.eval s= .slice A n c) (hown:zcq f k e dat w F A n c L ds)
 (v: α) (d:Option Addr×Nat) (A2:Option Addr) (hx:a.eval x= .slice A2 1 1)
 (hr:Sl w A2 (f v d)) (hv:zcd w 0 d.1 (dat v).length d.2 (dat v)) (hvF:FIn F d.1) (hF:∀ g,w.heap.size≤g→F g)
 (hb:n≤34359738)
 (h:∀ A' c' w',zcq f k e dat w' F A' (n+1) c' (L ++ [v]) (ds ++ [d])→ w.grownBy w' (Value.ownBlock (.slice A n c))→ (A'=A∨A'=some ⟨w.heap.size,0,none⟩)→ K (a.put o.dst (.slice A' (n+1) c')) w'):Oper.wp Tryz.prog o a w K Q:=by
 obtain⟨i0,hi0,hz0,hz1,hz2⟩:= info_parts hi
 obtain⟨A',c',w',hr',h2,h3,h4⟩:= za3 (P:=Tryz.prog) w 0 ty o.type e i0 _ k bytes hu hi0 hz0 hz1 hz2 hzs hk0 A n c _ hown.own A2 1 1 _ (by rw[hf];omega) hr (hone v d) (by unfold maxLen;omega) (by
  calc (n+1) * bytes≤(n+1) * 4096:=Nat.mul_le_mul_left _ hb4
   _≤_:=by omega) (Nat.zero_le _)
 unfold Oper.wp execOp
 simp only[ho,resolve,invoke,builtin,Sem.run_bind,Sem.run_pure,Result.andThen_ok,List.map_toArray,List.map_cons,List.map_nil,hs,hx,hr']
 exact h A' c' w' (hown.snoc hne h2 h3 h4 hF hv hvF) h3 h4
def SlE (w:World) (A:Option Addr) (L:List Ent):Prop:= ∀ j E,L[j]? =some E→ ∃ b off Aj cj,A=some ⟨b,off,none⟩∧ (w.cell? ⟨b,off+j * 11,none⟩=some (.int .i64 E.ix)∧ w.cell? ⟨b,off+j * 11+1,none⟩=some (.int .i64 E.sub)∧ w.cell? ⟨b,off+j * 11+2,none⟩=some (.string E.nm)∧ w.cell? ⟨b,off+j * 11+3,none⟩=some (.int .i64 E.ty)∧ w.cell? ⟨b,off+j * 11+4,none⟩=some (.int .i64 E.acc)∧ w.cell? ⟨b,off+j * 11+5,none⟩=some (.bool E.mp)∧ w.cell? ⟨b,off+j * 11+6,none⟩=some (.bool E.st)∧ w.cell? ⟨b,off+j * 11+7,none⟩=some (.int .i64 E.mx)∧ w.cell? ⟨b,off+j * 11+8,none⟩=some (.int .i64 E.lo)∧ w.cell? ⟨b,off+j * 11+9,none⟩=some (.int .i64 E.hi)∧ w.cell? ⟨b,off+j * 11+10,none⟩=some (.slice Aj E.df.length cj))∧ E.df.length≤cj∧Sl w Aj (E.df.map bv)
theorem SlE.below {w w':World} {A:Option Addr} {L:List Ent} (h:SlE w A L) (hb:Below w.heap.size w w'):SlE w' A L:=by
 intro j E hE
 obtain⟨b,off,Aj,cj,hA,⟨c0,c1,c2,c3,c4,c5,c6,c7,c8,c9,c10⟩,hc,hs⟩:= h j E hE
 have k:∀ {p v},w.cell? p=some v→w'.cell? p=some v:=fun hc=>(hb.cell (zal hc)).trans hc
 exact⟨b,off,Aj,cj,hA,⟨k c0,k c1,k c2,k c3,k c4,k c5,k c6,k c7,k c8,k c9,k c10⟩,hc,hs.below hb⟩
theorem SlE.two {w w':World} {A:Option Addr} {L:List Ent} (h:SlE w A L) (hb:Below w.heap.size w w') {j:Nat} {E:Ent} (hE:L[j]? =some E) :
 ∃ b off Aj cj,A=some ⟨b,off,none⟩∧ (w'.cell? ⟨b,off+j * 11,none⟩=some (.int .i64 E.ix)∧ w'.cell? ⟨b,off+j * 11+1,none⟩=some (.int .i64 E.sub)∧ w'.cell? ⟨b,off+j * 11+2,none⟩=some (.string E.nm)∧ w'.cell? ⟨b,off+j * 11+3,none⟩=some (.int .i64 E.ty)∧ w'.cell? ⟨b,off+j * 11+4,none⟩=some (.int .i64 E.acc)∧ w'.cell? ⟨b,off+j * 11+5,none⟩=some (.bool E.mp)∧ w'.cell? ⟨b,off+j * 11+6,none⟩=some (.bool E.st)∧ w'.cell? ⟨b,off+j * 11+7,none⟩=some (.int .i64 E.mx)∧ w'.cell? ⟨b,off+j * 11+8,none⟩=some (.int .i64 E.lo)∧ w'.cell? ⟨b,off+j * 11+9,none⟩=some (.int .i64 E.hi)∧ w'.cell? ⟨b,off+j * 11+10,none⟩=some (.slice Aj E.df.length cj))∧ E.df.length≤cj∧Sl w Aj (E.df.map bv):= by
 obtain⟨b,off,Aj,cj,hA,⟨c0,c1,c2,c3,c4,c5,c6,c7,c8,c9,c10⟩,hc,hs⟩:= h j E hE
 have k:∀ {p v},w.cell? p=some v→w'.cell? p=some v:=fun hc=>(hb.cell (zal hc)).trans hc
 exact⟨b,off,Aj,cj,hA,⟨k c0,k c1,k c2,k c3,k c4,k c5,k c6,k c7,k c8,k c9,k c10⟩,hc,hs⟩
theorem ztd {w w':World} {b o:Nat} {E:Ent} {A:Option Addr} {n c:Nat} (h:w.cell? ⟨b,o,none⟩=some (.int .i64 E.ix)∧ w.cell? ⟨b,o+1,none⟩=some (.int .i64 E.sub)∧ w.cell? ⟨b,o+2,none⟩=some (.string E.nm)∧ w.cell? ⟨b,o+3,none⟩=some (.int .i64 E.ty)∧ w.cell? ⟨b,o+4,none⟩=some (.int .i64 E.acc)∧ w.cell? ⟨b,o+5,none⟩=some (.bool E.mp)∧ w.cell? ⟨b,o+6,none⟩=some (.bool E.st)∧ w.cell? ⟨b,o+7,none⟩=some (.int .i64 E.mx)∧ w.cell? ⟨b,o+8,none⟩=some (.int .i64 E.lo)∧ w.cell? ⟨b,o+9,none⟩=some (.int .i64 E.hi)∧ w.cell? ⟨b,o+10,none⟩=some (.slice A n c)) (hb:Below w.heap.size w w'):w'.cell? ⟨b,o,none⟩=some (.int .i64 E.ix)∧ w'.cell? ⟨b,o+1,none⟩=some (.int .i64 E.sub)∧ w'.cell? ⟨b,o+2,none⟩=some (.string E.nm)∧ w'.cell? ⟨b,o+3,none⟩=some (.int .i64 E.ty)∧ w'.cell? ⟨b,o+4,none⟩=some (.int .i64 E.acc)∧ w'.cell? ⟨b,o+5,none⟩=some (.bool E.mp)∧ w'.cell? ⟨b,o+6,none⟩=some (.bool E.st)∧ w'.cell? ⟨b,o+7,none⟩=some (.int .i64 E.mx)∧ w'.cell? ⟨b,o+8,none⟩=some (.int .i64 E.lo)∧ w'.cell? ⟨b,o+9,none⟩=some (.int .i64 E.hi)∧ w'.cell? ⟨b,o+10,none⟩=some (.slice A n c):= by
 obtain⟨c0,c1,c2,c3,c4,c5,c6,c7,c8,c9,c10⟩:= h
 have k:∀ {p v},w.cell? p=some v→w'.cell? p=some v:=fun hc=>(hb.cell (zal hc)).trans hc
 exact⟨k c0,k c1,k c2,k c3,k c4,k c5,k c6,k c7,k c8,k c9,k c10⟩
theorem zte {w w':World} (h:Below w.drew.heap.size w.drew w'):Below w.heap.size w w':=⟨h.os,h.tape,h.output,h.size,h.block⟩
theorem ztf {w:World} {b:Nat} {E:Ent} {A:Option Addr} {n c:Nat} (h:Blk w b 55 (entV E A n c)):w.cell? ⟨b,0,none⟩=some (.int .i64 E.ix)∧ w.cell? ⟨b,1,none⟩=some (.int .i64 E.sub)∧ w.cell? ⟨b,2,none⟩=some (.string E.nm)∧ w.cell? ⟨b,3,none⟩=some (.int .i64 E.ty)∧ w.cell? ⟨b,4,none⟩=some (.int .i64 E.acc)∧ w.cell? ⟨b,5,none⟩=some (.bool E.mp)∧ w.cell? ⟨b,6,none⟩=some (.bool E.st)∧ w.cell? ⟨b,7,none⟩=some (.int .i64 E.mx)∧ w.cell? ⟨b,8,none⟩=some (.int .i64 E.lo)∧ w.cell? ⟨b,9,none⟩=some (.int .i64 E.hi)∧ w.cell? ⟨b,10,none⟩=some (.slice A n c):=
 ⟨h.cell 0 rfl,h.cell 1 rfl,h.cell 2 rfl,h.cell 3 rfl,h.cell 4 rfl,h.cell 5 rfl,h.cell 6 rfl,h.cell 7 rfl,h.cell 8 rfl,h.cell 9 rfl,h.cell 10 rfl⟩
theorem ztg {g H:Nat} {A':Option Addr} (h:A'=some (⟨g,0,none⟩:Addr)∨ A'=some ⟨H,0,none⟩):∃ g',A'=some ⟨g',0,none⟩:= h.elim (fun h=>⟨g,h⟩) (fun h=>⟨H,h⟩)
def svF (v:SV) (d:Option Addr×Nat):List Value:= [.int .i64 v.ix,.int .i64 v.sub,.slice d.1 v.data.length d.2]
theorem zth (v:SV) (d:Option Addr×Nat):(svF v d).length=3:=rfl
theorem zti (v:SV) (d:Option Addr×Nat):∀ u ∈ svF v d,u.oneCell'=true:=by
 intro u hu
 simp only[svF,List.mem_cons,List.not_mem_nil,or_false] at hu
 rcases hu with rfl | rfl | rfl<;>rfl
theorem ztj:(Tryz.prog.info? 52).map (fun i=>(i.zero,i.size,i.bytes))=some (some (.agg #[.int .i64 0,.int .i64 0,.slice none 0 0]),3,40):= by kernel_rfl
abbrev OwnSV (w:World) (F:Nat→Prop) (A:Option Addr) (n c:Nat) (L:List SV) (ds:List (Option Addr×Nat)):Prop:=zcq svF 3 52 SV.data w F A n c L ds
def ztk (ds:List (Option Addr×Nat)):Prop:=ds.Pairwise (fun a b=> ∀ g,a.1=some (⟨g,0,none⟩:Addr)→ b.1≠some ⟨g,0,none⟩)
theorem ztk.nil:ztk []:= List.Pairwise.nil
theorem ztk.snoc {ds:List (Option Addr×Nat)} (h:ztk ds) {d:Option Addr×Nat} {N:Nat} (h1:∀ e ∈ ds,∀ g,e.1=some (⟨g,0,none⟩:Addr)→ g < N) (h2:FIn (fun g=>N≤g) d.1):ztk (ds ++ [d]):= by
 unfold ztk
 rw[List.pairwise_append]
 refine⟨h,List.pairwise_singleton _ _,?_⟩
 intro a ha b hb g hg he
 simp at hb
 subst hb
 have:=h1 a ha g hg
 have:=h2 g he
 omega
section
variable {w:World} {F:Nat→Prop} {A:Option Addr} {n c:Nat} {L:List SV} {ds:List (Option Addr×Nat)}
theorem zcq.dlt {α:Type} {f: α→Option Addr×Nat→List Value} {k:Nat} {e:TypeId} {dat: α→List UInt8} {L:List α} (h:zcq f k e dat w F A n c L ds):∀ d ∈ ds,∀ g,d.1=some (⟨g,0,none⟩:Addr)→ g < w.heap.size:=by
 intro d hd g hg
 obtain⟨j,hj,rfl⟩:= List.getElem_of_mem hd
 obtain⟨v,hv⟩:∃ v,L[j]? =some v:=⟨L[j]'(by rw[← h.hd];exact hj),List.getElem?_eq_getElem _⟩
 exact ((h.data j v _ hv (List.getElem?_eq_getElem hj)).1.own.fin g hg).2
theorem zcq.slV (h:OwnSV w F A n c L ds):SlV w A L:=by
 intro j v hv
 obtain⟨d,hd,hO,_⟩:= h.elem hv
 obtain⟨g,hA,_,hc⟩:= h.cells zth hv hd (by omega)
 exact⟨g,0,d.1,d.2,hA,by rw[Nat.zero_add];exact hc 0 _ rfl,by rw[Nat.zero_add];exact hc 1 _ rfl,by rw[Nat.zero_add];exact hc 2 _ rfl,hO.own.le,hO.sl⟩
end
section
variable {α:Type} {f: α→Option Addr×Nat→List Value} {k:Nat} {e:TypeId} {dat: α→List UInt8} {w w':World} {F:Nat→Prop} {n c:Nat} {A:Option Addr} {L:List α} {ds:List (Option Addr×Nat)}
theorem zcq.grownT (h:zcq f k e dat w F A n c L ds) {B2 e2 s2 n2 c2:Nat} {A2:Option Addr} {xs2:List Value} (hg:w.grownBy w' (Value.ownBlock (.slice A2 n2 c2))) (h2:Own w B2 e2 s2 A2 n2 c2 xs2) (h1:e≠e2) (h3:5≠e2):zcq f k e dat w' F A n c L ds:=
 ⟨h.hn,h.hd,h.own.grown hg (zcl h.own h2 h1),h.inF,fun j v d hv hd=>⟨⟨(h.data j v d hv hd).1.hn,(h.data j v d hv hd).1.own.grown hg (zcl (h.data j v d hv hd).1.own h2 h3)⟩,(h.data j v d hv hd).2⟩⟩
theorem ztl {B e' s' n' c':Nat} {A':Option Addr} {xs':List Value} {g:Nat} {t:TypeId} {cs:Array Value} (h':Own w B e' s' A' n' c' xs') (h:Blk w g t cs) (hne:t≠e'):∀ g',A'=some (⟨g',0,none⟩:Addr)→ some g'≠some g:=by
 rintro g' rfl hg
 have:=zcm h h' hne
 simp[Value.ownBlock] at this
 injection hg with hg
 exact this hg.symm
theorem zcq.setT (h:zcq f k e dat w F A n c L ds) {g:Nat} {t:TypeId} {cs:Array Value} (hB:Blk w g t cs) (h1:t≠e) (h3:t≠5) (i:Nat) (u:Value):zcq f k e dat (w.setCell ⟨g,i,none⟩ u) F A n c L ds:=by
 have hg:w.grownBy (w.setCell ⟨g,i,none⟩ u) (some g):= za9 (World.grownBy.refl _ _) (.inl rfl) i u
 exact⟨h.hn,h.hd,h.own.grown hg (ztl h.own hB h1),h.inF,fun j v d hv hd=>⟨⟨(h.data j v d hv hd).1.hn,(h.data j v d hv hd).1.own.grown hg (ztl (h.data j v d hv hd).1.own hB h3)⟩,(h.data j v d hv hd).2⟩⟩
theorem zcq.empty {g:Nat} (hB:Blk w g e #[]) (hF:F g):zcq f k e dat w F (some ⟨g,0,none⟩) 0 0 [] []:=
 ⟨rfl,rfl,⟨by simp[cellsG],.inr ⟨g,0,#[],rfl,Nat.zero_le _,hB,Nat.le_refl _,by unfold maxLen;omega,by simp,by simp[cellsG]⟩⟩,fun g' hg=>by injection hg with hg;injection hg with hg;subst hg;exact hF,by intro j v d h;simp at h⟩
end
def svL (L:List Ent) (V:List (List UInt8)):List SV:=List.zipWith (fun E v=>⟨E.ix,E.sub,v⟩) L V
theorem ztm (L:List Ent) (V:List (List UInt8)) (h:V.length=L.length):(svL L V).length=L.length:=by simp[svL,h]
theorem ztn {L:List Ent} {V:List (List UInt8)} {k:Nat} {E:Ent} {v:List UInt8} (hE:L[k]? =some E) (hv:V[k]? =some v):(svL L V)[k]? =some ⟨E.ix,E.sub,v⟩:= by simp[svL,List.getElem?_zipWith,hE,hv]
theorem zto {α:Type} {L:List α} {k:Nat} {x: α} (h:L[k]? =some x):L.take (k+1)=L.take k ++ [x]:= by
 obtain⟨hk,rfl⟩:= List.getElem?_eq_some_iff.1 h
 exact List.take_succ_eq_append_getElem hk
end
section
section
open Go.RowKit
set_option maxRecDepth 100000
set_option maxHeartbeats 2000000
theorem ztp (A:Option Addr) (n c:Nat) (l:List UInt8) (w:World) (hn:n=l.length) (hl:n≤35184372088832) (hs:Sl w A (l.map bv)) :
 Calls Tryz.prog 64 #[.slice none 0 0,.slice A n c] w fun e w'=> ∃ A' c',e= .returned (.slice A' n c')∧ zcd w' w.heap.size A' n c' l∧Below w.heap.size w w':=by
 refine (zc1 none A 0 n 0 c [] l w rfl hn (by omega) hl (Sl.nil _ _) hs).mono ?_
 rintro e w' ⟨A',n',c',rfl,hO,hb⟩
 have h1:n'=n:=by have:=hO.hn;simp at this;omega
 subst h1
 exact⟨A',c',rfl,hO,hb⟩
section
variable {F:Nat→Prop} {p n cl cv:Nat} {Al Av:Option Addr} {L:List Ent} {V:List (List UInt8)} {ds es:List (Option Addr×Nat)}
theorem ztq {α:Type} {L:List α} {k:Nat} {x: α} (h:L[k]? =some x):L.drop k=x :: L.drop (k+1):= by
 obtain⟨hk,rfl⟩:= List.getElem?_eq_some_iff.1 h
 exact List.drop_eq_getElem_cons hk
theorem ztr (ix sub:Int) (w:World) (hD:DB 112 w F p Al n cl Av cv L V ds es) (hn:n≤1000) :
 Calls Tryz.prog 65 #[.pointer (some ⟨p,0,none⟩),.int .i64 ix,.int .i64 sub] w fun e w'=>e= .returned (.int .i64 (findL L ix sub))∧ w=w':=by
 have HD:=zak hD
 have HN:=zak hD.ents.hn
 have hB:=hD.blk
 clear hD
 obtain⟨hB_c0,hB_c1⟩:= zbg hB
 have hB_f:=hB.frozen
 go_enter Tryz.func65,Tryz.ntmps65
 go_wp2_with fail
 go_loopw [7,8] (fun s7 s8 wr=> ∃ (k:Nat) (kk:Int),k≤n∧s7= .int .i64 kk∧s8= .int .i64 (k:Nat)∧ Hid (findA (L.drop k) ix sub k kk=findL L ix sub)∧ w=wr) (fun _ s8 _=>n - (intOf s8).toNat)
 case atStart=>exact⟨0,-2,by omega,rfl,rfl,zak rfl,rfl⟩
 case round=>
  obtain⟨k,kk,hk,rfl,rfl,HA,rfl⟩:= hrel
  by_cases hlt:k < n
  · obtain⟨E,hE⟩:∃ E,L[k]? =some E:=⟨L[k]'(by rw[← HN.out];exact hlt),List.getElem?_eq_getElem _⟩
    obtain⟨g,d,rfl,zg,_,_,_,c0,c1,c2,c3,c4,c5,c6,c7,c8,c9,c10⟩:= HD.out.ent hE
    have HAE:Hid (findA (L.drop (k+1)) ix sub (k+1) (if E.ix≠ix then kk else if E.sub=sub then (k:Int) else if kk= -2 then -1 else kk)=findL L ix sub):= zak (by rw[← HA.out,ztq hE];rfl)
    clear hE c2 c3 c4 c5 c6 c7 c8 c9 c10 HA
    by_cases h1:E.ix=ix
    · by_cases h2:E.sub=sub
      · have HA2:Hid (findA (L.drop (k+1)) ix sub (k+1) (k:Int)=findL L ix sub):= zak (by have:=HAE.out;rw[if_neg (by simpa using h1),if_pos h2] at this;exact this)
        by_cases h3:kk= -2
        all_goals
         go_wp2_with fail
         go_roundw
         case rel=>exact⟨k+1,k,by omega,by rfl,by go_num,HA2,by trivial⟩
         case measure=>simp[intOf];omega
      · by_cases h3:kk= -2
        · have HA2:Hid (findA (L.drop (k+1)) ix sub (k+1) (-1)=findL L ix sub):= zak (by have:=HAE.out;rw[if_neg (by simpa using h1),if_neg h2,if_pos h3] at this;exact this)
          go_wp2_with fail
          go_roundw
          case rel=>exact⟨k+1,-1,by omega,by rfl,by go_num,HA2,by trivial⟩
          case measure=>simp[intOf];omega
        · have HA2:Hid (findA (L.drop (k+1)) ix sub (k+1) kk=findL L ix sub):= zak (by have:=HAE.out;rw[if_neg (by simpa using h1),if_neg h2,if_neg h3] at this;exact this)
          go_wp2_with fail
          go_roundw
          case rel=>exact⟨k+1,kk,by omega,by rfl,by go_num,HA2,by trivial⟩
          case measure=>simp[intOf];omega
    · have HA2:Hid (findA (L.drop (k+1)) ix sub (k+1) kk=findL L ix sub):= zak (by have:=HAE.out;rw[if_pos h1] at this;exact this)
      go_wp2_with fail
      go_roundw
      case rel=>exact⟨k+1,kk,by omega,by rfl,by go_num,HA2,by trivial⟩
      case measure=>simp[intOf];omega
  · have hkn:k=n:=by omega
    have HA2:Hid (kk=findL L ix sub):= zak (by have:=HA.out;rw[List.drop_eq_nil_of_le (by rw[hkn,HN.out];exact Nat.le_refl _)] at this;exact this)
    go_wp2_with fail
    go_ret
    exact⟨za0 HA2.out,rfl⟩
theorem zts (k:Int) (w:World):Calls Tryz.prog 66 #[.int .i64 k] w fun e w'=>e= .returned (.int .u32 (if k= -2 then 100794368 else 101253137))∧ w=w':=by
 by_cases h:k= -2
 · subst h
   go_enter Tryz.func66,Tryz.ntmps66
   go_wp2_with fail
   go_ret
   exact⟨rfl,rfl⟩
 · have HR:Hid ((if k= -2 then (100794368:Int) else 101253137)=101253137):= zak (if_neg h)
   go_enter Tryz.func66,Tryz.ntmps66
   go_wp2_with fail
   go_ret
   first | exact⟨rfl,rfl⟩ | exact⟨za0 HR.out.symm,rfl⟩
theorem ztt {L:List Ent} {ix sub:Int} (h: ¬ 0≤findL L ix sub):(if findL L ix sub= -2 then (100794368:Int) else 101253137)=codeL L ix sub:=by unfold codeL;rw[if_neg h]
end
end
section
open Go.RowKit
set_option maxRecDepth 100000
set_option maxHeartbeats 2000000
section
variable {F:Nat→Prop} {p n cl cv:Nat} {Al Av:Option Addr} {L:List Ent} {V:List (List UInt8)} {ds es:List (Option Addr×Nat)}
def RGetR (L:List Ent) (V:List (List UInt8)) (ix sub:Int) (w:World) (e:Ending) (w':World):Prop:=
 ∃ A m c b,e= .returned (.tuple #[.slice A m c,.int .u32 (getC L ix sub)])∧ zcd w' w.heap.size A m c b∧b=(if getC L ix sub=0 then valK V (locK L ix sub) else [])∧ Below w.heap.size w w'
def RPeekR (L:List Ent) (V:List (List UInt8)) (ix sub:Int) (w:World) (e:Ending) (w':World):Prop:=
 ∃ A m c b,e= .returned (.tuple #[.slice A m c,.bool (hasL L ix sub)])∧ zcd w' w.heap.size A m c b∧b=(if hasL L ix sub=true then valK V (locK L ix sub) else [])∧ Below w.heap.size w w'
end
end
end
section
section
open Go.RowKit
def ValuesR (X:List SV) (w:World) (e:Ending) (w':World):Prop:=
 ∃ A n c ds,e= .returned (.slice A n c)∧ OwnSV w' (fun g=>w.heap.size≤g) A n c X ds∧ztk ds∧Below w.heap.size w w'
end
section
open Go.RowKit
set_option maxRecDepth 100000
set_option maxHeartbeats 4000000
section
variable {F:Nat→Prop} {p n cl cv:Nat} {Av:Option Addr} {L:List Ent} {V:List (List UInt8)} {ds es:List (Option Addr×Nat)} {gl:Nat}
theorem ztu (w:World) (hD:DB 102 w F p (some ⟨gl,0,none⟩) n cl Av cv L V ds es) (hn:n≤1000) :
 Calls Tryz.prog 13 #[.pointer (some ⟨p,0,none⟩)] w (ValuesR (svL L V) w):= by
 have HD:=zak hD
 have HN:=zak hD.ents.hn
 have HNV:=zak hD.vals.hn
 have HLV:=zak hD.lenV
 have hB:=hD.blk
 have zp:=hB.lt
 clear hD
 obtain⟨hB_c0,hB_c1⟩:= zbg hB
 have hB_f:=hB.frozen
 go_enter Tryz.func13,Tryz.ntmps13
 go_wp2_with fail
 refine (zql _ hB).mono ?_
 rintro e w1 ⟨rfl,rfl⟩
 go_wp2_with fail
 go_loopw [3,7] (fun o i wr=> ∃ k A' c' ds',k≤n∧i= .int .i64 (k:Nat)∧ o= .slice A' k c'∧Hid (OwnSV wr (fun g=>w.heap.size≤g) A' k c' ((svL L V).take k) ds'∧ztk ds')∧ Below w.heap.size w wr) (fun _ i _=>n - (intOf i).toNat)
 case atStart=>exact⟨0,none,0,[],by omega,rfl,rfl,zak ⟨zcq.nil _ _,ztk.nil⟩,Below.refl _ _⟩
 case round=>
  obtain⟨k,A',c',ds',hk,rfl,rfl,HO,hbr⟩:= hrel
  by_cases hlt:k < n
  · obtain⟨E,hE⟩:∃ E,L[k]? =some E:=⟨L[k]'(by rw[← HN.out];exact hlt),List.getElem?_eq_getElem _⟩
    obtain⟨v,hv⟩:∃ v,V[k]? =some v:=⟨V[k]'(by rw[← HNV.out];exact hlt),List.getElem?_eq_getElem _⟩
    obtain⟨g,d,hA,zg,_,_,_,c0,c1,_,_,_,_,_,_,_,_,_⟩:= HD.out.ent hE
    injection hA with hA
    injection hA with hA
    subst hA
    obtain⟨gv,dv,hAv,zv,_,hOv,hfit,cv0,_,_⟩:= HD.out.val hv
    subst hAv
    have HT:=zak (zto (ztn hE hv))
    have HSv:=zak (hOv.sl.below hbr)
    have HF:=zak hfit
    obtain⟨i1,i2,i3⟩:= zbr hlt
    clear hE hv hOv hfit
    go_wp2_with fail
    refine wp_region_held_drew (S:=(fun w'=>(∀ qA:Addr,qA.block < (w).heap.size→w'.cell? qA=(w).cell? qA)∧ Below (w).heap.size (w) w')) (by kernel_rfl) ?hS1 (fun hHeld=>?rest1)
    case hS1=>((try dsimp only);(((try go_split_ands);refine zbc ?_;all_goals exact bl)))
    case' rest1=>skip
    iterate 24 (refine tkN ?_;try simp only[PqL,Act.put])
    refine wpAnyH_ready (rs:= [24]) (by kernel_rfl) (by simp) ?_
    refine AllReadyH.cons (o:=_) rfl (fun K hK=>?_) .nil
    go_simp
    refine (zqj dv.1 v.length dv.2 v _ rfl HF.out HSv.out.drew).mono ?_
    rintro e w2 ⟨A3,c3,rfl,hO3,hb3⟩
    dsimp only
    refine hK.out _ _ ?hS28 (fun hHeld=>?rest28)
    case hS28=>((try dsimp only);(((try go_split_ands);refine zbc ?_;all_goals exact bl)))
    case' rest28=>(clear hK K;try simp only[PqL,Act.put])
    refine tkH 25 ?_
    try simp only[PqL,Act.put]
    refine wpAnyH_ready (rs:= [26]) (by kernel_rfl) (by simp) ?_
    refine AllReadyH.cons (o:=_) rfl (fun K hK=>?_) .nil
    go_simp
    refine hK.out _ _ ?hS32 (fun hHeld=>?rest32)
    case hS32=>((try dsimp only);(((try go_split_ands);refine zbc ?_;all_goals exact bl)))
    case' rest32=>(clear hK K;try simp only[PqL,Act.put])
    have hb4:Below wr.heap.size wr w2:=⟨hb3.os,hb3.tape,hb3.output,hb3.size,hb3.block⟩
    have hb5:=zbf hb4 (.cells #[.int .i64 E.ix,.int .i64 E.sub,.slice A3 v.length c3] 52)
    have hz5:=hbr.size
    have hz6:=hb4.size
    refine wpAnyH_ready (rs:= [27]) (by kernel_rfl) (by simp) ?_
    refine AllReadyH.cons (o:=_) rfl (fun K hK=>?_) .nil
    rw[if_pos (show Region.wanted _ _=true by kernel_rfl)]
    refine ztc (f:=svF) (k:=3) (e:=52) (dat:=SV.data) (F:=fun g=>w.heap.size≤g) _ _ 27 rfl zth zti (by decide) 40 _ Tryz.underlying27 ztj rfl (by omega) (by omega) A' k c' ((svL L V).take k) ds' rfl (HO.out.1.below hb5) ⟨E.ix,E.sub,v⟩ (A3,c3) _ rfl (by exact (Blk.new _ _ _).sl) ((hO3.alloc _).mono (Nat.zero_le _)) (hO3.own.fin.mono (fun g h=>Nat.le_trans hz5 h.1)) (fun g h=>by simp at h;omega) (by omega) ?_
    intro A4 c4 w4 hO4 hg4 hr4
    have hO4':=hO4
    rw[← HT.out] at hO4'
    have hap:ztk (ds' ++ [(A3,c3)]):= HO.out.2.snoc (N:=wr.heap.size) HO.out.1.dlt (hO3.own.fin.mono (fun g h=>h.1))
    have HO4:=zak (And.intro hO4' hap)
    have hb7:Below w.heap.size w (w2.alloc (.cells #[.int .i64 E.ix,.int .i64 E.sub,.slice A3 v.length c3] 52)):= zbd hb5 hbr
    have hb6:Below w.heap.size w w4:=hb7.grown hg4 hb7.size (fun q hq=>by
     rcases HO.out.1.own.shape with ⟨h1,_⟩ | ⟨g',h1,_,_⟩
     · rw[h1] at hq;cases hq
     · have:=HO.out.1.inF g' h1
       rw[h1] at hq
       simp[Value.ownBlock] at hq
       omega)
    clear hO4 hO4' hap hb7 hO3
    refine hK.out _ _ ?hS35 (fun hHeld=>?rest35)
    case hS35=>((try dsimp only);(((try go_split_ands);refine zbc ?_;all_goals exact bl)))
    case' rest35=>(clear hK K;try simp only[PqL,Act.put])
    refine tkH 28 ?_
    try simp only[PqL,Act.put]
    refine wpAnyH_done (by kernel_rfl) ?_ _
    have hEnd:=hHeld.2
    repeat (clear hHeld)
    go_wp2_with fail
    go_roundw
    case rel=>exact⟨k+1,A4,c4,_,by omega,by go_num,by go_num,HO4,hb6⟩
    case measure=>simp[intOf];omega
  · go_wp2_with fail
    go_ret
    have hkn:k=n:=by omega
    refine⟨_,_,_,ds',rfl,?_,HO.out.2,hbr⟩
    have h1:=HO.out.1
    rw[List.take_of_length_le (by rw[ztm _ _ HLV.out,hkn,HN.out];exact Nat.le_refl _)] at h1
    exact h1
end
end
section
open Go.RowKit
set_option maxRecDepth 100000
set_option maxHeartbeats 4000000
section
variable {F:Nat→Prop} {p n cl cv:Nat} {Al Av:Option Addr} {L:List Ent} {V:List (List UInt8)} {ds es:List (Option Addr×Nat)}
theorem ztv (w:World) (hD:DB 112 w F p Al n cl Av cv L V ds es) (hn:n≤1000) :
 Calls Tryz.prog 73 #[.pointer (some ⟨p,0,none⟩)] w (ValuesR (svL L V) w):= by
 have HD:=zak hD
 have HN:=zak hD.ents.hn
 have HNV:=zak hD.vals.hn
 have HLV:=zak hD.lenV
 have hB:=hD.blk
 have zp:=hB.lt
 clear hD
 obtain⟨hB_c0,hB_c1⟩:= zbg hB
 have hB_f:=hB.frozen
 go_enter Tryz.func73,Tryz.ntmps73
 go_wp2_with fail
 go_loopw [3,4] (fun o i wr=> ∃ k A' c' ds',k≤n∧i= .int .i64 (k:Nat)∧ o= .slice A' k c'∧Hid (OwnSV wr (fun g=>w.heap.size≤g) A' k c' ((svL L V).take k) ds'∧ztk ds')∧ Below w.heap.size w wr) (fun _ i _=>n - (intOf i).toNat)
 case atStart=>exact⟨0,none,0,[],by omega,rfl,rfl,zak ⟨zcq.nil _ _,ztk.nil⟩,Below.refl _ _⟩
 case round=>
  obtain⟨k,A',c',ds',hk,rfl,rfl,HO,hbr⟩:= hrel
  have hBr:=hB.below hbr zp
  obtain⟨hBr_c0,hBr_c1⟩:= zbg hBr
  have hBr_f:=hBr.frozen
  by_cases hlt:k < n
  · obtain⟨E,hE⟩:∃ E,L[k]? =some E:=⟨L[k]'(by rw[← HN.out];exact hlt),List.getElem?_eq_getElem _⟩
    obtain⟨v,hv⟩:∃ v,V[k]? =some v:=⟨V[k]'(by rw[← HNV.out];exact hlt),List.getElem?_eq_getElem _⟩
    obtain⟨g,d,hAl,zg,_,_,_,c0,c1,_,_,_,_,_,_,_,_,_⟩:= HD.out.ent hE
    obtain⟨gv,dv,hAv,zv,_,hOv,hfit,cv0,_,_⟩:= HD.out.val hv
    subst hAl hAv
    have HT:=zak (zto (ztn hE hv))
    have HSv:=zak (hOv.sl.below hbr)
    have HF:=zak hfit
    obtain⟨i1,i2,i3⟩:= zbr hlt
    clear hE hv hOv hfit
    go_wp2_with fail
    refine wp_region_held_drew (S:=(fun w'=>(∀ qA:Addr,qA.block < (w).heap.size→w'.cell? qA=(w).cell? qA)∧ Below (w).heap.size (w) w')) (by kernel_rfl) ?hS38 (fun hHeld=>?rest38)
    case hS38=>((try dsimp only);(((try go_split_ands);refine zbc ?_;all_goals exact bl)))
    case' rest38=>skip
    iterate 24 (refine tkN ?_;try simp only[PqL,Act.put])
    refine wpAnyH_ready (rs:= [24]) (by kernel_rfl) (by simp) ?_
    refine AllReadyH.cons (o:=_) rfl (fun K hK=>?_) .nil
    go_simp
    refine (ztp dv.1 v.length dv.2 v _ rfl HF.out HSv.out.drew).mono ?_
    rintro e w2 ⟨A3,c3,rfl,hO3,hb3⟩
    dsimp only
    refine hK.out _ _ ?hS65 (fun hHeld=>?rest65)
    case hS65=>((try dsimp only);(((try go_split_ands);refine zbc ?_;all_goals exact bl)))
    case' rest65=>(clear hK K;try simp only[PqL,Act.put])
    refine tkH 25 ?_
    try simp only[PqL,Act.put]
    refine wpAnyH_ready (rs:= [26]) (by kernel_rfl) (by simp) ?_
    refine AllReadyH.cons (o:=_) rfl (fun K hK=>?_) .nil
    go_simp
    refine hK.out _ _ ?hS69 (fun hHeld=>?rest69)
    case hS69=>((try dsimp only);(((try go_split_ands);refine zbc ?_;all_goals exact bl)))
    case' rest69=>(clear hK K;try simp only[PqL,Act.put])
    have hb4:Below wr.heap.size wr w2:=⟨hb3.os,hb3.tape,hb3.output,hb3.size,hb3.block⟩
    have hb5:=zbf hb4 (.cells #[.int .i64 E.ix,.int .i64 E.sub,.slice A3 v.length c3] 52)
    have hz5:=hbr.size
    have hz6:=hb4.size
    refine wpAnyH_ready (rs:= [27]) (by kernel_rfl) (by simp) ?_
    refine AllReadyH.cons (o:=_) rfl (fun K hK=>?_) .nil
    rw[if_pos (show Region.wanted _ _=true by kernel_rfl)]
    refine ztc (f:=svF) (k:=3) (e:=52) (dat:=SV.data) (F:=fun g=>w.heap.size≤g) _ _ 27 rfl zth zti (by decide) 40 _ Tryz.underlying27 ztj rfl (by omega) (by omega) A' k c' ((svL L V).take k) ds' rfl (HO.out.1.below hb5) ⟨E.ix,E.sub,v⟩ (A3,c3) _ rfl (by exact (Blk.new _ _ _).sl) ((hO3.alloc _).mono (Nat.zero_le _)) (hO3.own.fin.mono (fun g h=>Nat.le_trans hz5 h.1)) (fun g h=>by simp at h;omega) (by omega) ?_
    intro A4 c4 w4 hO4 hg4 hr4
    have hO4':=hO4
    rw[← HT.out] at hO4'
    have hap:ztk (ds' ++ [(A3,c3)]):= HO.out.2.snoc (N:=wr.heap.size) HO.out.1.dlt (hO3.own.fin.mono (fun g h=>h.1))
    have HO4:=zak (And.intro hO4' hap)
    have hb7:Below w.heap.size w (w2.alloc (.cells #[.int .i64 E.ix,.int .i64 E.sub,.slice A3 v.length c3] 52)):= zbd hb5 hbr
    have hb6:Below w.heap.size w w4:=hb7.grown hg4 hb7.size (fun q hq=>by
     rcases HO.out.1.own.shape with ⟨h1,_⟩ | ⟨g',h1,_,_⟩
     · rw[h1] at hq;cases hq
     · have:=HO.out.1.inF g' h1
       rw[h1] at hq
       simp[Value.ownBlock] at hq
       omega)
    clear hO4 hO4' hap hb7 hO3
    refine hK.out _ _ ?hS72 (fun hHeld=>?rest72)
    case hS72=>((try dsimp only);(((try go_split_ands);refine zbc ?_;all_goals exact bl)))
    case' rest72=>(clear hK K;try simp only[PqL,Act.put])
    refine tkH 28 ?_
    try simp only[PqL,Act.put]
    refine wpAnyH_done (by kernel_rfl) ?_ _
    have hEnd:=hHeld.2
    repeat (clear hHeld)
    go_wp2_with fail
    go_roundw
    case rel=>exact⟨k+1,A4,c4,_,by omega,by go_num,by go_num,HO4,hb6⟩
    case measure=>simp[intOf];omega
  · go_wp2_with fail
    go_ret
    have hkn:k=n:=by omega
    refine⟨_,_,_,ds',rfl,?_,HO.out.2,hbr⟩
    have h1:=HO.out.1
    rw[List.take_of_length_le (by rw[ztm _ _ HLV.out,hkn,HN.out];exact Nat.le_refl _)] at h1
    exact h1
end
end
end
end Go.Proofs.YtehabbnohoomjaaGreatDoor
