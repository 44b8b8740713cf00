/- None -/
import Derived.Test.YtehabbnohoomjaaGreatDoorP11
namespace Go.Proofs.YtehabbnohoomjaaGreatDoor
set_option linter.unusedVariables false
set_option linter.unusedSimpArgs false
set_option linter.unnecessarySimpa false
section
open Go.RowKit
set_option maxRecDepth 20000
set_option maxHeartbeats 4000000
def lkF (x:LK) (d:Option Addr×Nat):List Value:= [.int .i64 x.k,.int .u32 (x.m:Nat),.slice d.1 x.d.length d.2,.int .i64 (x.cnt:Nat),.int .i64 (x.en:Nat),.bool x.cl]
theorem zii (x:LK) (d:Option Addr×Nat):(lkF x d).length=6:=rfl
theorem zij (x:LK) (d:Option Addr×Nat):∀ u ∈ lkF x d,u.oneCell'=true:=by
 intro u hu
 simp only[lkF,List.mem_cons,List.not_mem_nil,or_false] at hu
 rcases hu with rfl | rfl | rfl | rfl | rfl | rfl<;>rfl
theorem zik:(Tryz.prog.info? 131).map (fun i=>(i.zero,i.size,i.bytes))=some (some (.agg #[.int .i64 0,.int .u32 0,.slice none 0 0,.int .i64 0,.int .i64 0,.bool false]),6,64):= by kernel_rfl
structure FitK (x:LK):Prop where
 m:U32 x.m
 d:x.d.length≤2000
 cnt:13 * x.cnt≤x.en
 en:x.en≤2000
abbrev OwnLk (w:World) (F:Nat→Prop) (A:Option Addr) (n c:Nat) (L:List LK) (ds:List (Option Addr×Nat)):Prop:=zcq lkF 6 131 LK.d w F A n c L ds
def joC (pf:Nat) (A:Option Addr) (n c:Nat) (J:JS):List Value:= [.slice A n c,.int .i64 (J.now:Nat),.bool J.has,.pointer (some ⟨pf,0,none⟩),.bool J.dead]
structure JD (w:World) (F:Nat→Prop) (p pf:Nat) (A:Option Addr) (n c:Nat) (J:JS) (ds:List (Option Addr×Nat)):Prop where
 blk:Blk w p 129 (joC pf A n c J).toArray
 inF:F p
 lks:OwnLk w F A n c J.looks ds
 fit:∀ x ∈ J.looks,FitK x
 n8:n≤8
 now:J.now≤8
 at_:J.has=true→J.now < n
section
variable {w w':World} {F G:Nat→Prop} {p pf n c:Nat} {A:Option Addr} {J:JS} {ds:List (Option Addr×Nat)}
theorem JD.keep (h:JD w F p pf A n c J ds) (hk:∀ g,F g→g < w.heap.size→w'.heap[g]? =w.heap[g]?):JD w' F p pf A n c J ds:=
 ⟨(hk p h.inF h.blk.lt).trans h.blk,h.inF,h.lks.keep hk,h.fit,h.n8,h.now,h.at_⟩
theorem JD.below (h:JD w F p pf A n c J ds) (hb:Below w.heap.size w w'):JD w' F p pf A n c J ds:=h.keep fun g _ hlt=>hb.block g hlt
theorem JD.mono (h:JD w F p pf A n c J ds) (hG:∀ g,g < w.heap.size→F g→G g):JD w G p pf A n c J ds:=
 ⟨h.blk,hG p h.blk.lt h.inF,h.lks.mono hG,h.fit,h.n8,h.now,h.at_⟩
theorem JD.only {H:Nat→Prop} (h:JD w F p pf A n c J ds) (ho:zcj H w w') (hH:∀ g,F g→ ¬ H g):JD w' F p pf A n c J ds:=h.keep fun g hg hlt=>ho.block g hlt (hH g hg)
theorem JD.reblk {J':JS} (h:JD w F p pf A n c J ds) (ho:zcj (fun g=>g=p) w w') (hB:Blk w' p 129 (joC pf A n c J').toArray) (h1:J'.looks=J.looks) (h2:J'.now≤8) (h3:J'.has=true→J'.now < n):JD w' F p pf A n c J' ds:=by
 have hk:∀ g,g≠p→g < w.heap.size→w'.heap[g]? =w.heap[g]? :=fun g hg hlt=>ho.block g hlt hg
 have hA:∀ g,A=some ⟨g,0,none⟩→ g≠p:=fun g hg e=>zcm h.blk h.lks.own (by decide) (by rw[hg,← e];rfl)
 have hd:∀ {m c':Nat} {A':Option Addr} {l:List UInt8},zcd w 0 A' m c' l→zcd w' 0 A' m c' l:=fun hO=>⟨hO.hn,hO.own.keep (fun g _ hlt hA'=>hk g (fun e=>zcm h.blk hO.own (by decide) (by rw[hA',← e];rfl)) hlt)⟩
 refine⟨hB,h.inF,?_,by rw[h1];exact h.fit,h.n8,h2,h3⟩
 rw[h1]
 exact⟨h.lks.hn,h.lks.hd,h.lks.own.keep (fun g _ hlt hA'=>hk g (hA g hA') hlt),h.lks.inF,fun j v d e1 e2=>⟨hd (h.lks.data j v d e1 e2).1,(h.lks.data j v d e1 e2).2⟩⟩
theorem JD.look (h:JD w F p pf A n c J ds) {k:Nat} {x:LK} (hx:J.looks[k]? =some x):∃ g d,A=some ⟨g,0,none⟩∧ g < w.heap.size∧ds[k]? =some d∧zcd w 0 d.1 x.d.length d.2 x.d∧FitK x∧k < n∧
 (w.cell? ⟨g,k * 6,none⟩=some (.int .i64 x.k)∧ w.cell? ⟨g,k * 6+1,none⟩=some (.int .u32 (x.m:Nat))∧ w.cell? ⟨g,k * 6+2,none⟩=some (.slice d.1 x.d.length d.2)∧
 w.cell? ⟨g,k * 6+3,none⟩=some (.int .i64 (x.cnt:Nat))∧ w.cell? ⟨g,k * 6+4,none⟩=some (.int .i64 (x.en:Nat))∧ w.cell? ⟨g,k * 6+5,none⟩=some (.bool x.cl))∧ F g∧FIn F d.1:=by
 obtain⟨d,hd,hO,hFd⟩:= h.lks.elem hx
 obtain⟨g,hA,hlt,hc⟩:= h.lks.cells zii hx hd (by omega)
 exact⟨g,d,hA,hlt,hd,hO,h.fit x (List.mem_of_getElem? hx),by rw[h.lks.hn];exact (List.getElem?_eq_some_iff.1 hx).1,⟨hc 0 _ rfl,hc 1 _ rfl,hc 2 _ rfl,hc 3 _ rfl,hc 4 _ rfl,hc 5 _ rfl⟩,h.lks.inF g hA,hFd⟩
def kvs:List LK→List (Option Addr×Nat)→ List KV
 | x :: L,d :: ds=>⟨x.k,x.m,d.1,x.d.length,d.2,x.cnt,x.en,x.cl⟩ :: kvs L ds
 | _,_=> []
theorem zil:∀ (L:List LK) (ds:List (Option Addr×Nat)),ds.length=L.length→(kvs L ds).length=L.length:=by
 intro L
 induction L with
 | nil=>intro ds h;cases ds<;>rfl
 | cons x L ih=>
   intro ds h
   cases ds with
   | nil=>simp at h
   | cons d ds=>simp only[kvs,List.length_cons];rw[ih ds (by simpa using h)]
theorem zim:∀ (L:List LK) (ds:List (Option Addr×Nat)) (j:Nat) (v:KV),(kvs L ds)[j]? =some v→ ∃ x d,L[j]? =some x∧ds[j]? =some d∧v=⟨x.k,x.m,d.1,x.d.length,d.2,x.cnt,x.en,x.cl⟩:= by
 intro L
 induction L with
 | nil=>intro ds j v h;cases ds<;>simp[kvs] at h
 | cons x L ih=>
   intro ds j v h
   cases ds with
   | nil=>simp[kvs] at h
   | cons d ds=>
     cases j with
     | zero=>simp[kvs] at h;exact⟨x,d,rfl,rfl,h.symm⟩
     | succ j=>simpa [kvs] using ih ds j v (by simpa [kvs] using h)
theorem zcq.slk (h:OwnLk w F A n c J.looks ds):SlK w A (kvs J.looks ds):= by
 intro j v hv
 obtain⟨x,d,hx,hd,rfl⟩:= zim _ _ _ _ hv
 obtain⟨g,hA,hlt,hc⟩:= h.cells zii hx hd (by omega)
 exact⟨g,0,hA,by rw[Nat.zero_add];exact hc 0 _ rfl,by rw[Nat.zero_add];exact hc 1 _ rfl,by rw[Nat.zero_add];exact hc 2 _ rfl,by rw[Nat.zero_add];exact hc 3 _ rfl,by rw[Nat.zero_add];exact hc 4 _ rfl,by rw[Nat.zero_add];exact hc 5 _ rfl⟩
end
def likeK (K K':List KV):Prop:= ∀ j,(K.getD j default).cnt=(K'.getD j default).cnt∧(K.getD j default).m=(K'.getD j default).m∧(K.getD j default).cl=(K'.getD j default).cl
theorem zin {K K':List KV} (h:likeK K K') (n:Nat):newestS K n=newestS K' n:=by
 induction n with
 | zero=>rfl
 | succ n ih=>unfold newestS;rw[ih,(h n).1,(h n).2.1,(h _).2.1]
theorem zio {K K':List KV} (h:likeK K K') (wear left:List Int) (nw:Nat×Bool) (n:Nat):nextS K wear left nw n=nextS K' wear left nw n:=by
 induction n with
 | zero=>rfl
 | succ n ih=>
   unfold nextS
   rw[ih]
   have:skipB K left nw n=skipB K' left nw n:=by unfold skipB;rw[(h n).1,(h n).2.2]
   rw[this]
theorem zip:∀ (L:List LK) (ds:List (Option Addr×Nat)),ds.length=L.length→likeK (kvs L ds) (L.map kvO):= by
 intro L
 induction L with
 | nil=>intro ds h j;cases ds<;>simp[kvs]
 | cons x L ih=>
   intro ds h j
   cases ds with
   | nil=>simp at h
   | cons d ds=>
     cases j with
     | zero=>exact⟨rfl,rfl,rfl⟩
     | succ j=>
       have:=ih ds (by simpa using h) j
       simpa [kvs] using this
theorem ziq (L:List LK) (ds:List (Option Addr×Nat)) (h:ds.length=L.length):newestS (kvs L ds) L.length=newL L:=zin (zip L ds h) _
theorem zir (L:List LK) (ds:List (Option Addr×Nat)) (wear:List Nat) (most:Int) (h:ds.length=L.length):nextS (kvs L ds) (wear.map fun x=>((x:Nat):Int)) (wear.map fun x=>most - ((x:Nat):Int)) (newestS (kvs L ds) L.length) L.length=nextL L wear most:=by
 rw[ziq L ds h,zio (zip L ds h)]
 rfl
theorem zis (l:List UInt8) (hl:l.length≤1024):FitK (lookL l):= by
 have h:∀ (f:Nat) (x:LK),13 * x.cnt≤x.en→x.d.length≤x.en→(13 * (lookF l f x).cnt≤(lookF l f x).en∧(lookF l f x).d.length≤(lookF l f x).en):= by
  intro f
  induction f with
  | zero=>intro x h1 h2;exact⟨h1,h2⟩
  | succ f ih=>
    intro x h1 h2
    rw[lookF]
    split
    · exact⟨h1,h2⟩
    · exact ih _ (by simp only[];omega) (by simp only[];omega)
 obtain⟨h1,h2⟩:= h l.length lookZ (Nat.le_refl _) (Nat.le_refl _)
 have h3:=zf5 l
 have e1:(lookL l).cnt=(lookF l l.length lookZ).cnt:=rfl
 have e2:(lookL l).en=(lookE l).en:=rfl
 have e3:(lookL l).d=(lookF l l.length lookZ).d:=rfl
 have e4:(lookE l).en=(lookF l l.length lookZ).en:=rfl
 exact⟨zg3,by rw[e3];omega,by rw[e1,e2,e4];exact h1,by rw[e2];omega⟩
section
variable {F:Nat→Prop} {p pf n c:Nat} {A:Option Addr} {J:JS} {ds:List (Option Addr×Nat)}
theorem zit (e:Int) (w:World) (hD:JD w F p pf A n c J ds):Calls Tryz.prog 162 #[.pointer (some ⟨p,0,none⟩),.int .i64 e] w fun e' w'=>e'= .returned (.int .i64 e)∧ JD w' F p pf A n c ⟨J.looks,J.now,J.has,(J.dead || decide (e=7))⟩ ds∧zcj (fun g=>g=p) w w':=by
 have f4:=hD.blk.frozen 4
 have c4:=hD.blk.cell 4 (u:= .bool J.dead) rfl
 have HD:=zak hD
 clear hD
 by_cases h7:e=7
 · subst h7
   go_enter Tryz.func162,Tryz.ntmps162
   go_wp2_with fail
   go_ret
   refine⟨rfl,?_,zhd _ _⟩
   have h1:=zhz HD.out.blk 4 (.bool true)
   have e1:(joC pf A n c J).set 4 (.bool true)=joC pf A n c ⟨J.looks,J.now,J.has,(J.dead || decide ((7:Int)=7))⟩:= by simp[joC]
   rw[e1] at h1
   exact HD.out.reblk (zhd _ _) h1 rfl HD.out.now HD.out.at_
 · go_enter Tryz.func162,Tryz.ntmps162
   go_wp2_with fail
   go_ret
   exact⟨rfl,by rw[decide_eq_false h7,Bool.or_false];exact HD.out,zcj.refl _ _⟩
end
end
section
open Go.RowKit
set_option maxRecDepth 20000
set_option maxHeartbeats 4000000
theorem ziu {F:Nat→Prop} {o:Oper} {a:Act} {K:Act→World→Prop} {Q:Exit→Act→World→Prop} {w:World} (s x:Operand)
 (ho:o.op= .call { callee:= .builtin .append,args:= #[s,x],argTypes:= #[125,125] })
 (A:Option Addr) (n c:Nat) (L:List LK) (ds:List (Option Addr×Nat)) (hs:a.eval s= .slice A n c) (hown:OwnLk w F A n c L ds)
 (v:LK) (d:Option Addr×Nat) (A2:Option Addr) (hx:a.eval x= .slice A2 1 1)
 (hr:Sl w A2 (lkF v d)) (hv:zcd w 0 d.1 v.d.length d.2 v.d) (hvF:FIn F d.1) (hF:∀ g,w.heap.size≤g→F g)
 (hb:n≤34359738)
 (h:∀ A' c' w',OwnLk w' F A' (n+1) c' (L ++ [v]) (ds ++ [d])→ w.grownBy w' (Value.ownBlock (.slice A n c))→ (A'=A∨A'=some ⟨w.heap.size,0,none⟩)→ K (a.put o.dst (.slice A' (n+1) c')) w'):Oper.wp Tryz.prog o a w K Q:=by
 obtain⟨i0,hi0,hz0,hz1,hz2⟩:= info_parts zik
 obtain⟨A',c',w',hr',h2,h3,h4⟩:= za3 (P:=Tryz.prog) w 0 125 o.type 131 i0 _ 6 64 Tryz.underlying125 hi0 hz0 hz1 hz2 rfl (by omega) A n c _ hown.own A2 1 1 _ (by rw[zii]) hr (zij v d) (by unfold maxLen;omega) (by omega) (Nat.zero_le _)
 unfold Oper.wp execOp
 simp only[ho,resolve,invoke,builtin,Sem.run_bind,Sem.run_pure,Result.andThen_ok,List.map_toArray,List.map_cons,List.map_nil,hs,hx,hr']
 exact h A' c' w' (hown.snoc (by decide) h2 h3 h4 hF hv hvF) h3 h4
theorem ziv:(Tryz.prog.info? 131).map (·.size)=some 6:=by kernel_rfl
def lkV (x:LK) (A:Option Addr) (c:Nat):Array Value:= #[.int .i64 x.k,.int .u32 (x.m:Nat),.slice A x.d.length c,.int .i64 (x.cnt:Nat),.int .i64 (x.en:Nat),.bool x.cl]
theorem ziw {fn:Func} {p u:Tmp} (h:fn.results= #[.cell p 131,.tmp u]) {a:Act} {w:World} {g:Nat} {x:LK} {A:Option Addr} {c:Nat} {R:Ending→World→Prop} (hd:a.defers= []) (hp:a.tmps.getD p undef= .pointer (some ⟨g,0,none⟩))
 (hB:Blk w g 131 (lkV x A c)) (hR:R (.returned (.tuple #[.agg (lkV x A c),a.tmps.getD u undef])) w):bodyPost Tryz.prog fn R .ret a w:=by
 refine bodyPost_ret ?_ hd hR
 rw[results_cell_tmp h,hp]
 simp only[asAddr,Sem.run_pure,Result.andThen_ok]
 rw[run_loadVar_row w g _ _ _ _ _ hB Tryz.underlying131 rfl (show _=some (lkV x A c).size from ziv)]
 rfl
theorem zix {w:World} {g:Nat} {t:TypeId} {l:List Value} (hB:Blk w g t l.toArray) (hl:l.length=6) (x:LK) (A:Option Addr) (c:Nat) :
 Blk ((((((w.setCell ⟨g,0,none⟩ (.int .i64 x.k)).setCell ⟨g,1,none⟩ (.int .u32 (x.m:Nat))).setCell ⟨g,2,none⟩ (.slice A x.d.length c)).setCell ⟨g,3,none⟩ (.int .i64 (x.cnt:Nat))).setCell ⟨g,4,none⟩ (.int .i64 (x.en:Nat))).setCell ⟨g,5,none⟩ (.bool x.cl)) g t (lkV x A c):= by
 have h:=zhz (zhz (zhz (zhz (zhz (zhz hB 0 (.int .i64 x.k)) 1 (.int .u32 (x.m:Nat))) 2 (.slice A x.d.length c)) 3 (.int .i64 (x.cnt:Nat))) 4 (.int .i64 (x.en:Nat))) 5 (.bool x.cl)
 have e:(((((l.set 0 (.int .i64 x.k)).set 1 (.int .u32 (x.m:Nat))).set 2 (.slice A x.d.length c)).set 3 (.int .i64 (x.cnt:Nat))).set 4 (.int .i64 (x.en:Nat))).set 5 (.bool x.cl)= [.int .i64 x.k,.int .u32 (x.m:Nat),.slice A x.d.length c,.int .i64 (x.cnt:Nat),.int .i64 (x.en:Nat),.bool x.cl]:= by
  match l,hl with
  | [_,_,_,_,_,_],_=>rfl
 rw[e] at h
 exact h
theorem ziy (w:World) (g:Nat) (x:LK) (A:Option Addr) (c:Nat) :
 zcj (fun k=>k=g) w ((((((w.setCell ⟨g,0,none⟩ (.int .i64 x.k)).setCell ⟨g,1,none⟩ (.int .u32 (x.m:Nat))).setCell ⟨g,2,none⟩ (.slice A x.d.length c)).setCell ⟨g,3,none⟩ (.int .i64 (x.cnt:Nat))).setCell ⟨g,4,none⟩ (.int .i64 (x.en:Nat))).setCell ⟨g,5,none⟩ (.bool x.cl)):=
 zcj.set (fun k=>k=g) (zcj.set (fun k=>k=g) (zcj.set (fun k=>k=g) (zcj.set (fun k=>k=g) (zcj.set (fun k=>k=g) (zcj.set (fun k=>k=g) (zcj.refl _ _) rfl _) rfl _) rfl _) rfl _) rfl _) rfl _
theorem ziz (q:FP) (S:FS) (i:Nat) (w:World) (hD:FD w q S) (hoff:S.off=false) (hi:i < S.wear.length) :
 Calls Tryz.prog 80 #[.pointer (some ⟨q.p,0,none⟩),.int .i64 (i:Nat)] w fun e w'=> ∃ A c,e= .returned (.tuple #[.agg (lkV (lookL (secB S.b i)) A c),.int .i64 0])∧ zcd w' w.heap.size A (lookL (secB S.b i)).d.length c (lookL (secB S.b i)).d∧Below w.heap.size w w':=by
 have q0:=zbm w 131 #[.int .i64 0,.int .u32 0,.slice none 0 0,.int .i64 0,.int .i64 0,.bool false]
 have hb0:=zbf (Below.refl w.heap.size w) (.cells #[.int .i64 0,.int .u32 0,.slice none 0 0,.int .i64 0,.int .i64 0,.bool false] 131)
 have hlen:=hD.fit.len
 have h8:=hD.fit.wl8
 have HRD:=zak (zih q S (1024 * i) 1024 _ (hD.below hb0) hoff (by omega))
 have hsl:(secB S.b i).length=1024:=zfx (by omega)
 rw[show (S.b.drop (1024 * i)).take 1024=secB S.b i from rfl] at HRD
 obtain⟨l,hl⟩:∃ l,l=secB S.b i:=⟨_,rfl⟩
 rw[← hl] at HRD hsl ⊢
 obtain⟨x,hx⟩:∃ x,x=lookL l:=⟨_,rfl⟩
 have HX:=zak hx
 rw[← hx]
 obtain⟨k,hk⟩:∃ k,k=1024 * i:=⟨_,rfl⟩
 have hki:((i:Int) * 1024)=((k:Nat):Int):= by omega
 rw[← hk] at HRD
 have hi8:i≤7:=by omega
 have HSL:=zak hsl
 clear hD hoff hlen hx hl hk hsl h8 hi
 have HQ:=zak q0
 have HB0:=zak hb0
 clear q0 hb0
 unfold lkV
 go_enter Tryz.func80,Tryz.ntmps80
 go_wp2_with fail
 refine HRD.out.mono ?_
 rintro e w1 ⟨A1,c1,rfl,hO1,hb1⟩
 have HO1:=zak hO1
 have q1:=HQ.out.below hb1 HQ.out.lt
 have HQ1:=zak q1
 have hbw1:=zbd hb1 HB0.out
 clear hO1
 obtain⟨q1_c0,q1_c1,q1_c2,q1_c3,q1_c4,q1_c5⟩:= zbk q1
 have q1_f:=q1.frozen
 go_wp2_with fail
 refine (zfm A1 1024 c1 l w1 HSL.out.symm HO1.out.le (by omega) HO1.out.sl).mono ?_
 rintro e w2 ⟨A2,n2,c2,rfl,hO2,hb2⟩
 rw[← HX.out] at hO2 ⊢
 obtain rfl:n2=x.d.length:=hO2.hn
 have q2:=HQ1.out.below hb2 HQ1.out.lt
 have HQ2:=zak q2
 have HO2:=zak hO2
 have hbw2:=zbd hb2 hbw1
 have z1:=hb1.size
 clear hO2
 clear q1_c0 q1_c1 q1_c2 q1_c3 q1_c4 q1_c5 q1_f
 obtain⟨q2_c0,q2_c1,q2_c2,q2_c3,q2_c4,q2_c5⟩:= zbk q2
 have q2_f:=q2.frozen
 go_wp2_with fail
 simp only[World.size_alloc] at z1
 refine ziw (x:=x) (A:=A2) (c:=c2) rfl rfl (by rfl) (zix HQ2.out rfl x A2 c2) ?_
 refine⟨A2,c2,rfl,?_,?_⟩
 · exact⟨HO2.out.hn,HO2.out.own.keep (fun g hg hlt _=>(ziy w2 w.heap.size x A2 c2).block g hlt (by omega)) |>.mono (by omega)⟩
 · exact zck (ziy w2 w.heap.size x A2 c2) hbw2 (fun i hi=>by omega)
end
section
open Go.RowKit
set_option maxRecDepth 20000
set_option maxHeartbeats 4000000
theorem zi0 (S:FS) {k:Nat} (h:k < S.wear.length):(looksF S).take (k+1)=(looksF S).take k ++ [lookL (secB S.b k)]:= by
 have h1:=zgy S h
 obtain⟨hk,he⟩:= List.getElem?_eq_some_iff.1 h1
 rw[List.take_succ_eq_append_getElem hk,he]
theorem zi1 {S:FS} (hf:FitF S):∀ x ∈ looksF S,FitK x:=by
 intro x hx
 unfold looksF at hx
 obtain⟨i,hi,rfl⟩:= List.mem_map.1 hx
 rw[List.mem_range] at hi
 have:=hf.len
 exact zis _ (by rw[zfx (by omega)];exact Nat.le_refl _)
theorem zi2 {w:World} {F:Nat→Prop} {A:Option Addr} {n c p i:Nat} {L:List LK} {ds:List (Option Addr×Nat)} {cs:Array Value} (h:OwnLk w F A n c L ds) (hB:Blk w p 129 cs) (v:Value):OwnLk (w.setCell ⟨p,i,none⟩ v) F A n c L ds:=by
 have hk:∀ g,g≠p→g < w.heap.size→(w.setCell ⟨p,i,none⟩ v).heap[g]? =w.heap[g]? :=fun g hg _=>Below.heap_setCell _ _ _ _ (fun e=>hg e)
 have hA:∀ g,A=some ⟨g,0,none⟩→ g≠p:=fun g hg e=>zcm hB h.own (by decide) (by rw[hg,← e];rfl)
 have hd:∀ {m c':Nat} {A':Option Addr} {l:List UInt8},zcd w 0 A' m c' l→zcd (w.setCell ⟨p,i,none⟩ v) 0 A' m c' l:=fun hO=>⟨hO.hn,hO.own.keep (fun g _ hlt hA'=>hk g (fun e=>zcm hB hO.own (by decide) (by rw[hA',← e];rfl)) hlt)⟩
 exact⟨h.hn,h.hd,h.own.keep (fun g _ hlt hA'=>hk g (hA g hA') hlt),h.inF,fun j v d e1 e2=>⟨hd (h.data j v d e1 e2).1,(h.data j v d e1 e2).2⟩⟩
def OpenR (q:FP) (S:FS) (w:World) (e:Ending) (w':World):Prop:=
 ∃ p A n c ds,e= .returned (.tuple #[.pointer (some ⟨p,0,none⟩),.int .i64 0])∧ JD w' (fun g=>w.heap.size≤g) p q.p A n c (openJ S) ds∧Below w.heap.size w w'
theorem zi3 (q:FP) (S:FS) (w:World) (hD:FD w q S) (hoff:S.off=false) (h3:3≤S.wear.length) :
 Calls Tryz.prog 41 #[.pointer (some ⟨q.p,0,none⟩)] w (OpenR q S w):= by
 have HD:=zak hD
 have HON:=zak (zhj q S w hD)
 rw[hoff,Bool.not_false] at HON
 have HSE:=zak (fun W (hb:Below w.heap.size w W)=> zhi q S W (hD.below hb))
 have HFIT:=zak hD.fit
 have h8:=hD.fit.wl8
 obtain⟨ns,hns⟩:∃ ns,ns=S.wear.length:=⟨_,rfl⟩
 have HNS:=zak hns
 rw[← hns] at HSE h3 h8
 have HOFF:=zak hoff
 have h3':(3:Int)≤ (ns:Int):= by omega
 clear hD hoff hns
 go_enter Tryz.func41,Tryz.ntmps41
 go_wp2_with fail
 refine HON.out.mono ?_
 rintro e w1 ⟨rfl,rfl⟩
 go_wp2_with fail
 refine (HSE.out _ (Below.refl _ _)).mono ?_
 rintro e w1 ⟨rfl,rfl⟩
 have q0:=zbm w 129 #[.slice none 0 0,.int .i64 0,.bool false,.pointer (some ⟨q.p,0,none⟩),.bool false]
 have hb0:=zbf (Below.refl w.heap.size w) (.cells #[.slice none 0 0,.int .i64 0,.bool false,.pointer (some ⟨q.p,0,none⟩),.bool false] 129)
 have HJ0:Hid (JD (w.alloc (.cells #[.slice none 0 0,.int .i64 0,.bool false,.pointer (some ⟨q.p,0,none⟩),.bool false] 129)) (fun g=>w.heap.size≤g) w.heap.size q.p none 0 0 ⟨(looksF S).take 0,0,false,false⟩ []):=
  zak ⟨q0,Nat.le_refl _,zcq.nil _ _,(fun x hx=>by cases hx),by omega,by show 0≤8;omega,fun h=>by cases h⟩
 have HB0:=zak hb0
 have HQ:=zak q0
 clear q0 hb0
 go_wp2_with fail
 refine (HSE.out _ HB0.out).mono ?_
 rintro e w1 ⟨rfl,rfl⟩
 go_wp2_with fail
 go_loopw [5,6,7,24] (fun _ _ _ i wr=> ∃ k A c ds,k≤ns∧i= .int .i64 (k:Nat)∧ Hid (JD wr (fun g=>w.heap.size≤g) w.heap.size q.p A k c ⟨(looksF S).take k,0,false,false⟩ ds)∧ Hid (Below w.heap.size w wr)) (fun _ _ _ i _=>ns - (intOf i).toNat)
 case atStart=>exact⟨0,none,0,[],by omega,rfl,HJ0,HB0⟩
 case round=>
  obtain⟨k,A,c,ds,hk,rfl,HJ,HBr⟩:= hrel
  by_cases hlt:k < ns
  · have HLK:=zak (ziz q S k wr (HD.out.below HBr.out) HOFF.out (by rw[← HNS.out];exact hlt))
    have HSN:=zak (zi0 S (k:=k) (by rw[← HNS.out];exact hlt))
    have HFX:=zak (show FitK (lookL (secB S.b k)) from zi1 HFIT.out _ (by
     have h1:=zgy S (i:=k) (by rw[← HNS.out];exact hlt)
     exact List.mem_of_getElem? h1))
    obtain⟨x,hx⟩:∃ x,x=lookL (secB S.b k):= ⟨_,rfl⟩
    rw[← hx] at HLK HSN HFX
    clear hx
    go_wp2_with fail
    refine HLK.out.mono ?_
    rintro e w2 ⟨A2,c2,rfl,hO2,hb2⟩
    have HO2:=zak hO2
    clear hO2
    unfold lkV
    dsimp only
    have q2:=zbm w2 131 #[.int .i64 x.k,.int .u32 (x.m:Nat),.slice A2 x.d.length c2,.int .i64 (x.cnt:Nat),.int .i64 (x.en:Nat),.bool x.cl]
    have hb3:=zbd (zbf (Below.refl w2.heap.size w2) (.cells #[.int .i64 x.k,.int .u32 (x.m:Nat),.slice A2 x.d.length c2,.int .i64 (x.cnt:Nat),.int .i64 (x.en:Nat),.bool x.cl] 131)) hb2
    have HJ2:=zak (HJ.out.below hb3)
    have p2:=HJ2.out.blk
    unfold joC at p2
    have HQ2:=zak q2
    have HB3:=zak hb3
    have hz2:=hb2.size
    obtain⟨q2_c0,q2_c1,q2_c2,q2_c3,q2_c4,q2_c5⟩:= zbk q2
    have q2_f:=q2.frozen
    obtain⟨p2_c0,p2_c1,p2_c2,p2_c3,p2_c4⟩:= zbj p2
    have p2_f:=p2.frozen
    clear q2 p2 hb2 hb3
    go_wp2_with fail
    refine zaj (fun w'=>w'.cell? ⟨w.heap.size,0,none⟩=some (.slice A k c)∧ w'.cell? ⟨w2.heap.size,0,none⟩=some (.int .i64 x.k)∧ w'.cell? ⟨w2.heap.size,1,none⟩=some (.int .u32 (x.m:Nat))∧ w'.cell? ⟨w2.heap.size,2,none⟩=some (.slice A2 x.d.length c2)∧ w'.cell? ⟨w2.heap.size,3,none⟩=some (.int .i64 (x.cnt:Nat))∧ w'.cell? ⟨w2.heap.size,4,none⟩=some (.int .i64 (x.en:Nat))∧ w'.cell? ⟨w2.heap.size,5,none⟩=some (.bool x.cl)) [0,1,2,3,4,5,6] (by kernel_rfl) ?hS1 (fun hHeld=>?rest1)
    case hS1=>((try dsimp only);exact⟨p2_c0,q2_c0,q2_c1,q2_c2,q2_c3,q2_c4,q2_c5⟩)
    case' rest1=>skip
    refine tkT 0 ?_
    try simp only[PqL,Act.put]
    refine tkT 1 ?_
    try simp only[PqL,Act.put]
    refine tkT 2 ?_
    try simp only[PqL,Act.put]
    refine tkT 3 ?_
    try simp only[PqL,Act.put]
    refine tkT 4 ?_
    try simp only[PqL,Act.put]
    refine tkT 5 ?_
    try simp only[PqL,Act.put]
    refine tkT 6 ?_
    try simp only[PqL,Act.put]
    refine zag (i:=7) (o:=_) rfl (by kernel_rfl) (fun K hK=>?_)
    go_simp
    refine hK.out _ _ ?hS10 (fun hHeld=>?rest10)
    case hS10=>((try dsimp only);(exact⟨(HJ2.out.blk.drew.alloc _).cell 0 rfl,(HQ2.out.drew.alloc _).cell 0 rfl,(HQ2.out.drew.alloc _).cell 1 rfl,(HQ2.out.drew.alloc _).cell 2 rfl,(HQ2.out.drew.alloc _).cell 3 rfl,(HQ2.out.drew.alloc _).cell 4 rfl,(HQ2.out.drew.alloc _).cell 5 rfl⟩))
    case' rest10=>(clear hK K;try simp only[PqL,Act.put])
    have hb5:Below wr.heap.size wr (((w2.alloc (.cells #[.int .i64 x.k,.int .u32 (x.m:Nat),.slice A2 x.d.length c2,.int .i64 (x.cnt:Nat),.int .i64 (x.en:Nat),.bool x.cl] 131)).drew).alloc (.cells #[.int .i64 x.k,.int .u32 (x.m:Nat),.slice A2 x.d.length c2,.int .i64 (x.cnt:Nat),.int .i64 (x.en:Nat),.bool x.cl] 131)):= zbf (zb9 HB3.out) _
    have hzr:=HBr.out.size
    have hne:some w2.heap.size≠Value.ownBlock (.slice A k c):= by
     rcases HJ.out.lks.own.shape with ⟨h1,_⟩ | ⟨g,h1,_,h2⟩
     · rw[h1];simp[Value.ownBlock]
     · rw[h1];simp[Value.ownBlock];omega
    refine zag (i:=8) (o:=_) rfl (by kernel_rfl) (fun K hK=>?_)
    rw[if_pos (show Region.wanted _ _=true by kernel_rfl)]
    refine ziu (F:=fun g=>w.heap.size≤g) _ _ rfl A k c ((looksF S).take k) ds rfl (HJ.out.lks.below hb5) x (A2,c2) _ rfl (by exact (zbn _ _ _ _ _).2.drew.sl) (((HO2.out.alloc _).drew.alloc _).mono (Nat.zero_le _)) (HO2.out.own.fin.mono (fun g h=>Nat.le_trans hzr h.1)) (fun g h=>Nat.le_trans (Nat.le_trans hzr hb5.size) h) (by omega) ?_
    intro A4 c4 w4 hO4 hg4 hr4
    have m1:=zak ((HJ2.out.blk.drew.alloc (.cells #[.int .i64 x.k,.int .u32 (x.m:Nat),.slice A2 x.d.length c2,.int .i64 (x.cnt:Nat),.int .i64 (x.en:Nat),.bool x.cl] 131)).grown hg4 (zcm (HJ2.out.blk.drew.alloc _) (HJ.out.lks.below hb5).own (by decide)))
    have m2:=zak ((HQ2.out.drew.alloc (.cells #[.int .i64 x.k,.int .u32 (x.m:Nat),.slice A2 x.d.length c2,.int .i64 (x.cnt:Nat),.int .i64 (x.en:Nat),.bool x.cl] 131)).grown hg4 hne)
    have mb:Hid (Below w.heap.size w w4):= zak ((zbd hb5 HBr.out).grown hg4 (zbd hb5 HBr.out).size (fun g hg=>by
     rcases HJ.out.lks.own.shape with ⟨h1,_⟩ | ⟨g',h1,_,h2⟩
     · rw[h1] at hg;simp[Value.ownBlock] at hg
     · have h3:=HJ.out.lks.inF g' h1
       rw[h1] at hg;simp[Value.ownBlock] at hg;omega))
    rw[← HSN.out] at hO4
    have mE:=zak hO4
    clear hO4 hg4 hr4 hne hb5
    refine hK.out _ _ ?hS12 (fun hHeld=>?rest12)
    case hS12=>((try dsimp only);(exact⟨m1.out.cell 0 rfl,m2.out.cell 0 rfl,m2.out.cell 1 rfl,m2.out.cell 2 rfl,m2.out.cell 3 rfl,m2.out.cell 4 rfl,m2.out.cell 5 rfl⟩))
    case' rest12=>(clear hK K;try simp only[PqL,Act.put])
    have m1c:=m1.out.cell 0 (u:= .slice A k c) rfl
    have m1f:=m1.out.frozen 0
    refine zag (i:=9) (o:=_) rfl (by kernel_rfl) (fun K hK=>?_)
    go_simp
    refine hK.out _ _ ?hS14 (fun hHeld=>?rest14)
    case hS14=>((try dsimp only);(exact⟨m1.out.cell 0 rfl,m2.out.cell 0 rfl,m2.out.cell 1 rfl,m2.out.cell 2 rfl,m2.out.cell 3 rfl,m2.out.cell 4 rfl,m2.out.cell 5 rfl⟩))
    case' rest14=>(clear hK K;try simp only[PqL,Act.put])
    refine zag (i:=10) (o:=_) rfl (by kernel_rfl) (fun K hK=>?_)
    go_simp
    refine hK.out _ _ ?hS16 (fun hHeld=>?rest16)
    case hS16=>((try dsimp only);(exact⟨m1.out.cell 0 rfl,m2.out.cell 0 rfl,m2.out.cell 1 rfl,m2.out.cell 2 rfl,m2.out.cell 3 rfl,m2.out.cell 4 rfl,m2.out.cell 5 rfl⟩))
    case' rest16=>(clear hK K;try simp only[PqL,Act.put])
    refine zag (i:=11) (o:=_) rfl (by kernel_rfl) (fun K hK=>?_)
    go_simp
    refine hK.out _ _ ?hS18 (fun hHeld=>?rest18)
    case hS18=>((try dsimp only);(exact⟨m1.out.cell 0 rfl,m2.out.cell 0 rfl,m2.out.cell 1 rfl,m2.out.cell 2 rfl,m2.out.cell 3 rfl,m2.out.cell 4 rfl,m2.out.cell 5 rfl⟩))
    case' rest18=>(clear hK K;try simp only[PqL,Act.put])
    refine zah (i:=12) (o:=_) rfl (by kernel_rfl) (by kernel_rfl) (fun K hK=>?_)
    go_simp
    refine hK.out _ _ ?rest20
    case' rest20=>(clear hK K;try simp only[PqL,Act.put])
    refine zai (by kernel_rfl) ?_ _
    repeat (clear hHeld)
    go_wp2_with fail
    have HJN:Hid (JD (w4.setCell ⟨w.heap.size,0,none⟩ (.slice A4 (k+1) c4)) (fun g=>w.heap.size≤g) w.heap.size q.p A4 (k+1) c4 ⟨(looksF S).take (k+1),0,false,false⟩ (ds ++ [(A2,c2)])):= zak ⟨zhz m1.out 0 _,Nat.le_refl _,zi2 mE.out m1.out _,(fun y hy=>zi1 HFIT.out y (List.mem_of_mem_take hy)),by omega,by show 0≤8;omega,fun h=>by cases h⟩
    have HBN:=zak (zbp mb.out (p:=⟨w.heap.size,0,none⟩) (Nat.le_refl _) (.slice A4 (k+1) c4))
    go_roundw
    case rel=>exact⟨k+1,A4,c4,_,by omega,by go_num,HJN,HBN⟩
    case measure=>simp[intOf];omega
  · obtain rfl:k=ns:=by omega
    have hfull:(looksF S).take k=looksF S:=List.take_of_length_le (by rw[zgx,← HNS.out];exact Nat.le_refl _)
    have hJ:=HJ.out
    rw[hfull] at hJ
    have HJF:=zak hJ
    have hNE:=zfo A k c (kvs (looksF S) ds) wr (by rw[zil _ _ hJ.lks.hd,← hJ.lks.hn]) (by omega) hJ.lks.slk
    have hnn:=ziq (looksF S) ds hJ.lks.hd
    rw[show (looksF S).length=k by rw[zgx,← HNS.out]] at hnn
    rw[hnn] at hNE
    have HNE:=zak hNE
    have hnow:(newL (looksF S)).1≤8∧((newL (looksF S)).2=true→(newL (looksF S)).1 < k):= by
     rcases zgq (looksF S) with ⟨a,ha⟩ | ha
     · have h1:=(zgo.1 ha).1
       rw[zgx,← HNS.out] at h1
       rw[ha]
       exact⟨by simp only[];omega,fun _=>h1⟩
     · rw[ha]
       exact⟨by simp only[];omega,fun h=>by cases h⟩
    have HNOW:=zak hnow
    have p2:=hJ.blk
    unfold joC at p2
    obtain⟨p2_c0,p2_c1,p2_c2,p2_c3,p2_c4⟩:= zbj p2
    have p2_f:=p2.frozen
    have z2:=p2.lt
    clear hfull hJ hNE hnn hnow p2
    go_wp2_with fail
    refine HNE.out.mono ?_
    rintro e w2 ⟨rfl,hb2⟩
    have HJ2:=zak (HJF.out.below hb2)
    have HB2:=zak (zbd hb2 HBr.out)
    have p3:=HJ2.out.blk
    unfold joC at p3
    obtain⟨p3_c0,p3_c1,p3_c2,p3_c3,p3_c4⟩:= zbj p3
    have p3_f:=p3.frozen
    clear p2_c0 p2_c1 p2_c2 p2_c3 p2_c4 p2_f p3 hb2
    go_wp2_with fail
    go_ret2
    refine (⟨w.heap.size,A,k,c,ds,rfl,HJ2.out.reblk (J':=openJ S) (zhe _ _ _ _) (zhz (zhz HJ2.out.blk 1 _) 2 _) rfl HNOW.out.1 HNOW.out.2,?_⟩:OpenR q S w _ _)
    exact zbp (zbp HB2.out (p:=⟨w.heap.size,1,none⟩) (Nat.le_refl _) _) (p:=⟨w.heap.size,2,none⟩) (Nat.le_refl _) _
end
end Go.Proofs.YtehabbnohoomjaaGreatDoor
