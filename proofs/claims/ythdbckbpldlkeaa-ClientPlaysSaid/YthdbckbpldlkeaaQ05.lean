/- None -/
import Derived.Test.YthdbckbpldlkeaaQ04
namespace Go.Proofs.Ythdbckbpldlkeaa
set_option linter.unusedVariables false
set_option linter.unusedSimpArgs false
set_option linter.unnecessarySimpa false
section
open Go.RowKit Go.Maps
set_option maxRecDepth 100000
set_option maxHeartbeats 4000000
structure RB where
 A:Option Addr
 n:Nat
 c:Nat
 l:List UInt8
structure CR where
 E:Ms
 Ae:Option Addr
 ne:Nat
 ce:Nat
 A:Option Addr
 n:Nat
 c:Nat
 A2:Option Addr
 n2:Nat
 c2:Nat
def cliL (S:CliS) (m:Nat) (R:CR):List Value:= [.int .i64 (1408+S.nd),.int .i64 (1536+S.nd),.map (some m),.int .i64 0,.int .i64 S.ix,.int .i64 S.sub,.bool false,.bool false,.bool false,.bool false,.int .u32 0,.int .u32 0,.slice none 0 0,.int .i64 0,.int .i64 0,.int .i64 0,.int .u16 0,
 .slice R.A R.n R.c,.int .i64 S.at_,.int .i64 S.ro,.bool S.tg,
 .int .i64 R.E.kind,.int .i64 R.E.ix,.int .i64 R.E.sub,.bool R.E.tg,.bool R.E.la,.bool R.E.cr,.bool R.E.sz,.int .u32 (R.E.size:Nat),.int .u32 (R.E.code:Nat),.slice R.Ae R.ne R.ce,.int .i64 R.E.sq,.int .i64 R.E.bl,.int .i64 R.E.em,.int .u16 (R.E.sum:Nat),
 .int .u32 (S.code:Nat),.slice R.A2 R.n2 R.c2]
theorem zcs {W:World} {S:CliS} {R:CR} {p m:Nat} (h:Blk W p 65 (cliL S m R).toArray):W.cell? ⟨p,3,none⟩=some (.int .i64 0)∧ W.cell? ⟨p,4,none⟩=some (.int .i64 S.ix)∧ W.cell? ⟨p,5,none⟩=some (.int .i64 S.sub)∧ W.cell? ⟨p,6,none⟩=some (.bool false)∧ W.cell? ⟨p,7,none⟩=some (.bool false)∧ W.cell? ⟨p,8,none⟩=some (.bool false)∧ W.cell? ⟨p,9,none⟩=some (.bool false)∧ W.cell? ⟨p,10,none⟩=some (.int .u32 0)∧ W.cell? ⟨p,11,none⟩=some (.int .u32 0)∧ W.cell? ⟨p,12,none⟩=some (.slice none 0 0)∧ W.cell? ⟨p,13,none⟩=some (.int .i64 0)∧ W.cell? ⟨p,14,none⟩=some (.int .i64 0)∧ W.cell? ⟨p,15,none⟩=some (.int .i64 0)∧ W.cell? ⟨p,16,none⟩=some (.int .u16 0):=
 ⟨h.cell 3 rfl,h.cell 4 rfl,h.cell 5 rfl,h.cell 6 rfl,h.cell 7 rfl,h.cell 8 rfl,h.cell 9 rfl,h.cell 10 rfl,h.cell 11 rfl,h.cell 12 rfl,h.cell 13 rfl,h.cell 14 rfl,h.cell 15 rfl,h.cell 16 rfl⟩
theorem zct {W:World} {S:CliS} {R:CR} {p m:Nat} (h:Blk W p 65 (cliL S m R).toArray):W.cell? ⟨p,21,none⟩=some (.int .i64 R.E.kind)∧ W.cell? ⟨p,22,none⟩=some (.int .i64 R.E.ix)∧ W.cell? ⟨p,23,none⟩=some (.int .i64 R.E.sub)∧ W.cell? ⟨p,24,none⟩=some (.bool R.E.tg)∧ W.cell? ⟨p,25,none⟩=some (.bool R.E.la)∧ W.cell? ⟨p,26,none⟩=some (.bool R.E.cr)∧ W.cell? ⟨p,27,none⟩=some (.bool R.E.sz)∧ W.cell? ⟨p,28,none⟩=some (.int .u32 (R.E.size:Nat))∧ W.cell? ⟨p,29,none⟩=some (.int .u32 (R.E.code:Nat))∧ W.cell? ⟨p,30,none⟩=some (.slice R.Ae R.ne R.ce)∧ W.cell? ⟨p,31,none⟩=some (.int .i64 R.E.sq)∧ W.cell? ⟨p,32,none⟩=some (.int .i64 R.E.bl)∧ W.cell? ⟨p,33,none⟩=some (.int .i64 R.E.em)∧ W.cell? ⟨p,34,none⟩=some (.int .u16 (R.E.sum:Nat)):=
 ⟨h.cell 21 rfl,h.cell 22 rfl,h.cell 23 rfl,h.cell 24 rfl,h.cell 25 rfl,h.cell 26 rfl,h.cell 27 rfl,h.cell 28 rfl,h.cell 29 rfl,h.cell 30 rfl,h.cell 31 rfl,h.cell 32 rfl,h.cell 33 rfl,h.cell 34 rfl⟩
structure CM (w0:World) (G:Nat→Prop) (p m:Nat) (wk:Int) (cs:List Value) (ks:List KB) (rs:List RB) (W:World):Prop where
 blk:Blk W p 65 cs.toArray
 wm:WM W m wk
 only:zcd (fun q=>q=p∨q=m∨G q) w0 W
 keep:∀ x ∈ ks,x.g≠p∧x.t≠5∧Blk W x.g x.t x.l.toArray
 rows:∀ r ∈ rs,zb7 W 0 r.A r.n r.c r.l∧FIn (fun g=>G g∨w0.heap.size≤g) r.A
theorem zcu {W:World} {A:Option Addr} {n c g:Nat} {l:List UInt8} {t:TypeId} {cs:Array Value} (h:zb7 W 0 A n c l) (hB:Blk W g t cs) (ht:t≠5):∀ q,A=some ⟨q,0,none⟩→ q≠g:=by
 rintro q rfl rfl
 exact zcg hB h.own ht (by simp[Value.ownBlock])
theorem zcv:(65:TypeId)≠ 5:=by decide
section
variable {w0 W W':World} {G:Nat→Prop} {p m:Nat} {wk k:Int} {cs cs':List Value} {ks:List KB} {rs:List RB} {x:KB}
theorem CM.lt (h:CM w0 G p m wk cs ks rs W):p < W.heap.size:=h.blk.lt
theorem CM.ne (h:CM w0 G p m wk cs ks rs W):p≠m:=h.wm.blk_ne h.blk
theorem CM.size (h:CM w0 G p m wk cs ks rs W):w0.heap.size≤W.heap.size:=h.only.size
theorem CM.turn (h:CM w0 G p m wk cs ks rs W) (ho:zcd (fun q=>q=p) W W') (hB:Blk W' p 65 cs'.toArray):CM w0 G p m wk cs' ks rs W':=
 ⟨hB,h.wm.keep (ho.block m h.wm.lt (fun e=>h.ne e.symm)),h.only.trans ho (fun i _ e=> .inl e),
  fun x hx=>⟨(h.keep x hx).1,(h.keep x hx).2.1,(ho.block x.g (h.keep x hx).2.2.lt (h.keep x hx).1).trans (h.keep x hx).2.2⟩,
  fun r hr=>⟨⟨(h.rows r hr).1.hn,(h.rows r hr).1.own.keep fun g _ hlt hA=>ho.block g hlt (zcu (h.rows r hr).1 h.blk zcv g hA)⟩,(h.rows r hr).2⟩⟩
theorem CM.set (h:CM w0 G p m wk cs ks rs W) (i:Nat) (v:Value):CM w0 G p m wk (cs.set i v) ks rs (W.setCell ⟨p,i,none⟩ v):=
 h.turn (zcd.of_set (F:=fun q=>q=p) rfl v) (by have:=h.blk.set_ i v;rwa [List.setIfInBounds_toArray] at this)
theorem CM.sets (h:CM w0 G p m wk cs ks rs W) (vs:List Value) (o:Nat) (hl:o+vs.length≤cs.length):CM w0 G p m wk (cs.take o ++ vs ++ cs.drop (o+vs.length)) ks rs (W.setCells p o vs):=
 h.turn (zcm (F:=fun q=>q=p) rfl _ _ (zcd.refl _ _)) (zcl vs o h.blk hl)
theorem CM.step (h:CM w0 G p m wk cs ks rs W) (hb:Below W.heap.size W W'):CM w0 G p m wk cs ks rs W':=
 ⟨h.blk.below hb h.blk.lt,h.wm.keep (hb.block m h.wm.lt),h.only.step hb,fun x hx=>⟨(h.keep x hx).1,(h.keep x hx).2.1,(h.keep x hx).2.2.below hb (h.keep x hx).2.2.lt⟩,fun r hr=>⟨(h.rows r hr).1.below hb,(h.rows r hr).2⟩⟩
theorem CM.alloc (h:CM w0 G p m wk cs ks rs W) (o:Obj):CM w0 G p m wk cs ks rs (W.alloc o):= h.step (zbp (Below.refl _ _) o)
theorem CM.drew (h:CM w0 G p m wk cs ks rs W):CM w0 G p m wk cs ks rs W.drew:=⟨h.blk.drew,h.wm.keep rfl,h.only.drew,fun x hx=>⟨(h.keep x hx).1,(h.keep x hx).2.1,(h.keep x hx).2.2.drew⟩,fun r hr=>⟨(h.rows r hr).1.drew,(h.rows r hr).2⟩⟩
theorem CM.add (h:CM w0 G p m wk cs ks rs W) (g:Nat) (t:TypeId) (l:List Value) (hg:g≠p) (ht:t≠5) (hB:Blk W g t l.toArray):CM w0 G p m wk cs (⟨g,t,l⟩ :: ks) rs W:=⟨h.blk,h.wm,h.only,by
 intro x hx
 rcases List.mem_cons.1 hx with rfl | hx
 · exact⟨hg,ht,hB⟩
 · exact h.keep x hx,h.rows⟩
theorem CM.new (h:CM w0 G p m wk cs ks rs W) (t:TypeId) (l:List Value) (ht:t≠5):CM w0 G p m wk cs (⟨W.heap.size,t,l⟩ :: ks) rs (W.alloc (.cells l.toArray t)):= (h.alloc _).add _ _ _ (fun e=>by have:=h.lt;omega) ht (Blk.new W t l.toArray)
theorem CM.subr (h:CM w0 G p m wk cs ks rs W) {rs':List RB} (hk:∀ r ∈ rs',r ∈ rs):CM w0 G p m wk cs ks rs' W:=⟨h.blk,h.wm,h.only,h.keep,fun r hr=>h.rows r (hk r hr)⟩
theorem CM.row (h:CM w0 G p m wk cs ks rs W) {A:Option Addr} {n c:Nat} {l:List UInt8} (hO:zb7 W w0.heap.size A n c l):CM w0 G p m wk cs ks (⟨A,n,c,l⟩ :: rs) W:=⟨h.blk,h.wm,h.only,h.keep,by
 intro r hr
 rcases List.mem_cons.1 hr with rfl | hr
 · exact⟨hO.mono (Nat.zero_le _),fun g hg=> .inr (hO.own.fin g hg).1⟩
 · exact h.rows r hr⟩
theorem CM.k0 (h:CM w0 G p m wk cs (x :: ks) rs W):Blk W x.g x.t x.l.toArray:=(h.keep x (by simp)).2.2
theorem CM.r0 {r:RB} (h:CM w0 G p m wk cs ks (r :: rs) W):zb7 W 0 r.A r.n r.c r.l:=(h.rows r (by simp)).1
theorem CM.wait' (h:CM w0 G p m wk cs ks rs W) (hg:W.grownBy W' (some m)) (hm:WM W' m k):CM w0 G p m k cs ks rs W':=
 have ho:zcd (fun q=>q=m) W W':=zcd.of_grown hg (fun g e=>by injection e with e;exact e.symm)
 ⟨(ho.block p h.lt h.ne).trans h.blk,hm,h.only.trans ho (fun i _ e=> .inr (.inl e)),
  fun x hx=>⟨(h.keep x hx).1,(h.keep x hx).2.1,(ho.block x.g (h.keep x hx).2.2.lt (h.wm.blk_ne (h.keep x hx).2.2)).trans (h.keep x hx).2.2⟩,
  fun r hr=>⟨⟨(h.rows r hr).1.hn,(h.rows r hr).1.own.keep fun g _ hlt hA=>ho.block g hlt (h.wm.row_ne (h.rows r hr).1.own g hA)⟩,(h.rows r hr).2⟩⟩
theorem CM.put (h:CM w0 G p m wk cs (x :: ks) rs W) (hn: ¬ x.g < w0.heap.size) (hk:∀ y ∈ ks,y.g≠x.g) (i:Nat) (v:Value):CM w0 G p m wk cs (⟨x.g,x.t,x.l.set i v⟩ :: ks) rs (W.setCell ⟨x.g,i,none⟩ v):= by
 have h0:=h.keep x (by simp)
 have ho:zcd (fun q=>q=x.g) W (W.setCell ⟨x.g,i,none⟩ v):= zcd.of_set (F:=fun q=>q=x.g) rfl v
 refine⟨(ho.block p h.lt (fun e=>h0.1 e.symm)).trans h.blk,h.wm.keep (ho.block m h.wm.lt (fun e=>h.wm.blk_ne h0.2.2 e.symm)),?_,?_,fun r hr=>⟨⟨(h.rows r hr).1.hn,(h.rows r hr).1.own.keep fun g _ hlt hA=>ho.block g hlt (zcu (h.rows r hr).1 h0.2.2 h0.2.1 g hA)⟩,(h.rows r hr).2⟩⟩
 · exact⟨ho.os.trans h.only.os,ho.tape.trans h.only.tape,ho.output.trans h.only.output,Nat.le_trans h.only.size ho.size,fun i hi hF=>(ho.block i (Nat.lt_of_lt_of_le hi h.only.size) (fun e=>hn (by rw[← e];exact hi))).trans (h.only.block i hi hF)⟩
 · intro y hy
   rcases List.mem_cons.1 hy with rfl | hy
   · refine⟨h0.1,h0.2.1,?_⟩
     have:=h0.2.2.set_ i v
     rwa [List.setIfInBounds_toArray] at this
   · have h1:=h.keep y (by simp[hy])
     exact⟨h1.1,h1.2.1,(ho.block y.g h1.2.2.lt (hk y hy)).trans h1.2.2⟩
end
section
variable {w0:World} {G:Nat→Prop} {p m:Nat} {wk:Int} {cs:List Value} {ks:List KB} {rs:List RB}
theorem zcw (k:Int) (W:World) (h:CM w0 G p m wk cs ks rs W) (h2:cs[2]? =some (.map (some m))) (hw:0≤wk∧wk≤21) (hk:0≤k∧k≤21) :
 Calls Try.prog 27 #[.pointer (some ⟨p,0,none⟩),.int .i64 k] W fun e W'=>e= .returned (.tuple #[])∧ CM w0 G p m k cs ks rs W':=by
 have c2:W.cell? ⟨p,2,none⟩=some (.map (some m)):= h.blk.cell 2 (by simpa using h2)
 have HC:=zak h
 have hz:=h.lt
 clear h
 go_enter Try.func27,Try.ntmps27
 go_wp2_with fail
 go_loopw [4,5,6,7,8,9,10,11,12,13] (fun v4 _ _ _ _ _ _ _ _ _ wr=> ∃ j:Nat,v4= .int .i64 (j:Nat)∧ j≤22∧World.ownsMap wr Try.prog 3 (plainElem Try.prog 3) m 1 (dropD wk j)∧ W.grownBy wr (some m)) (fun v4 _ _ _ _ _ _ _ _ _ _=>22 - (intOf v4).toNat)
 case atStart=>exact⟨0,rfl,by omega,by have:=HC.out.wm;unfold WM at this;unfold dropD;rw[if_neg (by omega)];exact this,World.grownBy.refl _ _⟩
 case round=>
  obtain⟨j,rfl,hj,hown,hgr⟩:= hrel
  have ho:zcd (fun q=>q=m) W wr:=zcd.of_grown hgr (fun g e=>by injection e with e;exact e.symm)
  have c2r:wr.cell? ⟨p,2,none⟩=some (.map (some m)):= by
   have:=(ho.block p HC.out.lt HC.out.ne).trans HC.out.blk
   exact Blk.cell this 2 (by simpa using h2)
  have zr:p < wr.heap.size:=Nat.lt_of_lt_of_le hz ho.size
  by_cases hlt:j < 22
  · have hkey:=keyOf_int_mk (P:=Try.prog) (k:=3) (q:= .i64) (a:=(j:Int)) Try.underlying3 (wf64 j ⟨by omega,by omega⟩)
    have hlt2:(j:Int)≤ 21:=by omega
    go_wp2_with (first | (at_delete;refine wpList_delete_own _ rfl _ _ 60 3 rfl 3 kInt Try.underlying60 _ m 1 (dropD wk j) rfl hown _ _ rfl hkey ?_;intro w1 hown1 hturn1) | fail)
    refine⟨⟨j+1,by congr 1,by omega,?_,hgr.trans hturn1.grown⟩,by simp only[intOf];omega⟩
    rw[zcr wk j hw.1] at hown1
    exact hown1
  · obtain rfl:j=22:=by omega
    have hown0:World.ownsMap wr Try.prog 3 (plainElem Try.prog 3) m 0 (.map []:DataW Unit):= by
     have:=hown
     unfold dropD at this
     rw[if_pos (by omega)] at this
     exact zcp this
    have hm0:WM wr m 0:=hown0.mono (Nat.zero_le _)
    have H0:=zak (HC.out.wait' hgr hm0)
    have HO0:=zak hown0
    clear hown hown0 hm0
    by_cases hk0:k=0
    · subst hk0
      go_wp2_with fail
      go_end0
      exact⟨rfl,H0.out⟩
    · have hkey:=keyOf_int_mk (P:=Try.prog) (k:=3) (q:= .i64) (a:=k) Try.underlying3 (wf64 k ⟨by omega,by omega⟩)
      go_wp2_with (first | (at_mapUpdate;refine wpList_mapUpdate_own _ rfl _ _ _ 60 rfl 3 3 kInt Try.underlying60 _ m 0 (.map []:DataW Unit) rfl HO0.out (by decide) _ _ _ rfl rfl hkey _ [] (plainElem_int (H:=Unit) Try.underlying3 (by decide)) ?_;intro w1 hown1 hgrow1) | fail)
      go_end0
      refine⟨rfl,H0.out.wait' hgrow1 ?_⟩
      unfold WM wmD
      rw[if_neg hk0]
      exact hown1
theorem zcx (j:Int) (W:World) (h:CM w0 G p m wk cs ks rs W) (h2:cs[2]? =some (.map (some m))) (hw:0≤wk∧wk≤21) (hj:0≤j∧j≤21) (hj0:j≠0) :
 Calls Try.prog 33 #[.pointer (some ⟨p,0,none⟩),.int .i64 j] W fun e W'=>e= .returned (.bool (decide (wk=j)))∧ W=W':=by
 have c2:W.cell? ⟨p,2,none⟩=some (.map (some m)):= h.blk.cell 2 (by simpa using h2)
 have hl:=h.wm.look j ⟨hj.1,by omega⟩ ⟨hw.1,by omega⟩
 by_cases e:wk=j
 · rw[if_pos ⟨by omega,e⟩] at hl
   have he:=zak e
   clear h e
   go_enter Try.func33,Try.ntmps33
   go_wp2_with fail
   go_ret
   exact⟨by simp[he.out],rfl⟩
 · rw[if_neg (fun hh=>e hh.2)] at hl
   have he:=zak e
   clear h e
   go_enter Try.func33,Try.ntmps33
   go_wp2_with fail
   go_ret
   exact⟨by simp[he.out],rfl⟩
theorem zcy (W:World) (h:CM w0 G p m wk cs ks rs W) (h2:cs[2]? =some (.map (some m))) :
 Calls Try.prog 20 #[.pointer (some ⟨p,0,none⟩)] W fun e W'=>e= .returned (.bool (decide (wk≠0)))∧ W=W':=by
 have c2:W.cell? ⟨p,2,none⟩=some (.map (some m)):= h.blk.cell 2 (by simpa using h2)
 have hl:=fun ty=>h.wm.len ty
 by_cases e:wk=0
 · simp only[if_pos e] at hl
   have he:=zak e
   clear h e
   go_enter Try.func20,Try.ntmps20
   go_wp2_with fail
   go_ret
   exact⟨by simp[he.out],rfl⟩
 · simp only[if_neg e] at hl
   have he:=zak e
   clear h e
   go_enter Try.func20,Try.ntmps20
   go_wp2_with fail
   go_ret
   exact⟨by simp[he.out],rfl⟩
theorem zcz (c:Nat) (W:World) (hB:W.cell? ⟨p,35,none⟩=some (.int .u32 (c:Nat))) :
 Calls Try.prog 21 #[.pointer (some ⟨p,0,none⟩)] W fun e W'=>e= .returned (.int .u32 (c:Nat))∧ W=W':=by
 go_enter Try.func21,Try.ntmps21
 go_wp2_with fail
 go_ret
 exact⟨rfl,rfl⟩
theorem zc0 (A:Option Addr) (n c:Nat) (l:List UInt8) (W:World) (hB:W.cell? ⟨p,36,none⟩=some (.slice A n c)) (hn:n=l.length) (hl:n≤1000000) (hs:Sl W A (l.map bv)) :
 Calls Try.prog 18 #[.pointer (some ⟨p,0,none⟩)] W fun e W'=> ∃ A' c',e= .returned (.slice A' n c')∧ zb7 W' W.heap.size A' n c' l∧Below W.heap.size W W':=by
 have HN:=zak hn
 clear hn
 go_enter Try.func18,Try.ntmps18
 go_wp2_with (at_builtin;refine zb8 _ rfl _ _ rfl W.heap.size none 0 0 [] rfl (zb7.nil _ _) A n c l rfl HN.out hs (by omega) (Nat.le_refl _) n (by omega) ?_;intro A' c' w' h1 h2 h3 h4)
 go_ret
 exact⟨A',c',rfl,h1,h4⟩
theorem zc1 (code:Nat) (A:Option Addr) (n c:Nat) (b:List UInt8) (W:World) (h:CM w0 G p m wk cs ks rs W) (h2:cs[2]? =some (.map (some m))) (hl:cs.length=37) (hw:0≤wk∧wk≤21) (hn:n=b.length) (hb:n≤1000000) (hs:∀ W',CM w0 G p m 0 cs ks rs W'→Sl W' A (b.map bv)) :
 Calls Try.prog 35 #[.pointer (some ⟨p,0,none⟩),.int .u32 (code:Nat),.slice A n c] W fun e W'=>e= .returned (.slice none 0 0)∧ ∃ A' c',CM w0 G p m 0 ((cs.set 35 (.int .u32 (code:Nat))).set 36 (.slice A' n c')) ks (⟨A',n,c',b⟩ :: rs) W':=by
 have HC:=zak h
 have HN:=zak hn
 have HS:=zak hs
 have hz:=h.lt
 clear h hn hs
 go_enter Try.func35,Try.ntmps35
 go_wp2_with fail
 refine (zcw 0 W HC.out h2 hw ⟨by omega,by omega⟩).mono ?_
 rintro e W1 ⟨rfl,h1⟩
 obtain⟨u35,e35⟩:∃ u,cs.toArray[35]? =some u:=⟨cs[35],by simp[hl]⟩
 obtain⟨u36,e36⟩:∃ u,cs.toArray[36]? =some u:=⟨cs[36],by simp[hl]⟩
 have E35:=zak e35
 have E36:=zak e36
 have H1:=zak h1
 have HS1:=zak (HS.out W1 h1)
 clear h1 e35 e36
 go_wp2_with (at_builtin;refine zb8 _ rfl _ _ rfl W1.heap.size none 0 0 [] rfl (zb7.nil _ _) A n c b rfl HN.out HS1.out (by omega) (Nat.le_refl _) n (by omega) ?_;intro A' c' w' h3 h4 h5 h6;have H2:=zak (H1.out.step h6);have c35:=H2.out.blk.cell 35 E35.out;have c36:=H2.out.blk.cell 36 E36.out;have f35:=H2.out.blk.frozen 35;have f36:=H2.out.blk.frozen 36;have z2:=H2.out.lt)
 go_ret
 exact⟨rfl,A',c',((H2.out.row (h3.mono H1.out.size)).set 35 _).set 36 _⟩
theorem zc2 (S:CliS) (R:CR) (ix sub mode:Int) (W:World) (h:CM w0 G p m S.wk (cliL S m R) ks rs W) (hb:cBegB ix sub mode=false) :
 Calls Try.prog 25 #[.pointer (some ⟨p,0,none⟩),.int .i64 ix,.int .i64 sub,.int .i64 mode] W fun e W'=>e= .returned (.bool false)∧ W=W':=by
 have hz:=h.lt
 have c2:W.cell? ⟨p,2,none⟩=some (.map (some m)):= h.blk.cell 2 rfl
 have hmn:=run_eql_map_nil (P:=Try.prog) W 60 3 3 (some m) Try.underlying60
 have hq: ¬ (0≤ix∧ix≤65535∧0≤sub∧sub≤255∧0≤mode∧mode≤2):= by unfold cBegB at hb;simpa using hb
 have HQ:=zak hq
 clear h hb hq
 by_cases g1:ix < 0
 · go_enter Try.func25,Try.ntmps25
   go_wp2_with fail
   go_ret
   exact⟨rfl,rfl⟩
 by_cases g2:65535 < ix
 · go_enter Try.func25,Try.ntmps25
   go_wp2_with fail
   go_ret
   exact⟨rfl,rfl⟩
 by_cases g3:sub < 0
 · go_enter Try.func25,Try.ntmps25
   go_wp2_with fail
   go_ret
   exact⟨rfl,rfl⟩
 by_cases g4:255 < sub
 · go_enter Try.func25,Try.ntmps25
   go_wp2_with fail
   go_ret
   exact⟨rfl,rfl⟩
 by_cases g5:mode < 0
 · go_enter Try.func25,Try.ntmps25
   go_wp2_with fail
   go_ret
   exact⟨rfl,rfl⟩
 by_cases g6:2 < mode
 · go_enter Try.func25,Try.ntmps25
   go_wp2_with fail
   go_ret
   exact⟨rfl,rfl⟩
 exact absurd ⟨by omega,by omega,by omega,by omega,by omega,by omega⟩ HQ.out
theorem zc3 (S:CliS) (R:CR) (ix sub mode:Int) (W:World) (h:CM w0 G p m S.wk (cliL S m R) ks rs W) (hw:0≤S.wk∧S.wk≤21) (hb:cBegB ix sub mode=true) :
 Calls Try.prog 25 #[.pointer (some ⟨p,0,none⟩),.int .i64 ix,.int .i64 sub,.int .i64 mode] W fun e W'=>e= .returned (.bool true)∧
  ∃ A' c',CM w0 G p m 0 (cliL (cBegS S ix sub) m { R with A:=none,n:=0,c:=0,A2:=A',n2:=0,c2:=c' }) ks rs W':=by
 have HC:=zak h
 have hz:=h.lt
 have c2:W.cell? ⟨p,2,none⟩=some (.map (some m)):= h.blk.cell 2 rfl
 have hmn:=run_eql_map_nil (P:=Try.prog) W 60 3 3 (some m) Try.underlying60
 obtain⟨g1,g2,g3,g4,g5,g6⟩:0≤ix∧ix≤65535∧0≤sub∧sub≤255∧0≤mode∧mode≤2:=by unfold cBegB at hb;simpa using hb
 clear h hb
 go_enter Try.func25,Try.ntmps25
 go_wp2_with fail
 refine (zc1 0 none 0 0 [] W HC.out rfl rfl hw rfl (by omega) (fun _ _=>Sl.nil _ _)).mono ?_
 rintro e W1 ⟨rfl,A',c',h1⟩
 have H1:=zak (h1.subr (rs':=rs) (fun r hr=>List.mem_cons_of_mem _ hr))
 have hz1:=h1.lt
 clear h1 hmn c2
 have HB1:Hid (Blk W1 p 65 (cliL { S with code:=0 } m { R with A2:=A',n2:=0,c2:=c' }).toArray):= zak H1.out.blk
 obtain⟨a3,a4,a5,a6,a7,a8,a9,a10,a11,a12,a13,a14,a15,a16⟩:= zcs HB1.out
 have fz:=HB1.out.frozen
 go_upto_region 5 with fail
 refine zcn (P:=CM w0 G p m 0 (cliL { S with code:=0,ix:=ix,sub:=sub } m { R with A2:=A',n2:=0,c2:=c' }) ks rs) ?_ (fun W2 h2=>?_)
 · exact (((((((((((((H1.out.set 3 _).set 4 _).set 5 _).set 6 _).set 7 _).set 8 _).set 9 _).set 10 _).set 11 _).set 12 _).set 13 _).set 14 _).set 15 _).set 16 _
 clear HB1 a3 a4 a5 a6 a7 a8 a9 a10 a11 a12 a13 a14 a15 a16 fz H1 HC
 have H2:=zak h2
 have z2:=h2.lt
 have b17:=h2.blk.cell 17 rfl
 have b18:=h2.blk.cell 18 rfl
 have b19:=h2.blk.cell 19 rfl
 have b20:=h2.blk.cell 20 rfl
 have fz:=h2.blk.frozen
 clear h2
 go_wp2_with fail
 go_ret
 exact⟨rfl,A',c',(((H2.out.set 17 _).set 18 _).set 19 _).set 20 _⟩
end
end
section
section
open Go.RowKit
theorem zc4 (n:Int) (w:World):Calls Try.prog 100 #[.int .i64 n] w fun e w'=>e= .returned (.bool (decide (1≤n) && decide (n≤8)))∧ w=w':=by
 by_cases h1:1≤n
 · by_cases h2:n≤8
   · go_enter Try.func100,Try.ntmps100
     go_wp2
     go_ret
     exact⟨by simp[h1,h2],rfl⟩
   · go_enter Try.func100,Try.ntmps100
     go_wp2
     go_ret
     exact⟨by simp[h1,h2],rfl⟩
 · go_enter Try.func100,Try.ntmps100
   go_wp2
   go_ret
   exact⟨by simp;omega,rfl⟩
set_option maxHeartbeats 400000 in
theorem zc5 (A:Option Addr) (cap:Nat) (l:List UInt8) (at_ wd:Int) (w:World)
 (hl:l.length≤cap) (hcap:l.length≤4611686018427387904) (ha0:0≤at_) (ha:at_+wd≤l.length) (h1:1≤wd) (h8:wd≤8) (hc:Sl w A (l.map bv)) :
 Calls Try.prog 91 #[.slice A l.length cap,.int .i64 at_,.int .i64 wd] w fun e w'=>
  e= .returned (.tuple #[.int .u64 (leN ((l.drop at_.toNat).take wd.toNat)),.int .i64 0])∧ w=w':=by
 have g1:(decide (1≤(wd:Int)) && decide ((wd:Int)≤ 8))=true:=by simp;omega
 go_enter Try.func91,Try.ntmps91
 go_wp2_with (go_at_call 100;refine (zc4 _ _).mono ?_;rintro e w' ⟨rfl,rfl⟩)
 go_loop [8,9,32] (fun n _ i=> ∃ k:Nat,k≤wd∧i= .int .i64 k∧n= .int .u64 (leN ((l.drop at_.toNat).take k))) (fun _ _ i=>wd.toNat - (intOf i).toNat)
 case atStart=>exact⟨0,by omega,rfl,rfl⟩
 case round=>
  obtain⟨k,hk,rfl,rfl⟩:= hrel
  by_cases hlt:(k:Int) < wd
  · obtain⟨ad,rfl,hcell⟩:= hc.byte (j:=at_.toNat+k) (by omega)
    have e1:(at_+k).toNat=at_.toNat+k:=by omega
    go_wp2_with fail
    go_round
    case rel=>
     have hd:k < (l.drop at_.toNat).length:=by simp;omega
     have hlt':=zan ((l.drop at_.toNat).take k)
     rw[List.length_take,Nat.min_eq_left (Nat.le_of_lt hd)] at hlt'
     refine⟨k+1,by omega,by go_num,?_⟩
     rw[zas _ _ _ hlt' (UInt8.toNat_lt _) (by omega),zap _ _ hd]
     simp
    case measure=>simp[intOf];omega
  · go_wp2
    go_ret2
    have:k=wd.toNat:=by omega
    subst this
    exact⟨rfl,rfl⟩
theorem zc6 (x k:Nat):Value.int IntKind.u8 ((x:Int) / 2 ^ (8 * k) % 256)=bv (UInt8.ofNat (x / 256 ^ k)):= by
 have:((x:Int) / 2 ^ (8 * k))=((x / 256 ^ k:Nat):Int):= by
  rw[← zar];push_cast;rfl
 rw[this]
 simp only[bv,UInt8.toNat_ofNat']
 congr 1
theorem zc7 (A:Option Addr) (n cap:Nat) (l:List UInt8) (at_ wd:Int) (w:World) (hn:n=l.length)
 (hl:n≤cap) (hcap:n≤4611686018427387904) (ha0:0≤at_) (ha:at_+wd≤n) (h1:1≤wd) (h8:wd≤8) (hc:Sl w A (l.map bv)) :
 Calls Try.prog 91 #[.slice A n cap,.int .i64 at_,.int .i64 wd] w fun e w'=>
  e= .returned (.tuple #[.int .u64 (leN ((l.drop at_.toNat).take wd.toNat)),.int .i64 0])∧ w=w':=by
 subst hn
 exact zc5 A cap l at_ wd w hl hcap ha0 ha h1 h8 hc
end
section
open Go.RowKit
theorem zc8 (A1 A2:Option Addr) (n1 n2 c1 c2:Nat) (l1 l2:List UInt8) (w:World) (hn1:n1=l1.length) (hn2:n2=l2.length) (hl:n1≤35184372088832) (hl2:n2≤35184372088832)
 (h1:Sl w A1 (l1.map bv)) (h2:Sl w A2 (l2.map bv)) :
 Calls Try.prog 30 #[.slice A1 n1 c1,.slice A2 n2 c2] w fun e w'=> ∃ A' n' c',e= .returned (.slice A' n' c')∧
  zb7 w' w.heap.size A' n' c' (l1 ++ l2)∧ Below w.heap.size w w':=by
 have H1:=zak hn1
 have H2:=zak hn2
 clear hn1 hn2
 go_enter Try.func30,Try.ntmps30
 go_wp2_with (first
  | (at_builtin;refine zb8 _ rfl (.tmp 6) (.tmp 7) rfl w.heap.size _ _ _ _ rfl (zb7.nil _ _) _ _ _ l1 rfl H1.out h1 (by omega) (Nat.le_refl _) n1 (by omega) ?_;intro A3 c3 w3 hown3 _ _ hb3)
  | (at_builtin;refine zb8 _ rfl (.tmp 9) (.tmp 10) rfl w.heap.size _ _ _ _ rfl hown3 _ _ _ l2 rfl H2.out (h2.below hb3) (by omega) hb3.size (n1+n2) rfl ?_;intro A4 c4 w4 hown4 _ _ hb4))
 go_ret
 exact⟨_,_,_,rfl,by simpa using hown4,hb3.trans hb4⟩
theorem zc9 (d:List UInt8) (k b:Nat) (h1:1≤k) (hk:k≤d.length) (h8:d.length≤8) (hb:b=(d[k - 1]'(by omega)).toNat) :
 IntKind.u64.wrap (IntKind.u64.wrap (256 * ↑(leN (List.drop k d)))+IntKind.u64.wrap (b:Int))=(leN (d.drop (k - 1)):Int):= by
 have e:d.drop (k - 1)=d[k - 1]'(by omega) :: d.drop k:=by
  rw[List.drop_eq_getElem_cons (by omega)]
  congr 2
  omega
 have hu:U64 (leN (d.drop (k - 1))):= zat (by simp;omega)
 rw[e] at hu ⊢
 simp only[leN] at hu ⊢
 rw[← hb] at hu ⊢
 unfold U64 at hu
 have e1:IntKind.u64.wrap (256 * ↑(leN (List.drop k d)))=256 * ↑(leN (List.drop k d)):= by rw[IntKind.wrap_u64];omega
 have e2:IntKind.u64.wrap (b:Int)=b:=by rw[IntKind.wrap_u64];omega
 rw[e1,e2,IntKind.wrap_u64]
 omega
set_option maxHeartbeats 400000 in
theorem zda (A:Option Addr) (n cap:Nat) (l:List UInt8) (at_ wd:Int) (w:World) (hn:n=l.length)
 (hl:n≤cap) (hcap:n≤4611686018427387904) (ha0:0≤at_) (ha:at_+wd≤n) (h1:1≤wd) (h8:wd≤8) (hc:Sl w A (l.map bv)) :
 Calls Try.prog 103 #[.slice A n cap,.int .i64 at_,.int .i64 wd] w fun e w'=>
  e= .returned (.tuple #[.int .u64 (leN ((l.drop at_.toNat).take wd.toNat)),.int .i64 0])∧ w=w':=by
 have HN:=zak hn
 clear hn
 have hlen:((l.drop at_.toNat).take wd.toNat).length=wd.toNat:=by have:=HN.out;rw[List.length_take,List.length_drop];omega
 obtain⟨d,hd⟩:∃ d,d=(l.drop at_.toNat).take wd.toNat:=⟨_,rfl⟩
 rw[← hd] at hlen ⊢
 have HD:=zak hd
 have HL:=zak hlen
 clear hd hlen
 go_enter Try.func103,Try.ntmps103
 go_wp2_with fail
 go_loop [8,9] (fun n i=> ∃ k:Nat,k≤wd∧i= .int .i64 ((k:Int) - 1)∧ n= .int .u64 (leN (d.drop k))) (fun _ i=>(intOf i+1).toNat)
 case atStart=>exact⟨wd.toNat,by omega,by go_num,by rw[List.drop_eq_nil_of_le (by rw[HL.out];omega)];rfl⟩
 case round=>
  obtain⟨k,hk,rfl,rfl⟩:= hrel
  by_cases hlt:1≤k
  · obtain⟨ad,rfl,hcell⟩:= hc.byte (j:=at_.toNat+(k - 1)) (by have:=HN.out;omega)
    have e1:(at_+(↑k - 1)).toNat=at_.toNat+(k - 1):= by omega
    go_wp2_with fail
    go_round
    case rel=>
     refine⟨k - 1,by omega,by go_num,?_⟩
     rw[zc9 d k _ hlt (by rw[HL.out];omega) (by rw[HL.out];omega)]
     have hd:=HD.out
     subst hd
     rw[List.getElem_take,List.getElem_drop]
    case measure=>simp[intOf];omega
  · go_wp2
    go_ret2
    have:k=0:=by omega
    subst this
    exact⟨by rw[HD.out];rfl,rfl⟩
end
section
open Go.RowKit
theorem zdb (A:Option Addr) (n c:Nat) (l:List UInt8) (w:World) (hn:n=l.length) (hl:n≤35184372088832) (hs:Sl w A (l.map bv)) :
 Calls Try.prog 9 #[.slice A n c] w fun e w'=> ∃ g c',e= .returned (.slice (some ⟨g,0,none⟩) n c')∧
  zb7 w' w.heap.size (some ⟨g,0,none⟩) (n+1) c' (l ++ [77])∧ Below w.heap.size w w':=by
 have H1:=zak hn
 clear hn
 go_enter Try.func9,Try.ntmps9
 go_wp2_with (first
  | (at_builtin;refine zb8 _ rfl (.tmp 4) (.tmp 5) rfl w.heap.size _ _ _ _ rfl (zb7.nil _ _) _ _ _ l rfl H1.out hs (by omega) (Nat.le_refl _) n (by omega) ?_;intro A3 c3 w3 hown3 _ _ hb3)
  | (at_builtin;refine zb8 _ rfl (.tmp 7) (.tmp 8) rfl w.heap.size _ _ _ _ rfl (hown3.alloc _) _ _ _ [77] rfl rfl (Sl.one _ _ _) (by omega) (by have:=hb3.size;simp;omega) (n+1) rfl ?_;intro A4 c4 w4 hown4 _ _ hb4;have hle4:n+1≤c4:=hown4.le;obtain⟨g,rfl,hg1,hg2⟩:= hown4.own.at_ (by omega)))
 go_ret
 exact⟨_,_,rfl,by simpa using hown4,(hb3.alloc hb3.size _).trans hb4⟩
set_option maxRecDepth 20000 in
theorem zdc (g:Nat) (A2:Option Addr) (n c c2:Nat) (l:List UInt8) (w:World) (hn:n=l.length) (hl:n≤35184372088832) (hc:n+1≤c)
 (h1:Sl w (some ⟨g,0,none⟩) ((l ++ [77]).map bv)) (h2:Sl w A2 (l.map bv)) :
 Calls Try.prog 12 #[.slice (some ⟨g,0,none⟩) n c,.slice A2 n c2] w fun e w'=>e= .returned (.bool true)∧ w=w':=by
 have k1:=zca c hn (by have:=h1.take n;rw[List.map_append,hn,List.take_left' (by simp)] at this;exact this)
 have k2:=zca c2 hn h2
 obtain⟨ad,had,hcell⟩:= h1.byte (j:=n) (by simp[hn])
 injection had with had
 subst had
 have hv:(l ++ [77])[n]'(by simp[hn])=77:=by subst hn;simp
 rw[hv] at hcell
 have hc77:w.cell? ⟨g,n,none⟩=some (.int .u8 77):= by simpa [Addr.add_lit] using hcell
 clear hn h1 h2 hv hcell
 go_enter Try.func12,Try.ntmps12
 go_wp2_with fail
 go_ret
 exact⟨rfl,rfl⟩
theorem zdd (A:Option Addr) (n c B:Nat) (l:List UInt8) (w:World) (hl:n≤35184372088832) (hO:Own w B 5 1 A n c (l.map bv)) (hB:B≤w.heap.size) :
 Calls Try.prog 13 #[.slice A n c] w fun e w'=>e= .returned (.tuple #[])∧ w.grownBy w' (Value.ownBlock (.slice A n c)):= by
 obtain⟨i0,hi0,hz0,hz1,hz2⟩:= info_parts zb5
 go_enter Try.func13,Try.ntmps13
 go_wp2
 go_loopw [2] (fun i wr=> ∃ k zs,k≤n∧i= .int .i64 (k:Nat)∧ Own wr B 5 1 A n c (List.map (Value.int .u8) zs)∧ w.grownBy wr (Value.ownBlock (.slice A n c))) (fun i _=>n - (intOf i).toNat)
 case atStart=>exact⟨0,l.map (fun c=>(c.toNat:Int)),by omega,rfl,by rw[List.map_map];exact hO,World.grownBy.refl _ _⟩
 case round=>
  obtain⟨k,zs,hk,rfl,hOr,hgr⟩:= hrel
  by_cases hlt:k < n
  · obtain⟨g,u,rfl,hg1,hg2,hu,hcell,hfr⟩:= hOr.cell hlt
    obtain⟨z,hz,rfl⟩:∃ z,zs[k]? =some z∧u= .int .u8 z:=by
     rw[List.getElem?_map] at hu
     obtain⟨z,h1,h2⟩:= Option.map_eq_some_iff.1 hu
     exact⟨z,h1,h2.symm⟩
    clear hu hz
    go_wp2_with fail
    go_roundw
    case rel=>exact⟨k+1,_,by omega,by go_num,by rw[List.map_set];exact hOr.stored _ _,zbl hgr (.inl rfl) _ _⟩
    case measure=>simp[intOf];omega
  · have hB2:B≤wr.heap.size:=Nat.le_trans hB hgr.size
    go_wp2_with (first
     | (at_builtin;refine zbg _ rfl (.tmp 17) (.tmp 18) _ rfl B 5 i0 _ 1 1 Try.underlying32 hi0 hz0 hz1 hz2 rfl (by omega) _ _ _ _ rfl (hOr.alloc _) _ _ _ _ rfl rfl (Sl.one _ _ _) (by intro u hu;simp at hu;subst hu;rfl) (by unfold maxLen;omega) (by omega) (by simp;omega) (n+1) rfl _ rfl ?_;intro A4 c4 w4 hown4 hg4 hat4 hb4;obtain⟨g,u,rfl,hg1,hg2,hu,hcell,hfr⟩:= hown4.cell (k:=n) (by omega)))
    go_end0
    refine⟨rfl,zbl ((zbm hgr _).trans hg4) ?_ _ _⟩
    have hs:=hgr.size
    rcases hat4 with h | h
    · left;rw[← h];rfl
    · right;simp at h;omega
end
end
end Go.Proofs.Ythdbckbpldlkeaa
