/- None -/
import Derived.Test.YtkkpjbjmhaecjaaGreatT05
import Derived.ChangeAlike
namespace Go.Proofs.YtkkpjbjmhaecjaaGreat
set_option linter.all false
set_option maxRecDepth 100000
set_option maxHeartbeats 4000000
section
open Go.RowKit Go.Maps
structure RB where
 A:Option Addr
 n:Nat
 c:Nat
 l:List UInt8
structure CR where
 E:Ms
 Ae:Option Addr
 ne:Nat
 ce:Nat
 A:Option Addr
 n:Nat
 c:Nat
 A2:Option Addr
 n2:Nat
 c2:Nat
def cliL (S:CliS) (m:Nat) (R:CR):List Value:=[.int .i64 (1408+S.nd),.int .i64 (1536+S.nd),.map (some m),.int .i64 0,.int .i64 S.ix,.int .i64 S.sub,.bool false,.bool false,.bool false,.bool false,.int .u32 0,.int .u32 0,.slice none 0 0,.int .i64 0,.int .i64 0,.int .i64 0,.int .u16 0,
 .slice R.A R.n R.c,.int .i64 S.at_,.int .i64 S.ro,.bool S.tg,
 .int .i64 R.E.kind,.int .i64 R.E.ix,.int .i64 R.E.sub,.bool R.E.tg,.bool R.E.la,.bool R.E.cr,.bool R.E.sz,.int .u32 (R.E.size:Nat),.int .u32 (R.E.code:Nat),.slice R.Ae R.ne R.ce,.int .i64 R.E.sq,.int .i64 R.E.bl,.int .i64 R.E.em,.int .u16 (R.E.sum:Nat),
 .int .u32 (S.code:Nat),.slice R.A2 R.n2 R.c2]
theorem zei {W:World}{S:CliS}{R:CR}{p m:Nat}(h:Blk W p 158 (cliL S m R).toArray):W.cell? ⟨p,3,none⟩=some (.int .i64 0)∧ W.cell? ⟨p,4,none⟩=some (.int .i64 S.ix)∧ W.cell? ⟨p,5,none⟩=some (.int .i64 S.sub)∧ W.cell? ⟨p,6,none⟩=some (.bool false)∧ W.cell? ⟨p,7,none⟩=some (.bool false)∧ W.cell? ⟨p,8,none⟩=some (.bool false)∧ W.cell? ⟨p,9,none⟩=some (.bool false)∧ W.cell? ⟨p,10,none⟩=some (.int .u32 0)∧ W.cell? ⟨p,11,none⟩=some (.int .u32 0)∧ W.cell? ⟨p,12,none⟩=some (.slice none 0 0)∧ W.cell? ⟨p,13,none⟩=some (.int .i64 0)∧ W.cell? ⟨p,14,none⟩=some (.int .i64 0)∧ W.cell? ⟨p,15,none⟩=some (.int .i64 0)∧ W.cell? ⟨p,16,none⟩=some (.int .u16 0):=
 ⟨h.cell 3 rfl,h.cell 4 rfl,h.cell 5 rfl,h.cell 6 rfl,h.cell 7 rfl,h.cell 8 rfl,h.cell 9 rfl,h.cell 10 rfl,h.cell 11 rfl,h.cell 12 rfl,h.cell 13 rfl,h.cell 14 rfl,h.cell 15 rfl,h.cell 16 rfl⟩
theorem zej {W:World}{S:CliS}{R:CR}{p m:Nat}(h:Blk W p 158 (cliL S m R).toArray):W.cell? ⟨p,21,none⟩=some (.int .i64 R.E.kind)∧ W.cell? ⟨p,22,none⟩=some (.int .i64 R.E.ix)∧ W.cell? ⟨p,23,none⟩=some (.int .i64 R.E.sub)∧ W.cell? ⟨p,24,none⟩=some (.bool R.E.tg)∧ W.cell? ⟨p,25,none⟩=some (.bool R.E.la)∧ W.cell? ⟨p,26,none⟩=some (.bool R.E.cr)∧ W.cell? ⟨p,27,none⟩=some (.bool R.E.sz)∧ W.cell? ⟨p,28,none⟩=some (.int .u32 (R.E.size:Nat))∧ W.cell? ⟨p,29,none⟩=some (.int .u32 (R.E.code:Nat))∧ W.cell? ⟨p,30,none⟩=some (.slice R.Ae R.ne R.ce)∧ W.cell? ⟨p,31,none⟩=some (.int .i64 R.E.sq)∧ W.cell? ⟨p,32,none⟩=some (.int .i64 R.E.bl)∧ W.cell? ⟨p,33,none⟩=some (.int .i64 R.E.em)∧ W.cell? ⟨p,34,none⟩=some (.int .u16 (R.E.sum:Nat)):=
 ⟨h.cell 21 rfl,h.cell 22 rfl,h.cell 23 rfl,h.cell 24 rfl,h.cell 25 rfl,h.cell 26 rfl,h.cell 27 rfl,h.cell 28 rfl,h.cell 29 rfl,h.cell 30 rfl,h.cell 31 rfl,h.cell 32 rfl,h.cell 33 rfl,h.cell 34 rfl⟩
structure CM (w0:World) (G:Nat→Prop) (p m:Nat) (wk:Int) (cs:List Value) (ks:List KB) (rs:List RB) (W:World):Prop where
 blk:Blk W p 158 cs.toArray
 wm:WM W m wk
 only:zd0 (fun q=>q=p∨q=m∨G q) w0 W
 keep:∀x ∈ ks,x.g≠p∧x.t≠5∧Blk W x.g x.t x.l.toArray
 rows:∀r ∈ rs,zdv W 0 r.A r.n r.c r.l∧FIn (fun g=>G g∨w0.heap.size≤g) r.A
theorem zek {W:World}{A:Option Addr}{n c g:Nat}{l:List UInt8}{t:TypeId}{cs:Array Value}(h:zdv W 0 A n c l)(hB:Blk W g t cs)(ht:t≠5):∀q,A=some ⟨q,0,none⟩→ q≠g:=by
 rintro q rfl rfl;exact zd3 hB h.own ht (by simp[Value.ownBlock])
theorem zel:(158:TypeId)≠ 5:=by decide
section
variable {w0 W W':World} {G:Nat→Prop} {p m:Nat} {wk k:Int} {cs cs':List Value} {ks:List KB} {rs:List RB} {x:KB}
theorem CM.lt (h:CM w0 G p m wk cs ks rs W):p < W.heap.size:=h.blk.lt
theorem CM.ne (h:CM w0 G p m wk cs ks rs W):p≠m:=h.wm.blk_ne h.blk
theorem CM.size (h:CM w0 G p m wk cs ks rs W):w0.heap.size≤W.heap.size:=h.only.size
theorem CM.turn (h:CM w0 G p m wk cs ks rs W)(ho:zd0 (fun q=>q=p) W W')(hB:Blk W' p 158 cs'.toArray):CM w0 G p m wk cs' ks rs W':=
 ⟨hB,h.wm.keep (ho.block m h.wm.lt (fun e=>h.ne e.symm)),h.only.trans ho (fun i _ e=> .inl e),
  fun x hx=>⟨(h.keep x hx).1,(h.keep x hx).2.1,(ho.block x.g (h.keep x hx).2.2.lt (h.keep x hx).1).trans (h.keep x hx).2.2⟩,
  fun r hr=>⟨⟨(h.rows r hr).1.hn,(h.rows r hr).1.own.keep fun g _ hlt hA=>ho.block g hlt (zek (h.rows r hr).1 h.blk zel g hA)⟩,(h.rows r hr).2⟩⟩
theorem CM.set (h:CM w0 G p m wk cs ks rs W)(i:Nat)(v:Value):CM w0 G p m wk (cs.set i v) ks rs (W.setCell ⟨p,i,none⟩ v):=
 h.turn (zd0.of_set (F:=fun q=>q=p) rfl v) (by have:=h.blk.set_ i v;rwa [List.setIfInBounds_toArray] at this)
theorem CM.sets (h:CM w0 G p m wk cs ks rs W)(vs:List Value)(o:Nat)(hl:o+vs.length≤cs.length):CM w0 G p m wk (cs.take o ++ vs ++ cs.drop (o+vs.length)) ks rs (W.setCells p o vs):=
 h.turn (zeb (F:=fun q=>q=p) rfl _ _ (zd0.refl _ _)) (zea vs o h.blk hl)
theorem CM.step (h:CM w0 G p m wk cs ks rs W)(hb:Below W.heap.size W W'):CM w0 G p m wk cs ks rs W':=
 ⟨h.blk.below hb h.blk.lt,h.wm.keep (hb.block m h.wm.lt),h.only.step hb,fun x hx=>⟨(h.keep x hx).1,(h.keep x hx).2.1,(h.keep x hx).2.2.below hb (h.keep x hx).2.2.lt⟩,fun r hr=>⟨(h.rows r hr).1.below hb,(h.rows r hr).2⟩⟩
theorem CM.alloc (h:CM w0 G p m wk cs ks rs W)(o:Obj):CM w0 G p m wk cs ks rs (W.alloc o):=h.step (zc5 (Below.refl _ _) o)
theorem CM.drew (h:CM w0 G p m wk cs ks rs W):CM w0 G p m wk cs ks rs W.drew:=⟨h.blk.drew,h.wm.keep rfl,h.only.drew,fun x hx=>⟨(h.keep x hx).1,(h.keep x hx).2.1,(h.keep x hx).2.2.drew⟩,fun r hr=>⟨(h.rows r hr).1.drew,(h.rows r hr).2⟩⟩
theorem CM.add (h:CM w0 G p m wk cs ks rs W)(g:Nat)(t:TypeId)(l:List Value)(hg:g≠p)(ht:t≠5)(hB:Blk W g t l.toArray):CM w0 G p m wk cs (⟨g,t,l⟩ :: ks) rs W:=⟨h.blk,h.wm,h.only,by
 intro x hx;rcases List.mem_cons.1 hx with rfl | hx
 · exact⟨hg,ht,hB⟩
 · exact h.keep x hx,h.rows⟩
theorem CM.new (h:CM w0 G p m wk cs ks rs W)(t:TypeId)(l:List Value)(ht:t≠5):CM w0 G p m wk cs (⟨W.heap.size,t,l⟩ :: ks) rs (W.alloc (.cells l.toArray t)):=(h.alloc _).add _ _ _ (fun e=>by have:=h.lt;omega) ht (Blk.new W t l.toArray)
theorem CM.subr (h:CM w0 G p m wk cs ks rs W){rs':List RB}(hk:∀r ∈ rs',r ∈ rs):CM w0 G p m wk cs ks rs' W:=⟨h.blk,h.wm,h.only,h.keep,fun r hr=>h.rows r (hk r hr)⟩
theorem CM.row (h:CM w0 G p m wk cs ks rs W){A:Option Addr}{n c:Nat}{l:List UInt8}(hO:zdv W w0.heap.size A n c l):CM w0 G p m wk cs ks (⟨A,n,c,l⟩ :: rs) W:=⟨h.blk,h.wm,h.only,h.keep,by
 intro r hr;rcases List.mem_cons.1 hr with rfl | hr
 · exact⟨hO.mono (Nat.zero_le _),fun g hg=> .inr (hO.own.fin g hg).1⟩
 · exact h.rows r hr⟩
theorem CM.k0 (h:CM w0 G p m wk cs (x :: ks) rs W):Blk W x.g x.t x.l.toArray:=(h.keep x (by simp)).2.2
theorem CM.r0 {r:RB}(h:CM w0 G p m wk cs ks (r :: rs) W):zdv W 0 r.A r.n r.c r.l:=(h.rows r (by simp)).1
theorem CM.wait' (h:CM w0 G p m wk cs ks rs W)(hg:W.grownBy W' (some m))(hm:WM W' m k):CM w0 G p m k cs ks rs W':=
 have ho:zd0 (fun q=>q=m) W W':=zd0.of_grown hg (fun g e=>by injection e with e;exact e.symm)
 ⟨(ho.block p h.lt h.ne).trans h.blk,hm,h.only.trans ho (fun i _ e=> .inr (.inl e)),
  fun x hx=>⟨(h.keep x hx).1,(h.keep x hx).2.1,(ho.block x.g (h.keep x hx).2.2.lt (h.wm.blk_ne (h.keep x hx).2.2)).trans (h.keep x hx).2.2⟩,
  fun r hr=>⟨⟨(h.rows r hr).1.hn,(h.rows r hr).1.own.keep fun g _ hlt hA=>ho.block g hlt (h.wm.row_ne (h.rows r hr).1.own g hA)⟩,(h.rows r hr).2⟩⟩
theorem CM.put (h:CM w0 G p m wk cs (x :: ks) rs W)(hn: ¬x.g < w0.heap.size)(hk:∀y ∈ ks,y.g≠x.g)(i:Nat)(v:Value):CM w0 G p m wk cs (⟨x.g,x.t,x.l.set i v⟩ :: ks) rs (W.setCell ⟨x.g,i,none⟩ v):=by
 have h0:=h.keep x (by simp);have ho:zd0 (fun q=>q=x.g) W (W.setCell ⟨x.g,i,none⟩ v):=zd0.of_set (F:=fun q=>q=x.g) rfl v;refine⟨(ho.block p h.lt (fun e=>h0.1 e.symm)).trans h.blk,h.wm.keep (ho.block m h.wm.lt (fun e=>h.wm.blk_ne h0.2.2 e.symm)),?_,?_,fun r hr=>⟨⟨(h.rows r hr).1.hn,(h.rows r hr).1.own.keep fun g _ hlt hA=>ho.block g hlt (zek (h.rows r hr).1 h0.2.2 h0.2.1 g hA)⟩,(h.rows r hr).2⟩⟩
 · exact⟨ho.os.trans h.only.os,ho.tape.trans h.only.tape,ho.output.trans h.only.output,Nat.le_trans h.only.size ho.size,fun i hi hF=>(ho.block i (Nat.lt_of_lt_of_le hi h.only.size) (fun e=>hn (by rw[←e];exact hi))).trans (h.only.block i hi hF)⟩
 · intro y hy;rcases List.mem_cons.1 hy with rfl | hy
   · refine⟨h0.1,h0.2.1,?_⟩
     have:=h0.2.2.set_ i v
     rwa [List.setIfInBounds_toArray] at this
   · have h1:=h.keep y (by simp[hy]);exact⟨h1.1,h1.2.1,(ho.block y.g h1.2.2.lt (hk y hy)).trans h1.2.2⟩
end
section
variable {w0:World} {G:Nat→Prop} {p m:Nat} {wk:Int} {cs:List Value} {ks:List KB} {rs:List RB}
theorem zem (k:Int)(W:World)(h:CM w0 G p m wk cs ks rs W)(h2:cs[2]? =some (.map (some m)))(hw:0≤wk∧wk≤21)(hk:0≤k∧k≤21) :
 Calls Tryz.prog 82 #[.pointer (some ⟨p,0,none⟩),.int .i64 k] W fun e W'=>e= .returned (.tuple #[])∧ CM w0 G p m k cs ks rs W':=by
 have c2:W.cell? ⟨p,2,none⟩=some (.map (some m)):=h.blk.cell 2 (by simpa using h2);have HC:=zak h;have hz:=h.lt;clear h;go_enter Tryz.func82,Tryz.ntmps82
 go_wp2_with fail
 go_loopw [4,5,6,7,8,9,10,11,12,13] (fun v4 _ _ _ _ _ _ _ _ _ wr=> ∃j:Nat,v4= .int .i64 (j:Nat)∧ j≤22∧World.ownsMap wr Tryz.prog 3 (plainElem Tryz.prog 3) m 1 (dropD wk j)∧ W.grownBy wr (some m)) (fun v4 _ _ _ _ _ _ _ _ _ _=>22 - (intOf v4).toNat)
 case atStart=>exact⟨0,rfl,by omega,by have:=HC.out.wm;unfold WM at this;unfold dropD;rw[if_neg (by omega)];exact this,World.grownBy.refl _ _⟩
 case round=>
  obtain⟨j,rfl,hj,hown,hgr⟩:=hrel;have ho:zd0 (fun q=>q=m) W wr:=zd0.of_grown hgr (fun g e=>by injection e with e;exact e.symm);have c2r:wr.cell? ⟨p,2,none⟩=some (.map (some m)):=by
   have:=(ho.block p HC.out.lt HC.out.ne).trans HC.out.blk
   exact Blk.cell this 2 (by simpa using h2)
  have zr:p < wr.heap.size:=Nat.lt_of_lt_of_le hz ho.size;by_cases hlt:j < 22
  · have hkey:=keyOf_int_mk (P:=Tryz.prog) (k:=3) (q:= .i64) (a:=(j:Int)) Tryz.underlying3 (wf64 j ⟨by omega,by omega⟩);have hlt2:(j:Int)≤ 21:=by omega
    go_wp2_with (first | (at_delete;refine wpList_delete_own _ rfl _ _ 156 3 rfl 3 kInt Tryz.underlying156 _ m 1 (dropD wk j) rfl hown _ _ rfl hkey ?_;intro w1 hown1 hturn1) | fail)
    refine⟨⟨j+1,by congr 1,by omega,?_,hgr.trans hturn1.grown⟩,by simp only[intOf];omega⟩;rw[zeh wk j hw.1] at hown1;exact hown1
  · obtain rfl:j=22:=by omega
    have hown0:World.ownsMap wr Tryz.prog 3 (plainElem Tryz.prog 3) m 0 (.map []:DataW Unit):=by
     have:=hown
     unfold dropD at this;rw[if_pos (by omega)] at this;exact zef this
    have hm0:WM wr m 0:=hown0.mono (Nat.zero_le _);have H0:=zak (HC.out.wait' hgr hm0);have HO0:=zak hown0;clear hown hown0 hm0;by_cases hk0:k=0
    · subst hk0;go_wp2_with fail
      go_end0
      exact⟨rfl,H0.out⟩
    · have hkey:=keyOf_int_mk (P:=Tryz.prog) (k:=3) (q:= .i64) (a:=k) Tryz.underlying3 (wf64 k ⟨by omega,by omega⟩);go_wp2_with (first | (at_mapUpdate;refine wpList_mapUpdate_own _ rfl _ _ _ 156 rfl 3 3 kInt Tryz.underlying156 _ m 0 (.map []:DataW Unit) rfl HO0.out (by decide) _ _ _ rfl rfl hkey _ [] (plainElem_int (H:=Unit) Tryz.underlying3 (by decide)) ?_;intro w1 hown1 hgrow1) | fail)
      go_end0
      refine⟨rfl,H0.out.wait' hgrow1 ?_⟩;unfold WM wmD;rw[if_neg hk0];exact hown1
theorem zen (j:Int)(W:World)(h:CM w0 G p m wk cs ks rs W)(h2:cs[2]? =some (.map (some m)))(hw:0≤wk∧wk≤21)(hj:0≤j∧j≤21)(hj0:j≠0) :
 Calls Tryz.prog 138 #[.pointer (some ⟨p,0,none⟩),.int .i64 j] W fun e W'=>e= .returned (.bool (decide (wk=j)))∧ W=W':=by
 have c2:W.cell? ⟨p,2,none⟩=some (.map (some m)):=h.blk.cell 2 (by simpa using h2);have hl:=h.wm.look j ⟨hj.1,by omega⟩ ⟨hw.1,by omega⟩;by_cases e:wk=j
 · rw[if_pos ⟨by omega,e⟩] at hl;have he:=zak e;clear h e;go_enter Tryz.func138,Tryz.ntmps138
   go_wp2_with fail
   go_ret
   exact⟨by simp[he.out],rfl⟩
 · rw[if_neg (fun hh=>e hh.2)] at hl;have he:=zak e;clear h e;go_enter Tryz.func138,Tryz.ntmps138
   go_wp2_with fail
   go_ret
   exact⟨by simp[he.out],rfl⟩
theorem zeo (W:World)(h:CM w0 G p m wk cs ks rs W)(h2:cs[2]? =some (.map (some m))) :
 Calls Tryz.prog 34 #[.pointer (some ⟨p,0,none⟩)] W fun e W'=>e= .returned (.bool (decide (wk≠0)))∧ W=W':=by
 have c2:W.cell? ⟨p,2,none⟩=some (.map (some m)):=h.blk.cell 2 (by simpa using h2);have hl:=fun ty=>h.wm.len ty
 by_cases e:wk=0
 · simp only[if_pos e] at hl;have he:=zak e;clear h e;go_enter Tryz.func34,Tryz.ntmps34
   go_wp2_with fail
   go_ret
   exact⟨by simp[he.out],rfl⟩
 · simp only[if_neg e] at hl;have he:=zak e;clear h e;go_enter Tryz.func34,Tryz.ntmps34
   go_wp2_with fail
   go_ret
   exact⟨by simp[he.out],rfl⟩
theorem zep (c:Nat)(W:World)(hB:W.cell? ⟨p,35,none⟩=some (.int .u32 (c:Nat))) :
 Calls Tryz.prog 31 #[.pointer (some ⟨p,0,none⟩)] W fun e W'=>e= .returned (.int .u32 (c:Nat))∧ W=W':=by
 go_enter Tryz.func31,Tryz.ntmps31
 go_wp2_with fail
 go_ret
 exact⟨rfl,rfl⟩
theorem zeq (A:Option Addr)(n c:Nat)(l:List UInt8)(W:World)(hB:W.cell? ⟨p,36,none⟩=some (.slice A n c))(hn:n=l.length)(hl:n≤1000000)(hs:Sl W A (l.map bv)) :
 Calls Tryz.prog 35 #[.pointer (some ⟨p,0,none⟩)] W fun e W'=> ∃A' c',e= .returned (.slice A' n c')∧ zdv W' W.heap.size A' n c' l∧Below W.heap.size W W':=by
 have HN:=zak hn;clear hn;go_enter Tryz.func35,Tryz.ntmps35
 go_wp2_with (at_builtin;refine zdw _ rfl _ _ rfl W.heap.size none 0 0 [] rfl (zdv.nil _ _) A n c l rfl HN.out hs (by omega) (Nat.le_refl _) n (by omega) ?_;intro A' c' w' h1 h2 h3 h4)
 go_ret
 exact⟨A',c',rfl,h1,h4⟩
theorem zer (code:Nat)(A:Option Addr)(n c:Nat)(b:List UInt8)(W:World)(h:CM w0 G p m wk cs ks rs W)(h2:cs[2]? =some (.map (some m)))(hl:cs.length=37)(hw:0≤wk∧wk≤21)(hn:n=b.length)(hb:n≤1000000)(hs:∀W',CM w0 G p m 0 cs ks rs W'→Sl W' A (b.map bv)) :
 Calls Tryz.prog 140 #[.pointer (some ⟨p,0,none⟩),.int .u32 (code:Nat),.slice A n c] W fun e W'=>e= .returned (.slice none 0 0)∧ ∃A' c',CM w0 G p m 0 ((cs.set 35 (.int .u32 (code:Nat))).set 36 (.slice A' n c')) ks (⟨A',n,c',b⟩ :: rs) W':=by
 have HC:=zak h;have HN:=zak hn;have HS:=zak hs;have hz:=h.lt;clear h hn hs;go_enter Tryz.func140,Tryz.ntmps140
 go_wp2_with fail
 refine (zem 0 W HC.out h2 hw ⟨by omega,by omega⟩).mono ?_;rintro e W1 ⟨rfl,h1⟩;obtain⟨u35,e35⟩:∃u,cs.toArray[35]? =some u:=⟨cs[35],by simp[hl]⟩;obtain⟨u36,e36⟩:∃u,cs.toArray[36]? =some u:=⟨cs[36],by simp[hl]⟩;have E35:=zak e35;have E36:=zak e36;have H1:=zak h1;have HS1:=zak (HS.out W1 h1);clear h1 e35 e36;go_wp2_with (at_builtin;refine zdw _ rfl _ _ rfl W1.heap.size none 0 0 [] rfl (zdv.nil _ _) A n c b rfl HN.out HS1.out (by omega) (Nat.le_refl _) n (by omega) ?_;intro A' c' w' h3 h4 h5 h6;have H2:=zak (H1.out.step h6);have c35:=H2.out.blk.cell 35 E35.out;have c36:=H2.out.blk.cell 36 E36.out;have f35:=H2.out.blk.frozen 35;have f36:=H2.out.blk.frozen 36;have z2:=H2.out.lt)
 go_ret
 exact⟨rfl,A',c',((H2.out.row (h3.mono H1.out.size)).set 35 _).set 36 _⟩
theorem zes (S:CliS)(R:CR)(ix sub mode:Int)(W:World)(h:CM w0 G p m S.wk (cliL S m R) ks rs W)(hb:cBegB ix sub mode=false) :
 Calls Tryz.prog 80 #[.pointer (some ⟨p,0,none⟩),.int .i64 ix,.int .i64 sub,.int .i64 mode] W fun e W'=>e= .returned (.bool false)∧ W=W':=by
 have hz:=h.lt;have c2:W.cell? ⟨p,2,none⟩=some (.map (some m)):=h.blk.cell 2 rfl;have hmn:=run_eql_map_nil (P:=Tryz.prog) W 156 3 3 (some m) Tryz.underlying156;have hq: ¬(0≤ix∧ix≤65535∧0≤sub∧sub≤255∧0≤mode∧mode≤2):=by unfold cBegB at hb;simpa using hb
 have HQ:=zak hq;clear h hb hq;by_cases g1:ix < 0
 · go_enter Tryz.func80,Tryz.ntmps80
   go_wp2_with fail
   go_ret
   exact⟨rfl,rfl⟩
 by_cases g2:65535 < ix
 · go_enter Tryz.func80,Tryz.ntmps80
   go_wp2_with fail
   go_ret
   exact⟨rfl,rfl⟩
 by_cases g3:sub < 0
 · go_enter Tryz.func80,Tryz.ntmps80
   go_wp2_with fail
   go_ret
   exact⟨rfl,rfl⟩
 by_cases g4:255 < sub
 · go_enter Tryz.func80,Tryz.ntmps80
   go_wp2_with fail
   go_ret
   exact⟨rfl,rfl⟩
 by_cases g5:mode < 0
 · go_enter Tryz.func80,Tryz.ntmps80
   go_wp2_with fail
   go_ret
   exact⟨rfl,rfl⟩
 by_cases g6:2 < mode
 · go_enter Tryz.func80,Tryz.ntmps80
   go_wp2_with fail
   go_ret
   exact⟨rfl,rfl⟩
 exact absurd ⟨by omega,by omega,by omega,by omega,by omega,by omega⟩ HQ.out
theorem zet (S:CliS)(R:CR)(ix sub mode:Int)(W:World)(h:CM w0 G p m S.wk (cliL S m R) ks rs W)(hw:0≤S.wk∧S.wk≤21)(hb:cBegB ix sub mode=true) :
 Calls Tryz.prog 80 #[.pointer (some ⟨p,0,none⟩),.int .i64 ix,.int .i64 sub,.int .i64 mode] W fun e W'=>e= .returned (.bool true)∧
  ∃A' c',CM w0 G p m 0 (cliL (cBegS S ix sub) m { R with A:=none,n:=0,c:=0,A2:=A',n2:=0,c2:=c' }) ks rs W':=by
 have HC:=zak h;have hz:=h.lt;have c2:W.cell? ⟨p,2,none⟩=some (.map (some m)):=h.blk.cell 2 rfl;have hmn:=run_eql_map_nil (P:=Tryz.prog) W 156 3 3 (some m) Tryz.underlying156;obtain⟨g1,g2,g3,g4,g5,g6⟩:0≤ix∧ix≤65535∧0≤sub∧sub≤255∧0≤mode∧mode≤2:=by unfold cBegB at hb;simpa using hb
 clear h hb;go_enter Tryz.func80,Tryz.ntmps80
 go_wp2_with fail
 refine (zer 0 none 0 0 [] W HC.out rfl rfl hw rfl (by omega) (fun _ _=>Sl.nil _ _)).mono ?_;rintro e W1 ⟨rfl,A',c',h1⟩;have H1:=zak (h1.subr (rs':=rs) (fun r hr=>List.mem_cons_of_mem _ hr));have hz1:=h1.lt;clear h1 hmn c2;have HB1:Hid (Blk W1 p 158 (cliL { S with code:=0 } m { R with A2:=A',n2:=0,c2:=c' }).toArray):=zak H1.out.blk;obtain⟨a3,a4,a5,a6,a7,a8,a9,a10,a11,a12,a13,a14,a15,a16⟩:=zei HB1.out;have fz:=HB1.out.frozen;go_upto_region 5 with fail
 refine zed (P:=CM w0 G p m 0 (cliL { S with code:=0,ix:=ix,sub:=sub } m { R with A2:=A',n2:=0,c2:=c' }) ks rs) ?_ (fun W2 h2=>?_)
 · exact (((((((((((((H1.out.set 3 _).set 4 _).set 5 _).set 6 _).set 7 _).set 8 _).set 9 _).set 10 _).set 11 _).set 12 _).set 13 _).set 14 _).set 15 _).set 16 _
 clear HB1 a3 a4 a5 a6 a7 a8 a9 a10 a11 a12 a13 a14 a15 a16 fz H1 HC;have H2:=zak h2;have z2:=h2.lt;have b17:=h2.blk.cell 17 rfl;have b18:=h2.blk.cell 18 rfl;have b19:=h2.blk.cell 19 rfl;have b20:=h2.blk.cell 20 rfl;have fz:=h2.blk.frozen;clear h2;go_wp2_with fail
 go_ret
 exact⟨rfl,A',c',(((H2.out.set 17 _).set 18 _).set 19 _).set 20 _⟩
end
end
section
section
open Go.RowKit
theorem zeu (n:Int)(w:World):Calls Tryz.prog 244 #[.int .i64 n] w fun e w'=>e= .returned (.bool (decide (1≤n) && decide (n≤8)))∧ w=w':=by
 by_cases h1:1≤n
 · by_cases h2:n≤8
   · go_enter Tryz.func244,Tryz.ntmps244
     go_wp2
     go_ret
     exact⟨by simp[h1,h2],rfl⟩
   · go_enter Tryz.func244,Tryz.ntmps244
     go_wp2
     go_ret
     exact⟨by simp[h1,h2],rfl⟩
 · go_enter Tryz.func244,Tryz.ntmps244
   go_wp2
   go_ret
   exact⟨by simp;omega,rfl⟩
set_option maxHeartbeats 400000 in
theorem zev (A:Option Addr)(cap:Nat)(l:List UInt8)(at_ wd:Int)(w:World)
 (hl:l.length≤cap) (hcap:l.length≤4611686018427387904) (ha0:0≤at_) (ha:at_+wd≤l.length) (h1:1≤wd) (h8:wd≤8) (hc:Sl w A (l.map bv)) :
 Calls Tryz.prog 231 #[.slice A l.length cap,.int .i64 at_,.int .i64 wd] w fun e w'=>
  e= .returned (.tuple #[.int .u64 (leN ((l.drop at_.toNat).take wd.toNat)),.int .i64 0])∧ w=w':=by
 have g1:(decide (1≤(wd:Int)) && decide ((wd:Int)≤ 8))=true:=by simp;omega
 go_enter Tryz.func231,Tryz.ntmps231
 go_wp2_with (go_at_call 244;refine (zeu _ _).mono ?_;rintro e w' ⟨rfl,rfl⟩)
 go_loop [8,9,32] (fun n _ i=> ∃k:Nat,k≤wd∧i= .int .i64 k∧n= .int .u64 (leN ((l.drop at_.toNat).take k))) (fun _ _ i=>wd.toNat - (intOf i).toNat)
 case atStart=>exact⟨0,by omega,rfl,rfl⟩
 case round=>
  obtain⟨k,hk,rfl,rfl⟩:=hrel;by_cases hlt:(k:Int) < wd
  · obtain⟨ad,rfl,hcell⟩:=hc.byte (j:=at_.toNat+k) (by omega);have e1:(at_+k).toNat=at_.toNat+k:=by omega
    go_wp2_with fail
    go_round
    case rel=>
     have hd:k < (l.drop at_.toNat).length:=by simp;omega
     have hlt':=zan ((l.drop at_.toNat).take k);rw[List.length_take,Nat.min_eq_left (Nat.le_of_lt hd)] at hlt';refine⟨k+1,by omega,by go_num,?_⟩;rw[zas _ _ _ hlt' (UInt8.toNat_lt _) (by omega),zap _ _ hd]
     simp
    case measure=>simp[intOf];omega
  · go_wp2
    go_ret2
    have:k=wd.toNat:=by omega
    subst this;exact⟨rfl,rfl⟩
theorem zew (x k:Nat):Value.int IntKind.u8 ((x:Int) / 2 ^ (8 * k) % 256)=bv (UInt8.ofNat (x / 256 ^ k)):=by
 have:((x:Int) / 2 ^ (8 * k))=((x / 256 ^ k:Nat):Int):=by
  rw[←zar];push_cast;rfl
 rw[this];simp only[bv,UInt8.toNat_ofNat']
 congr 1
theorem zex (A:Option Addr)(n cap:Nat)(l:List UInt8)(at_ wd:Int)(w:World)(hn:n=l.length)
 (hl:n≤cap) (hcap:n≤4611686018427387904) (ha0:0≤at_) (ha:at_+wd≤n) (h1:1≤wd) (h8:wd≤8) (hc:Sl w A (l.map bv)) :
 Calls Tryz.prog 231 #[.slice A n cap,.int .i64 at_,.int .i64 wd] w fun e w'=>
  e= .returned (.tuple #[.int .u64 (leN ((l.drop at_.toNat).take wd.toNat)),.int .i64 0])∧ w=w':=by
 subst hn;exact zev A cap l at_ wd w hl hcap ha0 ha h1 h8 hc
end
section
open Go.RowKit
end
section
open Go.RowKit
end
end
section
open Go.RowKit
def Bl8 (w:World) (g:Nat) (l:List UInt8):Prop:=Blk w g 240 (l.map bv).toArray
theorem Bl8.set8 {w:World}{g:Nat}{l:List UInt8}(h:Bl8 w g l)(i:Nat)(c:UInt8):Bl8 (w.setCell ⟨g,i,none⟩ (bv c)) g (l.set i c):=by
 have:=Blk.set_ h i (bv c)
 unfold Bl8
 simpa [List.map_set] using this
theorem Bl8.at8 {w:World}{g:Nat}{l:List UInt8}(h:Bl8 w g l)(i:Nat)(hi:i < l.length):w.cell? ⟨g,i,none⟩=some (.int .u8 (l[i]).toNat)∧ w.frozen? ⟨g,i,none⟩=false:=by
 refine⟨Blk.cell h i ?_,Blk.frozen h i⟩;simp[hi,bv]
theorem zey (at_ wd x:Nat)(g:Nat)(l:List UInt8)(w:World)(hl:l.length=8)(hx:U64 x)(hw:at_+wd≤8)(hB:Bl8 w g l) :
 Calls Tryz.prog 197 #[.int .i64 (at_:Nat),.int .i64 (wd:Nat),.int .u64 (x:Nat),.pointer (some ⟨g,0,none⟩)] w fun e w'=>e= .returned (.tuple #[])∧ Bl8 w' g (putL l at_ wd x)∧ w.grownBy w' (some g):=by
 have HL:=zak hl;have HX:=zak hx;clear hl hx;go_enter Tryz.func197,Tryz.ntmps197
 go_wp2_with fail
 go_loopw [7,9] (fun _ i wr=> ∃k:Nat,k≤wd∧i= .int .i64 (k:Nat)∧ Bl8 wr g (putL l at_ k x)∧ w.grownBy wr (some g)) (fun _ i _=>wd - (intOf i).toNat)
 case atStart=>exact⟨0,by omega,rfl,hB,World.grownBy.refl _ _⟩
 case round=>
  obtain⟨k,hk,rfl,hBr,hg⟩:=hrel;by_cases hlt:k < wd
  · obtain⟨hc,hf⟩:=hBr.at8 (at_+k) (by rw[zcq,HL.out];omega);have hi8:(at_:Int)+(k:Int) < 8:=by omega
    have hnat:((at_:Int)+(k:Int)).toNat=at_+k:=by omega
    go_wp2_with fail
    go_roundw
    case rel=>
     refine⟨k+1,by omega,by go_num,?_,zc3 hg (.inl rfl) _ _⟩;rw[zcp,zew];exact hBr.set8 (at_+k) _
    case measure=>simp[intOf];omega
  · go_wp2_with fail
    obtain rfl:k=wd:=by omega
    exact bodyPost_end (by kernel_rfl) rfl ⟨rfl,hBr,hg⟩
theorem zez (b:Bool)(x y:Nat)(g:Nat)(w:World)(hx:x < 256)(hy:y < 256)(hB:Blk w g 5 #[.int .u8 (x:Nat)]) :
 Calls Tryz.prog 198 #[.bool b,.int .u8 (y:Nat),.pointer (some ⟨g,0,none⟩)] w fun e w'=>e= .returned (.tuple #[])∧ Blk w' g 5 #[.int .u8 ((if b=true then x ||| y else x:Nat):Int)]∧ w.grownBy w' (some g):=by
 have q0:=hB.cell 0 rfl;have f0:=hB.frozen 0;have HX:=zak (u8_or_nat x y hx hy);clear hx hy;cases b
 · go_enter Tryz.func198,Tryz.ntmps198
   go_wp2_with fail
   exact bodyPost_end (by kernel_rfl) rfl ⟨rfl,hB,World.grownBy.refl _ _⟩
 · go_enter Tryz.func198,Tryz.ntmps198
   go_wp2_with fail
   rw[HX.out];exact bodyPost_end (by kernel_rfl) rfl ⟨rfl,by simpa using hB.set_ 0 _,zc3 (World.grownBy.refl _ _) (.inl rfl) _ _⟩
theorem ze0 (A:Option Addr)(n c:Nat)(l:List UInt8)(from_:Nat)(m:Int)(w:World)(hn:n=l.length)(hc:n≤c)(hl:n≤35184372088832)(hm:(from_:Int)+m≤n)(hs:Sl w A (l.map bv)) :
 Calls Tryz.prog 242 #[.slice A n c,.int .i64 (from_:Nat),.int .i64 m] w fun e w'=> ∃A' n' c',e= .returned (.slice A' n' c')∧ zdv w' w.heap.size A' n' c' ((l.drop from_).take m.toNat)∧ Below w.heap.size w w':=by
 by_cases h0:m≤0
 · have HZ:Hid ((l.drop from_).take m.toNat= []):=zak (by rw[show m.toNat=0 by omega];simp);go_enter Tryz.func242,Tryz.ntmps242
   go_wp2_with fail
   go_ret
   exact⟨none,0,0,rfl,by rw[HZ.out];exact zdv.nil _ _,Below.refl _ _⟩
 · have h1:0 < m:=by omega
   have hk:from_≤from_+m.toNat:=by omega
   have HT:=zak (((hs.cut1 (k:=from_) (c:=c) (by simp;omega)).take m.toNat));have hcut:=fun W=>zdz A n c from_ (from_+m.toNat) (from_:Int) ((from_:Int)+m) .i64 .i64 rfl (by omega) hk (by omega) W
   rw[show from_+m.toNat - from_=m.toNat by omega] at hcut;have HM:Hid (m.toNat=((l.drop from_).take m.toNat).length):=zak (by simp;omega);have hm8:m.toNat≤140737488355328:=by omega
   have h64:(from_:Int)+m≤4611686018427387904:=by omega
   clear h0 hn hs hk;go_enter Tryz.func242,Tryz.ntmps242
   go_wp2_with (at_builtin;refine zdw _ rfl _ _ rfl w.heap.size none 0 0 [] rfl (zdv.nil _ _) (cutA A c from_ 1) m.toNat _ ((l.drop from_).take m.toNat) rfl HM.out (by have:=HT.out;rw[←List.map_drop,←List.map_take] at this;exact this) (by omega) (Nat.le_refl _) m.toNat (by omega) ?_;intro A3 c3 w3 hO3 _ _ hb3)
   go_ret
   exact⟨_,_,_,rfl,hO3,hb3⟩
theorem ze1 (A:Option Addr)(n c:Nat)(l:List UInt8)(at_ wd:Int)(g:Nat)(w:World)(hn:n=l.length)(hc:n≤c)(hl:n≤4611686018427387904)(h0:0≤at_)(h1:at_+wd≤n)(h2:1≤wd)(h8:wd≤8)(hs:Sl w A (l.map bv))(hB:Blk w g 27 #[.slice A n c]) :
 Calls Tryz.prog 241 #[.int .i64 at_,.int .i64 wd,.pointer (some ⟨g,0,none⟩)] w fun e w'=>e= .returned (.int .u64 (leN ((l.drop at_.toNat).take wd.toNat)))∧ w=w':=by
 have q0:=hB.cell 0 rfl;have HG:=zak (zex A n c l at_ wd w hn hc hl h0 h1 h2 h8 hs);clear hn hc hl h0 h1 h2 h8 hs;go_enter Tryz.func241,Tryz.ntmps241
 go_wp2_with fail
 refine HG.out.mono ?_;rintro e w1 ⟨rfl,rfl⟩;go_wp2_with fail
 go_ret
 exact⟨rfl,rfl⟩
end
section
open Go.RowKit
theorem ze2 {k j:IntKind}{a b a' b':Int}(h1:a=a')(h2:b=b'):Ending.returned (.tuple #[.int k a,.int j b])= .returned (.tuple #[.int k a',.int j b']):=by rw[h1,h2]
theorem ze3 (k:Int)(w:World):Calls Tryz.prog 195 #[.int .i64 k] w fun e w'=>e= .returned (.tuple #[.int .i64 (formI k),.int .u8 (firstI k)])∧ w=w':=by
 go_enter Tryz.func195,Tryz.ntmps195
 go_wp2_with fail
 all_goals
  go_ret2
  refine⟨ze2 ?_ ?_,rfl⟩
  · go_light
    simp_all [formI]
  · go_light
    simp_all [firstI]
theorem ze4 (f:Int)(w:World):Calls Tryz.prog 199 #[.int .i64 f] w fun e w'=>e= .returned (.bool (placedB f))∧ w=w':=by
 go_enter Tryz.func199,Tryz.ntmps199
 go_wp2_with fail
 all_goals (go_ret;refine⟨zau ?_,rfl⟩;go_light;simp_all [placedB])
theorem ze5 (n h:Int)(w:World):Calls Tryz.prog 227 #[.int .i64 n,.int .i64 h] w fun e w'=>e= .returned (.bool (decide (0≤n) && decide (n≤h)))∧ w=w':=by
 go_enter Tryz.func227,Tryz.ntmps227
 go_wp2_with fail
 all_goals (go_ret;refine⟨zau ?_,rfl⟩;go_light;rw[Bool.eq_iff_iff];simp_all;try omega)
end
section
open Go.RowKit
def OnlyR (f:Int) (M:Ms) (A:Option Addr) (n c:Nat) (w:World) (e:Ending) (w':World):Prop:=
 e= .returned (.agg (msV (onlyM f M) (if dataB f=true then A else none) (if dataB f=true then n else 0) (if dataB f=true then c else 0)))∧ Below w.heap.size w w'
end
section
open Go.RowKit
theorem ze6 (M:Ms)(A:Option Addr)(n c:Nat)(w:World)(hn:n=M.data.length):Calls Tryz.prog 229 #[.int .i64 0,.agg (msV M A n c)] w (OnlyR 0 M A n c w):=by
 obtain⟨kind,ix,sub,tg,la,cr,sz,size,code,data,sq,bl,em,sum⟩:=M;simp only[msV] at *
 clear hn;go_enter Tryz.func229,Tryz.ntmps229
 go_wp2_with fail
 refine (ze4 0 _).mono ?_;rintro e w1 ⟨rfl,rfl⟩;go_wp2_with fail
 refine bodyPost_ret (v:= .agg (msV (onlyM 0 ⟨kind,ix,sub,tg,la,cr,sz,size,code,data,sq,bl,em,sum⟩) none 0 0)) (by simp[results,Tryz.results229,go_sem,msV,onlyM,placedB,dataB]) rfl ⟨rfl,kBl⟩
theorem ze7 (M:Ms)(A:Option Addr)(n c:Nat)(w:World)(hn:n=M.data.length):Calls Tryz.prog 229 #[.int .i64 1,.agg (msV M A n c)] w (OnlyR 1 M A n c w):=by
 obtain⟨kind,ix,sub,tg,la,cr,sz,size,code,data,sq,bl,em,sum⟩:=M;simp only[msV] at *
 clear hn;go_enter Tryz.func229,Tryz.ntmps229
 go_wp2_with fail
 refine (ze4 1 _).mono ?_;rintro e w1 ⟨rfl,rfl⟩;go_wp2_with fail
 go_region
 all_goals go_wp2_with fail
 refine bodyPost_ret (v:= .agg (msV (onlyM 1 ⟨kind,ix,sub,tg,la,cr,sz,size,code,data,sq,bl,em,sum⟩) none 0 0)) (by simp[results,Tryz.results229,go_sem,msV,onlyM,placedB,dataB]) rfl ⟨rfl,kBl⟩
theorem ze8 (M:Ms)(A:Option Addr)(n c:Nat)(w:World)(hn:n=M.data.length):Calls Tryz.prog 229 #[.int .i64 2,.agg (msV M A n c)] w (OnlyR 2 M A n c w):=by
 obtain⟨kind,ix,sub,tg,la,cr,sz,size,code,data,sq,bl,em,sum⟩:=M;simp only[msV] at *
 have HN:=zak hn;rcases (show (n=0∧data= [])∨ (n≠0∧data≠ []) by rcases data with _ | ⟨a,l⟩<;> simp at hn ⊢ <;> omega) with ⟨rfl,rfl⟩ | ⟨h0,hd⟩
 · cases sz
   all_goals
    clear hn;go_enter Tryz.func229,Tryz.ntmps229
    go_wp2_with fail
    refine (ze4 2 _).mono ?_;rintro e w1 ⟨rfl,rfl⟩;go_wp2_with fail
    go_region
    all_goals go_wp2_with fail
    go_region
    all_goals go_wp2_with fail
    refine bodyPost_ret (v:= .agg (msV (onlyM 2 ⟨kind,ix,sub,tg,la,_,_,size,code,[],sq,bl,em,sum⟩) A 0 c)) (by simp[results,Tryz.results229,go_sem,msV,onlyM,placedB,dataB]) rfl ⟨rfl,kBl⟩
 · have h0':((n:Int) == 0)=false:=by simpa using h0
   have HD:=zak hd;clear hn h0 hd;go_enter Tryz.func229,Tryz.ntmps229
   go_wp2_with fail
   refine (ze4 2 _).mono ?_;rintro e w1 ⟨rfl,rfl⟩;go_wp2_with fail
   go_region
   all_goals go_wp2_with fail
   go_region
   all_goals go_wp2_with fail
   refine bodyPost_ret (v:= .agg (msV (onlyM 2 ⟨kind,ix,sub,tg,la,cr,sz,size,code,data,sq,bl,em,sum⟩) A n c)) (by have:=HD.out;simp[results,Tryz.results229,go_sem,msV,onlyM,placedB,dataB,this]) rfl ⟨rfl,kBl⟩
theorem ze9 (M:Ms)(A:Option Addr)(n c:Nat)(w:World)(hn:n=M.data.length):Calls Tryz.prog 229 #[.int .i64 3,.agg (msV M A n c)] w (OnlyR 3 M A n c w):=by
 obtain⟨kind,ix,sub,tg,la,cr,sz,size,code,data,sq,bl,em,sum⟩:=M;simp only[msV] at *
 clear hn;go_enter Tryz.func229,Tryz.ntmps229
 go_wp2_with fail
 refine (ze4 3 _).mono ?_;rintro e w1 ⟨rfl,rfl⟩;go_wp2_with fail
 go_region
 all_goals go_wp2_with fail
 refine bodyPost_ret (v:= .agg (msV (onlyM 3 ⟨kind,ix,sub,tg,la,cr,sz,size,code,data,sq,bl,em,sum⟩) A n c)) (by simp[results,Tryz.results229,go_sem,msV,onlyM,placedB,dataB]) rfl ⟨rfl,kBl⟩
theorem zfa (M:Ms)(A:Option Addr)(n c:Nat)(w:World)(hn:n=M.data.length):Calls Tryz.prog 229 #[.int .i64 4,.agg (msV M A n c)] w (OnlyR 4 M A n c w):=by
 obtain⟨kind,ix,sub,tg,la,cr,sz,size,code,data,sq,bl,em,sum⟩:=M;simp only[msV] at *
 clear hn;go_enter Tryz.func229,Tryz.ntmps229
 go_wp2_with fail
 refine (ze4 4 _).mono ?_;rintro e w1 ⟨rfl,rfl⟩;go_wp2_with fail
 go_region
 all_goals go_wp2_with fail
 refine bodyPost_ret (v:= .agg (msV (onlyM 4 ⟨kind,ix,sub,tg,la,cr,sz,size,code,data,sq,bl,em,sum⟩) none 0 0)) (by simp[results,Tryz.results229,go_sem,msV,onlyM,placedB,dataB]) rfl ⟨rfl,kBl⟩
end
section
open Go.RowKit
theorem zfb (M:Ms)(A:Option Addr)(n c:Nat)(w:World)(hn:n=M.data.length):Calls Tryz.prog 229 #[.int .i64 5,.agg (msV M A n c)] w (OnlyR 5 M A n c w):=by
 obtain⟨kind,ix,sub,tg,la,cr,sz,size,code,data,sq,bl,em,sum⟩:=M;simp only[msV] at *
 clear hn;go_enter Tryz.func229,Tryz.ntmps229
 go_wp2_with fail
 refine (ze4 5 _).mono ?_;rintro e w1 ⟨rfl,rfl⟩;go_wp2_with fail
 refine bodyPost_ret (v:= .agg (msV (onlyM 5 ⟨kind,ix,sub,tg,la,cr,sz,size,code,data,sq,bl,em,sum⟩) none 0 0)) (by simp[results,Tryz.results229,go_sem,msV,onlyM,placedB,dataB]) rfl ⟨rfl,kBl⟩
theorem zfc (M:Ms)(A:Option Addr)(n c:Nat)(w:World)(hn:n=M.data.length):Calls Tryz.prog 229 #[.int .i64 6,.agg (msV M A n c)] w (OnlyR 6 M A n c w):=by
 obtain⟨kind,ix,sub,tg,la,cr,sz,size,code,data,sq,bl,em,sum⟩:=M;simp only[msV] at *
 cases sz
 all_goals
  clear hn;go_enter Tryz.func229,Tryz.ntmps229
  go_wp2_with fail
  refine (ze4 6 _).mono ?_;rintro e w1 ⟨rfl,rfl⟩;go_wp2_with fail
  go_region
  all_goals go_wp2_with fail
  go_region
  all_goals go_wp2_with fail
  refine bodyPost_ret (v:= .agg (msV (onlyM 6 ⟨kind,ix,sub,tg,la,cr,_,size,code,data,sq,bl,em,sum⟩) none 0 0)) (by simp[results,Tryz.results229,go_sem,msV,onlyM,placedB,dataB]) rfl ⟨rfl,kBl⟩
theorem zfd (M:Ms)(A:Option Addr)(n c:Nat)(w:World)(hn:n=M.data.length):Calls Tryz.prog 229 #[.int .i64 7,.agg (msV M A n c)] w (OnlyR 7 M A n c w):=by
 obtain⟨kind,ix,sub,tg,la,cr,sz,size,code,data,sq,bl,em,sum⟩:=M;simp only[msV] at *
 clear hn;go_enter Tryz.func229,Tryz.ntmps229
 go_wp2_with fail
 refine (ze4 7 _).mono ?_;rintro e w1 ⟨rfl,rfl⟩;go_wp2_with fail
 go_region
 all_goals go_wp2_with fail
 refine bodyPost_ret (v:= .agg (msV (onlyM 7 ⟨kind,ix,sub,tg,la,cr,sz,size,code,data,sq,bl,em,sum⟩) none 0 0)) (by simp[results,Tryz.results229,go_sem,msV,onlyM,placedB,dataB]) rfl ⟨rfl,kBl⟩
theorem zfe (M:Ms)(A:Option Addr)(n c:Nat)(w:World)(hn:n=M.data.length):Calls Tryz.prog 229 #[.int .i64 8,.agg (msV M A n c)] w (OnlyR 8 M A n c w):=by
 obtain⟨kind,ix,sub,tg,la,cr,sz,size,code,data,sq,bl,em,sum⟩:=M;simp only[msV] at *
 clear hn;go_enter Tryz.func229,Tryz.ntmps229
 go_wp2_with fail
 refine (ze4 8 _).mono ?_;rintro e w1 ⟨rfl,rfl⟩;go_wp2_with fail
 go_region
 all_goals go_wp2_with fail
 go_region
 all_goals go_wp2_with fail
 refine bodyPost_ret (v:= .agg (msV (onlyM 8 ⟨kind,ix,sub,tg,la,cr,sz,size,code,data,sq,bl,em,sum⟩) none 0 0)) (by simp[results,Tryz.results229,go_sem,msV,onlyM,placedB,dataB]) rfl ⟨rfl,kBl⟩
end
end Go.Proofs.YtkkpjbjmhaecjaaGreat
