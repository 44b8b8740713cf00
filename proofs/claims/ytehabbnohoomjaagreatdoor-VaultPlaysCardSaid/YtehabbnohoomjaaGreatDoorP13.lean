/- None -/
import Derived.Test.YtehabbnohoomjaaGreatDoorP12
namespace Go.Proofs.YtehabbnohoomjaaGreatDoor
set_option linter.unusedVariables false
set_option linter.unusedSimpArgs false
set_option linter.unnecessarySimpa false
section
open Go.RowKit
set_option maxRecDepth 20000
set_option maxHeartbeats 4000000
theorem zi4:(Tryz.prog.info? 3).map (fun i=>(i.zero,i.size,i.bytes))=some (some (.int .i64 0),1,8):= by kernel_rfl
theorem zi5 {ops:Array Oper} {rest:List Oper} {o:Oper} {a:Act} {Q:Exit→Act→World→Prop} (w:World) (hgd:o.guard=none) (s x:Operand) (ho:o.op= .call { callee:= .builtin .append,args:= #[s,x],argTypes:= #[72,72] })
 (B:Nat) (A:Option Addr) (n c:Nat) (xs:List Value) (hs:a.eval s= .slice A n c) (hown:Own w B 3 1 A n c xs)
 (A2:Option Addr) (c2:Nat) (v:Int) (hx:a.eval x= .slice A2 1 c2) (hr:Sl w A2 [.int .i64 v]) (hb:n≤1000000) (hB:B≤w.heap.size)
 (h:∀ A' c' w',Own w' B 3 1 A' (n+1) c' (xs ++ [.int .i64 v])→ w.grownBy w' (Value.ownBlock (.slice A n c))→ (A'=A∨A'=some ⟨w.heap.size,0,none⟩)→ Below B w w'→
   wpList Tryz.prog ops Q rest (a.put o.dst (.slice A' (n+1) c')) w'):wpList Tryz.prog ops Q (o :: rest) a w:=by
 obtain⟨i0,hi0,hz0,hz1,hz2⟩:= info_parts zi4
 refine za4 w hgd s x _ ho B 3 i0 _ 1 8 Tryz.underlying72 hi0 hz0 hz1 hz2 rfl (by omega) A n c _ hs hown A2 1 c2 [.int .i64 v] hx rfl hr (by intro u hu;simp at hu;subst hu;rfl) (by unfold maxLen;omega) (by omega) hB (n+1) rfl _ rfl ?_
 intro A' c' w' h1 h2 h3 h4
 exact h A' c' w' h1 h2 h3 h4
section
variable {F:Nat→Prop} {p n c:Nat} {A:Option Addr} {J:JS} {ds:List (Option Addr×Nat)} {q:FP} {S:FS}
theorem zi6 (h:∀ x ∈ J.looks,FitK x):U32 (numJ J):= by
 unfold numJ lastJ
 split
 · rw[List.getD_eq_getElem?_getD]
   cases hx:J.looks[J.now]? with
   | none=>show (0:Nat) < _;decide
   | some x=>exact (h x (List.mem_of_getElem? hx)).m
 · show (0:Nat) < _;decide
theorem zi7 {w:World} {pf:Nat} (h:JD w F p pf A n c J ds) (hh:J.has=true):J.looks[J.now]? =some (lastJ J):= by
 have h1:=h.at_ hh
 rw[h.lks.hn] at h1
 unfold lastJ
 rw[List.getD_eq_getElem?_getD,List.getElem?_eq_getElem h1]
 rfl
theorem zi8 {pf:Nat} (w:World) (hD:JD w F p pf A n c J ds):Calls Tryz.prog 163 #[.agg #[.slice A n c,.int .i64 (J.now:Nat),.bool J.has]] w fun e w'=>e= .returned (.int .u32 ((numJ J:Nat):Int))∧ Below w.heap.size w w':=by
 have q0:=zbm w 127 #[.slice A n c,.int .i64 (J.now:Nat),.bool J.has]
 have hb:=zbf (Below.refl w.heap.size w) (.cells #[.slice A n c,.int .i64 (J.now:Nat),.bool J.has] 127)
 have HB:=zak hb
 cases hh:J.has
 · have HN:Hid (numJ J=0):= zak (by unfold numJ;rw[hh];rfl)
   rw[HN.out]
   rw[hh] at q0 HB
   obtain⟨q0_c0,q0_c1,q0_c2⟩:= zbh q0
   have q0_f:=q0.frozen
   clear q0 hb
   go_enter Tryz.func163,Tryz.ntmps163
   go_wp2_with fail
   go_ret
   exact⟨rfl,HB.out⟩
 · have hl:=zi7 hD hh
   have HN:Hid (numJ J=(lastJ J).m):= zak (by unfold numJ;rw[hh];rfl)
   rw[HN.out]
   obtain⟨g,d,hA,hg,hd,hO,hfx,hlt,⟨c0,c1,c2,c3,c4,c5⟩,hF,hFd⟩:= (hD.below hb).look hl
   rw[hh] at q0 HB c1
   obtain⟨x,hx⟩:∃ x,x=lastJ J:=⟨_,rfl⟩
   rw[← hx] at c1 ⊢
   obtain⟨k,hk⟩:∃ k,k=J.now:=⟨_,rfl⟩
   rw[← hk] at c1 hlt q0 HB ⊢
   obtain⟨i1,i2,i3⟩:= zbr hlt
   subst hA
   obtain⟨q0_c0,q0_c1,q0_c2⟩:= zbh q0
   have q0_f:=q0.frozen
   clear q0 hb hl hO hfx c0 c2 c3 c4 c5 hx hk hD hd
   go_enter Tryz.func163,Tryz.ntmps163
   go_wp2_with fail
   go_ret
   exact⟨rfl,HB.out⟩
theorem zi9 (w:World) (hD:JD w F p q.p A n c J ds) (hS:FD w q S) (hn:n=S.wear.length) :
 Calls Tryz.prog 190 #[.pointer (some ⟨p,0,none⟩)] w fun e w'=> ∃ A1 c1 A2 c2,e= .returned (.tuple #[.slice A1 n c1,.slice A2 n c2])∧ Sl w' A1 ((S.wear.map fun x=>((x:Nat):Int)).map (Value.int .i64))∧ Sl w' A2 ((S.wear.map fun x=>S.most - ((x:Nat):Int)).map (Value.int .i64))∧ Below w.heap.size w w':=by
 have HW:=zak (fun i W (hi:i < n) (hb:Below w.heap.size w W)=> zhg q S W i (hS.below hb) (by rw[← hn];exact hi))
 have HL:=zak (fun i W (hi:i < n) (hb:Below w.heap.size w W)=> zhh q S W i (hS.below hb) (by rw[← hn];exact hi))
 have HD:=zak hD
 have hp:=hD.blk
 unfold joC at hp
 have h8:=hD.n8
 have zp:=hp.lt
 have HN:=zak hn
 obtain⟨wear,hwe⟩:∃ l,l=S.wear:=⟨_,rfl⟩
 obtain⟨most,hmo⟩:∃ l,l=S.most:=⟨_,rfl⟩
 rw[← hwe] at HW HL HN ⊢
 rw[← hmo] at HL ⊢
 obtain⟨hp_c0,hp_c1,hp_c2,hp_c3,hp_c4⟩:= zbj hp
 have hp_f:=hp.frozen
 clear hD hS hn hp hwe hmo
 go_enter Tryz.func190,Tryz.ntmps190
 go_wp2_with fail
 go_loopw [2,3,4,11] (fun v u _ i wr=> ∃ k A1 c1 A2 c2,k≤n∧i= .int .i64 (k:Nat)∧ v= .slice A1 k c1∧u= .slice A2 k c2∧Hid (Own wr w.heap.size 3 1 A1 k c1 (((wear.take k).map fun x=>((x:Nat):Int)).map (Value.int .i64)))∧ Hid (Own wr w.heap.size 3 1 A2 k c2 (((wear.take k).map fun x=>most - ((x:Nat):Int)).map (Value.int .i64)))∧ Hid (∀ g,A1=some ⟨g,0,none⟩→ A2≠some ⟨g,0,none⟩)∧ Below w.heap.size w wr) (fun _ _ _ i _=>n - (intOf i).toNat)
 case atStart=>exact⟨0,none,0,none,0,by omega,rfl,rfl,rfl,zak (Own.nil _ _ _ _),zak (Own.nil _ _ _ _),zak (fun g h=>by cases h),Below.refl _ _⟩
 case round=>
  obtain⟨k,A1,c1,A2,c2,hk,rfl,rfl,rfl,H1,H2,HNE,hbr⟩:= hrel
  have e3:=(hbr.cell (p:=⟨p,3,none⟩) zp).trans hp_c3
  by_cases hlt:k < n
  · have HT1:Hid ((wear.take (k+1)).map (fun x=>((x:Nat):Int))=(wear.take k).map (fun x=>((x:Nat):Int)) ++ [((wear.getD k 0:Nat):Int)]):= zak (by
     have hk':k < wear.length:=by rw[← HN.out];exact hlt
     rw[List.take_succ_eq_append_getElem hk',List.map_append,List.getD_eq_getElem?_getD,List.getElem?_eq_getElem hk']
     rfl)
    have HT2:Hid ((wear.take (k+1)).map (fun x=>most - ((x:Nat):Int))=(wear.take k).map (fun x=>most - ((x:Nat):Int)) ++ [most - ((wear.getD k 0:Nat):Int)]):= zak (by
     have hk':k < wear.length:=by rw[← HN.out];exact hlt
     rw[List.take_succ_eq_append_getElem hk',List.map_append,List.getD_eq_getElem?_getD,List.getElem?_eq_getElem hk']
     rfl)
    have HWk:=zak (HW.out k wr hlt hbr)
    have HLk:=zak (fun W (hb:Below w.heap.size w W)=> HL.out k W hlt hb)
    obtain⟨x,hx⟩:∃ x,x=((wear.getD k 0:Nat):Int):= ⟨_,rfl⟩
    rw[← hx] at HWk HLk HT1 HT2
    obtain⟨y,hy⟩:∃ y,y=most - x:=⟨_,rfl⟩
    rw[← hy] at HLk HT2
    clear hx hy
    go_wp2_with fail
    refine HWk.out.mono ?_
    rintro e w1 ⟨rfl,rfl⟩
    have hbA:=zbf hbr (.cells #[.int .i64 x] 3)
    go_wp2_with (at_builtin;refine zi5 _ rfl _ _ rfl w.heap.size A1 k c1 _ rfl (H1.out.alloc _) _ 1 x rfl (Sl.one _ _ _) (by omega) hbA.size ?_;intro A3 c3 w3 hown3 hg3 hr3 hb3;have hbw3:=hbA.trans hb3;have e33:=(hbw3.cell (p:=⟨p,3,none⟩) zp).trans hp_c3;have HG3:=zak (And.intro hown3 (And.intro hg3 (And.intro hr3 hbw3)));clear hown3 hg3 hr3 hb3 hbw3)
    obtain⟨hown3,hg3,hr3,hbw3⟩:= HG3.out
    have h23:Own w3 w.heap.size 3 1 A2 k c2 (((wear.take k).map fun x=>most - ((x:Nat):Int)).map (Value.int .i64)):= (H2.out.alloc (.cells #[.int .i64 x] 3)).grown hg3 (by
     intro g hA2 he
     rcases H1.out.shape with ⟨h1,_⟩ | ⟨g1,h1,_⟩
     · rw[h1] at he;simp[Value.ownBlock] at he
     · rw[h1] at he;simp[Value.ownBlock] at he
       subst he
       exact HNE.out g h1 hA2)
    have H23:=zak h23
    have hz3:wr.heap.size < w3.heap.size:=by have:=hg3.size;simp at this;omega
    have HA3:Hid ((A3=A1∨A3=some ⟨(wr.alloc (.cells #[.int .i64 x] 3)).heap.size,0,none⟩)∧ (∀ g,A3=some ⟨g,0,none⟩→ g < w3.heap.size)):= zak ⟨hr3,fun g hg=>(hown3.fin g hg).2⟩
    have H3:=zak hown3
    clear hown3 hg3 hr3 h23 HG3
    refine (HLk.out w3 hbw3).mono ?_
    rintro e w4 ⟨rfl,hb4⟩
    have hbw4:=zbd hb4 hbw3
    have hbB:=zbf hbw4 (.cells #[.int .i64 y] 3)
    have hz4:=hb4.size
    go_wp2_with (at_builtin;refine zi5 _ rfl _ _ rfl w.heap.size A2 k c2 _ rfl ((H23.out.below hb4).alloc _) _ 1 y rfl (Sl.one _ _ _) (by omega) hbB.size ?_;intro A4 c4 w5 hown5 hg5 hr5 hb5)
    have hbw5:=hbB.trans hb5
    have H4:Hid (Own w5 w.heap.size 3 1 A4 (k+1) c4 (((wear.take (k+1)).map fun x=>most - ((x:Nat):Int)).map (Value.int .i64))):= zak (by rw[HT2.out,List.map_append];exact hown5)
    have H35:Hid (Own w5 w.heap.size 3 1 A3 (k+1) c3 (((wear.take (k+1)).map fun x=>((x:Nat):Int)).map (Value.int .i64))):= zak (by
     rw[HT1.out,List.map_append]
     refine ((H3.out.below hb4).alloc (.cells #[.int .i64 y] 3)).grown hg5 ?_
     intro g hA3 he
     rcases H2.out.shape with ⟨h1,_⟩ | ⟨g1,h1,_,h3⟩
     · rw[h1] at he;simp[Value.ownBlock] at he
     · rw[h1] at he;simp[Value.ownBlock] at he
       subst he
       rcases HA3.out.1 with h5 | h5
       · exact HNE.out g (by rw[← h5];exact hA3) h1
       · rw[h5] at hA3
         injection hA3 with hA3
         injection hA3 with hA3
         simp at hA3
         omega)
    have HNE2:Hid (∀ g,A3=some ⟨g,0,none⟩→ A4≠some ⟨g,0,none⟩):= zak (by
     intro g hA3 hA4
     have hg3:=HA3.out.2 g hA3
     rcases hr5 with h5 | h5
     · rw[h5] at hA4
       have hg2:=(H2.out.fin g hA4).2
       rcases HA3.out.1 with h6 | h6
       · exact HNE.out g (by rw[← h6];exact hA3) hA4
       · rw[h6] at hA3
         injection hA3 with hA3
         injection hA3 with hA3
         simp at hA3
         omega
     · rw[h5] at hA4
       injection hA4 with hA4
       injection hA4 with hA4
       simp at hA4
       omega)
    go_roundw
    case rel=>exact⟨k+1,A3,c3,A4,c4,by omega,by go_num,rfl,rfl,H35,H4,HNE2,hbw5⟩
    case measure=>simp[intOf];omega
  · obtain rfl:k=n:=by omega
    go_wp2_with fail
    go_ret2
    have hf:wear.take k=wear:=List.take_of_length_le (by rw[← HN.out];exact Nat.le_refl _)
    have h1:=H1.out.sl
    have h2:=H2.out.sl
    rw[hf] at h1 h2
    exact⟨A1,c1,A2,c2,rfl,h1,h2,hbr⟩
end
end
section
section
open Go.RowKit
set_option maxRecDepth 20000
set_option maxHeartbeats 2000000
structure RF (w:World) (q:FP) (S:FS):Prop where
 blk:Blk w q.p 74 (flC q S).toArray
 bs:Own w 0 5 1 (some ⟨q.gb,0,none⟩) S.b.length q.cb (S.b.map bv)
 ws:Own w 0 3 1 (some ⟨q.gw,0,none⟩) S.wear.length q.cw (S.wear.map iv)
 fit:FitF S
section
variable {w w':World} {q:FP} {S:FS}
theorem RF.keep (h:RF w q S) (hk:∀ g,q.F g→g < w.heap.size→w'.heap[g]? =w.heap[g]?):RF w' q S:=
 ⟨(hk q.p (.inl rfl) h.blk.lt).trans h.blk,h.bs.keep (fun g _ hlt hA=>hk g (by injection hA with hA;injection hA with hA;exact .inr (.inl hA.symm)) hlt),h.ws.keep (fun g _ hlt hA=>hk g (by injection hA with hA;injection hA with hA;exact .inr (.inr hA.symm)) hlt),h.fit⟩
theorem RF.below (h:RF w q S) (hb:Below w.heap.size w w'):RF w' q S:=h.keep fun g _ hlt=>hb.block g hlt
theorem RF.only {G:Nat→Prop} (h:RF w q S) (ho:zcj G w w') (hG:∀ g,q.F g→ ¬ G g):RF w' q S:=h.keep fun g hg hlt=>ho.block g hlt (hG g hg)
theorem RF.gb_lt (h:RF w q S):q.gb < w.heap.size:=by
 have:=h.fit.len
 have:=h.fit.wl
 obtain⟨g,hA,_,hlt⟩:= h.bs.at_ (by omega)
 injection hA with hA
 injection hA with hA
 rw[hA];exact hlt
theorem RF.gw_lt (h:RF w q S):q.gw < w.heap.size:=by
 obtain⟨g,hA,_,hlt⟩:= h.ws.at_ h.fit.wl
 injection hA with hA
 injection hA with hA
 rw[hA];exact hlt
theorem RF.pb (h:RF w q S):q.p≠q.gb:=by
 intro e
 have:=zcm h.blk h.bs (by decide)
 rw[e] at this
 exact this rfl
theorem RF.pw (h:RF w q S):q.p≠q.gw:=by
 intro e
 have:=zcm h.blk h.ws (by decide)
 rw[e] at this
 exact this rfl
theorem RF.lt (h:RF w q S):∀ g,q.F g→g < w.heap.size:=by
 rintro g (rfl | rfl | rfl)
 · exact h.blk.lt
 · exact h.gb_lt
 · exact h.gw_lt
theorem RF.byte (h:RF w q S) {j:Nat} (hj:j < S.b.length):w.cell? ⟨q.gb,j,none⟩=some (.int .u8 ((S.b.getD j 0).toNat:Nat))∧ w.frozen? ⟨q.gb,j,none⟩=false:=by
 obtain⟨g',u,hA',_,_,hu,hc,hf⟩:= h.bs.cell hj
 injection hA' with hA'
 injection hA' with hA'
 subst hA'
 rw[List.getElem?_map,List.getElem?_eq_getElem hj] at hu
 refine⟨?_,hf⟩
 rw[hc,← hu,List.getD_eq_getElem?_getD,List.getElem?_eq_getElem hj]
 rfl
theorem RF.wcell (h:RF w q S) {j:Nat} (hj:j < S.wear.length):w.cell? ⟨q.gw,j,none⟩=some (.int .i64 ((S.wear.getD j 0:Nat):Int))∧ w.frozen? ⟨q.gw,j,none⟩=false:=by
 obtain⟨g',u,hA',_,_,hu,hc,hf⟩:= h.ws.cell hj
 injection hA' with hA'
 injection hA' with hA'
 subst hA'
 rw[List.getElem?_map,List.getElem?_eq_getElem hj] at hu
 refine⟨?_,hf⟩
 rw[hc,← hu,List.getD_eq_getElem?_getD,List.getElem?_eq_getElem hj]
 rfl
theorem RF.c (h:RF w q S):(w.cell? ⟨q.p,0,none⟩=some (.slice (some ⟨q.gb,0,none⟩) S.b.length q.cb)∧ w.cell? ⟨q.p,1,none⟩=some (.slice (some ⟨q.gw,0,none⟩) S.wear.length q.cw)∧ w.cell? ⟨q.p,2,none⟩=some (.int .i64 S.most)∧
 w.cell? ⟨q.p,3,none⟩=some (.bool S.off)∧ w.cell? ⟨q.p,4,none⟩=some (.int .i64 S.ahead)∧ w.cell? ⟨q.p,5,none⟩=some (.int .u32 (S.mask:Nat))∧ w.cell? ⟨q.p,6,none⟩=some (.int .i64 (S.ops:Nat)))∧ ∀ i,w.frozen? ⟨q.p,i,none⟩=false:=
 ⟨⟨h.blk.cell 0 rfl,h.blk.cell 1 rfl,h.blk.cell 2 rfl,h.blk.cell 3 rfl,h.blk.cell 4 rfl,h.blk.cell 5 rfl,h.blk.cell 6 rfl⟩,h.blk.frozen⟩
theorem RF.reblk {S':FS} (h:RF w q S) (ho:zcj (fun g=>g=q.p) w w') (hB:Blk w' q.p 74 (flC q S').toArray) (h1:S'.b=S.b) (h2:S'.wear=S.wear) (hf:FitF S'):RF w' q S':=
 ⟨hB,by rw[h1];exact h.bs.keep (fun g _ hlt hA=>ho.block g hlt (by injection hA with hA;injection hA with hA;rw[← hA];exact fun e=>h.pb e.symm)),
   by rw[h2];exact h.ws.keep (fun g _ hlt hA=>ho.block g hlt (by injection hA with hA;injection hA with hA;rw[← hA];exact fun e=>h.pw e.symm)),hf⟩
theorem RF.setB (h:RF w q S) (j:Nat) (x:UInt8):RF (w.setCell ⟨q.gb,j,none⟩ (.int .u8 (x.toNat:Nat))) q { S with b:=S.b.set j x }:= by
 have hG:w.grownBy (w.setCell ⟨q.gb,j,none⟩ (.int .u8 (x.toNat:Nat))) (Value.ownBlock (.slice (some ⟨q.gb,0,none⟩) S.b.length q.cb)):= za9 (World.grownBy.refl _ _) (.inl rfl) j _
 refine⟨?_,?_,h.ws.grown hG (zcl h.ws h.bs (by decide)),⟨by simp only[List.length_set];exact h.fit.len,h.fit.wl,h.fit.wl8,h.fit.mask,h.fit.ah1,h.fit.ah2,h.fit.m1,h.fit.m2,h.fit.w⟩⟩
 · have:=h.blk.grown hG (zcm h.blk h.bs (by decide))
   have e:flC q { S with b:=S.b.set j x }=flC q S:=by unfold flC;simp only[List.length_set]
   rw[e]
   exact this
 · have:=h.bs.stored j (.int .u8 (x.toNat:Nat))
   simp only[List.length_set,List.map_set]
   exact this
theorem RF.setW (h:RF w q S) (j x:Nat) (hx:(x:Int)≤ S.most):RF (w.setCell ⟨q.gw,j,none⟩ (.int .i64 (x:Nat))) q { S with wear:=S.wear.set j x }:= by
 have hG:w.grownBy (w.setCell ⟨q.gw,j,none⟩ (.int .i64 (x:Nat))) (Value.ownBlock (.slice (some ⟨q.gw,0,none⟩) S.wear.length q.cw)):= za9 (World.grownBy.refl _ _) (.inl rfl) j _
 refine⟨?_,h.bs.grown hG (zcl h.bs h.ws (by decide)),?_,⟨by simp only[List.length_set];exact h.fit.len,by simp only[List.length_set];exact h.fit.wl,by simp only[List.length_set];exact h.fit.wl8,h.fit.mask,h.fit.ah1,h.fit.ah2,h.fit.m1,h.fit.m2,?_⟩⟩
 · have:=h.blk.grown hG (zcm h.blk h.ws (by decide))
   have e:flC q { S with wear:=S.wear.set j x }=flC q S:=by unfold flC;simp only[List.length_set]
   rw[e]
   exact this
 · have:=h.ws.stored j (.int .i64 (x:Nat))
   simp only[List.length_set,List.map_set]
   exact this
 · intro y hy
   rcases List.mem_or_eq_of_mem_set hy with hy | rfl
   · exact h.fit.w y hy
   · exact hx
end
end
section
open Go.RowKit
set_option maxRecDepth 20000
set_option maxHeartbeats 4000000
structure Live (S S':FS) (k:Nat):Prop where
 len:S'.b.length=S.b.length
 wl:S'.wear.length=S.wear.length
 most:S'.most=S.most
 off:S'.off=false
 ah:S'.ahead= -1
 ops:S'.ops≤S.ops+k
theorem zja (q:FP) (S:FS) (i:Nat) (w:World) (hD:RF w q S) (hi:i < S.wear.length) :
 Calls Tryz.prog 203 #[.pointer (some ⟨q.p,0,none⟩),.int .i64 (i:Nat)] w fun e w'=>e= .returned (.int .i64 (S.most - ((S.wear.getD i 0:Nat):Int)))∧ Below w.heap.size w w':=by
 obtain⟨⟨-,c1,c2,-⟩,-⟩:= hD.c
 obtain⟨cw,-⟩:= hD.wcell hi
 have hm1:=hD.fit.m1
 have hm2:=hD.fit.m2
 have h8:=hD.fit.wl8
 have hwm:((S.wear.getD i 0:Nat):Int)≤ S.most:=by
  refine hD.fit.w _ ?_
  rw[List.getD_eq_getElem?_getD,List.getElem?_eq_getElem hi]
  exact List.getElem_mem hi
 obtain⟨x,hx⟩:∃ x,x=S.wear.getD i 0:=⟨_,rfl⟩
 rw[← hx] at cw hwm ⊢
 obtain⟨most,hmo⟩:∃ m,m=S.most:=⟨_,rfl⟩
 rw[← hmo] at c2 hm1 hm2 hwm ⊢
 obtain⟨nw,hnw⟩:∃ m,m=S.wear.length:=⟨_,rfl⟩
 rw[← hnw] at c1 hi h8
 obtain⟨j1,j2,j3⟩:= zbr hi
 clear hD hx hmo hnw
 go_enter Tryz.func203,Tryz.ntmps203
 go_wp2_with fail
 go_quiet (fail)
 go_wp2_with fail
 go_ret
 exact⟨rfl,bl⟩
end
section
open Go.RowKit
set_option maxRecDepth 20000
set_option maxHeartbeats 4000000
theorem rmkF {w:World} {g gw cb cw k p:Nat} {l:List UInt8} {m:Int} (hB:Blk w p 74 #[.slice (some ⟨g,0,none⟩) l.length cb,.slice (some ⟨gw,0,none⟩) k cw,.int .i64 m,.bool false,.int .i64 (-1),.int .u32 0,.int .i64 0])
 (hb:Own w 0 5 1 (some ⟨g,0,none⟩) l.length cb (l.map bv)) (hw:Own w 0 3 1 (some ⟨gw,0,none⟩) k cw ((List.replicate k 0).map iv)) (hf:FitF (ofF l k m)):RF w ⟨p,g,gw,cb,cw⟩ (ofF l k m):= by
 refine⟨?_,hb,?_,hf⟩
 · have e:(flC ⟨p,g,gw,cb,cw⟩ (ofF l k m)).toArray= #[.slice (some ⟨g,0,none⟩) l.length cb,.slice (some ⟨gw,0,none⟩) k cw,.int .i64 m,.bool false,.int .i64 (-1),.int .u32 0,.int .i64 0]:= by simp[flC,ofF]
   rw[e]
   exact hB
 · simp only[ofF,List.length_replicate]
   exact hw
end
end
section
open Go.RowKit
set_option maxRecDepth 20000
set_option maxHeartbeats 4000000
attribute [local go_sem ↓] Go.wp_at_zero Go.wp_at_succ
def bestI (r:Nat×Bool):Int:=if r.2=true then (r.1:Int) else -1
theorem zjb (A:Option Addr) (n c:Nat) (L:List KV) (w:World) (hn:n=L.length) (hl:n≤35184372088) (hL:SlK w A L) :
 Calls Tryz.prog 171 #[.slice A n c] w fun e w'=>e= .returned (.tuple #[.int .i64 ((newestS L n).1:Nat),.bool (newestS L n).2])∧ Below w.heap.size w w':=by
 have HN:=zak hn
 clear hn
 have hz:=(fun (i:Nat) (h:(newestS L i).2=false)=> show (newestS L i).1=0 from by
  induction i with
  | zero=>rfl
  | succ i ih=>
    unfold newestS at h ⊢
    split
    · rename_i hh;rw[if_pos hh] at h;cases h
    · rename_i hh;rw[if_neg hh] at h;exact ih h)
 go_enter Tryz.func171,Tryz.ntmps171
 go_wp2_with fail
 go_loopw [4,5] (fun b i wr=> ∃ k,k≤n∧i= .int .i64 (k:Nat)∧ b= .int .i64 (bestI (newestS L k))∧ Below w.heap.size w wr) (fun _ i _=>n - (intOf i).toNat)
 case atStart=>exact⟨0,by omega,rfl,rfl,Below.refl _ _⟩
 case round=>
  obtain⟨k,hk,rfl,rfl,hbr⟩:= hrel
  obtain⟨at_,hat⟩:∃ a,a=(newestS L k).1:=⟨_,rfl⟩
  obtain⟨hs,hhs⟩:∃ h,h=(newestS L k).2:=⟨_,rfl⟩
  have hlta:=zfn L k
  have hzk:=hz k
  rw[show newestS L k=(at_,hs) from Prod.ext hat.symm hhs.symm] at hlta hzk ⊢
  by_cases hlt:k < n
  · obtain⟨v,hv⟩:∃ v,L[k]? =some v:=⟨L[k]'(by have:=HN.out;omega),List.getElem?_eq_getElem _⟩
    have hgk:L.getD k default=v:=by rw[List.getD_eq_getElem?_getD,hv];rfl
    obtain⟨b,off,rfl,c0,c1,c2,c3,c4,c5⟩:= (hL.below hbr) k v hv
    have HS:newestS L (k+1)=if (decide (0 < v.cnt) && (!hs || decide ((L.getD at_ default).m < v.m)))=true then (k,true) else (at_,hs):= by
     rw[newestS,hgk,← hat,← hhs]
     split
     · rfl
     · rw[hat,hhs]
    obtain⟨i1,i2,i3⟩:= zbr hlt
    by_cases h0:0 < v.cnt
    case neg=>
     have hd0:decide (0 < v.cnt)=false:=by simpa using h0
     have HS2:=zak (show newestS L (k+1)=(at_,hs) by rw[HS,hd0];rfl)
     have HV:=zak hv
     clear HS hgk hv hat hhs h0 hlta hz hzk
     go_wp2_with fail
     go_quiet (fail)
     go_wp2_with fail
     go_roundw
     case rel=>exact⟨k+1,by omega,by go_num,by rw[HS2.out],bl⟩
     case measure=>simp[intOf];omega
    have hd0:decide (0 < v.cnt)=true:=by simpa using h0
    cases hs with
    | false=>
      have HS2:=zak (show newestS L (k+1)=(k,true) by rw[HS,hd0];rfl)
      have hb:bestI (at_,false)= -1:=rfl
      rw[hb]
      clear HS hgk hv hat hhs h0 hlta hb hz hzk
      go_wp2_with fail
      go_quiet (fail)
      go_wp2_with fail
      go_roundw
      case rel=>exact⟨k+1,by omega,by go_num,by rw[HS2.out];rfl,bl⟩
      case measure=>simp[intOf];omega
    | true=>
      have hak:=hlta rfl
      have hb:bestI (at_,true)=(at_:Nat):= rfl
      rw[hb]
      obtain⟨u,hu⟩:∃ u,L[at_]? =some u:=⟨L[at_]'(by have:=HN.out;omega),List.getElem?_eq_getElem _⟩
      have hga:L.getD at_ default=u:=by rw[List.getD_eq_getElem?_getD,hu];rfl
      obtain⟨b2,off2,hA2,e0,e1,e2,e3,e4,e5⟩:= (hL.below hbr) at_ u hu
      injection hA2 with hA2
      injection hA2 with q1 q2
      subst q1
      subst q2
      have i1:(0:Int)≤ (at_:Int):= by omega
      have i2:(at_:Int) < (n:Int):= by omega
      have i3:at_ < n:=by omega
      by_cases hm:u.m < v.m
      · have hm':decide ((u.m:Int) < (v.m:Int))=true:=by simp;omega
        have hm'':decide (u.m < v.m)=true:=by simp;omega
        have HS2:=zak (show newestS L (k+1)=(k,true) by rw[HS,hd0,hga,hm''];rfl)
        clear HS hgk hga hv hu hat hhs h0 hlta hm hb hz hzk
        go_wp2_with fail
        go_quiet (fail)
        go_wp2_with fail
        go_roundw
        case rel=>exact⟨k+1,by omega,by go_num,by rw[HS2.out];rfl,bl⟩
        case measure=>simp[intOf];omega
      · have hm':decide ((u.m:Int) < (v.m:Int))=false:=by simp;omega
        have hm'':decide (u.m < v.m)=false:=by simp;omega
        have HS2:=zak (show newestS L (k+1)=(at_,true) by rw[HS,hd0,hga,hm''];rfl)
        clear HS hgk hga hv hu hat hhs h0 hlta hm hz hzk
        go_wp2_with fail
        go_quiet (fail)
        go_wp2_with fail
        go_roundw
        case rel=>exact⟨k+1,by omega,by go_num,by rw[HS2.out,hb],bl⟩
        case measure=>simp[intOf];omega
  · obtain rfl:k=n:=by omega
    have HA:=zak (And.intro hat hhs)
    cases hs with
    | false=>
      obtain rfl:=hzk rfl
      have hb:bestI (0,false)= -1:=rfl
      rw[hb]
      clear hat hhs hlta hz hzk hb
      go_wp2_with fail
      go_ret2
      exact⟨by rw[← HA.out.1,← HA.out.2];rfl,hbr⟩
    | true=>
      have hb:bestI (at_,true)=(at_:Nat):= rfl
      rw[hb]
      clear hat hhs hlta hz hzk hb
      go_wp2_with fail
      go_ret2
      exact⟨by rw[← HA.out.1,← HA.out.2];rfl,hbr⟩
theorem zjc (k:Int) (m:Nat) (sa:Option Addr) (sn sc:Nat) (cnt en:Int) (cl:Bool) (d:Int) (w:World) (h1: -4611686018427387904≤d) (h2:d≤4611686018427387904) :
 Calls Tryz.prog 202 #[.agg #[.int .i64 k,.int .u32 (m:Nat),.slice sa sn sc,.int .i64 cnt,.int .i64 en,.bool cl],.int .i64 d] w fun e w'=>e= .returned (.bool (cl && decide (0≤d∧d≤960∧0≤en∧en≤1011 - d)))∧ Below w.heap.size w w':=by
 have hb:=zbf (Below.refl w.heap.size w) (.cells #[.int .i64 k,.int .u32 (m:Nat),.slice sa sn sc,.int .i64 cnt,.int .i64 en,.bool cl] 230)
 have HB:=zak hb
 clear hb
 cases cl
 · go_enter Tryz.func202,Tryz.ntmps202
   go_wp2_with fail
   go_ret
   exact⟨rfl,HB.out⟩
 by_cases d1:0≤d
 case neg=>
  have e1:decide (0≤d)=false:=by simpa using d1
  have hr:decide (0≤d∧d≤960∧0≤en∧en≤1011 - d)=false:=by simp;omega
  have HR:=zak hr
  clear hr d1
  go_enter Tryz.func202,Tryz.ntmps202
  go_wp2_with fail
  go_ret
  exact⟨za1 (by rw[HR.out];rfl),HB.out⟩
 by_cases d2:d≤960
 case neg=>
  have e1:decide (d≤960)=false:=by simpa using d2
  have hr:decide (0≤d∧d≤960∧0≤en∧en≤1011 - d)=false:=by simp;omega
  have HR:=zak hr
  clear hr d2
  go_enter Tryz.func202,Tryz.ntmps202
  go_wp2_with fail
  go_ret
  exact⟨za1 (by rw[HR.out];rfl),HB.out⟩
 by_cases d3:0≤en
 case neg=>
  have e1:decide (0≤en)=false:=by simpa using d3
  have hr:decide (0≤d∧d≤960∧0≤en∧en≤1011 - d)=false:=by simp;omega
  have HR:=zak hr
  clear hr d3
  go_enter Tryz.func202,Tryz.ntmps202
  go_wp2_with fail
  go_ret
  exact⟨za1 (by rw[HR.out];rfl),HB.out⟩
 by_cases d4:en≤1024
 case neg=>
  have e1:decide (en≤1024)=false:=by simpa using d4
  have hr:decide (0≤d∧d≤960∧0≤en∧en≤1011 - d)=false:=by simp;omega
  have HR:=zak hr
  clear hr d4
  go_enter Tryz.func202,Tryz.ntmps202
  go_wp2_with fail
  go_ret
  exact⟨za1 (by rw[HR.out];rfl),HB.out⟩
 have hr:decide (0≤d∧d≤960∧0≤en∧en≤1011 - d)=decide (d+13≤1024 - en):= by rw[Bool.eq_iff_iff];simp;omega
 have HR:=zak hr
 clear hr
 go_enter Tryz.func202,Tryz.ntmps202
 go_wp2_with fail
 go_ret
 exact⟨za1 (by rw[HR.out];rfl),HB.out⟩
theorem zjd (A:Option Addr) (n c i:Nat) (xs:List Int) (w:World) (hn:n=xs.length) (hl:n≤35184372088) (hs:Sl w A (xs.map (Value.int .i64))) :
 Calls Tryz.prog 218 #[.slice A n c,.int .i64 (i:Nat)] w fun e w'=>e= .returned (.int .i64 (xs.getD i 0))∧ w=w':=by
 by_cases hi:n≤i
 · have HX:=zak (show xs.getD i 0=0 by rw[List.getD_eq_getElem?_getD,List.getElem?_eq_none (by omega)];rfl)
   clear hn
   go_enter Tryz.func218,Tryz.ntmps218
   go_wp2_with fail
   go_ret
   exact⟨za0 HX.out.symm,rfl⟩
 · obtain⟨b,off,rfl,hc⟩:= hs.at_ (j:=i) (u:= .int .i64 (xs[i]'(by omega))) (by rw[List.getElem?_map,List.getElem?_eq_getElem (by omega)];rfl)
   have HX:=zak (show xs.getD i 0=xs[i]'(by omega) by rw[List.getD_eq_getElem?_getD,List.getElem?_eq_getElem (by omega)];rfl)
   obtain⟨x,hx⟩:∃ x,x=xs[i]'(by omega):= ⟨_,rfl⟩
   rw[← hx] at hc HX
   clear hn hx
   have hlt:i < n:=by omega
   go_enter Tryz.func218,Tryz.ntmps218
   go_wp2_with fail
   go_ret
   exact⟨za0 HX.out.symm,rfl⟩
theorem zje (A A1 A2:Option Addr) (n c n1 c1 n2 c2:Nat) (L:List KV) (wear left:List Int) (w:World) (hn:n=L.length) (hl:n≤35184372088) (hL:SlK w A L)
 (hn1:n1=wear.length) (hl1:n1≤35184372088) (hs1:Sl w A1 (wear.map (Value.int .i64))) (hn2:n2=left.length) (hl2:n2≤35184372088) (hs2:Sl w A2 (left.map (Value.int .i64))) :
 Calls Tryz.prog 204 #[.slice A n c,.slice A1 n1 c1,.slice A2 n2 c2] w fun e w'=>
  e= .returned (.tuple #[.int .i64 ((nextS L wear left (newestS L n) n).1:Nat),.bool (nextS L wear left (newestS L n) n).2])∧ Below w.heap.size w w':=by
 obtain⟨nw,hnw⟩:∃ nw,nw=newestS L n:=⟨_,rfl⟩
 have HW:=zak (fun i W (h:Below w.heap.size w W)=> zjd A1 n1 c1 i wear W hn1 hl1 (hs1.below h))
 have HT:=zak (fun i W (h:Below w.heap.size w W)=> zjd A2 n2 c2 i left W hn2 hl2 (hs2.below h))
 have HNW:=zak (zjb A n c L w hn hl hL)
 rw[← hnw] at HNW ⊢
 obtain⟨na,nh⟩:= nw
 have HN:=zak hn
 clear hn hnw hn1 hn2
 go_enter Tryz.func204,Tryz.ntmps204
 go_wp2_with fail
 refine HNW.out.mono ?_
 rintro e w1 ⟨rfl,hb1⟩
 simp only[]
 go_wp2_with fail
 go_loopw [10,11,12] (fun b i _ wr=> ∃ k,k≤n∧i= .int .i64 (k:Nat)∧ b= .int .i64 (bestI (nextS L wear left (na,nh) k))∧ Below w.heap.size w wr) (fun _ i _ _=>n - (intOf i).toNat)
 case atStart=>exact⟨0,by omega,rfl,rfl,hb1⟩
 case round=>
  obtain⟨k,hk,rfl,rfl,hbr⟩:= hrel
  obtain⟨at_,hat⟩:∃ a,a=(nextS L wear left (na,nh) k).1:=⟨_,rfl⟩
  obtain⟨hs,hhs⟩:∃ h,h=(nextS L wear left (na,nh) k).2:=⟨_,rfl⟩
  have hpair:nextS L wear left (na,nh) k=(at_,hs):= Prod.ext hat.symm hhs.symm
  rw[hpair]
  by_cases hlt:k < n
  · obtain⟨v,hv⟩:∃ v,L[k]? =some v:=⟨L[k]'(by have:=HN.out;omega),List.getElem?_eq_getElem _⟩
    have hgk:L.getD k default=v:=by rw[List.getD_eq_getElem?_getD,hv];rfl
    obtain⟨b,off,rfl,c0,c1',c2',c3,c4,c5⟩:= (hL.below hbr) k v hv
    obtain⟨lk,hlk⟩:∃ x,x=left.getD k 0:=⟨_,rfl⟩
    obtain⟨wk,hwk⟩:∃ x,x=wear.getD k 0:=⟨_,rfl⟩
    obtain⟨wa,hwa⟩:∃ x,x=wear.getD at_ 0:=⟨_,rfl⟩
    have HLK:=zak (HT.out k)
    have HWK:=zak (HW.out k)
    have HWA:=zak (HW.out at_)
    rw[← hlk] at HLK
    rw[← hwk] at HWK
    rw[← hwa] at HWA
    have HS:=zak (show nextS L wear left (na,nh) (k+1)=if ((nh && decide (k=na)) || ((decide (v.cnt≠0) || !v.cl) && decide (lk≤0)))=true then (at_,hs) else if (!hs || decide (wk < wa))=true then (k,true) else (at_,hs) by
     rw[nextS,skipB,hgk,hpair,← hlk,← hwk,← hwa])
    have hnak:((k:Int) == (na:Int))=decide (k=na):= by rw[Bool.eq_iff_iff];simp;omega
    obtain⟨i1,i2,i3⟩:= zbr hlt
    clear hgk hv hat hhs hlk hwk hwa hpair
    have hcn:(v.cnt == 0)= !decide (v.cnt≠0):= by rw[Bool.eq_iff_iff];simp
    have hlk0:decide (0 < lk)= !decide (lk≤0):= by rw[Bool.eq_iff_iff];simp
    obtain⟨vk,vm,vsa,vsn,vsc,vcnt,ven,vcl⟩:= v
    simp only[] at *
    have hd1:decide (k=na)=true∨decide (k=na)=false:=by cases decide (k=na)<;> simp
    have hd2:decide (vcnt≠0)=true∨decide (vcnt≠0)=false:=by cases decide (vcnt≠0)<;> simp
    have hd3:decide (lk≤0)=true∨decide (lk≤0)=false:=by cases decide (lk≤0)<;> simp
    have hd4:decide (wk < wa)=true∨decide (wk < wa)=false:=by cases decide (wk < wa)<;> simp
    rcases hd1 with hd1 | hd1<;>rcases hd2 with hd2 | hd2<;>rcases hd3 with hd3 | hd3<;>rcases hd4 with hd4 | hd4<;>cases nh<;>cases vcl<;>cases hs
    all_goals
     rw[hd1] at HS hnak
     rw[hd2] at HS hcn
     rw[hd3] at HS hlk0
     rw[hd4] at HS
     simp only[Bool.false_and,Bool.true_and,Bool.or_false,Bool.or_true,Bool.false_or,Bool.true_or,Bool.not_true,Bool.not_false,if_true,if_false,Bool.false_eq_true] at HS hcn hlk0
     have hbF:bestI (at_,false)= -1:=rfl
     have hbT:bestI (at_,true)=(at_:Nat):= rfl
     try rw[hbF]
     try rw[hbT]
     clear hd1 hd2 hd3 hbF hbT
     go_wp2_with (first
      | (go_at_call 218;(with_reducible refine (HLK.out _ hbr).mono ?_);rintro e w2 ⟨rfl,rfl⟩)
      | (go_at_call 218;(with_reducible refine (HWK.out _ hbr).mono ?_);rintro e w2 ⟨rfl,rfl⟩)
      | (go_at_call 218;(with_reducible refine (HWA.out _ hbr).mono ?_);rintro e w2 ⟨rfl,rfl⟩))
     go_roundw
     case rel=>exact⟨k+1,by omega,by go_num,by rw[HS.out];rfl,hbr⟩
     case measure=>simp[intOf];omega
  · obtain rfl:k=n:=by omega
    have HA:=zak (show nextS L wear left (na,nh) k=(at_,hs) from hpair)
    have hz:=((zgm L wear left (na,nh) k).2)
    rw[hpair] at hz
    cases hs with
    | false=>
      obtain rfl:=(hz rfl).1
      have hb:bestI (0,false)= -1:=rfl
      rw[hb]
      clear hat hhs hpair hz hb
      go_wp2_with fail
      go_ret2
      exact⟨by rw[HA.out];rfl,hbr⟩
    | true=>
      have hb:bestI (at_,true)=(at_:Nat):= rfl
      rw[hb]
      clear hat hhs hpair hz hb
      go_wp2_with fail
      go_ret2
      exact⟨by rw[HA.out];rfl,hbr⟩
end
end Go.Proofs.YtehabbnohoomjaaGreatDoor
