/- None -/
import Derived.Test.YtehabbnohoomjaaGreatDoorP09
namespace Go.Proofs.YtehabbnohoomjaaGreatDoor
set_option linter.unusedVariables false
set_option linter.unusedSimpArgs false
set_option linter.unnecessarySimpa false
section
open Go.RowKit
set_option maxRecDepth 20000
set_option maxHeartbeats 2000000
theorem zhd {w:World} {p:Nat} (i:Nat) (v:Value):zcj (fun g=>g=p) w (w.setCell ⟨p,i,none⟩ v):= zcj.set (fun g=>g=p) (zcj.refl _ _) rfl v
theorem zhe {w:World} {p:Nat} (i j:Nat) (v u:Value):zcj (fun g=>g=p) w ((w.setCell ⟨p,i,none⟩ v).setCell ⟨p,j,none⟩ u):= zcj.set (fun g=>g=p) (zhd i v) rfl u
def iv (x:Nat):Value:= .int .i64 (x:Nat)
structure FP where
 p:Nat
 gb:Nat
 gw:Nat
 cb:Nat
 cw:Nat
def FP.F (q:FP):Nat→Prop:=fun g=>g=q.p∨g=q.gb∨g=q.gw
def flC (q:FP) (S:FS):List Value:= [.slice (some ⟨q.gb,0,none⟩) S.b.length q.cb,.slice (some ⟨q.gw,0,none⟩) S.wear.length q.cw,.int .i64 S.most,.bool S.off,.int .i64 S.ahead,.int .u32 (S.mask:Nat),.int .i64 (S.ops:Nat)]
structure FitF (S:FS):Prop where
 len:S.b.length=1024 * S.wear.length
 wl:1≤S.wear.length
 wl8:S.wear.length≤8
 mask:U32 S.mask
 ah1: -1≤S.ahead
 ah2:S.ahead≤9223372036854775807
 m1:0≤S.most
 m2:S.most≤9223372036854775807
 w:∀ x ∈ S.wear,(x:Int)≤ S.most
structure FD (w:World) (q:FP) (S:FS):Prop where
 blk:Blk w q.p 117 (flC q S).toArray
 bs:Own w 0 5 1 (some ⟨q.gb,0,none⟩) S.b.length q.cb (S.b.map bv)
 ws:Own w 0 3 1 (some ⟨q.gw,0,none⟩) S.wear.length q.cw (S.wear.map iv)
 fit:FitF S
section
variable {w w':World} {q:FP} {S:FS}
theorem FD.keep (h:FD w q S) (hk:∀ g,q.F g→g < w.heap.size→w'.heap[g]? =w.heap[g]?):FD w' q S:=
 ⟨(hk q.p (.inl rfl) h.blk.lt).trans h.blk,h.bs.keep (fun g _ hlt hA=>hk g (by injection hA with hA;injection hA with hA;exact .inr (.inl hA.symm)) hlt),h.ws.keep (fun g _ hlt hA=>hk g (by injection hA with hA;injection hA with hA;exact .inr (.inr hA.symm)) hlt),h.fit⟩
theorem FD.below (h:FD w q S) (hb:Below w.heap.size w w'):FD w' q S:=h.keep fun g _ hlt=>hb.block g hlt
theorem FD.only {G:Nat→Prop} (h:FD w q S) (ho:zcj G w w') (hG:∀ g,q.F g→ ¬ G g):FD w' q S:=h.keep fun g hg hlt=>ho.block g hlt (hG g hg)
theorem FD.gb_lt (h:FD w q S):q.gb < w.heap.size:=by
 have:=h.fit.len
 have:=h.fit.wl
 obtain⟨g,hA,_,hlt⟩:= h.bs.at_ (by omega)
 injection hA with hA
 injection hA with hA
 rw[hA];exact hlt
theorem FD.gw_lt (h:FD w q S):q.gw < w.heap.size:=by
 obtain⟨g,hA,_,hlt⟩:= h.ws.at_ h.fit.wl
 injection hA with hA
 injection hA with hA
 rw[hA];exact hlt
theorem FD.pb (h:FD w q S):q.p≠q.gb:=by
 intro e
 have:=zcm h.blk h.bs (by decide)
 rw[e] at this
 exact this rfl
theorem FD.pw (h:FD w q S):q.p≠q.gw:=by
 intro e
 have:=zcm h.blk h.ws (by decide)
 rw[e] at this
 exact this rfl
theorem FD.lt (h:FD w q S):∀ g,q.F g→g < w.heap.size:=by
 rintro g (rfl | rfl | rfl)
 · exact h.blk.lt
 · exact h.gb_lt
 · exact h.gw_lt
theorem FD.byte (h:FD w q S) {j:Nat} (hj:j < S.b.length):w.cell? ⟨q.gb,j,none⟩=some (.int .u8 ((S.b.getD j 0).toNat:Nat))∧ w.frozen? ⟨q.gb,j,none⟩=false:=by
 obtain⟨g',u,hA',_,_,hu,hc,hf⟩:= h.bs.cell hj
 injection hA' with hA'
 injection hA' with hA'
 subst hA'
 rw[List.getElem?_map,List.getElem?_eq_getElem hj] at hu
 refine⟨?_,hf⟩
 rw[hc,← hu,List.getD_eq_getElem?_getD,List.getElem?_eq_getElem hj]
 rfl
theorem FD.wcell (h:FD w q S) {j:Nat} (hj:j < S.wear.length):w.cell? ⟨q.gw,j,none⟩=some (.int .i64 ((S.wear.getD j 0:Nat):Int))∧ w.frozen? ⟨q.gw,j,none⟩=false:=by
 obtain⟨g',u,hA',_,_,hu,hc,hf⟩:= h.ws.cell hj
 injection hA' with hA'
 injection hA' with hA'
 subst hA'
 rw[List.getElem?_map,List.getElem?_eq_getElem hj] at hu
 refine⟨?_,hf⟩
 rw[hc,← hu,List.getD_eq_getElem?_getD,List.getElem?_eq_getElem hj]
 rfl
theorem FD.c (h:FD w q S):(w.cell? ⟨q.p,0,none⟩=some (.slice (some ⟨q.gb,0,none⟩) S.b.length q.cb)∧ w.cell? ⟨q.p,1,none⟩=some (.slice (some ⟨q.gw,0,none⟩) S.wear.length q.cw)∧ w.cell? ⟨q.p,2,none⟩=some (.int .i64 S.most)∧
 w.cell? ⟨q.p,3,none⟩=some (.bool S.off)∧ w.cell? ⟨q.p,4,none⟩=some (.int .i64 S.ahead)∧ w.cell? ⟨q.p,5,none⟩=some (.int .u32 (S.mask:Nat))∧ w.cell? ⟨q.p,6,none⟩=some (.int .i64 (S.ops:Nat)))∧ ∀ i,w.frozen? ⟨q.p,i,none⟩=false:=
 ⟨⟨h.blk.cell 0 rfl,h.blk.cell 1 rfl,h.blk.cell 2 rfl,h.blk.cell 3 rfl,h.blk.cell 4 rfl,h.blk.cell 5 rfl,h.blk.cell 6 rfl⟩,h.blk.frozen⟩
theorem FD.reblk {S':FS} (h:FD w q S) (ho:zcj (fun g=>g=q.p) w w') (hB:Blk w' q.p 117 (flC q S').toArray) (h1:S'.b=S.b) (h2:S'.wear=S.wear) (hf:FitF S'):FD w' q S':=
 ⟨hB,by rw[h1];exact h.bs.keep (fun g _ hlt hA=>ho.block g hlt (by injection hA with hA;injection hA with hA;rw[← hA];exact fun e=>h.pb e.symm)),
   by rw[h2];exact h.ws.keep (fun g _ hlt hA=>ho.block g hlt (by injection hA with hA;injection hA with hA;rw[← hA];exact fun e=>h.pw e.symm)),hf⟩
theorem FD.setB (h:FD w q S) (j:Nat) (x:UInt8):FD (w.setCell ⟨q.gb,j,none⟩ (.int .u8 (x.toNat:Nat))) q { S with b:=S.b.set j x }:= by
 have hG:w.grownBy (w.setCell ⟨q.gb,j,none⟩ (.int .u8 (x.toNat:Nat))) (Value.ownBlock (.slice (some ⟨q.gb,0,none⟩) S.b.length q.cb)):= za9 (World.grownBy.refl _ _) (.inl rfl) j _
 refine⟨?_,?_,h.ws.grown hG (zcl h.ws h.bs (by decide)),⟨by simp only[List.length_set];exact h.fit.len,h.fit.wl,h.fit.wl8,h.fit.mask,h.fit.ah1,h.fit.ah2,h.fit.m1,h.fit.m2,h.fit.w⟩⟩
 · have:=h.blk.grown hG (zcm h.blk h.bs (by decide))
   have e:flC q { S with b:=S.b.set j x }=flC q S:=by unfold flC;simp only[List.length_set]
   rw[e]
   exact this
 · have:=h.bs.stored j (.int .u8 (x.toNat:Nat))
   simp only[List.length_set,List.map_set]
   exact this
theorem FD.setW (h:FD w q S) (j x:Nat) (hx:(x:Int)≤ S.most):FD (w.setCell ⟨q.gw,j,none⟩ (.int .i64 (x:Nat))) q { S with wear:=S.wear.set j x }:= by
 have hG:w.grownBy (w.setCell ⟨q.gw,j,none⟩ (.int .i64 (x:Nat))) (Value.ownBlock (.slice (some ⟨q.gw,0,none⟩) S.wear.length q.cw)):= za9 (World.grownBy.refl _ _) (.inl rfl) j _
 refine⟨?_,h.bs.grown hG (zcl h.bs h.ws (by decide)),?_,⟨by simp only[List.length_set];exact h.fit.len,by simp only[List.length_set];exact h.fit.wl,by simp only[List.length_set];exact h.fit.wl8,h.fit.mask,h.fit.ah1,h.fit.ah2,h.fit.m1,h.fit.m2,?_⟩⟩
 · have:=h.blk.grown hG (zcm h.blk h.ws (by decide))
   have e:flC q { S with wear:=S.wear.set j x }=flC q S:=by unfold flC;simp only[List.length_set]
   rw[e]
   exact this
 · have:=h.ws.stored j (.int .i64 (x:Nat))
   simp only[List.length_set,List.map_set]
   exact this
 · intro y hy
   rcases List.mem_or_eq_of_mem_set hy with hy | rfl
   · exact h.fit.w y hy
   · exact hx
end
end
section
open Go.RowKit
set_option maxRecDepth 20000
set_option maxHeartbeats 4000000
section
variable (q:FP) (S:FS) (w:World)
theorem zhf (i:Nat) (hD:FD w q S):Calls Tryz.prog 220 #[.pointer (some ⟨q.p,0,none⟩),.int .i64 (i:Nat)] w fun e w'=>e= .returned (.bool (decide (i < S.wear.length)))∧ w=w':=by
 obtain⟨⟨c0,c1,c2,c3,c4,c5,c6⟩,-⟩:= hD.c
 obtain⟨N,hN⟩:∃ n,n=S.wear.length:=⟨_,rfl⟩
 have h8:=hD.fit.wl8
 rw[← hN] at c1 h8 ⊢
 clear hD hN
 by_cases h:i < N
 · have h':(i:Int) < (N:Int):= by omega
   go_enter Tryz.func220,Tryz.ntmps220
   go_wp2_with fail
   go_ret
   exact⟨za1 (by simp[h]),rfl⟩
 · have h': ¬ (i:Int) < (N:Int):= by omega
   go_enter Tryz.func220,Tryz.ntmps220
   go_wp2_with fail
   go_ret
   exact⟨za1 (by simp[h]),rfl⟩
theorem zhg (i:Nat) (hD:FD w q S) (hi:i < S.wear.length):Calls Tryz.prog 210 #[.pointer (some ⟨q.p,0,none⟩),.int .i64 (i:Nat)] w fun e w'=>e= .returned (.int .i64 ((S.wear.getD i 0:Nat):Int))∧ w=w':=by
 have HT:=zak (zhf q S w i hD)
 rw[show decide (i < S.wear.length)=true by simp[hi]] at HT
 obtain⟨⟨c0,c1,c2,c3,c4,c5,c6⟩,-⟩:= hD.c
 obtain⟨cw,-⟩:= hD.wcell hi
 obtain⟨N,hN⟩:∃ n,n=S.wear.length:=⟨_,rfl⟩
 obtain⟨x,hx⟩:∃ x,x=S.wear.getD i 0:=⟨_,rfl⟩
 rw[← hN] at c1 hi
 rw[← hx] at cw ⊢
 have i2:(i:Int) < (N:Int):= by omega
 clear hD hN hx
 go_enter Tryz.func210,Tryz.ntmps210
 go_wp2_with fail
 refine HT.out.mono ?_
 rintro e w1 ⟨rfl,rfl⟩
 go_wp2_with fail
 go_ret
 exact⟨rfl,rfl⟩
theorem zhh (i:Nat) (hD:FD w q S) (hi:i < S.wear.length):Calls Tryz.prog 211 #[.pointer (some ⟨q.p,0,none⟩),.int .i64 (i:Nat)] w fun e w'=>e= .returned (.int .i64 (S.most - ((S.wear.getD i 0:Nat):Int)))∧ Below w.heap.size w w':=by
 have HT:=zak (zhf q S w i hD)
 rw[show decide (i < S.wear.length)=true by simp[hi]] at HT
 obtain⟨⟨c0,c1,c2,c3,c4,c5,c6⟩,-⟩:= hD.c
 obtain⟨cw,-⟩:= hD.wcell hi
 obtain⟨N,hN⟩:∃ n,n=S.wear.length:=⟨_,rfl⟩
 have hle:((S.wear.getD i 0:Nat):Int)≤ S.most:=hD.fit.w _ (by rw[List.getD_eq_getElem?_getD,List.getElem?_eq_getElem hi];exact List.getElem_mem _)
 obtain⟨x,hx⟩:∃ x,x=S.wear.getD i 0:=⟨_,rfl⟩
 obtain⟨M,hM⟩:∃ x,x=S.most:=⟨_,rfl⟩
 have m2:=hD.fit.m2
 rw[← hN] at c1 hi
 rw[← hM] at c2 hle m2 ⊢
 rw[← hx] at cw hle ⊢
 have i2:(i:Int) < (N:Int):= by omega
 clear hD hN hx hM
 go_enter Tryz.func211,Tryz.ntmps211
 go_wp2_with fail
 refine HT.out.mono ?_
 rintro e w1 ⟨rfl,rfl⟩
 go_wp2_with fail
 go_quiet (fail)
 go_wp2_with fail
 go_ret
 exact⟨rfl,zb8 (Below.refl _ _) _⟩
theorem zhi (hD:FD w q S):Calls Tryz.prog 79 #[.pointer (some ⟨q.p,0,none⟩)] w fun e w'=>e= .returned (.int .i64 ((S.wear.length:Nat):Int))∧ w=w':=by
 obtain⟨⟨c0,c1,c2,c3,c4,c5,c6⟩,-⟩:= hD.c
 clear hD
 go_enter Tryz.func79,Tryz.ntmps79
 go_wp2_with fail
 go_ret
 exact⟨rfl,rfl⟩
theorem zhj (hD:FD w q S):Calls Tryz.prog 78 #[.pointer (some ⟨q.p,0,none⟩)] w fun e w'=>e= .returned (.bool (!S.off))∧ w=w':=by
 obtain⟨⟨c0,c1,c2,c3,c4,c5,c6⟩,-⟩:= hD.c
 obtain⟨off,ho⟩:∃ x,x=S.off:=⟨_,rfl⟩
 rw[← ho] at c3 ⊢
 clear hD ho
 go_enter Tryz.func78,Tryz.ntmps78
 go_wp2_with fail
 go_ret
 exact⟨rfl,rfl⟩
theorem zhk (n m:Nat) (hD:FD w q S) (hn:n≤9223372036854775807) (hm:U32 m):Calls Tryz.prog 28 #[.pointer (some ⟨q.p,0,none⟩),.int .i64 (n:Nat),.int .u32 (m:Nat)] w fun e w'=>e= .returned (.int .i64 0)∧ FD w' q { S with ahead:=(n:Nat),mask:=m }∧ zcj (fun g=>g=q.p) w w':=by
 obtain⟨⟨c0,c1,c2,c3,c4,c5,c6⟩,hfz⟩:= hD.c
 have f4:=hfz 4
 have f5:=hfz 5
 have HD:=zak hD
 have HM:=zak hm
 clear hD hfz hm
 go_enter Tryz.func28,Tryz.ntmps28
 go_wp2_with fail
 go_ret
 have hF:=HD.out.fit
 exact⟨rfl,FD.reblk HD.out (zhe _ _ _ _) (by
  have h1:=HD.out.blk.set_ 4 (.int .i64 (n:Nat))
  rw[List.setIfInBounds_toArray] at h1
  have h2:=h1.set_ 5 (.int .u32 (m:Nat))
  rw[List.setIfInBounds_toArray] at h2
  exact h2) rfl rfl ⟨hF.len,hF.wl,hF.wl8,HM.out,by simp only[];omega,by simp only[];omega,hF.m1,hF.m2,hF.w⟩,zcj.set _ (zhd _ _) rfl _⟩
theorem zhl (hD:FD w q S):Calls Tryz.prog 29 #[.pointer (some ⟨q.p,0,none⟩)] w fun e w'=>e= .returned (.tuple #[])∧ FD w' q { S with off:=false }∧ zcj (fun g=>g=q.p) w w':=by
 obtain⟨⟨c0,c1,c2,c3,c4,c5,c6⟩,hfz⟩:= hD.c
 have f3:=hfz 3
 have HD:=zak hD
 clear hD hfz
 go_enter Tryz.func29,Tryz.ntmps29
 go_wp2_with fail
 go_end0
 have hF:=HD.out.fit
 exact⟨rfl,FD.reblk HD.out (zhd _ _) (by
  have h1:=HD.out.blk.set_ 3 (.bool false)
  rw[List.setIfInBounds_toArray] at h1
  exact h1) rfl rfl ⟨hF.len,hF.wl,hF.wl8,hF.mask,hF.ah1,hF.ah2,hF.m1,hF.m2,hF.w⟩,zhd _ _⟩
theorem zhm (hD:FD w q S):Calls Tryz.prog 33 #[.pointer (some ⟨q.p,0,none⟩)] w fun e w'=> ∃ A c,e= .returned (.slice A S.b.length c)∧ zcd w' w.heap.size A S.b.length c S.b∧Below w.heap.size w w':=by
 obtain⟨⟨c0,c1,c2,c3,c4,c5,c6⟩,-⟩:= hD.c
 have hl:S.b.length≤8192:=by have:=hD.fit.len;have:=hD.fit.wl8;omega
 have HS:=zak hD.bs.sl
 obtain⟨L,hL⟩:∃ L,L=S.b:=⟨_,rfl⟩
 rw[← hL] at c0 hl HS ⊢
 obtain⟨N,hN⟩:∃ N,N=L.length:=⟨_,rfl⟩
 have HN:=zak hN
 rw[← hN] at c0 hl ⊢
 clear hD hL hN
 go_enter Tryz.func33,Tryz.ntmps33
 go_wp2_with (at_builtin;refine zce _ rfl _ _ rfl w.heap.size none 0 0 [] rfl (zcd.nil _ _) (some ⟨q.gb,0,none⟩) N q.cb L (by rfl) HN.out HS.out (by omega) (Nat.le_refl _) N (by omega) ?_;intro A3 c3' w3 hown3 _ _ hb3)
 go_ret
 exact⟨_,_,rfl,by simpa using hown3,hb3⟩
end
end
section
open Go.RowKit
set_option maxRecDepth 20000
set_option maxHeartbeats 2000000
theorem zhn {l A:List UInt8} {k:Nat} (x:UInt8) (h:k+A.length < l.length):(put l k A).set (k+A.length) x=put l k (A ++ [x]):= by
 rw[zgu _ (by rw[zfs (by omega)];omega),zgt (by simp;omega)]
theorem zho {S S':FS} (h:FitF S) (h1:S'.b.length=S.b.length) (h2:S'.wear=S.wear) (h3:S'.mask=S.mask) (h4:S'.most=S.most) (h5:S'.ahead=S.ahead∨S'.ahead=decA S.ahead∨S'.ahead= -1):FitF S':=by
 refine⟨by rw[h1,h2];exact h.len,by rw[h2];exact h.wl,by rw[h2];exact h.wl8,by rw[h3];exact h.mask,?_,?_,by rw[h4];exact h.m1,by rw[h4];exact h.m2,by rw[h2,h4];exact h.w⟩
 · have:=h.ah1
   rcases h5 with h5 | h5 | h5<;>rw[h5]
   · exact this
   · unfold decA;split<;>omega
   · omega
 · have:=h.ah2
   rcases h5 with h5 | h5 | h5<;>rw[h5]
   · exact this
   · unfold decA;split<;>omega
   · omega
theorem zhp (q:FP) (S:FS) (i n:Nat) (w:World) (hD:FD w q S) (hi:i < S.wear.length) (hn:n≤1024) :
 Calls Tryz.prog 213 #[.pointer (some ⟨q.p,0,none⟩),.int .i64 (i:Nat),.int .i64 (n:Nat)] w fun e w'=>e= .returned (.tuple #[])∧ FD w' q { S with b:=put S.b (1024 * i) (List.replicate n 255) }∧ zcj (fun g=>g=q.gb) w w':=by
 have HD:=zak hD
 have h8:=hD.fit.wl8
 have HL:=zak hD.fit.len
 have HI:=zak hi
 clear hD
 have hi8:i≤7:=by omega
 clear hi h8
 obtain⟨fr,hfr⟩:∃ fr,fr=1024 * i:=⟨_,rfl⟩
 have hfi:((i:Int) * 1024)=((fr:Nat):Int):= by omega
 have hf7:fr≤7168:=by omega
 have HFR:=zak hfr
 clear hfr
 go_enter Tryz.func213,Tryz.ntmps213
 go_wp2_with fail
 go_loopw [7] (fun j wr=> ∃ k,k≤n∧j= .int .i64 ((fr:Int)+(k:Int))∧ Hid (FD wr q { S with b:=put S.b fr (List.replicate k 255) })∧ Hid (zcj (fun g=>g=q.gb) w wr)) (fun j _=>fr+n - (intOf j).toNat)
 case atStart=>exact⟨0,by omega,by simp,zak (by rw[List.replicate_zero,zfu];exact HD.out),zak (zcj.refl _ _)⟩
 case round=>
  obtain⟨k,hk,rfl,HDr,HOr⟩:= hrel
  by_cases hlt:k < n
  · have hpl:(put S.b fr (List.replicate k 255)).length=S.b.length:=zfs (by have:=HL.out;have:=HI.out;have:=HFR.out;simp;omega)
    have hb:=HDr.out.byte (j:=fr+k) (by simp only[];rw[hpl];have:=HL.out;have:=HI.out;have:=HFR.out;omega)
    have hlen:fr+k < S.b.length:=by have:=HL.out;have:=HI.out;have:=HFR.out;omega
    obtain⟨⟨c0,-⟩,-⟩:= HDr.out.c
    simp only[] at c0
    rw[hpl] at c0
    have f0:=hb.2
    have i1:((fr:Int)+(k:Int)).toNat=fr+k:=by omega
    have i2:(0:Int)≤ (fr:Int)+(k:Int):= by omega
    have i3:(fr:Int)+(k:Int) < (S.b.length:Int):= by omega
    have b0:=hb.1
    have HLT:=zak hlen
    clear hpl hb hlen
    go_wp2_with fail
    have hset:=HDr.out.setB (fr+k) 255
    have he:(put S.b fr (List.replicate k 255)).set (fr+k) 255=put S.b fr (List.replicate (k+1) 255):= by
     have:=zhn (l:=S.b) (A:=List.replicate k 255) (k:=fr) 255 (by rw[List.length_replicate];exact HLT.out)
     rw[List.length_replicate] at this
     rw[this,List.replicate_succ']
    simp only[] at hset
    rw[he] at hset
    have HDn:=zak hset
    have HOn:=zak (HOr.out.set _ (p:=q.gb) (i:=fr+k) rfl (.int .u8 255))
    go_roundw
    case rel=>exact⟨k+1,by omega,by go_num,HDn,HOn⟩
    case measure=>simp[intOf];omega
  · obtain rfl:k=n:=by omega
    go_wp2_with fail
    go_end0
    exact⟨rfl,by rw[← HFR.out];exact HDr.out,HOr.out⟩
theorem zhq (q:FP) (S:FS) (i:Nat) (w:World) (hD:FD w q S) (hi:i < S.wear.length) :
 Calls Tryz.prog 193 #[.pointer (some ⟨q.p,0,none⟩),.int .i64 (i:Nat)] w fun e w'=>e= .returned (.tuple #[])∧ FD w' q { S with b:=put S.b (1024 * i) (List.replicate 1024 255) }∧ zcj (fun g=>g=q.gb) w w':=by
 have H0:=zhp q S i 1024 w hD hi (Nat.le_refl _)
 generalize ({ S with b:=put S.b (1024 * i) (List.replicate 1024 255) }:FS)=S' at H0 ⊢
 have H:=zak H0
 clear H0
 go_enter Tryz.func193,Tryz.ntmps193
 go_wp2_with fail
 refine H.out.mono ?_
 rintro e w1 ⟨rfl,h1,h2⟩
 have HH:=zak (And.intro h1 h2)
 clear h1 h2
 go_wp2_with fail
 go_end0
 exact⟨rfl,HH.out⟩
theorem zhr (q:FP) (S:FS) (i:Nat) (w:World) (hD:FD w q S) (hi:i < S.wear.length) :
 Calls Tryz.prog 194 #[.pointer (some ⟨q.p,0,none⟩),.int .i64 (i:Nat)] w fun e w'=>e= .returned (.tuple #[])∧ FD w' q { S with b:=put S.b (1024 * i) (List.replicate (S.mask % 1025) 255) }∧ zcj (fun g=>g=q.gb) w w':=by
 have H0:=zhp q S i (S.mask % 1025) w hD hi (by omega)
 generalize ({ S with b:=put S.b (1024 * i) (List.replicate (S.mask % 1025) 255) }:FS)=S' at H0 ⊢
 have H:=zak H0
 clear H0
 have hm:=hD.fit.mask
 obtain⟨⟨-,-,-,-,-,c5,-⟩,-⟩:= hD.c
 obtain⟨m,hmm⟩:∃ m,m=S.mask:=⟨_,rfl⟩
 rw[← hmm] at c5 hm
 rw[← hmm] at H
 have hm':m≤4294967295:=by unfold U32 at hm;omega
 clear hmm hm hD
 go_enter Tryz.func194,Tryz.ntmps194
 go_wp2_with fail
 have e1:((m:Int) % 1025)=((m % 1025:Nat):Int):= by omega
 try rw[e1]
 clear e1
 refine H.out.mono ?_
 rintro e w1 ⟨rfl,h1,h2⟩
 have HH:=zak (And.intro h1 h2)
 clear h1 h2
 go_wp2_with fail
 go_end0
 exact⟨rfl,HH.out⟩
end
section
open Go.RowKit
set_option maxRecDepth 20000
set_option maxHeartbeats 4000000
theorem infoI:(Tryz.prog.info? 3).map (fun i=>(i.zero,i.size,i.bytes))=some (some (.int .i64 0),1,8):= by kernel_rfl
theorem zhs {o:Oper} {a:Act} {K:Act→World→Prop} {Q:Exit→Act→World→Prop} {w:World} (l cc:Operand) (ho:o.op=Op.makeSlice 72 l cc) (kl kc:IntKind) (n:Nat) (hl:a.eval l= .int kl (n:Nat)) (hc:a.eval cc= .int kc (n:Nat)) (hb:n≤100000)
 (h:∀ w',Own w' w.heap.size 3 1 (some ⟨w.heap.size,0,none⟩) n n ((List.replicate n 0).map iv)→ Below w.heap.size w w'→K (a.put o.dst (.slice (some ⟨w.heap.size,0,none⟩) n n)) w'):Oper.wp Tryz.prog o a w K Q:=by
 obtain⟨i,hi,hz,hsize,hby⟩:= info_parts infoI
 have hr:=run_make (P:=Tryz.prog) w 72 3 i (.int .i64 0) Tryz.underlying72 hi hz kl kc n n (by omega) (by omega) (by rw[hby];omega) (by omega)
 simp only[Int.toNat_natCast,hsize,Nat.mul_one] at hr
 unfold Oper.wp execOp
 simp only[ho,hl,hc,hr,Sem.run_bind,Result.andThen_ok]
 have hmc:(madeCells (Value.int .i64 0).cells n)=(List.replicate n (Value.int .i64 0)).toArray:=by
  apply Array.ext'
  simp[madeCells,Value.cells]
  apply List.ext_getElem
  · simp
  · intro k h1 h2
    simp[Nat.mod_one]
 refine h _ ⟨by simp,.inr ⟨w.heap.size,n,_,rfl,Nat.le_refl _,heap_alloc_new w _,Nat.le_refl _,by unfold maxLen;omega,by simp[size_madeCells,Value.cells],?_⟩⟩ (Below.alloc (Below.refl _ _) (Nat.le_refl _) _)
 rw[hmc]
 simp[iv]
theorem zht {o:Oper} {a:Act} {K:Act→World→Prop} {Q:Exit→Act→World→Prop} {w:World} (s x:Operand) (ho:o.op= .call { callee:= .builtin .append,args:= #[s,x],argTypes:= #[23,23] })
 (hs:a.eval s= .slice none 0 0) (A2:Option Addr) (m c2:Nat) (l2:List UInt8) (hx:a.eval x= .slice A2 m c2) (hm:m=l2.length) (hm0:0 < m) (hr:Sl w A2 (l2.map bv)) (hb:m≤140737488355328)
 (h:∀ g c' w',zcd w' w.heap.size (some ⟨g,0,none⟩) m c' l2→w.heap.size≤g→Below w.heap.size w w'→K (a.put o.dst (.slice (some ⟨g,0,none⟩) m c')) w'):Oper.wp Tryz.prog o a w K Q:=by
 obtain⟨i0,hi0,hz0,hz1,hz2⟩:= info_parts zcb
 obtain⟨A',c',w',hr',h2,h3,h4⟩:= za3 (P:=Tryz.prog) w w.heap.size 23 o.type 5 i0 _ 1 1 Tryz.underlying23 hi0 hz0 hz1 hz2 rfl (by omega) none 0 0 _ (zcd.nil _ _).own A2 m c2 (l2.map bv) (by simp[hm]) hr (za7 _) (by unfold maxLen;omega) (by omega) (Nat.le_refl _)
 rw[Nat.zero_add] at hr' h2
 unfold Oper.wp execOp
 simp only[ho,resolve,invoke,builtin,Sem.run_bind,Sem.run_pure,Result.andThen_ok,List.map_toArray,List.map_cons,List.map_nil,hs,hx,hr']
 obtain⟨g,rfl,hg1,hg2⟩:= h2.at_ hm0
 exact h g c' w' ⟨hm,h2⟩ hg1 (za2 (zcd.nil w w.heap.size).own (Nat.le_refl _) h3)
def ofF (l:List UInt8) (n:Nat) (m:Int):FS:=⟨l,List.replicate n 0,m,false,-1,0,0⟩
def FNewR (S:FS) (w:World) (e:Ending) (w':World):Prop:= ∃ q:FP,e= .returned (.pointer (some ⟨q.p,0,none⟩))∧ FD w' q S∧(∀ g,q.F g→w.heap.size≤g)∧ Below w.heap.size w w'
theorem zhu {l:List UInt8} {n:Nat} {m:Int} (hl:l.length=1024 * n) (h1:1≤n) (h8:n≤8) (hm:1≤m) (hm2:m≤9223372036854775807):FitF (ofF l n m):= by
 refine⟨by simp[ofF,hl],by simp[ofF,h1],by simp[ofF,h8],by show (0:Nat) < _;decide,by simp[ofF],by simp[ofF],by simp only[ofF];omega,by simp only[ofF];omega,?_⟩
 intro x hx
 simp only[ofF,List.mem_replicate] at hx
 simp only[ofF]
 omega
theorem mkF {w:World} {g gw cb cw k:Nat} {l:List UInt8} {m:Int} (hb:Own w 0 5 1 (some ⟨g,0,none⟩) l.length cb (l.map bv)) (hw:Own w 0 3 1 (some ⟨gw,0,none⟩) k cw ((List.replicate k 0).map iv)) (hf:FitF (ofF l k m)) :
 FD (w.alloc (.cells #[.slice (some ⟨g,0,none⟩) l.length cb,.slice (some ⟨gw,0,none⟩) k cw,.int .i64 m,.bool false,.int .i64 (-1),.int .u32 0,.int .i64 0] 117)) ⟨w.heap.size,g,gw,cb,cw⟩ (ofF l k m):= by
 have h1:=zbm w 117 #[.slice (some ⟨g,0,none⟩) l.length cb,.slice (some ⟨gw,0,none⟩) k cw,.int .i64 m,.bool false,.int .i64 (-1),.int .u32 0,.int .i64 0]
 refine⟨?_,hb.alloc _,?_,hf⟩
 · have e:(flC ⟨w.heap.size,g,gw,cb,cw⟩ (ofF l k m)).toArray= #[.slice (some ⟨g,0,none⟩) l.length cb,.slice (some ⟨gw,0,none⟩) k cw,.int .i64 m,.bool false,.int .i64 (-1),.int .u32 0,.int .i64 0]:= by simp[flC,ofF]
   rw[e]
   exact h1
 · have:=hw.alloc (.cells #[.slice (some ⟨g,0,none⟩) l.length cb,.slice (some ⟨gw,0,none⟩) k cw,.int .i64 m,.bool false,.int .i64 (-1),.int .u32 0,.int .i64 0] 117)
   simp only[ofF,List.length_replicate]
   exact this
theorem zhv (A:Option Addr) (n c:Nat) (l:List UInt8) (k:Nat) (m:Int) (w:World) (hn:n=l.length) (hk:n=1024 * k) (h1:1≤k) (h8:k≤8) (hm:1≤m) (hm2:m≤9223372036854775807) (hs:Sl w A (l.map bv)) :
 Calls Tryz.prog 38 #[.slice A n c,.int .i64 m] w (FNewR (ofF l k m) w):= by
 have HN:=zak hn
 have HS:=zak hs
 have HK:=zak hk
 have e1:((n:Int) / 1024)=((k:Nat):Int):= by omega
 have e2:IntKind.i64.wrap ((k:Int) * 1024)=((n:Nat):Int):= by rw[IntKind.wrap_i64];omega
 have e3:((k:Int) * 1024)=((n:Nat):Int):= by omega
 have e4:IntKind.i64.wrap ((n:Int) / 1024)=((k:Nat):Int):= by rw[IntKind.wrap_i64];omega
 have hf:=zhu (l:=l) (m:=m) (by omega) h1 h8 hm hm2
 have HF:=zak hf
 have hn0:0 < n:=by omega
 have hnb:n≤8192:=by omega
 clear hn hs hk hf
 go_enter Tryz.func38,Tryz.ntmps38
 go_wp2_with fail
 refine wp_region_held_drew (S:=(fun w'=>Below w.heap.size w w')) (by kernel_rfl) ?hS1 (fun hHeld=>?rest1)
 case hS1=>((try dsimp only);(exact zb9 (Below.refl _ _)))
 case' rest1=>skip
 refine tkH 0 ?_
 try simp only[PqL,Act.put]
 refine tkH 2 ?_
 try simp only[PqL,Act.put]
 refine tkH 4 ?_
 try simp only[PqL,Act.put]
 refine wpAnyH_ready (rs:= [1,3]) (by kernel_rfl) (by simp) (AllReadyH.cons (o:=_) rfl (fun K hK=>?_) (AllReadyH.cons (o:=_) rfl (fun K hK=>?_) .nil))
 · rw[if_pos (show Region.wanted _ _=true by kernel_rfl)]
   refine zht _ _ rfl (by rfl) A n c l (by rfl) HN.out hn0 HS.out.drew (by omega) ?_
   intro g c' w1 hO1 hg1 hb1
   have hbw1:Below w.heap.size w w1:=⟨hb1.os,hb1.tape,hb1.output,hb1.size,hb1.block⟩
   refine hK.out _ _ ?hS6 (fun hHeld=>?rest6)
   case hS6=>((try dsimp only);(exact hbw1))
   case' rest6=>(clear hK K;try simp only[PqL,Act.put])
   refine wpAnyH_ready (rs:= [3]) (by kernel_rfl) (by simp) ?_
   refine AllReadyH.cons (o:=_) rfl (fun K hK=>?_) .nil
   rw[if_pos (show Region.wanted _ _=true by kernel_rfl)]
   refine zhs _ _ rfl .i64 .i64 k (by rfl) (by rfl) (by omega) ?_
   intro w2 hO2 hb2
   have hbw2:=zbd hb2 hbw1
   refine hK.out _ _ ?hS9 (fun hHeld=>?rest9)
   case hS9=>((try dsimp only);(exact hbw2))
   case' rest9=>(clear hK K;try simp only[PqL,Act.put])
   refine tkH 5 ?_
   try simp only[PqL,Act.put]
   refine wpAnyH_ready (rs:= [6]) (by kernel_rfl) (by simp) ?_
   refine AllReadyH.cons (o:=_) rfl (fun K hK=>?_) .nil
   go_simp
   refine hK.out _ _ ?hS13 (fun hHeld=>?rest13)
   case hS13=>((try dsimp only);(exact (zbf hbw2 _)))
   case' rest13=>(clear hK K;try simp only[PqL,Act.put])
   refine tkH 7 ?_
   try simp only[PqL,Act.put]
   refine wpAnyH_done (by kernel_rfl) ?_ _
   have hEnd:=hHeld.2
   repeat (clear hHeld)
   go_wp2_with fail
   go_ret
   have hn:=HN.out
   subst hn
   refine⟨⟨w2.heap.size,g,w1.heap.size,c',k⟩,rfl,mkF ((hO1.own.below hb2).mono (Nat.zero_le _)) (hO2.mono (Nat.zero_le _)) HF.out,?_,zbf hbw2 _⟩
   rintro x (rfl | rfl | rfl)
   · exact hbw2.size
   · exact hg1
   · exact hbw1.size
 · rw[if_pos (show Region.wanted _ _=true by kernel_rfl)]
   refine zhs _ _ rfl .i64 .i64 k (by rfl) (by rfl) (by omega) ?_
   intro w1 hO1 hb1
   have hbw1:Below w.heap.size w w1:=⟨hb1.os,hb1.tape,hb1.output,hb1.size,hb1.block⟩
   refine hK.out _ _ ?hS16 (fun hHeld=>?rest16)
   case hS16=>((try dsimp only);(exact hbw1))
   case' rest16=>(clear hK K;try simp only[PqL,Act.put])
   refine wpAnyH_ready (rs:= [1]) (by kernel_rfl) (by simp) ?_
   refine AllReadyH.cons (o:=_) rfl (fun K hK=>?_) .nil
   rw[if_pos (show Region.wanted _ _=true by kernel_rfl)]
   refine zht _ _ rfl (by rfl) A n c l (by rfl) HN.out hn0 (HS.out.below hbw1) (by omega) ?_
   intro g c' w2 hO2 hg2 hb2
   have hbw2:=zbd hb2 hbw1
   refine hK.out _ _ ?hS19 (fun hHeld=>?rest19)
   case hS19=>((try dsimp only);(exact hbw2))
   case' rest19=>(clear hK K;try simp only[PqL,Act.put])
   refine tkH 5 ?_
   try simp only[PqL,Act.put]
   refine wpAnyH_ready (rs:= [6]) (by kernel_rfl) (by simp) ?_
   refine AllReadyH.cons (o:=_) rfl (fun K hK=>?_) .nil
   go_simp
   refine hK.out _ _ ?hS23 (fun hHeld=>?rest23)
   case hS23=>((try dsimp only);(exact (zbf hbw2 _)))
   case' rest23=>(clear hK K;try simp only[PqL,Act.put])
   refine tkH 7 ?_
   try simp only[PqL,Act.put]
   refine wpAnyH_done (by kernel_rfl) ?_ _
   have hEnd:=hHeld.2
   repeat (clear hHeld)
   go_wp2_with fail
   go_ret
   have hn:=HN.out
   subst hn
   refine⟨⟨w2.heap.size,g,w.heap.size,c',k⟩,rfl,mkF (hO2.own.mono (Nat.zero_le _)) ((hO1.below hb2).mono (Nat.zero_le _)) HF.out,?_,zbf hbw2 _⟩
   rintro x (rfl | rfl | rfl)
   · exact hbw2.size
   · exact Nat.le_trans hbw1.size hg2
   · exact Nat.le_refl _
def fillL (n k:Nat):List UInt8:=List.replicate k 255 ++ List.replicate (n - k) 0
theorem zhw {n k:Nat} (h:k≤n):(fillL n k).length=n:=by unfold fillL;simp;omega
theorem zhx {n k:Nat} (h:k < n):(fillL n k).set k 255=fillL n (k+1):= by
 unfold fillL
 apply List.ext_getElem?
 intro j
 rw[List.getElem?_set,List.length_append,List.length_replicate,List.length_replicate]
 by_cases h1:k=j
 · subst h1
   rw[if_pos rfl,if_pos (by omega),List.getElem?_append_left (by rw[List.length_replicate];omega),List.getElem?_replicate,if_pos (by omega)]
 · rw[if_neg h1]
   by_cases h2:j < k
   · rw[List.getElem?_append_left (by rw[List.length_replicate];omega),List.getElem?_append_left (by rw[List.length_replicate];omega),List.getElem?_replicate,List.getElem?_replicate,if_pos h2,if_pos (by omega)]
   · rw[List.getElem?_append_right (by rw[List.length_replicate];omega),List.getElem?_append_right (by rw[List.length_replicate];omega),List.getElem?_replicate,List.getElem?_replicate,List.length_replicate,List.length_replicate]
     by_cases h3:j < n
     · rw[if_pos (by omega),if_pos (by omega)]
     · rw[if_neg (by omega),if_neg (by omega)]
theorem zhy (k:Nat) (m:Int) (w:World) (h1:1≤k) (h8:k≤8) (hm:1≤m) (hm2:m≤9223372036854775807) :
 Calls Tryz.prog 19 #[.int .i64 (k:Nat),.int .i64 m] w (FNewR (ofF (List.replicate (k * 1024) 255) k m) w):= by
 obtain⟨n,hn⟩:∃ n,n=k * 1024:=⟨_,rfl⟩
 have e3:((k:Int) * 1024)=((n:Nat):Int):= by omega
 have hnb:n≤8192:=by omega
 have HN:=zak hn
 rw[← hn]
 obtain⟨R,hR⟩:∃ R:List UInt8,R=List.replicate n 255:=⟨_,rfl⟩
 have HR:=zak hR
 rw[← hR]
 clear hn hR
 go_enter Tryz.func19,Tryz.ntmps19
 go_wp2_with (at_make;refine mk_b _ rfl _ _ rfl _ _ _ _ n n rfl rfl rfl rfl (Nat.le_refl _) (by omega) w.heap.size rfl ?_;intro w1 hO1 hz1 hb1)
 have HO1:Hid (zcd w1 w.heap.size (some ⟨w.heap.size,0,none⟩) n n (fillL n 0)):= zak (by
  have e:fillL n 0=List.replicate n 0:=by unfold fillL;simp
  rw[e];exact hO1)
 clear hO1
 go_loopw [6,18] (fun _ i wr=> ∃ j,j≤n∧i= .int .i64 (j:Nat)∧ Hid (zcd wr w.heap.size (some ⟨w.heap.size,0,none⟩) n n (fillL n j))∧ Below w.heap.size w wr) (fun _ i _=>n - (intOf i).toNat)
 case atStart=>exact⟨0,by omega,rfl,HO1,hb1⟩
 case round=>
  obtain⟨j,hj,rfl,HO,hbr⟩:= hrel
  by_cases hlt:j < n
  · obtain⟨g',u,hA',_,_,_,hcj,hfj⟩:= HO.out.own.cell hlt
    injection hA' with hA'
    injection hA' with hA'
    subst hA'
    obtain⟨i1,i2,i3⟩:= zbr hlt
    go_wp2_with fail
    have hs:=HO.out.own.stored j (.int .u8 255)
    have HO2:Hid (zcd (wr.setCell ⟨w.heap.size,j,none⟩ (.int .u8 255)) w.heap.size (some ⟨w.heap.size,0,none⟩) n n (fillL n (j+1))):= zak ⟨by rw[zhw (by omega)],by
     rw[← zhx hlt,List.map_set]
     exact hs⟩
    have hb2:=zbp hbr (p:=⟨w.heap.size,j,none⟩) (Nat.le_refl _) (.int .u8 255)
    go_roundw
    case rel=>exact⟨j+1,by omega,by go_num,HO2,hb2⟩
    case measure=>simp[intOf];omega
  · obtain rfl:j=n:=by omega
    have e:fillL j j=R:=by rw[HR.out];unfold fillL;simp
    have HO2:=HO.out
    rw[e] at HO2
    have HO3:=zak HO2
    clear HO2 e
    go_wp2_with fail
    refine (zhv (some ⟨w.heap.size,0,none⟩) j j R k m _ (by rw[HR.out,List.length_replicate]) (by have:=HN.out;omega) h1 h8 hm hm2 HO3.out.sl).mono ?_
    rintro e w2 ⟨q,rfl,h2,h3,h4⟩
    have HH:=zak (And.intro h2 (And.intro h3 h4))
    clear h2 h3 h4
    go_wp2_with fail
    go_ret
    exact (⟨q,rfl,HH.out.1,fun g hg=>Nat.le_trans hbr.size (HH.out.2.1 g hg),zbd HH.out.2.2 hbr⟩:FNewR _ _ _ _)
end
end Go.Proofs.YtehabbnohoomjaaGreatDoor
