/- None -/
import Derived.Test.YtehabbnohoomjaaGreatDoorP14
namespace Go.Proofs.YtehabbnohoomjaaGreatDoor
set_option linter.unusedVariables false
set_option linter.unusedSimpArgs false
set_option linter.unnecessarySimpa false
section
section
open Go.RowKit
set_option maxRecDepth 20000
set_option maxHeartbeats 4000000
theorem zjo:(Tryz.prog.info? 230).map (fun i=>(i.zero,i.size,i.bytes))=some (some (.agg #[.int .i64 0,.int .u32 0,.slice none 0 0,.int .i64 0,.int .i64 0,.bool false]),6,64):= by kernel_rfl
abbrev OwnRLk (w:World) (F:Nat→Prop) (A:Option Addr) (n c:Nat) (L:List LK) (ds:List (Option Addr×Nat)):Prop:=zcq lkF 6 230 LK.d w F A n c L ds
theorem zcq.rslk {w:World} {F:Nat→Prop} {A:Option Addr} {n c:Nat} {L:List LK} {ds:List (Option Addr×Nat)} (h:OwnRLk w F A n c L ds):SlK w A (kvs L ds):= by
 intro j v hv
 obtain⟨x,d,hx,hd,rfl⟩:= zim _ _ _ _ hv
 obtain⟨g,hA,hlt,hc⟩:= h.cells zii hx hd (by omega)
 exact⟨g,0,hA,by rw[Nat.zero_add];exact hc 0 _ rfl,by rw[Nat.zero_add];exact hc 1 _ rfl,by rw[Nat.zero_add];exact hc 2 _ rfl,by rw[Nat.zero_add];exact hc 3 _ rfl,by rw[Nat.zero_add];exact hc 4 _ rfl,by rw[Nat.zero_add];exact hc 5 _ rfl⟩
theorem zjp {w:World} {F:Nat→Prop} {A:Option Addr} {n c:Nat} {L:List LK} {ds:List (Option Addr×Nat)} (h:OwnRLk w F A n c L ds) {k:Nat} {x:LK} (hx:L[k]? =some x):∃ g d,A=some ⟨g,0,none⟩∧ g < w.heap.size∧ds[k]? =some d∧zcd w 0 d.1 x.d.length d.2 x.d∧k < n∧
 (w.cell? ⟨g,k * 6,none⟩=some (.int .i64 x.k)∧ w.cell? ⟨g,k * 6+1,none⟩=some (.int .u32 (x.m:Nat))∧ w.cell? ⟨g,k * 6+2,none⟩=some (.slice d.1 x.d.length d.2)∧
 w.cell? ⟨g,k * 6+3,none⟩=some (.int .i64 (x.cnt:Nat))∧ w.cell? ⟨g,k * 6+4,none⟩=some (.int .i64 (x.en:Nat))∧ w.cell? ⟨g,k * 6+5,none⟩=some (.bool x.cl))∧ F g∧FIn F d.1:=by
 obtain⟨d,hd,hO,hFd⟩:= h.elem hx
 obtain⟨g,hA,hlt,hc⟩:= h.cells zii hx hd (by omega)
 exact⟨g,d,hA,hlt,hd,hO,by rw[h.hn];exact (List.getElem?_eq_some_iff.1 hx).1,⟨hc 0 _ rfl,hc 1 _ rfl,hc 2 _ rfl,hc 3 _ rfl,hc 4 _ rfl,hc 5 _ rfl⟩,h.inF g hA,hFd⟩
def RLooksR (S:FS) (w:World) (e:Ending) (w':World):Prop:= ∃ A c ds,e= .returned (.slice A S.wear.length c)∧ OwnRLk w' (fun g=>w.heap.size≤g) A S.wear.length c (looksF S) ds∧Below w.heap.size w w'
theorem zjq (q:FP) (S:FS) (w:World) (hD:RF w q S):Calls Tryz.prog 170 #[.pointer (some ⟨q.p,0,none⟩)] w (RLooksR S w):= by
 have HD:=zak hD
 have HFIT:=zak hD.fit
 have h8:=hD.fit.wl8
 obtain⟨ns,hns⟩:∃ ns,ns=S.wear.length:=⟨_,rfl⟩
 obtain⟨nb,hnb⟩:∃ nb,nb=S.b.length:=⟨_,rfl⟩
 have hlen:=hD.fit.len
 have HNS:=zak hns
 have HNB:=zak hnb
 rw[← hns] at h8
 have hnb2:nb=1024 * ns:=by omega
 have hcb:=hD.bs.le
 rw[← hnb] at hcb
 obtain⟨⟨c0,c1,-⟩,-⟩:= hD.c
 rw[← hnb] at c0
 rw[← hns] at c1
 have zp:q.p < w.heap.size:=hD.blk.lt
 obtain⟨i0,hi0,hz0,hz1,hz2⟩:= info_parts zjo
 have HI:=zak (And.intro hi0 (And.intro hz0 (And.intro hz1 hz2)))
 clear hD hns hnb hlen hi0 hz0 hz1 hz2
 go_enter Tryz.func170,Tryz.ntmps170
 go_wp2_with fail
 go_loopw [3,4] (fun v i wr=> ∃ k A c ds,k≤ns∧i= .int .i64 (k:Nat)∧ v= .slice A k c∧Hid (OwnRLk wr (fun g=>w.heap.size≤g) A k c ((looksF S).take k) ds)∧ Hid (Below w.heap.size w wr)) (fun _ i _=>ns - (intOf i).toNat)
 case atStart=>exact⟨0,none,0,[],by omega,rfl,rfl,zak (zcq.nil _ _),zak (Below.refl _ _)⟩
 case round=>
  obtain⟨k,A,c,ds,hk,rfl,rfl,HJ,HBr⟩:= hrel
  have d0:=(HBr.out.cell (p:=⟨q.p,0,none⟩) zp).trans c0
  have d1:=(HBr.out.cell (p:=⟨q.p,1,none⟩) zp).trans c1
  by_cases hlt:k < ns
  · have HSN:=zak (zi0 S (k:=k) (by rw[← HNS.out];exact hlt))
    have hcA:cutA (some ⟨q.gb,0,none⟩) q.cb (1024 * k) 1=some ⟨q.gb,1024 * k,none⟩:= by
     unfold cutA
     rw[if_neg (by omega)]
     simp[Addr.add]
     intro h
     omega
    have hsl:Sl wr (some ⟨q.gb,1024 * k,none⟩) ((secB S.b k).map bv):= by
     have h1:=((HD.out.below HBr.out).bs.sl.cut1 (k:=1024 * k) (c:=q.cb) (by rw[List.length_map,← HNB.out];exact hcb)).take 1024
     rw[← List.map_drop,← List.map_take,hcA] at h1
     exact h1
    have hsec:(secB S.b k).length=1024:=zfx (by have:=HNB.out;have:=HFIT.out.len;have:=HNS.out;omega)
    have hof:=zjf (some ⟨q.gb,1024 * k,none⟩) 1024 (q.cb - 1024 * k) (secB S.b k) wr hsec.symm (by omega) (by omega) hsl
    have HFX:=zak (show (lookL (secB S.b k)).d.length≤2000 from (zis (secB S.b k) (by omega)).d)
    obtain⟨x,hx⟩:∃ x,x=lookL (secB S.b k):= ⟨_,rfl⟩
    rw[← hx] at hof HSN HFX
    have HOF:=zak hof
    obtain⟨fr,hfr⟩:∃ fr,fr=1024 * k:=⟨_,rfl⟩
    have hcb2: ¬ q.cb=fr:=by omega
    rw[← hfr] at HOF
    have e1:(k:Int) * 1024=((fr:Nat):Int):= by omega
    have hfb:fr≤8192:=by omega
    clear hx hsl hsec hof hfr hcA
    go_wp2_with fail
    refine HOF.out.mono ?_
    rintro e w2 ⟨A2,n2,c2,rfl,hO2,hb2⟩
    obtain rfl:n2=x.d.length:=hO2.hn
    have HO2:=zak hO2
    have HB2:=zak (zbd hb2 HBr.out)
    have HJ2:=zak (HJ.out.below hb2)
    have hz2:=hb2.size
    have hzr:=HBr.out.size
    clear hO2 hb2
    go_wp2_with (at_builtin;refine zcr _ rfl _ _ 227 rfl zii zij (by decide) i0 _ 64 Tryz.underlying227 HI.out.1 HI.out.2.1 HI.out.2.2.1 HI.out.2.2.2 rfl (by omega) (by omega) A k c ((looksF S).take k) ds rfl (HJ2.out.below (zbf (Below.refl _ _) _)) x (A2,c2) _ rfl (by exact (zbm _ _ _).sl) ((HO2.out.alloc _).mono (Nat.zero_le _)) (HO2.out.own.fin.mono (fun g h=>by have:=h.1;omega)) (fun g h=>by simp at h;omega) (by omega) (k+1) rfl ?_;intro A4 c4 w4 hO4 hg4 hr4;have HH4:=zak (And.intro hO4 hg4);clear hO4 hg4 hr4)
    obtain⟨hO4,hg4⟩:= HH4.out
    rw[← HSN.out] at hO4
    have HJN:=zak hO4
    have hbA:=zbf HB2.out (.cells #[.int .i64 x.k,.int .u32 (x.m:Nat),.slice A2 x.d.length c2,.int .i64 (x.cnt:Nat),.int .i64 (x.en:Nat),.bool x.cl] 230)
    have HBN:=zak (hbA.grown hg4 hbA.size (fun g hg=>by
     rcases HJ.out.own.shape with ⟨h1,_⟩ | ⟨g',h1,_,h2⟩
     · rw[h1] at hg;simp[Value.ownBlock] at hg
     · have h3:=HJ.out.inF g' h1
       rw[h1] at hg;simp[Value.ownBlock] at hg;omega))
    go_roundw
    case rel=>exact⟨k+1,A4,c4,_,by omega,by go_num,rfl,HJN,HBN⟩
    case measure=>simp[intOf];omega
  · obtain rfl:k=ns:=by omega
    have hfull:(looksF S).take k=looksF S:=List.take_of_length_le (by rw[zgx,← HNS.out];exact Nat.le_refl _)
    have hJ:=HJ.out
    rw[hfull] at hJ
    have HJF:=zak hJ
    clear hfull hJ
    go_wp2_with fail
    go_ret
    have hns:=HNS.out
    subst hns
    exact (⟨A,c,ds,rfl,HJF.out,HBr.out⟩:RLooksR S w _ _)
end
section
open Go.RowKit
set_option maxRecDepth 20000
set_option maxHeartbeats 4000000
theorem zjr {w:World} {B e size n c:Nat} {A:Option Addr} {xs:List Value} (h:Own w 0 e size A n c xs) (hF:FIn (fun g=>B≤g) A):Own w B e size A n c xs:=by
 obtain⟨h1,h2⟩:= h
 refine⟨h1,?_⟩
 rcases h2 with h2 | ⟨g,k,cs,hA,_,h3⟩
 · exact .inl h2
 · refine .inr ⟨g,k,cs,hA,?_,h3⟩
   injection hA with hA
   exact hF g hA
def rjC (pf:Nat) (kd:Int) (num:Nat) (A:Option Addr) (n c:Nat) (has:Bool) (sec:Nat) (dead:Bool):List Value:= [.pointer (some ⟨pf,0,none⟩),.int .i64 kd,.int .u32 (num:Nat),.slice A n c,.bool has,.int .i64 (sec:Nat),.bool dead]
def rjS (pf:Nat) (S:FS) (A:Option Addr) (c:Nat) (dead:Bool):List Value:=rjC pf (recS S).1 (recS S).2.1 A (recS S).2.2.length c (newL (looksF S)).2 (newL (looksF S)).1 dead
def RTellR (q:FP) (S:FS) (r:Nat) (dead:Bool) (w:World) (e:Ending) (w':World):Prop:=
 ∃ A c,e= .returned (.tuple #[])∧ Blk w' r 166 (rjS q.p S A c dead).toArray∧zcd w' w.heap.size A (recS S).2.2.length c (recS S).2.2∧zcj (fun g=>g=r) w w'
theorem zjs (q:FP) (S:FS) (r:Nat) (kd:Int) (num:Nat) (A:Option Addr) (n c:Nat) (has:Bool) (sec:Nat) (dead:Bool) (w:World) (hD:RF w q S) (hB:Blk w r 166 (rjC q.p kd num A n c has sec dead).toArray) :
 Calls Tryz.prog 144 #[.pointer (some ⟨r,0,none⟩)] w (RTellR q S r dead w):= by
 have HLO:=zak (zjq q S w hD)
 have h8:=hD.fit.wl8
 obtain⟨ns,hns⟩:∃ ns,ns=S.wear.length:=⟨_,rfl⟩
 have HNS:=zak hns
 have HB:=zak hB
 have z0:=hB.lt
 unfold rjC at hB
 have c0:=hB.cell 0 (u:= .pointer (some ⟨q.p,0,none⟩)) rfl
 rw[← hns] at h8
 clear hD hB hns
 go_enter Tryz.func144,Tryz.ntmps144
 go_wp2_with fail
 refine HLO.out.mono ?_
 rintro e w1 ⟨A1,c1,ds,rfl,hO1,hb1⟩
 rw[← HNS.out] at hO1 ⊢
 have hne:=zjb A1 ns c1 (kvs (looksF S) ds) w1 (by rw[zil _ _ hO1.hd,← hO1.hn]) (by omega) hO1.rslk
 have hnn:=ziq (looksF S) ds hO1.hd
 rw[show (looksF S).length=ns by rw[zgx,← HNS.out]] at hnn
 rw[hnn] at hne
 have HNE:=zak hne
 have HO1:=zak hO1
 have HB1:=zak hb1
 have HBK1:=zak (HB.out.below hb1 HB.out.lt)
 clear hne hnn hO1 hb1
 go_wp2_with fail
 refine HNE.out.mono ?_
 rintro e w2 ⟨rfl,hb2⟩
 have HBK2:=zak (HBK1.out.below hb2 HBK1.out.lt)
 have HO2:=zak (HO1.out.below hb2)
 have HB2:=zak (zbd hb2 HB1.out)
 have q2:=HBK2.out
 unfold rjC at q2
 obtain⟨q2_c0,q2_c1,q2_c2,q2_c3,q2_c4,q2_c5,q2_c6⟩:= cel7 q2
 have q2_f:=q2.frozen
 clear hb2 q2
 cases hh:(newL (looksF S)).2
 · have hz:(newL (looksF S)).1=0:=by
    rcases zgq (looksF S) with ⟨a,ha⟩ | ha
    · rw[ha] at hh;cases hh
    · rw[ha]
   have hr:recS S=(0,0,[]):= by unfold recS;rw[hh];rfl
   rw[hz]
   have HX:=zak (And.intro hh (And.intro hz hr))
   clear hh hz hr
   go_wp2_with fail
   go_end0
   unfold RTellR
   refine⟨none,0,rfl,?_,by rw[HX.out.2.2];exact zcd.nil _ _,?_⟩
   · unfold rjS
     rw[HX.out.2.2,HX.out.1,HX.out.2.1]
     exact zhz (zhz (zhz (zhz (zhz HBK2.out 4 (.bool false)) 5 (.int .i64 0)) 1 (.int .i64 0)) 2 (.int .u32 0)) 3 (.slice none 0 0)
   · exact (zcj.of_below (F:=fun g=>g=r) HB2.out).trans (zcj.set (fun g=>g=r) (zcj.set (fun g=>g=r) (zcj.set (fun g=>g=r) (zcj.set (fun g=>g=r) (zcj.set (fun g=>g=r) (zcj.refl _ _) rfl _) rfl _) rfl _) rfl _) rfl _) (fun _ _ h=>h)
 · obtain⟨a,ha⟩:∃ a,a=(newL (looksF S)).1:=⟨_,rfl⟩
   have hat:newL (looksF S)=(a,true):= Prod.ext ha.symm hh
   have hna:=zgo.1 hat
   obtain⟨x,hx⟩:∃ x,(looksF S)[a]? =some x:=⟨_,List.getElem?_eq_getElem hna.1⟩
   have hgx:(looksF S).getD a lookZ=x:=by rw[List.getD_eq_getElem?_getD,hx];rfl
   have hr:recS S=(x.k,x.m,x.d):= by unfold recS;rw[hat];simp only[if_true];rw[hgx]
   obtain⟨g,d,hA,hg,hd,hO,hlt,⟨e0,e1,e2,e3,e4,e5⟩,hF,hFd⟩:= zjp HO2.out hx
   rw[← ha]
   subst hA
   obtain⟨i1,i2,i3⟩:= zbr hlt
   have n1: ¬ g=r:=by intro e;omega
   have n2: ¬ r=g:=by intro e;omega
   have HX:=zak (And.intro hat hr)
   have HO:=zak hO
   have HFD:=zak hFd
   obtain⟨xk,xm,xd,xcnt,xen,xcl⟩:= x
   dsimp only at e0 e1 e2 e3 e4 e5 HX HO
   clear hh ha hat hna hx hgx hr hO hFd hF hd
   go_wp2_with fail
   go_end0
   have hob:zcj (fun g=>g=r) w2 ((((((((w2.setCell ⟨r,4,none⟩ (.bool true)).setCell ⟨r,5,none⟩ (.int .i64 (a:Nat))).setCell ⟨r,1,none⟩ (.int .i64 0)).setCell ⟨r,2,none⟩ (.int .u32 0)).setCell ⟨r,3,none⟩ (.slice none 0 0)).setCell ⟨r,1,none⟩ (.int .i64 xk)).setCell ⟨r,2,none⟩ (.int .u32 (xm:Nat))).setCell ⟨r,3,none⟩ (.slice d.1 xd.length d.2)):=
    zcj.set (fun g=>g=r) (zcj.set (fun g=>g=r) (zcj.set (fun g=>g=r) (zcj.set (fun g=>g=r) (zcj.set (fun g=>g=r) (zcj.set (fun g=>g=r) (zcj.set (fun g=>g=r) (zcj.set (fun g=>g=r) (zcj.refl _ _) rfl _) rfl _) rfl _) rfl _) rfl _) rfl _) rfl _) rfl _
   unfold RTellR
   refine⟨d.1,d.2,rfl,?_,?_,(zcj.of_below (F:=fun g=>g=r) HB2.out).trans hob (fun _ _ h=>h)⟩
   · unfold rjS
     rw[HX.out.2,HX.out.1]
     exact zhz (zhz (zhz (zhz (zhz (zhz (zhz (zhz HBK2.out 4 (.bool true)) 5 (.int .i64 (a:Nat))) 1 (.int .i64 0)) 2 (.int .u32 0)) 3 (.slice none 0 0)) 1 (.int .i64 xk)) 2 (.int .u32 (xm:Nat))) 3 (.slice d.1 xd.length d.2)
   · rw[HX.out.2]
     refine⟨HO.out.hn,zjr (HO.out.own.keep (fun g' _ hlt' hA'=>hob.block g' hlt' (fun e=>?_))) HFD.out⟩
     have:=HFD.out g' hA'
     omega
def ROpenR (q:FP) (S:FS) (w:World) (e:Ending) (w':World):Prop:=
 ∃ r A c,e= .returned (.tuple #[.pointer (some ⟨r,0,none⟩),.int .i64 0])∧ Blk w' r 166 (rjS q.p S A c false).toArray∧zcd w' w.heap.size A (recS S).2.2.length c (recS S).2.2∧w.heap.size≤r∧Below w.heap.size w w'
theorem zjt (q:FP) (S:FS) (w:World) (hD:RF w q S) (hoff:S.off=false) (h3:3≤S.wear.length) :
 Calls Tryz.prog 111 #[.pointer (some ⟨q.p,0,none⟩)] w (ROpenR q S w):= by
 have q0:=zbm w 166 #[.pointer (some ⟨q.p,0,none⟩),.int .i64 0,.int .u32 0,.slice none 0 0,.bool false,.int .i64 0,.bool true]
 have q1:=zbm w 166 #[.pointer (some ⟨q.p,0,none⟩),.int .i64 0,.int .u32 0,.slice none 0 0,.bool false,.int .i64 0,.bool false]
 have hb0:=zbf (Below.refl w.heap.size w) (.cells #[.pointer (some ⟨q.p,0,none⟩),.int .i64 0,.int .u32 0,.slice none 0 0,.bool false,.int .i64 0,.bool true] 166)
 have hb1:=zbf (Below.refl w.heap.size w) (.cells #[.pointer (some ⟨q.p,0,none⟩),.int .i64 0,.int .u32 0,.slice none 0 0,.bool false,.int .i64 0,.bool false] 166)
 have HB1:=zak hb1
 have HTL:=zak (zjs q S w.heap.size 0 0 none 0 0 false 0 false _ (hD.below hb1) q1)
 obtain⟨⟨-,c1,-,c3,-⟩,-⟩:= (hD.below hb0).c
 rw[hoff] at c3
 obtain⟨⟨-,d1,-,d3,-⟩,-⟩:= hD.c
 rw[hoff] at d3
 obtain⟨ns,hns⟩:∃ ns,ns=S.wear.length:=⟨_,rfl⟩
 rw[← hns] at c1 h3 d1
 have h3':(3:Int)≤ (ns:Int):= by omega
 obtain⟨q0_c0,q0_c1,q0_c2,q0_c3,q0_c4,q0_c5,q0_c6⟩:= cel7 q0
 have q0_f:=q0.frozen
 clear hD hoff hns q0 hb0 q1 hb1
 go_enter Tryz.func111,Tryz.ntmps111
 go_wp2_with fail
 refine HTL.out.mono ?_
 rintro e w1 ⟨A,c,rfl,hB,hO,hbo⟩
 have HH:=zak (And.intro hB (And.intro hO hbo))
 clear hB hO hbo
 go_wp2_with fail
 go_ret2
 obtain⟨hB,hO,hbo⟩:= HH.out
 exact (⟨w.heap.size,A,c,rfl,hB,hO.mono (by simp),Nat.le_refl _,zck hbo HB1.out (fun i hi=>by omega)⟩:ROpenR q S w _ _)
theorem zju (q:FP) (S:FS) (w:World) (hD:RF w q S) (hoff:S.off=false) (h3:S.wear.length < 3) :
 Calls Tryz.prog 111 #[.pointer (some ⟨q.p,0,none⟩)] w fun e w'=> ∃ p,e= .returned (.tuple #[.pointer (some p),.int .i64 9])∧ Below w.heap.size w w':=by
 have hb0:=zbf (Below.refl w.heap.size w) (.cells #[.pointer (some ⟨q.p,0,none⟩),.int .i64 0,.int .u32 0,.slice none 0 0,.bool false,.int .i64 0,.bool true] 166)
 obtain⟨⟨-,c1,-,c3,-⟩,-⟩:= (hD.below hb0).c
 rw[hoff] at c3
 obtain⟨ns,hns⟩:∃ ns,ns=S.wear.length:=⟨_,rfl⟩
 rw[← hns] at c1 h3
 have h3':(ns:Int) < 3:=by omega
 have HB:=zak hb0
 clear hD hoff hns hb0
 go_enter Tryz.func111,Tryz.ntmps111
 go_wp2_with fail
 go_ret2
 exact⟨_,rfl,HB.out⟩
end
end
section
open Go.RowKit
set_option maxRecDepth 20000
set_option maxHeartbeats 2000000
theorem zjv {α:Type} (s t:List α) (hs:s.length=6) (i j:Nat) (h:i=6+j) (v: α):(s ++ t).set i v=s ++ t.set j v:=by
 subst h
 rw[List.set_append_right _ _ (by omega),hs,Nat.add_sub_cancel_left]
theorem zjw (x:LK) (d:Option Addr×Nat):∀ (L:List LK) (ds:List (Option Addr×Nat)) (k:Nat),ds.length=L.length→k < L.length→
 ((((((cellsG lkF L ds).set (k * 6) (.int .i64 x.k)).set (k * 6+1) (.int .u32 (x.m:Nat))).set (k * 6+2) (.slice d.1 x.d.length d.2)).set (k * 6+3) (.int .i64 (x.cnt:Nat))).set (k * 6+4) (.int .i64 (x.en:Nat))).set (k * 6+5) (.bool x.cl)=cellsG lkF (L.set k x) (ds.set k d):= by
 intro L
 induction L with
 | nil=>intro ds k _ h;simp at h
 | cons y L ih=>
   intro ds k hl hk
   cases ds with
   | nil=>simp at hl
   | cons e ds=>
     cases k with
     | zero=>rfl
     | succ k=>
       have hs:(lkF y e).length=6:=rfl
       rw[List.set_cons_succ,List.set_cons_succ,cellsG,cellsG,← ih ds k (by simpa using hl) (by simpa using hk)]
       rw[zjv _ _ hs _ (k * 6) (by omega),zjv _ _ hs _ (k * 6+1) (by omega),zjv _ _ hs _ (k * 6+2) (by omega),zjv _ _ hs _ (k * 6+3) (by omega),zjv _ _ hs _ (k * 6+4) (by omega),zjv _ _ hs _ (k * 6+5) (by omega)]
def putLk (w:World) (g k:Nat) (x:LK) (A:Option Addr) (c:Nat):World:=
 (((((w.setCell ⟨g,k * 6,none⟩ (.int .i64 x.k)).setCell ⟨g,k * 6+1,none⟩ (.int .u32 (x.m:Nat))).setCell ⟨g,k * 6+2,none⟩ (.slice A x.d.length c)).setCell ⟨g,k * 6+3,none⟩ (.int .i64 (x.cnt:Nat))).setCell ⟨g,k * 6+4,none⟩ (.int .i64 (x.en:Nat))).setCell ⟨g,k * 6+5,none⟩ (.bool x.cl)
theorem zjx (w:World) (g k:Nat) (x:LK) (A:Option Addr) (c:Nat):zcj (fun i=>i=g) w (putLk w g k x A c):=
 zcj.set (fun i=>i=g) (zcj.set (fun i=>i=g) (zcj.set (fun i=>i=g) (zcj.set (fun i=>i=g) (zcj.set (fun i=>i=g) (zcj.set (fun i=>i=g) (zcj.refl _ _) rfl _) rfl _) rfl _) rfl _) rfl _) rfl _
theorem zjy {w:World} {F:Nat→Prop} {g n c k:Nat} {L:List LK} {ds:List (Option Addr×Nat)} {x:LK} {A:Option Addr} {c':Nat} (h:OwnLk w F (some ⟨g,0,none⟩) n c L ds) (hk:k < n) (hx:zcd w 0 A x.d.length c' x.d) (hF:FIn F A) :
 OwnLk (putLk w g k x A c') F (some ⟨g,0,none⟩) n c (L.set k x) (ds.set k (A,c')):= by
 have ho:=zjx w g k x A c'
 have hkL:k < L.length:=by rw[← h.hn];exact hk
 have hd:∀ {m c2:Nat} {A':Option Addr} {l:List UInt8},zcd w 0 A' m c2 l→zcd (putLk w g k x A c') 0 A' m c2 l:=fun hO=>⟨hO.hn,hO.own.keep (fun i _ hlt hA'=>ho.block i hlt (fun e=>by
  have:=zcl hO.own h.own (by decide) i hA'
  rw[e] at this
  exact this rfl))⟩
 refine⟨by rw[List.length_set];exact h.hn,by simp[h.hd],?_,h.inF,?_⟩
 · have h1:=(World.ownsRow.stored (World.ownsRow.stored (World.ownsRow.stored (World.ownsRow.stored (World.ownsRow.stored (World.ownsRow.stored h.own (k * 6) (.int .i64 x.k)).1 (k * 6+1) (.int .u32 (x.m:Nat))).1 (k * 6+2) (.slice A x.d.length c')).1 (k * 6+3) (.int .i64 (x.cnt:Nat))).1 (k * 6+4) (.int .i64 (x.en:Nat))).1 (k * 6+5) (.bool x.cl)).1
   rw[zjw x (A,c') L ds k h.hd hkL] at h1
   exact h1
 · intro j v d' hv hd'
   rcases Nat.decEq j k with hjk | hjk
   · rw[List.getElem?_set_ne (fun e=>hjk e.symm)] at hv hd'
     exact⟨hd (h.data j v d' hv hd').1,(h.data j v d' hv hd').2⟩
   · subst hjk
     rw[List.getElem?_set_self hkL] at hv
     rw[List.getElem?_set_self (by rw[h.hd];exact hkL)] at hd'
     injection hv with hv
     injection hd' with hd'
     subst hv
     subst hd'
     exact⟨hd hx,hF⟩
theorem zjz {R:World→Prop} {P:Program} {md:Region.Mode} {ops:Array Oper} {Q:Exit→Act→World→Prop} {S:World→Prop} {f:Nat} {listed:Array Bool} {a:Act} {w:World} (h:R w) (k:∀ W,R W→wpAnyH P md ops Q S f listed a W):wpAnyH P md ops Q S f listed a w:=k w h
theorem zj0 (w:World) (g o0 o1 o2 o3 o4 o5:Nat) (v0 v1 v2 v3 v4 v5:Value) :
 zcj (fun i=>i=g) w ((((((w.setCell ⟨g,o0,none⟩ v0).setCell ⟨g,o1,none⟩ v1).setCell ⟨g,o2,none⟩ v2).setCell ⟨g,o3,none⟩ v3).setCell ⟨g,o4,none⟩ v4).setCell ⟨g,o5,none⟩ v5):=
 zcj.set (fun i=>i=g) (zcj.set (fun i=>i=g) (zcj.set (fun i=>i=g) (zcj.set (fun i=>i=g) (zcj.set (fun i=>i=g) (zcj.set (fun i=>i=g) (zcj.refl _ _) rfl _) rfl _) rfl _) rfl _) rfl _) rfl _
theorem zj1 {w:World} {p:Nat} {t:TypeId} {cs:Array Value} (h:Blk w p t cs) {g:Nat} (hne:p≠g) (o0 o1 o2 o3 o4 o5:Nat) (v0 v1 v2 v3 v4 v5:Value) :
 Blk ((((((w.setCell ⟨g,o0,none⟩ v0).setCell ⟨g,o1,none⟩ v1).setCell ⟨g,o2,none⟩ v2).setCell ⟨g,o3,none⟩ v3).setCell ⟨g,o4,none⟩ v4).setCell ⟨g,o5,none⟩ v5) p t cs:=((zj0 w g o0 o1 o2 o3 o4 o5 v0 v1 v2 v3 v4 v5).block p h.lt hne).trans h
theorem JD.apart {w w':World} {F:Nat→Prop} {p pf g0 n c gx:Nat} {J:JS} {ds:List (Option Addr×Nat)} {cs:Array Value} (h:JD w F p pf (some ⟨g0,0,none⟩) n c J ds) (hB:Blk w gx 131 cs) (hg:gx≠g0) (ho:zcj (fun g=>g=gx) w w'):JD w' F p pf (some ⟨g0,0,none⟩) n c J ds:=by
 have hp:p≠gx:=by
  intro e
  have h1:=h.blk
  unfold Blk at h1 hB
  rw[e,hB] at h1
  injection h1 with h1
  injection h1 with _ h1
  exact absurd h1 (by decide)
 have hd:∀ {m c':Nat} {A':Option Addr} {l:List UInt8},zcd w 0 A' m c' l→zcd w' 0 A' m c' l:=fun hO=>⟨hO.hn,hO.own.keep (fun g _ hlt hA'=>ho.block g hlt (fun e=>zcm hB hO.own (by decide) (by rw[hA',e];rfl)))⟩
 refine⟨(ho.block p h.blk.lt hp).trans h.blk,h.inF,⟨h.lks.hn,h.lks.hd,h.lks.own.keep (fun g _ hlt hA'=>ho.block g hlt (fun e=>hg (by injection hA' with hA';injection hA' with hA';rw[← e,← hA']))),h.lks.inF,fun j v d e1 e2=>⟨hd (h.lks.data j v d e1 e2).1,(h.lks.data j v d e1 e2).2⟩⟩,h.fit,h.n8,h.now,h.at_⟩
theorem JD.storeLk {w:World} {F:Nat→Prop} {p pf g n c k:Nat} {J:JS} {ds:List (Option Addr×Nat)} {x:LK} {A:Option Addr} {c':Nat} (h:JD w F p pf (some ⟨g,0,none⟩) n c J ds) (hk:k < n) (hx:zcd w 0 A x.d.length c' x.d) (hF:FIn F A) (hf:FitK x) :
 JD (putLk w g k x A c') F p pf (some ⟨g,0,none⟩) n c ⟨J.looks.set k x,J.now,J.has,J.dead⟩ (ds.set k (A,c')):= by
 refine⟨?_,h.inF,zjy h.lks hk hx hF,?_,h.n8,h.now,h.at_⟩
 · have hne:p≠g:=fun e=>zcm h.blk h.lks.own (by decide) (by rw[← e];rfl)
   exact ((zjx w g k x A c').block p h.blk.lt hne).trans h.blk
 · intro y hy
   rcases List.mem_or_eq_of_mem_set hy with hy | rfl
   · exact h.fit y hy
   · exact hf
end
end Go.Proofs.YtehabbnohoomjaaGreatDoor
