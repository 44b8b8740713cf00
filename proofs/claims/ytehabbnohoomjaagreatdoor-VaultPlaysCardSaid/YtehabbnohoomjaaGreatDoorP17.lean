/- None -/
import Derived.Test.YtehabbnohoomjaaGreatDoorP16
namespace Go.Proofs.YtehabbnohoomjaaGreatDoor
set_option linter.unusedVariables false
set_option linter.unusedSimpArgs false
set_option linter.unnecessarySimpa false
section
section
open Go.RowKit
set_option maxRecDepth 20000
set_option maxHeartbeats 4000000
def rplaceJ (S:FS) (n:Nat):Int×Bool:=
 if ((newL (looksF S)).2 && roomL ((looksF S).getD (newL (looksF S)).1 lookZ) n)=true then (((newL (looksF S)).1:Int) * 1024+(((looksF S).getD (newL (looksF S)).1 lookZ).en:Int),false)
 else if (nextL (looksF S) S.wear S.most).2=true then (((nextL (looksF S) S.wear S.most).1:Int) * 1024,begunL ((looksF S).getD (nextL (looksF S) S.wear S.most).1 lookZ)) else (-1,false)
def RPlaceR (r:Int×Bool) (w:World) (e:Ending) (w':World):Prop:=e= .returned (.tuple #[.int .i64 r.1,.bool r.2])∧ Below w.heap.size w w'
theorem zj7 (q:FP) (S:FS) (r:Nat) (A:Option Addr) (c d:Nat) (w:World) (hD:RF w q S) (hB:Blk w r 166 (rjS q.p S A c false).toArray) (hd:d≤2000) :
 Calls Tryz.prog 174 #[.pointer (some ⟨r,0,none⟩),.int .i64 (d:Nat)] w (RPlaceR (rplaceJ S d) w):= by
 have HLO:=zak (zjq q S w hD)
 have h8:=hD.fit.wl8
 obtain⟨ns,hns⟩:∃ ns,ns=S.wear.length:=⟨_,rfl⟩
 have HNS:=zak hns
 rw[← hns] at h8
 have HLF:=zak (fun i W (hi:i < ns) (hb:Below w.heap.size w W)=> zja q S i W (hD.below hb) (by rw[← hns];exact hi))
 have HWS:=zak (show Sl w (some ⟨q.gw,0,none⟩) ((S.wear.map fun x=>((x:Nat):Int)).map (Value.int .i64)) by have:=hD.ws.sl;rw[List.map_map];exact this)
 obtain⟨⟨-,f1,-⟩,-⟩:= hD.c
 rw[← hns] at f1
 have zf:=hD.blk.lt
 have HFIT:=zak hD.fit
 unfold rjS rjC at hB
 have z0:=hB.lt
 have c0:=hB.cell 0 (u:= .pointer (some ⟨q.p,0,none⟩)) rfl
 have c4:=hB.cell 4 (u:= .bool (newL (looksF S)).2) rfl
 have c5:=hB.cell 5 (u:= .int .i64 ((newL (looksF S)).1:Nat)) rfl
 obtain⟨nw,hnw⟩:∃ nw,nw=newL (looksF S):= ⟨_,rfl⟩
 obtain⟨nx,hnx⟩:∃ nx,nx=nextL (looksF S) S.wear S.most:=⟨_,rfl⟩
 obtain⟨R,hR⟩:∃ R,R=rplaceJ S d:=⟨_,rfl⟩
 unfold rplaceJ at hR
 rw[← hnw] at c4 c5 hR
 rw[← hnx] at hR
 rw[show rplaceJ S d=R by rw[hR,hnw,hnx];rfl]
 obtain⟨na,nh⟩:= nw
 dsimp only at c4 c5 hR
 obtain⟨b,hb⟩:∃ b,b=(nh && roomL ((looksF S).getD na lookZ) d):= ⟨_,rfl⟩
 rw[← hb] at hR
 have HBQ:=zak hb
 have HNW:=zak hnw
 have HNX:=zak hnx
 have HR:=zak hR
 clear hD hB hns hnw hnx hR hb
 go_enter Tryz.func174,Tryz.ntmps174
 go_wp2_with fail
 refine HLO.out.mono ?_
 rintro e w1 ⟨A1,c1,ds,rfl,hO1,hb1⟩
 rw[← HNS.out] at hO1 ⊢
 have HO1:=zak hO1
 have HB1:=zak hb1
 have g0:=(hb1.cell (p:=⟨r,0,none⟩) z0).trans c0
 have g4:=(hb1.cell (p:=⟨r,4,none⟩) z0).trans c4
 have g5:=(hb1.cell (p:=⟨r,5,none⟩) z0).trans c5
 have HLL:=zak (show (looksF S).length=ns by rw[zgx,← HNS.out])
 clear hO1 hb1
 go_upto_region 2 with fail
 go_cut [30] (fun s wx=>s= .bool b∧Hid (Below w1.heap.size w1 wx))
 case first=>
  cases nh
  · have hbf:b=false:=by rw[HBQ.out];rfl
    subst hbf
    go_wp2_with fail
    go_meet
    case rel=>exact⟨rfl,zak (Below.refl _ _)⟩
  · have hna:=zgo.1 HNW.out.symm
    obtain⟨x,hx⟩:∃ x,(looksF S)[na]? =some x:=⟨_,List.getElem?_eq_getElem hna.1⟩
    have hgx:(looksF S).getD na lookZ=x:=by rw[List.getD_eq_getElem?_getD,hx];rfl
    obtain⟨g,dd,hA,hg,hdd,hO,hlt,⟨e0,e1,e2,e3,e4,e5⟩,hF,hFd⟩:= zjp HO1.out hx
    subst hA
    obtain⟨i1,i2,i3⟩:= zbr hlt
    have HB2:Hid ((x.cl && decide ((0:Int)≤ (d:Int)∧ (d:Int)≤ 960∧(0:Int)≤ (x.en:Int)∧ (x.en:Int)≤ 1011 - (d:Int)))=b):= zak (by rw[zjg,HBQ.out,hgx];rfl)
    clear hna hx hgx hO hF hFd hdd
    go_wp2_with fail
    refine (zjc x.k x.m dd.1 x.d.length dd.2 (x.cnt:Nat) (x.en:Nat) x.cl (d:Nat) _ (by omega) (by omega)).mono ?_
    rintro e w2 ⟨rfl,hb2⟩
    rw[HB2.out]
    go_wp2_with fail
    go_meet
    case rel=>exact⟨rfl,zak hb2⟩
 case rest=>
  obtain⟨rfl,HBx⟩:= hcut
  have HBW:=zak (zbd HBx.out HB1.out)
  have HOx:=zak (HO1.out.below HBx.out)
  have k0:=(HBx.out.cell (p:=⟨r,0,none⟩) (by have:=HB1.out.size;simp only[];omega)).trans g0
  have k5:=(HBx.out.cell (p:=⟨r,5,none⟩) (by have:=HB1.out.size;simp only[];omega)).trans g5
  cases b
  · go_wp2_with fail
    go_loopw [7,8] (fun v i wr=> ∃ k A2 c2,k≤ns∧i= .int .i64 (k:Nat)∧ v= .slice A2 k c2∧Hid (Own wr w.heap.size 3 1 A2 k c2 (((S.wear.take k).map fun x=>S.most - ((x:Nat):Int)).map (Value.int .i64)))∧ Hid (Below w.heap.size w wr)∧ Hid (OwnRLk wr (fun g=>w.heap.size≤g) A1 ns c1 (looksF S) ds)) (fun _ i _=>ns - (intOf i).toNat)
    case atStart=>exact⟨0,none,0,by omega,rfl,rfl,zak (Own.nil _ _ _ _),HBW,HOx⟩
    case round=>
     obtain⟨k,A2,c2,hk,rfl,rfl,HW2,HBr,HOr⟩:= hrel
     have m0:=(HBr.out.cell (p:=⟨r,0,none⟩) z0).trans c0
     by_cases hlt:k < ns
     · have HTK:Hid ((S.wear.take (k+1)).map (fun x=>S.most - ((x:Nat):Int))=(S.wear.take k).map (fun x=>S.most - ((x:Nat):Int)) ++ [S.most - ((S.wear.getD k 0:Nat):Int)]):= zak (by
        have hk':k < S.wear.length:=by rw[← HNS.out];exact hlt
        rw[List.take_succ_eq_append_getElem hk',List.map_append,List.getD_eq_getElem?_getD,List.getElem?_eq_getElem hk']
        rfl)
       have HLk:=zak (HLF.out k wr hlt HBr.out)
       obtain⟨y,hy⟩:∃ y,y=S.most - ((S.wear.getD k 0:Nat):Int):= ⟨_,rfl⟩
       rw[← hy] at HLk HTK
       clear hy
       go_wp2_with fail
       refine HLk.out.mono ?_
       rintro e w3 ⟨rfl,hb3⟩
       have HB3:=zak (zbd hb3 HBr.out)
       have HO3:=zak (HOr.out.below hb3)
       have HW3:=zak (HW2.out.below hb3)
       have hz3:=HB3.out.size
       clear hb3
       go_wp2_with (at_builtin;refine zi5 _ rfl _ _ rfl w.heap.size A2 k c2 _ rfl (HW3.out.alloc _) _ 1 y rfl (Sl.one _ _ _) (by omega) (by simp;omega) ?_;intro A4 c4 w4 hO4 hg4 hr4 hb4;have HH4:=zak (And.intro hO4 (And.intro hg4 hb4));clear hO4 hg4 hr4 hb4)
       obtain⟨hO4,hg4,hb4⟩:= HH4.out
       have HW4:Hid (Own w4 w.heap.size 3 1 A4 (k+1) c4 (((S.wear.take (k+1)).map fun x=>S.most - ((x:Nat):Int)).map (Value.int .i64))):= zak (by rw[HTK.out,List.map_append];exact hO4)
       have HB4:=zak ((zbf HB3.out (.cells #[.int .i64 y] 3)).trans hb4)
       have HO4:Hid (OwnRLk w4 (fun g=>w.heap.size≤g) A1 ns c1 (looksF S) ds):= zak (by
        have h1:=HO3.out.below (zbf (Below.refl w3.heap.size w3) (.cells #[.int .i64 y] 3))
        refine⟨h1.hn,h1.hd,h1.own.grown hg4 (zcl h1.own (HW3.out.alloc (.cells #[.int .i64 y] 3)) (by decide)),h1.inF,fun j v d e1 e2=>⟨⟨(h1.data j v d e1 e2).1.hn,(h1.data j v d e1 e2).1.own.grown hg4 (zcl (h1.data j v d e1 e2).1.own (HW3.out.alloc (.cells #[.int .i64 y] 3)) (by decide))⟩,(h1.data j v d e1 e2).2⟩⟩)
       go_roundw
       case rel=>exact⟨k+1,A4,c4,by omega,by go_num,rfl,HW4,HB4,HO4⟩
       case measure=>simp[intOf];omega
     · obtain rfl:k=ns:=by omega
       have hfw:S.wear.take k=S.wear:=List.take_of_length_le (by rw[← HNS.out];exact Nat.le_refl _)
       have hsl2:=HW2.out.sl
       rw[hfw] at hsl2
       have hnk:=zir (looksF S) ds S.wear S.most HOr.out.hd
       rw[HLL.out] at hnk
       have hnc:=zje A1 (some ⟨q.gw,0,none⟩) A2 k c1 k q.cw k c2 (kvs (looksF S) ds) _ _ wr (by rw[zil _ _ HOr.out.hd,HLL.out]) (by omega) HOr.out.rslk (by rw[List.length_map];exact HNS.out) (by omega) (HWS.out.below HBr.out) (by rw[List.length_map];exact HNS.out) (by omega) hsl2
       rw[hnk,← HNX.out] at hnc
       have HNC:=zak hnc
       have p1:=(HBr.out.cell (p:=⟨q.p,1,none⟩) zf).trans f1
       clear hfw hsl2 hnk hnc
       go_wp2_with fail
       refine HNC.out.mono ?_
       rintro e w5 ⟨rfl,hb5⟩
       have HB5:=zak (zbd hb5 HBr.out)
       have HO5:=zak (HOr.out.below hb5)
       clear hb5
       obtain⟨a,ok⟩:= nx
       dsimp only
       cases ok
       · go_wp2_with fail
         go_ret2
         rw[HR.out]
         refine And.intro ?_ HB5.out
         rfl
       · have hsp:=(zgs (looksF S) S.wear S.most (zgx S).symm).1 (by rw[← HNX.out])
         rw[← HNX.out] at hsp
         have ha:=hsp.1
         simp only[] at ha
         obtain⟨x,hx⟩:∃ x,(looksF S)[a]? =some x:=⟨_,List.getElem?_eq_getElem ha⟩
         have hgx:(looksF S).getD a lookZ=x:=by rw[List.getD_eq_getElem?_getD,hx];rfl
         obtain⟨g,dd,hA,hg,hdd,hO,hlt2,⟨e0,e1,e2,e3,e4,e5⟩,hF,hFd⟩:= zjp HO5.out hx
         subst hA
         obtain⟨i1,i2,i3⟩:= zbr hlt2
         obtain⟨xk,xm,xd,xcnt,xen,xcl⟩:= x
         dsimp only at e0 e1 e2 e3 e4 e5
         have HRR:Hid (R=((a:Int) * 1024,begunL ⟨xk,xm,xd,xcnt,xen,xcl⟩)):= zak (by rw[HR.out];simp only[if_true,Bool.false_eq_true,if_false];rw[hgx])
         have ha8:a≤8:=by omega
         clear hsp ha hx hgx hO hdd hF hFd
         by_cases h0:0 < xcnt
         · have b1:decide ((0:Int) < (xcnt:Int))=true:=by simp;omega
           have b2:decide (0 < xcnt)=true:=by simp;omega
           have HBE:=zak (show begunL ⟨xk,xm,xd,xcnt,xen,xcl⟩=true by simp[begunL,h0])
           clear h0
           go_wp2_with fail
           go_quiet (fail)
           go_wp2_with fail
           go_ret2
           rw[HRR.out,HBE.out]
           refine And.intro ?_ ?_
           · rfl
           · have hbx:=HB5.out
             all_goals exact bl
         · have b1:decide ((0:Int) < (xcnt:Int))=false:=by simp;omega
           have b2:decide (0 < xcnt)=false:=by simp;omega
           have HBE:=zak (show begunL ⟨xk,xm,xd,xcnt,xen,xcl⟩= !xcl by simp[begunL,h0])
           clear h0
           go_wp2_with fail
           go_quiet (fail)
           go_wp2_with fail
           go_ret2
           rw[HRR.out,HBE.out]
           refine And.intro ?_ ?_
           · rfl
           · have hbx:=HB5.out
             all_goals exact bl
  · have hh:nh=true:=by
     have h1:=HBQ.out
     cases nh
     · cases h1
     · rfl
    subst hh
    have hna:=zgo.1 HNW.out.symm
    obtain⟨x,hx⟩:∃ x,(looksF S)[na]? =some x:=⟨_,List.getElem?_eq_getElem hna.1⟩
    have hgx:(looksF S).getD na lookZ=x:=by rw[List.getD_eq_getElem?_getD,hx];rfl
    obtain⟨g,dd,hA,hg,hdd,hO,hlt,⟨e0,e1,e2,e3,e4,e5⟩,hF,hFd⟩:= zjp HOx.out hx
    have hen:x.en≤2000:=(zi1 HFIT.out x (List.mem_of_getElem? hx)).en
    subst hA
    obtain⟨i1,i2,i3⟩:= zbr hlt
    have HRR:Hid (R=((na:Int) * 1024+(x.en:Int),false)):= zak (by rw[HR.out];simp only[if_true];rw[hgx])
    obtain⟨xen,hxe⟩:∃ n,n=x.en:=⟨_,rfl⟩
    rw[← hxe] at e4 HRR hen
    have hn8:na≤8:=by omega
    clear hna hx hgx hO hdd hF hFd e0 e1 e2 e3 e5 hxe
    go_wp2_with fail
    go_quiet (fail)
    go_wp2_with fail
    go_ret2
    rw[HRR.out]
    refine And.intro ?_ ?_
    · rfl
    · have hbx:=HBW.out
      all_goals exact bl
end
section
open Go.RowKit
set_option maxRecDepth 20000
set_option maxHeartbeats 8000000
def FreeF (S:FS):Prop:=3≤S.wear.length∧ ∀ i,i < S.wear.length→((S.wear.getD i 0:Nat):Int) < S.most
theorem zj8 {S:FS}:U32 (recS S).2.1:=by
 unfold recS
 split
 · rename_i hh
   rcases zgq (looksF S) with ⟨a,ha⟩ | ha
   · have:=(zgo.1 ha).1
     rw[zgx] at this
     rw[ha,zgz S this]
     exact zg3
   · rw[ha] at hh;cases hh
 · show (0:Nat) < _;decide
def rappE (S:FS) (kd:Int) (m:Nat):Int:=if (recS S).2.1=4294967295 then 6 else rightR kd ((recS S).2.1+1) m
def RAppR (q:FP) (r:Nat) (e0:Int) (w:World) (e:Ending) (w':World):Prop:=e= .returned (.int .i64 e0)∧ zcj (fun g=>g=r∨q.F g) w w'
end
end
end Go.Proofs.YtehabbnohoomjaaGreatDoor
