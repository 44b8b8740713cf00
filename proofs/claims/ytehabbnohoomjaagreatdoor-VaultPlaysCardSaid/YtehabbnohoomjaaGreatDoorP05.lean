/- None -/
import Derived.Test.YtehabbnohoomjaaGreatDoorP04
import Derived.Lib.SlBytesConst
namespace Go.Proofs.YtehabbnohoomjaaGreatDoor
set_option linter.unusedVariables false
set_option linter.unusedSimpArgs false
set_option linter.unnecessarySimpa false
section
open Go.RowKit
set_option maxRecDepth 20000
set_option maxHeartbeats 1000000
attribute [local go_sem ↓] Go.wp_at_zero Go.wp_at_succ
theorem zeh (w:World) (C:Array Value) (n c:Nat):(convert 23 23 (.slice (some ⟨w.heap.size,0,none⟩) n c)).run Tryz.prog (w.alloc (.cells C 5)).drew= .ok (.slice (some ⟨w.heap.size,0,none⟩) n c) (w.alloc (.cells C 5 (C.size,C.size+1))).drew:=
 Lib.run_convert_bytes_const (P:=Tryz.prog) w.drew 23 5 C n c Tryz.underlying23 Tryz.underlying5
theorem Sl.mark (w:World) (x:Value) (t:TypeId) (f:Nat×Nat):Sl (w.alloc (.cells #[x] t f)).drew (some ⟨w.heap.size,0,none⟩) [x]:= by
 intro j u hu
 obtain⟨hj,rfl⟩:= List.getElem?_eq_some_iff.1 hu
 obtain rfl:j=0:=by simp at hj;omega
 refine⟨_,rfl,?_⟩
 have hh:((w.alloc (.cells #[x] t f)).drew).heap[w.heap.size]? =some (.cells #[x] t f):= heap_alloc_new w _
 simp only[World.cell?,Addr.add,if_true]
 rw[hh]
 rfl
theorem zei (A:Option Addr) (n c x:Nat) (wd:Int) (l:List UInt8) (w:World) (hn:n=l.length) (hl:n≤100) (hs:Sl w A (l.map bv)) (h1:1≤wd) (h8:wd≤8) (hx:x < 256 ^ wd.toNat) (hu:U64 x) :
 Calls Tryz.prog 200 #[.slice A n c,.int .i64 wd,.int .u64 (x:Nat)] w fun e w'=> ∃ A' n' c',e= .returned (.slice A' n' c')∧ zcd w' w.heap.size A' n' c' (l ++ leB wd.toNat x)∧ Below w.heap.size w w':=by
 have HP:=zak (zc5 A n c l wd x w hu h1 h8 hx hn (by omega) hs)
 clear hn hx
 go_enter Tryz.func200,Tryz.ntmps200
 go_wp2_with fail
 refine HP.out.mono ?_
 rintro e w1 ⟨A1,n1,c1,rfl,hO1,hb1⟩
 go_wp2_with fail
 go_ret
 exact⟨A1,n1,c1,rfl,hO1,hb1⟩
theorem zej (A:Option Addr) (kind:Int) (num n c:Nat) (l:List UInt8) (w:World) (hn:n=l.length) (hs:Sl w A (l.map bv)) (hu:U32 num) :
 Calls Tryz.prog 173 #[.agg #[.int .i64 kind,.int .u32 (num:Nat),.slice A n c]] w fun e w'=> ∃ A' n' c',e= .returned (.tuple #[.slice A' n' c',.int .i64 (rightR kind num n)])∧ zcd w' w.heap.size A' n' c' (recB kind num l)∧ Below w.heap.size w w':=by
 obtain⟨er,her⟩:∃ er,er=rightR kind num n:=⟨_,rfl⟩
 have HR:=zak (fun W=>zd5 A kind num n c W)
 rw[← her] at HR ⊢
 by_cases h0:er=0
 · obtain⟨k1,k2,k3,k4,k5⟩:= zed kind num n (by rw[← her];exact h0)
   obtain⟨k,rfl⟩:= Int.eq_ofNat_of_zero_le (show 0≤kind by omega)
   have HB:=zak (zec k num n l hn (by rw[← her];exact h0))
   subst h0
   have hu':num≤4294967295:=by unfold U32 at hu;omega
   have HP1:=zak (show ∀ A W,Sl W A (([87]:List UInt8).map bv)→ _ from fun A W h=>zei A 1 1 k 1 [87] W rfl (by decide) h (by omega) (by omega) (by rw[p1];omega) (.small (by omega)))
   have HP2:=zak (show ∀ A n c l W,n=l.length→n≤100→Sl W A (l.map bv)→ _ from fun A n c l W hn hl h=>zei A n c num 4 l W hn hl h (by omega) (by omega) (by rw[p4];omega) (.small (by omega)))
   have HP3:=zak (show ∀ A m c l W,m=l.length→m≤100→Sl W A (l.map bv)→ _ from fun A m c l W hn hl h=>zei A m c n 2 l W hn hl h (by omega) (by omega) (by rw[p2];omega) (.small (by omega)))
   have HN:=zak hn
   clear hn her k4 k5
   have i1:IntKind.u64.wrap (k:Int)=k:=zax (.small (by omega))
   have i2:IntKind.u64.wrap (num:Int)=num:=zax (.small (by omega))
   have i3:IntKind.u64.wrap (n:Int)=n:=zax (.small (by omega))
   go_enter Tryz.func173,Tryz.ntmps173
   go_wp2_with fail
   refine (HR.out _).mono ?_
   rintro e w1 ⟨rfl,hb1⟩
   have hbx:=(zbm _ _ _).below hb1 (by simp)
   have b0:=hbx.cell 0 rfl
   have b1:=hbx.cell 1 rfl
   have b2:=hbx.cell 2 rfl
   have z0:=hbx.lt
   have hbw1:=zbd hb1 (zbf (Below.refl w.heap.size w) _)
   go_wp2_with fail
   have kcv:=zeh w1
   refine wp_region_held_drew (S:=(fun w'=>(∀ qA:Addr,qA.block < (w1).heap.size→w'.cell? qA=(w1).cell? qA)∧ Below (w1).heap.size (w1) w')) (by kernel_rfl) ?hS1 (fun hHeld=>?rest1)
   case hS1=>((try dsimp only);(((try go_split_ands);refine zbc ?_;all_goals exact bl)))
   case' rest1=>skip
   refine tkH 2 ?_
   try simp only[PqL,Act.put]
   refine tkH 3 ?_
   try simp only[PqL,Act.put]
   refine tkH 4 ?_
   try simp only[PqL,Act.put]
   refine tkH 6 ?_
   try simp only[PqL,Act.put]
   refine tkH 7 ?_
   try simp only[PqL,Act.put]
   refine tkH 8 ?_
   try simp only[PqL,Act.put]
   refine tkH 10 ?_
   try simp only[PqL,Act.put]
   refine tkH 11 ?_
   try simp only[PqL,Act.put]
   refine tkH 12 ?_
   try simp only[PqL,Act.put]
   refine tkH 13 ?_
   try simp only[PqL,Act.put]
   refine wpAnyH_ready (rs:= [0]) (by kernel_rfl) (by simp) ?_
   refine AllReadyH.cons (o:=_) rfl (fun K hK=>?_) .nil
   go_simp
   refine hK.out _ _ ?hS14 (fun hHeld=>?rest14)
   case hS14=>((try dsimp only);(((try go_split_ands);refine zbc ?_;all_goals exact bl)))
   case' rest14=>(clear hK K;try simp only[PqL,Act.put])
   refine wpAnyH_ready (rs:= [1]) (by kernel_rfl) (by simp) ?_
   refine AllReadyH.cons (o:=_) rfl (fun K hK=>?_) .nil
   go_simp
   refine hK.out _ _ ?hS17 (fun hHeld=>?rest17)
   case hS17=>((try dsimp only);(((try go_split_ands);refine zbc ?_;all_goals exact bl)))
   case' rest17=>(clear hK K;try simp only[PqL,Act.put])
   refine wpAnyH_ready (rs:= [5]) (by kernel_rfl) (by simp) ?_
   refine AllReadyH.cons (o:=_) rfl (fun K hK=>?_) .nil
   go_simp
   refine (HP1.out _ _ (by exact Sl.mark _ _ _ _)).mono ?_
   rintro e w2 ⟨A2,n2,c2,rfl,hO2,hb2⟩
   have l2:n2≤100:=by rw[hO2.hn];simp[zan]
   dsimp only
   refine hK.out _ _ ?hS20 (fun hHeld=>?rest20)
   case hS20=>((try dsimp only);(((try go_split_ands);refine zbc ?_;all_goals exact bl)))
   case' rest20=>(clear hK K;try simp only[PqL,Act.put])
   refine wpAnyH_ready (rs:= [9]) (by kernel_rfl) (by simp) ?_
   refine AllReadyH.cons (o:=_) rfl (fun K hK=>?_) .nil
   go_simp
   refine (HP2.out _ _ _ _ _ hO2.hn l2 hO2.sl).mono ?_
   rintro e w3 ⟨A3,n3,c3,rfl,hO3,hb3⟩
   have l3:n3≤100:=by rw[hO3.hn];simp[zan]
   dsimp only
   refine hK.out _ _ ?hS23 (fun hHeld=>?rest23)
   case hS23=>((try dsimp only);(((try go_split_ands);refine zbc ?_;all_goals exact bl)))
   case' rest23=>(clear hK K;try simp only[PqL,Act.put])
   refine wpAnyH_ready (rs:= [14]) (by kernel_rfl) (by simp) ?_
   refine AllReadyH.cons (o:=_) rfl (fun K hK=>?_) .nil
   go_simp
   refine (HP3.out _ _ _ _ _ hO3.hn l3 hO3.sl).mono ?_
   rintro e w4 ⟨A4,n4,c4,rfl,hO4,hb4⟩
   have l4:n4≤100:=by rw[hO4.hn];simp[zan]
   dsimp only
   refine hK.out _ _ ?hS26 (fun hHeld=>?rest26)
   case hS26=>((try dsimp only);(((try go_split_ands);refine zbc ?_;all_goals exact bl)))
   case' rest26=>(clear hK K;try simp only[PqL,Act.put])
   refine wpAnyH_ready (rs:= [15]) (by kernel_rfl) (by simp) ?_
   refine AllReadyH.cons (o:=_) rfl (fun K hK=>?_) .nil
   go_simp
   refine hK.out _ _ ?hS29 (fun hHeld=>?rest29)
   case hS29=>((try dsimp only);(((try go_split_ands);refine zbc ?_;all_goals exact bl)))
   case' rest29=>(clear hK K;try simp only[PqL,Act.put])
   refine wpAnyH_done (by kernel_rfl) ?_ _
   have hEnd:=hHeld.2
   repeat (clear hHeld)
   have hbS:Below w1.heap.size w1 w4:=hEnd
   have hbx5:=hbx.below hbS z0
   have hbw5:=zbd hbS hbw1
   have d3:=hbx5.cell 2 rfl
   have hs5:=hs.below hbw5
   have HJ:=zak (show _ from zc1 A4 A n4 n c4 c _ l w4 hO4.hn HN.out (by omega) (by omega) hO4.sl hs5)
   clear b0 b1 b2 kcv i1 i2 i3 HP1 HP2 HP3 hbx
   go_wp2_with fail
   refine HJ.out.mono ?_
   rintro e w6 ⟨A6,n6,c6,rfl,hO6,hb6⟩
   have hbw6:=zbd hb6 hbw5
   have l6:n6=n4+n:=by rw[hO6.hn,hO4.hn,HN.out];simp;omega
   have HL6:=zak l6
   have l6':n6≤1100:=by omega
   clear l6
   go_wp2_with fail
   refine (zdw A6 _ c6 _ w6 hO6.hn (by omega) hO6.sl).mono ?_
   rintro e w7 ⟨A7,n7,c7,rfl,hO7,hb7⟩
   have hbw7:=zbd hb7 hbw6
   have l7:n7≤1200:=by rw[hO7.hn,zdt,← hO6.hn];omega
   go_wp2_with (at_builtin;refine zce _ rfl (.tmp 31) (.tmp 32) rfl w.heap.size _ _ _ _ rfl ((hO7.mono hbw6.size).alloc _) _ _ _ [0] rfl rfl (Sl.one _ _ _) (by omega) (zbf hbw7 _).size (n7+1) rfl ?_;intro A8 c8 w8 hown8 _ _ hb8)
   go_ret2
   exact⟨A8,n7+1,c8,rfl,by rw[HB.out];exact hown8,(zbf hbw7 _).trans hb8⟩
 · have h0':(er != 0)=true:=by simpa using h0
   have HB:=zak (zeb kind num n l hn (by rw[← her];exact h0))
   clear hn her h0
   go_enter Tryz.func173,Tryz.ntmps173
   go_wp2_with fail
   refine (HR.out _).mono ?_
   rintro e w1 ⟨rfl,hb1⟩
   go_wp2_with fail
   go_ret2
   exact⟨none,0,0,rfl,by rw[HB.out];exact zcd.nil _ _,zbd hb1 (zbf (Below.refl w.heap.size w) _)⟩
end
section
open Go.RowKit
set_option maxRecDepth 20000
set_option maxHeartbeats 1000000
attribute [local go_sem ↓] Go.wp_at_zero Go.wp_at_succ
theorem zek (A:Option Addr) (n c gb ga:Nat) (at_ wd:Int) (l:List UInt8) (x:Nat) (w:World) (hB:Blk w gb 23 #[.slice A n c]) (hA:Blk w ga 3 #[.int .i64 at_])
 (hn:n=l.length) (hc:n≤c) (hl:n≤35184372088832) (hs:Sl w A (l.map bv)) (h0:0≤at_) (at2:Int) (h2:at_+wd=at2) (h1:1≤wd) (h8:wd≤8) (ha:at_+wd≤n) (hx:x=leN ((l.drop at_.toNat).take wd.toNat)) :
 Calls Tryz.prog 207 #[.int .i64 wd,.pointer (some ⟨gb,0,none⟩),.pointer (some ⟨ga,0,none⟩)] w fun e w'=>e= .returned (.int .u64 (x:Nat))∧ Blk w' ga 3 #[.int .i64 at2]∧ w.grownBy w' (some ga):= by
 have HG:=zak (zc0 A n c l at_ wd w hn hc (by omega) h0 ha h1 h8 hs)
 rw[← hx] at HG
 have b0:=hB.cell 0 rfl
 have a0:=hA.cell 0 rfl
 have f0:=hA.frozen 0
 have zb:=hB.lt
 have za:=hA.lt
 have HH2:=zak h2
 clear hn hx h2
 go_enter Tryz.func207,Tryz.ntmps207
 go_wp2_with fail
 refine HG.out.mono ?_
 rintro e w1 ⟨rfl,rfl⟩
 go_wp2_with fail
 go_ret
 have h2:=HH2.out
 subst h2
 exact⟨rfl,hA.set_ 0 _,za9 (World.grownBy.refl _ _) (.inl rfl) _ _⟩
theorem zel (A:Option Addr) (n c:Nat) (l:List UInt8) (w:World) (x1 x2 x3:Nat) (hn:n=l.length) (hc:n≤c) (hl:n≤35184372088832) (h13:13≤n) (hs:Sl w A (l.map bv))
 (hx1:x1=leN ((l.drop 1).take 1)) (hx2:x2=leN ((l.drop 2).take 4)) (hx3:x3=leN ((l.drop 6).take 2)) (l1:x1≤255) (l2:x2≤4294967295) (l3:x3≤65535) :
 Calls Tryz.prog 177 #[.slice A n c] w fun e w'=>e= .returned (.tuple #[.agg #[.int .i64 (x1:Nat),.int .u32 (x2:Nat),.slice none 0 0],.int .i64 (x3:Nat)])∧ Below w.heap.size w w':=by
 have hk:=zbo w 23 92 3 #[.slice A n c] #[.int .i64 0,.int .u32 0,.slice none 0 0] #[.int .i64 1]
 have hs3:=((hs.alloc (.cells #[.slice A n c] 23)).alloc (.cells #[.int .i64 0,.int .u32 0,.slice none 0 0] 92)).alloc (.cells #[.int .i64 1] 3)
 have hb3:=zbf (zbf (zbf (Below.refl w.heap.size w) (.cells #[.slice A n c] 23)) (.cells #[.int .i64 0,.int .u32 0,.slice none 0 0] 92)) (.cells #[.int .i64 1] 3)
 have HF1:=zak (zek A n c w.heap.size (w.heap.size+1+1) 1 1 l x1 _ hk.1 hk.2.2 hn hc hl hs3 (by omega) 2 rfl (by omega) (by omega) (by omega) hx1)
 have HK:=zak hk
 have HN:=zak hn
 have HX:=zak (And.intro hx2 hx3)
 clear hk hn hx1 hx2 hx3
 go_enter Tryz.func177,Tryz.ntmps177
 go_wp2_with fail
 refine HF1.out.mono ?_
 rintro e w1 ⟨rfl,hA1,hg1⟩
 have hB1:=HK.out.1.grown hg1 (by intro h;injection h with h;omega)
 have hR1:=HK.out.2.1.grown hg1 (by intro h;injection h with h;omega)
 have hbw1:=hb3.grown hg1 (by simp;omega) (fun k hk=>by injection hk with hk;omega)
 have hs1:=hs.below hbw1
 have z1:=hA1.lt
 go_wp2_with fail
 refine (zek A n c w.heap.size (w.heap.size+1+1) 2 4 l x2 w1 hB1 hA1 HN.out hc hl hs1 (by omega) 6 rfl (by omega) (by omega) (by omega) HX.out.1).mono ?_
 rintro e w2 ⟨rfl,hA2,hg2⟩
 have hB2:=hB1.grown hg2 (by intro h;injection h with h;omega)
 have hR2:=hR1.grown hg2 (by intro h;injection h with h;omega)
 have hbw2:=hbw1.grown hg2 (by omega) (fun k hk=>by injection hk with hk;omega)
 have z2:=hA2.lt
 have hX3:=zbm w2 92 #[.int .i64 (x1:Nat),.int .u32 (x2:Nat),.slice none 0 0]
 have hB3:=hB2.alloc (.cells #[.int .i64 (x1:Nat),.int .u32 (x2:Nat),.slice none 0 0] 92)
 have hR3:=hR2.alloc (.cells #[.int .i64 (x1:Nat),.int .u32 (x2:Nat),.slice none 0 0] 92)
 have hA3:=hA2.alloc (.cells #[.int .i64 (x1:Nat),.int .u32 (x2:Nat),.slice none 0 0] 92)
 have hbw3:=zbf hbw2 (.cells #[.int .i64 (x1:Nat),.int .u32 (x2:Nat),.slice none 0 0] 92)
 have HF3:=zak (fun W (hB:Blk W w.heap.size 23 #[.slice A n c]) (hA:Blk W (w.heap.size+1+1) 3 #[.int .i64 6]) (hb:Below w.heap.size w W)=>
  zek A n c w.heap.size (w.heap.size+1+1) 6 2 l x3 W hB hA HN.out hc hl (hs.below hb) (by omega) 8 rfl (by omega) (by omega) (by omega) HX.out.2)
 have zz:w2.heap.size < (w2.alloc (.cells #[.int .i64 (x1:Nat),.int .u32 (x2:Nat),.slice none 0 0] 92)).heap.size:=hX3.lt
 have i3:IntKind.i64.wrap (x3:Int)=x3:=IntWalk.i64_in _ (by omega)
 have HH:=zak (And.intro hX3 (And.intro hB3 (And.intro hR3 (And.intro hA3 hbw3))))
 clear hX3 hB3 hR3 hA3 hB1 hR1 hA1 hg1 hs1 hB2 hR2 hA2 hg2 hs3 HF1
 go_wp2_with fail
 generalize w2.alloc (.cells #[.int .i64 (x1:Nat),.int .u32 (x2:Nat),.slice none 0 0] 92)=W at *
 generalize w2.heap.size=g at *
 obtain⟨hX,hB,hR,hA,hb⟩:= HH.out
 clear HH
 have r0:=hR.cell 0 rfl
 have r1:=hR.cell 1 rfl
 have r2:=hR.cell 2 rfl
 have f0:=hR.frozen 0
 have f1:=hR.frozen 1
 have f2:=hR.frozen 2
 refine wp_region_held_drew (S:=(fun w'=>w'.cell? ⟨g,0,none⟩=some (.int .i64 (x1:Nat))∧ w'.cell? ⟨g,1,none⟩=some (.int .u32 (x2:Nat))∧ w'.cell? ⟨g,2,none⟩=some (.slice none 0 0))) (by kernel_rfl) ?hS1 (fun hHeld=>?rest1)
 case hS1=>((try dsimp only);(exact⟨hX.cell 0 rfl,hX.cell 1 rfl,hX.cell 2 rfl⟩))
 case' rest1=>skip
 iterate 2 (refine tkN ?_;try simp only[PqL,Act.put])
 refine wpAnyH_ready (rs:= [2]) (by kernel_rfl) (by simp) ?_
 refine AllReadyH.cons (o:=_) rfl (fun K hK=>?_) .nil
 go_simp
 refine (HF3.out _ hB.drew hA.drew hb.drew).mono ?_
 rintro e w3 ⟨rfl,hA3,hg3⟩
 have hX3:=hX.drew.grown hg3 (by intro h;injection h with h;omega)
 have hR3:=hR.drew.grown hg3 (by intro h;injection h with h;omega)
 have hb3':=hb.drew.grown hg3 (by simp;omega) (fun k hk=>by injection hk with hk;omega)
 have q0:=hR3.cell 0 rfl
 have q1:=hR3.cell 1 rfl
 have q2:=hR3.cell 2 rfl
 have e0:=hR3.frozen 0
 have e1:=hR3.frozen 1
 have e2:=hR3.frozen 2
 dsimp only
 refine hK.out _ _ ?hS6 (fun hHeld=>?rest6)
 case hS6=>((try dsimp only);(exact⟨hX3.cell 0 rfl,hX3.cell 1 rfl,hX3.cell 2 rfl⟩))
 case' rest6=>(clear hK K;try simp only[PqL,Act.put])
 refine tkH 3 ?_
 try simp only[PqL,Act.put]
 refine wpAnyH_ready (rs:= [4]) (by kernel_rfl) (by simp) ?_
 refine AllReadyH.cons (o:=_) rfl (fun K hK=>?_) .nil
 go_simp
 refine hK.out _ _ ?hS10 (fun hHeld=>?rest10)
 case hS10=>((try dsimp only);(exact⟨((((hX3.far (by simp;omega) _).far (by simp;omega) _).far (by simp;omega) _)).cell 0 rfl,((((hX3.far (by simp;omega) _).far (by simp;omega) _).far (by simp;omega) _)).cell 1 rfl,((((hX3.far (by simp;omega) _).far (by simp;omega) _).far (by simp;omega) _)).cell 2 rfl⟩))
 case' rest10=>(clear hK K;try simp only[PqL,Act.put])
 refine wpAnyH_ready (rs:= [5]) (by kernel_rfl) (by simp) ?_
 refine AllReadyH.cons (o:=_) rfl (fun K hK=>?_) .nil
 go_simp
 refine hK.out _ _ ?hS13 (fun hHeld=>?rest13)
 case hS13=>((try dsimp only);(assumption))
 case' rest13=>(clear hK K;try simp only[PqL,Act.put])
 refine wpAnyH_done (by kernel_rfl) ?_ _
 have hRf:=((hR3.set_ 0 (.int .i64 (x1:Nat))).set_ 1 (.int .u32 (x2:Nat))).set_ 2 (.slice none 0 0)
 have hbf:=((hb3'.setCell (p:=⟨w.heap.size+1,0,none⟩) (by simp) (.int .i64 (x1:Nat))).setCell (p:=⟨w.heap.size+1,1,none⟩) (by simp) (.int .u32 (x2:Nat))).setCell (p:=⟨w.heap.size+1,2,none⟩) (by simp) (.slice none 0 0)
 have d0:=hRf.cell 0 rfl
 have d1:=hRf.cell 1 rfl
 have d2:=hRf.cell 2 rfl
 clear q0 q1 q2 e0 e1 e2
 repeat (clear hHeld)
 generalize ((w3.setCell ⟨w.heap.size+1,0,none⟩ (.int .i64 (x1:Nat))).setCell ⟨w.heap.size+1,1,none⟩ (.int .u32 (x2:Nat))).setCell ⟨w.heap.size+1,2,none⟩ (.slice none 0 0)=W4 at *
 go_wp2_with fail
 refine bodyPost_ret (v:= .tuple #[.agg #[.int .i64 (x1:Nat),.int .u32 (x2:Nat),.slice none 0 0],.int .i64 (x3:Nat)]) (by simp[results,Tryz.results177,go_sem,d0,d1,d2]) rfl ⟨rfl,hbf⟩
end
section
open Go.RowKit
set_option maxRecDepth 20000
set_option maxHeartbeats 400000
attribute [local go_sem ↓] Go.wp_at_zero Go.wp_at_succ
structure PR where
 kind:Int
 num:Nat
 data:List UInt8
 to:Int
 er:Int
def recX1 (x:List UInt8):Nat:=leN ((x.drop 1).take 1)
def recX2 (x:List UInt8):Nat:=leN ((x.drop 2).take 4)
def recX3 (x:List UInt8):Nat:=leN ((x.drop 6).take 2)
def recAt (x:List UInt8) (at_:Int):PR:=
 if x.length < 13 then ⟨0,0,[],0,2⟩ else
 if (x.getD 0 0).toNat≠87 then ⟨0,0,[],0,4⟩ else
 if fitsR (recX1 x) (recX2 x) (recX3 x)=false then ⟨0,0,[],0,4⟩ else
 if x.length < recX3 x+13 then ⟨0,0,[],0,2⟩ else
 if openE (x.take (recX3 x+12))≠ 0 then ⟨0,0,[],0,5⟩ else
 if (x.getD (recX3 x+12) 0).toNat≠0 then ⟨0,0,[],0,8⟩ else
 ⟨recX1 x,recX2 x,(x.drop 8).take (recX3 x),at_+recX3 x+13,0⟩
def recParse (l:List UInt8) (at_:Int):PR:=
 if at_ < 0∨(l.length:Int) < at_ then ⟨0,0,[],0,1⟩ else recAt (l.drop at_.toNat) at_
theorem zem (x:List UInt8):recX1 x≤255:=by
 have h:=zao ((x.drop 1).take 1)
 have h2:((x.drop 1).take 1).length≤1:=by simp;omega
 have h3:256 ^ ((x.drop 1).take 1).length≤256 ^ 1:=Nat.pow_le_pow_right (by omega) h2
 unfold recX1;omega
theorem zen (x:List UInt8):recX2 x≤4294967295:=by
 have h:=zao ((x.drop 2).take 4)
 have h2:((x.drop 2).take 4).length≤4:=by simp;omega
 have h3:256 ^ ((x.drop 2).take 4).length≤256 ^ 4:=Nat.pow_le_pow_right (by omega) h2
 unfold recX2;omega
theorem zeo (x:List UInt8):recX3 x≤65535:=by
 have h:=zao ((x.drop 6).take 2)
 have h2:((x.drop 6).take 2).length≤2:=by simp;omega
 have h3:256 ^ ((x.drop 6).take 2).length≤256 ^ 2:=Nat.pow_le_pow_right (by omega) h2
 unfold recX3;omega
theorem zep (l:List UInt8) (h:4≤l.length):openE l=0∨openE l=5:=by
 unfold openE
 rw[if_neg (by omega)]
 split<;>simp
theorem zeq (l:List UInt8) (k:Nat) (hk:k≤l.length):recParse l (k:Int)=recAt (l.drop k) k:=by
 rw[recParse,if_neg (by omega)];rfl
section
variable {x:List UInt8} {at_:Int}
theorem zer (h:x.length < 13):recAt x at_=⟨0,0,[],0,2⟩:= by rw[recAt,if_pos h]
theorem zes (h:13≤x.length) (h0:(x.getD 0 0).toNat≠87):recAt x at_=⟨0,0,[],0,4⟩:= by rw[recAt,if_neg (by omega),if_pos h0]
theorem zet (h:13≤x.length) (h0:(x.getD 0 0).toNat=87) (hf:fitsR (recX1 x) (recX2 x) (recX3 x)=false):recAt x at_=⟨0,0,[],0,4⟩:= by
 rw[recAt,if_neg (by omega),if_neg (by omega),if_pos hf]
theorem zeu (h:13≤x.length) (h0:(x.getD 0 0).toNat=87) (hf:fitsR (recX1 x) (recX2 x) (recX3 x)=true) (h1:x.length < recX3 x+13):recAt x at_=⟨0,0,[],0,2⟩:= by
 rw[recAt,if_neg (by omega),if_neg (by omega),if_neg (by simp[hf]),if_pos h1]
theorem zev (h:13≤x.length) (h0:(x.getD 0 0).toNat=87) (hf:fitsR (recX1 x) (recX2 x) (recX3 x)=true) (h1:recX3 x+13≤x.length) (h2:openE (x.take (recX3 x+12))≠ 0) :
 recAt x at_=⟨0,0,[],0,5⟩:= by
 rw[recAt,if_neg (by omega),if_neg (by omega),if_neg (by simp[hf]),if_neg (by omega),if_pos h2]
theorem zew (h:13≤x.length) (h0:(x.getD 0 0).toNat=87) (hf:fitsR (recX1 x) (recX2 x) (recX3 x)=true) (h1:recX3 x+13≤x.length) (h2:openE (x.take (recX3 x+12))=0)
 (h3:(x.getD (recX3 x+12) 0).toNat≠0):recAt x at_=⟨0,0,[],0,8⟩:= by
 rw[recAt,if_neg (by omega),if_neg (by omega),if_neg (by simp[hf]),if_neg (by omega),if_neg (by simp[h2]),if_pos h3]
theorem zex (h:13≤x.length) (h0:(x.getD 0 0).toNat=87) (hf:fitsR (recX1 x) (recX2 x) (recX3 x)=true) (h1:recX3 x+13≤x.length) (h2:openE (x.take (recX3 x+12))=0)
 (h3:(x.getD (recX3 x+12) 0).toNat=0):recAt x at_=⟨recX1 x,recX2 x,(x.drop 8).take (recX3 x),at_+recX3 x+13,0⟩:= by
 rw[recAt,if_neg (by omega),if_neg (by omega),if_neg (by simp[hf]),if_neg (by omega),if_neg (by simp[h2]),if_neg (by omega)]
end
def ParseR (p:PR) (w:World) (e:Ending) (w':World):Prop:=
 ∃ A' n' c',e= .returned (.tuple #[.agg #[.int .i64 p.kind,.int .u32 (p.num:Nat),.slice A' n' c'],.int .i64 p.to,.int .i64 p.er])∧ zcd w' w.heap.size A' n' c' p.data∧Below w.heap.size w w'
theorem zey (p:PR) (er:Int) (hp:p=⟨0,0,[],0,er⟩) {w w':World} (hb:Below w.heap.size w w') :
 ParseR p w (.returned (.tuple #[.agg #[.int .i64 0,.int .u32 0,.slice none 0 0],.int .i64 0,.int .i64 er])) w':=by
 subst hp
 exact⟨none,0,0,rfl,zcd.nil _ _,hb⟩
theorem zez (x:List UInt8) (j:Nat) (h:j < x.length):(x.getD j 0).toNat=(x[j]).toNat:=by
 rw[List.getD_eq_getElem?_getD,List.getElem?_eq_getElem h];rfl
theorem ze0 (A:Option Addr) (n c:Nat) (at_:Int) (l:List UInt8) (w:World) (p:PR) (hp:p=recParse l at_) (hn:n=l.length) (hc:n≤c) (hl:n≤35184372088832) (hs:Sl w A (l.map bv)) :
 Calls Tryz.prog 148 #[.slice A n c,.int .i64 at_] w (ParseR p w):= by
 by_cases h0:at_ < 0
 · have HP:=zak (show p=⟨0,0,[],0,1⟩ by rw[hp,recParse,if_pos (.inl h0)])
   clear hp hn
   go_enter Tryz.func148,Tryz.ntmps148
   go_wp2_with fail
   exact bodyPost_ret (v:= .tuple #[.agg #[.int .i64 0,.int .u32 0,.slice none 0 0],.int .i64 0,.int .i64 1]) (by simp[results,Tryz.results148,go_sem]) rfl (zey p 1 HP.out bl)
 by_cases h1:(n:Int) < at_
 · have HP:=zak (show p=⟨0,0,[],0,1⟩ by rw[hp,recParse,if_pos (.inr (by omega))])
   clear hp hn
   go_enter Tryz.func148,Tryz.ntmps148
   go_wp2_with fail
   exact bodyPost_ret (v:= .tuple #[.agg #[.int .i64 0,.int .u32 0,.slice none 0 0],.int .i64 0,.int .i64 1]) (by simp[results,Tryz.results148,go_sem]) rfl (zey p 1 HP.out bl)
 obtain⟨k,rfl⟩:= Int.eq_ofNat_of_zero_le (show 0≤at_ by omega)
 have hk:k≤n:=by omega
 rw[zeq l k (by omega)] at hp
 have hxl:(l.drop k).length=n - k:=by simp;omega
 have hsx:=hs.cut1 (k:=k) (c:=c) (by simp;omega)
 rw[← List.map_drop] at hsx
 have hcut:=fun W=>zch A n c k (k:Int) .i64 rfl hk hc W
 have hm:n - k≤35184372088832:=by omega
 have hmc:n - k≤c - k:=by omega
 have hkm:k+(n - k)≤ 35184372088832:=by omega
 generalize cutA A c k 1=X at *
 generalize l.drop k=x at *
 generalize n - k=m at *
 generalize c - k=mc at *
 by_cases h13:m < 13
 · have HP:=zak (show p=⟨0,0,[],0,2⟩ by rw[hp,zer (by omega)])
   clear hp hn hxl
   have hlt:(m:Int) < 13:=by omega
   go_enter Tryz.func148,Tryz.ntmps148
   go_wp2_with fail
   exact bodyPost_ret (v:= .tuple #[.agg #[.int .i64 0,.int .u32 0,.slice none 0 0],.int .i64 0,.int .i64 2]) (by simp[results,Tryz.results148,go_sem]) rfl (zey p 2 HP.out bl)
 obtain⟨bx,ox,rfl,hc0⟩:= hsx.byte_ (j:=0) (by omega)
 obtain⟨y0,hy0⟩:∃ y,y=(x[0]'(by omega)).toNat:=⟨_,rfl⟩
 rw[← hy0,Nat.add_zero] at hc0
 have hg0:=zez x 0 (by omega)
 rw[← hy0] at hg0
 have ly0:y0≤255:=by rw[hy0];have:=(x[0]'(by omega)).toNat_lt;omega
 have zx:=zal hc0
 simp only[] at zx
 clear hy0
 by_cases h87:y0=87
 case neg=>
  have HP:=zak (show p=⟨0,0,[],0,4⟩ by rw[hp,zes (by omega) (by omega)])
  have hb87:((y0:Int) != 87)=true:=by simp;omega
  clear hp hn hxl hg0 h87
  go_enter Tryz.func148,Tryz.ntmps148
  go_wp2_with fail
  exact bodyPost_ret (v:= .tuple #[.agg #[.int .i64 0,.int .u32 0,.slice none 0 0],.int .i64 0,.int .i64 4]) (by simp[results,Tryz.results148,go_sem]) rfl (zey p 4 HP.out bl)
 subst h87
 have hx1:=zem x
 have hx2:=zen x
 have hx3:=zeo x
 have HF:=zak (fun W (h:Sl W (some ⟨bx,ox,none⟩) (x.map bv))=> zel (some ⟨bx,ox,none⟩) m mc x W _ _ _ hxl.symm hmc (by omega) (by omega) h (show recX1 x=_ from rfl) (show recX2 x=_ from rfl) (show recX3 x=_ from rfl) hx1 hx2 hx3)
 by_cases hf:fitsR (recX1 x) (recX2 x) (recX3 x)=true
 case neg=>
  have hf:fitsR (recX1 x) (recX2 x) (recX3 x)=false:=by simpa using hf
  have HP:=zak (show p=⟨0,0,[],0,4⟩ by rw[hp,zet (by omega) hg0 hf])
  clear hp hn hxl hg0
  go_enter Tryz.func148,Tryz.ntmps148
  go_wp2_with fail
  refine (HF.out _ (hsx.alloc _)).mono ?_
  rintro e w1 ⟨rfl,hb1⟩
  have hR1:=(zbm w 92 #[.int .i64 0,.int .u32 0,.slice none 0 0]).below hb1 (by simp)
  have hbw1:=zbd hb1 (zbf (Below.refl w.heap.size w) _)
  have z1:=hR1.lt
  go_wp2_with fail
  refine (zd6 none (recX1 x) (recX2 x) 0 0 (recX3 x) _).mono ?_
  rintro e w2 ⟨rfl,hb2⟩
  have hR2:=(hR1.alloc (.cells #[.int .i64 (recX1 x:Nat),.int .u32 (recX2 x:Nat),.slice none 0 0] 92)).below hb2 (by simp;omega)
  have hX2:=(zbm w1 92 #[.int .i64 (recX1 x:Nat),.int .u32 (recX2 x:Nat),.slice none 0 0]).below hb2 (by simp)
  have hbw2:=zbd hb2 (zbf hbw1 _)
  have z2:=hX2.lt
  have r0:=hR2.cell 0 rfl
  have r1:=hR2.cell 1 rfl
  have r2:=hR2.cell 2 rfl
  have f0:=hR2.frozen 0
  have f1:=hR2.frozen 1
  have f2:=hR2.frozen 2
  go_wp2_with fail
  exact bodyPost_ret (v:= .tuple #[.agg #[.int .i64 0,.int .u32 0,.slice none 0 0],.int .i64 0,.int .i64 4]) (by simp[results,Tryz.results148,go_sem,r0,r1,r2,f0,f1,f2]) rfl (zey p 4 HP.out bl)
 by_cases hlt:m < recX3 x+13
 · have HP:=zak (show p=⟨0,0,[],0,2⟩ by rw[hp,zeu (by omega) hg0 hf (by omega)])
   have hlt':(m:Int) < recX3 x+13:=by omega
   clear hp hn hxl hg0
   go_enter Tryz.func148,Tryz.ntmps148
   go_wp2_with fail
   refine (HF.out _ (hsx.alloc _)).mono ?_
   rintro e w1 ⟨rfl,hb1⟩
   have hR1:=(zbm w 92 #[.int .i64 0,.int .u32 0,.slice none 0 0]).below hb1 (by simp)
   have hbw1:=zbd hb1 (zbf (Below.refl w.heap.size w) _)
   have z1:=hR1.lt
   go_wp2_with fail
   refine (zd6 none (recX1 x) (recX2 x) 0 0 (recX3 x) _).mono ?_
   rintro e w2 ⟨rfl,hb2⟩
   have hR2:=(hR1.alloc (.cells #[.int .i64 (recX1 x:Nat),.int .u32 (recX2 x:Nat),.slice none 0 0] 92)).below hb2 (by simp;omega)
   have hX2:=(zbm w1 92 #[.int .i64 (recX1 x:Nat),.int .u32 (recX2 x:Nat),.slice none 0 0]).below hb2 (by simp)
   have hbw2:=zbd hb2 (zbf hbw1 _)
   have z2:=hX2.lt
   have r0:=hR2.cell 0 rfl
   have r1:=hR2.cell 1 rfl
   have r2:=hR2.cell 2 rfl
   have f0:=hR2.frozen 0
   have f1:=hR2.frozen 1
   have f2:=hR2.frozen 2
   go_wp2_with fail
   exact bodyPost_ret (v:= .tuple #[.agg #[.int .i64 0,.int .u32 0,.slice none 0 0],.int .i64 0,.int .i64 2]) (by simp[results,Tryz.results148,go_sem,r0,r1,r2,f0,f1,f2]) rfl (zey p 2 HP.out bl)
 have hge:(recX3 x:Int)+13≤m:=by omega
 have HO:=zak (fun W (h:Sl W (some ⟨bx,ox,none⟩) (x.map bv))=> zd2 (some ⟨bx,ox,none⟩) (8+recX3 x+4) mc (x.take (recX3 x+12)) W (by simp;omega) (by omega) (by omega) (by rw[List.map_take];exact h.take _))
 obtain⟨b9,o9,hA9,hc9⟩:= hsx.byte_ (j:=8+recX3 x+4) (by omega)
 injection hA9 with hA9
 injection hA9 with q1 q2
 subst q1
 subst q2
 obtain⟨y9,hy9⟩:∃ y,y=(x[8+recX3 x+4]'(by omega)).toNat:=⟨_,rfl⟩
 rw[← hy9] at hc9
 have hg9:=zez x (8+recX3 x+4) (by omega)
 rw[← hy9,show 8+recX3 x+4=recX3 x+12 by omega] at hg9
 have ly9:y9≤255:=by rw[hy9];have:=(x[8+recX3 x+4]'(by omega)).toNat_lt;omega
 clear hy9
 rcases zep (x.take (recX3 x+12)) (by simp;omega) with he | he
 case inr=>
  have HP:=zak (show p=⟨0,0,[],0,5⟩ by rw[hp,zev (by omega) hg0 hf (by omega) (by rw[he];decide)])
  clear hp hn hxl hg0 hg9
  go_enter Tryz.func148,Tryz.ntmps148
  go_wp2_with fail
  refine (HF.out _ (hsx.alloc _)).mono ?_
  rintro e w1 ⟨rfl,hb1⟩
  have hR1:=(zbm w 92 #[.int .i64 0,.int .u32 0,.slice none 0 0]).below hb1 (by simp)
  have hbw1:=zbd hb1 (zbf (Below.refl w.heap.size w) _)
  have z1:=hR1.lt
  go_wp2_with fail
  refine (zd6 none (recX1 x) (recX2 x) 0 0 (recX3 x) _).mono ?_
  rintro e w2 ⟨rfl,hb2⟩
  have hR2:=(hR1.alloc (.cells #[.int .i64 (recX1 x:Nat),.int .u32 (recX2 x:Nat),.slice none 0 0] 92)).below hb2 (by simp;omega)
  have hX2:=(zbm w1 92 #[.int .i64 (recX1 x:Nat),.int .u32 (recX2 x:Nat),.slice none 0 0]).below hb2 (by simp)
  have hbw2:=zbd hb2 (zbf hbw1 _)
  have z2:=hX2.lt
  have r0:=hR2.cell 0 rfl
  have r1:=hR2.cell 1 rfl
  have r2:=hR2.cell 2 rfl
  have f0:=hR2.frozen 0
  have f1:=hR2.frozen 1
  have f2:=hR2.frozen 2
  go_wp2_with fail
  refine (HO.out _ (hsx.below hbw2)).mono ?_
  rintro e w3 ⟨A3,n3,c3,d3,rfl,hO3,_,hb3⟩
  have hR3:=hR2.below hb3 (by omega)
  have hX3:=hX2.below hb3 (by omega)
  have hbw3:=zbd hb3 hbw2
  have z3:=hX3.lt
  clear r0 r1 r2 f0 f1 f2
  have r0:=hR3.cell 0 rfl
  have r1:=hR3.cell 1 rfl
  have r2:=hR3.cell 2 rfl
  have f0:=hR3.frozen 0
  have f1:=hR3.frozen 1
  have f2:=hR3.frozen 2
  have x0:=hX3.cell 0 rfl
  have x1:=hX3.cell 1 rfl
  have x2:=hX3.cell 2 rfl
  have g2:=hX3.frozen 2
  have c9:=(hbw3.cell (p:=⟨bx,ox+(8+recX3 x+4),none⟩) zx).trans hc9
  go_wp2_with fail
  exact bodyPost_ret (v:= .tuple #[.agg #[.int .i64 0,.int .u32 0,.slice none 0 0],.int .i64 0,.int .i64 5]) (by simp[results,Tryz.results148,go_sem,r0,r1,r2,f0,f1,f2]) rfl (zey p 5 HP.out bl)
 by_cases h9:y9=0
 case neg=>
  have HP:=zak (show p=⟨0,0,[],0,8⟩ by rw[hp,zew (by omega) hg0 hf (by omega) he (by omega)])
  have h9':((y9:Int) != 0)=true:=by simp;omega
  clear hp hn hxl hg0 hg9 h9
  go_enter Tryz.func148,Tryz.ntmps148
  go_wp2_with fail
  refine (HF.out _ (hsx.alloc _)).mono ?_
  rintro e w1 ⟨rfl,hb1⟩
  have hR1:=(zbm w 92 #[.int .i64 0,.int .u32 0,.slice none 0 0]).below hb1 (by simp)
  have hbw1:=zbd hb1 (zbf (Below.refl w.heap.size w) _)
  have z1:=hR1.lt
  go_wp2_with fail
  refine (zd6 none (recX1 x) (recX2 x) 0 0 (recX3 x) _).mono ?_
  rintro e w2 ⟨rfl,hb2⟩
  have hR2:=(hR1.alloc (.cells #[.int .i64 (recX1 x:Nat),.int .u32 (recX2 x:Nat),.slice none 0 0] 92)).below hb2 (by simp;omega)
  have hX2:=(zbm w1 92 #[.int .i64 (recX1 x:Nat),.int .u32 (recX2 x:Nat),.slice none 0 0]).below hb2 (by simp)
  have hbw2:=zbd hb2 (zbf hbw1 _)
  have z2:=hX2.lt
  have r0:=hR2.cell 0 rfl
  have r1:=hR2.cell 1 rfl
  have r2:=hR2.cell 2 rfl
  have f0:=hR2.frozen 0
  have f1:=hR2.frozen 1
  have f2:=hR2.frozen 2
  go_wp2_with fail
  refine (HO.out _ (hsx.below hbw2)).mono ?_
  rintro e w3 ⟨A3,n3,c3,d3,rfl,hO3,_,hb3⟩
  have hR3:=hR2.below hb3 (by omega)
  have hX3:=hX2.below hb3 (by omega)
  have hbw3:=zbd hb3 hbw2
  have z3:=hX3.lt
  clear r0 r1 r2 f0 f1 f2
  have r0:=hR3.cell 0 rfl
  have r1:=hR3.cell 1 rfl
  have r2:=hR3.cell 2 rfl
  have f0:=hR3.frozen 0
  have f1:=hR3.frozen 1
  have f2:=hR3.frozen 2
  have x0:=hX3.cell 0 rfl
  have x1:=hX3.cell 1 rfl
  have x2:=hX3.cell 2 rfl
  have g2:=hX3.frozen 2
  have c9:=(hbw3.cell (p:=⟨bx,ox+(8+recX3 x+4),none⟩) zx).trans hc9
  go_wp2_with fail
  exact bodyPost_ret (v:= .tuple #[.agg #[.int .i64 0,.int .u32 0,.slice none 0 0],.int .i64 0,.int .i64 8]) (by simp[results,Tryz.results148,go_sem,r0,r1,r2,f0,f1,f2]) rfl (zey p 8 HP.out bl)
 subst h9
 have HP:=zak (show p=⟨recX1 x,recX2 x,(x.drop 8).take (recX3 x),(k:Int)+recX3 x+13,0⟩ by rw[hp,zex (by omega) hg0 hf (by omega) he (by omega)])
 have hcut2:=fun W=>zci (some ⟨bx,ox,none⟩) m mc 8 (8+recX3 x) 8 (8+(recX3 x:Int)) .i64 .i64 rfl (by omega) (by omega) (by omega) W
 rw[show 8+recX3 x - 8=recX3 x by omega] at hcut2
 have HLD:=zak (show ((x.drop 8).take (recX3 x)).length=recX3 x by simp;omega)
 have hsd:Sl w (cutA (some ⟨bx,ox,none⟩) mc 8 1) (((x.drop 8).take (recX3 x)).map bv):= by
  rw[List.map_take,List.map_drop]
  exact (hsx.cut1 (by simp;omega)).take _
 clear hp hn hxl hg0 hg9
 go_enter Tryz.func148,Tryz.ntmps148
 go_wp2_with fail
 refine (HF.out _ (hsx.alloc _)).mono ?_
 rintro e w1 ⟨rfl,hb1⟩
 have hR1:=(zbm w 92 #[.int .i64 0,.int .u32 0,.slice none 0 0]).below hb1 (by simp)
 have hbw1:=zbd hb1 (zbf (Below.refl w.heap.size w) _)
 have z1:=hR1.lt
 go_wp2_with fail
 refine (zd6 none (recX1 x) (recX2 x) 0 0 (recX3 x) _).mono ?_
 rintro e w2 ⟨rfl,hb2⟩
 have hR2:=(hR1.alloc (.cells #[.int .i64 (recX1 x:Nat),.int .u32 (recX2 x:Nat),.slice none 0 0] 92)).below hb2 (by simp;omega)
 have hX2:=(zbm w1 92 #[.int .i64 (recX1 x:Nat),.int .u32 (recX2 x:Nat),.slice none 0 0]).below hb2 (by simp)
 have hbw2:=zbd hb2 (zbf hbw1 _)
 have z2:=hX2.lt
 have r0:=hR2.cell 0 rfl
 have r1:=hR2.cell 1 rfl
 have r2:=hR2.cell 2 rfl
 have f0:=hR2.frozen 0
 have f1:=hR2.frozen 1
 have f2:=hR2.frozen 2
 go_wp2_with fail
 refine (HO.out _ (hsx.below hbw2)).mono ?_
 rintro e w3 ⟨A3,n3,c3,d3,rfl,hO3,_,hb3⟩
 have hR3:=hR2.below hb3 (by omega)
 have hX3:=hX2.below hb3 (by omega)
 have hbw3:=zbd hb3 hbw2
 have z3:=hX3.lt
 clear r0 r1 r2 f0 f1 f2
 have r0:=hR3.cell 0 rfl
 have r1:=hR3.cell 1 rfl
 have r2:=hR3.cell 2 rfl
 have f0:=hR3.frozen 0
 have f1:=hR3.frozen 1
 have f2:=hR3.frozen 2
 have x0:=hX3.cell 0 rfl
 have x1:=hX3.cell 1 rfl
 have x2:=hX3.cell 2 rfl
 have g2:=hX3.frozen 2
 have c9:=(hbw3.cell (p:=⟨bx,ox+(8+recX3 x+4),none⟩) zx).trans hc9
 go_wp2_with (at_builtin;refine zce _ rfl (.const (.slice none 0 0)) (.tmp 77) rfl w3.heap.size _ _ _ _ rfl (zcd.nil _ _) _ _ _ ((x.drop 8).take (recX3 x)) rfl HLD.out.symm (hsd.below hbw3) (by omega) (Nat.le_refl _) (recX3 x) (by omega) ?_;intro A4 c4 w4 hO4 hg4 _ hb4;have hR4:=hR3.grown hg4 (by simp[Value.ownBlock]);have hX4:=hX3.grown hg4 (by simp[Value.ownBlock]);clear r0 r1 r2 f0 f1 f2 x0 x1 x2 g2;have r0:=hR4.cell 0 rfl;have r1:=hR4.cell 1 rfl;have r2:=hR4.cell 2 rfl;have f0:=hR4.frozen 0;have f1:=hR4.frozen 1;have f2:=hR4.frozen 2;have x0:=hX4.cell 0 rfl;have x1:=hX4.cell 1 rfl;have x2:=hX4.cell 2 rfl;have g2:=hX4.frozen 2)
 have hRf:=((hR4.far (p:=⟨w1.heap.size,2,none⟩) (by simp;omega) (.slice A4 (recX3 x) c4)).set_ 0 (.int .i64 (recX1 x:Nat))).set_ 1 (.int .u32 (recX2 x:Nat)) |>.set_ 2 (.slice A4 (recX3 x) c4)
 have hbw4:Below w.heap.size w w4:=zbd hb4 hbw3
 have hbf:=(((hbw4.setCell (p:=⟨w1.heap.size,2,none⟩) (by simp;omega) (.slice A4 (recX3 x) c4)).setCell (p:=⟨w.heap.size,0,none⟩) (by simp) (.int .i64 (recX1 x:Nat))).setCell (p:=⟨w.heap.size,1,none⟩) (by simp) (.int .u32 (recX2 x:Nat))).setCell (p:=⟨w.heap.size,2,none⟩) (by simp) (.slice A4 (recX3 x) c4)
 have hOf:=((((hO4.set_ (p:=⟨w1.heap.size,2,none⟩) (by simp;omega) (.slice A4 (recX3 x) c4)).set_ (p:=⟨w.heap.size,0,none⟩) (by simp;omega) (.int .i64 (recX1 x:Nat))).set_ (p:=⟨w.heap.size,1,none⟩) (by simp;omega) (.int .u32 (recX2 x:Nat))).set_ (p:=⟨w.heap.size,2,none⟩) (by simp;omega) (.slice A4 (recX3 x) c4)).mono (B':=w.heap.size) (by omega)
 have d0:=hRf.cell 0 rfl
 have d1:=hRf.cell 1 rfl
 have d2:=hRf.cell 2 rfl
 refine bodyPost_ret (v:= .tuple #[.agg #[.int .i64 (recX1 x:Nat),.int .u32 (recX2 x:Nat),.slice A4 (recX3 x) c4],.int .i64 ((k:Int)+(recX3 x:Nat)+13),.int .i64 0]) (by simp[results,Tryz.results148,go_sem,d0,d1,d2]) rfl ?_
 have hp:=HP.out
 subst hp
 exact⟨A4,recX3 x,c4,rfl,hOf,hbf⟩
end
end Go.Proofs.YtehabbnohoomjaaGreatDoor
