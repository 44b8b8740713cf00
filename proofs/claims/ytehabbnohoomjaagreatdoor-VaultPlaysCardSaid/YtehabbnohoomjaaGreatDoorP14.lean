/- None -/
import Derived.Test.YtehabbnohoomjaaGreatDoorP13
import Derived.Deep.DeepCutAuto
import Derived.Deep.Light
namespace Go.Proofs.YtehabbnohoomjaaGreatDoor
set_option linter.unusedVariables false
set_option linter.unusedSimpArgs false
set_option linter.unnecessarySimpa false
section
open Go.RowKit
set_option maxRecDepth 20000
set_option maxHeartbeats 4000000
attribute [local go_sem ↓] Go.wp_at_zero Go.wp_at_succ
theorem zjf (A:Option Addr) (n c:Nat) (l:List UInt8) (w:World) (hn:n=l.length) (hc:n≤c) (hl:n≤35184372088832) (hs:Sl w A (l.map bv)) :
 Calls Tryz.prog 197 #[.slice A n c] w (LookR (lookL l) w):= by
 have HN:=zak hn
 clear hn
 go_enter Tryz.func197,Tryz.ntmps197
 go_wp2_with fail
 go_loopw [4,5,6,7] (fun _ _ _ _ wr=> ∃ x A' n' c' f,Blk wr (w.heap.size+1) 230 #[.int .i64 x.k,.int .u32 (x.m:Nat),.slice A' n' c',.int .i64 (x.cnt:Nat),.int .i64 (x.en:Nat),.bool false]∧ zcd wr (w.heap.size+1+1) A' n' c' x.d∧
  Blk wr w.heap.size 230 #[.int .i64 0,.int .u32 0,.slice none 0 0,.int .i64 0,.int .i64 0,.bool false]∧ Hid (lookE l=lookF l f x∧n≤f+x.en)∧ x.en≤n∧x.cnt≤x.en∧U32 x.m∧Below w.heap.size w wr)
  (fun _ _ _ _ wr=>n - (intOf ((wr.cell? ⟨w.heap.size+1,4,none⟩).getD undef)).toNat)
 case atStart=>
  exact⟨lookZ,none,0,0,l.length,(zbn _ _ _ _ _).2,zcd.nil _ _,(zbn _ _ _ _ _).1,zak ⟨rfl,by have:=HN.out;omega⟩,by show 0≤n;omega,Nat.le_refl _,by show 0 < _;decide,zbf (zbf (Below.refl _ _) _) _⟩
 case round=>
  obtain⟨x,A',n',c',f,hB,hO,hR,HX,hen,hcn,hux,hbr⟩:= hrel
  obtain⟨p,hp⟩:∃ p,p=recParse l x.en:=⟨_,rfl⟩
  obtain⟨pk,pm,pd,pto,per⟩:= p
  have x0:=hB.cell 0 rfl
  have x1:=hB.cell 1 rfl
  have x2:=hB.cell 2 rfl
  have x3:=hB.cell 3 rfl
  have x4:=hB.cell 4 rfl
  have x5:=hB.cell 5 rfl
  have zB:=hB.lt
  have zR:=hR.lt
  have hcut:=fun W=>zch A n c x.en (x.en:Int) .i64 rfl hen hc W
  have HBL:=zak (fun W (h:Sl W A (l.map bv))=> zea (cutA A c x.en 1) (n - x.en) (c - x.en) (l.drop x.en) W (by have:=HN.out;simp;omega) (by omega) (by rw[List.map_drop];exact h.cut1 (by have:=HN.out;simp;omega)))
  by_cases her:per=0
  case neg=>
   have her':(per != 0)=true:=by simpa using her
   have HP:=zak hp
   have hstop:stopB x ⟨pk,pm,pd,pto,per⟩=true:=by simp[stopB,her]
   clear hp her
   have HL:=zak (show lookE l=x by rw[HX.out.1];exact zfh (by rw[← HP.out];exact hstop))
   have HLL:=zak (show lookL l=⟨x.k,x.m,x.d,x.cnt,x.en,blankB (l.drop x.en)⟩ by unfold lookL;rw[HL.out])
   clear hstop
   go_wp2_with fail
   refine (ze4 A n c (x.en:Nat) l wr _ HP.out HN.out hc hl (hs.below hbr)).mono ?_
   rintro e w1 ⟨A1,n1,c1,rfl,hO1,hb1⟩
   simp only[] at hO1 ⊢
   have hB1:=(hB.below hb1 zB).alloc (.cells #[.int .i64 pk,.int .u32 (pm:Nat),.slice A1 n1 c1] 92)
   have hR1:=(hR.below hb1 zR).alloc (.cells #[.int .i64 pk,.int .u32 (pm:Nat),.slice A1 n1 c1] 92)
   have hO2:=(hO.below hb1).alloc (.cells #[.int .i64 pk,.int .u32 (pm:Nat),.slice A1 n1 c1] 92)
   have hbw2:=zbf (zbd hb1 hbr) (.cells #[.int .i64 pk,.int .u32 (pm:Nat),.slice A1 n1 c1] 92)
   have zr1:=hb1.size
   have y0:=hB1.cell 0 rfl
   have y1:=hB1.cell 1 rfl
   have y2:=hB1.cell 2 rfl
   have y3:=hB1.cell 3 rfl
   have y4:=hB1.cell 4 rfl
   have y5:=hB1.cell 5 rfl
   have g0:=hB1.frozen 5
   have r0:=hR1.cell 0 rfl
   have r1:=hR1.cell 1 rfl
   have r2:=hR1.cell 2 rfl
   have r3:=hR1.cell 3 rfl
   have r4:=hR1.cell 4 rfl
   have r5:=hR1.cell 5 rfl
   have f0:=hR1.frozen 0
   have f1:=hR1.frozen 1
   have f2:=hR1.frozen 2
   have f3:=hR1.frozen 3
   have f4:=hR1.frozen 4
   have f5:=hR1.frozen 5
   clear x0 x1 x2 x3 x4 x5
   go_wp2_with fail
   refine (HBL.out _ (hs.below hbw2)).mono ?_
   rintro e w3 ⟨rfl,rfl⟩
   go_wp2_with fail
   have hRf:=(((((((hR1.far (p:=⟨w.heap.size+1,5,none⟩) (by simp) (.bool (blankB (l.drop x.en)))).set_ 0 (.int .i64 x.k)).set_ 1 (.int .u32 (x.m:Nat))).set_ 2 (.slice A' n' c')).set_ 3 (.int .i64 (x.cnt:Nat))).set_ 4 (.int .i64 (x.en:Nat))).set_ 5 (.bool (blankB (l.drop x.en))))
   have d0:=hRf.cell 0 rfl
   have d1:=hRf.cell 1 rfl
   have d2:=hRf.cell 2 rfl
   have d3:=hRf.cell 3 rfl
   have d4:=hRf.cell 4 rfl
   have d5:=hRf.cell 5 rfl
   have hOf:=((((((hO2.set_ (p:=⟨w.heap.size+1,5,none⟩) (by simp) (.bool (blankB (l.drop x.en)))).set_ (p:=⟨w.heap.size,0,none⟩) (by simp;omega) (.int .i64 x.k)).set_ (p:=⟨w.heap.size,1,none⟩) (by simp;omega) (.int .u32 (x.m:Nat))).set_ (p:=⟨w.heap.size,2,none⟩) (by simp;omega) (.slice A' n' c')).set_ (p:=⟨w.heap.size,3,none⟩) (by simp;omega) (.int .i64 (x.cnt:Nat))).set_ (p:=⟨w.heap.size,4,none⟩) (by simp;omega) (.int .i64 (x.en:Nat))).set_ (p:=⟨w.heap.size,5,none⟩) (by simp;omega) (.bool (blankB (l.drop x.en)))
   refine bodyPost_ret (v:= .agg #[.int .i64 x.k,.int .u32 (x.m:Nat),.slice A' n' c',.int .i64 (x.cnt:Nat),.int .i64 (x.en:Nat),.bool (blankB (l.drop x.en))]) (by simp[results,Tryz.results197,go_sem,d0,d1,d2,d3,d4,d5]) rfl ?_
   rw[HLL.out]
   exact⟨A',n',c',rfl,hOf.mono (by omega),bl⟩
  subst her
  have HP:=zak hp
  have HT:=zak (show x.en+13≤n by have h1:=(zfj l x.en (by rw[← hp])).2.1;have:=HN.out;omega)
  clear hp
  by_cases h0:x.cnt=0
  · have hd0:decide ((0:Int) < (x.cnt:Int))=false:=by simp;omega
    have hd0':decide (0 < x.cnt)=false:=by simp;omega
    have hstop:stopB x ⟨pk,pm,pd,pto,0⟩=false:=by simp[stopB,h0]
    clear h0
    obtain⟨t,ht⟩:∃ t,t=x.en+pd.length+13:=⟨_,rfl⟩
    obtain⟨ht1,ht2,ht3⟩:= zfj l x.en (by rw[← HP.out])
    rw[← HP.out] at ht1 ht2 ht3
    simp only[] at ht1 ht2 ht3
    rw[← ht] at ht1 ht2
    subst ht1
    obtain⟨f',rfl⟩:∃ f',f=f'+1:=⟨f - 1,by have:=HX.out.2;have:=HT.out;omega⟩
    have HL:=zak (show lookE l=lookF l f' ⟨pk,pm,pd,x.cnt+1,t,false⟩∧ n≤f'+t by
     refine⟨?_,by have:=HX.out.2;omega⟩
     rw[HX.out.1,zfi (by rw[← HP.out];exact hstop),← HP.out,ht])
    have htx:x.en < t:=by omega
    have HTT:=zak ht
    clear hstop ht
    go_wp2_with fail
    refine (ze4 A n c (x.en:Nat) l wr _ HP.out HN.out hc hl (hs.below hbr)).mono ?_
    rintro e w1 ⟨A1,n1,c1,rfl,hO1,hb1⟩
    simp only[] at hO1 ⊢
    have hB1:=(hB.below hb1 zB).alloc (.cells #[.int .i64 pk,.int .u32 (pm:Nat),.slice A1 n1 c1] 92)
    have hR1:=(hR.below hb1 zR).alloc (.cells #[.int .i64 pk,.int .u32 (pm:Nat),.slice A1 n1 c1] 92)
    have hO2:=(hO1.mono (B':=w.heap.size+1+1) (by omega)).alloc (.cells #[.int .i64 pk,.int .u32 (pm:Nat),.slice A1 n1 c1] 92)
    have hbw2:=zbf (zbd hb1 hbr) (.cells #[.int .i64 pk,.int .u32 (pm:Nat),.slice A1 n1 c1] 92)
    have zr1:=hb1.size
    have y0:=hB1.cell 0 rfl
    have y1:=hB1.cell 1 rfl
    have y2:=hB1.cell 2 rfl
    have y3:=hB1.cell 3 rfl
    have y4:=hB1.cell 4 rfl
    have g0:=hB1.frozen 0
    have g1:=hB1.frozen 1
    have g2:=hB1.frozen 2
    have g3:=hB1.frozen 3
    have g4:=hB1.frozen 4
    clear x0 x1 x2 x3 x4 x5
    go_wp2_with fail
    go_roundw
    case rel=>exact⟨⟨pk,pm,pd,x.cnt+1,t,false⟩,A1,n1,c1,f',(((((hB1.set_ 0 (.int .i64 pk)).set_ 1 (.int .u32 (pm:Nat))).set_ 2 (.slice A1 n1 c1)).set_ 3 (.int .i64 ((x.cnt:Int)+1))).set_ 4 (.int .i64 (t:Nat))),(((((hO2.set_ (p:=⟨w.heap.size+1,0,none⟩) (by simp) (.int .i64 pk)).set_ (p:=⟨w.heap.size+1,1,none⟩) (by simp) (.int .u32 (pm:Nat))).set_ (p:=⟨w.heap.size+1,2,none⟩) (by simp) (.slice A1 n1 c1)).set_ (p:=⟨w.heap.size+1,3,none⟩) (by simp) (.int .i64 ((x.cnt:Int)+1))).set_ (p:=⟨w.heap.size+1,4,none⟩) (by simp) (.int .i64 (t:Nat))),(((((hR1.far (p:=⟨w.heap.size+1,0,none⟩) (by simp) (.int .i64 pk)).far (p:=⟨w.heap.size+1,1,none⟩) (by simp) (.int .u32 (pm:Nat))).far (p:=⟨w.heap.size+1,2,none⟩) (by simp) (.slice A1 n1 c1)).far (p:=⟨w.heap.size+1,3,none⟩) (by simp) (.int .i64 ((x.cnt:Int)+1))).far (p:=⟨w.heap.size+1,4,none⟩) (by simp) (.int .i64 (t:Nat))),HL.out,by have:=HN.out;simp only[];omega,by simp only[];omega,ht3,bl⟩
    case measure=>
     rw[zfk (u:= .int .i64 (t:Nat)) (((((hB1.set_ 0 (.int .i64 pk)).set_ 1 (.int .u32 (pm:Nat))).set_ 2 (.slice A1 n1 c1)).set_ 3 (.int .i64 ((x.cnt:Int)+1))).set_ 4 (.int .i64 (t:Nat))) 4 rfl,zfk (u:= .int .i64 (x.en:Nat)) hB 4 rfl]
     simp only[intOf]
     have:=HN.out
     omega
  have hd0:decide ((0:Int) < (x.cnt:Int))=true:=by simp;omega
  have hd0':decide (0 < x.cnt)=true:=by simp;omega
  by_cases h1:x.m=4294967295
  · have hm1:((x.m:Int) == 4294967295)=true:=by simp;omega
    have hstop:stopB x ⟨pk,pm,pd,pto,0⟩=true:=by simp[stopB,h1];omega
    clear h1 h0
    have HL:=zak (show lookE l=x by rw[HX.out.1];exact zfh (by rw[← HP.out];exact hstop))
    have HLL:=zak (show lookL l=⟨x.k,x.m,x.d,x.cnt,x.en,blankB (l.drop x.en)⟩ by unfold lookL;rw[HL.out])
    clear hstop
    go_wp2_with fail
    refine (ze4 A n c (x.en:Nat) l wr _ HP.out HN.out hc hl (hs.below hbr)).mono ?_
    rintro e w1 ⟨A1,n1,c1,rfl,hO1,hb1⟩
    simp only[] at hO1 ⊢
    have hB1:=(hB.below hb1 zB).alloc (.cells #[.int .i64 pk,.int .u32 (pm:Nat),.slice A1 n1 c1] 92)
    have hR1:=(hR.below hb1 zR).alloc (.cells #[.int .i64 pk,.int .u32 (pm:Nat),.slice A1 n1 c1] 92)
    have hO2:=(hO.below hb1).alloc (.cells #[.int .i64 pk,.int .u32 (pm:Nat),.slice A1 n1 c1] 92)
    have hbw2:=zbf (zbd hb1 hbr) (.cells #[.int .i64 pk,.int .u32 (pm:Nat),.slice A1 n1 c1] 92)
    have zr1:=hb1.size
    have y0:=hB1.cell 0 rfl
    have y1:=hB1.cell 1 rfl
    have y2:=hB1.cell 2 rfl
    have y3:=hB1.cell 3 rfl
    have y4:=hB1.cell 4 rfl
    have y5:=hB1.cell 5 rfl
    have g0:=hB1.frozen 5
    have r0:=hR1.cell 0 rfl
    have r1:=hR1.cell 1 rfl
    have r2:=hR1.cell 2 rfl
    have r3:=hR1.cell 3 rfl
    have r4:=hR1.cell 4 rfl
    have r5:=hR1.cell 5 rfl
    have f0:=hR1.frozen 0
    have f1:=hR1.frozen 1
    have f2:=hR1.frozen 2
    have f3:=hR1.frozen 3
    have f4:=hR1.frozen 4
    have f5:=hR1.frozen 5
    clear x0 x1 x2 x3 x4 x5
    go_wp2_with fail
    refine (HBL.out _ (hs.below hbw2)).mono ?_
    rintro e w3 ⟨rfl,rfl⟩
    go_wp2_with fail
    have hRf:=(((((((hR1.far (p:=⟨w.heap.size+1,5,none⟩) (by simp) (.bool (blankB (l.drop x.en)))).set_ 0 (.int .i64 x.k)).set_ 1 (.int .u32 (x.m:Nat))).set_ 2 (.slice A' n' c')).set_ 3 (.int .i64 (x.cnt:Nat))).set_ 4 (.int .i64 (x.en:Nat))).set_ 5 (.bool (blankB (l.drop x.en))))
    have d0:=hRf.cell 0 rfl
    have d1:=hRf.cell 1 rfl
    have d2:=hRf.cell 2 rfl
    have d3:=hRf.cell 3 rfl
    have d4:=hRf.cell 4 rfl
    have d5:=hRf.cell 5 rfl
    have hOf:=((((((hO2.set_ (p:=⟨w.heap.size+1,5,none⟩) (by simp) (.bool (blankB (l.drop x.en)))).set_ (p:=⟨w.heap.size,0,none⟩) (by simp;omega) (.int .i64 x.k)).set_ (p:=⟨w.heap.size,1,none⟩) (by simp;omega) (.int .u32 (x.m:Nat))).set_ (p:=⟨w.heap.size,2,none⟩) (by simp;omega) (.slice A' n' c')).set_ (p:=⟨w.heap.size,3,none⟩) (by simp;omega) (.int .i64 (x.cnt:Nat))).set_ (p:=⟨w.heap.size,4,none⟩) (by simp;omega) (.int .i64 (x.en:Nat))).set_ (p:=⟨w.heap.size,5,none⟩) (by simp;omega) (.bool (blankB (l.drop x.en)))
    refine bodyPost_ret (v:= .agg #[.int .i64 x.k,.int .u32 (x.m:Nat),.slice A' n' c',.int .i64 (x.cnt:Nat),.int .i64 (x.en:Nat),.bool (blankB (l.drop x.en))]) (by simp[results,Tryz.results197,go_sem,d0,d1,d2,d3,d4,d5]) rfl ?_
    rw[HLL.out]
    exact⟨A',n',c',rfl,hOf.mono (by omega),bl⟩
  have hm1:((x.m:Int) == 4294967295)=false:=by simp;omega
  have hms:=zfl hux h1
  have hml:(x.m:Int)+1≤4294967295:=by unfold U32 at hux;omega
  by_cases h2:pm=x.m+1
  · have hm2:((pm:Int) != (x.m:Int)+1)=false:=by simp;omega
    have hstop:stopB x ⟨pk,pm,pd,pto,0⟩=false:=by simp[stopB,h1,h2]
    clear h1 h2 h0 hms
    obtain⟨t,ht⟩:∃ t,t=x.en+pd.length+13:=⟨_,rfl⟩
    obtain⟨ht1,ht2,ht3⟩:= zfj l x.en (by rw[← HP.out])
    rw[← HP.out] at ht1 ht2 ht3
    simp only[] at ht1 ht2 ht3
    rw[← ht] at ht1 ht2
    subst ht1
    obtain⟨f',rfl⟩:∃ f',f=f'+1:=⟨f - 1,by have:=HX.out.2;have:=HT.out;omega⟩
    have HL:=zak (show lookE l=lookF l f' ⟨pk,pm,pd,x.cnt+1,t,false⟩∧ n≤f'+t by
     refine⟨?_,by have:=HX.out.2;omega⟩
     rw[HX.out.1,zfi (by rw[← HP.out];exact hstop),← HP.out,ht])
    have htx:x.en < t:=by omega
    have HTT:=zak ht
    clear hstop ht
    go_wp2_with fail
    refine (ze4 A n c (x.en:Nat) l wr _ HP.out HN.out hc hl (hs.below hbr)).mono ?_
    rintro e w1 ⟨A1,n1,c1,rfl,hO1,hb1⟩
    simp only[] at hO1 ⊢
    have hB1:=(hB.below hb1 zB).alloc (.cells #[.int .i64 pk,.int .u32 (pm:Nat),.slice A1 n1 c1] 92)
    have hR1:=(hR.below hb1 zR).alloc (.cells #[.int .i64 pk,.int .u32 (pm:Nat),.slice A1 n1 c1] 92)
    have hO2:=(hO1.mono (B':=w.heap.size+1+1) (by omega)).alloc (.cells #[.int .i64 pk,.int .u32 (pm:Nat),.slice A1 n1 c1] 92)
    have hbw2:=zbf (zbd hb1 hbr) (.cells #[.int .i64 pk,.int .u32 (pm:Nat),.slice A1 n1 c1] 92)
    have zr1:=hb1.size
    have y0:=hB1.cell 0 rfl
    have y1:=hB1.cell 1 rfl
    have y2:=hB1.cell 2 rfl
    have y3:=hB1.cell 3 rfl
    have y4:=hB1.cell 4 rfl
    have g0:=hB1.frozen 0
    have g1:=hB1.frozen 1
    have g2:=hB1.frozen 2
    have g3:=hB1.frozen 3
    have g4:=hB1.frozen 4
    clear x0 x1 x2 x3 x4 x5
    go_wp2_with fail
    go_roundw
    case rel=>exact⟨⟨pk,pm,pd,x.cnt+1,t,false⟩,A1,n1,c1,f',(((((hB1.set_ 0 (.int .i64 pk)).set_ 1 (.int .u32 (pm:Nat))).set_ 2 (.slice A1 n1 c1)).set_ 3 (.int .i64 ((x.cnt:Int)+1))).set_ 4 (.int .i64 (t:Nat))),(((((hO2.set_ (p:=⟨w.heap.size+1,0,none⟩) (by simp) (.int .i64 pk)).set_ (p:=⟨w.heap.size+1,1,none⟩) (by simp) (.int .u32 (pm:Nat))).set_ (p:=⟨w.heap.size+1,2,none⟩) (by simp) (.slice A1 n1 c1)).set_ (p:=⟨w.heap.size+1,3,none⟩) (by simp) (.int .i64 ((x.cnt:Int)+1))).set_ (p:=⟨w.heap.size+1,4,none⟩) (by simp) (.int .i64 (t:Nat))),(((((hR1.far (p:=⟨w.heap.size+1,0,none⟩) (by simp) (.int .i64 pk)).far (p:=⟨w.heap.size+1,1,none⟩) (by simp) (.int .u32 (pm:Nat))).far (p:=⟨w.heap.size+1,2,none⟩) (by simp) (.slice A1 n1 c1)).far (p:=⟨w.heap.size+1,3,none⟩) (by simp) (.int .i64 ((x.cnt:Int)+1))).far (p:=⟨w.heap.size+1,4,none⟩) (by simp) (.int .i64 (t:Nat))),HL.out,by have:=HN.out;simp only[];omega,by simp only[];omega,ht3,bl⟩
    case measure=>
     rw[zfk (u:= .int .i64 (t:Nat)) (((((hB1.set_ 0 (.int .i64 pk)).set_ 1 (.int .u32 (pm:Nat))).set_ 2 (.slice A1 n1 c1)).set_ 3 (.int .i64 ((x.cnt:Int)+1))).set_ 4 (.int .i64 (t:Nat))) 4 rfl,zfk (u:= .int .i64 (x.en:Nat)) hB 4 rfl]
     simp only[intOf]
     have:=HN.out
     omega
  · have hm2:((pm:Int) != (x.m:Int)+1)=true:=by simp;omega
    have hstop:stopB x ⟨pk,pm,pd,pto,0⟩=true:=by simp[stopB,h2];omega
    clear h1 h2 h0 hms
    have HL:=zak (show lookE l=x by rw[HX.out.1];exact zfh (by rw[← HP.out];exact hstop))
    have HLL:=zak (show lookL l=⟨x.k,x.m,x.d,x.cnt,x.en,blankB (l.drop x.en)⟩ by unfold lookL;rw[HL.out])
    clear hstop
    go_wp2_with fail
    refine (ze4 A n c (x.en:Nat) l wr _ HP.out HN.out hc hl (hs.below hbr)).mono ?_
    rintro e w1 ⟨A1,n1,c1,rfl,hO1,hb1⟩
    simp only[] at hO1 ⊢
    have hB1:=(hB.below hb1 zB).alloc (.cells #[.int .i64 pk,.int .u32 (pm:Nat),.slice A1 n1 c1] 92)
    have hR1:=(hR.below hb1 zR).alloc (.cells #[.int .i64 pk,.int .u32 (pm:Nat),.slice A1 n1 c1] 92)
    have hO2:=(hO.below hb1).alloc (.cells #[.int .i64 pk,.int .u32 (pm:Nat),.slice A1 n1 c1] 92)
    have hbw2:=zbf (zbd hb1 hbr) (.cells #[.int .i64 pk,.int .u32 (pm:Nat),.slice A1 n1 c1] 92)
    have zr1:=hb1.size
    have y0:=hB1.cell 0 rfl
    have y1:=hB1.cell 1 rfl
    have y2:=hB1.cell 2 rfl
    have y3:=hB1.cell 3 rfl
    have y4:=hB1.cell 4 rfl
    have y5:=hB1.cell 5 rfl
    have g0:=hB1.frozen 5
    have r0:=hR1.cell 0 rfl
    have r1:=hR1.cell 1 rfl
    have r2:=hR1.cell 2 rfl
    have r3:=hR1.cell 3 rfl
    have r4:=hR1.cell 4 rfl
    have r5:=hR1.cell 5 rfl
    have f0:=hR1.frozen 0
    have f1:=hR1.frozen 1
    have f2:=hR1.frozen 2
    have f3:=hR1.frozen 3
    have f4:=hR1.frozen 4
    have f5:=hR1.frozen 5
    clear x0 x1 x2 x3 x4 x5
    go_wp2_with fail
    refine (HBL.out _ (hs.below hbw2)).mono ?_
    rintro e w3 ⟨rfl,rfl⟩
    go_wp2_with fail
    have hRf:=(((((((hR1.far (p:=⟨w.heap.size+1,5,none⟩) (by simp) (.bool (blankB (l.drop x.en)))).set_ 0 (.int .i64 x.k)).set_ 1 (.int .u32 (x.m:Nat))).set_ 2 (.slice A' n' c')).set_ 3 (.int .i64 (x.cnt:Nat))).set_ 4 (.int .i64 (x.en:Nat))).set_ 5 (.bool (blankB (l.drop x.en))))
    have d0:=hRf.cell 0 rfl
    have d1:=hRf.cell 1 rfl
    have d2:=hRf.cell 2 rfl
    have d3:=hRf.cell 3 rfl
    have d4:=hRf.cell 4 rfl
    have d5:=hRf.cell 5 rfl
    have hOf:=((((((hO2.set_ (p:=⟨w.heap.size+1,5,none⟩) (by simp) (.bool (blankB (l.drop x.en)))).set_ (p:=⟨w.heap.size,0,none⟩) (by simp;omega) (.int .i64 x.k)).set_ (p:=⟨w.heap.size,1,none⟩) (by simp;omega) (.int .u32 (x.m:Nat))).set_ (p:=⟨w.heap.size,2,none⟩) (by simp;omega) (.slice A' n' c')).set_ (p:=⟨w.heap.size,3,none⟩) (by simp;omega) (.int .i64 (x.cnt:Nat))).set_ (p:=⟨w.heap.size,4,none⟩) (by simp;omega) (.int .i64 (x.en:Nat))).set_ (p:=⟨w.heap.size,5,none⟩) (by simp;omega) (.bool (blankB (l.drop x.en)))
    refine bodyPost_ret (v:= .agg #[.int .i64 x.k,.int .u32 (x.m:Nat),.slice A' n' c',.int .i64 (x.cnt:Nat),.int .i64 (x.en:Nat),.bool (blankB (l.drop x.en))]) (by simp[results,Tryz.results197,go_sem,d0,d1,d2,d3,d4,d5]) rfl ?_
    rw[HLL.out]
    exact⟨A',n',c',rfl,hOf.mono (by omega),bl⟩
end
section
open Go.RowKit
set_option maxRecDepth 20000
set_option maxHeartbeats 4000000
section
variable {F:Nat→Prop} {p n c:Nat} {A:Option Addr} {J:JS} {ds:List (Option Addr×Nat)} {q:FP} {S:FS}
theorem zjg (x:LK) (d:Nat):(x.cl && decide ((0:Int)≤ (d:Int)∧ (d:Int)≤ 960∧(0:Int)≤ (x.en:Int)∧ (x.en:Int)≤ 1011 - (d:Int)))=roomL x d:=by
 unfold roomL
 congr 1
 rw[Bool.eq_iff_iff]
 simp only[decide_eq_true_eq]
 omega
def PlaceR (r:Nat×Bool×Bool) (w:World) (e:Ending) (w':World):Prop:=e= .returned (.tuple #[.int .i64 ((r.1:Nat):Int),.bool r.2.1,.bool r.2.2])∧ Below w.heap.size w w'
theorem zjh (d:Nat) (w:World) (hD:JD w F p q.p A n c J ds) (hS:FD w q S) (hl:J.looks=looksF S) (hd:d≤2000) :
 Calls Tryz.prog 165 #[.pointer (some ⟨p,0,none⟩),.int .i64 (d:Nat)] w (PlaceR (placeJ J S d) w):= by
 have hn:n=S.wear.length:=by rw[hD.lks.hn,hl,zgx]
 have HW:=zak (fun W (hb:Below w.heap.size w W)=> zi9 W (hD.below hb) (hS.below hb) hn)
 have HD:=zak hD
 have h8:=hD.n8
 have hB:=hD.blk
 unfold joC at hB
 have zp:=hB.lt
 have HN:=zak hn
 have HLL:=zak (show (looksF S).length=n by rw[zgx,hn])
 obtain⟨nx,hnx⟩:∃ nx,nx=nextL (looksF S) S.wear S.most:=⟨_,rfl⟩
 have HNX:=zak (fun W (hb:Below w.heap.size w W) (A1 A2:Option Addr) (c1 c2:Nat) (h1:Sl W A1 ((S.wear.map fun x=>((x:Nat):Int)).map (Value.int .i64))) (h2:Sl W A2 ((S.wear.map fun x=>S.most - ((x:Nat):Int)).map (Value.int .i64)))=>
  zfr A A1 A2 n c n c1 n c2 (kvs J.looks ds) _ _ W (by rw[zil _ _ hD.lks.hd,← hD.lks.hn]) (by omega) (hD.below hb).lks.slk (by rw[List.length_map];exact hn) (by omega) h1 (by rw[List.length_map];exact hn) (by omega) h2)
 have hnk:=zir J.looks ds S.wear S.most hD.lks.hd
 rw[← hD.lks.hn] at hnk
 rw[hnk,hl,← hnx] at HNX
 obtain⟨hs,hhs⟩:∃ hs,hs=J.has:=⟨_,rfl⟩
 obtain⟨now,hnow⟩:∃ x,x=J.now:=⟨_,rfl⟩
 obtain⟨b,hb⟩:∃ b,b=(J.has && roomL (lastJ J) d):= ⟨_,rfl⟩
 have HB:=zak hb
 have HHS:=zak hhs
 have HNOW:=zak hnow
 have HX:=zak hnx
 have HL:=zak hl
 obtain⟨R,hR⟩:∃ R,R=placeJ J S d:=⟨_,rfl⟩
 have HP:Hid (R=if b=true then (now,false,true) else if nx.2=true then (nx.1,begunL ((looksF S).getD nx.1 lookZ),true) else (0,false,false)):= zak (by rw[hR];unfold placeJ;rw[hb,hnx,hnow,hl])
 rw[← hR]
 clear hR
 rw[← hhs,← hnow] at hB
 have H8:n≤8:=h8
 obtain⟨hB_c0,hB_c1,hB_c2,hB_c3,hB_c4⟩:= zbj hB
 have hB_f:=hB.frozen
 clear hD hS hl hn hnk hhs hnow hb hnx
 go_enter Tryz.func165,Tryz.ntmps165
 go_upto_region 1 with fail
 go_cut [30] (fun s wx=>s= .bool b∧Hid (Below w.heap.size w wx))
 case first=>
  cases hs
  · have hbf:b=false:=by rw[HB.out,← HHS.out];rfl
    subst hbf
    refine wp_region_held_drew (S:=(fun w'=>(∀ qA:Addr,qA.block < (w).heap.size→w'.cell? qA=(w).cell? qA)∧ Below (w).heap.size (w) w')) (by kernel_rfl) ?hS1 (fun hHeld=>?rest1)
    case hS1=>((try dsimp only);(((try go_split_ands);refine zbc ?_;all_goals exact bl)))
    case' rest1=>skip
    iterate 6 (refine tkN ?_;try simp only[PqL,Act.put])
    iterate 14 (refine tkV ?_;try simp only[PqL,Act.put])
    refine tkN ?_;try simp only[PqL,Act.put]
    refine wpAnyH_done (by kernel_rfl) ?_ _
    have hEnd:=hHeld.2
    repeat (clear hHeld)
    go_wp2_with fail
    go_meet
    case rel=>exact⟨rfl,zak (zb9 (Below.refl _ _))⟩
  · have hla:=zi7 HD.out HHS.out.symm
    rw[← HNOW.out] at hla
    obtain⟨g,dd,hA,hg,hdd,hO,hfx,hlt,⟨c0,c1,c2,c3,c4,c5⟩,hF,hFd⟩:= HD.out.look hla
    obtain⟨x,hx⟩:∃ x,x=lastJ J:=⟨_,rfl⟩
    rw[← hx] at c0 c1 c2 c3 c4 c5
    have HB2:Hid ((x.cl && decide ((0:Int)≤ (d:Int)∧ (d:Int)≤ 960∧(0:Int)≤ (x.en:Int)∧ (x.en:Int)≤ 1011 - (d:Int)))=b):= zak (by rw[zjg,HB.out,← HHS.out,hx];rfl)
    obtain⟨i1,i2,i3⟩:= zbr hlt
    subst hA
    clear hla hO hfx hx
    refine wp_region_held_drew (S:=(fun w'=>(∀ qA:Addr,qA.block < (w).heap.size→w'.cell? qA=(w).cell? qA)∧ Below (w).heap.size (w) w')) (by kernel_rfl) ?hS24 (fun hHeld=>?rest24)
    case hS24=>((try dsimp only);(((try go_split_ands);refine zbc ?_;all_goals exact bl)))
    case' rest24=>skip
    iterate 19 (refine tkN ?_;try simp only[PqL,Act.put])
    refine wpAnyH_ready (rs:= [19]) (by kernel_rfl) (by simp) ?_
    refine AllReadyH.cons (o:=_) rfl (fun K hK=>?_) .nil
    go_simp
    refine (zfq x.k x.m dd.1 x.d.length dd.2 (x.cnt:Nat) (x.en:Nat) x.cl (d:Nat) _ (by omega) (by omega)).mono ?_
    rintro e w2 ⟨rfl,hb2⟩
    rw[HB2.out]
    try dsimp only
    refine hK.out _ _ ?hS46 (fun hHeld=>?rest46)
    case hS46=>((try dsimp only);(((try go_split_ands);refine zbc ?_;all_goals exact bl)))
    case' rest46=>(clear hK K;try simp only[PqL,Act.put])
    refine tkH 20 ?_
    try simp only[PqL,Act.put]
    refine wpAnyH_done (by kernel_rfl) ?_ _
    have hEnd:=hHeld.2
    repeat (clear hHeld)
    go_wp2_with fail
    go_meet
    case rel=>exact⟨rfl,zak hEnd⟩
 case rest=>
  obtain⟨rfl,HBx⟩:= hcut
  cases b
  · have e2:=(HBx.out.cell (p:=⟨p,0,none⟩) zp).trans hB_c0
    go_wp2_with fail
    refine (HW.out wc HBx.out).mono ?_
    rintro e w2 ⟨A1,c1,A2,c2,rfl,h1,h2,hb2⟩
    have hbw2:=zbd hb2 HBx.out
    have HNK:=zak (HNX.out w2 hbw2 A1 A2 c1 c2 h1 h2)
    have e3:=(hbw2.cell (p:=⟨p,0,none⟩) zp).trans hB_c0
    have HB2:=zak hbw2
    clear h1 h2 hb2 hbw2 e2
    go_wp2_with fail
    refine HNK.out.mono ?_
    rintro e w3 ⟨rfl,hb3⟩
    have hbw3:=zbd hb3 HB2.out
    have HB3:=zak hbw3
    clear hb3 hbw3 e3
    obtain⟨a,ok⟩:= nx
    dsimp only
    cases ok
    · go_wp2_with fail
      go_ret3
      rw[HP.out]
      refine And.intro ?_ (HB3.out)
      rfl
    · have hsp:=(zgs (looksF S) S.wear S.most (zgx S).symm).1 (by rw[← HX.out])
      rw[← HX.out] at hsp
      have ha:=hsp.1
      simp only[] at ha
      rw[HLL.out] at ha
      obtain⟨x,hx⟩:∃ x,(looksF S)[a]? =some x:=⟨_,List.getElem?_eq_getElem (by rw[HLL.out];exact ha)⟩
      have hgx:(looksF S).getD a lookZ=x:=by rw[List.getD_eq_getElem?_getD,hx];rfl
      have HGX:=zak hgx
      obtain⟨g,dd,hA,hg,hdd,hO,hfx,hlt,⟨c0,c1',c2',c3,c4,c5⟩,hF,hFd⟩:= (HD.out.below HB3.out).look (by rw[HL.out];exact hx)
      have e4:=(HB3.out.cell (p:=⟨p,0,none⟩) zp).trans hB_c0
      obtain⟨i1,i2,i3⟩:= zbr hlt
      subst hA
      obtain⟨xk,xm,xd,xcnt,xen,xcl⟩:= x
      dsimp only at c0 c1' c2' c3 c4 c5
      have q0:=zbm w3 131 #[.int .i64 xk,.int .u32 (xm:Nat),.slice dd.1 xd.length dd.2,.int .i64 (xcnt:Nat),.int .i64 (xen:Nat),.bool xcl]
      have HB4:=zak (zbf HB3.out (.cells #[.int .i64 xk,.int .u32 (xm:Nat),.slice dd.1 xd.length dd.2,.int .i64 (xcnt:Nat),.int .i64 (xen:Nat),.bool xcl] 131))
      obtain⟨q0_c0,q0_c1,q0_c2,q0_c3,q0_c4,q0_c5⟩:= zbk q0
      have q0_f:=q0.frozen
      clear hsp hx hgx hO hfx q0
      by_cases h0:0 < xcnt
      · have b1:decide ((0:Int) < (xcnt:Int))=true:=by simp;omega
        have b2:decide (0 < xcnt)=true:=by simp;omega
        have hbe:begunL ⟨xk,xm,xd,xcnt,xen,xcl⟩=true:=by simp[begunL,h0]
        have HBE:=zak hbe
        clear h0 hbe
        go_wp2_with fail
        refine wp_region_held_drew (S:=(fun w'=>(w'.cell? ⟨w3.heap.size,3,none⟩=some (.int .i64 (xcnt:Nat))∧ w'.cell? ⟨w3.heap.size,5,none⟩=some (.bool xcl))∧ Below w.heap.size w w')) (by kernel_rfl) ?hS49 (fun hHeld=>?rest49)
        case hS49=>((try dsimp only);(exact⟨⟨q0_c3,q0_c5⟩,zb9 HB4.out⟩))
        case' rest49=>skip
        iterate 5 (refine tkN ?_;try simp only[PqL,Act.put])
        iterate 3 (refine tkV ?_;try simp only[PqL,Act.put])
        iterate 4 (refine tkN ?_;try simp only[PqL,Act.put])
        refine wpAnyH_done (by kernel_rfl) ?_ _
        have hEnd:=hHeld.2
        repeat (clear hHeld)
        go_wp2_with fail
        go_ret3
        rw[HP.out]
        refine And.intro ?_ hEnd
        (simp only[if_true,Bool.false_eq_true,if_false];rw[HGX.out,HBE.out];rfl)
      · have b1:decide ((0:Int) < (xcnt:Int))=false:=by simp;omega
        have b2:decide (0 < xcnt)=false:=by simp;omega
        have hbe:begunL ⟨xk,xm,xd,xcnt,xen,xcl⟩= !xcl:=by simp[begunL,h0]
        have HBE:=zak hbe
        clear h0 hbe
        go_wp2_with fail
        refine wp_region_held_drew (S:=(fun w'=>(w'.cell? ⟨w3.heap.size,3,none⟩=some (.int .i64 (xcnt:Nat))∧ w'.cell? ⟨w3.heap.size,5,none⟩=some (.bool xcl))∧ Below w.heap.size w w')) (by kernel_rfl) ?hS63 (fun hHeld=>?rest63)
        case hS63=>((try dsimp only);(exact⟨⟨q0_c3,q0_c5⟩,zb9 HB4.out⟩))
        case' rest63=>skip
        iterate 12 (refine tkN ?_;try simp only[PqL,Act.put])
        refine wpAnyH_done (by kernel_rfl) ?_ _
        have hEnd:=hHeld.2
        repeat (clear hHeld)
        go_wp2_with fail
        go_ret3
        rw[HP.out]
        refine And.intro ?_ hEnd
        (simp only[if_true,Bool.false_eq_true,if_false];rw[HGX.out,HBE.out];rfl)
  · have e2:=(HBx.out.cell (p:=⟨p,1,none⟩) zp).trans hB_c1
    go_wp2_with fail
    go_ret3
    rw[HP.out]
    refine And.intro ?_ (HBx.out)
    rfl
end
end
section
open Go.RowKit
set_option maxRecDepth 20000
set_option maxHeartbeats 4000000
theorem zji:(Tryz.prog.info? 92).map (·.size)=some 3:=by kernel_rfl
def rcV (k:Int) (m:Nat) (A:Option Addr) (n c:Nat):Array Value:= #[.int .i64 k,.int .u32 (m:Nat),.slice A n c]
theorem zjj {fn:Func} {p u:Tmp} (h:fn.results= #[.cell p 92,.tmp u]) {a:Act} {w:World} {g:Nat} {k:Int} {m:Nat} {A:Option Addr} {n c:Nat} {R:Ending→World→Prop} (hd:a.defers= []) (hp:a.tmps.getD p undef= .pointer (some ⟨g,0,none⟩))
 (hB:Blk w g 92 (rcV k m A n c)) (hR:R (.returned (.tuple #[.agg (rcV k m A n c),a.tmps.getD u undef])) w):bodyPost Tryz.prog fn R .ret a w:=by
 refine bodyPost_ret ?_ hd hR
 rw[results_cell_tmp h,hp]
 simp only[asAddr,Sem.run_pure,Result.andThen_ok]
 rw[run_loadVar_row w g _ _ _ _ _ hB Tryz.underlying92 rfl (show _=some (rcV k m A n c).size from zji)]
 rfl
theorem zjk {w:World} {g:Nat} {t:TypeId} {l:List Value} (hB:Blk w g t l.toArray) (hl:l.length=3) (k:Int) (m:Nat) (A:Option Addr) (n c:Nat) :
 Blk (((w.setCell ⟨g,0,none⟩ (.int .i64 k)).setCell ⟨g,1,none⟩ (.int .u32 (m:Nat))).setCell ⟨g,2,none⟩ (.slice A n c)) g t (rcV k m A n c):= by
 have h:=zhz (zhz (zhz hB 0 (.int .i64 k)) 1 (.int .u32 (m:Nat))) 2 (.slice A n c)
 have e:((l.set 0 (.int .i64 k)).set 1 (.int .u32 (m:Nat))).set 2 (.slice A n c)= [.int .i64 k,.int .u32 (m:Nat),.slice A n c]:= by
  match l,hl with
  | [_,_,_],_=>rfl
 rw[e] at h
 exact h
theorem zjl (w:World) (g:Nat) (a b c:Value):zcj (fun k=>k=g) w (((w.setCell ⟨g,0,none⟩ a).setCell ⟨g,1,none⟩ b).setCell ⟨g,2,none⟩ c):=
 zcj.set (fun k=>k=g) (zcj.set (fun k=>k=g) (zcj.set (fun k=>k=g) (zcj.refl _ _) rfl _) rfl _) rfl _
def recJ (J:JS):Int×Nat×List UInt8:=if J.has=true then ((lastJ J).k,(lastJ J).m,(lastJ J).d) else (0,0,[])
def LastR (r:Int×Nat×List UInt8) (has:Bool) (w:World) (e:Ending) (w':World):Prop:=
 ∃ A c,e= .returned (.tuple #[.agg (rcV r.1 r.2.1 A r.2.2.length c),.bool has])∧ zcd w' w.heap.size A r.2.2.length c r.2.2∧Below w.heap.size w w'
theorem zjm (p:Nat) (w:World) (hc:w.cell? ⟨p,2,none⟩=some (.bool false)):Calls Tryz.prog 42 #[.pointer (some ⟨p,0,none⟩)] w (LastR (0,0,[]) false w):= by
 have q0:=zbm w 92 #[.int .i64 0,.int .u32 0,.slice none 0 0]
 have hb0:=zbf (Below.refl w.heap.size w) (.cells #[.int .i64 0,.int .u32 0,.slice none 0 0] 92)
 have c2:=(hb0.cell (p:=⟨p,2,none⟩) (zal hc)).trans hc
 have HQ:=zak q0
 have HB0:=zak hb0
 obtain⟨q0_c0,q0_c1,q0_c2⟩:= zbh q0
 have q0_f:=q0.frozen
 clear q0 hb0 hc
 go_enter Tryz.func42,Tryz.ntmps42
 go_wp2_with fail
 refine zjj (k:=0) (m:=0) (A:=none) (n:=0) (c:=0) rfl rfl (by rfl) ?_ ?_
 · exact HQ.out
 · exact⟨none,0,rfl,zcd.nil _ _,HB0.out⟩
section
variable {F:Nat→Prop} {p pf n c:Nat} {A:Option Addr} {J:JS} {ds:List (Option Addr×Nat)}
theorem zjn (w:World) (hD:JD w F p pf A n c J ds):Calls Tryz.prog 42 #[.pointer (some ⟨p,0,none⟩)] w (LastR (recJ J) J.has w):= by
 cases hh:J.has
 · have hr:recJ J=(0,0,[]):= by unfold recJ;rw[hh];rfl
   rw[hr]
   exact zjm p w (by have:=hD.blk.cell 2 (u:= .bool J.has) rfl;rw[hh] at this;exact this)
 · have hr:recJ J=((lastJ J).k,(lastJ J).m,(lastJ J).d):= by unfold recJ;rw[hh];rfl
   rw[hr]
   have q0:=zbm w 92 #[.int .i64 0,.int .u32 0,.slice none 0 0]
   have hb0:=zbf (Below.refl w.heap.size w) (.cells #[.int .i64 0,.int .u32 0,.slice none 0 0] 92)
   have HQ:=zak q0
   have HB0:=zak hb0
   have hD1:=hD.below hb0
   have p1:=hD1.blk
   unfold joC at p1
   rw[hh] at p1
   obtain⟨g,dd,hA,hg,hdd,hO,hfx,hlt,⟨c0,c1,c2,c3,c4,c5⟩,hF,hFd⟩:= hD1.look (zi7 hD1 hh)
   obtain⟨x,hx⟩:∃ x,x=lastJ J:=⟨_,rfl⟩
   rw[← hx] at c0 c1 c2 c3 c4 c5 hO hfx ⊢
   obtain⟨now,hnow⟩:∃ x,x=J.now:=⟨_,rfl⟩
   rw[← hnow] at c0 c1 c2 c3 c4 c5 hlt p1
   obtain⟨i1,i2,i3⟩:= zbr hlt
   subst hA
   have HO:=zak hO
   have hdl:=hfx.d
   have zp:=p1.lt
   obtain⟨xk,xm,xd,xcnt,xen,xcl⟩:= x
   dsimp only at c0 c1 c2 c3 c4 c5 HO hdl ⊢
   obtain⟨p1_c0,p1_c1,p1_c2,p1_c3,p1_c4⟩:= zbj p1
   have p1_f:=p1.frozen
   obtain⟨q0_c0,q0_c1,q0_c2⟩:= zbh q0
   have q0_f:=q0.frozen
   clear q0 hb0 hD hD1 hO hfx p1 hx hnow hh hr hdd
   simp only[World.size_alloc] at zp hg
   go_enter Tryz.func42,Tryz.ntmps42
   go_wp2_with fail
   refine wp_region_held_drew (S:=(fun w'=>(∀ qA:Addr,qA.block < (w.alloc (.cells #[.int .i64 0,.int .u32 0,.slice none 0 0] 92)).heap.size→w'.cell? qA=(w.alloc (.cells #[.int .i64 0,.int .u32 0,.slice none 0 0] 92)).cell? qA)∧ Below (w.alloc (.cells #[.int .i64 0,.int .u32 0,.slice none 0 0] 92)).heap.size (w.alloc (.cells #[.int .i64 0,.int .u32 0,.slice none 0 0] 92)) w')) (by kernel_rfl) ?hS1 (fun hHeld=>?rest1)
   case hS1=>((try dsimp only);(((try go_split_ands);refine zbc ?_;all_goals exact bl)))
   case' rest1=>skip
   iterate 13 (refine tkN ?_;try simp only[PqL,Act.put])
   refine wpAnyH_ready (rs:= [13]) (by kernel_rfl) (by simp) ?_
   refine AllReadyH.cons (o:=_) rfl (fun K hK=>?_) .nil
   go_simp
   refine hK.out _ _ ?hS17 (fun hHeld=>?rest17)
   case hS17=>((try dsimp only);(((try go_split_ands);refine zbc ?_;all_goals exact bl)))
   case' rest17=>(clear hK K;try simp only[PqL,Act.put])
   refine wpAnyH_ready (rs:= [14]) (by kernel_rfl) (by simp) ?_
   refine AllReadyH.cons (o:=_) rfl (fun K hK=>?_) .nil
   go_simp
   refine hK.out _ _ ?hS20 (fun hHeld=>?rest20)
   case hS20=>((try dsimp only);(((try go_split_ands);refine zbc ?_;all_goals exact bl)))
   case' rest20=>(clear hK K;try simp only[PqL,Act.put])
   refine wpAnyH_done (by kernel_rfl) ?_ _
   have hEnd:=hHeld.2
   repeat (clear hHeld)
   have hk:=zbn w 92 92 #[.int .i64 0,.int .u32 0,.slice none 0 0] #[.int .i64 xk,.int .u32 (xm:Nat),.slice dd.1 xd.length dd.2]
   have HR1:=zak hk.1.drew
   have HR2:=zak hk.2.drew
   have r2:=hk.2.drew
   obtain⟨r2_c0,r2_c1,r2_c2⟩:= zbh r2
   have r2_f:=r2.frozen
   have hs2:=HO.out.sl.below hEnd
   have HE2:=zak (zbd hEnd HB0.out)
   have hz2:w.heap.size+1+1≤(((w.alloc (.cells #[.int .i64 0,.int .u32 0,.slice none 0 0] 92)).alloc (.cells #[.int .i64 xk,.int .u32 (xm:Nat),.slice dd.1 xd.length dd.2] 92)).drew).heap.size:=by simp
   clear hk r2 hEnd c0 c1 c2 c3 c4 c5 p1_c0 p1_c1 p1_c2 p1_c3 p1_c4 p1_f q0_c0 q0_c1 q0_c2 q0_f
   go_wp2_with (at_builtin;refine zce _ rfl _ _ rfl (w.heap.size+1+1) none 0 0 [] rfl (zcd.nil _ _) dd.1 xd.length dd.2 xd rfl rfl hs2 (by omega) hz2 xd.length (by omega) ?_;intro A4 c4 w4 hO4 _ _ hb4;have k2:=HR2.out.below hb4 (by omega);have k1:=HR1.out.below hb4 (by omega);have HK2:=zak k2;have HK1:=zak k1;have HO4:=zak hO4;have HB4:=zak hb4;obtain⟨k2_c0,k2_c1,k2_c2⟩:= zbh k2;have k2_f:=k2.frozen;obtain⟨k1_c0,k1_c1,k1_c2⟩:= zbh k1;have k1_f:=k1.frozen;clear k1 k2 hO4 hb4)
   refine zjj (k:=xk) (m:=xm) (A:=A4) (n:=xd.length) (c:=c4) rfl rfl (by rfl) (zjk (HK1.out.far (p:=⟨w.heap.size+1,2,none⟩) (by simp) _) rfl xk xm A4 xd.length c4) ?_
   have ho:zcj (fun g=>g=w.heap.size∨g=w.heap.size+1) w4 ((((w4.setCell ⟨w.heap.size+1,2,none⟩ (.slice A4 xd.length c4)).setCell ⟨w.heap.size,0,none⟩ (.int .i64 xk)).setCell ⟨w.heap.size,1,none⟩ (.int .u32 (xm:Nat))).setCell ⟨w.heap.size,2,none⟩ (.slice A4 xd.length c4)):=
    (zcj.set _ (zcj.refl _ _) (.inr rfl) _).trans (zjl _ _ _ _ _) (fun i _ h=> .inl h)
   have hbw:Below w.heap.size w w4:=HE2.out.trans (HB4.out.mono (by omega))
   refine⟨A4,c4,rfl,⟨rfl,?_⟩,zck ho hbw (fun i hi=>by omega)⟩
   exact (HO4.out.own.keep (fun g hg hlt _=>ho.block g hlt (by omega))).mono (by omega)
end
end
end Go.Proofs.YtehabbnohoomjaaGreatDoor
