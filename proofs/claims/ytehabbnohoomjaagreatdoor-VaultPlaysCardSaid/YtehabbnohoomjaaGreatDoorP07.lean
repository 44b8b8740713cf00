/- None -/
import Derived.Test.YtehabbnohoomjaaGreatDoorP06
namespace Go.Proofs.YtehabbnohoomjaaGreatDoor
set_option linter.unusedVariables false
set_option linter.unusedSimpArgs false
set_option linter.unnecessarySimpa false
section
open Go.RowKit
set_option maxRecDepth 20000
set_option maxHeartbeats 4000000
attribute [local go_sem ↓] Go.wp_at_zero Go.wp_at_succ
structure LK where
 k:Int
 m:Nat
 d:List UInt8
 cnt:Nat
 en:Nat
 cl:Bool
def stopB (x:LK) (p:PR):Bool:=decide (p.er≠0) || (decide (0 < x.cnt) && (decide (x.m=4294967295) || decide (p.num≠x.m+1)))
def lookF (l:List UInt8):Nat→LK→LK
 | 0,x=>x
 | f+1,x=>if stopB x (recParse l x.en)=true then x else
   lookF l f ⟨(recParse l x.en).kind,(recParse l x.en).num,(recParse l x.en).data,x.cnt+1,x.en+(recParse l x.en).data.length+13,false⟩
def lookZ:LK:=⟨0,0,[],0,0,false⟩
def lookE (l:List UInt8):LK:=lookF l l.length lookZ
def lookL (l:List UInt8):LK:=⟨(lookE l).k,(lookE l).m,(lookE l).d,(lookE l).cnt,(lookE l).en,blankB (l.drop (lookE l).en)⟩
theorem zfh {l:List UInt8} {f:Nat} {x:LK} (h:stopB x (recParse l x.en)=true):lookF l f x=x:=by
 cases f with
 | zero=>rfl
 | succ f=>rw[lookF,if_pos h]
theorem zfi {l:List UInt8} {f:Nat} {x:LK} (h:stopB x (recParse l x.en)=false) :
 lookF l (f+1) x=lookF l f ⟨(recParse l x.en).kind,(recParse l x.en).num,(recParse l x.en).data,x.cnt+1,x.en+(recParse l x.en).data.length+13,false⟩:= by rw[lookF,if_neg (by rw[h];decide)]
theorem zfj (l:List UInt8) (en:Nat) (h:(recParse l en).er=0):(recParse l en).to=((en+(recParse l en).data.length+13:Nat):Int)∧ en+(recParse l en).data.length+13≤l.length∧U32 (recParse l en).num:=by
 obtain⟨hu,hr,h0,h1,h2,h3,h4⟩:= zfg l en _ rfl h
 exact⟨by rw[h4];push_cast;omega,by omega,hu⟩
theorem zfk {w:World} {g:Nat} {t:TypeId} {cs:Array Value} (h:Blk w g t cs) (i:Nat) {u:Value} (hu:cs[i]? =some u):(w.cell? ⟨g,i,none⟩).getD undef=u:=by rw[h.cell i hu];rfl
def LookR (x:LK) (w:World) (e:Ending) (w':World):Prop:=
 ∃ A' n' c',e= .returned (.agg #[.int .i64 x.k,.int .u32 (x.m:Nat),.slice A' n' c',.int .i64 (x.cnt:Nat),.int .i64 (x.en:Nat),.bool x.cl])∧ zcd w' w.heap.size A' n' c' x.d∧Below w.heap.size w w'
theorem zfl {m:Nat} (h:U32 m) (h2:m≠4294967295):((m:Int)+1) % 4294967296=((m+1:Nat):Int):= by unfold U32 at h;omega
theorem zfm (A:Option Addr) (n c:Nat) (l:List UInt8) (w:World) (hn:n=l.length) (hc:n≤c) (hl:n≤35184372088832) (hs:Sl w A (l.map bv)) :
 Calls Tryz.prog 121 #[.slice A n c] w (LookR (lookL l) w):= by
 have HN:=zak hn
 clear hn
 go_enter Tryz.func121,Tryz.ntmps121
 go_wp2_with fail
 go_step3
 go_wp2_with fail
 go_step3
 go_wp2_with fail
 go_loopw [4,5,6,7] (fun _ _ _ _ wr=> ∃ x A' n' c' f,Blk wr (w.heap.size+1) 131 #[.int .i64 x.k,.int .u32 (x.m:Nat),.slice A' n' c',.int .i64 (x.cnt:Nat),.int .i64 (x.en:Nat),.bool false]∧ zcd wr (w.heap.size+1+1) A' n' c' x.d∧
  Blk wr w.heap.size 131 #[.int .i64 0,.int .u32 0,.slice none 0 0,.int .i64 0,.int .i64 0,.bool false]∧ Hid (lookE l=lookF l f x∧n≤f+x.en)∧ x.en≤n∧x.cnt≤x.en∧U32 x.m∧Below w.heap.size w wr)
  (fun _ _ _ _ wr=>n - (intOf ((wr.cell? ⟨w.heap.size+1,4,none⟩).getD undef)).toNat)
 case atStart=>
  exact⟨lookZ,none,0,0,l.length,(zbn _ _ _ _ _).2,zcd.nil _ _,(zbn _ _ _ _ _).1,zak ⟨rfl,by have:=HN.out;omega⟩,by show 0≤n;omega,Nat.le_refl _,by show 0 < _;decide,zbf (zbf (Below.refl _ _) _) _⟩
 case round=>
  obtain⟨x,A',n',c',f,hB,hO,hR,HX,hen,hcn,hux,hbr⟩:= hrel
  obtain⟨p,hp⟩:∃ p,p=recParse l x.en:=⟨_,rfl⟩
  obtain⟨pk,pm,pd,pto,per⟩:= p
  have x0:=hB.cell 0 rfl
  have x1:=hB.cell 1 rfl
  have x2:=hB.cell 2 rfl
  have x3:=hB.cell 3 rfl
  have x4:=hB.cell 4 rfl
  have x5:=hB.cell 5 rfl
  have zB:=hB.lt
  have zR:=hR.lt
  have hcut:=fun W=>zch A n c x.en (x.en:Int) .i64 rfl hen hc W
  have HBL:=zak (fun W (h:Sl W A (l.map bv))=> zd9 (cutA A c x.en 1) (n - x.en) (c - x.en) (l.drop x.en) W (by have:=HN.out;simp;omega) (by omega) (by rw[List.map_drop];exact h.cut1 (by have:=HN.out;simp;omega)))
  by_cases her:per=0
  case neg=>
   have her':(per != 0)=true:=by simpa using her
   have HP:=zak hp
   have hstop:stopB x ⟨pk,pm,pd,pto,per⟩=true:=by simp[stopB,her]
   clear hp her
   have HL:=zak (show lookE l=x by rw[HX.out.1];exact zfh (by rw[← HP.out];exact hstop))
   have HLL:=zak (show lookL l=⟨x.k,x.m,x.d,x.cnt,x.en,blankB (l.drop x.en)⟩ by unfold lookL;rw[HL.out])
   clear hstop
   go_wp2_with fail
   refine (ze0 A n c (x.en:Nat) l wr _ HP.out HN.out hc hl (hs.below hbr)).mono ?_
   rintro e w1 ⟨A1,n1,c1,rfl,hO1,hb1⟩
   simp only[] at hO1 ⊢
   have hB1:=(hB.below hb1 zB).alloc (.cells #[.int .i64 pk,.int .u32 (pm:Nat),.slice A1 n1 c1] 92)
   have hR1:=(hR.below hb1 zR).alloc (.cells #[.int .i64 pk,.int .u32 (pm:Nat),.slice A1 n1 c1] 92)
   have hO2:=(hO.below hb1).alloc (.cells #[.int .i64 pk,.int .u32 (pm:Nat),.slice A1 n1 c1] 92)
   have hbw2:=zbf (zbd hb1 hbr) (.cells #[.int .i64 pk,.int .u32 (pm:Nat),.slice A1 n1 c1] 92)
   have zr1:=hb1.size
   have y0:=hB1.cell 0 rfl
   have y1:=hB1.cell 1 rfl
   have y2:=hB1.cell 2 rfl
   have y3:=hB1.cell 3 rfl
   have y4:=hB1.cell 4 rfl
   have y5:=hB1.cell 5 rfl
   have g0:=hB1.frozen 5
   have r0:=hR1.cell 0 rfl
   have r1:=hR1.cell 1 rfl
   have r2:=hR1.cell 2 rfl
   have r3:=hR1.cell 3 rfl
   have r4:=hR1.cell 4 rfl
   have r5:=hR1.cell 5 rfl
   have f0:=hR1.frozen 0
   have f1:=hR1.frozen 1
   have f2:=hR1.frozen 2
   have f3:=hR1.frozen 3
   have f4:=hR1.frozen 4
   have f5:=hR1.frozen 5
   clear x0 x1 x2 x3 x4 x5
   go_wp2_with fail
   refine (HBL.out _ (hs.below hbw2)).mono ?_
   rintro e w3 ⟨rfl,rfl⟩
   go_wp2_with fail
   have hRf:=(((((((hR1.far (p:=⟨w.heap.size+1,5,none⟩) (by simp) (.bool (blankB (l.drop x.en)))).set_ 0 (.int .i64 x.k)).set_ 1 (.int .u32 (x.m:Nat))).set_ 2 (.slice A' n' c')).set_ 3 (.int .i64 (x.cnt:Nat))).set_ 4 (.int .i64 (x.en:Nat))).set_ 5 (.bool (blankB (l.drop x.en))))
   have d0:=hRf.cell 0 rfl
   have d1:=hRf.cell 1 rfl
   have d2:=hRf.cell 2 rfl
   have d3:=hRf.cell 3 rfl
   have d4:=hRf.cell 4 rfl
   have d5:=hRf.cell 5 rfl
   have hOf:=((((((hO2.set_ (p:=⟨w.heap.size+1,5,none⟩) (by simp) (.bool (blankB (l.drop x.en)))).set_ (p:=⟨w.heap.size,0,none⟩) (by simp;omega) (.int .i64 x.k)).set_ (p:=⟨w.heap.size,1,none⟩) (by simp;omega) (.int .u32 (x.m:Nat))).set_ (p:=⟨w.heap.size,2,none⟩) (by simp;omega) (.slice A' n' c')).set_ (p:=⟨w.heap.size,3,none⟩) (by simp;omega) (.int .i64 (x.cnt:Nat))).set_ (p:=⟨w.heap.size,4,none⟩) (by simp;omega) (.int .i64 (x.en:Nat))).set_ (p:=⟨w.heap.size,5,none⟩) (by simp;omega) (.bool (blankB (l.drop x.en)))
   refine bodyPost_ret (v:= .agg #[.int .i64 x.k,.int .u32 (x.m:Nat),.slice A' n' c',.int .i64 (x.cnt:Nat),.int .i64 (x.en:Nat),.bool (blankB (l.drop x.en))]) (by simp[results,Tryz.results121,go_sem,d0,d1,d2,d3,d4,d5]) rfl ?_
   rw[HLL.out]
   exact⟨A',n',c',rfl,hOf.mono (by omega),bl⟩
  subst her
  have HP:=zak hp
  have HT:=zak (show x.en+13≤n by have h1:=(zfj l x.en (by rw[← hp])).2.1;have:=HN.out;omega)
  clear hp
  by_cases h0:x.cnt=0
  · have hd0:decide ((0:Int) < (x.cnt:Int))=false:=by simp;omega
    have hd0':decide (0 < x.cnt)=false:=by simp;omega
    have hstop:stopB x ⟨pk,pm,pd,pto,0⟩=false:=by simp[stopB,h0]
    clear h0
    obtain⟨t,ht⟩:∃ t,t=x.en+pd.length+13:=⟨_,rfl⟩
    obtain⟨ht1,ht2,ht3⟩:= zfj l x.en (by rw[← HP.out])
    rw[← HP.out] at ht1 ht2 ht3
    simp only[] at ht1 ht2 ht3
    rw[← ht] at ht1 ht2
    subst ht1
    obtain⟨f',rfl⟩:∃ f',f=f'+1:=⟨f - 1,by have:=HX.out.2;have:=HT.out;omega⟩
    have HL:=zak (show lookE l=lookF l f' ⟨pk,pm,pd,x.cnt+1,t,false⟩∧ n≤f'+t by
     refine⟨?_,by have:=HX.out.2;omega⟩
     rw[HX.out.1,zfi (by rw[← HP.out];exact hstop),← HP.out,ht])
    have htx:x.en < t:=by omega
    have HTT:=zak ht
    clear hstop ht
    go_wp2_with fail
    refine (ze0 A n c (x.en:Nat) l wr _ HP.out HN.out hc hl (hs.below hbr)).mono ?_
    rintro e w1 ⟨A1,n1,c1,rfl,hO1,hb1⟩
    simp only[] at hO1 ⊢
    have hB1:=(hB.below hb1 zB).alloc (.cells #[.int .i64 pk,.int .u32 (pm:Nat),.slice A1 n1 c1] 92)
    have hR1:=(hR.below hb1 zR).alloc (.cells #[.int .i64 pk,.int .u32 (pm:Nat),.slice A1 n1 c1] 92)
    have hO2:=(hO1.mono (B':=w.heap.size+1+1) (by omega)).alloc (.cells #[.int .i64 pk,.int .u32 (pm:Nat),.slice A1 n1 c1] 92)
    have hbw2:=zbf (zbd hb1 hbr) (.cells #[.int .i64 pk,.int .u32 (pm:Nat),.slice A1 n1 c1] 92)
    have zr1:=hb1.size
    have y0:=hB1.cell 0 rfl
    have y1:=hB1.cell 1 rfl
    have y2:=hB1.cell 2 rfl
    have y3:=hB1.cell 3 rfl
    have y4:=hB1.cell 4 rfl
    have g0:=hB1.frozen 0
    have g1:=hB1.frozen 1
    have g2:=hB1.frozen 2
    have g3:=hB1.frozen 3
    have g4:=hB1.frozen 4
    clear x0 x1 x2 x3 x4 x5
    go_wp2_with fail
    go_roundw
    case rel=>exact⟨⟨pk,pm,pd,x.cnt+1,t,false⟩,A1,n1,c1,f',(((((hB1.set_ 0 (.int .i64 pk)).set_ 1 (.int .u32 (pm:Nat))).set_ 2 (.slice A1 n1 c1)).set_ 4 (.int .i64 (t:Nat))).set_ 3 (.int .i64 ((x.cnt:Int)+1))),(((((hO2.set_ (p:=⟨w.heap.size+1,0,none⟩) (by simp) (.int .i64 pk)).set_ (p:=⟨w.heap.size+1,1,none⟩) (by simp) (.int .u32 (pm:Nat))).set_ (p:=⟨w.heap.size+1,2,none⟩) (by simp) (.slice A1 n1 c1)).set_ (p:=⟨w.heap.size+1,4,none⟩) (by simp) (.int .i64 (t:Nat))).set_ (p:=⟨w.heap.size+1,3,none⟩) (by simp) (.int .i64 ((x.cnt:Int)+1))),(((((hR1.far (p:=⟨w.heap.size+1,0,none⟩) (by simp) (.int .i64 pk)).far (p:=⟨w.heap.size+1,1,none⟩) (by simp) (.int .u32 (pm:Nat))).far (p:=⟨w.heap.size+1,2,none⟩) (by simp) (.slice A1 n1 c1)).far (p:=⟨w.heap.size+1,4,none⟩) (by simp) (.int .i64 (t:Nat))).far (p:=⟨w.heap.size+1,3,none⟩) (by simp) (.int .i64 ((x.cnt:Int)+1))),HL.out,by have:=HN.out;simp only[];omega,by simp only[];omega,ht3,bl⟩
    case measure=>
     rw[zfk (u:= .int .i64 (t:Nat)) (((((hB1.set_ 0 (.int .i64 pk)).set_ 1 (.int .u32 (pm:Nat))).set_ 2 (.slice A1 n1 c1)).set_ 4 (.int .i64 (t:Nat))).set_ 3 (.int .i64 ((x.cnt:Int)+1))) 4 rfl,zfk (u:= .int .i64 (x.en:Nat)) hB 4 rfl]
     simp only[intOf]
     have:=HN.out
     omega
  have hd0:decide ((0:Int) < (x.cnt:Int))=true:=by simp;omega
  have hd0':decide (0 < x.cnt)=true:=by simp;omega
  by_cases h1:x.m=4294967295
  · have hm1:((x.m:Int) == 4294967295)=true:=by simp;omega
    have hstop:stopB x ⟨pk,pm,pd,pto,0⟩=true:=by simp[stopB,h1];omega
    clear h1 h0
    have HL:=zak (show lookE l=x by rw[HX.out.1];exact zfh (by rw[← HP.out];exact hstop))
    have HLL:=zak (show lookL l=⟨x.k,x.m,x.d,x.cnt,x.en,blankB (l.drop x.en)⟩ by unfold lookL;rw[HL.out])
    clear hstop
    go_wp2_with fail
    refine (ze0 A n c (x.en:Nat) l wr _ HP.out HN.out hc hl (hs.below hbr)).mono ?_
    rintro e w1 ⟨A1,n1,c1,rfl,hO1,hb1⟩
    simp only[] at hO1 ⊢
    have hB1:=(hB.below hb1 zB).alloc (.cells #[.int .i64 pk,.int .u32 (pm:Nat),.slice A1 n1 c1] 92)
    have hR1:=(hR.below hb1 zR).alloc (.cells #[.int .i64 pk,.int .u32 (pm:Nat),.slice A1 n1 c1] 92)
    have hO2:=(hO.below hb1).alloc (.cells #[.int .i64 pk,.int .u32 (pm:Nat),.slice A1 n1 c1] 92)
    have hbw2:=zbf (zbd hb1 hbr) (.cells #[.int .i64 pk,.int .u32 (pm:Nat),.slice A1 n1 c1] 92)
    have zr1:=hb1.size
    have y0:=hB1.cell 0 rfl
    have y1:=hB1.cell 1 rfl
    have y2:=hB1.cell 2 rfl
    have y3:=hB1.cell 3 rfl
    have y4:=hB1.cell 4 rfl
    have y5:=hB1.cell 5 rfl
    have g0:=hB1.frozen 5
    have r0:=hR1.cell 0 rfl
    have r1:=hR1.cell 1 rfl
    have r2:=hR1.cell 2 rfl
    have r3:=hR1.cell 3 rfl
    have r4:=hR1.cell 4 rfl
    have r5:=hR1.cell 5 rfl
    have f0:=hR1.frozen 0
    have f1:=hR1.frozen 1
    have f2:=hR1.frozen 2
    have f3:=hR1.frozen 3
    have f4:=hR1.frozen 4
    have f5:=hR1.frozen 5
    clear x0 x1 x2 x3 x4 x5
    go_wp2_with fail
    refine (HBL.out _ (hs.below hbw2)).mono ?_
    rintro e w3 ⟨rfl,rfl⟩
    go_wp2_with fail
    have hRf:=(((((((hR1.far (p:=⟨w.heap.size+1,5,none⟩) (by simp) (.bool (blankB (l.drop x.en)))).set_ 0 (.int .i64 x.k)).set_ 1 (.int .u32 (x.m:Nat))).set_ 2 (.slice A' n' c')).set_ 3 (.int .i64 (x.cnt:Nat))).set_ 4 (.int .i64 (x.en:Nat))).set_ 5 (.bool (blankB (l.drop x.en))))
    have d0:=hRf.cell 0 rfl
    have d1:=hRf.cell 1 rfl
    have d2:=hRf.cell 2 rfl
    have d3:=hRf.cell 3 rfl
    have d4:=hRf.cell 4 rfl
    have d5:=hRf.cell 5 rfl
    have hOf:=((((((hO2.set_ (p:=⟨w.heap.size+1,5,none⟩) (by simp) (.bool (blankB (l.drop x.en)))).set_ (p:=⟨w.heap.size,0,none⟩) (by simp;omega) (.int .i64 x.k)).set_ (p:=⟨w.heap.size,1,none⟩) (by simp;omega) (.int .u32 (x.m:Nat))).set_ (p:=⟨w.heap.size,2,none⟩) (by simp;omega) (.slice A' n' c')).set_ (p:=⟨w.heap.size,3,none⟩) (by simp;omega) (.int .i64 (x.cnt:Nat))).set_ (p:=⟨w.heap.size,4,none⟩) (by simp;omega) (.int .i64 (x.en:Nat))).set_ (p:=⟨w.heap.size,5,none⟩) (by simp;omega) (.bool (blankB (l.drop x.en)))
    refine bodyPost_ret (v:= .agg #[.int .i64 x.k,.int .u32 (x.m:Nat),.slice A' n' c',.int .i64 (x.cnt:Nat),.int .i64 (x.en:Nat),.bool (blankB (l.drop x.en))]) (by simp[results,Tryz.results121,go_sem,d0,d1,d2,d3,d4,d5]) rfl ?_
    rw[HLL.out]
    exact⟨A',n',c',rfl,hOf.mono (by omega),bl⟩
  have hm1:((x.m:Int) == 4294967295)=false:=by simp;omega
  have hms:=zfl hux h1
  have hml:(x.m:Int)+1≤4294967295:=by unfold U32 at hux;omega
  by_cases h2:pm=x.m+1
  · have hm2:((pm:Int) != (x.m:Int)+1)=false:=by simp;omega
    have hstop:stopB x ⟨pk,pm,pd,pto,0⟩=false:=by simp[stopB,h1,h2]
    clear h1 h2 h0 hms
    obtain⟨t,ht⟩:∃ t,t=x.en+pd.length+13:=⟨_,rfl⟩
    obtain⟨ht1,ht2,ht3⟩:= zfj l x.en (by rw[← HP.out])
    rw[← HP.out] at ht1 ht2 ht3
    simp only[] at ht1 ht2 ht3
    rw[← ht] at ht1 ht2
    subst ht1
    obtain⟨f',rfl⟩:∃ f',f=f'+1:=⟨f - 1,by have:=HX.out.2;have:=HT.out;omega⟩
    have HL:=zak (show lookE l=lookF l f' ⟨pk,pm,pd,x.cnt+1,t,false⟩∧ n≤f'+t by
     refine⟨?_,by have:=HX.out.2;omega⟩
     rw[HX.out.1,zfi (by rw[← HP.out];exact hstop),← HP.out,ht])
    have htx:x.en < t:=by omega
    have HTT:=zak ht
    clear hstop ht
    go_wp2_with fail
    refine (ze0 A n c (x.en:Nat) l wr _ HP.out HN.out hc hl (hs.below hbr)).mono ?_
    rintro e w1 ⟨A1,n1,c1,rfl,hO1,hb1⟩
    simp only[] at hO1 ⊢
    have hB1:=(hB.below hb1 zB).alloc (.cells #[.int .i64 pk,.int .u32 (pm:Nat),.slice A1 n1 c1] 92)
    have hR1:=(hR.below hb1 zR).alloc (.cells #[.int .i64 pk,.int .u32 (pm:Nat),.slice A1 n1 c1] 92)
    have hO2:=(hO1.mono (B':=w.heap.size+1+1) (by omega)).alloc (.cells #[.int .i64 pk,.int .u32 (pm:Nat),.slice A1 n1 c1] 92)
    have hbw2:=zbf (zbd hb1 hbr) (.cells #[.int .i64 pk,.int .u32 (pm:Nat),.slice A1 n1 c1] 92)
    have zr1:=hb1.size
    have y0:=hB1.cell 0 rfl
    have y1:=hB1.cell 1 rfl
    have y2:=hB1.cell 2 rfl
    have y3:=hB1.cell 3 rfl
    have y4:=hB1.cell 4 rfl
    have g0:=hB1.frozen 0
    have g1:=hB1.frozen 1
    have g2:=hB1.frozen 2
    have g3:=hB1.frozen 3
    have g4:=hB1.frozen 4
    clear x0 x1 x2 x3 x4 x5
    go_wp2_with fail
    go_roundw
    case rel=>exact⟨⟨pk,pm,pd,x.cnt+1,t,false⟩,A1,n1,c1,f',(((((hB1.set_ 0 (.int .i64 pk)).set_ 1 (.int .u32 (pm:Nat))).set_ 2 (.slice A1 n1 c1)).set_ 4 (.int .i64 (t:Nat))).set_ 3 (.int .i64 ((x.cnt:Int)+1))),(((((hO2.set_ (p:=⟨w.heap.size+1,0,none⟩) (by simp) (.int .i64 pk)).set_ (p:=⟨w.heap.size+1,1,none⟩) (by simp) (.int .u32 (pm:Nat))).set_ (p:=⟨w.heap.size+1,2,none⟩) (by simp) (.slice A1 n1 c1)).set_ (p:=⟨w.heap.size+1,4,none⟩) (by simp) (.int .i64 (t:Nat))).set_ (p:=⟨w.heap.size+1,3,none⟩) (by simp) (.int .i64 ((x.cnt:Int)+1))),(((((hR1.far (p:=⟨w.heap.size+1,0,none⟩) (by simp) (.int .i64 pk)).far (p:=⟨w.heap.size+1,1,none⟩) (by simp) (.int .u32 (pm:Nat))).far (p:=⟨w.heap.size+1,2,none⟩) (by simp) (.slice A1 n1 c1)).far (p:=⟨w.heap.size+1,4,none⟩) (by simp) (.int .i64 (t:Nat))).far (p:=⟨w.heap.size+1,3,none⟩) (by simp) (.int .i64 ((x.cnt:Int)+1))),HL.out,by have:=HN.out;simp only[];omega,by simp only[];omega,ht3,bl⟩
    case measure=>
     rw[zfk (u:= .int .i64 (t:Nat)) (((((hB1.set_ 0 (.int .i64 pk)).set_ 1 (.int .u32 (pm:Nat))).set_ 2 (.slice A1 n1 c1)).set_ 4 (.int .i64 (t:Nat))).set_ 3 (.int .i64 ((x.cnt:Int)+1))) 4 rfl,zfk (u:= .int .i64 (x.en:Nat)) hB 4 rfl]
     simp only[intOf]
     have:=HN.out
     omega
  · have hm2:((pm:Int) != (x.m:Int)+1)=true:=by simp;omega
    have hstop:stopB x ⟨pk,pm,pd,pto,0⟩=true:=by simp[stopB,h2];omega
    clear h1 h2 h0 hms
    have HL:=zak (show lookE l=x by rw[HX.out.1];exact zfh (by rw[← HP.out];exact hstop))
    have HLL:=zak (show lookL l=⟨x.k,x.m,x.d,x.cnt,x.en,blankB (l.drop x.en)⟩ by unfold lookL;rw[HL.out])
    clear hstop
    go_wp2_with fail
    refine (ze0 A n c (x.en:Nat) l wr _ HP.out HN.out hc hl (hs.below hbr)).mono ?_
    rintro e w1 ⟨A1,n1,c1,rfl,hO1,hb1⟩
    simp only[] at hO1 ⊢
    have hB1:=(hB.below hb1 zB).alloc (.cells #[.int .i64 pk,.int .u32 (pm:Nat),.slice A1 n1 c1] 92)
    have hR1:=(hR.below hb1 zR).alloc (.cells #[.int .i64 pk,.int .u32 (pm:Nat),.slice A1 n1 c1] 92)
    have hO2:=(hO.below hb1).alloc (.cells #[.int .i64 pk,.int .u32 (pm:Nat),.slice A1 n1 c1] 92)
    have hbw2:=zbf (zbd hb1 hbr) (.cells #[.int .i64 pk,.int .u32 (pm:Nat),.slice A1 n1 c1] 92)
    have zr1:=hb1.size
    have y0:=hB1.cell 0 rfl
    have y1:=hB1.cell 1 rfl
    have y2:=hB1.cell 2 rfl
    have y3:=hB1.cell 3 rfl
    have y4:=hB1.cell 4 rfl
    have y5:=hB1.cell 5 rfl
    have g0:=hB1.frozen 5
    have r0:=hR1.cell 0 rfl
    have r1:=hR1.cell 1 rfl
    have r2:=hR1.cell 2 rfl
    have r3:=hR1.cell 3 rfl
    have r4:=hR1.cell 4 rfl
    have r5:=hR1.cell 5 rfl
    have f0:=hR1.frozen 0
    have f1:=hR1.frozen 1
    have f2:=hR1.frozen 2
    have f3:=hR1.frozen 3
    have f4:=hR1.frozen 4
    have f5:=hR1.frozen 5
    clear x0 x1 x2 x3 x4 x5
    go_wp2_with fail
    refine (HBL.out _ (hs.below hbw2)).mono ?_
    rintro e w3 ⟨rfl,rfl⟩
    go_wp2_with fail
    have hRf:=(((((((hR1.far (p:=⟨w.heap.size+1,5,none⟩) (by simp) (.bool (blankB (l.drop x.en)))).set_ 0 (.int .i64 x.k)).set_ 1 (.int .u32 (x.m:Nat))).set_ 2 (.slice A' n' c')).set_ 3 (.int .i64 (x.cnt:Nat))).set_ 4 (.int .i64 (x.en:Nat))).set_ 5 (.bool (blankB (l.drop x.en))))
    have d0:=hRf.cell 0 rfl
    have d1:=hRf.cell 1 rfl
    have d2:=hRf.cell 2 rfl
    have d3:=hRf.cell 3 rfl
    have d4:=hRf.cell 4 rfl
    have d5:=hRf.cell 5 rfl
    have hOf:=((((((hO2.set_ (p:=⟨w.heap.size+1,5,none⟩) (by simp) (.bool (blankB (l.drop x.en)))).set_ (p:=⟨w.heap.size,0,none⟩) (by simp;omega) (.int .i64 x.k)).set_ (p:=⟨w.heap.size,1,none⟩) (by simp;omega) (.int .u32 (x.m:Nat))).set_ (p:=⟨w.heap.size,2,none⟩) (by simp;omega) (.slice A' n' c')).set_ (p:=⟨w.heap.size,3,none⟩) (by simp;omega) (.int .i64 (x.cnt:Nat))).set_ (p:=⟨w.heap.size,4,none⟩) (by simp;omega) (.int .i64 (x.en:Nat))).set_ (p:=⟨w.heap.size,5,none⟩) (by simp;omega) (.bool (blankB (l.drop x.en)))
    refine bodyPost_ret (v:= .agg #[.int .i64 x.k,.int .u32 (x.m:Nat),.slice A' n' c',.int .i64 (x.cnt:Nat),.int .i64 (x.en:Nat),.bool (blankB (l.drop x.en))]) (by simp[results,Tryz.results121,go_sem,d0,d1,d2,d3,d4,d5]) rfl ?_
    rw[HLL.out]
    exact⟨A',n',c',rfl,hOf.mono (by omega),bl⟩
end
section
open Go.RowKit
set_option maxRecDepth 20000
set_option maxHeartbeats 2000000
attribute [local go_sem ↓] Go.wp_at_zero Go.wp_at_succ
structure KV where
 k:Int
 m:Nat
 sa:Option Addr
 sn:Nat
 sc:Nat
 cnt:Int
 en:Int
 cl:Bool
instance:Inhabited KV:=⟨⟨0,0,none,0,0,0,0,false⟩⟩
def SlK (w:World) (A:Option Addr) (L:List KV):Prop:= ∀ j v,L[j]? =some v→ ∃ b off,A=some ⟨b,off,none⟩∧ w.cell? ⟨b,off+j * 6,none⟩=some (.int .i64 v.k)∧ w.cell? ⟨b,off+j * 6+1,none⟩=some (.int .u32 (v.m:Nat))∧
 w.cell? ⟨b,off+j * 6+2,none⟩=some (.slice v.sa v.sn v.sc)∧ w.cell? ⟨b,off+j * 6+3,none⟩=some (.int .i64 v.cnt)∧ w.cell? ⟨b,off+j * 6+4,none⟩=some (.int .i64 v.en)∧ w.cell? ⟨b,off+j * 6+5,none⟩=some (.bool v.cl)
theorem SlK.below {w w':World} {A:Option Addr} {L:List KV} (h:SlK w A L) (hb:Below w.heap.size w w'):SlK w' A L:=by
 intro j v hv
 obtain⟨b,off,e,h0,h1,h2,h3,h4,h5⟩:= h j v hv
 have hk:∀ {p:Addr} {u:Value},w.cell? p=some u→w'.cell? p=some u:=fun hc=>(hb.cell (zal hc)).trans hc
 exact⟨b,off,e,hk h0,hk h1,hk h2,hk h3,hk h4,hk h5⟩
def newestS (L:List KV):Nat→Nat×Bool
 | 0=>(0,false)
 | i+1=>if (decide (0 < (L.getD i default).cnt) && (!(newestS L i).2 || decide ((L.getD (newestS L i).1 default).m < (L.getD i default).m)))=true then (i,true) else newestS L i
theorem zfn (L:List KV) (i:Nat) (h:(newestS L i).2=true):(newestS L i).1 < i:=by
 induction i with
 | zero=>cases h
 | succ i ih=>
   unfold newestS at h ⊢
   split
   · simp
   · rename_i hh
     rw[if_neg hh] at h
     have:=ih h
     omega
theorem zfo (A:Option Addr) (n c:Nat) (L:List KV) (w:World) (hn:n=L.length) (hl:n≤35184372088) (hL:SlK w A L) :
 Calls Tryz.prog 81 #[.slice A n c] w fun e w'=>e= .returned (.tuple #[.int .i64 ((newestS L n).1:Nat),.bool (newestS L n).2])∧ Below w.heap.size w w':=by
 have HN:=zak hn
 clear hn
 go_enter Tryz.func81,Tryz.ntmps81
 go_wp2_with fail
 go_loopw [4,5,6,7,10] (fun a h _ _ i wr=> ∃ k,k≤n∧i= .int .i64 (k:Nat)∧ a= .int .i64 ((newestS L k).1:Nat)∧ h= .bool (newestS L k).2∧Below w.heap.size w wr) (fun _ _ _ _ i _=>n - (intOf i).toNat)
 case atStart=>exact⟨0,by omega,rfl,rfl,rfl,Below.refl _ _⟩
 case round=>
  obtain⟨k,hk,rfl,rfl,rfl,hbr⟩:= hrel
  obtain⟨at_,hat⟩:∃ a,a=(newestS L k).1:=⟨_,rfl⟩
  obtain⟨hs,hhs⟩:∃ h,h=(newestS L k).2:=⟨_,rfl⟩
  have hlta:=zfn L k
  rw[← hat,← hhs] at hlta ⊢
  by_cases hlt:k < n
  · obtain⟨v,hv⟩:∃ v,L[k]? =some v:=⟨L[k]'(by have:=HN.out;omega),List.getElem?_eq_getElem _⟩
    have hgk:L.getD k default=v:=by rw[List.getD_eq_getElem?_getD,hv];rfl
    obtain⟨b,off,rfl,c0,c1,c2,c3,c4,c5⟩:= (hL.below hbr) k v hv
    have kx:=zbm wr 131 #[.int .i64 v.k,.int .u32 (v.m:Nat),.slice v.sa v.sn v.sc,.int .i64 v.cnt,.int .i64 v.en,.bool v.cl]
    have HS:newestS L (k+1)=if (decide (0 < v.cnt) && (!hs || decide ((L.getD at_ default).m < v.m)))=true then (k,true) else (at_,hs):= by
     rw[newestS,hgk,← hat,← hhs]
     split
     · rfl
     · rw[hat,hhs]
    have zb:=zal c0
    simp only[] at zb
    by_cases h0:0 < v.cnt
    case neg=>
     have hd0:decide (0 < v.cnt)=false:=by simpa using h0
     have HS2:=zak (show newestS L (k+1)=(at_,hs) by rw[HS,hd0];rfl)
     have HV:=zak hv
     clear HS hgk hv hat hhs h0 hlta
     go_wp2_with fail
     go_quiet (fail)
     go_wp2_with fail
     go_roundw
     case rel=>exact⟨k+1,by omega,by go_num,by rw[HS2.out],by rw[HS2.out],bl⟩
     case measure=>simp[intOf];omega
    have hd0:decide (0 < v.cnt)=true:=by simpa using h0
    cases hs with
    | false=>
      have HS2:=zak (show newestS L (k+1)=(k,true) by rw[HS,hd0];rfl)
      clear HS hgk hv hat hhs h0 hlta
      go_wp2_with fail
      go_quiet (fail)
      go_wp2_with fail
      go_roundw
      case rel=>exact⟨k+1,by omega,by go_num,by rw[HS2.out],by rw[HS2.out],bl⟩
      case measure=>simp[intOf];omega
    | true=>
      have hak:=hlta rfl
      obtain⟨u,hu⟩:∃ u,L[at_]? =some u:=⟨L[at_]'(by have:=HN.out;omega),List.getElem?_eq_getElem _⟩
      have hga:L.getD at_ default=u:=by rw[List.getD_eq_getElem?_getD,hu];rfl
      obtain⟨b2,off2,hA2,e0,e1,e2,e3,e4,e5⟩:= (hL.below hbr) at_ u hu
      injection hA2 with hA2
      injection hA2 with q1 q2
      subst q1
      subst q2
      have i1:(0:Int)≤ (at_:Int):= by omega
      have i2:(at_:Int) < (n:Int):= by omega
      have i3:at_ < n:=by omega
      by_cases hm:u.m < v.m
      · have hm':decide ((u.m:Int) < (v.m:Int))=true:=by simp;omega
        have hm'':decide (u.m < v.m)=true:=by simp;omega
        have HS2:=zak (show newestS L (k+1)=(k,true) by rw[HS,hd0,hga,hm''];rfl)
        clear HS hgk hga hv hu hat hhs h0 hlta hm
        go_wp2_with fail
        go_quiet (fail)
        go_wp2_with fail
        go_roundw
        case rel=>exact⟨k+1,by omega,by go_num,by rw[HS2.out],by rw[HS2.out],bl⟩
        case measure=>simp[intOf];omega
      · have hm':decide ((u.m:Int) < (v.m:Int))=false:=by simp;omega
        have hm'':decide (u.m < v.m)=false:=by simp;omega
        have HS2:=zak (show newestS L (k+1)=(at_,true) by rw[HS,hd0,hga,hm''];rfl)
        clear HS hgk hga hv hu hat hhs h0 hlta hm
        go_wp2_with fail
        go_quiet (fail)
        go_wp2_with fail
        go_roundw
        case rel=>exact⟨k+1,by omega,by go_num,by rw[HS2.out],by rw[HS2.out],bl⟩
        case measure=>simp[intOf];omega
  · obtain rfl:k=n:=by omega
    have HA:=zak (And.intro hat hhs)
    clear hat hhs hlta
    go_wp2_with fail
    go_ret2
    exact⟨by rw[← HA.out.1,← HA.out.2];rfl,hbr⟩
theorem zfp (A:Option Addr) (n c i:Nat) (xs:List Int) (w:World) (hn:n=xs.length) (hl:n≤35184372088) (hs:Sl w A (xs.map (Value.int .i64))) :
 Calls Tryz.prog 212 #[.slice A n c,.int .i64 (i:Nat)] w fun e w'=>e= .returned (.int .i64 (xs.getD i 0))∧ w=w':=by
 by_cases hi:n≤i
 · have HX:=zak (show xs.getD i 0=0 by rw[List.getD_eq_getElem?_getD,List.getElem?_eq_none (by omega)];rfl)
   clear hn
   go_enter Tryz.func212,Tryz.ntmps212
   go_wp2_with fail
   go_ret
   exact⟨za0 HX.out.symm,rfl⟩
 · obtain⟨b,off,rfl,hc⟩:= hs.at_ (j:=i) (u:= .int .i64 (xs[i]'(by omega))) (by rw[List.getElem?_map,List.getElem?_eq_getElem (by omega)];rfl)
   have HX:=zak (show xs.getD i 0=xs[i]'(by omega) by rw[List.getD_eq_getElem?_getD,List.getElem?_eq_getElem (by omega)];rfl)
   obtain⟨x,hx⟩:∃ x,x=xs[i]'(by omega):= ⟨_,rfl⟩
   rw[← hx] at hc HX
   clear hn hx
   have hlt:i < n:=by omega
   go_enter Tryz.func212,Tryz.ntmps212
   go_wp2_with fail
   go_ret
   exact⟨za0 HX.out.symm,rfl⟩
theorem zfq (k:Int) (m:Nat) (sa:Option Addr) (sn sc:Nat) (cnt en:Int) (cl:Bool) (d:Int) (w:World) (h1: -4611686018427387904≤d) (h2:d≤4611686018427387904) :
 Calls Tryz.prog 189 #[.agg #[.int .i64 k,.int .u32 (m:Nat),.slice sa sn sc,.int .i64 cnt,.int .i64 en,.bool cl],.int .i64 d] w fun e w'=>e= .returned (.bool (cl && decide (0≤d∧d≤960∧0≤en∧en≤1011 - d)))∧ Below w.heap.size w w':=by
 cases cl
 all_goals
  go_enter Tryz.func189,Tryz.ntmps189
  go_wp2_with fail
  all_goals
   go_ret
   exact⟨za1 (by rw[Bool.eq_iff_iff];simp_all;try omega),zbf (Below.refl _ _) _⟩
end
section
open Go.RowKit
set_option maxRecDepth 20000
set_option maxHeartbeats 4000000
attribute [local go_sem ↓] Go.wp_at_zero Go.wp_at_succ
def skipB (L:List KV) (left:List Int) (nw:Nat×Bool) (i:Nat):Bool:=
 (nw.2 && decide (i=nw.1)) || ((decide ((L.getD i default).cnt≠0) || !(L.getD i default).cl) && decide (left.getD i 0≤0))
def nextS (L:List KV) (wear left:List Int) (nw:Nat×Bool):Nat→Nat×Bool
 | 0=>(0,false)
 | i+1=>if skipB L left nw i=true then nextS L wear left nw i else
   if (!(nextS L wear left nw i).2 || decide (wear.getD i 0 < wear.getD (nextS L wear left nw i).1 0))=true then (i,true) else nextS L wear left nw i
theorem zfr (A A1 A2:Option Addr) (n c n1 c1 n2 c2:Nat) (L:List KV) (wear left:List Int) (w:World) (hn:n=L.length) (hl:n≤35184372088) (hL:SlK w A L)
 (hn1:n1=wear.length) (hl1:n1≤35184372088) (hs1:Sl w A1 (wear.map (Value.int .i64))) (hn2:n2=left.length) (hl2:n2≤35184372088) (hs2:Sl w A2 (left.map (Value.int .i64))) :
 Calls Tryz.prog 191 #[.slice A n c,.slice A1 n1 c1,.slice A2 n2 c2] w fun e w'=>
  e= .returned (.tuple #[.int .i64 ((nextS L wear left (newestS L n) n).1:Nat),.bool (nextS L wear left (newestS L n) n).2])∧ Below w.heap.size w w':=by
 obtain⟨nw,hnw⟩:∃ nw,nw=newestS L n:=⟨_,rfl⟩
 have HW:=zak (fun i W (h:Below w.heap.size w W)=> zfp A1 n1 c1 i wear W hn1 hl1 (hs1.below h))
 have HT:=zak (fun i W (h:Below w.heap.size w W)=> zfp A2 n2 c2 i left W hn2 hl2 (hs2.below h))
 have HNW:=zak (zfo A n c L w hn hl hL)
 rw[← hnw] at HNW ⊢
 obtain⟨na,nh⟩:= nw
 have HN:=zak hn
 clear hn hnw hn1 hn2
 go_enter Tryz.func191,Tryz.ntmps191
 go_wp2_with fail
 refine HNW.out.mono ?_
 rintro e w1 ⟨rfl,hb1⟩
 simp only[]
 go_wp2_with fail
 go_loopw [10,11,12,13,14,22,35,49] (fun a h _ _ _ i _ _ wr=> ∃ k,k≤n∧i= .int .i64 (k:Nat)∧ a= .int .i64 ((nextS L wear left (na,nh) k).1:Nat)∧ h= .bool (nextS L wear left (na,nh) k).2∧Below w.heap.size w wr) (fun _ _ _ _ _ i _ _ _=>n - (intOf i).toNat)
 case atStart=>exact⟨0,by omega,rfl,rfl,rfl,hb1⟩
 case round=>
  obtain⟨k,hk,rfl,rfl,rfl,hbr⟩:= hrel
  obtain⟨at_,hat⟩:∃ a,a=(nextS L wear left (na,nh) k).1:=⟨_,rfl⟩
  obtain⟨hs,hhs⟩:∃ h,h=(nextS L wear left (na,nh) k).2:=⟨_,rfl⟩
  rw[← hat,← hhs]
  by_cases hlt:k < n
  · obtain⟨v,hv⟩:∃ v,L[k]? =some v:=⟨L[k]'(by have:=HN.out;omega),List.getElem?_eq_getElem _⟩
    have hgk:L.getD k default=v:=by rw[List.getD_eq_getElem?_getD,hv];rfl
    obtain⟨b,off,rfl,c0,c1',c2',c3,c4,c5⟩:= (hL.below hbr) k v hv
    have kx:=zbm wr 131 #[.int .i64 v.k,.int .u32 (v.m:Nat),.slice v.sa v.sn v.sc,.int .i64 v.cnt,.int .i64 v.en,.bool v.cl]
    have hbx:=zbf hbr (.cells #[.int .i64 v.k,.int .u32 (v.m:Nat),.slice v.sa v.sn v.sc,.int .i64 v.cnt,.int .i64 v.en,.bool v.cl] 131)
    obtain⟨lk,hlk⟩:∃ x,x=left.getD k 0:=⟨_,rfl⟩
    obtain⟨wk,hwk⟩:∃ x,x=wear.getD k 0:=⟨_,rfl⟩
    obtain⟨wa,hwa⟩:∃ x,x=wear.getD at_ 0:=⟨_,rfl⟩
    have HLK:=zak (HT.out k)
    have HWK:=zak (HW.out k)
    have HWA:=zak (HW.out at_)
    rw[← hlk] at HLK
    rw[← hwk] at HWK
    rw[← hwa] at HWA
    have HS:=zak (show nextS L wear left (na,nh) (k+1)=if ((nh && decide (k=na)) || ((decide (v.cnt≠0) || !v.cl) && decide (lk≤0)))=true then (at_,hs) else if (!hs || decide (wk < wa))=true then (k,true) else (at_,hs) by
     rw[nextS,skipB,hgk,← hat,← hhs,← hlk,← hwk,← hwa]
     rw[show nextS L wear left (na,nh) k=(at_,hs) by rw[hat,hhs]])
    have hnak:((k:Int) == (na:Int))=decide (k=na):= by rw[Bool.eq_iff_iff];simp;omega
    have zb:=zal c0
    simp only[] at zb
    clear hgk hv hat hhs hlk hwk hwa
    have hcn:(v.cnt != 0)=decide (v.cnt≠0):= by rw[Bool.eq_iff_iff];simp
    obtain⟨vk,vm,vsa,vsn,vsc,vcnt,ven,vcl⟩:= v
    simp only[] at *
    have hd1:decide (k=na)=true∨decide (k=na)=false:=by cases decide (k=na)<;> simp
    have hd2:decide (vcnt≠0)=true∨decide (vcnt≠0)=false:=by cases decide (vcnt≠0)<;> simp
    have hd3:decide (lk≤0)=true∨decide (lk≤0)=false:=by cases decide (lk≤0)<;> simp
    have hd4:decide (wk < wa)=true∨decide (wk < wa)=false:=by cases decide (wk < wa)<;> simp
    rcases hd1 with hd1 | hd1<;>rcases hd2 with hd2 | hd2<;>rcases hd3 with hd3 | hd3<;>rcases hd4 with hd4 | hd4<;>cases nh<;>cases vcl<;>cases hs
    all_goals
     rw[hd1] at HS hnak
     rw[hd2] at HS hcn
     rw[hd3,hd4] at HS
     simp only[Bool.false_and,Bool.true_and,Bool.or_false,Bool.or_true,Bool.false_or,Bool.true_or,Bool.not_true,Bool.not_false,if_true,if_false,Bool.false_eq_true] at HS
     clear hd1 hd2
     go_wp2_with (first
      | (go_at_call 212;(with_reducible refine (HLK.out _ hbx).mono ?_);rintro e w2 ⟨rfl,rfl⟩)
      | (go_at_call 212;(with_reducible refine (HWK.out _ hbx).mono ?_);rintro e w2 ⟨rfl,rfl⟩)
      | (go_at_call 212;(with_reducible refine (HWA.out _ hbx).mono ?_);rintro e w2 ⟨rfl,rfl⟩))
     go_roundw
     case rel=>exact⟨k+1,by omega,by go_num,by rw[HS.out],by rw[HS.out],hbx⟩
     case measure=>simp[intOf];omega
  · obtain rfl:k=n:=by omega
    have HA:=zak (And.intro hat hhs)
    clear hat hhs
    go_wp2_with fail
    go_ret2
    exact⟨by rw[← HA.out.1,← HA.out.2];rfl,hbr⟩
end
end Go.Proofs.YtehabbnohoomjaaGreatDoor
