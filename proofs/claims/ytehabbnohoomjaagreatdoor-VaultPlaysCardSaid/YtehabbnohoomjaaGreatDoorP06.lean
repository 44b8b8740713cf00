/- None -/
import Derived.Test.YtehabbnohoomjaaGreatDoorP05
namespace Go.Proofs.YtehabbnohoomjaaGreatDoor
set_option linter.unusedVariables false
set_option linter.unusedSimpArgs false
set_option linter.unnecessarySimpa false
section
open Go.RowKit
set_option maxRecDepth 20000
set_option maxHeartbeats 1000000
attribute [local go_sem ↓] Go.wp_at_zero Go.wp_at_succ
theorem ze1 (x:List UInt8) (h:1 < x.length):recX1 x=(x[1]).toNat:=by
 unfold recX1
 rw[List.drop_eq_getElem_cons h]
 simp only[List.take_succ_cons,List.take_zero,leN]
 omega
theorem ze2 (a b c:Nat) (h:fitsR a b c=false) :
 (((a:Int) != 1)=true∧((a:Int) != 2)=true)∨ (((a:Int) != 1)=false∧((b:Int) == 0)=true)∨ (((a:Int) != 1)=true∧((a:Int) != 2)=false∧((b:Int) == 0)=true)∨
 (((a:Int) != 1)=false∧((b:Int) == 0)=false∧decide ((960:Int) < c)=true)∨ (((a:Int) != 1)=true∧((a:Int) != 2)=false∧((b:Int) == 0)=false∧decide ((960:Int) < c)=true)∨
 (((a:Int) != 1)=true∧((a:Int) != 2)=false∧((b:Int) == 0)=false∧decide ((960:Int) < c)=false∧((a:Int) == 2)=true∧decide ((0:Int) < c)=true∧decide (0 < c)=true):= by
 simp only[fitsR,decide_eq_false_iff_not,bne_iff_ne,ne_eq,bne_eq_false_iff_eq,beq_iff_eq,beq_eq_false_iff_ne,decide_eq_true_eq] at *
 omega
theorem ze3 (a b c:Nat) (h:fitsR a b c=true) :
 (((a:Int) != 1)=false∧((b:Int) == 0)=false∧decide ((960:Int) < c)=false∧((a:Int) == 2)=false∧c≤960)∨
 (((a:Int) != 1)=true∧((a:Int) != 2)=false∧((b:Int) == 0)=false∧decide ((960:Int) < c)=false∧((a:Int) == 2)=true∧decide ((0:Int) < c)=false∧decide (0 < c)=false∧c≤960):= by
 simp only[fitsR,decide_eq_false_iff_not,bne_iff_ne,ne_eq,bne_eq_false_iff_eq,beq_iff_eq,beq_eq_false_iff_ne,decide_eq_true_eq] at *
 omega
theorem ze4 (A:Option Addr) (n c:Nat) (at_:Int) (l:List UInt8) (w:World) (p:PR) (hp:p=recParse l at_) (hn:n=l.length) (hc:n≤c) (hl:n≤35184372088832) (hs:Sl w A (l.map bv)) :
 Calls Tryz.prog 214 #[.slice A n c,.int .i64 at_] w (ParseR p w):= by
 by_cases h0:at_ < 0
 · have HP:=zak (show p=⟨0,0,[],0,1⟩ by rw[hp,recParse,if_pos (.inl h0)])
   clear hp hn
   go_enter Tryz.func214,Tryz.ntmps214
   go_wp2_with fail
   exact bodyPost_ret (v:= .tuple #[.agg #[.int .i64 0,.int .u32 0,.slice none 0 0],.int .i64 0,.int .i64 1]) (by simp[results,Tryz.results214,go_sem]) rfl (zey p 1 HP.out bl)
 by_cases h1:(n:Int) < at_
 · have HP:=zak (show p=⟨0,0,[],0,1⟩ by rw[hp,recParse,if_pos (.inr (by omega))])
   clear hp hn
   go_enter Tryz.func214,Tryz.ntmps214
   go_wp2_with fail
   exact bodyPost_ret (v:= .tuple #[.agg #[.int .i64 0,.int .u32 0,.slice none 0 0],.int .i64 0,.int .i64 1]) (by simp[results,Tryz.results214,go_sem]) rfl (zey p 1 HP.out bl)
 obtain⟨k,rfl⟩:= Int.eq_ofNat_of_zero_le (show 0≤at_ by omega)
 have hk:k≤n:=by omega
 rw[zeq l k (by omega)] at hp
 have hxl:(l.drop k).length=n - k:=by simp;omega
 have hsx:=hs.cut1 (k:=k) (c:=c) (by simp;omega)
 rw[← List.map_drop] at hsx
 have hcut:=fun W=>zch A n c k (k:Int) .i64 rfl hk hc W
 have hm:n - k≤35184372088832:=by omega
 have hmc:n - k≤c - k:=by omega
 have hkm:k+(n - k)≤ 35184372088832:=by omega
 generalize cutA A c k 1=X at *
 generalize l.drop k=x at *
 have hmn:(n:Int) - k=((n - k:Nat):Int):= by omega
 generalize n - k=m at *
 generalize c - k=mc at *
 by_cases h13:m < 13
 · have HP:=zak (show p=⟨0,0,[],0,2⟩ by rw[hp,zer (by omega)])
   clear hp hn hxl
   go_enter Tryz.func214,Tryz.ntmps214
   go_wp2_with fail
   exact bodyPost_ret (v:= .tuple #[.agg #[.int .i64 0,.int .u32 0,.slice none 0 0],.int .i64 0,.int .i64 2]) (by simp[results,Tryz.results214,go_sem]) rfl (zey p 2 HP.out bl)
 obtain⟨bx,ox,rfl,hc0⟩:= hsx.byte_ (j:=0) (by omega)
 obtain⟨y0,hy0⟩:∃ y,y=(x[0]'(by omega)).toNat:=⟨_,rfl⟩
 rw[← hy0,Nat.add_zero] at hc0
 have hg0:=zez x 0 (by omega)
 rw[← hy0] at hg0
 have ly0:y0≤255:=by rw[hy0];have:=(x[0]'(by omega)).toNat_lt;omega
 have zx:=zal hc0
 simp only[] at zx
 clear hy0
 by_cases h87:y0=87
 case neg=>
  have HP:=zak (show p=⟨0,0,[],0,4⟩ by rw[hp,zes (by omega) (by omega)])
  have hb87:((y0:Int) != 87)=true:=by simp;omega
  clear hp hn hxl hg0 h87
  go_enter Tryz.func214,Tryz.ntmps214
  go_wp2_with fail
  exact bodyPost_ret (v:= .tuple #[.agg #[.int .i64 0,.int .u32 0,.slice none 0 0],.int .i64 0,.int .i64 4]) (by simp[results,Tryz.results214,go_sem]) rfl (zey p 4 HP.out bl)
 subst h87
 have hx1:=zem x
 have hx2:=zen x
 have hx3:=zeo x
 have HG1:=zak (fun W (h:Sl W (some ⟨bx,ox,none⟩) (x.map bv))=> (zc6 (some ⟨bx,ox,none⟩) m mc x 6 2 W hxl.symm hmc (by omega) (by omega) (by omega) (by omega) (by omega) h).mono fun e w' (h:e= .returned (.tuple #[.int .u64 (recX3 x:Nat),.int .i64 0])∧ W=w')=> h)
 have HG2:=zak (fun W (h:Sl W (some ⟨bx,ox,none⟩) (x.map bv))=> (zc6 (some ⟨bx,ox,none⟩) m mc x 2 4 W hxl.symm hmc (by omega) (by omega) (by omega) (by omega) (by omega) h).mono fun e w' (h:e= .returned (.tuple #[.int .u64 (recX2 x:Nat),.int .i64 0])∧ W=w')=> h)
 obtain⟨b1,o1,hA1,hc1⟩:= hsx.byte_ (j:=1) (by omega)
 injection hA1 with hA1
 injection hA1 with q1 q2
 subst q1
 subst q2
 rw[show ((x[1]'(by omega)).toNat)=recX1 x from (ze1 x (by omega)).symm] at hc1
 have i3:((8:Int)+recX3 x)=8+(recX3 x:Int):= rfl
 by_cases hf:fitsR (recX1 x) (recX2 x) (recX3 x)=true
 case neg=>
  have hf:fitsR (recX1 x) (recX2 x) (recX3 x)=false:=by simpa using hf
  have HP:=zak (show p=⟨0,0,[],0,4⟩ by rw[hp,zet (by omega) hg0 hf])
  clear hp hn hxl hg0
  have hcase:=ze2 (recX1 x) (recX2 x) (recX3 x) hf
  clear hf
  rcases hcase with ⟨e1,e2⟩ | ⟨e1,e2⟩ | ⟨e1,e2,e3⟩ | ⟨e1,e2,e3⟩ | ⟨e1,e2,e3,e4⟩ | ⟨e1,e2,e3,e4,e5,e6,e7⟩
  all_goals
   go_enter Tryz.func214,Tryz.ntmps214
   go_wp2_with fail
   refine (HG1.out _ (hsx.alloc _)).mono ?_
   rintro e w1 ⟨rfl,rfl⟩
   go_wp2_with fail
   refine (HG2.out _ (hsx.alloc _)).mono ?_
   rintro e w1 ⟨rfl,rfl⟩
   go_wp2_with fail
   exact bodyPost_ret (v:= .tuple #[.agg #[.int .i64 0,.int .u32 0,.slice none 0 0],.int .i64 0,.int .i64 4]) (by simp[results,Tryz.results214,go_sem]) rfl (zey p 4 HP.out bl)
 by_cases hlt:m < recX3 x+13
 · have HP:=zak (show p=⟨0,0,[],0,2⟩ by rw[hp,zeu (by omega) hg0 hf (by omega)])
   have hlt':(m:Int) < recX3 x+13:=by omega
   clear hp hn hxl hg0
   have hcase:=ze3 (recX1 x) (recX2 x) (recX3 x) hf
   clear hf
   rcases hcase with ⟨e1,e2,e3,e4,e5⟩ | ⟨e1,e2,e3,e4,e5,e6,e7,e8⟩
   all_goals
    go_enter Tryz.func214,Tryz.ntmps214
    go_wp2_with fail
    refine (HG1.out _ (hsx.alloc _)).mono ?_
    rintro e w1 ⟨rfl,rfl⟩
    go_wp2_with fail
    refine (HG2.out _ (hsx.alloc _)).mono ?_
    rintro e w1 ⟨rfl,rfl⟩
    go_wp2_with fail
    exact bodyPost_ret (v:= .tuple #[.agg #[.int .i64 0,.int .u32 0,.slice none 0 0],.int .i64 0,.int .i64 2]) (by simp[results,Tryz.results214,go_sem]) rfl (zey p 2 HP.out bl)
 have hge:(recX3 x:Int)+13≤m:=by omega
 have HO:=zak (fun W (h:Sl W (some ⟨bx,ox,none⟩) (x.map bv))=> zd3 (some ⟨bx,ox,none⟩) (recX3 x+12) mc (x.take (recX3 x+12)) W (by simp;omega) (by omega) (by omega) (by rw[List.map_take];exact h.take _))
 have hld:((x.drop 8).take (recX3 x)).length=recX3 x:=by simp;omega
 have hsd:Sl w (some ⟨bx,ox+8,none⟩) (((x.drop 8).take (recX3 x)).map bv):= by
  have:=hsx.cutA (k:=8) (c:=mc) (s:=1) (by simp;omega) (by omega)
  simp only[Go.Proofs.YtehabbnohoomjaaGreatDoor.cutA,if_neg (show ¬ mc=8 by omega),Option.map_some,Addr.add_lit] at this
  rw[List.map_take,List.map_drop]
  exact this.take _
 have HJ:=zak (fun W (h:Sl W (some ⟨bx,ox+8,none⟩) (((x.drop 8).take (recX3 x)).map bv))=> zc1 none (some ⟨bx,ox+8,none⟩) 0 (recX3 x) 0 (mc - 8) [] ((x.drop 8).take (recX3 x)) W rfl hld.symm (by omega) (by omega) (Sl.nil _ _) h)
 have HLD:=zak hld
 obtain⟨b9,o9,hA9,hc9⟩:= hsx.byte_ (j:=recX3 x+12) (by omega)
 injection hA9 with hA9
 injection hA9 with q1 q2
 subst q1
 subst q2
 obtain⟨y9,hy9⟩:∃ y,y=(x[recX3 x+12]'(by omega)).toNat:=⟨_,rfl⟩
 rw[← hy9] at hc9
 have hg9:=zez x (recX3 x+12) (by omega)
 rw[← hy9] at hg9
 have ly9:y9≤255:=by rw[hy9];have:=(x[recX3 x+12]'(by omega)).toNat_lt;omega
 clear hy9 hld
 rcases zep (x.take (recX3 x+12)) (by simp;omega) with he | he
 case inr=>
  have HP:=zak (show p=⟨0,0,[],0,5⟩ by rw[hp,zev (by omega) hg0 hf (by omega) (by rw[he];decide)])
  clear hp hn hxl hg0 hg9
  have hcase:=ze3 (recX1 x) (recX2 x) (recX3 x) hf
  clear hf
  rcases hcase with ⟨e1,e2,e3,e4,e5⟩ | ⟨e1,e2,e3,e4,e5,e6,e7,e8⟩
  all_goals
   go_enter Tryz.func214,Tryz.ntmps214
   go_wp2_with fail
   refine (HG1.out _ (hsx.alloc _)).mono ?_
   rintro e w1 ⟨rfl,rfl⟩
   go_wp2_with fail
   refine (HG2.out _ (hsx.alloc _)).mono ?_
   rintro e w1 ⟨rfl,rfl⟩
   go_wp2_with fail
   refine (HJ.out _ ((hsd.alloc _).alloc _)).mono ?_
   rintro e w1 ⟨A1,n1,c1,rfl,hO1,hb1⟩
   have hN1:=zak hO1.hn
   have hR1:=(zbn w 92 92 #[.int .i64 0,.int .u32 0,.slice none 0 0] #[.int .i64 (recX1 x:Nat),.int .u32 (recX2 x:Nat),.slice none 0 0]).1.below hb1 (by simp;omega)
   have hX1:=(zbn w 92 92 #[.int .i64 0,.int .u32 0,.slice none 0 0] #[.int .i64 (recX1 x:Nat),.int .u32 (recX2 x:Nat),.slice none 0 0]).2.below hb1 (by simp)
   have hbw1:=zbd hb1 (zbf (zbf (Below.refl w.heap.size w) _) _)
   have z1:=hX1.lt
   have hX2:=hX1.set_ 2 (.slice A1 n1 c1)
   have hR2:=hR1.far (p:=⟨w.heap.size+1,2,none⟩) (by simp) (.slice A1 n1 c1)
   have hbw2:=hbw1.setCell (p:=⟨w.heap.size+1,2,none⟩) (by simp) (.slice A1 n1 c1)
   have hO2:=hO1.set_ (p:=⟨w.heap.size+1,2,none⟩) (by simp) (.slice A1 n1 c1)
   have x2:=hX1.cell 2 rfl
   have g2:=hX1.frozen 2
   have HH:=zak (And.intro hX2 (And.intro hR2 (And.intro hbw2 hO2)))
   clear hX2 hR2 hbw2 hO2 hR1 hX1 hO1 hb1
   go_wp2_with fail
   generalize w1.setCell ⟨w.heap.size+1,2,none⟩ (.slice A1 n1 c1)=W at *
   obtain⟨hX2,hR2,hbw2,hO2⟩:= HH.out
   clear HH x2 g2
   refine (HO.out _ (hsx.below hbw2)).mono ?_
   rintro e w3 ⟨A3,n3,c3,d3,rfl,hO3,_,hb3⟩
   have hR3:=hR2.below hb3 hR2.lt
   have hX3:=hX2.below hb3 hX2.lt
   have hO4:=hO2.below hb3
   have hbw3:=zbd hb3 hbw2
   have z3:=hX3.lt
   have r0:=hR3.cell 0 rfl
   have r1:=hR3.cell 1 rfl
   have r2:=hR3.cell 2 rfl
   have f0:=hR3.frozen 0
   have f1:=hR3.frozen 1
   have f2:=hR3.frozen 2
   have x0:=hX3.cell 0 rfl
   have x1:=hX3.cell 1 rfl
   have x2:=hX3.cell 2 rfl
   have c9:=(hbw3.cell (p:=⟨bx,ox+(recX3 x+12),none⟩) zx).trans hc9
   go_wp2_with fail
   exact bodyPost_ret (v:= .tuple #[.agg #[.int .i64 0,.int .u32 0,.slice none 0 0],.int .i64 0,.int .i64 5]) (by simp[results,Tryz.results214,go_sem,r0,r1,r2,f0,f1,f2]) rfl (zey p 5 HP.out bl)
 by_cases h9:y9=0
 case neg=>
  have HP:=zak (show p=⟨0,0,[],0,8⟩ by rw[hp,zew (by omega) hg0 hf (by omega) he (by omega)])
  have h9':((y9:Int) != 0)=true:=by simp;omega
  clear hp hn hxl hg0 hg9 h9
  have hcase:=ze3 (recX1 x) (recX2 x) (recX3 x) hf
  clear hf
  rcases hcase with ⟨e1,e2,e3,e4,e5⟩ | ⟨e1,e2,e3,e4,e5,e6,e7,e8⟩
  all_goals
   go_enter Tryz.func214,Tryz.ntmps214
   go_wp2_with fail
   refine (HG1.out _ (hsx.alloc _)).mono ?_
   rintro e w1 ⟨rfl,rfl⟩
   go_wp2_with fail
   refine (HG2.out _ (hsx.alloc _)).mono ?_
   rintro e w1 ⟨rfl,rfl⟩
   go_wp2_with fail
   refine (HJ.out _ ((hsd.alloc _).alloc _)).mono ?_
   rintro e w1 ⟨A1,n1,c1,rfl,hO1,hb1⟩
   have hN1:=zak hO1.hn
   have hR1:=(zbn w 92 92 #[.int .i64 0,.int .u32 0,.slice none 0 0] #[.int .i64 (recX1 x:Nat),.int .u32 (recX2 x:Nat),.slice none 0 0]).1.below hb1 (by simp;omega)
   have hX1:=(zbn w 92 92 #[.int .i64 0,.int .u32 0,.slice none 0 0] #[.int .i64 (recX1 x:Nat),.int .u32 (recX2 x:Nat),.slice none 0 0]).2.below hb1 (by simp)
   have hbw1:=zbd hb1 (zbf (zbf (Below.refl w.heap.size w) _) _)
   have z1:=hX1.lt
   have hX2:=hX1.set_ 2 (.slice A1 n1 c1)
   have hR2:=hR1.far (p:=⟨w.heap.size+1,2,none⟩) (by simp) (.slice A1 n1 c1)
   have hbw2:=hbw1.setCell (p:=⟨w.heap.size+1,2,none⟩) (by simp) (.slice A1 n1 c1)
   have hO2:=hO1.set_ (p:=⟨w.heap.size+1,2,none⟩) (by simp) (.slice A1 n1 c1)
   have x2:=hX1.cell 2 rfl
   have g2:=hX1.frozen 2
   have HH:=zak (And.intro hX2 (And.intro hR2 (And.intro hbw2 hO2)))
   clear hX2 hR2 hbw2 hO2 hR1 hX1 hO1 hb1
   go_wp2_with fail
   generalize w1.setCell ⟨w.heap.size+1,2,none⟩ (.slice A1 n1 c1)=W at *
   obtain⟨hX2,hR2,hbw2,hO2⟩:= HH.out
   clear HH x2 g2
   refine (HO.out _ (hsx.below hbw2)).mono ?_
   rintro e w3 ⟨A3,n3,c3,d3,rfl,hO3,_,hb3⟩
   have hR3:=hR2.below hb3 hR2.lt
   have hX3:=hX2.below hb3 hX2.lt
   have hO4:=hO2.below hb3
   have hbw3:=zbd hb3 hbw2
   have z3:=hX3.lt
   have r0:=hR3.cell 0 rfl
   have r1:=hR3.cell 1 rfl
   have r2:=hR3.cell 2 rfl
   have f0:=hR3.frozen 0
   have f1:=hR3.frozen 1
   have f2:=hR3.frozen 2
   have x0:=hX3.cell 0 rfl
   have x1:=hX3.cell 1 rfl
   have x2:=hX3.cell 2 rfl
   have c9:=(hbw3.cell (p:=⟨bx,ox+(recX3 x+12),none⟩) zx).trans hc9
   go_wp2_with fail
   exact bodyPost_ret (v:= .tuple #[.agg #[.int .i64 0,.int .u32 0,.slice none 0 0],.int .i64 0,.int .i64 8]) (by simp[results,Tryz.results214,go_sem,r0,r1,r2,f0,f1,f2]) rfl (zey p 8 HP.out bl)
 subst h9
 have HP:=zak (show p=⟨recX1 x,recX2 x,(x.drop 8).take (recX3 x),(k:Int)+recX3 x+13,0⟩ by rw[hp,zex (by omega) hg0 hf (by omega) he (by omega)])
 clear hp hn hxl hg0 hg9
 have hcase:=ze3 (recX1 x) (recX2 x) (recX3 x) hf
 clear hf
 rcases hcase with ⟨e1,e2,e3,e4,e5⟩ | ⟨e1,e2,e3,e4,e5,e6,e7,e8⟩
 all_goals
  go_enter Tryz.func214,Tryz.ntmps214
  go_wp2_with fail
  refine (HG1.out _ (hsx.alloc _)).mono ?_
  rintro e w1 ⟨rfl,rfl⟩
  go_wp2_with fail
  refine (HG2.out _ (hsx.alloc _)).mono ?_
  rintro e w1 ⟨rfl,rfl⟩
  go_wp2_with fail
  refine (HJ.out _ ((hsd.alloc _).alloc _)).mono ?_
  rintro e w1 ⟨A1,n1,c1,rfl,hO1,hb1⟩
  have hN1:=zak hO1.hn
  have hR1:=(zbn w 92 92 #[.int .i64 0,.int .u32 0,.slice none 0 0] #[.int .i64 (recX1 x:Nat),.int .u32 (recX2 x:Nat),.slice none 0 0]).1.below hb1 (by simp;omega)
  have hX1:=(zbn w 92 92 #[.int .i64 0,.int .u32 0,.slice none 0 0] #[.int .i64 (recX1 x:Nat),.int .u32 (recX2 x:Nat),.slice none 0 0]).2.below hb1 (by simp)
  have hbw1:=zbd hb1 (zbf (zbf (Below.refl w.heap.size w) _) _)
  have z1:=hX1.lt
  have hX2:=hX1.set_ 2 (.slice A1 n1 c1)
  have hR2:=hR1.far (p:=⟨w.heap.size+1,2,none⟩) (by simp) (.slice A1 n1 c1)
  have hbw2:=hbw1.setCell (p:=⟨w.heap.size+1,2,none⟩) (by simp) (.slice A1 n1 c1)
  have hO2:=hO1.set_ (p:=⟨w.heap.size+1,2,none⟩) (by simp) (.slice A1 n1 c1)
  have x2:=hX1.cell 2 rfl
  have g2:=hX1.frozen 2
  have HH:=zak (And.intro hX2 (And.intro hR2 (And.intro hbw2 hO2)))
  clear hX2 hR2 hbw2 hO2 hR1 hX1 hO1 hb1
  go_wp2_with fail
  generalize w1.setCell ⟨w.heap.size+1,2,none⟩ (.slice A1 n1 c1)=W at *
  obtain⟨hX2,hR2,hbw2,hO2⟩:= HH.out
  clear HH x2 g2
  refine (HO.out _ (hsx.below hbw2)).mono ?_
  rintro e w3 ⟨A3,n3,c3,d3,rfl,hO3,_,hb3⟩
  have hR3:=hR2.below hb3 hR2.lt
  have hX3:=hX2.below hb3 hX2.lt
  have hO4:=hO2.below hb3
  have hbw3:=zbd hb3 hbw2
  have z3:=hX3.lt
  have r0:=hR3.cell 0 rfl
  have r1:=hR3.cell 1 rfl
  have r2:=hR3.cell 2 rfl
  have f0:=hR3.frozen 0
  have f1:=hR3.frozen 1
  have f2:=hR3.frozen 2
  have x0:=hX3.cell 0 rfl
  have x1:=hX3.cell 1 rfl
  have x2:=hX3.cell 2 rfl
  have c9:=(hbw3.cell (p:=⟨bx,ox+(recX3 x+12),none⟩) zx).trans hc9
  go_wp2_with fail
  have hRf:=((hR3.set_ 0 (.int .i64 (recX1 x:Nat))).set_ 1 (.int .u32 (recX2 x:Nat))).set_ 2 (.slice A1 n1 c1)
  have hbf:=((hbw3.setCell (p:=⟨w.heap.size,0,none⟩) (by simp) (.int .i64 (recX1 x:Nat))).setCell (p:=⟨w.heap.size,1,none⟩) (by simp) (.int .u32 (recX2 x:Nat))).setCell (p:=⟨w.heap.size,2,none⟩) (by simp) (.slice A1 n1 c1)
  have hOf:=(((hO4.set_ (p:=⟨w.heap.size,0,none⟩) (by simp;omega) (.int .i64 (recX1 x:Nat))).set_ (p:=⟨w.heap.size,1,none⟩) (by simp;omega) (.int .u32 (recX2 x:Nat))).set_ (p:=⟨w.heap.size,2,none⟩) (by simp;omega) (.slice A1 n1 c1)).mono (B':=w.heap.size) (by simp;omega)
  have d0:=hRf.cell 0 rfl
  have d1:=hRf.cell 1 rfl
  have d2:=hRf.cell 2 rfl
  refine bodyPost_ret (v:= .tuple #[.agg #[.int .i64 (recX1 x:Nat),.int .u32 (recX2 x:Nat),.slice A1 n1 c1],.int .i64 ((k:Int)+(recX3 x:Nat)+13),.int .i64 0]) (by simp[results,Tryz.results214,go_sem,d0,d1,d2]) rfl ?_
  have hp:=HP.out
  subst hp
  exact⟨A1,n1,c1,rfl,hOf,hbf⟩
end
section
set_option maxHeartbeats 400000
theorem ze5 (y:List UInt8):openE (sealL y)=0:=by
 have hl:(sealL y).length=y.length+4:=zdt y
 refine zdx _ _ rfl (by omega) ?_
 have e:(sealL y).length - 4=y.length:=by omega
 rw[e]
 have h1:(sealL y).drop y.length=leB 4 (crcOn 0 y):= by rw[sealL,List.drop_left]
 have h2:(sealL y).take y.length=y:=by rw[sealL,List.take_left]
 rw[h1,h2,List.take_of_length_le (by rw[zan];omega),zap]
 exact Nat.mod_eq_of_lt (zdf _ _)
theorem ze6 (k num n:Nat) (r:List UInt8) (hk:k≤255) (hnum:U32 num) (hn:n≤65535) :
 recX1 (recH k num n ++ r)=k∧recX2 (recH k num n ++ r)=num∧recX3 (recH k num n ++ r)=n∧((recH k num n ++ r).getD 0 0).toNat=87:=by
 unfold U32 at hnum
 refine⟨?_,?_,?_,?_⟩
 · have:((recH k num n ++ r).drop 1).take 1=leB 1 k:=rfl
   rw[recX1,this,zap];omega
 · have:((recH k num n ++ r).drop 2).take 4=leB 4 num:=rfl
   rw[recX2,this,zap];omega
 · have:((recH k num n ++ r).drop 6).take 2=leB 2 n:=rfl
   rw[recX3,this,zap];omega
 · rfl
theorem ze7 (k num n:Nat) (h:rightR k num n=0):fitsR k num n=true:=by
 unfold rightR at h
 simp only[fitsR,decide_eq_true_eq]
 repeat' split at h
 all_goals omega
theorem ze8 (k num:Nat) (n:Nat) (h:fitsR k num n=true):rightR k num n=0:=by
 simp only[fitsR,decide_eq_true_eq] at h
 unfold rightR
 repeat' split
 all_goals omega
theorem ze9 (k num:Nat) (l c:List UInt8) (z:UInt8) (at_:Int) (h:rightR k num l.length=0) (hu:U32 num) :
 recAt (sealL (recH k num l.length ++ l) ++ z :: c) at_=if z.toNat=0 then ⟨k,num,l,at_+l.length+13,0⟩ else ⟨0,0,[],0,8⟩:= by
 obtain⟨k1,k2,k3,k4,k5⟩:= zed k num l.length h
 have hS:sealL (recH k num l.length ++ l) ++ z :: c=recH k num l.length ++ (l ++ (leB 4 (crcOn 0 (recH k num l.length ++ l)) ++ z :: c)):= by
  simp[sealL]
 obtain⟨e1,e2,e3,e4⟩:= ze6 k num l.length (l ++ (leB 4 (crcOn 0 (recH k num l.length ++ l)) ++ z :: c)) (by omega) hu (by omega)
 rw[← hS] at e1 e2 e3 e4
 have hH:=zee k num l.length
 have hsl:=zdt (recH k num l.length ++ l)
 have hlen:(sealL (recH k num l.length ++ l)).length=l.length+12:=by rw[hsl,List.length_append,hH];omega
 have hxl:(sealL (recH k num l.length ++ l) ++ z :: c).length=l.length+13+c.length:=by rw[List.length_append,hlen,List.length_cons];omega
 have ht:(sealL (recH k num l.length ++ l) ++ z :: c).take (l.length+12)=sealL (recH k num l.length ++ l):= by rw[← hlen,List.take_left]
 have hz:((sealL (recH k num l.length ++ l) ++ z :: c).getD (l.length+12) 0)=z:=by
  rw[List.getD_eq_getElem?_getD,List.getElem?_append_right (by omega),hlen]
  simp
 have hd:((sealL (recH k num l.length ++ l) ++ z :: c).drop 8).take l.length=l:=by
  rw[hS,← hH,List.drop_left,List.take_left]
 have hf:=ze7 k num l.length h
 by_cases hz0:z.toNat=0
 · rw[if_pos hz0,zex (by omega) e4 (by rw[e1,e2,e3];exact hf) (by omega) (by rw[e3,ht];exact ze5 _) (by rw[e3,hz];exact hz0),e1,e2,e3,hd]
 · rw[if_neg hz0,zew (by omega) e4 (by rw[e1,e2,e3];exact hf) (by omega) (by rw[e3,ht];exact ze5 _) (by rw[e3,hz];exact hz0)]
theorem zfa (a c l:List UInt8) (k:Int) (num:Nat) (h:rightR k num l.length=0) (hu:U32 num) :
 recParse (a ++ (recB k num l ++ c)) a.length=⟨k,num,l,(a.length:Int)+l.length+13,0⟩∧ (recB k num l).length=l.length+13:=by
 obtain⟨k1,k2,k3,k4,k5⟩:= zed k num l.length h
 obtain⟨k,rfl⟩:= Int.eq_ofNat_of_zero_le (show 0≤k by omega)
 have hB:=zec k num l.length l rfl h
 have hlen:(recB k num l).length=l.length+13:=by rw[hB,List.length_append,zdt,List.length_append,zee];simp;omega
 refine⟨?_,hlen⟩
 rw[zeq _ _ (by rw[List.length_append];omega),List.drop_left,hB,List.append_assoc]
 rw[List.singleton_append,ze9 k num l c 0 _ h hu,if_pos (show UInt8.toNat 0=0 from rfl)]
theorem zfb (x:List UInt8) (a b:Nat):x.take (a+b)=x.take a ++ (x.drop a).take b:=by
 rw[List.take_add]
theorem zfc (x:List UInt8) (k:Nat) (h:k≤x.length):leB k (leN (x.take k))=x.take k:=by
 have h2:(x.take k).length=k:=by simp;omega
 have:=zaq (x.take k)
 rw[h2] at this
 exact this
theorem zfd (x:List UInt8) (h:8≤x.length) (h0:(x.getD 0 0).toNat=87):x.take 8=recH (recX1 x) (recX2 x) (recX3 x):= by
 have e:x.take 8=x.take 1 ++ ((x.drop 1).take 1 ++ ((x.drop 2).take 4 ++ (x.drop 6).take 2)):= by
  rw[show 8=1+(1+(4+2)) from rfl,zfb,zfb,zfb,List.drop_drop,List.drop_drop]
 have e0:x.take 1= [87]:= by
  cases x with
  | nil=>simp at h
  | cons c x=>
    simp at h0
    have:c=87:=UInt8.toNat.inj h0
    rw[this]
    simp
 rw[e,e0,recH,recX1,recX2,recX3,zfc (x.drop 1) 1 (by simp;omega),zfc (x.drop 2) 4 (by simp;omega),zfc (x.drop 6) 2 (by simp;omega)]
 simp
theorem zfe (x:List UInt8) (at_:Int):(∃ er,er≠0∧recAt x at_=⟨0,0,[],0,er⟩)∨
 (13≤x.length∧(x.getD 0 0).toNat=87∧fitsR (recX1 x) (recX2 x) (recX3 x)=true∧recX3 x+13≤x.length∧openE (x.take (recX3 x+12))=0∧(x.getD (recX3 x+12) 0).toNat=0∧
   recAt x at_=⟨recX1 x,recX2 x,(x.drop 8).take (recX3 x),at_+recX3 x+13,0⟩):= by
 unfold recAt
 split
 · exact .inl ⟨2,by decide,rfl⟩
 split
 · exact .inl ⟨4,by decide,rfl⟩
 split
 · exact .inl ⟨4,by decide,rfl⟩
 split
 · exact .inl ⟨2,by decide,rfl⟩
 split
 · exact .inl ⟨5,by decide,rfl⟩
 split
 · exact .inl ⟨8,by decide,rfl⟩
 rename_i a b c d e f
 exact .inr ⟨by omega,by omega,by simpa using c,by omega,by simpa using e,by omega,rfl⟩
theorem zff (l:List UInt8) (at_:Int):(∃ er,er≠0∧recParse l at_=⟨0,0,[],0,er⟩)∨
 (0≤at_∧at_≤l.length∧ ∃ x,x=l.drop at_.toNat∧13≤x.length∧(x.getD 0 0).toNat=87∧fitsR (recX1 x) (recX2 x) (recX3 x)=true∧recX3 x+13≤x.length∧openE (x.take (recX3 x+12))=0∧(x.getD (recX3 x+12) 0).toNat=0∧
   recParse l at_=⟨recX1 x,recX2 x,(x.drop 8).take (recX3 x),at_+recX3 x+13,0⟩):= by
 unfold recParse
 split
 · exact .inl ⟨1,by decide,rfl⟩
 · rcases zfe (l.drop at_.toNat) at_ with h | h
   · exact .inl h
   · exact .inr ⟨by omega,by omega,_,rfl,h⟩
theorem zfg (l:List UInt8) (at_:Int) (p:PR) (hp:p=recParse l at_) (h:p.er=0) :
 U32 p.num∧rightR p.kind p.num p.data.length=0∧0≤at_∧p.to≤l.length∧p.to - at_=((recB p.kind p.num p.data).length:Nat)∧ (l.drop at_.toNat).take (recB p.kind p.num p.data).length=recB p.kind p.num p.data∧p.to=at_+p.data.length+13:=by
 rcases zff l at_ with ⟨er,her,he⟩ | ⟨a0,a1,x,hx,h13,h0,hf,h1,h2,h3,he⟩
 · rw[hp,he] at h
   exact absurd h her
 · rw[he] at hp
   subst hp
   have hd:((x.drop 8).take (recX3 x)).length=recX3 x:=by simp;omega
   have hr:=ze8 _ _ _ hf
   have hxl:x.length=l.length - at_.toNat:=by rw[hx];simp
   have hB:recB (recX1 x:Nat) (recX2 x) ((x.drop 8).take (recX3 x))=x.take (recX3 x+13):= by
    rw[zec (recX1 x) (recX2 x) (recX3 x) _ hd.symm hr,← zfd x (by omega) h0,← zfb]
    have hs:=(zdz (x.take (recX3 x+12)) (recX3 x+12) (by simp;omega) (by omega)).2
     (by
       have ho:=h2
       unfold openE at ho
       rw[List.length_take,Nat.min_eq_left (by omega)] at ho
       rw[if_neg (by omega)] at ho
       split at ho
       · rename_i q
         rw[List.take_of_length_le (by simp;omega)]
         exact q
       · cases ho)
    rw[List.take_take,show min (recX3 x+12 - 4) (recX3 x+12)=8+recX3 x by omega] at hs
    rw[hs,show recX3 x+13=(recX3 x+12)+1 by omega,zfb x (recX3 x+12) 1]
    congr 1
    rw[List.drop_eq_getElem_cons (by omega),List.take_succ_cons,List.take_zero]
    have:=zez x (recX3 x+12) (by omega)
    rw[h3] at this
    congr 1
    exact UInt8.toNat.inj this
   have hBl:(recB (recX1 x:Nat) (recX2 x) ((x.drop 8).take (recX3 x))).length=recX3 x+13:=by rw[hB];simp;omega
   refine⟨by have:=zen x;show recX2 x < _;omega,by rw[hd];exact hr,a0,?_,?_,?_,?_⟩
   · simp only[];omega
   · simp only[];rw[hBl];omega
   · simp only[];rw[hBl,← hx,hB]
   · simp only[];rw[hd]
end
section
open Go.RowKit
set_option maxRecDepth 20000
set_option maxHeartbeats 1000000
attribute [local go_sem ↓] Go.wp_at_zero Go.wp_at_succ
end
section
open Go.RowKit
set_option maxRecDepth 20000
set_option maxHeartbeats 1000000
attribute [local go_sem ↓] Go.wp_at_zero Go.wp_at_succ
end
section
open Go.RowKit
set_option maxRecDepth 20000
set_option maxHeartbeats 1000000
attribute [local go_sem ↓] Go.wp_at_zero Go.wp_at_succ
end
section
open Go.RowKit
set_option maxRecDepth 20000
set_option maxHeartbeats 1000000
attribute [local go_sem ↓] Go.wp_at_zero Go.wp_at_succ
end
end Go.Proofs.YtehabbnohoomjaaGreatDoor
