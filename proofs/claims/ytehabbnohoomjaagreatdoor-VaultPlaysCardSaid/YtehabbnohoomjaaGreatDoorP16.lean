/- None -/
import Derived.Test.YtehabbnohoomjaaGreatDoorP15
namespace Go.Proofs.YtehabbnohoomjaaGreatDoor
set_option linter.unusedVariables false
set_option linter.unusedSimpArgs false
set_option linter.unnecessarySimpa false
section
open Go.RowKit
set_option maxRecDepth 20000
set_option maxHeartbeats 8000000
def AppR (Fj:Nat→Prop) (p:Nat) (q:FP) (A:Option Addr) (n c:Nat) (R:JS×FS×Int) (w:World) (e:Ending) (w':World):Prop:=
 ∃ ds',e= .returned (.int .i64 R.2.2)∧ JD w' (fun g=>Fj g∨w.heap.size≤g) p q.p A n c R.1 ds'∧FD w' q R.2.1∧zcj (fun g=>Fj g∨q.F g) w w'
theorem zj2 (bs:List UInt8):∀ (S:FS) (k:Nat),(progF S k bs).2=0∨(progF S k bs).2=7:=by
 induction bs with
 | nil=>intro S k;exact .inl rfl
 | cons x bs ih=>
   intro S k
   rw[progF]
   split
   · exact .inr rfl
   · exact ih _ _
theorem zj3 {S:FS} {m i:Nat} {er:Bool} (hl:S.b.length=1024 * S.wear.length) (h:placeJ (openJ S) S m=(i,er,true)) (hm:m≤960) :
 i < S.wear.length∧(er=false→((looksF S).getD i lookZ).en+m+13≤1024)∧ (er=true→((S.wear.getD i 0:Nat):Int) < S.most):= by
 unfold placeJ at h
 have hlooks:(openJ S).looks=looksF S:=rfl
 have hlast:lastJ (openJ S)=(looksF S).getD (newL (looksF S)).1 lookZ:=rfl
 have hhas:(openJ S).has=(newL (looksF S)).2:=rfl
 rw[hlooks,hlast,hhas] at h
 split at h
 · rename_i hr
   simp only[Bool.and_eq_true] at hr
   obtain⟨h1,h2⟩:= hr
   injection h with h3 h4
   injection h4 with h4 h5
   have hat:newL (looksF S)=(i,true):= Prod.ext h3 h1
   have hn:=(zgo.1 hat).1
   rw[zgx] at hn
   refine⟨hn,fun _=>?_,fun h=>by rw[← h4] at h;cases h⟩
   unfold roomL at h2
   simp only[Bool.and_eq_true,decide_eq_true_eq] at h2
   rw[hat] at h2
   exact h2.2.2
 · split at h
   · rename_i hnx
     injection h with h3 h4
     injection h4 with h4 h5
     obtain⟨s1,s2,_⟩:= (zgs (looksF S) S.wear S.most (zgx S).symm).1 hnx
     rw[h3] at s1 s2 h4
     rw[zgx] at s1
     refine⟨s1,?_,?_⟩
     · intro he
       rw[he] at h4
       unfold begunL at h4
       simp only[Bool.or_eq_false_iff,decide_eq_false_iff_not] at h4
       rw[zgz S s1] at h4 ⊢
       rw[zg2 (l:=secB S.b i) (by omega)]
       simp only[]
       omega
     · intro he
       rw[he] at h4
       unfold begunL at h4
       unfold skipL at s2
       simp only[Bool.or_eq_false_iff,Bool.and_eq_false_iff,Bool.or_eq_true,decide_eq_true_eq,decide_eq_false_iff_not,Bool.not_eq_true'] at h4 s2
       rcases s2.2 with h6 | h6
       · rcases h4 with h7 | h7
         · omega
         · rw[h7] at h6
           simp at h6
       · omega
   · injection h with h3 h4
     injection h4 with h4 h5
     cases h5
theorem zj4 (S:FS) (i:Nat):(∃ S1,eraseF S i=(S1,7))∨ ∃ S1,eraseF S i=(S1,0)∧ S1.off=S.off∧S1.ops=S.ops+1∧S1.wear.length=S.wear.length:=by
 unfold eraseF
 split
 · exact .inl ⟨_,rfl⟩
 · exact .inr ⟨_,rfl,rfl,rfl,by simp⟩
def GJ (q:FP) (p:Nat) (A:Option Addr):Nat→Prop:=fun g=>q.F g∨g=p∨A=some ⟨g,0,none⟩
def LayC (Fj:Nat→Prop) (p:Nat) (q:FP) (A:Option Addr) (n c:Nat) (R:JS×FS×Int) (kd:Int) (num:Nat) (d:List UInt8) (i:Nat) (w w6 wx:World):Prop:=
 ∃ J1 S1 ds1,JD wx (fun g=>Fj g∨w.heap.size≤g) p q.p A n c J1 ds1∧FD wx q S1∧zcj (GJ q p A) w6 wx∧R=layJ J1 S1 i (J1.looks.getD i lookZ) kd num d∧J1.dead=false∧S1.off=false∧i < n∧(J1.looks.getD i lookZ).en+d.length+13≤1024∧S1.ops+1500 < 4611686018427387904∧n=S1.wear.length
section
variable {Fj:Nat→Prop} {p n c m c2:Nat} {A A2:Option Addr} {J:JS} {ds:List (Option Addr×Nat)} {q:FP} {S:FS} {d:List UInt8}
theorem zj5 (kd:Int) (w:World) (hD:JD w Fj p q.p A n c J ds) (hS:FD w q S) (hdj:∀ g,Fj g→ ¬ q.F g) (hok:(J.dead || S.off)=true) :
 Calls Tryz.prog 134 #[.pointer (some ⟨p,0,none⟩),.int .i64 kd,.slice A2 m c2] w (AppR Fj p q A n c (appJ J S kd d) w):= by
 have hR:appJ J S kd d=(⟨J.looks,J.now,J.has,true⟩,S,7):= by unfold appJ;rw[if_pos hok]
 rw[hR]
 have HO:=zak (zit 7 w hD)
 have HON:=zak (zhj q S w hS)
 have HS:=zak hS
 have HDJ:=zak hdj
 have hB:=hD.blk
 unfold joC at hB
 obtain⟨dead,hd⟩:∃ x,x=J.dead:=⟨_,rfl⟩
 obtain⟨off,ho⟩:∃ x,x=S.off:=⟨_,rfl⟩
 have HIN:=zak hD.inF
 rw[← hd] at hB HO hok
 rw[← ho] at HON hok
 obtain⟨hB_c0,hB_c1,hB_c2,hB_c3,hB_c4⟩:= zbj hB
 have hB_f:=hB.frozen
 clear hD hS hB hd ho hdj hR
 have fin:∀ w',JD w' Fj p q.p A n c ⟨J.looks,J.now,J.has,(dead || decide ((7:Int)=7))⟩ ds→zcj (fun g=>g=p) w w'→AppR Fj p q A n c (⟨J.looks,J.now,J.has,true⟩,S,7) w (.returned (.int .i64 7)) w':=by
  intro w' h1 h2
  refine⟨ds,rfl,?_,HS.out.only h2 (fun g hg e=>HDJ.out p HIN.out (by rw[← e];exact hg)),h2.mono (fun g _ e=> .inl (by rw[e];exact HIN.out))⟩
  have e:(dead || decide ((7:Int)=7))=true:=by simp
  rw[e] at h1
  exact h1.mono (fun g _ h=> .inl h)
 have FIN:=zak fin
 clear fin
 cases dead
 · cases off
   · cases hok
   · go_enter Tryz.func134,Tryz.ntmps134
     go_wp2_with fail
     refine HON.out.mono ?_
     rintro e w1 ⟨rfl,rfl⟩
     rw[Bool.not_true]
     go_wp2_with fail
     refine HO.out.mono ?_
     rintro e w1 ⟨rfl,h1,h2⟩
     have HH:=zak (And.intro h1 h2)
     clear h1 h2
     go_wp2_with fail
     go_ret
     exact FIN.out _ HH.out.1 HH.out.2
 · go_enter Tryz.func134,Tryz.ntmps134
   go_wp2_with fail
   refine HO.out.mono ?_
   rintro e w1 ⟨rfl,h1,h2⟩
   have HH:=zak (And.intro h1 h2)
   clear h1 h2
   go_wp2_with fail
   go_ret
   exact FIN.out _ HH.out.1 HH.out.2
theorem zj6 (kd:Int) (w:World) (hD:JD w Fj p q.p A n c J ds) (hS:FD w q S) (hdj:∀ g,Fj g→ ¬ q.F g) (hJ:J=openJ S) (hoff:S.off=false) (hm:m=d.length) (hml:m≤35184372088832) (hs:Sl w A2 (d.map bv)) (hops:S.ops+2000 < 4611686018427387904) :
 Calls Tryz.prog 134 #[.pointer (some ⟨p,0,none⟩),.int .i64 kd,.slice A2 m c2] w (AppR Fj p q A n c (appJ J S kd d) w):= by
 obtain⟨R,hR⟩:∃ R,R=appJ J S kd d:=⟨_,rfl⟩
 rw[← hR]
 have HRR:=zak hR
 have hdead:J.dead=false:=by rw[hJ];rfl
 have hlk:J.looks=looksF S:=by rw[hJ];rfl
 have HON:=zak (zhj q S w hS)
 rw[hoff,Bool.not_false] at HON
 have HNU:=zak (fun W (hb:Below w.heap.size w W)=> zi8 W (hD.below hb))
 have hu:=zi6 hD.fit
 obtain⟨num,hnum⟩:∃ x,x=numJ J:=⟨_,rfl⟩
 rw[← hnum] at HNU hu
 have HNUM:=zak hnum
 have HJ:=zak hJ
 have HLK:=zak hlk
 have HDE:=zak hdead
 have HOFF:=zak hoff
 have HD:=zak hD
 have HS:=zak hS
 have HDJ:=zak hdj
 have HM:=zak hm
 have HSL:=zak hs
 have HOPS:=zak hops
 have hB:=hD.blk
 unfold joC at hB
 rw[hdead] at hB
 have zp:=hB.lt
 obtain⟨hB_c0,hB_c1,hB_c2,hB_c3,hB_c4⟩:= zbj hB
 have hB_f:=hB.frozen
 have hu':num≤4294967295:=by unfold U32 at hu;omega
 have HU:=zak hu
 clear hD hS hdj hJ hlk hoff hdead hm hs hops hB hR hnum hu
 by_cases hmax:num=4294967295
 · have hR:R=(J,S,6):= by
    rw[HRR.out]
    unfold appJ
    rw[if_neg (by rw[HDE.out,HOFF.out];decide),if_pos (by rw[← HNUM.out];exact hmax)]
   have HR:=zak hR
   have hmx:((num:Nat):Int)=4294967295:=by omega
   clear hR
   go_enter Tryz.func134,Tryz.ntmps134
   go_wp2_with fail
   refine HON.out.mono ?_
   rintro e w1 ⟨rfl,rfl⟩
   go_wp2_with fail
   refine (HNU.out _ (Below.refl _ _)).mono ?_
   rintro e w1 ⟨rfl,hb1⟩
   rw[hmx]
   go_wp2_with fail
   go_ret
   rw[HR.out]
   exact⟨ds,rfl,(HD.out.below hb1).mono (fun g _ h=> .inl h),HS.out.below hb1,zcj.of_below hb1⟩
 · have hmx:((num:Int) == 4294967295)=false:=by simp;omega
   go_enter Tryz.func134,Tryz.ntmps134
   go_wp2_with fail
   refine HON.out.mono ?_
   rintro e w1 ⟨rfl,rfl⟩
   go_wp2_with fail
   refine (HNU.out _ (Below.refl _ _)).mono ?_
   rintro e w1 ⟨rfl,hb1⟩
   have e0:=(hb1.cell (p:=⟨p,0,none⟩) zp).trans hB_c0
   have e1:=(hb1.cell (p:=⟨p,1,none⟩) zp).trans hB_c1
   have e2:=(hb1.cell (p:=⟨p,2,none⟩) zp).trans hB_c2
   have HB1:=zak hb1
   clear hb1
   go_wp2_with fail
   refine (HNU.out _ HB1.out).mono ?_
   rintro e w2 ⟨rfl,hb2⟩
   have HB2:=zak (zbd hb2 HB1.out)
   clear hb2 e0 e1 e2
   go_wp2_with (at_builtin;refine zce _ rfl _ _ rfl w.heap.size none 0 0 [] rfl (zcd.nil _ _) A2 m c2 d (by rfl) HM.out (HSL.out.below HB2.out) (by omega) HB2.out.size m (by omega) ?_;intro A3 c3 w3 hO3 _ _ hb3)
   have HB3:=zak (HB2.out.trans hb3)
   have HO3:=zak hO3
   obtain⟨num1,hn1⟩:∃ x,x=num+1:=⟨_,rfl⟩
   have e1:((num:Int)+1)=((num1:Nat):Int):= by omega
   rw[e1]
   have HN1:=zak hn1
   have hu1:U32 num1:=by unfold U32;omega
   have HPLC:=zak (fun W (hb:Below w.heap.size w W) (hl:m≤2000)=> zjh m W (HD.out.below hb) (HS.out.below hb) HLK.out hl)
   have HRB:=zak (zeg A3 kd num1 m c3 d (w3.alloc (.cells #[.int .i64 kd,.int .u32 (num1:Nat),.slice A3 m c3] 92)) HM.out (by have:=(HO3.out.alloc (.cells #[.int .i64 kd,.int .u32 (num1:Nat),.slice A3 m c3] 92)).sl;simpa using this) hu1)
   have q3:=zbm w3 92 #[.int .i64 kd,.int .u32 (num1:Nat),.slice A3 m c3]
   have HQ3:=zak q3
   have HB4:=zak (zbf HB3.out (.cells #[.int .i64 kd,.int .u32 (num1:Nat),.slice A3 m c3] 92))
   obtain⟨er,her⟩:∃ x,x=rightR kd num1 m:=⟨_,rfl⟩
   rw[← her] at HRB
   have HER:=zak her
   have hR:R=if er≠0 then (J,S,er) else match placeJ J S m with
    | (i,er,ok)=> if ok=false then (J,S,10)
      else if er=true then (match eraseF S i with
       | (S1,e1)=> if e1=0 then layJ ⟨J.looks.set i ⟨0,0,[],0,0,true⟩,J.now,J.has,J.dead⟩ S1 i ⟨0,0,[],0,0,true⟩ kd num1 d else (⟨J.looks,J.now,J.has,true⟩,S1,e1))
      else layJ J S i (J.looks.getD i lookZ) kd num1 d:=by
    rw[HRR.out]
    unfold appJ
    rw[if_neg (by rw[HDE.out,HOFF.out];decide),if_neg (by rw[← HNUM.out];exact hmax),← HNUM.out,← hn1,← HM.out,← her]
   have HR:=zak hR
   clear hb3 hO3 hn1 e1 q3 her hR
   refine HRB.out.mono ?_
   rintro e w5 ⟨A5,n5,c5,rfl,hO5,hb5⟩
   have HO5:=zak hO5
   have HO35:=zak ((HO3.out.alloc (.cells #[.int .i64 kd,.int .u32 (num1:Nat),.slice A3 m c3] 92)).below hb5)
   have HB5:=zak (zbd hb5 HB4.out)
   have HQ5:=zak (HQ3.out.below hb5 HQ3.out.lt)
   have hz5:=hb5.size
   clear hO5 hb5
   by_cases h0:er=0
   case neg=>
    have h0':(er != 0)=true:=by simpa using h0
    have hR2:R=(J,S,er):= by rw[HR.out,if_pos h0]
    have HR2:=zak hR2
    clear hR2 h0
    go_wp2_with fail
    go_ret
    rw[HR2.out]
    exact⟨ds,rfl,(HD.out.below HB5.out).mono (fun g _ h=> .inl h),HS.out.below HB5.out,zcj.of_below HB5.out⟩
   subst h0
   have hm960:m≤960:=(zed kd num1 m HER.out.symm).2.2.1
   obtain⟨⟨i,erz,ok⟩,hpl⟩:∃ x,x=placeJ J S m:=⟨_,rfl⟩
   have HPW:=zak (HPLC.out w5 HB5.out (by omega))
   rw[← hpl] at HPW
   have HPL:=zak hpl
   have hR2:R=if ok=false then (J,S,10)
    else if erz=true then (match eraseF S i with
     | (S1,e1)=> if e1=0 then layJ ⟨J.looks.set i ⟨0,0,[],0,0,true⟩,J.now,J.has,J.dead⟩ S1 i ⟨0,0,[],0,0,true⟩ kd num1 d else (⟨J.looks,J.now,J.has,true⟩,S1,e1))
    else layJ J S i (J.looks.getD i lookZ) kd num1 d:=by
    rw[HR.out,if_neg (fun h=>h rfl),← hpl]
   have HR2:=zak hR2
   clear hpl hR2
   go_wp2_with fail
   refine HPW.out.mono ?_
   rintro e w6 ⟨rfl,hb6⟩
   dsimp only
   have HB6:=zak (zbd hb6 HB5.out)
   have HQ6:=zak (HQ5.out.below hb6 HQ5.out.lt)
   have HO6:=zak (HO5.out.below hb6)
   have HO36:=zak (HO35.out.below hb6)
   have hz6:=hb6.size
   clear hb6
   cases ok
   · have hR3:R=(J,S,10):= by rw[HR2.out,if_pos rfl]
     have HR3:=zak hR3
     clear hR3
     go_wp2_with fail
     go_ret
     rw[HR3.out]
     exact⟨ds,rfl,(HD.out.below HB6.out).mono (fun g _ h=> .inl h),HS.out.below HB6.out,zcj.of_below HB6.out⟩
   have hpl2:placeJ (openJ S) S m=(i,erz,true):= by rw[← HJ.out];exact HPL.out.symm
   obtain⟨hin,hpe,hpw⟩:= zj3 HS.out.fit.len hpl2 hm960
   have hnS:n=S.wear.length:=by rw[HD.out.lks.hn,HLK.out,zgx]
   rw[← hnS] at hin
   have HPE:=zak hpe
   have HPW2:=zak hpw
   have HNS:=zak hnS
   have HG:Hid (∀ g,GJ q p A g→g < w.heap.size∧(Fj g∨q.F g)):= zak (by
    rintro g (h | rfl | h)
    · exact⟨HS.out.lt g h,.inr h⟩
    · exact⟨HD.out.blk.lt,.inl HD.out.inF⟩
    · exact⟨(HD.out.lks.own.fin g h).2,.inl (HD.out.lks.inF g h)⟩)
   obtain⟨g0,hA0⟩:∃ g,A=some ⟨g,0,none⟩:= by
    obtain⟨g,h1,_⟩:= HD.out.lks.own.at_ (by omega)
    exact⟨g,h1⟩
   subst hA0
   have HJW6:Hid (JD w6 (fun g=>Fj g∨w.heap.size≤g) p q.p (some ⟨g0,0,none⟩) n c J ds):= zak ((HD.out.below HB6.out).mono (fun g _ h=> .inl h))
   have HSW6:=zak (HS.out.below HB6.out)
   obtain⟨i1,i2,i3⟩:= zbr hin
   clear hpl2 hpe hpw hnS
   go_upto_if 76 with fail
   go_cut [13] (fun _ wx=>LayC Fj p q (some ⟨g0,0,none⟩) n c R kd num1 d i w w6 wx)
   case first=>
    cases erz
    · have hR3:R=layJ J S i (J.looks.getD i lookZ) kd num1 d:=by rw[HR2.out,if_neg (by decide),if_neg (by decide)]
      have HR3:=zak hR3
      clear hR3
      go_wp2_with fail
      go_meet
      case rel=>exact⟨J,S,ds,HJW6.out,HSW6.out,zcj.refl _ _,HR3.out,HDE.out,HOFF.out,hin,by rw[HLK.out,← HM.out];exact HPE.out (by trivial),by have:=HOPS.out;omega,HNS.out⟩
    · have hmost:=HPW2.out (by trivial)
      have hEr:eraseA S i=eraseF S i:=by unfold eraseA;rw[if_neg (by omega)]
      have hC:=zh3 q S i w6 HSW6.out (by rw[← HNS.out];exact hin) HOFF.out (by have:=HOPS.out;omega)
      rw[hEr] at hC
      have HC:=zak hC
      have HECS:=zak (zj4 S i)
      obtain⟨⟨S1,e1⟩,hE⟩:∃ x,x=eraseF S i:=⟨_,rfl⟩
      rw[← hE] at HC HECS
      have HE:=zak hE
      have e3:=(HB6.out.cell (p:=⟨p,3,none⟩) zp).trans hB_c3
      have hFq:∀ g,(Fj g∨w.heap.size≤g)→ ¬ q.F g:=fun g hg hq=>by
       rcases hg with hg | hg
       · exact HDJ.out g hg hq
       · have:=HS.out.lt g hq;omega
      have HFQ:=zak hFq
      clear hmost hEr hC hE hFq
      go_wp2_with fail
      refine HC.out.mono ?_
      rintro e w7 ⟨rfl,h1,h2⟩
      have HS7:=zak h1
      have HO7:=zak h2
      have HJ7:=zak (HJW6.out.only h2 HFQ.out)
      clear h1 h2 e3
      go_wp2_with fail
      refine (zit e1 w7 HJ7.out).mono ?_
      rintro e w8 ⟨rfl,h3,h4⟩
      have HS8:=zak (HS7.out.only h4 (fun g hg e=>HFQ.out p (.inl HD.out.inF) (by rw[← e];exact hg)))
      have HO8:Hid (zcj (GJ q p (some ⟨g0,0,none⟩)) w6 w8):= zak ((HO7.out.mono (fun g _ h=> .inl h)).trans h4 (fun g _ h=> .inr (.inl h)))
      have HJ8:=zak h3
      clear h3 h4
      by_cases h0:e1=0
      · subst h0
        have hz:∃ S1',(S1,(0:Int))=(S1',0)∧ S1'.off=S.off∧S1'.ops=S.ops+1∧S1'.wear.length=S.wear.length:=by
         rcases HECS.out with ⟨S1',h⟩ | h
         · injection h with _ h;cases h
         · exact h
        have HZ:Hid (S1.off=S.off∧S1.ops=S.ops+1∧S1.wear.length=S.wear.length):= zak (by
         obtain⟨S1',h,h2⟩:= hz
         injection h with h
         rw[h];exact h2)
        have hR3:R=layJ ⟨J.looks.set i ⟨0,0,[],0,0,true⟩,J.now,J.has,J.dead⟩ S1 i ⟨0,0,[],0,0,true⟩ kd num1 d:=by
         rw[HR2.out,if_neg (by decide),if_pos (by trivial),← HE.out]
         simp only[if_true]
        have HR3:=zak hR3
        have hd8:(J.dead || decide ((0:Int)=7))=J.dead:=by simp
        have hJ8:=HJ8.out
        rw[hd8] at hJ8
        have HJ9:=zak (hJ8.storeLk (x:=⟨0,0,[],0,0,true⟩) (A:=none) (c':=0) hin (zcd.nil _ _) (FIn.nil _) ⟨by show (0:Nat) < _;decide,by simp,by simp,by simp⟩)
        have HS9:=zak (HS8.out.only (zjx w8 g0 i ⟨0,0,[],0,0,true⟩ none 0) (fun g hg e=>HFQ.out g0 (.inl (HD.out.lks.inF g0 rfl)) (by rw[← e];exact hg)))
        have HO9:Hid (zcj (GJ q p (some ⟨g0,0,none⟩)) w6 (putLk w8 g0 i ⟨0,0,[],0,0,true⟩ none 0)):= zak (HO8.out.trans (zjx w8 g0 i ⟨0,0,[],0,0,true⟩ none 0) (fun g _ e=> .inr (.inr (by rw[e]))))
        have p8:=hJ8.blk
        unfold joC at p8
        obtain⟨x,hx⟩:∃ x,J.looks[i]? =some x:=⟨_,List.getElem?_eq_getElem (by rw[← HD.out.lks.hn];exact hin)⟩
        obtain⟨g',dd,hA',hg',hdd,_,_,_,⟨k0,k1,k2,k3,k4,k5⟩,_,_⟩:= hJ8.look hx
        injection hA' with hA'
        injection hA' with hA'
        subst hA'
        have hfz:∀ j,w8.frozen? ⟨g0,j,none⟩=false:=fun j=>World.ownsRow.frozenAt hJ8.lks.own j
        obtain⟨p8_c0,p8_c1,p8_c2,p8_c3,p8_c4⟩:= zbj p8
        have p8_f:=p8.frozen
        clear hz hR3 hd8 hJ8 p8 hx hdd
        go_wp2_with fail
        go_meet
        case rel=>
         have hg:(J.looks.set i ⟨0,0,[],0,0,true⟩).getD i lookZ=⟨0,0,[],0,0,true⟩:= by rw[zg6 _ _ _ _ (by rw[← HD.out.lks.hn];exact hin),if_pos rfl]
         exact⟨_,S1,_,HJ9.out,HS9.out,HO9.out,by rw[HR3.out];simp only[hg],HDE.out,by rw[HZ.out.1];exact HOFF.out,hin,by simp only[hg];rw[← HM.out];omega,by rw[HZ.out.2.1];have:=HOPS.out;omega,by rw[HZ.out.2.2];exact HNS.out⟩
      · have h7:e1=7:=by
         rcases HECS.out with ⟨S1',h⟩ | ⟨S1',h,_⟩
         · injection h with _ h
         · injection h with _ h;exact absurd h h0
        subst h7
        have hR3:R=(⟨J.looks,J.now,J.has,true⟩,S1,7):= by
         rw[HR2.out,if_neg (by decide),if_pos (by trivial),← HE.out]
         simp only[]
         rw[if_neg (by decide)]
        have HR3:=zak hR3
        clear hR3 h0
        go_wp2_with fail
        go_ret
        rw[HR3.out]
        have hJ8:=HJ8.out
        simp only[decide_true,Bool.or_true] at hJ8
        exact⟨ds,rfl,hJ8,HS8.out,(zcj.of_below HB6.out).trans HO8.out (fun g hg h=>(HG.out g h).2)⟩
   case rest=>
    obtain⟨J1,S1,ds1,hJ1,hS1,ho1,hR1,hd1,hoff1,hin1,hfit,hops1,hn1⟩:= hcut
    obtain⟨x,hx⟩:∃ x,J1.looks[i]? =some x:=⟨_,List.getElem?_eq_getElem (by rw[← hJ1.lks.hn];exact hin1)⟩
    have hgx:J1.looks.getD i lookZ=x:=by rw[List.getD_eq_getElem?_getD,hx];rfl
    rw[hgx] at hR1 hfit
    obtain⟨g',dd,hA',hg',hdd,hOx,hfx,_,⟨c0,c1,c2',c3',c4,c5'⟩,_,hFdd⟩:= hJ1.look hx
    injection hA' with hA'
    injection hA' with hA'
    subst hA'
    have hGF:∀ g,GJ q p (some ⟨g0,0,none⟩) g→g < w.heap.size:=fun g h=>(HG.out g h).1
    have hBl:=(zfa [] [] d kd num1 (by rw[← HM.out];exact HER.out.symm) hu1).2
    have hn5:n5=m+13:=by rw[HO5.out.hn,hBl,HM.out]
    have hzB:=HB4.out.size
    have hOb:zcd wc w.heap.size A5 n5 c5 (recB kd num1 d):= ⟨HO6.out.hn,(HO6.out.own.keep (fun g hg hlt _=>ho1.block g hlt (fun h=>by have:=hGF g h;omega))).mono hzB⟩
    have hQr:Blk wc w3.heap.size 92 #[.int .i64 kd,.int .u32 (num1:Nat),.slice A3 m c3]:= (ho1.block _ HQ6.out.lt (fun h=>by have:=hGF _ h;have:=HB3.out.size;omega)).trans HQ6.out
    have hO3c:zcd wc w.heap.size A3 m c3 d:=⟨HM.out,by
     have h1:=HO36.out.own
     simp only[List.nil_append] at h1
     exact h1.keep (fun g hg hlt _=>ho1.block g hlt (fun h=>by have:=hGF g h;omega))⟩
    have hz36:w.heap.size≤w3.heap.size:=HB3.out.size
    have hzc:=ho1.size
    have hr36:=HQ6.out.lt
    have q7:=zbm wc 131 #[.int .i64 x.k,.int .u32 (x.m:Nat),.slice dd.1 x.d.length dd.2,.int .i64 (x.cnt:Nat),.int .i64 (x.en:Nat),.bool x.cl]
    have p7:=hJ1.blk
    unfold joC at p7
    rw[hd1] at p7
    have hb7:=zbf (Below.refl wc.heap.size wc) (.cells #[.int .i64 x.k,.int .u32 (x.m:Nat),.slice dd.1 x.d.length dd.2,.int .i64 (x.cnt:Nat),.int .i64 (x.en:Nat),.bool x.cl] 131)
    obtain⟨p7_c0,p7_c1,p7_c2,p7_c3,p7_c4⟩:= zbj p7
    have p7_f:=p7.frozen
    obtain⟨q7_c0,q7_c1,q7_c2,q7_c3,q7_c4,q7_c5⟩:= zbk q7
    have q7_f:=q7.frozen
    have p71:=hJ1.blk.alloc (.cells #[.int .i64 x.k,.int .u32 (x.m:Nat),.slice dd.1 x.d.length dd.2,.int .i64 (x.cnt:Nat),.int .i64 (x.en:Nat),.bool x.cl] 131)
    unfold joC at p71
    rw[hd1] at p71
    have HJ7:=zak (hJ1.below hb7)
    have HS7:=zak (hS1.below hb7)
    have HQ7:=zak q7
    have HQR7:=zak (hQr.below hb7 hQr.lt)
    have HOB7:=zak (hOb.below hb7)
    have HO37:=zak (hO3c.below hb7)
    have HO1:Hid (zcj (fun g=>Fj g∨q.F g) w wc):= zak ((zcj.of_below HB6.out).trans ho1 (fun g hg h=>(HG.out g h).2))
    have HGF:=zak hGF
    have HX:=zak hx
    have HFX:=zak hfx
    have HR1:=zak hR1
    have HD1:=zak hd1
    have hen:=hfx.en
    obtain⟨k1,hk1⟩:∃ k,k=1024 * i:=⟨_,rfl⟩
    obtain⟨k2,hk2⟩:∃ k,k=k1+x.en:=⟨_,rfl⟩
    have hn8:n≤8:=HJ7.out.n8
    have f1:IntKind.i64.wrap ((i:Int) * 1024)=((k1:Nat):Int):= by rw[IntKind.wrap_i64];omega
    have f2:IntKind.i64.wrap ((k1:Int)+(x.en:Int))=((k2:Nat):Int):= by rw[IntKind.wrap_i64];omega
    have f3:((k1:Int)+(x.en:Int))=((k2:Nat):Int):= by omega
    have f4:IntKind.i64.wrap ((k1:Nat):Int)=((k1:Nat):Int):= by rw[IntKind.wrap_i64];omega
    have f5:IntKind.i64.wrap ((k2:Nat):Int)=((k2:Nat):Int):= by rw[IntKind.wrap_i64];omega
    have HN5:=zak hn5
    have HK2:Hid (1024 * i+x.en=k2):= zak (by omega)
    have HPR:=zak (fun W (hD:FD W q S1) (hO:zcd W w.heap.size A5 n5 c5 (recB kd num1 d))=> zig q S1 k2 A5 n5 c5 (recB kd num1 d) W hD (by rw[hn5,hBl,HM.out]) hoff1 (by rw[hD.fit.len,← hn1];rw[← HM.out] at hfit;omega) (fun W' ho=>(hO.own.keep (fun g hg hlt _=>ho.block g hlt (fun h=>by have:=HS.out.lt g h;omega))).sl) (by omega))
    obtain⟨⟨S2,e2⟩,hP⟩:∃ r,r=progF S1 k2 (recB kd num1 d):= ⟨_,rfl⟩
    have her2:e2=0∨e2=7:=by have:=zj2 (recB kd num1 d) S1 k2;rw[← hP] at this;exact this
    rw[← hP] at HPR
    have HP:=zak hP
    have HER2:=zak her2
    have HFQ:Hid (∀ g,(Fj g∨w.heap.size≤g)→ ¬ q.F g):= zak (fun g hg hq=>by
     rcases hg with hg | hg
     · exact HDJ.out g hg hq
     · have:=HS.out.lt g hq;omega)
    have zx:=q7.lt
    have zp7:=p71.lt
    clear hJ1 hS1 ho1 hR1 hd1 hoff1 hgx hdd hOx hfx hGF hOb hQr hO3c q7 p7 hb7 hk1 hP her2 hx hn5 hk2 hn1
    go_upto_region 20 with fail
    clear c0 c1 c2' c3' c4 c5'
    obtain⟨gx,hgx⟩:∃ gx,gx=wc.heap.size:=⟨_,rfl⟩
    rw[← hgx]
    refine zcs (P:=fun W=>FD W q S1∧JD W (fun g=>Fj g∨w.heap.size≤g) p q.p (some ⟨g0,0,none⟩) n c J1 ds1∧Blk W gx 131 #[.int .i64 x.k,.int .u32 (x.m:Nat),.slice dd.1 x.d.length dd.2,.int .i64 (x.cnt:Nat),.int .i64 (x.en:Nat),.bool x.cl]∧
     Blk W w3.heap.size 92 #[.int .i64 kd,.int .u32 (num1:Nat),.slice A3 m c3]∧ zcd W w.heap.size A5 n5 c5 (recB kd num1 d)∧ zcd W w.heap.size A3 m c3 d∧zcj (fun g=>Fj g∨q.F g) w W∧w3.heap.size < gx) ⟨HS7.out,HJ7.out,by rw[hgx];exact HQ7.out,HQR7.out,HOB7.out,HO37.out,HO1.out.new _,by omega⟩ ?_
    clear HS7 HJ7 HQ7 HQR7 HOB7 HO37 zx zp7 p71 q7_c0 q7_c1 q7_c2 q7_c3 q7_c4 q7_c5 q7_f p7_c0 p7_c1 p7_c2 p7_c3 p7_c4 p7_f
    have hzgx:w.heap.size≤gx:=by omega
    clear hgx
    rintro W7 ⟨hS7,hJ7,hQ7,hQR7,hOB7,hO37,hO17,hz37⟩
    have HS7:=zak hS7
    have HJ7:=zak hJ7
    have HQ7:=zak hQ7
    have HQR7:=zak hQR7
    have HOB7:=zak hOB7
    have HO37:=zak hO37
    have HO17:=zak hO17
    clear hS7 hJ7 hQ7 hQR7 hOB7 hO37 hO17
    go_cut [15] (fun s wx=>s= .int .i64 e2∧Hid (FD wx q S2)∧ Hid (JD wx (fun g=>Fj g∨w.heap.size≤g) p q.p (some ⟨g0,0,none⟩) n c ⟨J1.looks,J1.now,J1.has,(J1.dead || decide (e2=7))⟩ ds1)∧ Hid (zcj (GJ q p (some ⟨g0,0,none⟩)) W7 wx))
    case first=>
     have p3:=HJ7.out.blk.cell 3 (u:= .pointer (some ⟨q.p,0,none⟩)) rfl
     have x4:=HQ7.out.cell 4 (u:= .int .i64 (x.en:Nat)) rfl
     refine wp_region_held_drew (S:=(fun w'=>w'.cell? ⟨p,3,none⟩=some (.pointer (some ⟨q.p,0,none⟩))∧ w'.cell? ⟨gx,4,none⟩=some (.int .i64 (x.en:Nat)))) (by kernel_rfl) ?hS1 (fun hHeld=>?rest1)
     case hS1=>((try dsimp only);(exact⟨p3,x4⟩))
     case' rest1=>skip
     iterate 11 (refine tkN ?_;try simp only[PqL,Act.put])
     refine wpAnyH_ready (rs:= [11]) (by kernel_rfl) (by simp) ?_
     refine AllReadyH.cons (o:=_) rfl (fun K hK=>?_) .nil
     go_simp
     refine (HPR.out _ (HS7.out.below (zb9 (Below.refl _ _))) HOB7.out.drew).mono ?_
     rintro e w8 ⟨rfl,h1,h2⟩
     dsimp only
     have HS8:=zak h1
     have HO8:Hid (zcj q.F W7 w8):= zak ⟨h2.os,h2.tape,h2.output,h2.size,h2.block⟩
     have HJ8:=zak (HJ7.out.only HO8.out HFQ.out)
     have HQ8:=zak ((HO8.out.block _ HQ7.out.lt (fun h=>by have:=HS.out.lt _ h;omega)).trans HQ7.out)
     clear h1 h2
     refine hK.out _ _ ?hS15 (fun hHeld=>?rest15)
     case hS15=>((try dsimp only);(exact⟨HJ8.out.blk.cell 3 rfl,Blk.cell HQ8.out 4 rfl⟩))
     case' rest15=>(clear hK K;try simp only[PqL,Act.put])
     refine wpAnyH_ready (rs:= [12]) (by kernel_rfl) (by simp) ?_
     refine AllReadyH.cons (o:=_) rfl (fun K hK=>?_) .nil
     go_simp
     refine (zit e2 w8 HJ8.out).mono ?_
     rintro e w9 ⟨rfl,h3,h4⟩
     have HS9:=zak (HS8.out.only h4 (fun g hg e=>HFQ.out p (.inl HD.out.inF) (by rw[← e];exact hg)))
     have HO9:Hid (zcj (GJ q p (some ⟨g0,0,none⟩)) W7 w9):= zak ((HO8.out.mono (fun g _ h=> .inl h)).trans h4 (fun g _ h=> .inr (.inl h)))
     have HJ9:=zak h3
     have HQ9:=zak ((h4.block _ (Blk.lt HQ8.out) (fun h=>by have:=HD.out.blk.lt;omega)).trans HQ8.out)
     clear h3 h4
     dsimp only
     refine hK.out _ _ ?hS18 (fun hHeld=>?rest18)
     case hS18=>((try dsimp only);(exact⟨HJ9.out.blk.cell 3 rfl,Blk.cell HQ9.out 4 rfl⟩))
     case' rest18=>(clear hK K;try simp only[PqL,Act.put])
     refine tkH 13 ?_
     try simp only[PqL,Act.put]
     refine wpAnyH_done (by kernel_rfl) ?_ _
     have hEnd:=hHeld.2
     repeat (clear hHeld)
     go_wp2_with fail
     go_meet
     case rel=>exact⟨rfl,HS9,HJ9,HO9⟩
    case rest=>
     obtain⟨rfl,HS9,HJ9,HO9⟩:= hcut
     have HO19:Hid (zcj (fun g=>Fj g∨q.F g) w wc):= zak (HO17.out.trans HO9.out (fun g hg h=>(HG.out g h).2))
     have hlay:R=if e2=0 then (⟨J1.looks.set i ⟨kd,num1,d,x.cnt+1,x.en+d.length+13,x.cl⟩,i,true,J1.dead⟩,S2,0) else (⟨J1.looks,J1.now,J1.has,true⟩,S2,e2):= by
      rw[HR1.out]
      unfold layJ
      rw[HK2.out,← HP.out]
     have HLAY:=zak hlay
     have HBLK:=zak (fun (g:Nat) (t:TypeId) (cs:Array Value) (hg:w.heap.size≤g) (hB:Blk W7 g t cs)=> show Blk wc g t cs from (HO9.out.block g hB.lt (fun h=>by have:=(HG.out g h).1;omega)).trans hB)
     clear hlay
     by_cases h0:e2=0
     case neg=>
      have h7:e2=7:=by rcases HER2.out with h | h;exact absurd h h0;exact h
      subst h7
      have hR3:R=(⟨J1.looks,J1.now,J1.has,true⟩,S2,7):= by rw[HLAY.out,if_neg (by decide)]
      have HR3:=zak hR3
      clear hR3 h0
      go_wp2_with fail
      go_ret
      rw[HR3.out]
      have hJ9:=HJ9.out
      simp only[decide_true,Bool.or_true] at hJ9
      exact⟨ds1,rfl,hJ9,HS9.out,HO19.out⟩
     subst h0
     have hR3:R=(⟨J1.looks.set i ⟨kd,num1,d,x.cnt+1,x.en+d.length+13,x.cl⟩,i,true,J1.dead⟩,S2,0):= by rw[HLAY.out,if_pos rfl]
     have HR3:=zak hR3
     have hJ9:=HJ9.out
     have hd9:(J1.dead || decide ((0:Int)=7))=J1.dead:=by simp
     rw[hd9] at hJ9
     have HJX:=zak hJ9
     have qx:=HBLK.out gx _ _ (by omega) HQ7.out
     have qr:=HBLK.out w3.heap.size _ _ hz36 HQR7.out
     have HQX:=zak qx
     have hO39:zcd wc w.heap.size A3 m c3 d:=⟨HM.out,HO37.out.own.keep (fun g hg hlt _=>HO9.out.block g hlt (fun h=>by have:=(HG.out g h).1;omega))⟩
     have HO39:=zak hO39
     have hcn:=HFX.out.cnt
     have hn5b:n5≤2000:=by have:=HN5.out;omega
     have g1:IntKind.i64.wrap ((x.cnt:Int)+1)=(x.cnt:Int)+1:=by rw[IntKind.wrap_i64];omega
     have g2:IntKind.i64.wrap ((x.en:Int)+(n5:Int))=(x.en:Int)+(n5:Int):= by rw[IntKind.wrap_i64];omega
     obtain⟨qx_c0,qx_c1,qx_c2,qx_c3,qx_c4,qx_c5⟩:= zbk qx
     have qx_f:=qx.frozen
     obtain⟨qr_c0,qr_c1,qr_c2⟩:= zbh qr
     have qr_f:=qr.frozen
     clear hR3 hJ9 hd9 qx qr hO39 f1 f2 f3 f4 f5
     go_upto_region 26 with fail
     have hnewblk:Blk (((((wc.setCell ⟨gx,0,none⟩ (.int .i64 kd)).setCell ⟨gx,1,none⟩ (.int .u32 (num1:Nat))).setCell ⟨gx,2,none⟩ (.slice A3 m c3)).setCell ⟨gx,3,none⟩ (.int .i64 ((x.cnt:Int)+1))).setCell ⟨gx,4,none⟩ (.int .i64 ((x.en:Int)+(n5:Int)))) gx 131 #[.int .i64 kd,.int .u32 (num1:Nat),.slice A3 m c3,.int .i64 ((x.cnt:Int)+1),.int .i64 ((x.en:Int)+(n5:Int)),.bool x.cl]:=
      zhz (zhz (zhz (zhz (zhz HQX.out 0 (.int .i64 kd)) 1 (.int .u32 (num1:Nat))) 2 (.slice A3 m c3)) 3 (.int .i64 ((x.cnt:Int)+1))) 4 (.int .i64 ((x.en:Int)+(n5:Int)))
     have hno:zcj (fun g=>g=gx) wc (((((wc.setCell ⟨gx,0,none⟩ (.int .i64 kd)).setCell ⟨gx,1,none⟩ (.int .u32 (num1:Nat))).setCell ⟨gx,2,none⟩ (.slice A3 m c3)).setCell ⟨gx,3,none⟩ (.int .i64 ((x.cnt:Int)+1))).setCell ⟨gx,4,none⟩ (.int .i64 ((x.en:Int)+(n5:Int)))):=
      zcj.set (fun g=>g=gx) (zcj.set (fun g=>g=gx) (zcj.set (fun g=>g=gx) (zcj.set (fun g=>g=gx) (zcj.set (fun g=>g=gx) (zcj.refl _ _) rfl _) rfl _) rfl _) rfl _) rfl _
     have HGXF:Hid (∀ g,g < w.heap.size→g≠gx):= zak (fun g hg e=>by omega)
     refine zcs (P:=fun W=>FD W q S2∧JD W (fun g=>Fj g∨w.heap.size≤g) p q.p (some ⟨g0,0,none⟩) n c J1 ds1∧Blk W gx 131 #[.int .i64 kd,.int .u32 (num1:Nat),.slice A3 m c3,.int .i64 ((x.cnt:Int)+1),.int .i64 ((x.en:Int)+(n5:Int)),.bool x.cl]∧ zcd W w.heap.size A3 m c3 d∧zcj (fun g=>Fj g∨q.F g) w W) ⟨?_,?_,hnewblk,?_,?_⟩ ?_
     · exact HS9.out.only hno (fun g hg e=>HGXF.out g (HS.out.lt g hg) e)
     · exact HJX.out.apart HQX.out (fun e=>HGXF.out g0 (HD.out.lks.own.fin g0 rfl).2 e.symm) hno
     · exact⟨HO39.out.hn,HO39.out.own.keep (fun g hg hlt hA=>hno.block g hlt (fun e=>by
        have h1:=zcm HQX.out HO39.out.own (by decide)
        rw[hA,e] at h1
        exact h1 rfl))⟩
     · exact HO19.out.trans hno (fun g hg e=>absurd e (HGXF.out g hg))
     rintro W ⟨hSW,hJW,hQW,hOW,hOnW⟩
     have HSW:=zak hSW
     have HJW:=zak hJW
     have HQW:=zak hQW
     have HOW:=zak hOW
     have HONW:=zak hOnW
     clear qx_c0 qx_c1 qx_c2 qx_c3 qx_c4 qx_c5 qx_f qr_c0 qr_c1 qr_c2 qr_f hnewblk hno
     obtain⟨_,dd2,hA2',_,_,_,_,_,⟨k0,k1',k2',k3,k4,k5⟩,_,_⟩:= hJW.look HX.out
     injection hA2' with hA2'
     injection hA2' with hA2'
     subst hA2'
     have hfz:∀ j,W.frozen? ⟨g0,j,none⟩=false:=fun j=>World.ownsRow.frozenAt hJW.lks.own j
     have pW:=hJW.blk
     unfold joC at pW
     rw[HD1.out] at pW
     obtain⟨pW_c0,pW_c1,pW_c2,pW_c3,pW_c4⟩:= zbj pW
     have pW_f:=pW.frozen
     obtain⟨hQW_c0,hQW_c1,hQW_c2,hQW_c3,hQW_c4,hQW_c5⟩:= zbk hQW
     have hQW_f:=hQW.frozen
     have hpg0:p≠g0:=fun e=>zcm hJW.blk hJW.lks.own (by decide) (by rw[← e];rfl)
     have hgx0:gx≠g0:=fun e=>HGXF.out g0 (HD.out.lks.own.fin g0 rfl).2 e.symm
     have hgxp:gx≠p:=fun e=>HGXF.out p HD.out.blk.lt e.symm
     clear hSW hJW hQW hOW hOnW pW
     refine wp_region_held_drew (S:=(fun w'=>w'.cell? ⟨p,0,none⟩=some (.slice (some ⟨g0,0,none⟩) n c)∧ w'.cell? ⟨gx,0,none⟩=some (.int .i64 kd)∧ w'.cell? ⟨gx,1,none⟩=some (.int .u32 (num1:Nat))∧ w'.cell? ⟨gx,2,none⟩=some (.slice A3 m c3)∧ w'.cell? ⟨gx,3,none⟩=some (.int .i64 ((x.cnt:Int)+1))∧ w'.cell? ⟨gx,4,none⟩=some (.int .i64 ((x.en:Int)+(n5:Int)))∧ w'.cell? ⟨gx,5,none⟩=some (.bool x.cl))) (by kernel_rfl) ?hS21 (fun hHeld=>?rest21)
     case hS21=>((try dsimp only);(exact⟨pW_c0,hQW_c0,hQW_c1,hQW_c2,hQW_c3,hQW_c4,hQW_c5⟩))
     case' rest21=>skip
     iterate 10 (refine tkN ?_;try simp only[PqL,Act.put])
     refine wpAnyH_ready (rs:= [10]) (by kernel_rfl) (by simp) ?_
     refine AllReadyH.cons (o:=_) rfl (fun K hK=>?_) .nil
     go_simp
     refine hK.out _ _ ?hS34 (fun hHeld=>?rest34)
     case hS34=>((try dsimp only);(exact⟨pW_c0,hQW_c0,hQW_c1,hQW_c2,hQW_c3,hQW_c4,hQW_c5⟩))
     case' rest34=>(clear hK K;try simp only[PqL,Act.put])
     have hch:((((((W.setCell ⟨g0,i * 6,none⟩ (.int .i64 kd)).setCell ⟨g0,i * 6+1,none⟩ (.int .u32 (num1:Nat))).setCell ⟨g0,i * 6+2,none⟩ (.slice A3 m c3)).setCell ⟨g0,i * 6+3,none⟩ (.int .i64 ((x.cnt:Int)+1))).setCell ⟨g0,i * 6+4,none⟩ (.int .i64 ((x.en:Int)+(n5:Int)))).setCell ⟨g0,i * 6+5,none⟩ (.bool x.cl))=putLk W g0 i ⟨kd,num1,d,x.cnt+1,x.en+d.length+13,x.cl⟩ A3 c3:=by
      have h1:((x.en:Int)+(n5:Int))=((x.en+d.length+13:Nat):Int):= by have:=HN5.out;have:=HM.out;omega
      have h2:((x.cnt:Int)+1)=((x.cnt+1:Nat):Int):= by omega
      have h3:(Value.slice A3 m c3)= .slice A3 d.length c3:=by rw[← HM.out]
      unfold putLk
      rw[h1,h2,h3]
     have HB6:=zak (zj1 HJW.out.blk hpg0 (i * 6) (i * 6+1) (i * 6+2) (i * 6+3) (i * 6+4) (i * 6+5) (.int .i64 kd) (.int .u32 (num1:Nat)) (.slice A3 m c3) (.int .i64 ((x.cnt:Int)+1)) (.int .i64 ((x.en:Int)+(n5:Int))) (.bool x.cl)).drew
     have HX6:=zak (zj1 HQW.out hgx0 (i * 6) (i * 6+1) (i * 6+2) (i * 6+3) (i * 6+4) (i * 6+5) (.int .i64 kd) (.int .u32 (num1:Nat)) (.slice A3 m c3) (.int .i64 ((x.cnt:Int)+1)) (.int .i64 ((x.en:Int)+(n5:Int))) (.bool x.cl)).drew
     have hO6:zcj (fun k=>k=g0) W ((((((W.setCell ⟨g0,i * 6,none⟩ (.int .i64 kd)).setCell ⟨g0,i * 6+1,none⟩ (.int .u32 (num1:Nat))).setCell ⟨g0,i * 6+2,none⟩ (.slice A3 m c3)).setCell ⟨g0,i * 6+3,none⟩ (.int .i64 ((x.cnt:Int)+1))).setCell ⟨g0,i * 6+4,none⟩ (.int .i64 ((x.en:Int)+(n5:Int)))).setCell ⟨g0,i * 6+5,none⟩ (.bool x.cl)):= zj0 W g0 _ _ _ _ _ _ _ _ _ _ _ _
     have hS6:FD ((((((W.setCell ⟨g0,i * 6,none⟩ (.int .i64 kd)).setCell ⟨g0,i * 6+1,none⟩ (.int .u32 (num1:Nat))).setCell ⟨g0,i * 6+2,none⟩ (.slice A3 m c3)).setCell ⟨g0,i * 6+3,none⟩ (.int .i64 ((x.cnt:Int)+1))).setCell ⟨g0,i * 6+4,none⟩ (.int .i64 ((x.en:Int)+(n5:Int)))).setCell ⟨g0,i * 6+5,none⟩ (.bool x.cl)) q S2:=HSW.out.only hO6 (fun g hg e=>HFQ.out g0 (.inl (HD.out.lks.inF g0 rfl)) (by rw[← e];exact hg))
     have hOn6:zcj (fun g=>Fj g∨q.F g) w ((((((W.setCell ⟨g0,i * 6,none⟩ (.int .i64 kd)).setCell ⟨g0,i * 6+1,none⟩ (.int .u32 (num1:Nat))).setCell ⟨g0,i * 6+2,none⟩ (.slice A3 m c3)).setCell ⟨g0,i * 6+3,none⟩ (.int .i64 ((x.cnt:Int)+1))).setCell ⟨g0,i * 6+4,none⟩ (.int .i64 ((x.en:Int)+(n5:Int)))).setCell ⟨g0,i * 6+5,none⟩ (.bool x.cl)):= HONW.out.trans hO6 (fun g hg e=> .inl (by rw[e];exact HD.out.lks.inF g0 rfl))
     have hz0:w.heap.size≤W.heap.size:=HONW.out.size
     have hJ6:JD ((((((W.setCell ⟨g0,i * 6,none⟩ (.int .i64 kd)).setCell ⟨g0,i * 6+1,none⟩ (.int .u32 (num1:Nat))).setCell ⟨g0,i * 6+2,none⟩ (.slice A3 m c3)).setCell ⟨g0,i * 6+3,none⟩ (.int .i64 ((x.cnt:Int)+1))).setCell ⟨g0,i * 6+4,none⟩ (.int .i64 ((x.en:Int)+(n5:Int)))).setCell ⟨g0,i * 6+5,none⟩ (.bool x.cl)) (fun g=>Fj g∨w.heap.size≤g) p q.p (some ⟨g0,0,none⟩) n c ⟨J1.looks.set i ⟨kd,num1,d,x.cnt+1,x.en+d.length+13,x.cl⟩,J1.now,J1.has,J1.dead⟩ (ds1.set i (A3,c3)):= by
      rw[hch]
      refine HJW.out.storeLk (x:=⟨kd,num1,d,x.cnt+1,x.en+d.length+13,x.cl⟩) hin1 (by
       have h1:=HOW.out.mono (Nat.zero_le _)
       have h2:=HM.out
       rw[h2] at h1
       exact h1) ?_ ⟨hu1,?_,?_,?_⟩
      · exact HOW.out.own.fin.mono (fun g h=> .inr h.1)
      · simp only[];rw[← HM.out];omega
      · simp only[];omega
      · simp only[];rw[← HM.out];omega
     have HS6:=zak hS6
     have HON6:=zak hOn6
     have HJ6:=zak hJ6
     clear hch hO6 hS6 hOn6 hJ6
     refine wpAnyH_ready (rs:= [11]) (by kernel_rfl) (by simp) ?_
     refine AllReadyH.cons (o:=_) rfl (fun K hK=>?_) .nil
     go_simp
     refine hK.out _ _ ?hS37 (fun hHeld=>?rest37)
     case hS37=>((try dsimp only);(exact⟨(Hid.out HB6).cell 0 rfl,(Hid.out HX6).cell 0 rfl,(Hid.out HX6).cell 1 rfl,(Hid.out HX6).cell 2 rfl,(Hid.out HX6).cell 3 rfl,(Hid.out HX6).cell 4 rfl,(Hid.out HX6).cell 5 rfl⟩))
     case' rest37=>(clear hK K;try simp only[PqL,Act.put])
     refine zjz (R:=fun V=>FD V q S2∧JD V (fun g=>Fj g∨w.heap.size≤g) p q.p (some ⟨g0,0,none⟩) n c ⟨J1.looks.set i ⟨kd,num1,d,x.cnt+1,x.en+d.length+13,x.cl⟩,J1.now,J1.has,J1.dead⟩ (ds1.set i (A3,c3))∧ Blk V gx 131 #[.int .i64 kd,.int .u32 (num1:Nat),.slice A3 m c3,.int .i64 ((x.cnt:Int)+1),.int .i64 ((x.en:Int)+(n5:Int)),.bool x.cl]∧ zcj (fun g=>Fj g∨q.F g) w V) ⟨HS6.out.below (zb9 (Below.refl _ _)),HJ6.out.below (zb9 (Below.refl _ _)),Hid.out HX6,HON6.out.drew⟩ ?_
     rintro V ⟨hSV,hJV,hXV,hOV⟩
     have HSV:=zak hSV
     have HJV:=zak hJV
     have HXV:=zak hXV
     have HOV:=zak hOV
     have pV:=hJV.blk
     unfold joC at pV
     rw[HD1.out] at pV
     obtain⟨pV_c0,pV_c1,pV_c2,pV_c3,pV_c4⟩:= zbj pV
     have pV_f:=pV.frozen
     clear hSV hJV hXV hOV pV k0 k1' k2' k3 k4 k5 hfz pW_c0 pW_c1 pW_c2 pW_c3 pW_c4 pW_f hQW_c0 hQW_c1 hQW_c2 hQW_c3 hQW_c4 hQW_c5 hQW_f HB6 HX6 HS6 HON6 HJ6
     refine wpAnyH_ready (rs:= [12]) (by kernel_rfl) (by simp) ?_
     refine AllReadyH.cons (o:=_) rfl (fun K hK=>?_) .nil
     go_simp
     refine hK.out _ _ ?hS40 (fun hHeld=>?rest40)
     case hS40=>((try dsimp only);(exact⟨HJV.out.blk.cell 0 rfl,Blk.cell HXV.out 0 rfl,Blk.cell HXV.out 1 rfl,Blk.cell HXV.out 2 rfl,Blk.cell HXV.out 3 rfl,Blk.cell HXV.out 4 rfl,Blk.cell HXV.out 5 rfl⟩))
     case' rest40=>(clear hK K;try simp only[PqL,Act.put])
     refine wpAnyH_ready (rs:= [13]) (by kernel_rfl) (by simp) ?_
     refine AllReadyH.cons (o:=_) rfl (fun K hK=>?_) .nil
     go_simp
     refine hK.out _ _ ?hS43 (fun hHeld=>?rest43)
     case hS43=>((try dsimp only);(exact⟨HJV.out.blk.cell 0 rfl,Blk.cell HXV.out 0 rfl,Blk.cell HXV.out 1 rfl,Blk.cell HXV.out 2 rfl,Blk.cell HXV.out 3 rfl,Blk.cell HXV.out 4 rfl,Blk.cell HXV.out 5 rfl⟩))
     case' rest43=>(clear hK K;try simp only[PqL,Act.put])
     refine wpAnyH_ready (rs:= [14]) (by kernel_rfl) (by simp) ?_
     refine AllReadyH.cons (o:=_) rfl (fun K hK=>?_) .nil
     go_simp
     refine hK.out _ _ ?hS46 (fun hHeld=>?rest46)
     case hS46=>((try dsimp only);(exact⟨HJV.out.blk.cell 0 rfl,Blk.cell HXV.out 0 rfl,Blk.cell HXV.out 1 rfl,Blk.cell HXV.out 2 rfl,Blk.cell HXV.out 3 rfl,Blk.cell HXV.out 4 rfl,Blk.cell HXV.out 5 rfl⟩))
     case' rest46=>(clear hK K;try simp only[PqL,Act.put])
     have HB7:=zak (zhz HJV.out.blk 1 (.int .i64 (i:Nat)))
     have HX7:=zak (Blk.far HXV.out (p:=⟨p,1,none⟩) hgxp (.int .i64 (i:Nat)))
     have hFp:∀ g,q.F g→ ¬ g=p:=fun g hg e=>HFQ.out p (.inl HD.out.inF) (by rw[← e];exact hg)
     have HJ7':Hid (JD (V.setCell ⟨p,1,none⟩ (.int .i64 (i:Nat))) (fun g=>Fj g∨w.heap.size≤g) p q.p (some ⟨g0,0,none⟩) n c ⟨J1.looks.set i ⟨kd,num1,d,x.cnt+1,x.en+d.length+13,x.cl⟩,i,J1.has,J1.dead⟩ (ds1.set i (A3,c3))):= zak (HJV.out.reblk (zhd _ _) (Hid.out HB7) rfl (by show i≤8;omega) (fun _=>hin1))
     have HS7':=zak (HSV.out.only (zhd (p:=p) 1 (.int .i64 (i:Nat))) hFp)
     have HO7':Hid (zcj (fun g=>Fj g∨q.F g) w (V.setCell ⟨p,1,none⟩ (.int .i64 (i:Nat)))):= zak (HOV.out.trans (zhd (p:=p) 1 (.int .i64 (i:Nat))) (fun g _ e=> .inl (by rw[e];exact HD.out.inF)))
     refine wpAnyH_ready (rs:= [15]) (by kernel_rfl) (by simp) ?_
     refine AllReadyH.cons (o:=_) rfl (fun K hK=>?_) .nil
     go_simp
     refine hK.out _ _ ?hS49 (fun hHeld=>?rest49)
     case hS49=>((try dsimp only);(exact⟨(Hid.out HB7).cell 0 rfl,(Hid.out HX7).cell 0 rfl,(Hid.out HX7).cell 1 rfl,(Hid.out HX7).cell 2 rfl,(Hid.out HX7).cell 3 rfl,(Hid.out HX7).cell 4 rfl,(Hid.out HX7).cell 5 rfl⟩))
     case' rest49=>(clear hK K;try simp only[PqL,Act.put])
     refine zjz (R:=fun V=>FD V q S2∧JD V (fun g=>Fj g∨w.heap.size≤g) p q.p (some ⟨g0,0,none⟩) n c ⟨J1.looks.set i ⟨kd,num1,d,x.cnt+1,x.en+d.length+13,x.cl⟩,i,J1.has,J1.dead⟩ (ds1.set i (A3,c3))∧ Blk V gx 131 #[.int .i64 kd,.int .u32 (num1:Nat),.slice A3 m c3,.int .i64 ((x.cnt:Int)+1),.int .i64 ((x.en:Int)+(n5:Int)),.bool x.cl]∧ zcj (fun g=>Fj g∨q.F g) w V) ⟨HS7'.out,HJ7'.out,Hid.out HX7,HO7'.out⟩ ?_
     rintro V2 ⟨hSV,hJV,hXV,hOV⟩
     have HSV2:=zak hSV
     have HJV2:=zak hJV
     have HXV2:=zak hXV
     have HOV2:=zak hOV
     have pU:=hJV.blk
     unfold joC at pU
     rw[HD1.out] at pU
     obtain⟨pU_c0,pU_c1,pU_c2,pU_c3,pU_c4⟩:= zbj pU
     have pU_f:=pU.frozen
     clear hSV hJV hXV hOV pU pV_c0 pV_c1 pV_c2 pV_c3 pV_c4 pV_f HB7 HX7 HJ7' HS7' HO7'
     refine wpAnyH_ready (rs:= [16]) (by kernel_rfl) (by simp) ?_
     refine AllReadyH.cons (o:=_) rfl (fun K hK=>?_) .nil
     go_simp
     refine hK.out _ _ ?hS52 (fun hHeld=>?rest52)
     case hS52=>((try dsimp only);(exact⟨HJV2.out.blk.cell 0 rfl,Blk.cell HXV2.out 0 rfl,Blk.cell HXV2.out 1 rfl,Blk.cell HXV2.out 2 rfl,Blk.cell HXV2.out 3 rfl,Blk.cell HXV2.out 4 rfl,Blk.cell HXV2.out 5 rfl⟩))
     case' rest52=>(clear hK K;try simp only[PqL,Act.put])
     refine wpAnyH_ready (rs:= [17]) (by kernel_rfl) (by simp) ?_
     refine AllReadyH.cons (o:=_) rfl (fun K hK=>?_) .nil
     go_simp
     refine hK.out _ _ ?hS55 (fun hHeld=>?rest55)
     case hS55=>((try dsimp only);(exact⟨HJV2.out.blk.cell 0 rfl,Blk.cell HXV2.out 0 rfl,Blk.cell HXV2.out 1 rfl,Blk.cell HXV2.out 2 rfl,Blk.cell HXV2.out 3 rfl,Blk.cell HXV2.out 4 rfl,Blk.cell HXV2.out 5 rfl⟩))
     case' rest55=>(clear hK K;try simp only[PqL,Act.put])
     refine wpAnyH_ready (rs:= [18]) (by kernel_rfl) (by simp) ?_
     refine AllReadyH.cons (o:=_) rfl (fun K hK=>?_) .nil
     go_simp
     refine hK.out _ _ ?hS58 (fun hHeld=>?rest58)
     case hS58=>((try dsimp only);(exact⟨HJV2.out.blk.cell 0 rfl,Blk.cell HXV2.out 0 rfl,Blk.cell HXV2.out 1 rfl,Blk.cell HXV2.out 2 rfl,Blk.cell HXV2.out 3 rfl,Blk.cell HXV2.out 4 rfl,Blk.cell HXV2.out 5 rfl⟩))
     case' rest58=>(clear hK K;try simp only[PqL,Act.put])
     have HB8:=zak (zhz HJV2.out.blk 2 (.bool true))
     have HX8:=zak (Blk.far HXV2.out (p:=⟨p,2,none⟩) hgxp (.bool true))
     refine wpAnyH_ready (rs:= [19]) (by kernel_rfl) (by simp) ?_
     refine AllReadyH.cons (o:=_) rfl (fun K hK=>?_) .nil
     go_simp
     refine hK.out _ _ ?hS61 (fun hHeld=>?rest61)
     case hS61=>((try dsimp only);(exact⟨(Hid.out HB8).cell 0 rfl,(Hid.out HX8).cell 0 rfl,(Hid.out HX8).cell 1 rfl,(Hid.out HX8).cell 2 rfl,(Hid.out HX8).cell 3 rfl,(Hid.out HX8).cell 4 rfl,(Hid.out HX8).cell 5 rfl⟩))
     case' rest61=>(clear hK K;try simp only[PqL,Act.put])
     refine wpAnyH_done (by kernel_rfl) ?_ _
     have hEnd:=hHeld.2
     repeat (clear hHeld)
     go_wp2_with fail
     go_ret
     rw[HR3.out]
     exact⟨ds1.set i (A3,c3),rfl,HJV2.out.reblk (J':=⟨J1.looks.set i ⟨kd,num1,d,x.cnt+1,x.en+d.length+13,x.cl⟩,i,true,J1.dead⟩) (zhd _ _) (Hid.out HB8) rfl (by show i≤8;omega) (fun _=>hin1),HSV2.out.only (zhd (p:=p) 2 (.bool true)) hFp,HOV2.out.trans (zhd (p:=p) 2 (.bool true)) (fun g _ e=> .inl (by rw[e];exact HD.out.inF))⟩
end
end
end Go.Proofs.YtehabbnohoomjaaGreatDoor
