/- None -/
import Derived.Test.YtehabbnohoomjaaGreatDoorP48
namespace Go.Proofs.YtehabbnohoomjaaGreatDoor
set_option linter.unusedVariables false
set_option linter.unusedSimpArgs false
set_option linter.unnecessarySimpa false
section
open Go.RowKit
set_option maxRecDepth 20000
set_option maxHeartbeats 8000000
def Beg9R (M n:Nat) (L:List Ent) (w:World) (e:Ending) (w':World):Prop:=
 ∃ v ok,e= .returned (.tuple #[v,.bool ok])∧ (ok=false→v= .pointer none)∧ (ok=true→SortedE L∧(∀ E ∈ L,rightE E=0)∧
  ∃ pw pd pt qf qr S,v= .pointer (some ⟨pw,0,none⟩)∧ PreE M w.heap.size w' pw pd pt qf qr n L (L.map Ent.df) S∧S.off=false∧S.ops=0)∧ Below w.heap.size w w'
theorem z01 (M:Nat) (A:Option Addr) (n c:Nat) (L:List Ent) (Af:Option Addr) (cf:Nat) (fl:List UInt8) (mo:Int) (As:Option Addr) (ns cs:Nat) (w:World) (hn:n=L.length) (hL:SlE w A L) (hli:lightL L=true) (hsf:Sl w Af (fl.map bv)) (hfl:fl.length≤9000) (hM:M≤w.heap.size) :
 Calls Tryz.prog 10 #[.agg #[.slice A n c,.slice Af fl.length cf,.int .i64 mo,.slice As ns cs]] w (Beg9R M n L w):= by
 obtain⟨nf,hnf⟩:∃ n,n=fl.length:=⟨_,rfl⟩
 rw[← hnf]
 have q0:=zbm w 26 #[.slice A n c,.slice Af nf cf,.int .i64 mo,.slice As ns cs]
 have hb0:=zbf (Below.refl w.heap.size w) (.cells #[.slice A n c,.slice Af nf cf,.int .i64 mo,.slice As ns cs] 26)
 have HFT:=zak (zt7 hli)
 have HL0:=zak (hL.below hb0)
 have HN:=zak hn
 have HSF:=zak hsf
 have HNF:=zak hnf
 have HM:=zak hM
 have hnfb:nf≤9000:=by rw[hnf];exact hfl
 have hm50:0≤mo % 50∧mo % 50 < 50:=by omega
 obtain⟨m5,hm5⟩:∃ m,m=mo % 50:=⟨_,rfl⟩
 have HCN:=zak (fun W=>zc7 mo 50 W (by decide) (by decide))
 rw[← hm5] at hm50 HCN
 have hw5:IntKind.i64.wrap (1+m5)=1+m5:=by rw[IntKind.wrap_i64];omega
 have HB0:=zak hb0
 have HQ0:=zak q0
 obtain⟨q0_c0,q0_c1,q0_c2,q0_c3⟩:= zbi q0
 have q0_f:=q0.frozen
 have F0:∀ W,Below w.heap.size w W→Beg9R M n L w (.returned (.tuple #[.pointer none,.bool false])) W:=fun W h=>⟨_,false,rfl,fun _=>rfl,fun h=>(by cases h),h⟩
 have HF0:=zak F0
 clear q0 hb0 hn hL F0 hli hsf hnf hfl hM hm5
 go_enter Tryz.func10,Tryz.ntmps10
 go_wp2_with fail
 refine (zt0 A n c L _ HN.out HL0.out HFT.out).mono ?_
 rintro e w1 ⟨v,er,at_,rfl,hnp,h2,h3,hb1⟩
 have HNP:=zak hnp
 have H2:=zak h2
 have H3:=zak h3
 have HB1:=zak (zbd hb1 HB0.out)
 have HL1:=zak (HL0.out.below hb1)
 have HQ1:=zak (HQ0.out.below hb1 HQ0.out.lt)
 have q1:=HQ1.out
 have HZ1:=zak hb1.size
 clear q0_c0 q0_c1 q0_c2 q0_c3 q0_f
 obtain⟨q1_c0,q1_c1,q1_c2,q1_c3⟩:= zbi q1
 have q1_f:=q1.frozen
 clear hnp h2 h3 hb1 q1
 go_wp2_with fail
 refine (zt4 A n c L _ HN.out HL1.out HFT.out).mono ?_
 rintro e w2 ⟨pt,er',at',rfl,hnp',h3',hb2⟩
 have H3':=zak h3'
 obtain⟨rfl,rfl⟩:= zpk hnp' HNP.out
 have HB2:=zak (zbd hb2 HB1.out)
 have HB12:=zak hb2
 have HQ2:=zak (HQ1.out.below hb2 HQ1.out.lt)
 have q2:=HQ2.out
 have HZ2:=zak hb2.size
 clear q1_c0 q1_c1 q1_c2 q1_c3 q1_f
 obtain⟨q2_c0,q2_c1,q2_c2,q2_c3⟩:= zbi q2
 have q2_f:=q2.frozen
 clear hnp' hb2 q2 h3'
 by_cases her:er'=0
 · subst her
   have HS:Hid (SortedE L∧(∀ E ∈ L,rightE E=0)∧ ∃ at_,NewP L 0 at_):= zak ⟨zuc HNP.out,by
    intro E hE
    obtain⟨k,hk,rfl⟩:= List.getElem_of_mem hE
    rcases HNP.out with ⟨_,h,_⟩ | ⟨_,h,_⟩ | ⟨_,_,_,h⟩
    · omega
    · exact absurd rfl h
    · exact zpq (List.getElem?_eq_getElem hk) (h k hk),_,HNP.out⟩
   obtain⟨pd,gl,n',cl,Av,cv,ds,es,rfl,hn',hD⟩:= H3.out rfl
   have HD:=zak ((hD.mono (G:=fun g=>(w.alloc (.cells #[.slice A n c,.slice Af nf cf,.int .i64 mo,.slice As ns cs] 26)).heap.size≤g∧g < w1.heap.size) (fun g h1 h2=>⟨h2,h1⟩)).below HB12.out)
   have HN':=zak hn'
   obtain⟨Al2,n2,cl2,Av2,cv2,ds2,es2,hn2,hD2⟩:= H3'.out rfl
   obtain rfl:n2=n:=hn2.trans HN.out.symm
   obtain rfl:n'=n2:=hn'.trans hn2.symm
   have HT:=zak (hD2.mono (G:=fun g=>w1.heap.size≤g∧g < w2.heap.size) (fun g h1 h2=>⟨h2,h1⟩))
   have hnil:∀ (q:Nat),q=pd→True:=fun _ _=>trivial
   clear hn' hD H2 H3 hn2 hD2 H3' hnil
   have END:∀ (W:World) (qf qr:FP) (S:FS) (w3:World),Below w2.heap.size w2 w3→FD w3 qf S→(∀ g,qf.F g→w2.heap.size≤g)→ RF W qr S→(∀ g,qr.F g→w3.heap.size≤g)→ Below w3.heap.size w3 W→S.off=false∧S.ops=0→
    Beg9R M n' L w (.returned (.tuple #[.pointer (some ⟨W.heap.size,0,none⟩),.bool true])) (W.alloc (.cells #[.pointer (some ⟨pd,0,none⟩),.pointer (some ⟨pt,0,none⟩),.pointer (some ⟨qf.p,0,none⟩),.pointer (some ⟨qr.p,0,none⟩),.pointer none,.pointer none] 44)):= by
    intro W qf qr S w3 hb3 hF hqf hRF hqr hbW hS
    have z0:=HB0.out.size
    have z1:=HZ1.out
    have z2:=HZ2.out
    have z3:=hb3.size
    have z4:=hbW.size
    have hba:=zbf (Below.refl W.heap.size W) (.cells #[.pointer (some ⟨pd,0,none⟩),.pointer (some ⟨pt,0,none⟩),.pointer (some ⟨qf.p,0,none⟩),.pointer (some ⟨qr.p,0,none⟩),.pointer none,.pointer none] 44)
    have hb23:Below w2.heap.size w2 W:=hb3.trans (hbW.mono z3)
    have zM:=HM.out
    have eW:(W.alloc (.cells #[.pointer (some ⟨pd,0,none⟩),.pointer (some ⟨pt,0,none⟩),.pointer (some ⟨qf.p,0,none⟩),.pointer (some ⟨qr.p,0,none⟩),.pointer none,.pointer none] 44)).heap.size=W.heap.size+1:=by simp
    refine⟨_,true,rfl,fun h=>(by cases h),fun _=>⟨HS.out.1,HS.out.2.1,W.heap.size,pd,pt,qf,qr,S,rfl,⟨gl,cl,cv,Av,ds,es,_,Al2,cl2,Av2,cv2,ds2,es2,_,⟨_,_,zbm W _ _⟩,(HD.out.below hb23).below hba,(HT.out.below hb23).below hba,HN.out,(hF.below hbW).below hba,hRF.below hba,by omega,zM,?_,?_,?_,?_⟩,hS⟩,zbd (zbd hba hb23) HB2.out⟩
    · rintro g ⟨h1,h2⟩
      refine⟨by omega,by omega,by omega,fun hx=>?_,fun hx=>by omega,fun hx=>?_⟩
      · have:=hqf g hx;omega
      · have:=hqr g hx;omega
    · rintro g ⟨h1,h2⟩
      refine⟨by omega,by omega,by omega,fun hx=>?_,fun hx=>?_⟩
      · have:=hqf g hx;omega
      · have:=hqr g hx;omega
    · intro g hg
      have k1:=hqf g hg
      have k2:=hF.lt g hg
      refine⟨by omega,by omega,by omega,fun hx=>?_⟩
      have:=hqr g hx;omega
    · intro g hg
      have k1:=hqr g hg
      have k2:=hRF.lt g hg
      exact⟨by omega,by omega,by omega⟩
   have HEND:=zak END
   have HSF2:=zak (HSF.out.below HB2.out)
   clear END HNP
   by_cases hval:nf=0∨nf % 1024≠0∨8192 < nf
   · go_wp2_with fail
     refine (HCN.out _).mono ?_
     rintro e w3 ⟨rfl,rfl⟩
     go_wp2_with fail
     refine (zzh Af nf cf _ hval (by omega) (1+m5) (by omega)).mono ?_
     rintro e w3 ⟨rfl,hb3⟩
     have HB3:=zak hb3
     have HQ3:=zak (HQ2.out.below hb3 HQ2.out.lt)
     have q3:=HQ3.out
     clear q2_c0 q2_c1 q2_c2 q2_c3 q2_f
     obtain⟨q3_c0,q3_c1,q3_c2,q3_c3⟩:= zbi q3
     have q3_f:=q3.frozen
     clear hb3 q3
     go_wp2_with fail
     refine (zzf Af nf cf _ hval (by omega) (1+m5) (by omega)).mono ?_
     rintro e w4 ⟨p4,rfl,hb4⟩
     have HB4:=zak (zbd hb4 HB3.out)
     clear q3_c0 q3_c1 q3_c2 q3_c3 q3_f
     clear hb4
     go_wp2_with fail
     refine (zhy 3 (1+m5) _ (by decide) (by decide) (by omega) (by omega)).mono ?_
     rintro e w5 ⟨qf,rfl,hF5,hq5,hb5⟩
     have HF5:=zak hF5
     have HQF:=zak hq5
     have HB5:=zak (zbd hb5 HB4.out)
     have HZ5:=zak HB4.out.size
     clear hF5 hq5 hb5
     go_wp2_with fail
     refine (zzi 3 (1+m5) _ (by decide) (by decide) (by omega) (by omega)).mono ?_
     rintro e w6 ⟨qr,rfl,hR6,hq6,hb6⟩
     have HR6:=zak hR6
     have HQR:=zak hq6
     have HB6:=zak hb6
     clear hR6 hq6 hb6
     go_wp2_with fail
     go_ret2
     exact HEND.out w6 qf qr _ w5 HB5.out HF5.out (fun g hg=>by have:=HQF.out g hg;have:=HZ5.out;omega) HR6.out HQR.out HB6.out ⟨rfl,rfl⟩
   · obtain⟨k,hk,hk1,hk8⟩:∃ k,nf=1024 * k∧1≤k∧k≤8:=⟨nf / 1024,by omega,by omega,by omega⟩
     have HK:=zak hk
     clear hk hval
     go_wp2_with fail
     refine (HCN.out _).mono ?_
     rintro e w3 ⟨rfl,rfl⟩
     go_wp2_with fail
     refine (zhv Af nf cf fl k (1+m5) _ HNF.out HK.out hk1 hk8 (by omega) (by omega) HSF2.out).mono ?_
     rintro e w3 ⟨qf,rfl,hF3,hq3,hb3⟩
     have HF3:=zak hF3
     have HQF:=zak hq3
     have HB3:=zak hb3
     have HQ3:=zak (HQ2.out.below hb3 HQ2.out.lt)
     have q3:=HQ3.out
     have HSF3:=zak (HSF.out.below (zbd hb3 HB2.out))
     clear q2_c0 q2_c1 q2_c2 q2_c3 q2_f
     obtain⟨q3_c0,q3_c1,q3_c2,q3_c3⟩:= zbi q3
     have q3_f:=q3.frozen
     clear hF3 hq3 hb3 q3
     go_wp2_with fail
     refine (zzg Af nf cf fl k _ HNF.out HK.out hk1 hk8 (1+m5) (by omega) (by omega) HSF3.out).mono ?_
     rintro e w6 ⟨qr,rfl,hR6,hq6,hb6⟩
     have HR6:=zak hR6
     have HQR:=zak hq6
     have HB6:=zak hb6
     clear q3_c0 q3_c1 q3_c2 q3_c3 q3_f
     clear hR6 hq6 hb6
     go_wp2_with fail
     go_ret2
     exact HEND.out w6 qf qr _ w3 HB3.out HF3.out HQF.out HR6.out HQR.out HB6.out ⟨rfl,rfl⟩
 · have hp:=H2.out her
   subst hp
   clear H2 H3 HNP H3'
   go_wp2_with fail
   go_ret2
   exact HF0.out _ HB2.out
end
end Go.Proofs.YtehabbnohoomjaaGreatDoor
