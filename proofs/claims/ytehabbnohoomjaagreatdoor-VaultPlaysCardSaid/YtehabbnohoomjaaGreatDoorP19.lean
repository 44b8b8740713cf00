/- None -/
import Derived.Test.YtehabbnohoomjaaGreatDoorP18
namespace Go.Proofs.YtehabbnohoomjaaGreatDoor
set_option linter.unusedVariables false
set_option linter.unusedSimpArgs false
set_option linter.unnecessarySimpa false
section
section
open Go.RowKit
set_option maxRecDepth 20000
set_option maxHeartbeats 4000000
theorem zkx (S:FS) (k:Nat) (x:UInt8):(oneF S k x).1.b.length=S.b.length∧(oneF S k x).1.ops≤S.ops+1∧((oneF S k x).2=0∨(oneF S k x).2=7):= by
 unfold oneF
 split
 · exact⟨by simp,by simp only[];omega,.inr rfl⟩
 · exact⟨by simp,by simp only[];omega,.inl rfl⟩
theorem zky (q:FP) (S:FS) (k:Nat) (A:Option Addr) (n c:Nat) (l:List UInt8) (w:World) (hD:RF w q S) (hn:n=l.length) (hoff:S.off=false) (hfit:k+n≤S.b.length) (hsrc:∀ W,zcj q.F w W→Sl W A (l.map bv)) (hops:S.ops+n < 4611686018427387904) :
 Calls Tryz.prog 176 #[.pointer (some ⟨q.p,0,none⟩),.int .i64 (k:Nat),.slice A n c] w fun e w'=>e= .returned (.int .i64 (progF S k l).2)∧ RF w' q (progF S k l).1∧zcj q.F w w':=by
 have HD:=zak hD
 have HSRC:=zak hsrc
 have HN:=zak hn
 obtain⟨⟨c0,-,-,c3,-⟩,-⟩:= hD.c
 rw[hoff] at c3
 have h8:=hD.fit.wl8
 have hlen:=hD.fit.len
 obtain⟨bl,hbl⟩:∃ n,n=S.b.length:=⟨_,rfl⟩
 have HBL:=zak hbl
 have hbl2:bl≤8192:=by omega
 rw[← hbl] at c0 hfit
 have HOPS:=zak hops
 have u1:decide ((k:Int) < 0)=false:=by simp
 have u2:decide (bl < k)=false:=by simp;omega
 have u3:decide ((bl:Int) < (k:Int))=false:=by simp;omega
 have u4:decide ((bl:Int) - (k:Int) < (n:Int))=false:=by simp;omega
 obtain⟨R,hR⟩:∃ R,R=progF S k l:=⟨_,rfl⟩
 rw[← hR]
 have HR0:=zak (show R=progF S (k+0) (l.drop 0) from hR)
 clear hD hsrc hn hoff hbl h8 hlen hops hR
 go_enter Tryz.func176,Tryz.ntmps176
 go_wp2_with fail
 go_loopw [6,7,8] (fun _ j _ wr=> ∃ (mm:Nat) (S':FS),mm≤n∧j= .int .i64 (mm:Nat)∧ Hid (R=progF S' (k+mm) (l.drop mm)∧ S'.b.length=bl∧S'.ops≤S.ops+mm)∧ Hid (RF wr q S')∧ Hid (zcj q.F w wr)) (fun _ j _ _=>n - (intOf j).toNat)
 case atStart=>exact⟨0,S,by omega,rfl,zak ⟨HR0.out,HBL.out.symm,Nat.le_refl _⟩,HD,zak (zcj.refl _ _)⟩
 case round=>
  obtain⟨mm,S',hm,rfl,HL,HFr,HOr⟩:= hrel
  by_cases hlt:mm < n
  · obtain⟨ad,rfl,hcell⟩:= (HSRC.out wr HOr.out).byte (j:=mm) (by rw[← HN.out];exact hlt)
    have HON:=zak (zkw q S' (k+mm) (l[mm]'(by rw[← HN.out];exact hlt)) wr HFr.out (by rw[HL.out.2.1];omega) (by have:=HL.out.2.2;have:=HOPS.out;omega))
    have hdr:l.drop mm=l[mm]'(by rw[← HN.out];exact hlt) :: l.drop (mm+1):= List.drop_eq_getElem_cons (by rw[← HN.out];exact hlt)
    have hR2:=HL.out.1
    rw[hdr,zj9] at hR2
    obtain⟨x,hx⟩:∃ x,x=l[mm]'(by rw[← HN.out];exact hlt):= ⟨_,rfl⟩
    rw[← hx] at hcell HON hR2
    obtain⟨hl1,hl2,hl3⟩:= zkx S' (k+mm) x
    obtain⟨⟨S2,e2⟩,hS2⟩:∃ r,r=oneF S' (k+mm) x:=⟨_,rfl⟩
    rw[← hS2] at HON hR2 hl1 hl2 hl3
    dsimp only at HON hR2 hl1 hl2 hl3
    have HH:=zak (And.intro hR2 (And.intro hl1 hl2))
    obtain⟨j1,j2,j3⟩:= zbr hlt
    rw[show (((k+mm:Nat)):Int)=(k:Int)+(mm:Int) by omega] at HON
    clear hx hdr hR2 hl1 hl2 hS2
    rcases hl3 with rfl | rfl
    · go_wp2_with fail
      refine HON.out.mono ?_
      rintro e w2 ⟨rfl,hF2,hO2⟩
      have HF2:=zak hF2
      have HO2:=zak (HOr.out.trans hO2 (fun _ _ h=>h))
      have HL2:Hid (R=progF S2 (k+(mm+1)) (l.drop (mm+1))∧ S2.b.length=bl∧S2.ops≤S.ops+(mm+1)):= zak ⟨HH.out.1.trans (by first | exact if_pos rfl | exact if_pos trivial),by rw[HH.out.2.1];exact HL.out.2.1,by have:=HH.out.2.2;have:=HL.out.2.2;omega⟩
      clear hF2 hO2
      go_wp2_with fail
      go_roundw
      case rel=>exact⟨mm+1,_,by omega,by go_num,HL2,HF2,HO2⟩
      case measure=>simp[intOf];omega
    · go_wp2_with fail
      refine HON.out.mono ?_
      rintro e w2 ⟨rfl,hF2,hO2⟩
      have HF2:=zak hF2
      have HO2:=zak (HOr.out.trans hO2 (fun _ _ h=>h))
      have HRE:Hid (R=(S2,7)):= zak (HH.out.1.trans (if_neg (by decide)))
      clear hF2 hO2
      go_wp2_with fail
      go_ret
      exact⟨za0 (by rw[HRE.out]),by rw[HRE.out];exact HF2.out,HO2.out⟩
  · obtain rfl:mm=n:=by omega
    have HRE:Hid (R=(S',0)):= zak (by rw[HL.out.1,List.drop_of_length_le (by rw[← HN.out];exact Nat.le_refl _)];rfl)
    go_wp2_with fail
    go_ret
    exact⟨za0 (by rw[HRE.out]),by rw[HRE.out];exact HFr.out,HOr.out⟩
theorem zkz (q:FP) (S:FS) (i:Nat) (w:World) (hD:RF w q S) (hoff:S.off=false) (hi:i < S.wear.length) (hops:S.ops < 4611686018427387904) (hw:((S.wear.getD i 0:Nat):Int) < S.most) :
 Calls Tryz.prog 175 #[.pointer (some ⟨q.p,0,none⟩),.int .i64 (i:Nat)] w fun e w'=>e= .returned (.int .i64 (eraseF S i).2)∧ RF w' q (eraseF S i).1∧zcj q.F w w':=by
 have HD:=zak hD
 have h8:=hD.fit.wl8
 have hlen:=hD.fit.len
 have hm2:=hD.fit.m2
 have hmk:=hD.fit.mask
 have hsw:∀ W,RF W q S→_:=fun W h=>RF.setW h i (S.wear.getD i 0+1) (by omega)
 have hcl:∀ W,RF W q S→(W.cell? ⟨q.p,1,none⟩=some (.slice (some ⟨q.gw,0,none⟩) S.wear.length q.cw)∧ W.cell? ⟨q.p,2,none⟩=some (.int .i64 S.most))∧ W.cell? ⟨q.gw,i,none⟩=some (.int .i64 ((S.wear.getD i 0:Nat):Int))∧ W.frozen? ⟨q.gw,i,none⟩=false:=fun W h=>⟨⟨h.c.1.2.1,h.c.1.2.2.1⟩,h.wcell hi⟩
 obtain⟨x,hx⟩:∃ x,x=S.wear.getD i 0:=⟨_,rfl⟩
 obtain⟨S1,hS1⟩:∃ S1:FS,S1= { S with wear:=S.wear.set i (x+1) }:= ⟨_,rfl⟩
 rw[← hx,← hS1] at hsw
 rw[← hx] at hw hcl
 have hTO:∀ W,RF W q S1→_:=fun W h=>zka q S1 W h (by rw[hS1];exact hops)
 obtain⟨mk,hmk2⟩:∃ m,m=S.mask:=⟨_,rfl⟩
 have hmkl:mk≤4294967295:=by rw[hmk2];unfold U32 at hmk;omega
 obtain⟨LIM,hLIM⟩:∃ n:Nat,n=if S.ahead=0 then mk % 1025 else 1024:=⟨_,rfl⟩
 have hL2:LIM≤1024:=by rw[hLIM];split<;>omega
 have HX:=zak hx
 have HS1:=zak hS1
 have HMK:=zak hmk2
 have HLIM:=zak hLIM
 have c3:=hD.c.1.2.2.2.1
 have c1:=(hcl w hD).1.1
 have c2:=(hcl w hD).1.2
 have cw:=(hcl w hD).2.1
 rw[hoff] at c3
 obtain⟨nw,hnw⟩:∃ n,n=S.wear.length:=⟨_,rfl⟩
 have HNW:=zak hnw
 rw[← hnw] at c1 hi h8 hlen hcl
 obtain⟨most,hmo⟩:∃ m,m=S.most:=⟨_,rfl⟩
 rw[← hmo] at c2 hw hm2 hcl
 obtain⟨bl,hbl⟩:∃ n,n=S.b.length:=⟨_,rfl⟩
 have HBL:=zak hbl
 have HBW:Hid (bl=1024 * nw):= zak (by rw[hbl,hlen])
 have hi7:i≤7:=by omega
 obtain⟨fr,hfr⟩:∃ fr,fr=1024 * i:=⟨_,rfl⟩
 have hf7:fr≤7168:=by omega
 have hfi:((i:Int) * 1024)=((fr:Nat):Int):= by omega
 have HFRR:=zak hfr
 have HFB:Hid (fr+1024≤bl):= zak (by rw[hbl,hlen,hfr];omega)
 have HSW:=zak hsw
 have HCL:=zak hcl
 have HTO:=zak hTO
 obtain⟨i1,i2,i3⟩:= zbr hi
 by_cases h0:S.ahead=0
 · have HTF:Hid (tornF S1=({ S1 with ahead:= -1,off:=true },true)):= zak (by unfold tornF;rw[if_pos (by rw[hS1];exact h0)])
   have hLv:LIM=mk % 1025:=by rw[hLIM,if_pos h0]
   have HEF:Hid (eraseF S i=({ S with b:=put S.b (1024 * i) (List.replicate (S.mask % 1025) 255),wear:=S.wear.set i (S.wear.getD i 0+1),ahead:= -1,off:=true },7)):= zak (by unfold eraseF;rw[if_pos h0])
   rw[HTF.out] at HTO
   obtain⟨S2,hS2⟩:∃ S2:FS,S2= { S1 with ahead:= -1,off:=true }:= ⟨_,rfl⟩
   rw[← hS2] at HTO
   have hb2:S2.b=S.b:=by rw[hS2,hS1]
   have hm2':S2.mask=mk:=by rw[hS2,hS1,hmk2]
   have HB2:=zak hb2
   have HM2:=zak hm2'
   have HFIN:Hid (({ S2 with b:=put S.b fr (List.replicate LIM 255) }:FS)= { S with b:=put S.b (1024 * i) (List.replicate (S.mask % 1025) 255),wear:=S.wear.set i (S.wear.getD i 0+1),ahead:= -1,off:=true }):= zak (by rw[hLv,hfr,hS2,hS1,hmk2,hx])
   rw[HEF.out]
   obtain⟨S9,hS9⟩:∃ S9:FS,S9= { S with b:=put S.b (1024 * i) (List.replicate (S.mask % 1025) 255),wear:=S.wear.set i (S.wear.getD i 0+1),ahead:= -1,off:=true }:= ⟨_,rfl⟩
   rw[← hS9] at HFIN ⊢
   clear hD hsw hS1 hTO hS2 hx hbl hoff hnw hmo hlen hops hcl hfr hmk hmk2 hLIM h0 HTF HEF hb2 hm2' hS9
   go_enter Tryz.func175,Tryz.ntmps175
   go_wp2_with fail
   go_quiet (fail)
   go_wp2_with fail
   refine zcs (P:=fun W=>RF W q S∧Below w.heap.size w W) ⟨HD.out.below (by repeat' (first | with_reducible assumption | with_reducible exact Below.refl _ _ | with_reducible apply zbf | with_reducible apply zb9 | with_reducible apply zb8 | (with_reducible apply zbd;with_reducible assumption) | (with_reducible apply zca;(first | exact Nat.le_refl _ | (simp;done) | omega)))),by repeat' (first | with_reducible assumption | with_reducible exact Below.refl _ _ | with_reducible apply zbf | with_reducible apply zb9 | with_reducible apply zb8 | (with_reducible apply zbd;with_reducible assumption) | (with_reducible apply zca;(first | exact Nat.le_refl _ | (simp;done) | omega)))⟩ ?_
   rintro W ⟨hW,hbW⟩
   obtain⟨⟨d1,d2⟩,dw,fw⟩:= HCL.out W hW
   have HSS:=zak (HSW.out _ (hW.below (zb9 (Below.refl W.heap.size W))))
   rw[show (((x+1:Nat):Int))=(x:Int)+1 by omega] at HSS
   have HBW0:=zak hbW
   clear c1 c2 cw c3 hbW hW
   refine zaj (fun w'=>w'.cell? ⟨q.p,1,none⟩=some (.slice (some ⟨q.gw,0,none⟩) nw q.cw)∧ w'.cell? ⟨q.gw,i,none⟩=some (.int .i64 (x:Nat))) [0,1,2,3,4,5,6,7,8,9,10,11,12,13] (by kernel_rfl) ?hS1 (fun hHeld=>?rest1)
   case hS1=>((try dsimp only);exact⟨d1,dw⟩)
   case' rest1=>skip
   refine tkT 0 ?_
   try simp only[PqL,Act.put]
   refine tkT 1 ?_
   try simp only[PqL,Act.put]
   refine tkT 2 ?_
   try simp only[PqL,Act.put]
   refine tkT 3 ?_
   try simp only[PqL,Act.put]
   refine tkT 4 ?_
   try simp only[PqL,Act.put]
   refine tkT 5 ?_
   try simp only[PqL,Act.put]
   refine tkT 6 ?_
   try simp only[PqL,Act.put]
   refine tkT 7 ?_
   try simp only[PqL,Act.put]
   refine tkT 8 ?_
   try simp only[PqL,Act.put]
   refine tkT 9 ?_
   try simp only[PqL,Act.put]
   refine tkT 10 ?_
   try simp only[PqL,Act.put]
   refine tkT 11 ?_
   try simp only[PqL,Act.put]
   refine tkT 12 ?_
   try simp only[PqL,Act.put]
   refine tkT 13 ?_
   try simp only[PqL,Act.put]
   refine zah (i:=14) (o:=_) rfl (by kernel_rfl) (by kernel_rfl) (fun K hK=>?_)
   go_simp
   refine hK.out _ _ ?rest17
   case' rest17=>(clear hK K;try simp only[PqL,Act.put])
   refine zai (by kernel_rfl) ?_ _
   repeat (clear hHeld)
   go_wp2_with fail
   refine (HTO.out _ HSS.out).mono ?_
   rintro e w1 ⟨rfl,hF1,hO1⟩
   have HF1:=zak hF1
   have HO1:Hid (zcj q.F w w1):= zak (((zcj.of_below (F:=q.F) (zb9 HBW0.out)).set _ (p:=q.gw) (.inr (.inr rfl)) _).trans hO1 (fun _ _ h=> .inl h))
   have d5:=hF1.c.1.2.2.2.2.2.1
   rw[HM2.out] at d5
   have HFs:Hid (RF w1 q { S2 with b:=put S.b fr (List.replicate 0 255) }):= zak (by
    rw[List.replicate_zero,zfu,← HB2.out]
    exact HF1.out)
   have hmi:(mk:Int) % 1025=(LIM:Int):= by omega
   clear hF1 hO1 d1 d2 dw fw HSS HBW0 hLv
   go_wp2_with fail
   go_loopw [7] (fun j wr=> ∃ (k:Nat),k≤LIM∧j= .int .i64 (k:Nat)∧ Hid (RF wr q { S2 with b:=put S.b fr (List.replicate k 255) })∧ Hid (zcj q.F w wr)) (fun j _=>LIM - (intOf j).toNat)
   case atStart=>exact⟨0,by omega,rfl,HFs,HO1⟩
   case round=>
    obtain⟨k,hk,rfl,HFr,HOr⟩:= hrel
    by_cases hlt:k < LIM
    · have hpl:(put S.b fr (List.replicate k 255)).length=bl:=by rw[zfs (by rw[List.length_replicate,← HBL.out];have:=HFB.out;omega),HBL.out]
      obtain⟨⟨c0,-⟩,-⟩:= HFr.out.c
      simp only[] at c0
      rw[hpl] at c0
      have hfl:fr+k < bl:=by have:=HFB.out;omega
      obtain⟨cb,fb⟩:= HFr.out.byte (j:=fr+k) (by simp only[];rw[hpl];exact hfl)
      have j1:(0:Int)≤ (fr:Int)+(k:Int):= by omega
      have j2:(fr:Int)+(k:Int) < (bl:Int):= by omega
      have j3:((fr:Int)+(k:Int)).toNat=fr+k:=by omega
      have he:(put S.b fr (List.replicate k 255)).set (fr+k) 255=put S.b fr (List.replicate (k+1) 255):= by
       have:=zhn (l:=S.b) (A:=List.replicate k 255) (k:=fr) 255 (by rw[List.length_replicate,← HBL.out];exact hfl)
       rw[List.length_replicate] at this
       rw[this,← List.replicate_succ']
      have HFN:Hid (RF (wr.setCell ⟨q.gb,fr+k,none⟩ (.int .u8 255)) q { S2 with b:=put S.b fr (List.replicate (k+1) 255) }):= zak (by
       have:=HFr.out.setB (fr+k) 255
       simp only[] at this
       rw[he] at this
       exact this)
      have HON:=zak (HOr.out.set _ (p:=q.gb) (i:=fr+k) (.inr (.inl rfl)) (.int .u8 255))
      clear hpl he hfl
      go_wp2_with fail
      go_roundw
      case rel=>exact⟨k+1,by omega,by go_num,HFN,HON⟩
      case measure=>simp[intOf];omega
    · obtain rfl:k=LIM:=by omega
      go_wp2_with fail
      go_ret
      exact⟨rfl,by rw[← HFIN.out];exact HFr.out,HOr.out⟩
 · have HTF:Hid (tornF S1=({ S1 with ahead:=decA S1.ahead,ops:=S1.ops+1 },false)):= zak (by unfold tornF;rw[if_neg (by rw[hS1];exact h0)])
   have hLv:LIM=1024:=by rw[hLIM,if_neg h0]
   have HEF:Hid (eraseF S i=({ S with b:=put S.b (1024 * i) (List.replicate 1024 255),wear:=S.wear.set i (S.wear.getD i 0+1),ahead:=decA S.ahead,ops:=S.ops+1 },0)):= zak (by unfold eraseF;rw[if_neg h0])
   rw[HTF.out] at HTO
   obtain⟨S2,hS2⟩:∃ S2:FS,S2= { S1 with ahead:=decA S1.ahead,ops:=S1.ops+1 }:= ⟨_,rfl⟩
   rw[← hS2] at HTO
   have hb2:S2.b=S.b:=by rw[hS2,hS1]
   have hm2':S2.mask=mk:=by rw[hS2,hS1,hmk2]
   have HB2:=zak hb2
   have HM2:=zak hm2'
   have HFIN:Hid (({ S2 with b:=put S.b fr (List.replicate LIM 255) }:FS)= { S with b:=put S.b (1024 * i) (List.replicate 1024 255),wear:=S.wear.set i (S.wear.getD i 0+1),ahead:=decA S.ahead,ops:=S.ops+1 }):= zak (by rw[hLv,hfr,hS2,hS1,hx])
   rw[HEF.out]
   obtain⟨S9,hS9⟩:∃ S9:FS,S9= { S with b:=put S.b (1024 * i) (List.replicate 1024 255),wear:=S.wear.set i (S.wear.getD i 0+1),ahead:=decA S.ahead,ops:=S.ops+1 }:= ⟨_,rfl⟩
   rw[← hS9] at HFIN ⊢
   clear hD hsw hS1 hTO hS2 hx hbl hoff hnw hmo hlen hops hcl hfr hmk hmk2 hLIM h0 HTF HEF hb2 hm2' hS9
   go_enter Tryz.func175,Tryz.ntmps175
   go_wp2_with fail
   go_quiet (fail)
   go_wp2_with fail
   refine zcs (P:=fun W=>RF W q S∧Below w.heap.size w W) ⟨HD.out.below (by repeat' (first | with_reducible assumption | with_reducible exact Below.refl _ _ | with_reducible apply zbf | with_reducible apply zb9 | with_reducible apply zb8 | (with_reducible apply zbd;with_reducible assumption) | (with_reducible apply zca;(first | exact Nat.le_refl _ | (simp;done) | omega)))),by repeat' (first | with_reducible assumption | with_reducible exact Below.refl _ _ | with_reducible apply zbf | with_reducible apply zb9 | with_reducible apply zb8 | (with_reducible apply zbd;with_reducible assumption) | (with_reducible apply zca;(first | exact Nat.le_refl _ | (simp;done) | omega)))⟩ ?_
   rintro W ⟨hW,hbW⟩
   obtain⟨⟨d1,d2⟩,dw,fw⟩:= HCL.out W hW
   have HSS:=zak (HSW.out _ (hW.below (zb9 (Below.refl W.heap.size W))))
   rw[show (((x+1:Nat):Int))=(x:Int)+1 by omega] at HSS
   have HBW0:=zak hbW
   clear c1 c2 cw c3 hbW hW
   refine zaj (fun w'=>w'.cell? ⟨q.p,1,none⟩=some (.slice (some ⟨q.gw,0,none⟩) nw q.cw)∧ w'.cell? ⟨q.gw,i,none⟩=some (.int .i64 (x:Nat))) [0,1,2,3,4,5,6,7,8,9,10,11,12,13] (by kernel_rfl) ?hS19 (fun hHeld=>?rest19)
   case hS19=>((try dsimp only);exact⟨d1,dw⟩)
   case' rest19=>skip
   refine tkT 0 ?_
   try simp only[PqL,Act.put]
   refine tkT 1 ?_
   try simp only[PqL,Act.put]
   refine tkT 2 ?_
   try simp only[PqL,Act.put]
   refine tkT 3 ?_
   try simp only[PqL,Act.put]
   refine tkT 4 ?_
   try simp only[PqL,Act.put]
   refine tkT 5 ?_
   try simp only[PqL,Act.put]
   refine tkT 6 ?_
   try simp only[PqL,Act.put]
   refine tkT 7 ?_
   try simp only[PqL,Act.put]
   refine tkT 8 ?_
   try simp only[PqL,Act.put]
   refine tkT 9 ?_
   try simp only[PqL,Act.put]
   refine tkT 10 ?_
   try simp only[PqL,Act.put]
   refine tkT 11 ?_
   try simp only[PqL,Act.put]
   refine tkT 12 ?_
   try simp only[PqL,Act.put]
   refine tkT 13 ?_
   try simp only[PqL,Act.put]
   refine zah (i:=14) (o:=_) rfl (by kernel_rfl) (by kernel_rfl) (fun K hK=>?_)
   go_simp
   refine hK.out _ _ ?rest35
   case' rest35=>(clear hK K;try simp only[PqL,Act.put])
   refine zai (by kernel_rfl) ?_ _
   repeat (clear hHeld)
   go_wp2_with fail
   refine (HTO.out _ HSS.out).mono ?_
   rintro e w1 ⟨rfl,hF1,hO1⟩
   have HF1:=zak hF1
   have HO1:Hid (zcj q.F w w1):= zak (((zcj.of_below (F:=q.F) (zb9 HBW0.out)).set _ (p:=q.gw) (.inr (.inr rfl)) _).trans hO1 (fun _ _ h=> .inl h))
   have d5:=hF1.c.1.2.2.2.2.2.1
   rw[HM2.out] at d5
   have HFs:Hid (RF w1 q { S2 with b:=put S.b fr (List.replicate 0 255) }):= zak (by
    rw[List.replicate_zero,zfu,← HB2.out]
    exact HF1.out)
   subst hLv
   clear hF1 hO1 d1 d2 dw fw HSS HBW0
   go_wp2_with fail
   go_loopw [7] (fun j wr=> ∃ (k:Nat),k≤1024∧j= .int .i64 (k:Nat)∧ Hid (RF wr q { S2 with b:=put S.b fr (List.replicate k 255) })∧ Hid (zcj q.F w wr)) (fun j _=>1024 - (intOf j).toNat)
   case atStart=>exact⟨0,by omega,rfl,HFs,HO1⟩
   case round=>
    obtain⟨k,hk,rfl,HFr,HOr⟩:= hrel
    by_cases hlt:k < 1024
    · have hpl:(put S.b fr (List.replicate k 255)).length=bl:=by rw[zfs (by rw[List.length_replicate,← HBL.out];have:=HFB.out;omega),HBL.out]
      obtain⟨⟨c0,-⟩,-⟩:= HFr.out.c
      simp only[] at c0
      rw[hpl] at c0
      have hfl:fr+k < bl:=by have:=HFB.out;omega
      obtain⟨cb,fb⟩:= HFr.out.byte (j:=fr+k) (by simp only[];rw[hpl];exact hfl)
      have j1:(0:Int)≤ (fr:Int)+(k:Int):= by omega
      have j2:(fr:Int)+(k:Int) < (bl:Int):= by omega
      have j3:((fr:Int)+(k:Int)).toNat=fr+k:=by omega
      have he:(put S.b fr (List.replicate k 255)).set (fr+k) 255=put S.b fr (List.replicate (k+1) 255):= by
       have:=zhn (l:=S.b) (A:=List.replicate k 255) (k:=fr) 255 (by rw[List.length_replicate,← HBL.out];exact hfl)
       rw[List.length_replicate] at this
       rw[this,← List.replicate_succ']
      have HFN:Hid (RF (wr.setCell ⟨q.gb,fr+k,none⟩ (.int .u8 255)) q { S2 with b:=put S.b fr (List.replicate (k+1) 255) }):= zak (by
       have:=HFr.out.setB (fr+k) 255
       simp only[] at this
       rw[he] at this
       exact this)
      have HON:=zak (HOr.out.set _ (p:=q.gb) (i:=fr+k) (.inr (.inl rfl)) (.int .u8 255))
      clear hpl he hfl
      go_wp2_with fail
      go_roundw
      case rel=>exact⟨k+1,by omega,by go_num,HFN,HON⟩
      case measure=>simp[intOf];omega
    · obtain rfl:k=1024:=by omega
      go_wp2_with fail
      go_ret
      exact⟨rfl,by rw[← HFIN.out];exact HFr.out,HOr.out⟩
end
end
section
set_option maxHeartbeats 1000000
theorem zk0 (S:FS):(recS S).2.1=numJ (openJ S):= by
 unfold recS numJ lastJ openJ
 simp only[]
 split<;>rfl
theorem zk1 (S:FS) (h:(newL (looksF S)).2=false):recS S=(0,0,[]):= by
 unfold recS
 rw[h]
 rfl
structure Fresh (S:FS) (N:Nat):Prop where
 len:S.b.length=1024 * S.wear.length
 three:3≤S.wear.length
 wear:∀ j,j < S.wear.length→S.wear.getD j 0≤N
 most:(N:Int) < S.most
 num:numJ (openJ S)≤ N
 small:N≤1000000
theorem zk2 {S:FS} {N:Nat} (h:Fresh S N):(nextL (looksF S) S.wear S.most).2=true:=by
 cases hb:(nextL (looksF S) S.wear S.most).2
 · exfalso
   have h1:=((zgs (looksF S) S.wear S.most (zgx S).symm).2 hb).2
   have hsk:∀ j,j < S.wear.length→newL (looksF S)≠ (j,true)→ False:=by
    intro j hj hne
    have h2:=h1 j (by rw[zgx];exact hj)
    unfold skipL at h2
    simp only[Bool.or_eq_true,Bool.and_eq_true,decide_eq_true_eq] at h2
    rcases h2 with ⟨h2,h3⟩ | ⟨_,h2⟩
    · exact hne (Prod.ext h3.symm h2)
    · have:=h.wear j hj
      have:=h.most
      omega
   have:=h.three
   by_cases h0:newL (looksF S)=(0,true)
   · exact hsk 1 (by omega) (by rw[h0];simp)
   · exact hsk 0 (by omega) h0
 · rfl
section
variable {S S':FS} {J':JS} {kd e:Int} {d:List UInt8} {N i:Nat} {y:LK} {er:Bool}
theorem zk3 (h:Fresh S N) (hoff:S.off=false) (hr:rightR kd (numJ (openJ S)+1) d.length=0) (ha:appJ (openJ S) S kd d=(J',S',e)):∃ i y er,StepR S S' J' kd (numJ (openJ S)+1) d e i y er:=by
 rcases zg5 h.len hoff (by have:=h.num;have:=h.small;omega) hr ha with ⟨_,_,_,h4⟩ | h
 · rw[zk2 h] at h4;cases h4
 · exact h
theorem zk4 (h:StepR S S' J' kd (numJ (openJ S)+1) d e i y er) (j:Nat):S'.wear.getD j 0=S.wear.getD j 0+(if er=true∧j=i then 1 else 0):= by
 rw[h.wear]
 cases er
 · simp
 · simp only[if_true,true_and]
   rw[List.getD_eq_getElem?_getD,List.getElem?_set]
   by_cases hj:i=j
   · subst hj
     rw[if_pos rfl,if_pos h.hi,if_pos rfl]
     rfl
   · rw[if_neg hj,if_neg (fun e=>hj e.symm),← List.getD_eq_getElem?_getD]
     rfl
theorem zk5 (h:Fresh S N) (hs:StepR S S' J' kd (numJ (openJ S)+1) d e i y er) (hN:((N+1:Nat):Int) < S.most) (hN2:N+1≤1000000):Fresh S' (N+1):= by
 refine⟨by rw[hs.kept.len,hs.kept.wear,h.len],by rw[hs.kept.wear];exact h.three,?_,by rw[hs.kept.most];exact hN,?_,hN2⟩
 · intro j hj
   rw[hs.kept.wear] at hj
   rw[zk4 hs]
   have:=h.wear j hj
   split<;>omega
 · have hn:=h.num
   rcases zhb hs with ⟨_,h2⟩ | ⟨_,_,h2,_⟩
   · rw[← zk0,h2]
     simp only[]
     omega
   · rw[← zk0,h2,zk0]
     omega
structure WInv (S:FS) (c:Nat):Prop where
 gap:∀ k j,k < S.wear.length→j < S.wear.length→S.wear.getD k 0≤S.wear.getD j 0+2+c
 near:∀ k j,k < S.wear.length→j < S.wear.length→(newL (looksF S)=(j,true)∨ begunL ((looksF S).getD j lookZ)=false)→ S.wear.getD k 0≤S.wear.getD j 0+1+c
end
def newF (n:Nat) (most:Int):FS:=⟨List.replicate (n * 1024) 255,List.replicate n 0,most,false,-1,0,0⟩
theorem zk6 (n:Nat) (most:Int):looksF (newF n most)=List.replicate n ⟨0,0,[],0,0,true⟩:= by
 apply List.ext_getElem?
 intro j
 by_cases hj:j < n
 · rw[zgy _ (by simp[newF];exact hj),List.getElem?_replicate,if_pos hj]
   have hs:secB (newF n most).b j=List.replicate 1024 255:=by
    unfold secB newF
    simp only[List.drop_replicate,List.take_replicate]
    congr 1
    omega
   rw[hs]
   obtain⟨c,h1,h2⟩:= zgi (List.replicate 1024 255) 1024 (by omega) (by rw[List.length_replicate];exact Nat.le_refl _)
   have h3:put (List.replicate 1024 255) 0 (List.replicate 1024 255)=List.replicate 1024 (255:UInt8):= by
    unfold put
    rw[List.take_zero,List.nil_append,List.drop_eq_nil_of_le (by rw[List.length_replicate];omega),List.append_nil]
   rw[h3] at h1
   rw[h1,h2 (by rw[List.length_replicate])]
 · rw[List.getElem?_eq_none (by rw[zgx];simp[newF];omega),List.getElem?_eq_none (by simp;omega)]
theorem zk7 (n:Nat) (most:Int):newL (looksF (newF n most))=(0,false):= by
 refine zgp.2 ?_
 intro j hj
 rw[zk6] at hj ⊢
 rw[List.length_replicate] at hj
 rw[List.getD_eq_getElem?_getD,List.getElem?_replicate,if_pos hj]
 rfl
theorem zk8 (n:Nat) (most:Int) (h3:3≤n) (hm:0 < most):Fresh (newF n most) 0:=by
 refine⟨by simp[newF];omega,by simp[newF];omega,?_,hm,?_,by omega⟩
 · intro j hj
   simp only[newF] at hj ⊢
   rw[List.length_replicate] at hj
   rw[List.getD_eq_getElem?_getD,List.getElem?_replicate,if_pos hj]
   exact Nat.le_refl _
 · rw[← zk0,zk1 _ (by rw[zk7])]
   exact Nat.le_refl _
end
end Go.Proofs.YtehabbnohoomjaaGreatDoor
