/- None -/
import Derived.Test.YtehabbnohoomjaaGreatDoorP49
import Derived.Test.YtehabbnohoomjaaGreatDoorRows
import Derived.ProofKit
import Derived.OpenShut
import Derived.ChangeOld
import Derived.Deep.Slices
import Derived.Deep.Fields
import Derived.Lib.SmallJoins
namespace Go.Proofs.YtehabbnohoomjaaGreatDoor
set_option linter.unusedVariables false
set_option linter.unusedSimpArgs false
set_option linter.unnecessarySimpa false
section
open Go.RowKit
set_option maxRecDepth 100000
set_option maxHeartbeats 16000000
theorem z02 {P:Program} {ops:Array Oper} {Q:Exit→Act→World→Prop} {md:Region.Mode} {S S':World→Prop} (h:∀ w,S' w→S w):∀ (fuel:Nat) (listed:Array Bool) (a:Act) (w:World),wpAnyH P md ops Q S' fuel listed a w→wpAnyH P md ops Q S fuel listed a w
 | 0,_,_,_=>fun hh=>hh
 | f+1,_,_,_=>fun hh=>⟨hh.1,fun i hi=>wpOp_mono (fun a' w' k=>⟨h _ k.1,z02 h f _ _ _ k.2⟩) (hh.2 i hi)⟩
section
variable {M lo pw pd pt n N:Nat} {qf qr:FP} {L:List Ent} {w w':World}
theorem z03 (h:LiveE M lo w pw pd pt qf qr n L N∨DeadE M lo w pw pd pt qf qr n L):∃ V S,PreE M lo w pw pd pt qf qr n L V S:=by
 rcases h with ⟨V,S,X,J,odd,off,pv,prv,FR,hP,hS,hR⟩ | ⟨_,V,S,h⟩
 · exact⟨V,S,zz8 hS hR⟩
 · exact⟨V,S,h⟩
theorem z04 (h:LiveE M lo w pw pd pt qf qr n L N) (hb:Below w.heap.size w w'):LiveE M lo w' pw pd pt qf qr n L N:=by
 obtain⟨V,S,X,J,odd,off,pv,prv,FR,hP,hS,hR⟩:= h
 exact⟨V,S,X,J,odd,off,pv,prv,FR,hP,hS.below hb,hR.below hb⟩
theorem z05 {V:List (List UInt8)} {S:FS} (h:PreE M lo w pw pd pt qf qr n L V S) (hb:Below w.heap.size w w'):PreE M lo w' pw pd pt qf qr n L V S:=by
 obtain⟨gl,cl,cv,Av,ds,es,Fd,Al,clt,Avt,cvt,dt,et,Ft,h⟩:= h
 have hz:=hb.size
 obtain⟨v4,v5,hB⟩:= h.blk
 refine⟨gl,cl,cv,Av,ds,es,Fd,Al,clt,Avt,cvt,dt,et,Ft,⟨v4,v5,hB.below hb hB.lt⟩,h.db.below hb,h.dr.below hb,h.hn,h.fd.below hb,h.rf.below hb,h.loP,h.loM,fun g hg=>?_,fun g hg=>?_,fun g hg=>?_,fun g hg=>?_⟩
 · have:=h.inD g hg;exact⟨this.1,by omega,this.2.2⟩
 · have:=h.inT g hg;exact⟨this.1,by omega,this.2.2⟩
 · have:=h.inQ g hg;exact⟨this.1,by omega,this.2.2⟩
 · have:=h.inR g hg;exact⟨this.1,by omega,this.2.2⟩
theorem z06 (h:DeadE M lo w pw pd pt qf qr n L) (hb:Below w.heap.size w w'):DeadE M lo w' pw pd pt qf qr n L:=by
 obtain⟨h1,V,S,h2⟩:= h
 exact⟨(hb.cell (zal h1)).trans h1,V,S,z05 h2 hb⟩
theorem z07 {V:List (List UInt8)} {S:FS} (h:PreE M lo w pw pd pt qf qr n L V S):w.cell? ⟨pw,2,none⟩=some (.pointer (some ⟨qf.p,0,none⟩))∧ w.cell? ⟨pw,3,none⟩=some (.pointer (some ⟨qr.p,0,none⟩))∧ w.cell? ⟨qr.p,0,none⟩=some (.slice (some ⟨qr.gb,0,none⟩) S.b.length qr.cb)∧ Sl w (some ⟨qr.gb,0,none⟩) (S.b.map bv)∧ FD w qf S∧lo≤pw∧pw < w.heap.size:=by
 obtain⟨gl,cl,cv,Av,ds,es,Fd,Al,clt,Avt,cvt,dt,et,Ft,h⟩:= h
 obtain⟨v4,v5,hB⟩:= h.blk
 exact⟨hB.cell 2 rfl,hB.cell 3 rfl,h.rf.c.1.1,h.rf.bs.sl,h.fd,h.loP,hB.lt⟩
end
theorem z08 {L:List Ent} {nf:Nat} {S:List SOp} (h:lightC L nf S=true):lightL L=true∧ ∀ k o,k < 30→S[k]? =some o→o.b.length≤1000:=by
 simp only[lightC,Bool.and_eq_true] at h
 refine⟨h.1.1,fun k o hk ho=>?_⟩
 have h9:(S.take 30)[k]? =some o:=by rw[List.getElem?_take,if_pos hk];exact ho
 have:=List.all_eq_true.1 h.2 o (List.mem_of_getElem? h9)
 exact of_decide_eq_true this
theorem z09 (a:Nat→Addr) (M:Nat) (A:Option Addr) (n c:Nat) (L:List Ent) (Af:Option Addr) (cf:Nat) (fl:List UInt8) (mo:Int) (As:Option Addr) (ns cs:Nat) (S:List SOp) (w:World)
 (hn:n=L.length) (hL:SlE w A L) (hsf:Sl w Af (fl.map bv)) (hs:ns=S.length) (hS:SlS w As S) (hU:∀ o ∈ S,o.w≤4294967295∧o.n≤9223372036854775807) (hG:GV w a M) (hM:M≤w.heap.size) :
 Calls Tryz.prog 6 #[.agg #[.slice A n c,.slice Af fl.length cf,.int .i64 mo,.slice As ns cs]] w (TrueB w):= by
 obtain⟨nf,hnf⟩:∃ n,n=fl.length:=⟨_,rfl⟩
 rw[← hnf]
 have HNF:=zak hnf
 have HSF:=zak hsf
 clear hnf hsf
 have q0:=zbm w 26 #[.slice A n c,.slice Af nf cf,.int .i64 mo,.slice As ns cs]
 have hb0:=zbf (Below.refl w.heap.size w) (.cells #[.slice A n c,.slice Af nf cf,.int .i64 mo,.slice As ns cs] 26)
 have HKN:=zak (fun W (hb:Below w.heap.size w W)=> zyy a M W (hG.below hb) (Nat.le_trans hM hb.size))
 have HN:=zak hn
 have HL:=zak hL
 have HNS:=zak hs
 have HS:=zak hS
 have HU:=zak hU
 have HG:=zak hG
 have HM:=zak hM
 have HB0:=zak hb0
 have HQ0:=zak q0
 have HLI:=zak (zzk A n c L Af nf cf mo As ns cs S _ hn (hL.below hb0) hs (hS.below hb0))
 obtain⟨q0_c0,q0_c1,q0_c2,q0_c3⟩:= zbi q0
 have q0_f:=q0.frozen
 clear q0 hb0 hn hL hs hS hU hG hM
 cases hli:lightC L nf S
 · rw[hli] at HLI
   clear hli
   go_enter Tryz.func6,Tryz.ntmps6
   go_wp2_with fail
   refine HLI.out.mono ?_
   rintro e w1 ⟨rfl,hb1⟩
   have HB1:=zak (zbd hb1 HB0.out)
   clear hb1
   go_wp2_with fail
   refine (HKN.out _ HB1.out).mono ?_
   rintro e w2 ⟨rfl,hb2⟩
   have HB2:=zak (zbd hb2 HB1.out)
   clear hb2
   go_wp2_with fail
   go_ret
   exact (⟨rfl,HB2.out⟩:TrueB w _ _)
 rw[hli] at HLI
 have HLC:=zak hli
 clear hli
 have HFT:=zak (z08 HLC.out)
 have hfl9:nf≤9000:=by
  have h:=HLC.out
  simp only[lightC,Bool.and_eq_true,decide_eq_true_eq] at h
  exact h.1.2
 have HFL:=zak hfl9
 clear hfl9
 go_enter Tryz.func6,Tryz.ntmps6
 go_wp2_with fail
 refine HLI.out.mono ?_
 rintro e w1 ⟨rfl,hb1⟩
 have HB1:=zak (zbd hb1 HB0.out)
 have HQ1:=zak (HQ0.out.below hb1 HQ0.out.lt)
 have q1:=HQ1.out
 clear q0_c0 q0_c1 q0_c2 q0_c3 q0_f
 obtain⟨q1_c0,q1_c1,q1_c2,q1_c3⟩:= zbi q1
 have q1_f:=q1.frozen
 clear hb1 q1
 have HBEG:=z01 M A n c L Af cf fl mo As ns cs w1 HN.out (HL.out.below HB1.out) HFT.out.1 (HSF.out.below HB1.out) (by rw[← HNF.out];exact HFL.out) (by have:=HM.out;have:=HB1.out.size;omega)
 rw[← HNF.out] at HBEG
 go_wp2_with fail
 refine HBEG.mono ?_
 clear HBEG
 rintro e w2 ⟨v,ok,rfl,hno,hok,hb2⟩
 have HB2:=zak hb2
 clear q1_c0 q1_c1 q1_c2 q1_c3 q1_f
 cases ok
 · obtain rfl:=hno rfl
   have HB2':=zak (zbd hb2 HB1.out)
   clear hno hok hb2
   go_wp2_with fail
   refine (HKN.out _ HB2'.out).mono ?_
   rintro e w3 ⟨rfl,hb3⟩
   have HB3:=zak (zbd hb3 HB2'.out)
   clear hb3
   go_wp2_with fail
   go_ret
   exact (⟨rfl,HB3.out⟩:TrueB w _ _)
 obtain⟨hSo,hR,pw,pd,pt,qf,qr,S0,rfl,hPre,hoff0,hops0⟩:= hok rfl
 obtain⟨lo,hlo⟩:∃ x,x=w1.heap.size:=⟨_,rfl⟩
 rw[← hlo] at hPre
 have HLO:=zak hlo
 have HPLL:=zak (show PlL L from ⟨hSo,hR,zt8 HFT.out.1⟩)
 have HPRE:=zak hPre
 have HS0:=zak (And.intro hoff0 hops0)
 have HWB:Hid (∀ W,Below lo w1 W→Below w.heap.size w W):= zak (fun W h=>HB1.out.trans (h.mono (by rw[HLO.out];exact HB1.out.size)))
 have hn1:n≤1000:=by rw[HN.out];have:=zt8 HFT.out.1;omega
 clear hno hok hb2 hSo hR hPre hoff0 hops0 hlo
 have HOPN:Hid (∀ W,PreE M lo W pw pd pt qf qr n L (L.map Ent.df) S0→Calls Tryz.prog 31 #[.pointer (some ⟨pw,0,none⟩)] W (fun e w'=>e= .returned (.bool true)∧ zcj (fun g=>g=pw) W w'∧(LiveE M lo w' pw pd pt qf qr n L 0∨DeadE M lo w' pw pd pt qf qr n L))):= zak (by
  intro W hW
  by_cases h3:3≤S0.wear.length
  · refine (z0a W hW HPLL.out.sort hn1 HS0.out.1 h3).mono ?_
    rintro e w' ⟨rfl,ho,pv,prv,FR,k1,k2⟩
    refine⟨rfl,ho,.inl ⟨_,_,_,_,_,_,pv,prv,FR,⟨zv9 HPLL.out.right,zx4 HPLL.out.sort _,.inr ⟨rfl,HS0.out.1⟩,by rw[HS0.out.2];exact Nat.zero_le _,(z0h k1).len,h3⟩,k1,k2⟩⟩
  · refine (z0b 9 W hW (.inr ⟨HS0.out.1,by omega,rfl⟩)).mono ?_
    rintro e w' ⟨rfl,h4,ho,hp⟩
    exact⟨rfl,ho,.inr ⟨h4,_,_,hp⟩⟩)
 go_wp2_with fail
 refine (HOPN.out w2 HPRE.out).mono ?_
 rintro e w3 ⟨rfl,ho3,hst⟩
 have hpw:=(z07 HPRE.out).2.2.2.2.2
 have hbx3:Below lo w1 w3:=by
  have k1:Below lo w1 w2:=by rw[HLO.out];exact HB2.out
  exact k1.trans (ho3.below (by rw[HLO.out];exact HB2.out.size) (fun i hi=>by rw[hi];exact hpw.1))
 have HB3:=zak hbx3
 have HST:=zak hst
 clear ho3 hst hbx3 hpw HOPN
 go_wp2_with fail
 go_loopw [5] (fun i wr=> ∃ k N,k≤ns∧k≤30∧N≤1000 * k∧i= .int .i64 (k:Nat)∧ Hid (Below lo w1 wr)∧ Hid (LiveE M lo wr pw pd pt qf qr n L N∨DeadE M lo wr pw pd pt qf qr n L)) (fun i _=>30 - (intOf i).toNat)
 case atStart=>exact⟨0,0,by omega,by omega,by omega,rfl,HB3,HST⟩
 case round=>
  clear HB3 HST HPRE HS0
  obtain⟨k,N,hk,hk2,hN,rfl,HBX,HST⟩:= hrel
  obtain⟨wo,rfl⟩:∃ wo:World,wo=wr:=⟨_,rfl⟩
  have qr':Blk wo w.heap.size 26 #[.slice A n c,.slice Af nf cf,.int .i64 mo,.slice As ns cs]:= HQ1.out.below HBX.out (by rw[HLO.out];exact HQ1.out.lt)
  have HQR:=zak qr'
  obtain⟨qr'_c0,qr'_c1,qr'_c2,qr'_c3⟩:= zbi qr'
  have qr'_f:=qr'.frozen
  clear qr'
  by_cases hlt1:k < ns
  · by_cases hlt2:k < 30
    · rcases HST.out with hlive | hdead
      · obtain⟨V,S1,X,J,odd,off9,pv,prv,FR,hP,hSi,hRi⟩:= hlive
        have HP:=zak hP
        have HSi:=zak hSi
        have HRi:=zak hRi
        obtain⟨o,ho⟩:∃ o,S[k]? =some o:=⟨S[k]'(by rw[← HNS.out];exact hlt1),List.getElem?_eq_getElem _⟩
        obtain⟨b,off,Aj,cj,rfl,hc6,hcj,hsj⟩:= HS.out k o ho
        have HC6:=zak (fun W (h:Below w.heap.size w W)=> (⟨(h.cell (zal hc6.1)).trans hc6.1,(h.cell (zal hc6.2.1)).trans hc6.2.1,(h.cell (zal hc6.2.2.1)).trans hc6.2.2.1,(h.cell (zal hc6.2.2.2.1)).trans hc6.2.2.2.1,(h.cell (zal hc6.2.2.2.2.1)).trans hc6.2.2.2.2.1,(h.cell (zal hc6.2.2.2.2.2)).trans hc6.2.2.2.2.2⟩:W.cell? ⟨b,off+k * 6,none⟩=some (.int .i64 o.kind)∧ W.cell? ⟨b,off+k * 6+1,none⟩=some (.int .i64 o.ix)∧ W.cell? ⟨b,off+k * 6+2,none⟩=some (.int .i64 o.sub)∧ W.cell? ⟨b,off+k * 6+3,none⟩=some (.int .i64 o.n)∧ W.cell? ⟨b,off+k * 6+4,none⟩=some (.int .u32 (o.w:Nat))∧ W.cell? ⟨b,off+k * 6+5,none⟩=some (.slice Aj o.b.length cj)))
        obtain⟨i1,i2,i3⟩:= zbr hlt1
        have HO:=zak (And.intro hcj (And.intro hsj (And.intro (HFT.out.2 k o (by omega) ho) (HU.out o (List.mem_of_getElem? ho)))))
        have hbw:=hRi.blk
        have p2:=hbw.cell 2 (u:= .pointer (some ⟨qf.p,0,none⟩)) rfl
        have p3:=hbw.cell 3 (u:= .pointer (some ⟨qr.p,0,none⟩)) rfl
        have p4:=hbw.cell 4 (u:= .pointer (some ⟨pv,0,none⟩)) rfl
        have hc:=HC6.out wo (HWB.out _ HBX.out)
        have HSZ:=zak (z0g hSi)
        clear hP hSi hRi hbw ho hc6 hcj hsj
        go_upto_region 11 with fail
        go_cut [65] (fun s wx=>s= .bool false∧Hid (Below lo w1 wx)∧ Hid (LiveE M lo wx pw pd pt qf qr n L (N+1000)∨ DeadE M lo wx pw pd pt qf qr n L))
        case first=>
         refine wp_region_held_drew (S:=(fun w'=>w'.cell? ⟨pw,2,none⟩=some (.pointer (some ⟨qf.p,0,none⟩))∧ w'.cell? ⟨pw,3,none⟩=some (.pointer (some ⟨qr.p,0,none⟩))∧ w'.cell? ⟨w.heap.size,3,none⟩=some (.slice (some ⟨b,off,none⟩) ns cs)∧ w'.cell? ⟨b,off+k * 6,none⟩=some (.int .i64 o.kind)∧ w'.cell? ⟨b,off+k * 6+1,none⟩=some (.int .i64 o.ix)∧ w'.cell? ⟨b,off+k * 6+2,none⟩=some (.int .i64 o.sub)∧ w'.cell? ⟨b,off+k * 6+3,none⟩=some (.int .i64 o.n)∧ w'.cell? ⟨b,off+k * 6+4,none⟩=some (.int .u32 (o.w:Nat))∧ w'.cell? ⟨b,off+k * 6+5,none⟩=some (.slice Aj o.b.length cj))) (by kernel_rfl) ?hS1 (fun hHeld=>?rest1)
         case hS1=>((try dsimp only);(exact⟨p2,p3,qr'_c3,hc⟩))
         case' rest1=>skip
         iterate 6 (refine tkN ?_;try simp only[PqL,Act.put])
         refine wpAnyH_ready (rs:= [6]) (by kernel_rfl) (by simp) ?_
         refine AllReadyH.cons (o:=_) rfl (fun K hK=>?_) .nil
         go_simp
         refine (z00 o Aj cj _ HPLL.out HP.out (HSi.out.below (Below.drew (Below.refl _ _))) (HRi.out.below (Below.drew (Below.refl _ _))) HO.out.1 HO.out.2.2.1 (HO.out.2.1.below (Below.drew (HWB.out _ HBX.out))) (fun W hW=>HO.out.2.1.below (HWB.out _ (HBX.out.trans ((Below.drew (Below.refl lo wo)).trans hW)))) HO.out.2.2.2.2 HO.out.2.2.2.1 a (HG.out.below (Below.drew (HWB.out _ HBX.out))) (by omega)).mono ?_
         rintro e w2 ⟨rfl,hb2',hst2⟩
         have HB2x:=zak (HBX.out.trans ((Below.drew (Below.refl lo wo)).trans hb2'))
         have HST2:=zak hst2
         obtain⟨V2,S2,hp2⟩:= z03 hst2
         obtain⟨x2,x3,x0,xsl,xfd,_,_⟩:= z07 hp2
         have hc2:=HC6.out w2 (HWB.out _ HB2x.out)
         have y3:w2.cell? ⟨w.heap.size,3,none⟩=some (.slice (some ⟨b,off,none⟩) ns cs):= (HQ1.out.below HB2x.out (by rw[HLO.out];exact HQ1.out.lt)).cell 3 rfl
         obtain⟨nb,hnb⟩:∃ m,m=S2.b.length:=⟨_,rfl⟩
         have HBY:=zak (zhm qf S2 w2 xfd)
         rw[← hnb] at x0 HBY
         have k2:=fun W' (h:Below w2.heap.size w2 W')=> zcg qr.cb hnb (xsl.below h)
         have HNB:=zak hnb
         have HFD:=zak xfd
         clear hb2' hst2 xsl xfd hnb hp2
         dsimp only
         refine hK.out _ _ ?hS10 (fun hHeld=>?rest10)
         case hS10=>((try dsimp only);(exact⟨x2,x3,y3,hc2⟩))
         case' rest10=>(clear hK K;try simp only[PqL,Act.put])
         refine z02 (S':=fun w'=>(w'.cell? ⟨pw,2,none⟩=some (.pointer (some ⟨qf.p,0,none⟩))∧ w'.cell? ⟨pw,3,none⟩=some (.pointer (some ⟨qr.p,0,none⟩))∧ w'.cell? ⟨w.heap.size,3,none⟩=some (.slice (some ⟨b,off,none⟩) ns cs)∧ w'.cell? ⟨b,off+k * 6,none⟩=some (.int .i64 o.kind)∧ w'.cell? ⟨b,off+k * 6+1,none⟩=some (.int .i64 o.ix)∧ w'.cell? ⟨b,off+k * 6+2,none⟩=some (.int .i64 o.sub)∧ w'.cell? ⟨b,off+k * 6+3,none⟩=some (.int .i64 o.n)∧ w'.cell? ⟨b,off+k * 6+4,none⟩=some (.int .u32 (o.w:Nat))∧ w'.cell? ⟨b,off+k * 6+5,none⟩=some (.slice Aj o.b.length cj))∧ (w'.cell? ⟨qr.p,0,none⟩=some (.slice (some ⟨qr.gb,0,none⟩) nb qr.cb))∧ Below w2.heap.size w2 w') (fun _ h=>h.1) _ _ _ _ ?_
         have hHeld9:(fun w'=>(w'.cell? ⟨pw,2,none⟩=some (.pointer (some ⟨qf.p,0,none⟩))∧ w'.cell? ⟨pw,3,none⟩=some (.pointer (some ⟨qr.p,0,none⟩))∧ w'.cell? ⟨w.heap.size,3,none⟩=some (.slice (some ⟨b,off,none⟩) ns cs)∧ w'.cell? ⟨b,off+k * 6,none⟩=some (.int .i64 o.kind)∧ w'.cell? ⟨b,off+k * 6+1,none⟩=some (.int .i64 o.ix)∧ w'.cell? ⟨b,off+k * 6+2,none⟩=some (.int .i64 o.sub)∧ w'.cell? ⟨b,off+k * 6+3,none⟩=some (.int .i64 o.n)∧ w'.cell? ⟨b,off+k * 6+4,none⟩=some (.int .u32 (o.w:Nat))∧ w'.cell? ⟨b,off+k * 6+5,none⟩=some (.slice Aj o.b.length cj))∧ (w'.cell? ⟨qr.p,0,none⟩=some (.slice (some ⟨qr.gb,0,none⟩) nb qr.cb))∧ Below w2.heap.size w2 w') w2:=⟨⟨x2,x3,y3,hc2⟩,x0,Below.refl _ _⟩
         dsimp only at hHeld9
         refine tkH 7 ?_
         try simp only[PqL,Act.put]
         refine tkH 8 ?_
         try simp only[PqL,Act.put]
         refine tkH 9 ?_
         try simp only[PqL,Act.put]
         refine tkH 10 ?_
         try simp only[PqL,Act.put]
         refine tkH 11 ?_
         try simp only[PqL,Act.put]
         refine tkH 12 ?_
         try simp only[PqL,Act.put]
         refine tkH 15 ?_
         try simp only[PqL,Act.put]
         refine tkH 16 ?_
         try simp only[PqL,Act.put]
         refine tkH 17 ?_
         try simp only[PqL,Act.put]
         refine tkH 18 ?_
         try simp only[PqL,Act.put]
         refine tkH 19 ?_
         try simp only[PqL,Act.put]
         refine tkH 20 ?_
         try simp only[PqL,Act.put]
         refine tkH 21 ?_
         try simp only[PqL,Act.put]
         refine tkH 22 ?_
         try simp only[PqL,Act.put]
         refine wpAnyH_ready (rs:= [13]) (by kernel_rfl) (by simp) ?_
         refine AllReadyH.cons (o:=_) rfl (fun K hK=>?_) .nil
         go_simp
         refine HBY.out.mono ?_
         rintro e w4 ⟨A4,c4,rfl,hO4,hb4⟩
         have k1:=zcg c4 HNB.out hO4.sl
         have HB4:=zak hb4
         dsimp only
         refine hK.out _ _ ?hS27 (fun hHeld=>?rest27)
         case hS27=>((try dsimp only);(exact⟨⟨(hb4.cell (zal x2)).trans x2,(hb4.cell (zal x3)).trans x3,(hb4.cell (zal y3)).trans y3,HC6.out w4 ((HWB.out _ HB2x.out).trans (hb4.mono (HWB.out _ HB2x.out).size))⟩,(hb4.cell (zal x0)).trans x0,hb4⟩))
         case' rest27=>(clear hK K;try simp only[PqL,Act.put])
         refine wpAnyH_ready (rs:= [14]) (by kernel_rfl) (by simp) ?_
         refine AllReadyH.cons (o:=_) rfl (fun K hK=>?_) .nil
         go_simp
         refine hK.out _ _ ?hS30 (fun hHeld=>?rest30)
         case hS30=>((try dsimp only);(exact⟨⟨(hb4.cell (zal x2)).trans x2,(hb4.cell (zal x3)).trans x3,(hb4.cell (zal y3)).trans y3,HC6.out w4 ((HWB.out _ HB2x.out).trans (hb4.mono (HWB.out _ HB2x.out).size))⟩,(hb4.cell (zal x0)).trans x0,hb4⟩))
         case' rest30=>(clear hK K;try simp only[PqL,Act.put])
         refine tkH 23 ?_
         try simp only[PqL,Act.put]
         refine tkH 24 ?_
         try simp only[PqL,Act.put]
         refine wpAnyH_done (by kernel_rfl) ?_ _
         have hEnd:=hHeld.2
         repeat (clear hHeld)
         have HBF:Hid (Below lo w1 w4):= zak (HB2x.out.trans (HB4.out.mono (by
          have h1:=HB2x.out.size
          have h2:lo≤w1.heap.size:=by rw[HLO.out];exact Nat.le_refl _
          omega)))
         have HSF9:Hid (LiveE M lo w4 pw pd pt qf qr n L (N+1000)∨ DeadE M lo w4 pw pd pt qf qr n L):= zak (HST2.out.imp (fun h=>z04 h HB4.out) (fun h=>z06 h HB4.out))
         go_wp2_with fail
         go_meet
         case rel=>exact⟨rfl,HBF,HSF9⟩
        case rest=>
         obtain⟨rfl,HBc,HSTc⟩:= hcut
         clear HP HSi HRi p2 p3 p4 hc HC6 HO
         rcases HSTc.out with hlive2 | hdead2
         · obtain⟨V2,S2,X2,J2,odd2,off2,pv2,prv2,FR2,hP2,hS2,hR2⟩:= hlive2
           have HLV:=zak (show LiveE M lo wc pw pd pt qf qr n L (N+1000) from ⟨V2,S2,X2,J2,odd2,off2,pv2,prv2,FR2,hP2,hS2,hR2⟩)
           have HGX:=zak hP2.good
           have HS2:=zak hS2
           have HR2:=zak hR2
           have hbw2:=hR2.blk
           have d4:=hbw2.cell 4 (u:= .pointer (some ⟨pv2,0,none⟩)) rfl
           have HPL5:=zak (show X2.length≤200 from by
            have:=zxs HPLL.out.sort hP2.good.1 (fun v hv=>by
             obtain⟨j,E,h1,_,_,h5,h6⟩:= hP2.good.2 v hv
             exact⟨j,E,h1,h5,h6⟩)
            have:=HPLL.out.few
            omega)
           clear hP2 hS2 hR2 hbw2 HSTc HST HQR
           go_wp2_with fail
           refine (zzs _ HS2.out).mono ?_
           rintro e w5 ⟨A5,n5,c5,ds5,rfl,hO5,hb5⟩
           rw[zxx] at hO5
           have HO5:=zak hO5
           have HB5:=zak hb5
           have hR5:=HR2.out.below hb5
           have hbw5:=hR5.blk
           have d4':=hbw5.cell 4 (u:= .pointer (some ⟨pv2,0,none⟩)) rfl
           have d5':=hbw5.cell 5 (u:= .pointer (some ⟨prv2,0,none⟩)) rfl
           obtain⟨rj,Ar,cr,FX,Ax,nx,cx,dx,Al,clt,Avt,cvt,dt,et,Ft,hRP⟩:= hR5
           have r1:=hRP.rv.blk.cell 1 (u:= .slice Ax nx cx) rfl
           have r2:=hRP.rv.blk.cell 2 (u:= .bool odd2) rfl
           have r3:=hRP.rv.blk.cell 3 (u:= .bool off2) rfl
           have zpr:=hRP.rv.blk.lt
           have zpw:=hRP.blk.lt
           have hn5:n5≤200:=by rw[hO5.hn];exact HPL5.out
           have HSM:=zak (fun W (h:Below w5.heap.size w5 W)=> z0c A5 Ax n5 nx c5 cx X2 W hO5.hn hRP.rv.row.hn hO5.own.le hRP.rv.row.own.le (by omega) (hO5.below h).slV (zcq.slV (hRP.rv.row.below h)))
           have HOD:=zak (fun W (h:Below w5.heap.size w5 W)=> zzt W (HS2.out.below (hb5.trans (h.mono hb5.size))))
           have HOFF:=zak (fun W (h:Below w5.heap.size w5 W)=> zzx W (HS2.out.below (hb5.trans (h.mono hb5.size))))
           have ee1:(odd2 != odd2)=false:=by simp
           have ee2:(off2 != off2)=false:=by simp
           clear hO5 hb5 hbw5 hRP d4
           go_wp2_with fail
           refine wp_region_held_drew (S:=(fun w'=>(∀ qA:Addr,qA.block < (w5).heap.size→w'.cell? qA=(w5).cell? qA)∧ Below (w5).heap.size (w5) w')) (by kernel_rfl) ?hS34 (fun hHeld=>?rest34)
           case hS34=>((try dsimp only);(((try go_split_ands);refine zbc ?_;all_goals exact bl)))
           case' rest34=>skip
           iterate 8 (refine tkN ?_;try simp only[PqL,Act.put])
           refine wpAnyH_ready (rs:= [8]) (by kernel_rfl) (by simp) ?_
           refine AllReadyH.cons (o:=_) rfl (fun K hK=>?_) .nil
           go_simp
           refine (HSM.out _ (zb9 (Below.refl _ _))).mono ?_
           rintro e w6 ⟨rfl,hb6⟩
           try dsimp only
           refine hK.out _ _ ?hS45 (fun hHeld=>?rest45)
           case hS45=>((try dsimp only);(((try go_split_ands);refine zbc ?_;all_goals exact bl)))
           case' rest45=>(clear hK K;try simp only[PqL,Act.put])
           refine tkH 9 ?_
           try simp only[PqL,Act.put]
           refine tkH 10 ?_
           try simp only[PqL,Act.put]
           refine tkH 11 ?_
           try simp only[PqL,Act.put]
           refine tkH 12 ?_
           try simp only[PqL,Act.put]
           refine tkH 13 ?_
           try simp only[PqL,Act.put]
           refine tkH 14 ?_
           try simp only[PqL,Act.put]
           refine tkH 16 ?_
           try simp only[PqL,Act.put]
           refine tkH 17 ?_
           try simp only[PqL,Act.put]
           refine tkH 18 ?_
           try simp only[PqL,Act.put]
           refine tkH 19 ?_
           try simp only[PqL,Act.put]
           refine tkH 20 ?_
           try simp only[PqL,Act.put]
           refine tkH 21 ?_
           try simp only[PqL,Act.put]
           refine tkH 22 ?_
           try simp only[PqL,Act.put]
           refine wpAnyH_ready (rs:= [15]) (by kernel_rfl) (by simp) ?_
           refine AllReadyH.cons (o:=_) rfl (fun K hK=>?_) .nil
           go_simp
           refine (HOD.out _ bl).mono ?_
           rintro e w7 ⟨rfl,rfl⟩
           try dsimp only
           refine hK.out _ _ ?hS61 (fun hHeld=>?rest61)
           case hS61=>((try dsimp only);(((try go_split_ands);refine zbc ?_;all_goals exact bl)))
           case' rest61=>(clear hK K;try simp only[PqL,Act.put])
           refine tkH 23 ?_
           try simp only[PqL,Act.put]
           refine tkH 24 ?_
           try simp only[PqL,Act.put]
           refine tkH 25 ?_
           try simp only[PqL,Act.put]
           refine tkH 26 ?_
           try simp only[PqL,Act.put]
           refine tkH 27 ?_
           try simp only[PqL,Act.put]
           refine tkH 28 ?_
           try simp only[PqL,Act.put]
           refine tkH 29 ?_
           try simp only[PqL,Act.put]
           refine tkH 31 ?_
           try simp only[PqL,Act.put]
           refine tkH 32 ?_
           try simp only[PqL,Act.put]
           refine tkH 33 ?_
           try simp only[PqL,Act.put]
           refine tkH 34 ?_
           try simp only[PqL,Act.put]
           refine tkH 35 ?_
           try simp only[PqL,Act.put]
           refine tkH 36 ?_
           try simp only[PqL,Act.put]
           refine tkH 37 ?_
           try simp only[PqL,Act.put]
           refine wpAnyH_ready (rs:= [30]) (by kernel_rfl) (by simp) ?_
           refine AllReadyH.cons (o:=_) rfl (fun K hK=>?_) .nil
           go_simp
           refine (HOFF.out _ bl).mono ?_
           rintro e w8 ⟨rfl,rfl⟩
           try dsimp only
           refine hK.out _ _ ?hS78 (fun hHeld=>?rest78)
           case hS78=>((try dsimp only);(((try go_split_ands);refine zbc ?_;all_goals exact bl)))
           case' rest78=>(clear hK K;try simp only[PqL,Act.put])
           refine tkH 38 ?_
           try simp only[PqL,Act.put]
           refine tkH 39 ?_
           try simp only[PqL,Act.put]
           refine wpAnyH_done (by kernel_rfl) ?_ _
           have hEnd:=hHeld.2
           repeat (clear hHeld)
           have HB6:=zak hEnd
           have HO6:=zak (HO5.out.below hEnd)
           have HB56:=zak (HB5.out.trans (hEnd.mono HB5.out.size))
           clear hEnd hb6 d4' d5' r1 r2 r3 HSM HOD HOFF
           go_wp2_with fail
           go_loopw [7] (fun i wx=> ∃ j:Nat,j≤n5∧i= .int .i64 (j:Nat)∧ Hid (Own wx wc.heap.size 52 3 A5 n5 c5 (cellsV X2 ds5)∧ (∀ (m:Nat) (v:SV) (d:Option Addr×Nat),j≤m→X2[m]? =some v→ds5[m]? =some d→zcd wx wc.heap.size d.1 v.data.length d.2 v.data)∧ Below wc.heap.size wc wx)) (fun i _=>n5 - (intOf i).toNat)
           case atStart=>exact⟨0,by omega,rfl,zak ⟨HO6.out.own,fun m v d _ h1 h2=>HO6.out.data m v d h1 h2,HB56.out⟩⟩
           case round=>
            obtain⟨j,hj,rfl,HK⟩:= hrel
            by_cases hltj:j < n5
            · obtain⟨v,hv⟩:∃ v,X2[j]? =some v:=⟨X2[j]'(by have:=HO6.out.hn;omega),List.getElem?_eq_getElem _⟩
              obtain⟨d,hd,_⟩:= HO6.out.dat hv
              obtain⟨_,_,e3⟩:= zne X2 ds5 j v d hv hd
              obtain⟨bp,offp,rfl,hcell⟩:= HK.out.1.sl.at_ e3
              have hcell':wr.cell? ⟨bp,offp+j * 3+2,none⟩=some (.slice d.1 v.data.length d.2):= by rw[Nat.add_assoc];exact hcell
              have hdl:v.data.length≤35184372088832:=zxw HGX.out v (List.mem_of_getElem? hv)
              have hOk:=HK.out.2.1 j v d (Nat.le_refl _) hv hd
              have HV:=zak hv
              have HDK:=zak hd
              have hzr:=HK.out.2.2.size
              have HSP:=zak (zc8 d.1 v.data.length d.2 wc.heap.size v.data wr hdl hOk.own hzr)
              have HOK:=zak hOk
              have HZR:=zak hzr
              obtain⟨j1,j2,j3⟩:= zbr hltj
              obtain⟨vl,hvl⟩:∃ vl,vl=v.data.length:=⟨_,rfl⟩
              rw[← hvl] at hcell' HSP
              have HVL:=zak hvl
              clear hv hd e3 hcell hdl hOk hzr hvl
              go_wp2_with fail
              refine HSP.out.mono ?_
              rintro e wz ⟨rfl,hg8⟩
              rw[HVL.out] at hg8
              go_wp2_with fail
              go_roundw
              case rel=>
               refine⟨j+1,by omega,by go_num,zak ⟨HK.out.1.grown hg8 (zng HK.out.1 HOK.out.own (by decide)),?_,HK.out.2.2.grown hg8 HZR.out ?_⟩⟩
               · intro m v' d' hm hv' hd'
                 have hOj:=HK.out.2.1 m v' d' (by omega) hv' hd'
                 refine⟨rfl,hOj.own.grown hg8 ?_⟩
                 intro g' hg' he
                 have hpw:=List.pairwise_iff_getElem.1 HO6.out.pw j m (by have:=(List.getElem?_eq_some_iff.1 HDK.out).1;exact this) (by have:=(List.getElem?_eq_some_iff.1 hd').1;exact this) (by omega)
                 rw[(List.getElem?_eq_some_iff.1 HDK.out).2,(List.getElem?_eq_some_iff.1 hd').2] at hpw
                 rcases HOK.out.own.shape with ⟨h1,_⟩ | ⟨g1,h1,_⟩
                 · rw[h1] at he;simp[Value.ownBlock] at he
                 · rw[h1] at he
                   simp[Value.ownBlock] at he
                   subst he
                   exact hpw _ h1 hg'
               · intro g' hg'
                 rcases HOK.out.own.shape with ⟨h1,_⟩ | ⟨g1,h1,h2,_⟩
                 · rw[h1] at hg';simp[Value.ownBlock] at hg'
                 · rw[h1] at hg';simp[Value.ownBlock] at hg';omega
              case measure=>simp[intOf];omega
            · have HLF:=zak (z04 HLV.out HK.out.2.2)
              have HBF:Hid (Below lo w1 wr):= zak (HBc.out.trans (HK.out.2.2.mono (by
               have h1:=HBc.out.size
               have h2:lo≤w1.heap.size:=by rw[HLO.out];exact Nat.le_refl _
               omega)))
              clear HK
              go_wp2_with fail
              go_roundw
              case rel=>exact⟨k+1,N+1000,by omega,by omega,by omega,by go_num,HBF,zak (.inl HLF.out)⟩
              case measure=>simp[intOf];omega
         · have d4:=hdead2.1
           clear hdead2 HBX HST
           have HBX:=HBc
           go_wp2_with fail
           refine (HKN.out _ (HWB.out _ HBX.out)).mono ?_
           rintro e w9 ⟨rfl,hb9⟩
           have HB9:=zak (zbd hb9 (HWB.out _ HBX.out))
           clear hb9
           go_wp2_with fail
           go_ret
           exact (⟨rfl,HB9.out⟩:TrueB w _ _)
      · have d4:=hdead.1
        clear hdead
        go_wp2_with fail
        refine (HKN.out _ (HWB.out _ HBX.out)).mono ?_
        rintro e w9 ⟨rfl,hb9⟩
        have HB9:=zak (zbd hb9 (HWB.out _ HBX.out))
        clear hb9
        go_wp2_with fail
        go_ret
        exact (⟨rfl,HB9.out⟩:TrueB w _ _)
    · have u1:decide ((k:Int) < 30)=false:=by simp;omega
      have u2:decide (k < 30)=false:=by simp;omega
      go_wp2_with fail
      refine (HKN.out _ (HWB.out _ HBX.out)).mono ?_
      rintro e w9 ⟨rfl,hb9⟩
      have HB9:=zak (zbd hb9 (HWB.out _ HBX.out))
      clear hb9
      go_wp2_with fail
      go_ret
      exact (⟨rfl,HB9.out⟩:TrueB w _ _)
  · go_wp2_with fail
    refine (HKN.out _ (HWB.out _ HBX.out)).mono ?_
    rintro e w9 ⟨rfl,hb9⟩
    have HB9:=zak (zbd hb9 (HWB.out _ HBX.out))
    clear hb9
    go_wp2_with fail
    go_ret
    exact (⟨rfl,HB9.out⟩:TrueB w _ _)
end
section
open Go.RowKit Go.ChangeShapes Go.WideShapes Go.Deep
set_option maxRecDepth 20000
theorem z1a:Tryz.prog.cellsOf 5=1:=by kernel_rfl
theorem z1b (zs:List Int) (k:Nat) (hz:∀ n ∈ zs,(Lit.int .u8 n).wf=true):∃ l:List UInt8,l.length=(zs.take k).length∧ ∀ i,i < l.length→ ∃ c,l[i]? =some c∧zs.getD i 0=(c.toNat:Int):= by
 refine⟨(zs.take k).map fun n=>UInt8.ofNat n.toNat,by simp,?_⟩
 intro i hi
 simp at hi
 have hlt:i < zs.length:=by omega
 refine⟨UInt8.ofNat (zs[i]).toNat,?_,?_⟩
 · rw[List.getElem?_map,List.getElem?_take,if_pos (by omega),List.getElem?_eq_getElem hlt];rfl
 · have hw:=hz _ (List.getElem_mem hlt)
   have hb:0≤zs[i]∧ zs[i]≤ 255:=by simpa [Lit.wf,IntKind.min,IntKind.max,IntKind.signed,IntKind.bits] using hw
   rw[List.getD_eq_getElem?_getD,List.getElem?_eq_getElem hlt]
   simp only[Option.getD_some,UInt8.toNat_ofNat']
   omega
theorem z1c {n:Int} (h:(Lit.int .u32 n).wf=true):∃ m:Nat,m < 4294967296∧n=(m:Int):= by
 have hb:0≤n∧n≤4294967295:=by simpa [Lit.wf,IntKind.min,IntKind.max,IntKind.signed,IntKind.bits] using h
 exact⟨n.toNat,by omega,by omega⟩
theorem z1d {α:Type} (n:Nat) (Q:Nat→α→Prop) (h:∀ i,i < n→ ∃ a,Q i a):∃ L:List α,L.length=n∧ ∀ i a,L[i]? =some a→Q i a:=by
 induction n with
 | zero=>exact⟨[],rfl,by intro i a h;simp at h⟩
 | succ n ih=>
   obtain⟨L,hL,hQ⟩:= ih fun i hi=>h i (by omega)
   obtain⟨a,ha⟩:= h n (by omega)
   refine⟨L ++ [a],by simp[hL],?_⟩
   intro i b hb
   rcases Nat.lt_or_ge i n with hi | hi
   · rw[List.getElem?_append_left (by omega)] at hb
     exact hQ i b hb
   · have:i < (L ++ [a]).length:=(List.getElem?_eq_some_iff.1 hb).1
     simp[hL] at this
     obtain rfl:i=n:=by omega
     rw[List.getElem?_append_right (by omega),hL] at hb
     simp at hb
     subst hb
     exact ha
section
variable {H:Type} {enc:TypeId×Value→H} {w:World} {base:Nat} {spare:Nat→Bool} {held:Bool}
theorem z1e {fuel:Nat} {v:Value} {x:DataW H×List MemPlace} (h:DataW.trod enc Tryz.prog w base spare held fuel 23 [v]=some x) :
 ∃ (A:Option Addr) (c:Nat) (l:List UInt8),v= .slice A l.length c∧l.length≤c∧Sl w A (l.map bv):= by
 rcases open_ints Tryz.underlying23 Tryz.underlying5 z1a h with ⟨hcs,_⟩ | ⟨a,len,cap,zs,hcs,_,hl,hm,hz,_,hcell,hwz⟩
 · simp at hcs
   exact⟨none,0,[],hcs,Nat.le_refl _,Sl.nil _ _⟩
 · simp at hcs
   obtain⟨l,hll,hg⟩:= z1b zs len hwz
   have hlz:len≤zs.length:=by rw[hz];split<;>omega
   have hlen:l.length=len:=by rw[hll,List.length_take];omega
   refine⟨some a,cap,l,by rw[hlen];exact hcs,by omega,?_⟩
   · intro j u hu
     have hj:j < l.length:=by have:=(List.getElem?_eq_some_iff.1 hu).1;simpa using this
     obtain⟨c,hc,hzc⟩:= hg j hj
     refine⟨a,rfl,?_⟩
     rw[hcell j (by omega),hzc]
     rw[List.getElem?_map,hc] at hu
     simpa [bv] using hu
end
end
end Go.Proofs.YtehabbnohoomjaaGreatDoor
