/- None -/
import Derived.Test.YthdbckbpldlkeaaGreatS25
namespace Go.Proofs.YthdbckbpldlkeaaGreat
set_option linter.unusedVariables false
set_option linter.unusedSimpArgs false
set_option linter.unnecessarySimpa false
section
open Go.RowKit
set_option maxRecDepth 100000
set_option maxHeartbeats 4000000
def RcvW (w:World) (p pd:Nat) (S1:SegS) (A:Option Addr) (n1 c1:Nat) (M:Ms) (A3:Option Addr) (m3 c3:Nat) (W:World):Prop:=
 zdv (fun q=>q=p) w W∧Blk W p 199 (srvV S1 pd A n1 c1)∧ Blk W w.heap.size 102 (msV M A3 m3 c3)∧ Blk W (w.heap.size+1) 100 (outV none 0 0 outZ none 0 0)∧ w.heap.size+2≤W.heap.size
theorem zkz {w:World} {p pd:Nat} {S1:SegS} {A:Option Addr} {n1 c1:Nat} {M:Ms} {A3:Option Addr} {m3 c3:Nat} {W0:World} {f:Nat} {args:Array Value} {Q:Ending→World→Prop} (h:RcvW w p pd S1 A n1 c1 M A3 m3 c3 W0) (k:∀ W,RcvW w p pd S1 A n1 c1 M A3 m3 c3 W→Calls Tryz.prog f args W Q):Calls Tryz.prog f args W0 Q:=k _ h
theorem zk0 {w:World} {p pd:Nat} {S1:SegS} {A:Option Addr} {n1 c1:Nat} {M:Ms} {A3:Option Addr} {m3 c3:Nat} {W:World} (h:RcvW w p pd S1 A n1 c1 M A3 m3 c3 W) (hp:p < w.heap.size):RcvW w p pd (segIdle S1) A n1 c1 M A3 m3 c3 (W.setCell ⟨p,1,none⟩ (.int .i64 0)):=
 ⟨h.1.set _ rfl _,h.2.1.set_ 1 (.int .i64 0),h.2.2.1.far (p:=⟨p,1,none⟩) (show w.heap.size≠p by omega) _,h.2.2.2.1.far (p:=⟨p,1,none⟩) (show w.heap.size+1≠p by omega) _,by have:=h.2.2.2.2;simp[World.setCell];omega⟩
theorem zk7 {W:World} {G:Nat→Prop} {p pd:Nat} {S:SegS} {A:Option Addr} {n c:Nat} (h:Blk W p 199 (srvV (segIdle S) pd A n c)):SV_ W G p pd (segIdle S):= ⟨A,n,c,h,fun h=>absurd h (by simp[segIdle])⟩
theorem zk9 {w w3:World} {G:Nat→Prop} {p pd:Nat} {S':SegS} (hK:Blk w3 (w.heap.size+1) 100 (outV none 0 0 outZ none 0 0)) (hS:SV_ w3 (fun q=>(G q∨w.heap.size≤q)∧ q≠w.heap.size+1) p pd S') (ho:zdv (fun q=>q=p) w w3) (hp:p < w.heap.size) :
 Blk (putO w3 (w.heap.size+1) none 0 0 outZ none 0 0) (w.heap.size+1) 100 (outV none 0 0 outZ none 0 0)∧ SOutR w G p pd S' outZ (.returned (.agg (outV none 0 0 outZ none 0 0))) (putO w3 (w.heap.size+1) none 0 0 outZ none 0 0):= by
 refine⟨zje hK,fun _=>False,none,0,0,none,0,0,rfl,.inl ⟨rfl,rfl,rfl,rfl⟩,zdq.nil _ _,FIn.nil _,?_,zjg ho (by omega) _ _ _ _ _ _ _⟩
 exact hS.keep (fun q hq _=>zj4 (by rcases hq with rfl | hq;omega;exact hq.2) _ _ _ _ _ _ _) (by rw[zj5];exact Nat.le_refl _) (fun q _ hq=>⟨hq.1,id⟩)
section
variable {F:Nat→Prop} {pd gl n cl cv:Nat} {Av:Option Addr} {L:List Ent} {V:List (List UInt8)} {ds es:List (Option Addr×Nat)}
theorem zla (p:Nat) (S:SegS) (G:Nat→Prop) (M:Ms) (A3:Option Addr) (m3 c3:Nat) (w:World) (hD:DB 107 w F pd (some ⟨gl,0,none⟩) n cl Av cv L V ds es) (hs:SortedE L) (hn:n≤1000) (hv:∀ v ∈ V,v.length≤256)
 (hp: ¬ F p) (hS:SV_ w G p pd S) (hm:m3=M.data.length) (hm1:m3≤100000) (hMd:∀ W,zdv (fun q=>q=p) w W→Sl W A3 (M.data.map bv)) (hsz:M.size≤4294967295) (hb:S.st=1∨S.st=2→S.b.length≤256) :
 Calls Tryz.prog 139 #[.pointer (some ⟨p,0,none⟩),.agg (msV M A3 m3 c3)] w (SOutR w G p pd (recvS L V S M) (recvO L V S M)):= by
 obtain⟨A,n1,c1,hB,hby⟩:= id hS
 obtain⟨P,hP⟩:∃ P,P=SOutR w G p pd (recvS L V S M) (recvO L V S M):= ⟨_,rfl⟩
 rw[← hP]
 have HP:=zak hP
 have hz:=hB.lt
 have HS0:Hid (SV_ w G p pd S):= zak hS
 have HS:=zak hs
 have H1:=zak hn
 have HV:=zak hv
 have HM:=zak hm
 have HMD:=zak hMd
 have HBN:=zak hb
 have hne1:p≠w.heap.size+1:=by omega
 have hne0:w.heap.size≠p:=by omega
 have HD:=zak (fun W (h:zdv (fun q=>q=p) w W)=> hD.keep (w':=W) (fun g hg hlt=>h.block g hlt (fun e=>hp (e ▸ hg))))
 have HH:Hid (ArgW w p pd S A n1 c1 M A3 m3 c3 _):= zak (zkb M A3 m3 c3 hB)
 clear hP hS hB hby hm hMd hD hs hn hv hb
 unfold msV outV outZ at HH
 unfold msV
 go_enter Tryz.func139,Tryz.ntmps139
 go_upto_region 1 with fail
 refine zd8 (P:=ArgW w p pd S A n1 c1 M A3 m3 c3) HH.out (fun W hW=>?_)
 clear HH
 obtain⟨hbw,hBW,hK1,hK2,hWz⟩:= hW
 have HBW0:=zak hbw
 have HRW:Hid (RcvW w p pd S A n1 c1 M A3 m3 c3 W):= zak ⟨zdv.of_below hbw,hBW,hK1,hK2,by omega⟩
 have HRWI:Hid (RcvW w p pd (segIdle S) A n1 c1 M A3 m3 c3 (W.setCell ⟨p,1,none⟩ (.int .i64 0))):= zak (zk0 HRW.out hz)
 have bb:=hBW
 unfold srvV at bb
 obtain⟨s,hst⟩:∃ s,s=S.st:=⟨_,rfl⟩
 have HST:=zak hst
 rw[← hst] at bb
 have zW:=hBW.lt
 obtain⟨bb_c0,bb_c1⟩:= zc3 bb
 have bb_f:=bb.frozen
 clear hBW hK1 hK2 hWz hbw hst
 by_cases h3:s=3
 · have H3:Hid (S.st=3):= zak (by rw[← HST.out];exact h3)
   subst h3
   go_upto_region 5 with fail
   refine zd8 (P:=RcvW w p pd (segIdle S) A n1 c1 M A3 m3 c3) HRWI.out (fun W1 hW1=>?_)
   have HR1:=zak hW1
   clear bb_c0 bb_c1 bb_f
   clear bb hW1 HRWI HRW
   obtain⟨hO1,hB1,hM1,hK1,hz1⟩:= id HR1.out
   have bb:=hB1
   have kk:=hM1
   have k2:=hK1
   have zp1:=hB1.lt
   have zm1:=hM1.lt
   have zo1:=hK1.lt
   unfold srvV at bb
   unfold msV at kk
   unfold outV outZ at k2
   obtain⟨s1,hs1⟩:∃ s1,s1=(segIdle S).st:=⟨_,rfl⟩
   have HS1:=zak hs1
   rw[← hs1] at bb
   obtain⟨kd,hkd⟩:∃ kd,kd=M.kind:=⟨_,rfl⟩
   have HKD:=zak hkd
   rw[← hkd] at kk
   obtain⟨bb_c0,bb_c1,bb_c2,bb_c3,bb_c4,bb_c5,bb_c6,bb_c7⟩:= zc6 bb
   have bb_f:=bb.frozen
   obtain⟨kk_c0,kk_c1,kk_c2,kk_c3,kk_c4,kk_c5,kk_c6,kk_c7,kk_c8,kk_c9,kk_c10,kk_c11,kk_c12,kk_c13⟩:= zc9 kk
   have kk_f:=kk.frozen
   obtain⟨k2_c0,k2_c1,k2_c2,k2_c3,k2_c4⟩:= zc5 k2
   have k2_f:=k2.frozen
   clear hs1 hkd hO1 hB1 hM1 hK1
   by_cases hk1:kd=1
   · subst hk1
     have HR:Hid (P=SOutR w G p pd (segIdle S) outZ):= zak (by rw[HP.out];unfold recvS recvO;rw[if_pos HKD.out.symm,if_pos HKD.out.symm])
     have HRI:=zak (zk0 HR1.out hz)
     go_wp2_with fail
     obtain⟨F1,F2⟩:= zk9 (G:=G) HRI.out.2.2.2.1 (zk7 HRI.out.2.1) HRI.out.1 hz
     rw[show segIdle (segIdle S)=segIdle S from rfl] at F2
     rw[← HR.out] at F2
     unfold putO outZ at F1 F2
     dsimp only at F1 F2
     refine zjd (O:=⟨[],false,0,0,[]⟩) rfl rfl rfl F1 ?_
     exact F2
   by_cases hk2:kd=2
   · subst hk2
     have HM2:Hid ({ M with kind:=2 }=M):= zak (by have h:=HKD.out;cases M;simp only at h;subst h;rfl)
     have HR:Hid (P=SOutR w G p pd (downS L (segIdle S) { M with kind:=2 }) (downO L { M with kind:=2 })):= zak (by rw[HP.out,HM2.out];unfold recvS recvO;rw[if_neg (by rw[← HKD.out];decide),if_pos HKD.out.symm,if_neg (by rw[← HKD.out];decide),if_pos HKD.out.symm])
     have HRI:=zak (zk0 HR1.out hz)
     clear hk1
     go_wp2_with fail
     refine zkz HRI.out (fun W2 hW2=>?_)
     have HR2:=zak hW2
     clear hW2
     refine (zks p (segIdle S) (fun q=>G q∧q < w.heap.size) { M with kind:=2 } A3 m3 c3 _ (HD.out W2 HR2.out.1) HS.out H1.out hp (zk7 HR2.out.2.1) rfl HM.out (by omega) (fun W h=>HMD.out W (HR2.out.1.trans h (fun _ _ h=>h))) hsz).mono ?_
     rintro e w5 ⟨X,As,ns,cs,A5,n5,c5,rfl,h1,h2,h3,h4,h5⟩
     unfold outV
     have F:=zky (G:=G) (G':=(fun q=>G q∧q < w.heap.size)) HR2.out.2.2.2.2 HR2.out.1 hz HR2.out.2.2.2.1 (fun q h=>⟨.inl h.1,by have:=h.2;omega⟩) h1 h2 h3 h4 h5
     have k5:=ziz HR2.out.2.2.2.1 h5 (fun e=>hne1 e.symm)
     have HF:=zak F
     clear F h1 h2 h3 h4 h5
     clear bb_c0 bb_c1 bb_c2 bb_c3 bb_c4 bb_c5 bb_c6 bb_c7 bb_f
     clear kk_c0 kk_c1 kk_c2 kk_c3 kk_c4 kk_c5 kk_c6 kk_c7 kk_c8 kk_c9 kk_c10 kk_c11 kk_c12 kk_c13 kk_f
     clear k2_c0 k2_c1 k2_c2 k2_c3 k2_c4 k2_f
     clear bb kk k2
     unfold outV outZ at k5
     obtain⟨k5_c0,k5_c1,k5_c2,k5_c3,k5_c4⟩:= zc5 k5
     have k5_f:=k5.frozen
     go_wp2_with fail
     obtain⟨F1,F2⟩:= HF.out
     rw[← HR.out] at F2
     unfold putO at F1 F2
     refine zjd (O:=downO L { M with kind:=2 }) rfl rfl rfl F1 ?_
     exact F2
   by_cases hk4:kd=4
   · subst hk4
     have HM2:Hid ({ M with kind:=4 }=M):= zak (by have h:=HKD.out;cases M;simp only at h;subst h;rfl)
     have HR:Hid (P=SOutR w G p pd (upS L V (segIdle S) { M with kind:=4 }) (upO L V { M with kind:=4 })):= zak (by rw[HP.out,HM2.out];unfold recvS recvO;rw[if_neg (by rw[← HKD.out];decide),if_neg (by rw[← HKD.out];decide),if_pos HKD.out.symm,if_neg (by rw[← HKD.out];decide),if_neg (by rw[← HKD.out];decide),if_pos HKD.out.symm])
     have HRI:=zak (zk0 HR1.out hz)
     clear hk1
     go_wp2_with fail
     refine zkz HRI.out (fun W2 hW2=>?_)
     have HR2:=zak hW2
     clear hW2
     refine (zka p (segIdle S) (fun q=>G q∧q < w.heap.size) { M with kind:=4 } A3 m3 c3 _ (HD.out W2 HR2.out.1) HS.out H1.out HV.out hp (zk7 HR2.out.2.1) rfl).mono ?_
     rintro e w5 ⟨X,As,ns,cs,A5,n5,c5,rfl,h1,h2,h3,h4,h5⟩
     unfold outV
     have F:=zky (G:=G) (G':=(fun q=>G q∧q < w.heap.size)) HR2.out.2.2.2.2 HR2.out.1 hz HR2.out.2.2.2.1 (fun q h=>⟨.inl h.1,by have:=h.2;omega⟩) h1 h2 h3 h4 h5
     have k5:=ziz HR2.out.2.2.2.1 h5 (fun e=>hne1 e.symm)
     have HF:=zak F
     clear F h1 h2 h3 h4 h5
     clear bb_c0 bb_c1 bb_c2 bb_c3 bb_c4 bb_c5 bb_c6 bb_c7 bb_f
     clear kk_c0 kk_c1 kk_c2 kk_c3 kk_c4 kk_c5 kk_c6 kk_c7 kk_c8 kk_c9 kk_c10 kk_c11 kk_c12 kk_c13 kk_f
     clear k2_c0 k2_c1 k2_c2 k2_c3 k2_c4 k2_f
     clear bb kk k2
     unfold outV outZ at k5
     obtain⟨k5_c0,k5_c1,k5_c2,k5_c3,k5_c4⟩:= zc5 k5
     have k5_f:=k5.frozen
     go_wp2_with fail
     obtain⟨F1,F2⟩:= HF.out
     rw[← HR.out] at F2
     unfold putO at F1 F2
     refine zjd (O:=upO L V { M with kind:=4 }) rfl rfl rfl F1 ?_
     exact F2
   have hs0:s1=0:=HS1.out
   subst hs0
   by_cases hk3:kd=3
   · subst hk3
     have HR:Hid (P=SOutR w G p pd (segIdle S) (outM (abM 0 0 84148225))):= zak (by rw[HP.out];unfold recvS recvO;rw[if_neg (by rw[← HKD.out];exact hk1),if_neg (by rw[← HKD.out];exact hk2),if_neg (by rw[← HKD.out];exact hk4),if_neg (fun h=>by have:=h.2;rw[H3.out] at this;exact absurd this (by decide)),if_neg (fun h=>by have:=h.2;rw[H3.out] at this;exact absurd this (by decide)),if_neg (by rw[← HKD.out];exact hk1),if_neg (by rw[← HKD.out];exact hk2),if_neg (by rw[← HKD.out];exact hk4),if_neg (fun h=>by have:=h.2;rw[H3.out] at this;exact absurd this (by decide)),if_neg (fun h=>by have:=h.2;rw[H3.out] at this;exact absurd this (by decide)),if_neg (by unfold wokeS;rw[if_pos H3.out];simp)])
     go_wp2_with fail
     refine (zjk 0 0 84148225 _).mono ?_
     rintro e w5 ⟨rfl,hBg,hb5,hz5⟩
     have HK25:=zak (HR1.out.2.2.2.1.below hb5 HR1.out.2.2.2.1.lt)
     have HBG:=zak hBg
     have HB5:=zak (HR1.out.2.1.below hb5 HR1.out.2.1.lt)
     have HO5:=zak (HR1.out.1.step hb5)
     clear bb_c0 bb_c1 bb_c2 bb_c3 bb_c4 bb_c5 bb_c6 bb_c7 bb_f
     clear kk_c0 kk_c1 kk_c2 kk_c3 kk_c4 kk_c5 kk_c6 kk_c7 kk_c8 kk_c9 kk_c10 kk_c11 kk_c12 kk_c13 kk_f
     clear k2_c0 k2_c1 k2_c2 k2_c3 k2_c4 k2_f
     clear k2 bb kk hBg
     have k2:=HK25.out
     unfold outV outZ at k2
     obtain⟨k2_c0,k2_c1,k2_c2,k2_c3,k2_c4⟩:= zc5 k2
     have k2_f:=k2.frozen
     go_wp2_with fail
     obtain⟨F1,F2⟩:= zj6 (G:=G) (S':=segIdle S) (fun _=>False) HK25.out hz1 HBG.out (zdq.nil _ _) (FIn.nil _) (zk7 HB5.out) HO5.out hz
     rw[← HR.out] at F2
     unfold putO outZ at F1 F2
     dsimp only at F1 F2
     refine zjd (O:=⟨[],false,0,0,[]⟩) rfl rfl rfl F1 ?_
     exact F2
   by_cases hk5:kd=5
   · subst hk5
     have HR:Hid (P=SOutR w G p pd (segIdle S) (outM (abM 0 0 84148225))):= zak (by rw[HP.out];unfold recvS recvO;rw[if_neg (by rw[← HKD.out];exact hk1),if_neg (by rw[← HKD.out];exact hk2),if_neg (by rw[← HKD.out];exact hk4),if_neg (fun h=>by have:=h.2;rw[H3.out] at this;exact absurd this (by decide)),if_neg (fun h=>by have:=h.2;rw[H3.out] at this;exact absurd this (by decide)),if_neg (by rw[← HKD.out];exact hk1),if_neg (by rw[← HKD.out];exact hk2),if_neg (by rw[← HKD.out];exact hk4),if_neg (fun h=>by have:=h.2;rw[H3.out] at this;exact absurd this (by decide)),if_neg (fun h=>by have:=h.2;rw[H3.out] at this;exact absurd this (by decide)),if_neg (by unfold wokeS;rw[if_pos H3.out];simp)])
     go_wp2_with fail
     refine (zjk 0 0 84148225 _).mono ?_
     rintro e w5 ⟨rfl,hBg,hb5,hz5⟩
     have HK25:=zak (HR1.out.2.2.2.1.below hb5 HR1.out.2.2.2.1.lt)
     have HBG:=zak hBg
     have HB5:=zak (HR1.out.2.1.below hb5 HR1.out.2.1.lt)
     have HO5:=zak (HR1.out.1.step hb5)
     clear bb_c0 bb_c1 bb_c2 bb_c3 bb_c4 bb_c5 bb_c6 bb_c7 bb_f
     clear kk_c0 kk_c1 kk_c2 kk_c3 kk_c4 kk_c5 kk_c6 kk_c7 kk_c8 kk_c9 kk_c10 kk_c11 kk_c12 kk_c13 kk_f
     clear k2_c0 k2_c1 k2_c2 k2_c3 k2_c4 k2_f
     clear k2 bb kk hBg
     have k2:=HK25.out
     unfold outV outZ at k2
     obtain⟨k2_c0,k2_c1,k2_c2,k2_c3,k2_c4⟩:= zc5 k2
     have k2_f:=k2.frozen
     go_wp2_with fail
     obtain⟨F1,F2⟩:= zj6 (G:=G) (S':=segIdle S) (fun _=>False) HK25.out hz1 HBG.out (zdq.nil _ _) (FIn.nil _) (zk7 HB5.out) HO5.out hz
     rw[← HR.out] at F2
     unfold putO outZ at F1 F2
     dsimp only at F1 F2
     refine zjd (O:=⟨[],false,0,0,[]⟩) rfl rfl rfl F1 ?_
     exact F2
   have HR:Hid (P=SOutR w G p pd (segIdle S) (outM (abM 0 0 84148225))):= zak (by rw[HP.out];unfold recvS recvO;rw[if_neg (by rw[← HKD.out];exact hk1),if_neg (by rw[← HKD.out];exact hk2),if_neg (by rw[← HKD.out];exact hk4),if_neg (fun h=>by have:=h.2;rw[H3.out] at this;exact absurd this (by decide)),if_neg (fun h=>by have:=h.2;rw[H3.out] at this;exact absurd this (by decide)),if_neg (by rw[← HKD.out];exact hk1),if_neg (by rw[← HKD.out];exact hk2),if_neg (by rw[← HKD.out];exact hk4),if_neg (fun h=>by have:=h.2;rw[H3.out] at this;exact absurd this (by decide)),if_neg (fun h=>by have:=h.2;rw[H3.out] at this;exact absurd this (by decide)),if_neg (by unfold wokeS;rw[if_pos H3.out];simp)])
   go_wp2_with fail
   refine (zjk 0 0 84148225 _).mono ?_
   rintro e w5 ⟨rfl,hBg,hb5,hz5⟩
   have HK25:=zak (HR1.out.2.2.2.1.below hb5 HR1.out.2.2.2.1.lt)
   have HBG:=zak hBg
   have HB5:=zak (HR1.out.2.1.below hb5 HR1.out.2.1.lt)
   have HO5:=zak (HR1.out.1.step hb5)
   clear bb_c0 bb_c1 bb_c2 bb_c3 bb_c4 bb_c5 bb_c6 bb_c7 bb_f
   clear kk_c0 kk_c1 kk_c2 kk_c3 kk_c4 kk_c5 kk_c6 kk_c7 kk_c8 kk_c9 kk_c10 kk_c11 kk_c12 kk_c13 kk_f
   clear k2_c0 k2_c1 k2_c2 k2_c3 k2_c4 k2_f
   clear k2 bb kk hBg
   have k2:=HK25.out
   unfold outV outZ at k2
   obtain⟨k2_c0,k2_c1,k2_c2,k2_c3,k2_c4⟩:= zc5 k2
   have k2_f:=k2.frozen
   go_wp2_with fail
   obtain⟨F1,F2⟩:= zj6 (G:=G) (S':=segIdle S) (fun _=>False) HK25.out hz1 HBG.out (zdq.nil _ _) (FIn.nil _) (zk7 HB5.out) HO5.out hz
   rw[← HR.out] at F2
   unfold putO outZ at F1 F2
   dsimp only at F1 F2
   refine zjd (O:=⟨[],false,0,0,[]⟩) rfl rfl rfl F1 ?_
   exact F2
 · have H3:Hid (¬ S.st=3):= zak (by rw[← HST.out];exact h3)
   have hbq3:(s == 3)=false:=by simp[h3]
   go_upto_region 5 with fail
   have HR1:=HRW
   clear bb_c0 bb_c1 bb_f
   clear bb HRWI
   obtain⟨hO1,hB1,hM1,hK1,hz1⟩:= id HR1.out
   have bb:=hB1
   have kk:=hM1
   have k2:=hK1
   have zp1:=hB1.lt
   have zm1:=hM1.lt
   have zo1:=hK1.lt
   unfold srvV at bb
   unfold msV at kk
   unfold outV outZ at k2
   obtain⟨s1,hs1⟩:∃ s1,s1=(S).st:=⟨_,rfl⟩
   have HS1:=zak hs1
   rw[← hs1] at bb
   obtain⟨kd,hkd⟩:∃ kd,kd=M.kind:=⟨_,rfl⟩
   have HKD:=zak hkd
   rw[← hkd] at kk
   obtain⟨bb_c0,bb_c1,bb_c2,bb_c3,bb_c4,bb_c5,bb_c6,bb_c7⟩:= zc6 bb
   have bb_f:=bb.frozen
   obtain⟨kk_c0,kk_c1,kk_c2,kk_c3,kk_c4,kk_c5,kk_c6,kk_c7,kk_c8,kk_c9,kk_c10,kk_c11,kk_c12,kk_c13⟩:= zc9 kk
   have kk_f:=kk.frozen
   obtain⟨k2_c0,k2_c1,k2_c2,k2_c3,k2_c4⟩:= zc5 k2
   have k2_f:=k2.frozen
   clear hs1 hkd hO1 hB1 hM1 hK1
   by_cases hk1:kd=1
   · subst hk1
     have HR:Hid (P=SOutR w G p pd (segIdle S) outZ):= zak (by rw[HP.out];unfold recvS recvO;rw[if_pos HKD.out.symm,if_pos HKD.out.symm])
     have HRI:=zak (zk0 HR1.out hz)
     go_wp2_with fail
     obtain⟨F1,F2⟩:= zk9 (G:=G) HRI.out.2.2.2.1 (zk7 HRI.out.2.1) HRI.out.1 hz
     rw[show segIdle (S)=segIdle S from rfl] at F2
     rw[← HR.out] at F2
     unfold putO outZ at F1 F2
     dsimp only at F1 F2
     refine zjd (O:=⟨[],false,0,0,[]⟩) rfl rfl rfl F1 ?_
     exact F2
   by_cases hk2:kd=2
   · subst hk2
     have HM2:Hid ({ M with kind:=2 }=M):= zak (by have h:=HKD.out;cases M;simp only at h;subst h;rfl)
     have HR:Hid (P=SOutR w G p pd (downS L (segIdle S) { M with kind:=2 }) (downO L { M with kind:=2 })):= zak (by rw[HP.out,HM2.out];unfold recvS recvO;rw[if_neg (by rw[← HKD.out];decide),if_pos HKD.out.symm,if_neg (by rw[← HKD.out];decide),if_pos HKD.out.symm])
     have HRI:=zak (zk0 HR1.out hz)
     clear hk1
     go_wp2_with fail
     refine zkz HRI.out (fun W2 hW2=>?_)
     have HR2:=zak hW2
     clear hW2
     refine (zks p (segIdle S) (fun q=>G q∧q < w.heap.size) { M with kind:=2 } A3 m3 c3 _ (HD.out W2 HR2.out.1) HS.out H1.out hp (zk7 HR2.out.2.1) rfl HM.out (by omega) (fun W h=>HMD.out W (HR2.out.1.trans h (fun _ _ h=>h))) hsz).mono ?_
     rintro e w5 ⟨X,As,ns,cs,A5,n5,c5,rfl,h1,h2,h3,h4,h5⟩
     unfold outV
     have F:=zky (G:=G) (G':=(fun q=>G q∧q < w.heap.size)) HR2.out.2.2.2.2 HR2.out.1 hz HR2.out.2.2.2.1 (fun q h=>⟨.inl h.1,by have:=h.2;omega⟩) h1 h2 h3 h4 h5
     have k5:=ziz HR2.out.2.2.2.1 h5 (fun e=>hne1 e.symm)
     have HF:=zak F
     clear F h1 h2 h3 h4 h5
     clear bb_c0 bb_c1 bb_c2 bb_c3 bb_c4 bb_c5 bb_c6 bb_c7 bb_f
     clear kk_c0 kk_c1 kk_c2 kk_c3 kk_c4 kk_c5 kk_c6 kk_c7 kk_c8 kk_c9 kk_c10 kk_c11 kk_c12 kk_c13 kk_f
     clear k2_c0 k2_c1 k2_c2 k2_c3 k2_c4 k2_f
     clear bb kk k2
     unfold outV outZ at k5
     obtain⟨k5_c0,k5_c1,k5_c2,k5_c3,k5_c4⟩:= zc5 k5
     have k5_f:=k5.frozen
     go_wp2_with fail
     obtain⟨F1,F2⟩:= HF.out
     rw[← HR.out] at F2
     unfold putO at F1 F2
     refine zjd (O:=downO L { M with kind:=2 }) rfl rfl rfl F1 ?_
     exact F2
   by_cases hk4:kd=4
   · subst hk4
     have HM2:Hid ({ M with kind:=4 }=M):= zak (by have h:=HKD.out;cases M;simp only at h;subst h;rfl)
     have HR:Hid (P=SOutR w G p pd (upS L V (segIdle S) { M with kind:=4 }) (upO L V { M with kind:=4 })):= zak (by rw[HP.out,HM2.out];unfold recvS recvO;rw[if_neg (by rw[← HKD.out];decide),if_neg (by rw[← HKD.out];decide),if_pos HKD.out.symm,if_neg (by rw[← HKD.out];decide),if_neg (by rw[← HKD.out];decide),if_pos HKD.out.symm])
     have HRI:=zak (zk0 HR1.out hz)
     clear hk1
     go_wp2_with fail
     refine zkz HRI.out (fun W2 hW2=>?_)
     have HR2:=zak hW2
     clear hW2
     refine (zka p (segIdle S) (fun q=>G q∧q < w.heap.size) { M with kind:=4 } A3 m3 c3 _ (HD.out W2 HR2.out.1) HS.out H1.out HV.out hp (zk7 HR2.out.2.1) rfl).mono ?_
     rintro e w5 ⟨X,As,ns,cs,A5,n5,c5,rfl,h1,h2,h3,h4,h5⟩
     unfold outV
     have F:=zky (G:=G) (G':=(fun q=>G q∧q < w.heap.size)) HR2.out.2.2.2.2 HR2.out.1 hz HR2.out.2.2.2.1 (fun q h=>⟨.inl h.1,by have:=h.2;omega⟩) h1 h2 h3 h4 h5
     have k5:=ziz HR2.out.2.2.2.1 h5 (fun e=>hne1 e.symm)
     have HF:=zak F
     clear F h1 h2 h3 h4 h5
     clear bb_c0 bb_c1 bb_c2 bb_c3 bb_c4 bb_c5 bb_c6 bb_c7 bb_f
     clear kk_c0 kk_c1 kk_c2 kk_c3 kk_c4 kk_c5 kk_c6 kk_c7 kk_c8 kk_c9 kk_c10 kk_c11 kk_c12 kk_c13 kk_f
     clear k2_c0 k2_c1 k2_c2 k2_c3 k2_c4 k2_f
     clear bb kk k2
     unfold outV outZ at k5
     obtain⟨k5_c0,k5_c1,k5_c2,k5_c3,k5_c4⟩:= zc5 k5
     have k5_f:=k5.frozen
     go_wp2_with fail
     obtain⟨F1,F2⟩:= HF.out
     rw[← HR.out] at F2
     unfold putO at F1 F2
     refine zjd (O:=upO L V { M with kind:=4 }) rfl rfl rfl F1 ?_
     exact F2
   by_cases hk3:kd=3
   · by_cases hs3:s1=1
     · subst hk3 hs3
       have HM2:Hid ({ M with kind:=3 }=M):= zak (by have h:=HKD.out;cases M;simp only at h;subst h;rfl)
       have HR:Hid (P=SOutR w G p pd (partS S { M with kind:=3 }) (partO S { M with kind:=3 })):= zak (by rw[HP.out,HM2.out];unfold recvS recvO;rw[if_neg (by rw[← HKD.out];exact hk1),if_neg (by rw[← HKD.out];exact hk2),if_neg (by rw[← HKD.out];exact hk4),if_pos ⟨HKD.out.symm,HS1.out.symm⟩,if_neg (by rw[← HKD.out];exact hk1),if_neg (by rw[← HKD.out];exact hk2),if_neg (by rw[← HKD.out];exact hk4),if_pos ⟨HKD.out.symm,HS1.out.symm⟩])
       have HR2:=HR1
       go_wp2_with fail
       refine (zkw p pd S (fun q=>G q∧q < w.heap.size) { M with kind:=3 } A3 m3 c3 _ (HS0.out.keep (H:=(fun q=>G q∧q < w.heap.size)) (fun q _ hq=>HBW0.out.block q hq) HBW0.out.size (fun q h1 h2=>⟨h2,h1⟩)) (by rw[← HS1.out]) (HBN.out (.inl (by rw[← HS1.out]))) HM.out hm1 (fun W h=>HMD.out W (HR2.out.1.trans h (fun _ _ h=>h)))).mono ?_
       rintro e w5 ⟨X,As,ns,cs,A5,n5,c5,rfl,h1,h2,h3,h4,h5⟩
       unfold outV
       have F:=zky (G:=G) (G':=(fun q=>G q∧q < w.heap.size)) HR2.out.2.2.2.2 HR2.out.1 hz HR2.out.2.2.2.1 (fun q h=>⟨.inl h.1,by have:=h.2;omega⟩) h1 h2 h3 h4 h5
       have k5:=ziz HR2.out.2.2.2.1 h5 (fun e=>hne1 e.symm)
       have HF:=zak F
       clear F h1 h2 h3 h4 h5
       clear bb_c0 bb_c1 bb_c2 bb_c3 bb_c4 bb_c5 bb_c6 bb_c7 bb_f
       clear kk_c0 kk_c1 kk_c2 kk_c3 kk_c4 kk_c5 kk_c6 kk_c7 kk_c8 kk_c9 kk_c10 kk_c11 kk_c12 kk_c13 kk_f
       clear k2_c0 k2_c1 k2_c2 k2_c3 k2_c4 k2_f
       clear bb kk k2
       unfold outV outZ at k5
       obtain⟨k5_c0,k5_c1,k5_c2,k5_c3,k5_c4⟩:= zc5 k5
       have k5_f:=k5.frozen
       go_wp2_with fail
       obtain⟨F1,F2⟩:= HF.out
       rw[← HR.out] at F2
       unfold putO at F1 F2
       refine zjd (O:=partO S { M with kind:=3 }) rfl rfl rfl F1 ?_
       exact F2
     · subst hk3
       by_cases hs0:s1=0
       · have HSI:Hid (S=segIdle S):= zak (by have h:=HS1.out;rw[hs0] at h;cases S;simp only at h;subst h;rfl)
         have HX0:=zak hs0
         subst hs0
         have HR:Hid (P=SOutR w G p pd (segIdle S) (outM (abM 0 0 84148225))):= zak (by rw[HP.out];unfold recvS recvO;rw[if_neg (by rw[← HKD.out];exact hk1),if_neg (by rw[← HKD.out];exact hk2),if_neg (by rw[← HKD.out];exact hk4),if_neg (fun h=>hs3 (HS1.out.trans h.2)),if_neg (fun h=>absurd (HKD.out.trans h.1) (by decide)),if_neg (by rw[← HKD.out];exact hk1),if_neg (by rw[← HKD.out];exact hk2),if_neg (by rw[← HKD.out];exact hk4),if_neg (fun h=>hs3 (HS1.out.trans h.2)),if_neg (fun h=>absurd (HKD.out.trans h.1) (by decide)),if_neg (by unfold wokeS;rw[if_neg H3.out,← HS1.out];simp)])
         go_wp2_with fail
         refine (zjk 0 0 84148225 _).mono ?_
         rintro e w5 ⟨rfl,hBg,hb5,hz5⟩
         have HK25:=zak (HR1.out.2.2.2.1.below hb5 HR1.out.2.2.2.1.lt)
         have HBG:=zak hBg
         have HB5:=zak (HR1.out.2.1.below hb5 HR1.out.2.1.lt)
         have HO5:=zak (HR1.out.1.step hb5)
         clear bb_c0 bb_c1 bb_c2 bb_c3 bb_c4 bb_c5 bb_c6 bb_c7 bb_f
         clear kk_c0 kk_c1 kk_c2 kk_c3 kk_c4 kk_c5 kk_c6 kk_c7 kk_c8 kk_c9 kk_c10 kk_c11 kk_c12 kk_c13 kk_f
         clear k2_c0 k2_c1 k2_c2 k2_c3 k2_c4 k2_f
         clear k2 bb kk hBg
         have k2:=HK25.out
         unfold outV outZ at k2
         obtain⟨k2_c0,k2_c1,k2_c2,k2_c3,k2_c4⟩:= zc5 k2
         have k2_f:=k2.frozen
         go_wp2_with fail
         obtain⟨F1,F2⟩:= zj6 (G:=G) (S':=segIdle S) (fun _=>False) HK25.out hz1 HBG.out (zdq.nil _ _) (FIn.nil _) (zk7 (by have:=HB5.out;rw[HSI.out] at this;exact this)) HO5.out hz
         rw[← HR.out] at F2
         unfold putO outZ at F1 F2
         dsimp only at F1 F2
         refine zjd (O:=⟨[],false,0,0,[]⟩) rfl rfl rfl F1 ?_
         exact F2
       · skip
         have HR:Hid (P=SOutR w G p pd (segIdle S) (outM (abM S.ix S.sub 84148225))):= zak (by rw[HP.out];unfold recvS recvO;rw[if_neg (by rw[← HKD.out];exact hk1),if_neg (by rw[← HKD.out];exact hk2),if_neg (by rw[← HKD.out];exact hk4),if_neg (fun h=>hs3 (HS1.out.trans h.2)),if_neg (fun h=>absurd (HKD.out.trans h.1) (by decide)),if_neg (by rw[← HKD.out];exact hk1),if_neg (by rw[← HKD.out];exact hk2),if_neg (by rw[← HKD.out];exact hk4),if_neg (fun h=>hs3 (HS1.out.trans h.2)),if_neg (fun h=>absurd (HKD.out.trans h.1) (by decide)),if_pos (by unfold wokeS;rw[if_neg H3.out,← HS1.out];exact hs0)])
         have hbq:(s1 == 0)=false:=by simp[hs0]
         have hbr:(s1 != 0)=true:=by simp[hs0]
         go_wp2_with fail
         refine (zjm p pd S 84148225 A n1 c1 _ HR1.out.2.1).mono ?_
         rintro e w5 ⟨_,h5⟩
         obtain⟨g,hg,rfl,hBg,hBp,ho⟩:= h5 (by rw[← HS1.out];exact hs0)
         have HK25:=zak (ziz HR1.out.2.2.2.1 ho (fun e=>hne1 e.symm))
         have HBG:=zak hBg
         have HB5:=zak hBp
         have HO5:=zak (HR1.out.1.trans ho (fun _ _ h=>h))
         clear bb_c0 bb_c1 bb_c2 bb_c3 bb_c4 bb_c5 bb_c6 bb_c7 bb_f
         clear kk_c0 kk_c1 kk_c2 kk_c3 kk_c4 kk_c5 kk_c6 kk_c7 kk_c8 kk_c9 kk_c10 kk_c11 kk_c12 kk_c13 kk_f
         clear k2_c0 k2_c1 k2_c2 k2_c3 k2_c4 k2_f
         clear k2 bb kk hBg hBp ho h5
         have k2:=HK25.out
         unfold outV outZ at k2
         obtain⟨k2_c0,k2_c1,k2_c2,k2_c3,k2_c4⟩:= zc5 k2
         have k2_f:=k2.frozen
         go_wp2_with fail
         obtain⟨F1,F2⟩:= zj6 (G:=G) (S':=segIdle S) (fun _=>False) HK25.out (Nat.le_trans hz1 hg) HBG.out (zdq.nil _ _) (FIn.nil _) (zk7 HB5.out) HO5.out hz
         rw[← HR.out] at F2
         unfold putO outZ at F1 F2
         dsimp only at F1 F2
         refine zjd (O:=⟨[],false,0,0,[]⟩) rfl rfl rfl F1 ?_
         exact F2
   by_cases hk5:kd=5
   · by_cases hs5:s1=2
     · subst hk5 hs5
       have HM2:Hid ({ M with kind:=5 }=M):= zak (by have h:=HKD.out;cases M;simp only at h;subst h;rfl)
       have HR:Hid (P=SOutR w G p pd (nextS S { M with kind:=5 }) (nextO S { M with kind:=5 })):= zak (by rw[HP.out,HM2.out];unfold recvS recvO;rw[if_neg (by rw[← HKD.out];exact hk1),if_neg (by rw[← HKD.out];exact hk2),if_neg (by rw[← HKD.out];exact hk4),if_neg (fun h=>absurd (HKD.out.trans h.1) (by decide)),if_pos ⟨HKD.out.symm,HS1.out.symm⟩,if_neg (by rw[← HKD.out];exact hk1),if_neg (by rw[← HKD.out];exact hk2),if_neg (by rw[← HKD.out];exact hk4),if_neg (fun h=>absurd (HKD.out.trans h.1) (by decide)),if_pos ⟨HKD.out.symm,HS1.out.symm⟩])
       have HR2:=HR1
       go_wp2_with fail
       refine (zkk p pd S (fun q=>G q∧q < w.heap.size) { M with kind:=5 } A3 m3 c3 _ (HS0.out.keep (H:=(fun q=>G q∧q < w.heap.size)) (fun q _ hq=>HBW0.out.block q hq) HBW0.out.size (fun q h1 h2=>⟨h2,h1⟩)) (by rw[← HS1.out]) (HBN.out (.inr (by rw[← HS1.out])))).mono ?_
       rintro e w5 ⟨X,As,ns,cs,A5,n5,c5,rfl,h1,h2,h3,h4,h5⟩
       unfold outV
       have F:=zky (G:=G) (G':=(fun q=>G q∧q < w.heap.size)) HR2.out.2.2.2.2 HR2.out.1 hz HR2.out.2.2.2.1 (fun q h=>⟨.inl h.1,by have:=h.2;omega⟩) h1 h2 h3 h4 h5
       have k5:=ziz HR2.out.2.2.2.1 h5 (fun e=>hne1 e.symm)
       have HF:=zak F
       clear F h1 h2 h3 h4 h5
       clear bb_c0 bb_c1 bb_c2 bb_c3 bb_c4 bb_c5 bb_c6 bb_c7 bb_f
       clear kk_c0 kk_c1 kk_c2 kk_c3 kk_c4 kk_c5 kk_c6 kk_c7 kk_c8 kk_c9 kk_c10 kk_c11 kk_c12 kk_c13 kk_f
       clear k2_c0 k2_c1 k2_c2 k2_c3 k2_c4 k2_f
       clear bb kk k2
       unfold outV outZ at k5
       obtain⟨k5_c0,k5_c1,k5_c2,k5_c3,k5_c4⟩:= zc5 k5
       have k5_f:=k5.frozen
       go_wp2_with fail
       obtain⟨F1,F2⟩:= HF.out
       rw[← HR.out] at F2
       unfold putO at F1 F2
       refine zjd (O:=nextO S { M with kind:=5 }) rfl rfl rfl F1 ?_
       exact F2
     · subst hk5
       by_cases hs0:s1=0
       · have HSI:Hid (S=segIdle S):= zak (by have h:=HS1.out;rw[hs0] at h;cases S;simp only at h;subst h;rfl)
         have HX0:=zak hs0
         subst hs0
         have HR:Hid (P=SOutR w G p pd (segIdle S) (outM (abM 0 0 84148225))):= zak (by rw[HP.out];unfold recvS recvO;rw[if_neg (by rw[← HKD.out];exact hk1),if_neg (by rw[← HKD.out];exact hk2),if_neg (by rw[← HKD.out];exact hk4),if_neg (fun h=>absurd (HKD.out.trans h.1) (by decide)),if_neg (fun h=>hs5 (HS1.out.trans h.2)),if_neg (by rw[← HKD.out];exact hk1),if_neg (by rw[← HKD.out];exact hk2),if_neg (by rw[← HKD.out];exact hk4),if_neg (fun h=>absurd (HKD.out.trans h.1) (by decide)),if_neg (fun h=>hs5 (HS1.out.trans h.2)),if_neg (by unfold wokeS;rw[if_neg H3.out,← HS1.out];simp)])
         go_wp2_with fail
         refine (zjk 0 0 84148225 _).mono ?_
         rintro e w5 ⟨rfl,hBg,hb5,hz5⟩
         have HK25:=zak (HR1.out.2.2.2.1.below hb5 HR1.out.2.2.2.1.lt)
         have HBG:=zak hBg
         have HB5:=zak (HR1.out.2.1.below hb5 HR1.out.2.1.lt)
         have HO5:=zak (HR1.out.1.step hb5)
         clear bb_c0 bb_c1 bb_c2 bb_c3 bb_c4 bb_c5 bb_c6 bb_c7 bb_f
         clear kk_c0 kk_c1 kk_c2 kk_c3 kk_c4 kk_c5 kk_c6 kk_c7 kk_c8 kk_c9 kk_c10 kk_c11 kk_c12 kk_c13 kk_f
         clear k2_c0 k2_c1 k2_c2 k2_c3 k2_c4 k2_f
         clear k2 bb kk hBg
         have k2:=HK25.out
         unfold outV outZ at k2
         obtain⟨k2_c0,k2_c1,k2_c2,k2_c3,k2_c4⟩:= zc5 k2
         have k2_f:=k2.frozen
         go_wp2_with fail
         obtain⟨F1,F2⟩:= zj6 (G:=G) (S':=segIdle S) (fun _=>False) HK25.out hz1 HBG.out (zdq.nil _ _) (FIn.nil _) (zk7 (by have:=HB5.out;rw[HSI.out] at this;exact this)) HO5.out hz
         rw[← HR.out] at F2
         unfold putO outZ at F1 F2
         dsimp only at F1 F2
         refine zjd (O:=⟨[],false,0,0,[]⟩) rfl rfl rfl F1 ?_
         exact F2
       · skip
         have HR:Hid (P=SOutR w G p pd (segIdle S) (outM (abM S.ix S.sub 84148225))):= zak (by rw[HP.out];unfold recvS recvO;rw[if_neg (by rw[← HKD.out];exact hk1),if_neg (by rw[← HKD.out];exact hk2),if_neg (by rw[← HKD.out];exact hk4),if_neg (fun h=>absurd (HKD.out.trans h.1) (by decide)),if_neg (fun h=>hs5 (HS1.out.trans h.2)),if_neg (by rw[← HKD.out];exact hk1),if_neg (by rw[← HKD.out];exact hk2),if_neg (by rw[← HKD.out];exact hk4),if_neg (fun h=>absurd (HKD.out.trans h.1) (by decide)),if_neg (fun h=>hs5 (HS1.out.trans h.2)),if_pos (by unfold wokeS;rw[if_neg H3.out,← HS1.out];exact hs0)])
         have hbq:(s1 == 0)=false:=by simp[hs0]
         have hbr:(s1 != 0)=true:=by simp[hs0]
         go_wp2_with fail
         refine (zjm p pd S 84148225 A n1 c1 _ HR1.out.2.1).mono ?_
         rintro e w5 ⟨_,h5⟩
         obtain⟨g,hg,rfl,hBg,hBp,ho⟩:= h5 (by rw[← HS1.out];exact hs0)
         have HK25:=zak (ziz HR1.out.2.2.2.1 ho (fun e=>hne1 e.symm))
         have HBG:=zak hBg
         have HB5:=zak hBp
         have HO5:=zak (HR1.out.1.trans ho (fun _ _ h=>h))
         clear bb_c0 bb_c1 bb_c2 bb_c3 bb_c4 bb_c5 bb_c6 bb_c7 bb_f
         clear kk_c0 kk_c1 kk_c2 kk_c3 kk_c4 kk_c5 kk_c6 kk_c7 kk_c8 kk_c9 kk_c10 kk_c11 kk_c12 kk_c13 kk_f
         clear k2_c0 k2_c1 k2_c2 k2_c3 k2_c4 k2_f
         clear k2 bb kk hBg hBp ho h5
         have k2:=HK25.out
         unfold outV outZ at k2
         obtain⟨k2_c0,k2_c1,k2_c2,k2_c3,k2_c4⟩:= zc5 k2
         have k2_f:=k2.frozen
         go_wp2_with fail
         obtain⟨F1,F2⟩:= zj6 (G:=G) (S':=segIdle S) (fun _=>False) HK25.out (Nat.le_trans hz1 hg) HBG.out (zdq.nil _ _) (FIn.nil _) (zk7 HB5.out) HO5.out hz
         rw[← HR.out] at F2
         unfold putO outZ at F1 F2
         dsimp only at F1 F2
         refine zjd (O:=⟨[],false,0,0,[]⟩) rfl rfl rfl F1 ?_
         exact F2
   by_cases hs0:s1=0
   · have HSI:Hid (S=segIdle S):= zak (by have h:=HS1.out;rw[hs0] at h;cases S;simp only at h;subst h;rfl)
     have HX0:=zak hs0
     subst hs0
     have HR:Hid (P=SOutR w G p pd (segIdle S) (outM (abM 0 0 84148225))):= zak (by rw[HP.out];unfold recvS recvO;rw[if_neg (by rw[← HKD.out];exact hk1),if_neg (by rw[← HKD.out];exact hk2),if_neg (by rw[← HKD.out];exact hk4),if_neg (fun h=>hk3 (HKD.out.trans h.1)),if_neg (fun h=>hk5 (HKD.out.trans h.1)),if_neg (by rw[← HKD.out];exact hk1),if_neg (by rw[← HKD.out];exact hk2),if_neg (by rw[← HKD.out];exact hk4),if_neg (fun h=>hk3 (HKD.out.trans h.1)),if_neg (fun h=>hk5 (HKD.out.trans h.1)),if_neg (by unfold wokeS;rw[if_neg H3.out,← HS1.out];simp)])
     go_wp2_with fail
     refine (zjk 0 0 84148225 _).mono ?_
     rintro e w5 ⟨rfl,hBg,hb5,hz5⟩
     have HK25:=zak (HR1.out.2.2.2.1.below hb5 HR1.out.2.2.2.1.lt)
     have HBG:=zak hBg
     have HB5:=zak (HR1.out.2.1.below hb5 HR1.out.2.1.lt)
     have HO5:=zak (HR1.out.1.step hb5)
     clear bb_c0 bb_c1 bb_c2 bb_c3 bb_c4 bb_c5 bb_c6 bb_c7 bb_f
     clear kk_c0 kk_c1 kk_c2 kk_c3 kk_c4 kk_c5 kk_c6 kk_c7 kk_c8 kk_c9 kk_c10 kk_c11 kk_c12 kk_c13 kk_f
     clear k2_c0 k2_c1 k2_c2 k2_c3 k2_c4 k2_f
     clear k2 bb kk hBg
     have k2:=HK25.out
     unfold outV outZ at k2
     obtain⟨k2_c0,k2_c1,k2_c2,k2_c3,k2_c4⟩:= zc5 k2
     have k2_f:=k2.frozen
     go_wp2_with fail
     obtain⟨F1,F2⟩:= zj6 (G:=G) (S':=segIdle S) (fun _=>False) HK25.out hz1 HBG.out (zdq.nil _ _) (FIn.nil _) (zk7 (by have:=HB5.out;rw[HSI.out] at this;exact this)) HO5.out hz
     rw[← HR.out] at F2
     unfold putO outZ at F1 F2
     dsimp only at F1 F2
     refine zjd (O:=⟨[],false,0,0,[]⟩) rfl rfl rfl F1 ?_
     exact F2
   · skip
     have HR:Hid (P=SOutR w G p pd (segIdle S) (outM (abM S.ix S.sub 84148225))):= zak (by rw[HP.out];unfold recvS recvO;rw[if_neg (by rw[← HKD.out];exact hk1),if_neg (by rw[← HKD.out];exact hk2),if_neg (by rw[← HKD.out];exact hk4),if_neg (fun h=>hk3 (HKD.out.trans h.1)),if_neg (fun h=>hk5 (HKD.out.trans h.1)),if_neg (by rw[← HKD.out];exact hk1),if_neg (by rw[← HKD.out];exact hk2),if_neg (by rw[← HKD.out];exact hk4),if_neg (fun h=>hk3 (HKD.out.trans h.1)),if_neg (fun h=>hk5 (HKD.out.trans h.1)),if_pos (by unfold wokeS;rw[if_neg H3.out,← HS1.out];exact hs0)])
     have hbq:(s1 == 0)=false:=by simp[hs0]
     have hbr:(s1 != 0)=true:=by simp[hs0]
     go_wp2_with fail
     refine (zjm p pd S 84148225 A n1 c1 _ HR1.out.2.1).mono ?_
     rintro e w5 ⟨_,h5⟩
     obtain⟨g,hg,rfl,hBg,hBp,ho⟩:= h5 (by rw[← HS1.out];exact hs0)
     have HK25:=zak (ziz HR1.out.2.2.2.1 ho (fun e=>hne1 e.symm))
     have HBG:=zak hBg
     have HB5:=zak hBp
     have HO5:=zak (HR1.out.1.trans ho (fun _ _ h=>h))
     clear bb_c0 bb_c1 bb_c2 bb_c3 bb_c4 bb_c5 bb_c6 bb_c7 bb_f
     clear kk_c0 kk_c1 kk_c2 kk_c3 kk_c4 kk_c5 kk_c6 kk_c7 kk_c8 kk_c9 kk_c10 kk_c11 kk_c12 kk_c13 kk_f
     clear k2_c0 k2_c1 k2_c2 k2_c3 k2_c4 k2_f
     clear k2 bb kk hBg hBp ho h5
     have k2:=HK25.out
     unfold outV outZ at k2
     obtain⟨k2_c0,k2_c1,k2_c2,k2_c3,k2_c4⟩:= zc5 k2
     have k2_f:=k2.frozen
     go_wp2_with fail
     obtain⟨F1,F2⟩:= zj6 (G:=G) (S':=segIdle S) (fun _=>False) HK25.out (Nat.le_trans hz1 hg) HBG.out (zdq.nil _ _) (FIn.nil _) (zk7 HB5.out) HO5.out hz
     rw[← HR.out] at F2
     unfold putO outZ at F1 F2
     dsimp only at F1 F2
     refine zjd (O:=⟨[],false,0,0,[]⟩) rfl rfl rfl F1 ?_
     exact F2
end
end
end Go.Proofs.YthdbckbpldlkeaaGreat
