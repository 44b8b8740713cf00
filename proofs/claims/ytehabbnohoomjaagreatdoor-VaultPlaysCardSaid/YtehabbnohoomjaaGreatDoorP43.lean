/- None -/
import Derived.Test.YtehabbnohoomjaaGreatDoorP39
import Derived.Test.YtehabbnohoomjaaGreatDoorP40
namespace Go.Proofs.YtehabbnohoomjaaGreatDoor
set_option linter.unusedVariables false
set_option linter.unusedSimpArgs false
set_option linter.unnecessarySimpa false
section
open Go.RowKit
set_option maxRecDepth 100000
set_option maxHeartbeats 8000000
theorem zyy (a:Nat→Addr) (M:Nat) (w:World) (hG:GV w a M) (hM:M≤w.heap.size):Calls Tryz.prog 9 #[] w fun e w'=>e= .returned (.bool true)∧ Below w.heap.size w w':=by
 obtain⟨r1,r2,r3,r4,r5,r6,r7,r8⟩:= zw6
 obtain⟨s1,s2,s3,s4,s5,s6⟩:= zw7
 have R1:=zak r1
 have R2:=zak r2
 have R3:=zak r3
 have R4:=zak r4
 have R5:=zak r5
 have R6:=zak r6
 have R7:=zak r7
 have R8:=zak r8
 have S1:=zak s1
 have S2:=zak s2
 have S3:=zak s3
 have S4:=zak s4
 have S5:=zak s5
 have S6:=zak s6
 have HG:=zak hG
 have HM:=zak hM
 clear r1 r2 r3 r4 r5 r6 r7 r8 s1 s2 s3 s4 s5 s6 hG hM
 have q:=zbn w 5 55 #[.int .u8 3] (entV vE (some ⟨w.heap.size,0,none⟩) 1 1)
 have hbw:=zbf (zbf (Below.refl w.heap.size w) (.cells #[.int .u8 3] 5)) (.cells (entV vE (some ⟨w.heap.size,0,none⟩) 1 1) 55)
 have HSL:=zak (zw2 (E:=vE) q.2 (Nat.le_refl _) q.1.sl)
 have HBW:=zak hbw
 clear q hbw
 go_enter Tryz.func9,Tryz.ntmps9
 go_wp2_with fail
 refine (zt0 _ 1 1 [vE] _ rfl HSL.out (by intro E hE;simp at hE;subst hE;exact⟨by decide,by decide⟩)).mono ?_
 rintro e w1 ⟨v,er,at_,rfl,h1,h2,h3,hb1⟩
 obtain⟨rfl,rfl⟩:= zpk h1 zw4
 obtain⟨p,gl,n,cl,Av,cv,ds,es,rfl,hn,hD⟩:= h3 rfl
 have hn1:n=1:=hn
 subst hn1
 have z0:=HBW.out.size
 have z1:=hb1.size
 have HD1:=zak (hD.mono (G:=fun g=>w.heap.size≤g∧g < w1.heap.size) (fun g hlt hg=>⟨by omega,hlt⟩))
 have HB1:=zak (zbd hb1 HBW.out)
 have Z1:=zak (Nat.le_trans z0 z1)
 clear h1 h2 h3 hD hb1 hn z0 z1 HSL HBW
 go_wp2_with fail
 have HFN:=zhy 3 9 w1 (by decide) (by decide) (by decide) (by decide)
 refine HFN.mono ?_
 clear HFN
 rintro e w2 ⟨qf,rfl,hF2,hq2,hb2⟩
 have HF2:=zak (show FD w2 qf (newF 3 9) from hF2)
 have HQ2:=zak (show ∀ g,qf.F g→w1.heap.size≤g∧g < w2.heap.size from fun g hg=>⟨hq2 g hg,hF2.lt g hg⟩)
 have HB2:=zak (zbd hb2 HB1.out)
 have HD2:=zak (HD1.out.below hb2)
 have Z2:=zak hb2.size
 clear hF2 hq2 hb2
 go_wp2_with fail
 have hfr:=zk8 3 9 (by decide) (by decide)
 have HFR:=zak hfr
 have hnew:(openJ (newF 3 9)).has=false:=by
  show (newL (looksF (newF 3 9))).2=false
  rw[zk7]
 obtain⟨S0,hS0⟩:∃ S,S=newF 3 9:=⟨_,rfl⟩
 have HS0:Hid (S0.off=false∧S0.ahead < 0∧S0.most=9∧S0.ops=0):= zak (by rw[hS0];exact⟨rfl,by decide,rfl,rfl⟩)
 rw[← hS0] at HF2 HFR hnew
 have HOP:=zws M qf S0 ⟨p,0,none⟩ w2 HF2.out HS0.out.1 HFR.out.three hnew (Nat.le_trans HM.out HB2.out.size) (fun g hg=>⟨(HQ2.out g hg).2,by have:=(HQ2.out g hg).1;have:=HM.out;have:=HB1.out.size;omega⟩)
 refine HOP.mono ?_
 clear HOP hfr hS0 hnew
 rintro e w3 ⟨pv,pj,A,nj,cj,dj,rfl,hV3,hpv,hb3⟩
 have HV3:=zak hV3
 have HPV:=zak (And.intro hpv hV3.blk.lt)
 have HB3:=zak (zbd hb3 HB2.out)
 have HD3:=zak (HD2.out.below hb3)
 have Z3:=zak hb3.size
 clear hV3 hpv hb3
 go_wp2_with fail
 have b1:=zbm w3 5 #[.int .u8 5]
 have ha3:=zbf (Below.refl w3.heap.size w3) (.cells #[.int .u8 5] 5)
 obtain⟨wa,hwa⟩:∃ W,W=w3.alloc (.cells #[.int .u8 5] 5):= ⟨_,rfl⟩
 rw[← hwa] at b1 ha3 ⊢
 have HDa:=zak (HD3.out.below ha3)
 have HVa:=zak (HV3.out.below ha3)
 have HBa:=zak (zbd ha3 HB3.out)
 have Za:=zak ha3.size
 have Bl:=zak b1
 clear ha3 hwa b1
 refine (zsz 24576 0 _ 1 1 [5] _ HDa.out zw5 (by decide) rfl (by decide) (by decide) Bl.out.sl).mono ?_
 rintro e w4 ⟨V4,es4,rfl,hV4,hD4,ho4⟩
 rw[R1.out]
 have hV4':V4= [[5]]:= hV4.trans R2.out
 subst hV4'
 have HD4:=zak (hD4.mono (G:=fun g=>(w.heap.size≤g∧g < w1.heap.size)∨ (wa.heap.size≤g∧g < w4.heap.size)) (fun g hlt hg=>hg.imp id (fun h=>⟨h,hlt⟩)))
 have HV4:=zak (HVa.out.only ho4 (fun g hg hx=>by
  have q1:=hg.2
  have q2:=Z2.out
  rcases hx with h | h | h | h
  · have:=h.1;omega
  · have:=(HQ2.out g h).1;omega
  · exact h
  · have:=HPV.out.1;omega))
 have HB4:=zak (zck ho4 HBa.out (fun i h=>h.1))
 have Z4:=zak ho4.size
 clear hV4 hD4 ho4 HVa HDa HV3 HD3 HD2 HD1
 go_wp2_with fail
 have hst:=zwm a 1 w4 HV4.out (HG.out.below HB4.out) (Nat.le_trans HM.out HB4.out.size) (.inr ⟨rfl,HS0.out.1⟩) (by rw[HS0.out.2.2.2];decide) ⟨by decide,by decide⟩ HD4.out (by decide) (by intro v hv;simp at hv;subst hv;decide)
 refine hst.mono ?_
 clear hst
 rintro e w5 ⟨R,dj5,Fj5,FL5,As5,ns5,cs5,dx5,hW5,rfl,hV5,ho5,hf5⟩
 rw[S2.out,S1.out,S3.out] at hW5 hV5
 obtain⟨T,rfl,hfrT,hoffT,haT,hmT,hopT⟩:= zxa HFR.out HS0.out.1 HS0.out.2.1 (by rw[HS0.out.2.2.1];decide) (by decide) (fun b er hb=>zw8 hb) (.inl rfl) hW5
 have hV5':VD w5 M Fj5 FL5 pv pj qf A nj cj dj5 As5 ns5 cs5 dx5 (openJ T) T [vX] false false:=by
  have h:=hV5
  rw[if_pos rfl,if_pos rfl] at h
  exact h
 have HV5:=zak hV5'
 have HT:=zak (show Fresh T 1∧T.off=false∧T.ahead < 0∧T.most=9∧T.ops≤1000 from ⟨hfrT,hoffT,by rw[haT];exact HS0.out.2.1,by rw[hmT];exact HS0.out.2.2.1,by have:=HS0.out.2.2.2;omega⟩)
 rw[show codeV ((openJ T,T,(0:Int)):JS×FS×Int).2.2=0 from rfl,show ((0:Nat):Int)=0 from rfl]
 have HF5:=zak (show ∀ g,Fj5 g∨FL5 g→((w2.heap.size≤g∧g < w3.heap.size∧g≠pv)∨ (w4.heap.size≤g∧g < w5.heap.size)) from fun g hg=>(hf5 g hg).elim .inl (fun h=>h.elim False.elim .inr))
 have HD5:=zak (HD4.out.keep (fun g hg hlt=>ho5.block g hlt (fun hx=>by
  have q2:=Z2.out
  have q3:=Z3.out
  have qa:=Za.out
  have qp:=HPV.out
  rcases hg with h | h<;>rcases hx with k | k | k
  · have:=k.1;omega
  · have:=(HQ2.out g k).1;omega
  · omega
  · have:=k.2.1;omega
  · have:=(HQ2.out g k).2;omega
  · omega)))
 have HB5:=zak (zck ho5 HB4.out (fun i h=>by
  have q1:=Z1.out
  have q2:=Z2.out
  rcases h with k | k | k
  · have:=k.1;omega
  · have:=(HQ2.out i k).1;omega
  · have:=HPV.out.1;omega))
 have Z5:=zak ho5.size
 clear hW5 hV5 hV5' ho5 hf5 hfrT hoffT haT hmT hopT HV4 HD4 HFR HF2 HS0
 go_wp2_with fail
 have b1:=zbm w5 5 #[.int .u8 7]
 have ha5:=zbf (Below.refl w5.heap.size w5) (.cells #[.int .u8 7] 5)
 obtain⟨wb,hwb⟩:∃ W,W=w5.alloc (.cells #[.int .u8 7] 5):= ⟨_,rfl⟩
 rw[← hwb] at b1 ha5 ⊢
 have HDb:=zak (HD5.out.below ha5)
 have HVb:=zak (HV5.out.below ha5)
 have HBb:=zak (zbd ha5 HB5.out)
 have Zb:=zak ha5.size
 have Bm:=zak b1
 clear ha5 hwb b1
 refine (zsz 24576 0 _ 1 1 [7] _ HDb.out zw5 (by decide) rfl (by decide) (by decide) Bm.out.sl).mono ?_
 rintro e w6 ⟨V6,es6,rfl,hV6,hD6,ho6⟩
 rw[R3.out]
 have hV6':V6= [[7]]:= hV6.trans R4.out
 subst hV6'
 have HDJ:Hid (∀ g,((w.heap.size≤g∧g < w1.heap.size)∨ (wa.heap.size≤g∧g < w4.heap.size))→ ¬ (Fj5 g∨qf.F g∨FL5 g∨g=pv)):= zak (by
  intro g hg hx
  have q2:=Z2.out
  have q3:=Z3.out
  have qa:=Za.out
  have q4:=Z4.out
  have qp:=HPV.out
  rcases hx with k | k | k | k
  · have h1:=HF5.out g (.inl k);omega
  · have h1:=HQ2.out g k;omega
  · have h1:=HF5.out g (.inr k);omega
  · omega)
 have HD6:=zak (hD6.mono (G:=fun g=>((w.heap.size≤g∧g < w1.heap.size)∨ (wa.heap.size≤g∧g < w4.heap.size))∨ (wb.heap.size≤g∧g < w6.heap.size)) (fun g hlt hg=>hg.imp id (fun h=>⟨h,hlt⟩)))
 have HV6:=zak (HVb.out.only ho6 HDJ.out)
 have HB6:=zak (zck ho6 HBb.out (fun i h=>by
  have q1:=Z1.out
  have q2:=Z2.out
  have q3:=Z3.out
  have qa:=Za.out
  rcases h with h | h
  · exact h.1
  · omega))
 have Z6:=zak ho6.size
 clear hV6 hD6 ho6 HVb HDb HV5 HD5
 go_wp2_with fail
 have HDK:Hid (∀ g,(((w.heap.size≤g∧g < w1.heap.size)∨ (wa.heap.size≤g∧g < w4.heap.size))∨ (wb.heap.size≤g∧g < w6.heap.size))→ g < w6.heap.size∧ ¬ (Fj5 g∨qf.F g∨FL5 g∨g=pv)):= zak (by
  intro g hg
  have q2:=Z2.out
  have q3:=Z3.out
  have qa:=Za.out
  have q4:=Z4.out
  have q5:=Z5.out
  have qb:=Zb.out
  have q6:=Z6.out
  have qp:=HPV.out
  rcases hg with hg | hg
  · exact⟨by omega,HDJ.out g hg⟩
  · refine⟨hg.2,fun hx=>?_⟩
    rcases hx with k | k | k | k
    · have h1:=HF5.out g (.inl k);omega
    · have h1:=HQ2.out g k;omega
    · have h1:=HF5.out g (.inr k);omega
    · omega)
 have hld:=zwq w6 HV6.out HD6.out zw5 (by decide) (fun g hg=>⟨(HDK.out g hg).1,fun hx=>(HDK.out g hg).2 (hx.elim (fun h=> .inr (.inr (.inl h))) (fun h=> .inr (.inr (.inr h))))⟩)
 refine hld.mono ?_
 clear hld
 rintro e w7 ⟨V7,es7,rfl,hV7,hD7,ho7⟩
 rw[R7.out]
 have hV7':V7= [[5]]:= hV7.trans R8.out
 subst hV7'
 have HD7:=zak hD7
 have HV7:=zak (HV6.out.only ho7 (fun g hg=>(HDK.out g hg).2))
 have HB7:=zak (zck ho7 HB6.out (fun i h=>by
  have q1:=Z1.out
  have q2:=Z2.out
  have q3:=Z3.out
  have qa:=Za.out
  have q4:=Z4.out
  have q5:=Z5.out
  have qb:=Zb.out
  rcases h with (h | h) | h
  · exact h.1
  · omega
  · omega))
 have Z7:=zak ho7.size
 clear hV7 hD7 ho7 HV6 HD6
 go_wp2_with fail
 refine (zsv 24576 0 _ HD7.out zw5 (by decide)).mono ?_
 rintro e w8 ⟨A8,m8,c8,b8,rfl,hO8,hb8,hw8⟩
 rw[R5.out] at hb8 ⊢
 have hb8':b8= [5]:= by rw[hb8];exact R6.out
 subst hb8'
 have hm8:m8=1:=hO8.hn
 subst hm8
 have HO8:=zak hO8
 have HV8:=zak (HV7.out.below hw8)
 have HB8:=zak (zbd hw8 HB7.out)
 have Z8:=zak hw8.size
 clear hb8 hO8 hw8 HV7 HD7
 go_wp2_with fail
 refine (zv7 w8 HV8.out).mono ?_
 rintro e w9 ⟨A9,n9,c9,ds9,rfl,hO9,hw9⟩
 have hn9:n9=1:=by rw[hO9.hn,S4.out];rfl
 subst hn9
 have HO9:=zak (HO8.out.below hw9)
 have HV9:=zak (HV8.out.below hw9)
 have HB9:=zak (zbd hw9 HB8.out)
 have Z9:=zak hw9.size
 clear hO9 hw9 HV8 HO8
 go_wp2_with fail
 have hrs:=zwp a 3 w9 HV9.out (HG.out.below HB9.out) (Nat.le_trans HM.out HB9.out.size) (.inr ⟨rfl,HT.out.2.1⟩) (by have:=HT.out.2.2.2.2;omega) ⟨by decide,by decide⟩
 rw[S5.out] at hrs
 refine hrs.mono ?_
 clear hrs
 rintro e w10 ⟨R,dj10,Fj10,FL10,As10,ns10,cs10,dx10,hW10,rfl,hV10,ho10,_⟩
 obtain⟨U,rfl,_⟩:= zxa HT.out.1 HT.out.2.1 HT.out.2.2.1 (by rw[HT.out.2.2.2.1];decide) (by decide) (fun b er hb=>⟨(zw9 hb).1,(zw9 hb).2.1⟩) (.inr ⟨rfl,fun b er hb=>(zw9 hb).2.2⟩) hW10
 have hV10':VD w10 M Fj10 FL10 pv pj qf A nj cj dj10 As10 ns10 cs10 dx10 (openJ U) U [] false false:=by
  have h:=hV10
  rw[if_pos rfl,if_pos rfl] at h
  exact h
 have HV10:=zak hV10'
 rw[show codeV ((openJ U,U,(0:Int)):JS×FS×Int).2.2=0 from rfl,show ((0:Nat):Int)=0 from rfl]
 have hO10:zcd w10 w7.heap.size A8 1 c8 [5]:= ⟨HO9.out.hn,HO9.out.own.keep (fun g hg hlt _=>ho10.block g hlt (fun hx=>by
  have q2:=Z2.out
  have q3:=Z3.out
  have qa:=Za.out
  have q4:=Z4.out
  have q5:=Z5.out
  have qb:=Zb.out
  have q6:=Z6.out
  have q7:=Z7.out
  have qp:=HPV.out
  rcases hx with k | k | k
  · have h1:=HF5.out g (.inl k);omega
  · have h1:=HQ2.out g k;omega
  · omega))⟩
 have hst10:=zcg c8 hO10.hn hO10.sl
 have HB10:=zak (zck ho10 HB9.out (fun i h=>by
  have q1:=Z1.out
  have q2:=Z2.out
  have q3:=Z3.out
  have qa:=Za.out
  have q4:=Z4.out
  rcases h with k | k | k
  · have h1:=HF5.out i (.inl k);omega
  · have h1:=HQ2.out i k;omega
  · have:=HPV.out.1;omega))
 clear hW10 hV10 hV10' ho10 hO10 HV9 HO9
 go_wp2_with fail
 refine (zv7 w10 HV10.out).mono ?_
 rintro e w11 ⟨A11,n11,c11,ds11,rfl,hO11,hw11⟩
 have hn11:n11=0:=by rw[hO11.hn,S6.out];rfl
 subst hn11
 have HV11:=zak (HV10.out.below hw11)
 have HB11:=zak (zbd hw11 HB10.out)
 clear hO11 hw11 HV10 hst10
 go_wp2_with fail
 refine (zwo 5 _ _ HV11.out (by decide)).mono ?_
 rintro e w12 ⟨rfl,rfl⟩
 go_wp2_with fail
 refine (zv4 _ HV11.out).mono ?_
 rintro e w12 ⟨rfl,rfl⟩
 go_wp2_with fail
 refine (zv5 _ HV11.out).mono ?_
 rintro e w12 ⟨rfl,rfl⟩
 go_wp2_with fail
 go_ret
 exact⟨rfl,HB11.out⟩
end
section
open Go.RowKit
set_option maxRecDepth 20000
set_option maxHeartbeats 4000000
end
section
open Go.RowKit
set_option maxRecDepth 100000
set_option maxHeartbeats 8000000
theorem zyz (q:FP) (S:FS) (pd:Addr) (w:World) (hD:FD w q S) (hoff:S.off=false) (h3:S.wear.length < 3):Calls Tryz.prog 11 #[.pointer (some ⟨q.p,0,none⟩),.pointer (some pd)] w fun e w'=>e= .returned (.tuple #[.pointer none,.int .i64 9])∧ w=w':=by
 have HO:=zak (zwr q S w hD hoff h3)
 clear hD hoff h3
 go_enter Tryz.func11,Tryz.ntmps11
 go_wp2_with fail
 refine HO.out.mono ?_
 rintro e w1 ⟨rfl,rfl⟩
 go_wp2_with fail
 go_ret2
 exact⟨rfl,rfl⟩
end
section
open Go.RowKit
set_option maxRecDepth 20000
set_option maxHeartbeats 1000000
theorem zy0 (r:List UInt8) (h:r.length < 5):oneS r=(⟨0,0,[]⟩,[],2):= by rw[oneS,if_pos h]
theorem zy1 (r:List UInt8) (h:5≤r.length) (hb:r.length - 5 < leN ((r.drop 3).take 2)):oneS r=(⟨0,0,[]⟩,[],2):= by rw[oneS,if_neg (by omega),if_pos hb]
theorem zy2 (x b:Nat) (hx:x≤65535) (hb:b≤255):thereB x b=decide (x≠0):= by
 rw[Bool.eq_iff_iff];simp[thereB];omega
theorem zy3 (r:List UInt8) (h:5≤r.length) (hb: ¬ r.length - 5 < leN ((r.drop 3).take 2)) (h0:leN (r.take 2)=0):oneS r=(⟨0,0,[]⟩,[],9):= by
 rw[oneS,if_neg (by omega),if_neg hb,if_pos]
 rw[zy2 _ _ (by omega) (by have:=(r.getD 2 0).toNat_lt;omega),h0];rfl
theorem zy4 (r:List UInt8) (h:5≤r.length) (hb: ¬ r.length - 5 < leN ((r.drop 3).take 2)) (h0:leN (r.take 2)≠ 0) :
 oneS r=(⟨leN (r.take 2),(r.getD 2 0).toNat,(r.drop 5).take (leN ((r.drop 3).take 2))⟩,(r.drop 5).drop (leN ((r.drop 3).take 2)),0):= by
 rw[oneS,if_neg (by omega),if_neg hb,if_neg]
 rw[zy2 _ _ (znu _ (by simp;omega)) (by have:=(r.getD 2 0).toNat_lt;omega)];simp[h0]
theorem zy5 (A:Option Addr) (n c:Nat) (l:List UInt8) (w:World) (hn:n=l.length) (hc:n≤c) (hs:Sl w A (l.map bv)) :
 Calls Tryz.prog 112 #[.slice A n c] w fun e w'=> ∃ A' n' c' L ds er,e= .returned (.tuple #[.slice A' n' c',.int .i64 er])∧ znh w' w.heap.size A' n' c' L ds∧parseS l=(L,er)∧ Below w.heap.size w w':=by
 by_cases hbig:960 < n
 · have HP:=zak (show parseS l=([],3) by rw[parseS,if_pos (by omega)])
   clear hn
   go_enter Tryz.func112,Tryz.ntmps112
   go_wp2_with fail
   go_ret2
   exact⟨_,_,_,_,[],_,rfl,znh.nil _ _,HP.out,Below.refl _ _⟩
 · have HP:=zak (show parseS l=parseF (l.length+1) [] l by rw[parseS,if_neg (by omega)])
   have HN:=zak hn
   clear hn
   have hn960:n≤960:=by omega
   clear hbig
   go_enter Tryz.func112,Tryz.ntmps112
   go_wp2_with fail
   go_loopw [4,5] (fun v4 v5 wr=> ∃ k L ds A' m c' f,v5= .int .i64 (k:Nat)∧ k≤n∧v4= .slice A' m c'∧znh wr w.heap.size A' m c' L ds∧Hid (parseS l=parseF (f+1) L (l.drop k))∧ n - k≤f∧m≤k∧Below w.heap.size w wr)
    (fun _ v5 _=>n - (intOf v5).toNat)
   case atStart=>exact⟨0,[],[],_,_,_,l.length,rfl,by omega,rfl,znh.nil _ _,zak (by rw[HP.out];rfl),by have:=HN.out;omega,by omega,Below.refl _ _⟩
   case round=>
    obtain⟨k,L,ds,A',m,c',f,rfl,hk,rfl,hO,HF,hf,hmb,hbr⟩:= hrel
    clear HP
    by_cases h0:k < n
    · have hrl:(l.drop k).length=n - k:=by have:=HN.out;simp;omega
      obtain⟨r,hr⟩:∃ r,r=l.drop k:=⟨_,rfl⟩
      rw[← hr] at hrl HF
      have hsr:=hs.below hbr
      have HRL:=zak hrl
      have hrne:=zak (show r≠ [] by intro h;rw[h] at hrl;simp at hrl;omega)
      by_cases h5:n - k < 5
      · have HO:=zak (zy0 r (by omega))
        clear hrl hr
        have h5':(n:Int) - k < 5:=by omega
        go_wp2_with fail
        go_ret2
        exact⟨_,_,_,[],_,_,rfl,znh.nil _ _,by rw[HF.out,zn0 _ _ _ _ _ _ hrne.out HO.out (by decide)],hbr⟩
      · obtain⟨x0,hx0⟩:∃ x0,x0=leN (r.take 2):= ⟨_,rfl⟩
        obtain⟨q,hq⟩:∃ q,q=leN ((r.drop 3).take 2):= ⟨_,rfl⟩
        have lx:x0≤65535:=by rw[hx0];exact znu _ (by simp;omega)
        have lq:q≤65535:=by rw[hq];exact znu _ (by simp;omega)
        have HG1:=zak (show ∀ W,Sl W A (l.map bv)→ Calls Tryz.prog 143 #[.slice A n c,.int .i64 k,.int .i64 2] W fun e w'=>e= .returned (.tuple #[.int .u64 x0,.int .i64 0])∧ W=w' from
         fun W h=>(zc6 A n c l k 2 W HN.out hc (by omega) (by omega) (by omega) (by omega) (by omega) h).mono fun e w' h=>by rw[hx0,hr];exact h)
        have HG2:=zak (show ∀ W,Sl W A (l.map bv)→ Calls Tryz.prog 143 #[.slice A n c,.int .i64 (k+3),.int .i64 2] W fun e w'=>e= .returned (.tuple #[.int .u64 q,.int .i64 0])∧ W=w' from
         fun W h=>(zc6 A n c l (k+3) 2 W HN.out hc (by omega) (by omega) (by omega) (by omega) (by omega) h).mono fun e w' h=>by
          rw[hq,hr,List.drop_drop]
          have e1:((k:Int)+3).toNat=k+3:=by omega
          rw[e1] at h
          exact h)
        have h5i:(5:Int)≤ (n:Int) - k:=by omega
        by_cases hbg:n - k - 5 < q
        · have HO:=zak (zy1 r (by omega) (by rw[← hq];omega))
          clear hrl hr hx0 hq
          have hbi:(n:Int) - k - 5 < q:=by omega
          go_wp2_with fail
          refine (HG1.out _ hsr).mono ?_
          rintro e w' ⟨rfl,rfl⟩
          go_wp2_with fail
          refine (HG2.out _ hsr).mono ?_
          rintro e w' ⟨rfl,rfl⟩
          go_wp2_with fail
          go_ret2
          exact⟨_,_,_,[],_,_,rfl,znh.nil _ _,by rw[HF.out,zn0 _ _ _ _ _ _ hrne.out HO.out (by decide)],hbr⟩
        · have hbi:(q:Int)≤ (n:Int) - k - 5:=by omega
          obtain⟨bk,off,rfl,hcell⟩:= hsr.byte_ (j:=k+2) (by have:=HN.out;omega)
          obtain⟨b,hb⟩:∃ b,b=(l[k+2]'(by have:=HN.out;omega)).toNat:=⟨_,rfl⟩
          have lb:b≤255:=by rw[hb];have:=(l[k+2]'(by have:=HN.out;omega)).toNat_lt;omega
          rw[← hb] at hcell
          have hg2:=zak (show (r.getD 2 0).toNat=b by rw[hb,hr,List.getD_eq_getElem?_getD,List.getElem?_drop,List.getElem?_eq_getElem (by have:=HN.out;omega)];rfl)
          have hdat:=zak (show ((l.drop (k+5)).take q).length=q by have:=HN.out;simp;omega)
          have hcut:=fun W=>zci (some ⟨bk,off,none⟩) n c (k+5) (k+5+q) ((k:Int)+5) ((k:Int)+5+q) .i64 .i64 (by omega) (by omega) (by omega) (by omega) W
          have hql:k+5+q - (k+5)=q:=by omega
          rw[hql] at hcut
          have hsd:Sl wr (cutA (some ⟨bk,off,none⟩) c (k+5) 1) (((l.drop (k+5)).take q).map bv):= by
           rw[List.map_take,List.map_drop]
           exact (hsr.cut1 (by have:=HN.out;simp;omega)).take q
          have zb:=zal hcell
          simp only[] at zb
          have HJ:=zak (show ∀ W,Sl W (cutA (some ⟨bk,off,none⟩) c (k+5) 1) (((l.drop (k+5)).take q).map bv)→ _ from fun W hW=>zc1 none (cutA (some ⟨bk,off,none⟩) c (k+5) 1) 0 q 0 (c - (k+5)) [] ((l.drop (k+5)).take q) W rfl hdat.out.symm (by omega) (by omega) (Sl.nil _ _) hW)
          have i1:(0:Int)≤ (k:Int)+2:=by omega
          have i2:(k:Int)+2 < (n:Int):= by omega
          have i3:((k:Int)+2).toNat=k+2:=by omega
          have i4:IntKind.i64.wrap ((k:Int)+2)=(k:Int)+2:=IntWalk.i64_in _ (by omega)
          have i5:IntKind.i64.wrap ((k:Int)+5)=(k:Int)+5:=IntWalk.i64_in _ (by omega)
          have i6:IntKind.i64.wrap ((k:Int)+5+q)=(k:Int)+5+q:=IntWalk.i64_in _ (by omega)
          have i7:IntKind.i64.wrap (q:Int)=q:=IntWalk.i64_in _ (by omega)
          have i8:IntKind.i64.wrap (x0:Int)=x0:=IntWalk.i64_in _ (by omega)
          have i9:IntKind.i64.wrap (b:Int)=b:=IntWalk.i64_in _ (by omega)
          have j1:(0:Int)≤ (k:Int)+5:=by omega
          have j2:(k:Int)+5≤(k:Int)+5+q:=by omega
          have j3:(k:Int)+5+q≤(c:Int):= by omega
          have j4:(0:Int)≤ (q:Int):= by omega
          have hone:=zak (show x0≠0→oneS r=(⟨x0,b,(l.drop (k+5)).take q⟩,l.drop (k+5+q),0) from fun h=>by
           rw[zy4 r (by omega) (by rw[← hq];omega) (by rw[← hx0];exact h),← hx0,← hq,hg2.out,hr,List.drop_drop,List.drop_drop])
          have honer:=zak (show x0=0→oneS r=(⟨0,0,[]⟩,[],9) from fun h=>zy3 r (by omega) (by rw[← hq];omega) (by rw[← hx0];exact h))
          clear hrl hr hx0 hq hb hql
          go_wp2_with fail
          refine (HG1.out _ hsr).mono ?_
          rintro e w' ⟨rfl,rfl⟩
          go_wp2_with fail
          refine (HG2.out _ hsr).mono ?_
          rintro e w' ⟨rfl,rfl⟩
          go_wp2_with fail
          have kq0:Blk (wr.alloc (.cells #[.int .i64 0,.int .i64 0,.slice none 0 0] 52)).drew wr.heap.size 52 #[.int .i64 0,.int .i64 0,.slice none 0 0]:= (Blk.new wr _ _).drew
          have zq0:=kq0.lt
          go_region_held3 (fun w'=>(∀ qA:Addr,qA.block < (wr).heap.size→w'.cell? qA=(wr).cell? qA)∧ Below (wr).heap.size (wr) w') (((try go_split_ands);refine zbc ?_;all_goals exact bl)) (first
           | (go_at_call 64;(with_reducible refine (HJ.out _ (hsd.below bl)).mono ?_);rintro e w1 ⟨A1,n1,c1,rfl,hO1,hb1⟩;(try (have kq:=Blk.below kq0 hb1 zq0;have q0:=kq.cell 0 rfl;have q1:=kq.cell 1 rfl;have q2:=kq.cell 2 rfl;have f0:=kq.frozen 0;have f1:=kq.frozen 1;have f2:=kq.frozen 2));dsimp only))
          all_goals
           first
           | (have kf:=Blk.new w1 52 #[.int .i64 x0,.int .i64 b,.slice A1 n1 c1]
              have hbf:Below wr.heap.size wr (w1.alloc (Obj.cells #[.int .i64 x0,.int .i64 b,.slice A1 n1 c1] 52)):= (by assumption:_∧Below _ wr (w1.alloc _)).2
              have hOf:=(hO1.alloc (Obj.cells #[.int .i64 x0,.int .i64 b,.slice A1 n1 c1] 52)).mono (B':=wr.heap.size) (Nat.le_refl _)
              generalize w1.alloc (Obj.cells #[.int .i64 x0,.int .i64 b,.slice A1 n1 c1] 52)=Wf at *
              generalize w1.heap.size=g at *)
           | (have kf:Blk (((w1.setCell ⟨wr.heap.size,0,none⟩ (.int .i64 x0)).setCell ⟨wr.heap.size,1,none⟩ (.int .i64 b)).setCell ⟨wr.heap.size,2,none⟩ (.slice A1 n1 c1)) wr.heap.size 52 #[.int .i64 x0,.int .i64 b,.slice A1 n1 c1]:= (((Blk.below kq0 hb1 zq0).set_ 0 _).set_ 1 _).set_ 2 _
              have hbf:Below wr.heap.size wr (((w1.setCell ⟨wr.heap.size,0,none⟩ (.int .i64 x0)).setCell ⟨wr.heap.size,1,none⟩ (.int .i64 b)).setCell ⟨wr.heap.size,2,none⟩ (.slice A1 n1 c1)):= (by assumption:_∧Below _ wr (World.setCell _ _ _)).2
              have hOf:zcd (((w1.setCell ⟨wr.heap.size,0,none⟩ (.int .i64 x0)).setCell ⟨wr.heap.size,1,none⟩ (.int .i64 b)).setCell ⟨wr.heap.size,2,none⟩ (.slice A1 n1 c1)) wr.heap.size A1 n1 c1 ([] ++ (l.drop (k+5)).take q):= (((hO1.set_ (p:=⟨wr.heap.size,0,none⟩) zq0 _).set_ (p:=⟨wr.heap.size,1,none⟩) zq0 _).set_ (p:=⟨wr.heap.size,2,none⟩) zq0 _).mono (Nat.le_of_lt zq0)
              generalize (((w1.setCell ⟨wr.heap.size,0,none⟩ (.int .i64 x0)).setCell ⟨wr.heap.size,1,none⟩ (.int .i64 b)).setCell ⟨wr.heap.size,2,none⟩ (.slice A1 n1 c1))=Wf at *
              generalize hgg:wr.heap.size=g at kf ⊢
              have HGG:=zak hgg
              clear hgg)
           clear hcut i1 i2 i3 i4 i5 i6 i8 i9 j1 j2 j3 j4 HJ HG1 HG2 hcell hsd
           have hbrf:Below w.heap.size w Wf:=zbd hbf hbr
           have hdl:=hdat.out
           have hn1:n1=((l.drop (k+5)).take q).length:=by have:=hOf.hn;simpa using this
           have HN1:=zak hn1
           have c0:=kf.cell 0 rfl
           have c1':=kf.cell 1 rfl
           have c2':=kf.cell 2 rfl
           have zf:=kf.lt
           clear hn1 hdl
           by_cases hx:x0=0
           · have hx':((x0:Int) == 0)=true:=by simp[hx]
             have HO:=zak (honer.out hx)
             clear hx
             go_wp2_with fail
             go_ret2
             exact⟨_,_,_,[],_,_,rfl,znh.nil _ _,by rw[HF.out,zn0 _ _ _ _ _ _ hrne.out HO.out (by decide)],hbrf⟩
           · have hx':((x0:Int) == 0)=false:=by simpa using hx
             have HO:=zak (hone.out hx)
             have hpair:=zak (show ∀ d' ∈ ds,∀ g,d'.1=some (⟨g,0,none⟩:Addr)→ A1≠some ⟨g,0,none⟩ from by
              intro d' hd' g hg hA1
              obtain⟨j,hj,rfl⟩:= List.getElem_of_mem hd'
              obtain⟨u,hu⟩:∃ u,L[j]? =some u:=⟨L[j]'(by rw[← hO.hd];exact hj),List.getElem?_eq_getElem _⟩
              have hdat:=hO.data j u _ hu (List.getElem?_eq_getElem hj)
              rcases hdat.own.shape with ⟨h1,_⟩ | ⟨g1,h1,_,h3⟩
              · rw[h1] at hg;cases hg
              · rw[h1] at hg
                injection hg with hg
                injection hg with hg
                subst hg
                rcases hOf.own.shape with ⟨h4,_⟩ | ⟨g2,h4,h5,_⟩
                · rw[h4] at hA1;cases hA1
                · rw[h4] at hA1
                  injection hA1 with hA1
                  injection hA1 with hA1
                  omega)
             have HST:=zak (show ∀ W,Below Wf.heap.size Wf W→znh W w.heap.size A' m c' L ds∧zcd W w.heap.size A1 ((l.drop (k+5)).take q).length c1 ((l.drop (k+5)).take q) from
              fun W hW=>⟨(hO.below hbf).below hW,by
               have h1:=(hOf.below hW).mono (B':=w.heap.size) hbr.size
               rw[HN1.out] at h1
               simpa using h1⟩)
             clear hx
             have hm960:m≤960:=by omega
             have hm0:m=0∨1≤m:=by omega
             rcases hm0 with hm0 | hm0
             · have hd:decide ((0:Int) < (m:Int))=false:=by simp;omega
               have hd':decide (0 < m)=false:=by simp;omega
               have hL0:=zak (show L= [] from List.eq_nil_of_length_eq_zero (by have:=hO.hn;omega))
               clear hm0
               go_wp2_with fail
               go_quiet (fail)
               clear hd hd'
               go_wp2_with (at_builtin;go_must (refine zni _ rfl (.tmp 79) (.tmp 81) rfl w.heap.size _ _ _ _ _ rfl (HST.out _ bl).1 ⟨x0,b,(l.drop (k+5)).take q⟩ (A1,c1) _ rfl (by rw[HN1.out];exact (Blk.new _ _ _).sl) (HST.out _ bl).2 hpair.out (by omega) (by have:=hbrf.size;simp;omega) (m+1) rfl ?_);intro A4 c4 w4 hO4 hb4)
               go_roundw
               case measure=>simp[intOf];omega
               case rel=>
                obtain⟨f,rfl⟩:∃ f',f=f'+1:=⟨f - 1,by omega⟩
                exact⟨k+5+q,_,_,_,_,_,f,by go_num,by omega,rfl,hO4,zak (by rw[HF.out,zn2 _ _ _ _ _ hrne.out HO.out (.inl hL0.out)]),by omega,by omega,(zbd bl hbrf).trans hb4⟩
             · obtain⟨u,hu⟩:∃ u,L[m - 1]? =some u:=⟨L[m - 1]'(by have:=hO.hn;omega),List.getElem?_eq_getElem _⟩
               have hlast:=zak (show lastV L=u by unfold lastV;rw[← hO.hn,List.getD_eq_getElem?_getD,hu];rfl)
               have hLne:=zak (show L≠ [] by intro h;have:=hO.hn;rw[h] at this;simp at this;omega)
               obtain⟨b',off',Ap,cp,hA,g0,g1,g2,g4,g5⟩:= (HST.out Wf (Below.refl _ _)).1.slV (m - 1) u hu
               subst hA
               have z1:=zal g0
               simp only[] at z1
               have HU:=zak hu
               clear hu
               by_cases ha:aheadB u.ix u.sub x0 b=true
               · obtain⟨q1,q2,q3,q4,q5,q6,q7,q8,q9,q10,q11⟩:= zbq hm0 (Nat.le_refl m) (by omega)
                 go_wp2_with fail
                 go_region_held3 (fun w'=>(∀ qA:Addr,qA.block < (Wf).heap.size→w'.cell? qA=(Wf).cell? qA)∧ Below (Wf).heap.size (Wf) w') (((try go_split_ands);refine zbc ?_;all_goals exact bl)) (first
                  | (go_at_call 68;(with_reducible refine (zyb _ _ _ _ _ _ _).mono ?_);rintro e w2 ⟨rfl,hw2⟩;dsimp only))
                 clear q1 q2 q3 q4 q5 q6 q7 q8 q9 q10 q11
                 have hbS:Below Wf.heap.size Wf w2:=(by assumption:_∧Below _ _ w2).2
                 have k2:=kf.below hbS zf
                 have d0:=k2.cell 0 rfl
                 have d1:=k2.cell 1 rfl
                 have d2:=k2.cell 2 rfl
                 have hbr2:=zbd hbS hbrf
                 go_wp2_with (at_builtin;go_must (refine zni _ rfl (.tmp 79) (.tmp 81) rfl w.heap.size _ _ _ _ _ rfl (HST.out _ (by exact zbf hbS _)).1 ⟨x0,b,(l.drop (k+5)).take q⟩ (A1,c1) _ rfl (by rw[HN1.out];exact (Blk.new _ _ _).sl) (HST.out _ (by exact zbf hbS _)).2 hpair.out (by omega) (by have:=hbr2.size;simp;omega) (m+1) rfl ?_);intro A4 c4 w4 hO4 hb4)
                 go_roundw
                 case measure=>simp[intOf];omega
                 case rel=>
                  obtain⟨f,rfl⟩:∃ f',f=f'+1:=⟨f - 1,by omega⟩
                  exact⟨k+5+q,_,_,_,_,_,f,by go_num,by omega,rfl,hO4,zak (by rw[HF.out,zn2 _ _ _ _ _ hrne.out HO.out (.inr (by rw[hlast.out];exact ha))]),by omega,by omega,(zbf hbr2 _).trans hb4⟩
               · have ha:aheadB u.ix u.sub x0 b=false:=by simpa using ha
                 obtain⟨q1,q2,q3,q4,q5,q6,q7,q8,q9,q10,q11⟩:= zbq hm0 (Nat.le_refl m) (by omega)
                 go_wp2_with fail
                 go_region_held3 (fun w'=>(∀ qA:Addr,qA.block < (Wf).heap.size→w'.cell? qA=(Wf).cell? qA)∧ Below (Wf).heap.size (Wf) w') (((try go_split_ands);refine zbc ?_;all_goals exact bl)) (first
                  | (go_at_call 68;(with_reducible refine (zyb _ _ _ _ _ _ _).mono ?_);rintro e w2 ⟨rfl,hw2⟩;dsimp only))
                 clear q1 q2 q3 q4 q5 q6 q7 q8 q9 q10 q11
                 have hbS:Below Wf.heap.size Wf w2:=(by assumption:_∧Below _ _ w2).2
                 go_wp2_with fail
                 go_ret2
                 exact⟨_,_,_,[],_,_,rfl,znh.nil _ _,by rw[HF.out,zn1 _ _ _ _ _ hrne.out HO.out hLne.out (by rw[hlast.out];exact ha)],zbd hbS hbrf⟩
    · have hkn:k=n:=by omega
      subst hkn
      go_wp2_with fail
      go_ret2
      have hr0:l.drop k= []:= List.drop_eq_nil_of_le (by have:=HN.out;omega)
      exact⟨_,_,_,_,_,_,rfl,hO,by rw[HF.out,hr0,znz],hbr⟩
end
end Go.Proofs.YtehabbnohoomjaaGreatDoor
