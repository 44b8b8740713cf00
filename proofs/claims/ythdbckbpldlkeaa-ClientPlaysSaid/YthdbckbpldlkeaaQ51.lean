/- None -/
import Derived.Test.YthdbckbpldlkeaaQ50
namespace Go.Proofs.Ythdbckbpldlkeaa
set_option linter.unusedVariables false
set_option linter.unusedSimpArgs false
set_option linter.unnecessarySimpa false
section
open Go.RowKit Go.Maps
set_option maxRecDepth 100000
set_option maxHeartbeats 16000000
def KIc (w0:World) (p m p2 k:Nat) (wr:World):Prop:= ∃ G1 G2 S T,KM w0 p m p2 G1 G2 S T wr∧zht S T∧zio S k∧zip T k
theorem zo9 (node:Int) (A:Option Addr) (n c:Nat) (L:List Op24) (w:World) (hn:n=L.length) (hL:SlK w A L) :
 Calls Try.prog 3 #[.int .i64 node,.slice A n c] w (TrueB w):= by
 have HN:=zak hn
 have HL:=zak hL
 cases hli:lightK L
 · have HLI:=zak hli
   clear hn hL hli
   go_enter Try.func3,Try.ntmps3
   go_wp2_with fail
   refine (zo4 A n c L _ HN.out HL.out).mono ?_
   rintro e w1 ⟨rfl,rfl⟩
   rw[HLI.out]
   go_wp2_with fail
   refine (zoq _).mono ?_
   rintro e w1 ⟨rfl,hb1⟩
   go_wp2_with fail
   go_ret
   exact (⟨rfl,hb1⟩:TrueB w _ _)
 have HLI:=zak hli
 clear hn hL hli
 by_cases hnode:1≤node∧node≤127
 · have HND:=zak hnode
   obtain⟨hnd1,hnd2⟩:= hnode
   go_enter Try.func3,Try.ntmps3
   go_wp2_with fail
   refine (zo4 A n c L _ HN.out HL.out).mono ?_
   rintro e w1 ⟨rfl,rfl⟩
   rw[HLI.out]
   go_wp2_with fail
   refine (zh9 node _ HND.out).mono ?_
   rintro e w1 ⟨p,m,rfl,hS1,hb1,hp1,hm1⟩
   have hpl:p < w1.heap.size:=by obtain⟨R,hB,_⟩:= hS1;exact hB.lt
   have hml:m < w1.heap.size:=by obtain⟨R,_,hm,_⟩:= hS1;exact hm.lt
   have HS1:=zak hS1
   have HB1:=zak hb1
   clear hS1 hb1
   go_wp2_with fail
   refine (zls node w1).mono ?_
   rintro e w2 ⟨nd,rfl,hS2,hnd,hb2,hz2⟩
   obtain rfl:nd=node:=hnd HND.out
   obtain⟨p2,hp2⟩:∃ p2,p2=w1.heap.size:=⟨_,rfl⟩
   have hzw:=HB1.out.size
   rw[if_pos HND.out]
   rw[← hp2] at hS2 hz2 ⊢
   have HK0:Hid (KIc w p m p2 0 w2):= zak ⟨fun _=>False,fun _=>False,cliZ nd,rcliZ nd,⟨HB1.out.trans (hb2.mono hzw),HS1.out.keep (fun q hq hl=>hb2.block q hl) (fun _ _ h=>h),hS2,⟨hp1,hm1,by omega⟩,⟨by omega,by omega,by omega⟩,fun g h=>h.elim,fun g h=>h.elim,⟨by omega,by omega,fun h=>h,fun h=>h,fun h=>h⟩,fun g h=>h.elim⟩,zhu nd HND.out,zim nd,zin nd⟩
   clear hS2 hnd hb2 hz2 hp2 HS1 HB1 hpl hml hp1 hm1 hzw
   go_wp2_with fail
   go_loopw [9,10,11,12,13,14,15,16] (fun v9 _ _ _ _ _ _ _ wr=> ∃ k:Nat,v9= .int .i64 (k:Nat)∧ k≤60∧Hid (KIc w p m p2 k wr)) (fun v9 _ _ _ _ _ _ _ _=>60 - (intOf v9).toNat)
   case atStart=>exact⟨0,rfl,Nat.zero_le _,HK0⟩
   case round=>
    clear HK0
    obtain⟨k,rfl,hk60,HK⟩:= hrel
    by_cases hlt:k < n∧k < 60
    · obtain⟨hltn,hlt60⟩:= hlt
      obtain⟨G1,G2,S,T,hk,hali,hcb,hrb⟩:= HK.out
      obtain⟨o,ho⟩:∃ o,L[k]? =some o:=⟨L[k]'(by rw[← HN.out];exact hltn),List.getElem?_eq_getElem _⟩
      obtain⟨hf100,hb2000⟩:= zo1 HLI.out hlt60 ho
      obtain⟨b,off,Ab,cb,Af,cf,hA,⟨d0,d1,d2,d3,d4,d5,d6,d7,d8⟩,hbc,hsb0,hfc,hsf0⟩:= HL.out k o ho
      have kk:∀ {q v},w.cell? q=some v→wr.cell? q=some v:=fun hc=>(hk.bel.cell (zal hc)).trans hc
      have c0:=kk d0
      have c1:=kk d1
      have c2:=kk d2
      have c3:=kk d3
      have c4:=kk d4
      have c5:=kk d5
      have c6:=kk d6
      have c7:=kk d7
      have c8:=kk d8
      have HSB:=zak (fun W (h:Below w.heap.size w W)=> hsb0.below h)
      have HSF:=zak (fun W (h:Below w.heap.size w W)=> hsf0.below h)
      have HBC:=zak hbc
      have HFC:=zak hfc
      have HK1:=zak (hk.step (zbp (Below.refl _ wr) (.cells #[.int .i64 o.kind,.int .i64 o.ix,.int .i64 o.sub,.int .i64 o.mode,.slice Ab o.b.length cb,.int .i64 o.f.id,.bool o.f.re,.slice Af o.f.data.length cf,.bool o.own] 36)))
      have HQ1:=zak (zbu wr 36 #[.int .i64 o.kind,.int .i64 o.ix,.int .i64 o.sub,.int .i64 o.mode,.slice Ab o.b.length cb,.int .i64 o.f.id,.bool o.f.re,.slice Af o.f.data.length cf,.bool o.own])
      have HGO:Hid (wr.heap.size≠p∧wr.heap.size≠m∧wr.heap.size≠p2∧ ¬ G1 wr.heap.size∧ ¬ G2 wr.heap.size):= zak (by
       obtain⟨a1,a2,a3⟩:= hk.hi
       exact⟨by omega,by omega,by omega,fun h=>by have:=(hk.l1 _ h).2;omega,fun h=>by have:=(hk.l2 _ h).2;omega⟩)
      have HALI:=zak hali
      have HCB:=zak hcb
      have HRB:=zak hrb
      have HW:=zak (hcb.clb hali (by omega))
      have HNT:Hid (1≤T.nd∧T.nd≤127):= zak (by rw[← hali.nd];exact hali.n1)
      subst hA
      clear hk hali hcb hrb HK kk d0 d1 d2 d3 d4 d5 d6 d7 d8 hbc hsb0 hfc hsf0 ho
      go_upto_block 2 with fail
      refine zcn (P:=fun W=>KM w p m p2 G1 G2 S T W∧Blk W wr.heap.size 36 #[.int .i64 o.kind,.int .i64 o.ix,.int .i64 o.sub,.int .i64 o.mode,.slice Ab o.b.length cb,.int .i64 o.f.id,.bool o.f.re,.slice Af o.f.data.length cf,.bool o.own]) (by exact⟨HK1.out,HQ1.out⟩) (fun W1 hW1=>?_)
      clear HK1 HQ1 c0 c1 c2 c3 c4 c5 c6 c7 c8
      obtain⟨hk1,hq1⟩:= hW1
      obtain⟨g0,hg0⟩:∃ g0,g0=wr.heap.size:=⟨_,rfl⟩
      rw[← hg0] at hq1 HGO ⊢
      clear hg0
      have HK1:=zak hk1
      have HQ1:=zak hq1
      have zq:=hq1.lt
      clear hk1
      go_cut [11,12,13,14,61,62,63,64,65,66,67,68,69,70,71,72,73,74,75,76,77,78,79,80,81,82,83,84,85,86,87,88,89,90,91,92,93,94,95,96,97,98,99,100,101,102,103,104,105,106,107,108,109,110,111,112,113,114,115,116,117,118,119,120,121,122,123] (fun v11 v12 _ _ _ _ _ _ _ _ _ _ _ _ _ _ _ _ _ _ _ _ _ _ _ _ _ _ _ _ _ _ _ _ _ _ _ _ _ _ _ _ _ _ _ _ _ _ _ _ _ _ _ _ _ _ _ _ _ _ _ _ _ _ _ _ _ wx=>RNd w p m p2 k v11 v12 wx)
      case first=>
       by_cases hk0:o.kind=0
       · have n0:(o.kind == 0)=true:=by simp[hk0]
         obtain⟨hq1_c0,hq1_c1,hq1_c2,hq1_c3,hq1_c4,hq1_c5,hq1_c6,hq1_c7,hq1_c8⟩:= zos hq1
         have hq1_f:=hq1.frozen
         clear hk0
         go_wp2_with fail
         refine (zdb Ab o.b.length cb o.b _ rfl (by omega) (HSB.out _ HK1.out.bel)).mono ?_
         rintro e W2 ⟨g,c',rfl,hO,hb2⟩
         have HK2:=zak (HK1.out.step hb2)
         have HOW:=zak hO
         have hgW:W1.heap.size≤g∧g < W2.heap.size:=hO.own.fin g rfl
         have HG:Hid (w.heap.size≤g∧g≠p∧g≠m∧g≠p2∧ ¬ G1 g∧ ¬ G2 g):= zak (by
          obtain⟨a1,a2,a3⟩:= HK1.out.hi
          have:=HK1.out.bel.size
          exact⟨by omega,by omega,by omega,by omega,fun h=>by have:=(HK1.out.l1 _ h).2;omega,fun h=>by have:=(HK1.out.l2 _ h).2;omega⟩)
         have HQ2:=zak (HQ1.out.below hb2 HQ1.out.lt)
         have HC':=zak hO.le
         have HLN:Hid ((o.b ++ [77]).length=o.b.length+1):= zak (by simp)
         clear hq1_c0 hq1_c1 hq1_c2 hq1_c3 hq1_c4 hq1_c5 hq1_c6 hq1_c7 hq1_c8 hq1_f
         clear hq1 hO hb2 zq
         have q2:=HQ2.out
         have zq:=q2.lt
         obtain⟨q2_c0,q2_c1,q2_c2,q2_c3,q2_c4,q2_c5,q2_c6,q2_c7,q2_c8⟩:= zos q2
         have q2_f:=q2.frozen
         go_wp2_with fail
         refine (zi5 S o.ix o.sub o.mode o.b (some ⟨g,0,none⟩) o.b.length c' _ HK2.out.cv ⟨HW.out.1,HW.out.2.1⟩ rfl (by omega) (fun W' ho=>?_)).mono ?_
         · have h2:=zle HOW.out.sl (fun ad e=>by
            injection e with e
            subst e
            exact ho.block g hgW.2 (by
             obtain⟨b0,b1,b2,b3,b4,b5⟩:= HG.out
             rintro (h | h | h)
             · exact b1 h
             · exact b2 h
             · exact b4 h))
           have h3:=h2.take o.b.length
           rw[List.map_append,List.take_left' (by simp)] at h3
           exact h3
         rintro e W3 hR
         have ho3:=hR.only_
         obtain⟨N,As,ns,cs,ds,rfl,hO1,hN,hk3⟩:= HK2.out.prog hR
         have HR3:=zak (And.intro hO1 hN)
         have HK3:=zak hk3
         have HZ3:=zak ho3.size
         have HQ3:=zak (show Blk W3 g0 36 #[.int .i64 o.kind,.int .i64 o.ix,.int .i64 o.sub,.int .i64 o.mode,.slice Ab o.b.length cb,.int .i64 o.f.id,.bool o.f.re,.slice Af o.f.data.length cf,.bool o.own] from (ho3.block g0 HQ2.out.lt (by
          obtain⟨b1,b2,b3,b4,b5⟩:= HGO.out
          rintro (h | h | h)
          · exact b1 h
          · exact b2 h
          · exact b4 h)).trans HQ2.out)
         have HOW3:Hid (zb7 W3 0 (some ⟨g,0,none⟩) (o.b.length+1) c' (o.b ++ [77])):= zak (zb7.mono ⟨HOW.out.hn,HOW.out.own.keep fun q _ hlt hA=>by
          injection hA with hA
          injection hA with hA
          subst hA
          exact ho3.block g hgW.2 (by
           obtain⟨b0,b1,b2,b3,b4,b5⟩:= HG.out
           rintro (h | h | h)
           · exact b1 h
           · exact b2 h
           · exact b4 h)⟩ (Nat.zero_le _))
         clear q2_c0 q2_c1 q2_c2 q2_c3 q2_c4 q2_c5 q2_c6 q2_c7 q2_c8 q2_f
         clear hR ho3 hO1 hN hk3 q2 zq HQ2
         have q3:=HQ3.out
         have zq:=q3.lt
         obtain⟨q3_c0,q3_c1,q3_c2,q3_c3,q3_c4,q3_c5,q3_c6,q3_c7,q3_c8⟩:= zos q3
         have q3_f:=q3.frozen
         go_wp2_with fail
         refine (zl8 T o.ix o.sub o.mode o.b Ab o.b.length cb _ HK3.out.rv HNT.out rfl (by omega) (fun W' ho=>HSB.out W' (zce ho HK3.out.bel (fun i hi=>by rw[hi];exact HK3.out.lo.2.2)))).mono ?_
         rintro e W4 hR
         obtain⟨Bs,nb,cb2,es,rfl,hO2,ho4,hk4⟩:= HK3.out.refc hR
         have HR4:=zak (And.intro hO2 (And.intro ho4 hk4))
         have HOW4:Hid (zb7 W4 0 (some ⟨g,0,none⟩) (o.b.length+1) c' (o.b ++ [77])):= zak ⟨HOW3.out.hn,HOW3.out.own.keep fun q _ hlt hA=>by
          injection hA with hA
          injection hA with hA
          subst hA
          exact ho4.block g hlt HG.out.2.2.2.1⟩
         have HQ4:=zak (show Blk W4 g0 36 #[.int .i64 o.kind,.int .i64 o.ix,.int .i64 o.sub,.int .i64 o.mode,.slice Ab o.b.length cb,.int .i64 o.f.id,.bool o.f.re,.slice Af o.f.data.length cf,.bool o.own] from (ho4.block g0 HQ3.out.lt HGO.out.2.2.1).trans HQ3.out)
         clear q3_c0 q3_c1 q3_c2 q3_c3 q3_c4 q3_c5 q3_c6 q3_c7 q3_c8 q3_f
         clear hR hO2 ho4 hk4 q3 zq HQ3 HOW3
         have q4:=HQ4.out
         have zq:=q4.lt
         obtain⟨q4_c0,q4_c1,q4_c2,q4_c3,q4_c4,q4_c5,q4_c6,q4_c7,q4_c8⟩:= zos q4
         have q4_f:=q4.frozen
         go_wp2_with fail
         refine (zdc g Ab o.b.length c' cb o.b _ rfl (by omega) HC'.out HOW4.out.sl (HSB.out _ HR4.out.2.2.bel)).mono ?_
         rintro e W5 ⟨rfl,hw5⟩
         subst hw5
         have hsh:Own W4 0 5 1 (some ⟨g,0,none⟩) o.b.length c' (o.b.map bv):= by
          have h3:=HOW4.out.own.shrink (m:=o.b.length) (by omega)
          rw[List.map_append,List.take_left' (by simp)] at h3
          exact h3
         have HSH:=zak hsh
         clear hsh
         go_wp2_with fail
         refine (zdd (some ⟨g,0,none⟩) o.b.length c' 0 o.b _ (by omega) HSH.out (Nat.zero_le _)).mono ?_
         rintro e W6 ⟨rfl,hg6⟩
         have HG6:=zak hg6
         clear q4_c0 q4_c1 q4_c2 q4_c3 q4_c4 q4_c5 q4_c6 q4_c7 q4_c8 q4_f
         clear hg6 q4 zq HQ4 HSH HOW4
         go_wp2_with fail
         go_meet
         obtain⟨ha,hl⟩:= zhw HALI.out o.ix o.sub o.b o.mode
         exact zo8 (F:=fun q=>q=g) HR3.out.1 HR3.out.2 HK2.out HZ3.out HR4.out.1 HR4.out.2.1 HR4.out.2.2 (zcd.of_grown HG6.out (fun q hq=>by simp[Value.ownBlock] at hq;exact hq.symm)) (fun q hq _=>by subst hq;exact⟨hgW.2,HG.out⟩) hl (zov _ _ _ _ _) ha (ziq HCB.out _ _ _ _ hb2000) (zis HRB.out _ _ _ _ hb2000)
       by_cases hk1:o.kind=1
       · have n0:(o.kind == 0)=false:=by simp[hk0]
         have n1:(o.kind == 1)=true:=by simp[hk1]
         obtain⟨hq1_c0,hq1_c1,hq1_c2,hq1_c3,hq1_c4,hq1_c5,hq1_c6,hq1_c7,hq1_c8⟩:= zos hq1
         have hq1_f:=hq1.frozen
         clear hk0 hk1
         go_wp2_with fail
         refine (zi6 S o.ix o.sub o.mode _ HK1.out.cv ⟨HW.out.1,HW.out.2.1⟩).mono ?_
         rintro e W3 hR
         have ho3:=hR.only_
         obtain⟨N,As,ns,cs,ds,rfl,hO1,hN,hk3⟩:= HK1.out.prog hR
         have HR3:=zak (And.intro hO1 hN)
         have HK3:=zak hk3
         have HZ3:=zak ho3.size
         have HQ3:=zak (show Blk W3 g0 36 #[.int .i64 o.kind,.int .i64 o.ix,.int .i64 o.sub,.int .i64 o.mode,.slice Ab o.b.length cb,.int .i64 o.f.id,.bool o.f.re,.slice Af o.f.data.length cf,.bool o.own] from (ho3.block g0 HQ1.out.lt (by
          obtain⟨b1,b2,b3,b4,b5⟩:= HGO.out
          rintro (h | h | h)
          · exact b1 h
          · exact b2 h
          · exact b4 h)).trans HQ1.out)
         clear hq1_c0 hq1_c1 hq1_c2 hq1_c3 hq1_c4 hq1_c5 hq1_c6 hq1_c7 hq1_c8 hq1_f
         clear hR ho3 hO1 hN hk3 hq1 zq
         have q3:=HQ3.out
         have zq:=q3.lt
         obtain⟨q3_c0,q3_c1,q3_c2,q3_c3,q3_c4,q3_c5,q3_c6,q3_c7,q3_c8⟩:= zos q3
         have q3_f:=q3.frozen
         go_wp2_with fail
         refine (zl9 T o.ix o.sub o.mode _ HK3.out.rv HNT.out).mono ?_
         rintro e W4 hR
         obtain⟨Bs,nb,cb2,es,rfl,hO2,ho4,hk4⟩:= HK3.out.refc hR
         have HR4:=zak (And.intro hO2 (And.intro ho4 hk4))
         clear q3_c0 q3_c1 q3_c2 q3_c3 q3_c4 q3_c5 q3_c6 q3_c7 q3_c8 q3_f
         clear hR hO2 ho4 hk4 q3 zq HQ3
         go_wp2_with fail
         go_meet
         obtain⟨ha,hl⟩:= zhx HALI.out o.ix o.sub o.mode
         exact zo8 (F:=fun _=>False) HR3.out.1 HR3.out.2 HK1.out HZ3.out HR4.out.1 HR4.out.2.1 HR4.out.2.2 (zcd.refl _ _) (fun q hq _=>hq.elim) hl (zow _ _ _ _) ha (zir HCB.out _ _ _) (zit HRB.out _ _ _)
       · have n0:(o.kind == 0)=false:=by simp[hk0]
         have n1:(o.kind == 1)=false:=by simp[hk1]
         clear hk0 hk1
         rcases Bool.eq_false_or_eq_true o.own with how | how
         · skip
           have hq2:Blk W1 g0 36 #[.int .i64 o.kind,.int .i64 o.ix,.int .i64 o.sub,.int .i64 o.mode,.slice Ab o.b.length cb,.int .i64 o.f.id,.bool o.f.re,.slice Af o.f.data.length cf,.bool o.own]:= hq1
           rw[how] at hq2
           obtain⟨hq2_c0,hq2_c1,hq2_c2,hq2_c3,hq2_c4,hq2_c5,hq2_c6,hq2_c7,hq2_c8⟩:= zos hq2
           have hq2_f:=hq2.frozen
           have HX2:=zak (zbu W1 34 #[.int .i64 (1408+nd),.bool false,.slice Af o.f.data.length cf])
           have HK2:=zak (HK1.out.step (zbp (Below.refl _ W1) (.cells #[.int .i64 (1408+nd),.bool false,.slice Af o.f.data.length cf] 34)))
           have HQ2:=zak (HQ1.out.alloc (.cells #[.int .i64 (1408+nd),.bool false,.slice Af o.f.data.length cf] 34))
           have HGX:Hid (W1.heap.size≠p∧W1.heap.size≠m∧W1.heap.size≠p2∧ ¬ G1 W1.heap.size∧ ¬ G2 W1.heap.size):= zak (by
            obtain⟨a1,a2,a3⟩:= HK1.out.hi
            exact⟨by omega,by omega,by omega,fun h=>by have:=(HK1.out.l1 _ h).2;omega,fun h=>by have:=(HK1.out.l2 _ h).2;omega⟩)
           clear hq1 how
           go_upto_region 18 with fail
           refine zcn (P:=fun W=>KM w p m p2 G1 G2 S T W∧Blk W W1.heap.size 34 #[.int .i64 (1408+nd),.bool false,.slice Af o.f.data.length cf]) (by exact⟨HK2.out,HX2.out⟩) (fun W2 hW2=>?_)
           clear hq2_c0 hq2_c1 hq2_c2 hq2_c3 hq2_c4 hq2_c5 hq2_c6 hq2_c7 hq2_c8 hq2_f
           clear HK2 HX2 HQ2 hq2 zq HQ1
           obtain⟨hk2,hx2⟩:= hW2
           obtain⟨gx,hgx⟩:∃ gx,gx=W1.heap.size:=⟨_,rfl⟩
           rw[← hgx] at hx2 HGX ⊢
           clear hgx
           have HK2:=zak hk2
           have HX2:=zak hx2
           have zx:=hx2.lt
           clear hk2 HK1
           obtain⟨hx2_c0,hx2_c1,hx2_c2⟩:= zbr hx2
           have hx2_f:=hx2.frozen
           go_wp2_with fail
           refine (zh5 S ⟨1408+nd,false,o.f.data⟩ Af o.f.data.length cf _ HK2.out.cv ⟨HW.out.1,HW.out.2.1⟩ HW.out.2.2 rfl HFC.out (HSF.out _ HK2.out.bel)).mono ?_
           rintro e W3 hR
           have ho3:=hR.only_
           obtain⟨N,As,ns,cs,ds,rfl,hO1,hN,hk3⟩:= HK2.out.prog hR
           have HR3:=zak (And.intro hO1 hN)
           have HK3:=zak hk3
           have HZ3:=zak ho3.size
           have HX3:=zak (show Blk W3 gx 34 #[.int .i64 (1408+nd),.bool false,.slice Af o.f.data.length cf] from (ho3.block gx HX2.out.lt (by
            obtain⟨b1,b2,b3,b4,b5⟩:= HGX.out
            rintro (h | h | h)
            · exact b1 h
            · exact b2 h
            · exact b4 h)).trans HX2.out)
           clear hx2_c0 hx2_c1 hx2_c2 hx2_f
           clear hR ho3 hO1 hN hk3 hx2 zx
           have q3:=HX3.out
           have zq:=q3.lt
           obtain⟨q3_c0,q3_c1,q3_c2⟩:= zbr q3
           have q3_f:=q3.frozen
           go_wp2_with fail
           refine (zn2 T ⟨1408+nd,false,o.f.data⟩ Af o.f.data.length cf k _ HK3.out.rv HNT.out HRB.out (by omega) rfl HFC.out (HSF.out _ HK3.out.bel) (fun he h1=>by
            have hks:rKs T o.f.data=cKs S o.f.data:=by unfold rKs cKs;rw[HALI.out.wk]
            dsimp only at he h1 ⊢
            rw[hks] at he h1 ⊢
            exact zh4 S _ he h1)).mono ?_
           rintro e W4 hR
           obtain⟨Bs,nb,cb2,es,rfl,hO2,ho4,hk4⟩:= HK3.out.refc hR
           have HR4:=zak (And.intro hO2 (And.intro ho4 hk4))
           clear q3_c0 q3_c1 q3_c2 q3_f
           clear hR hO2 ho4 hk4 q3 zq HX3
           go_wp2_with fail
           go_meet
           obtain⟨ha,hl⟩:= zh2 HALI.out ⟨1408+nd,false,o.f.data⟩
           obtain⟨hc',hr'⟩:= zi4 HALI.out HCB.out HRB.out ⟨1408+nd,false,o.f.data⟩
           exact zo8 (F:=fun _=>False) HR3.out.1 HR3.out.2 HK2.out HZ3.out HR4.out.1 HR4.out.2.1 HR4.out.2.2 (zcd.refl _ _) (fun q hq _=>hq.elim) hl (zo0 _ _) ha hc' hr'
         · skip
           have hq2:Blk W1 g0 36 #[.int .i64 o.kind,.int .i64 o.ix,.int .i64 o.sub,.int .i64 o.mode,.slice Ab o.b.length cb,.int .i64 o.f.id,.bool o.f.re,.slice Af o.f.data.length cf,.bool o.own]:= hq1
           rw[how] at hq2
           obtain⟨hq2_c0,hq2_c1,hq2_c2,hq2_c3,hq2_c4,hq2_c5,hq2_c6,hq2_c7,hq2_c8⟩:= zos hq2
           have hq2_f:=hq2.frozen
           have HX2:=zak (zbu W1 34 #[.int .i64 o.f.id,.bool o.f.re,.slice Af o.f.data.length cf])
           have HK2:=zak (HK1.out.step (zbp (Below.refl _ W1) (.cells #[.int .i64 o.f.id,.bool o.f.re,.slice Af o.f.data.length cf] 34)))
           have HQ2:=zak (HQ1.out.alloc (.cells #[.int .i64 o.f.id,.bool o.f.re,.slice Af o.f.data.length cf] 34))
           have HGX:Hid (W1.heap.size≠p∧W1.heap.size≠m∧W1.heap.size≠p2∧ ¬ G1 W1.heap.size∧ ¬ G2 W1.heap.size):= zak (by
            obtain⟨a1,a2,a3⟩:= HK1.out.hi
            exact⟨by omega,by omega,by omega,fun h=>by have:=(HK1.out.l1 _ h).2;omega,fun h=>by have:=(HK1.out.l2 _ h).2;omega⟩)
           clear hq1 how
           go_upto_region 18 with fail
           refine zcn (P:=fun W=>KM w p m p2 G1 G2 S T W∧Blk W W1.heap.size 34 #[.int .i64 o.f.id,.bool o.f.re,.slice Af o.f.data.length cf]) (by exact⟨HK2.out,HX2.out⟩) (fun W2 hW2=>?_)
           clear hq2_c0 hq2_c1 hq2_c2 hq2_c3 hq2_c4 hq2_c5 hq2_c6 hq2_c7 hq2_c8 hq2_f
           clear HK2 HX2 HQ2 hq2 zq HQ1
           obtain⟨hk2,hx2⟩:= hW2
           obtain⟨gx,hgx⟩:∃ gx,gx=W1.heap.size:=⟨_,rfl⟩
           rw[← hgx] at hx2 HGX ⊢
           clear hgx
           have HK2:=zak hk2
           have HX2:=zak hx2
           have zx:=hx2.lt
           clear hk2 HK1
           obtain⟨hx2_c0,hx2_c1,hx2_c2⟩:= zbr hx2
           have hx2_f:=hx2.frozen
           go_wp2_with fail
           refine (zh5 S ⟨o.f.id,o.f.re,o.f.data⟩ Af o.f.data.length cf _ HK2.out.cv ⟨HW.out.1,HW.out.2.1⟩ HW.out.2.2 rfl HFC.out (HSF.out _ HK2.out.bel)).mono ?_
           rintro e W3 hR
           have ho3:=hR.only_
           obtain⟨N,As,ns,cs,ds,rfl,hO1,hN,hk3⟩:= HK2.out.prog hR
           have HR3:=zak (And.intro hO1 hN)
           have HK3:=zak hk3
           have HZ3:=zak ho3.size
           have HX3:=zak (show Blk W3 gx 34 #[.int .i64 o.f.id,.bool o.f.re,.slice Af o.f.data.length cf] from (ho3.block gx HX2.out.lt (by
            obtain⟨b1,b2,b3,b4,b5⟩:= HGX.out
            rintro (h | h | h)
            · exact b1 h
            · exact b2 h
            · exact b4 h)).trans HX2.out)
           clear hx2_c0 hx2_c1 hx2_c2 hx2_f
           clear hR ho3 hO1 hN hk3 hx2 zx
           have q3:=HX3.out
           have zq:=q3.lt
           obtain⟨q3_c0,q3_c1,q3_c2⟩:= zbr q3
           have q3_f:=q3.frozen
           go_wp2_with fail
           refine (zn2 T ⟨o.f.id,o.f.re,o.f.data⟩ Af o.f.data.length cf k _ HK3.out.rv HNT.out HRB.out (by omega) rfl HFC.out (HSF.out _ HK3.out.bel) (fun he h1=>by
            have hks:rKs T o.f.data=cKs S o.f.data:=by unfold rKs cKs;rw[HALI.out.wk]
            dsimp only at he h1 ⊢
            rw[hks] at he h1 ⊢
            exact zh4 S _ he h1)).mono ?_
           rintro e W4 hR
           obtain⟨Bs,nb,cb2,es,rfl,hO2,ho4,hk4⟩:= HK3.out.refc hR
           have HR4:=zak (And.intro hO2 (And.intro ho4 hk4))
           clear q3_c0 q3_c1 q3_c2 q3_f
           clear hR hO2 ho4 hk4 q3 zq HX3
           go_wp2_with fail
           go_meet
           obtain⟨ha,hl⟩:= zh2 HALI.out ⟨o.f.id,o.f.re,o.f.data⟩
           obtain⟨hc',hr'⟩:= zi4 HALI.out HCB.out HRB.out ⟨o.f.id,o.f.re,o.f.data⟩
           exact zo8 (F:=fun _=>False) HR3.out.1 HR3.out.2 HK2.out HZ3.out HR4.out.1 HR4.out.2.1 HR4.out.2.2 (zcd.refl _ _) (fun q hq _=>hq.elim) hl (zo0 _ _) ha hc' hr'
      case rest=>
       clear HK1 HQ1 HGO HSB HSF HBC HFC HALI HCB HRB HW HNT zq hq1
       obtain⟨As,ns,cs,ds,Bs,nb,cb2,Lf,FA,G1',G2',S',T',rfl,rfl,hO,hnb,hSl,hk,hFA,hsm,hali,hcb,hrb⟩:= hcut
       have HO:=zak hO
       have HSL:=zak hSl
       have HK:=zak hk
       have HFA:=zak hFA
       have HSM:=zak hsm
       have HALI:=zak hali
       have HBD:=zak (And.intro hcb hrb)
       have HNB:=zak hnb
       have HNS:Hid (ns=Lf.length):= zak hO.1.hn
       have hnsm:ns≤9223372036854775807:=by
        have h1:=hO.1.own.le
        have h2:=hO.1.own.capLe
        unfold maxLen at h2
        omega
       obtain⟨Ad,nd',cd',hcd,hnd',hsd⟩:= zo5 hk.cv
       have hdl:S'.data.length≤1000000:=by have:=hcb.dl;omega
       have HDL:=zak hdl
       have HDN:=zak hnd'
       have HDS:=zak hsd
       have hndl:nd'≤1000000:=by omega
       clear hO hnb hSl hk hFA hsm hali hcb hrb hnd' hsd hdl
       go_wp2_with fail
       refine (zc0 Ad nd' cd' S'.data _ hcd HDN.out hndl HDS.out).mono ?_
       rintro e w6 ⟨A6,c6,rfl,hO6,hb6⟩
       have hk6:=HK.out.step hb6
       have HK6:=zak hk6
       have HO6:=zak hO6
       have HOF:=zak (HO.out.below hb6)
       have HSLa:=zak (zl1 HOF.out)
       have HSLb:=zak (HSL.out.below hb6)
       have HZ6:=zak hb6.size
       obtain⟨R2,hB2,_,hdR⟩:= hk6.rv
       have HN2:=zak hdR.1
       have e1:w6.cell? ⟨p2,1,none⟩=some (.int .i64 S'.wk):= by rw[HALI.out.wk];exact hB2.cell 1 rfl
       have e5:w6.cell? ⟨p2,5,none⟩=some (.int .u32 (S'.code:Nat)):= by rw[HALI.out.code];exact hB2.cell 5 rfl
       have e6:w6.cell? ⟨p2,6,none⟩=some (.slice R2.A2 R2.n2 R2.c2):= hB2.cell 6 rfl
       have z2:=hB2.lt
       have hs1:=fun (W:World) (h:Below w6.heap.size w6 W)=> zca (w:=W) c6 (show nd'=S'.data.length from HDN.out) (hO6.sl.below h)
       have hs2:=fun (W:World) (h:Below w6.heap.size w6 W)=> zca (w:=W) R2.c2 (show R2.n2=S'.data.length by rw[HALI.out.data];exact HN2.out) (show Sl W R2.A2 (S'.data.map bv) by rw[HALI.out.data];exact hdR.2.2.1.below h)
       obtain⟨bz,hbz⟩:∃ bz:Bool,bz=decide (S'.wk≠0):= ⟨_,rfl⟩
       have HBZ:=zak hbz
       have hbz2:(S'.wk != 0)=bz:=by
        rw[hbz]
        by_cases hx:S'.wk=0
        · simp[hx]
        · simp[hx]
       clear hcd hb6 hk6 hO6 hB2 hdR hbz
       go_upto_region 31 with fail
       refine wp_region_held_drew (S:=(fun w'=>(∀ qA:Addr,qA.block < (w6).heap.size→w'.cell? qA=(w6).cell? qA)∧ Below (w6).heap.size (w6) w')) (by kernel_rfl) ?hS1 (fun hHeld=>?rest1)
       case hS1=>((try dsimp only);(((try go_split_ands);refine zbn ?_;all_goals exact bl)))
       case' rest1=>skip
       iterate 2 (refine tkN ?_;try simp only[PqL,Act.put])
       refine wpAnyH_ready (rs:= [2]) (by kernel_rfl) (by simp) ?_
       refine AllReadyH.cons (o:=_) rfl (fun K hK=>?_) .nil
       go_simp
       refine (zl3 Lf As Bs ns cs nb cb2 _ HNS.out HNB.out hnsm (HSLa.out.below (Below.drew (Below.refl _ _))) (HSLb.out.below (Below.drew (Below.refl _ _)))).mono ?_
       rintro e w7 ⟨rfl,hb7⟩
       replace hb7:Below w6.heap.size w6 w7:=⟨hb7.os,hb7.tape,hb7.output,hb7.size,hb7.block⟩
       obtain⟨R1,hC7,_,_⟩:= (HK6.out.step hb7).cv.cm
       have HC7:=zak hC7
       have HCD7:=zak (zo6 (HK6.out.step hb7).cv)
       clear hC7
       refine hK.out _ _ ?hS6 (fun hHeld=>?rest6)
       case hS6=>((try dsimp only);(((try go_split_ands);refine zbn ?_;all_goals exact bl)))
       case' rest6=>(clear hK K;try simp only[PqL,Act.put])
       refine tkH 3 ?_
       try simp only[PqL,Act.put]
       refine tkH 4 ?_
       try simp only[PqL,Act.put]
       refine tkH 5 ?_
       try simp only[PqL,Act.put]
       refine tkH 7 ?_
       try simp only[PqL,Act.put]
       refine tkH 8 ?_
       try simp only[PqL,Act.put]
       refine tkH 9 ?_
       try simp only[PqL,Act.put]
       refine tkH 10 ?_
       try simp only[PqL,Act.put]
       refine tkH 11 ?_
       try simp only[PqL,Act.put]
       refine wpAnyH_ready (rs:= [6]) (by kernel_rfl) (by simp) ?_
       refine AllReadyH.cons (o:=_) rfl (fun K hK=>?_) .nil
       go_simp
       refine (zcy _ HC7.out rfl).mono ?_
       rintro e w8 ⟨rfl,hw8⟩
       subst hw8
       rw[← HBZ.out]
       refine hK.out _ _ ?hS17 (fun hHeld=>?rest17)
       case hS17=>((try dsimp only);(((try go_split_ands);refine zbn ?_;all_goals exact bl)))
       case' rest17=>(clear hK K;try simp only[PqL,Act.put])
       refine tkH 12 ?_
       try simp only[PqL,Act.put]
       refine tkH 13 ?_
       try simp only[PqL,Act.put]
       refine tkH 14 ?_
       try simp only[PqL,Act.put]
       refine tkH 15 ?_
       try simp only[PqL,Act.put]
       refine tkH 17 ?_
       try simp only[PqL,Act.put]
       refine tkH 18 ?_
       try simp only[PqL,Act.put]
       refine tkH 19 ?_
       try simp only[PqL,Act.put]
       refine tkH 20 ?_
       try simp only[PqL,Act.put]
       refine wpAnyH_ready (rs:= [16]) (by kernel_rfl) (by simp) ?_
       refine AllReadyH.cons (o:=_) rfl (fun K hK=>?_) .nil
       go_simp
       refine (zcz S'.code _ HCD7.out).mono ?_
       rintro e w8 ⟨rfl,hw8⟩
       subst hw8
       refine hK.out _ _ ?hS28 (fun hHeld=>?rest28)
       case hS28=>((try dsimp only);(((try go_split_ands);refine zbn ?_;all_goals exact bl)))
       case' rest28=>(clear hK K;try simp only[PqL,Act.put])
       refine tkH 21 ?_
       try simp only[PqL,Act.put]
       refine tkH 22 ?_
       try simp only[PqL,Act.put]
       refine tkH 23 ?_
       try simp only[PqL,Act.put]
       refine tkH 24 ?_
       try simp only[PqL,Act.put]
       refine tkH 26 ?_
       try simp only[PqL,Act.put]
       refine tkH 27 ?_
       try simp only[PqL,Act.put]
       refine tkH 28 ?_
       try simp only[PqL,Act.put]
       refine tkH 29 ?_
       try simp only[PqL,Act.put]
       refine tkH 25 ?_
       try simp only[PqL,Act.put]
       refine tkH 30 ?_
       try simp only[PqL,Act.put]
       refine tkH 31 ?_
       try simp only[PqL,Act.put]
       refine tkH 32 ?_
       try simp only[PqL,Act.put]
       refine wpAnyH_done (by kernel_rfl) ?_ _
       have hEnd:=hHeld.2
       repeat (clear hHeld)
       go_upto_region 33 with fail
       refine zcn (P:=fun W=>Below w6.heap.size w6 W) hEnd (fun W7 h7=>?_)
       have HK7:=zak (HK6.out.step h7)
       have HO7:=zak (HO6.out.below h7)
       have HOF7:=zak (HOF.out.below h7)
       have HWC:Hid (wc.heap.size≤W7.heap.size):= zak (Nat.le_trans HZ6.out h7.size)
       clear hEnd h7 hb7 e1 e5 e6 z2 hs1 hs2 hbz2 HK6 HO6 HOF HSLa HSLb HC7 HCD7
       go_wp2_with fail
       refine (zdd A6 nd' c6 wc.heap.size S'.data _ (by omega) HO7.out.own HWC.out).mono ?_
       rintro e w8 ⟨rfl,hg8⟩
       have ho8:zcd (fun q=>wc.heap.size≤q) W7 w8:=zcd.of_grown hg8 (fun q hq=>by
        have hA:=zgb HO7.out.own hq
        exact (HO7.out.own.fin q hA).1)
       have HK8:=zak (HK7.out.far ho8 (fun q hq hl=>by
        have hq':wc.heap.size≤q:=hq
        obtain⟨a1,a2,a3⟩:= HK.out.hi
        have:=HK.out.bel.size
        exact⟨by omega,by omega,by omega,by omega,fun h=>by have:=(HK.out.l1 _ h).2;omega,fun h=>by have:=(HK.out.l2 _ h).2;omega⟩))
       have HOF8:Hid (zfe w8 FA As ns cs Lf ds):= zak ⟨HOF7.out.1.keep (fun q hq hl=>ho8.block q hl (fun h=>by have h1:wc.heap.size≤q:=h;have:=(HFA.out q hq).2.1;omega)),HOF7.out.2⟩
       clear hg8 ho8
       go_wp2_with fail
       go_loopw [16] (fun v16 wz=> ∃ j:Nat,v16= .int .i64 (j:Nat)∧ j≤ns∧Hid (zo7 As ns cs Lf ds FA w8 j wz)) (fun v16 _=>ns - (intOf v16).toNat)
       case atStart=>exact⟨0,rfl,Nat.zero_le _,zak (zo7.start HOF8.out)⟩
       case round=>
        obtain⟨j,rfl,hj,HSP⟩:= hrel
        by_cases hjl:j < ns
        · obtain⟨f,hf⟩:∃ f,Lf[j]? =some f:=⟨Lf[j]'(by rw[← HNS.out];exact hjl),List.getElem?_eq_getElem _⟩
          have hf8:=HSM.out f (List.mem_of_getElem? hf)
          obtain⟨ga,d,hAa,zga,hdd,hcc,hOd⟩:= HSP.out.at_ hf
          subst hAa
          have HF:=zak (And.intro hf hdd)
          have HOD:=zak hOd
          clear hf hdd hOd
          go_wp2_with fail
          refine (zdd d.1 f.data.length d.2 0 f.data _ (by omega) HOD.out.own (Nat.zero_le _)).mono ?_
          rintro e w9 ⟨rfl,hg9⟩
          have HG9:=zak hg9
          clear hg9
          go_wp2_with fail
          go_roundw
          case rel=>exact⟨j+1,by go_num,by omega,zak (HSP.out.step HF.out.1 HF.out.2 HG9.out)⟩
          case measure=>simp[intOf];omega
        · have HKE:=zak (HK8.out.far HSP.out.2.2.2 (fun q hq _=>by
           obtain⟨b1,b2,b3,b4,b5,b6,b7⟩:= HFA.out q hq
           exact⟨b1,b3,b4,b5,b6,b7⟩))
          go_wp2_with fail
          go_roundw
          case rel=>exact⟨k+1,by go_num,by omega,zak ⟨_,_,S',T',HKE.out,HALI.out,HBD.out.1,HBD.out.2⟩⟩
          case measure=>simp[intOf];omega
    · have HKE:=zak (show Below w.heap.size w wr by obtain⟨G1,G2,S,T,hk,_⟩:= HK.out;exact hk.bel)
      by_cases hkn:k < n
      · have hk6: ¬ k < 60:=fun h=>hlt ⟨hkn,h⟩
        clear hlt
        go_wp2_with fail
        refine (zoq _).mono ?_
        rintro e w1 ⟨rfl,hb1⟩
        go_wp2_with fail
        go_ret
        exact (⟨rfl,zbo hb1 HKE.out⟩:TrueB w _ _)
      · clear hlt
        go_wp2_with fail
        refine (zoq _).mono ?_
        rintro e w1 ⟨rfl,hb1⟩
        go_wp2_with fail
        go_ret
        exact (⟨rfl,zbo hb1 HKE.out⟩:TrueB w _ _)
 · have HND:=zak hnode
   go_enter Try.func3,Try.ntmps3
   go_wp2_with fail
   refine (zo4 A n c L _ HN.out HL.out).mono ?_
   rintro e w1 ⟨rfl,rfl⟩
   rw[HLI.out]
   go_wp2_with fail
   refine (zia node _ HND.out).mono ?_
   rintro e w1 ⟨rfl,hb1⟩
   go_wp2_with fail
   refine (zls node w1).mono ?_
   rintro e w2 ⟨nd,rfl,hS2,hnd,hb2,hz2⟩
   rw[if_neg HND.out]
   have HB2:=zak (zbo hb2 hb1)
   clear hnode hS2 hnd hb2 hz2 hb1
   go_wp2_with fail
   go_loopw [9,10,11,12,13,14,15,16] (fun v9 _ _ _ _ _ _ _ wr=>v9= .int .i64 0∧Hid (Below w.heap.size w wr)) (fun _ _ _ _ _ _ _ _ _=>0)
   case atStart=>exact⟨rfl,HB2⟩
   case round=>
    clear HB2
    obtain⟨rfl,HB⟩:= hrel
    by_cases hn0:0 < n
    · go_wp2_with fail
      refine (zoq _).mono ?_
      rintro e w3 ⟨rfl,hb3⟩
      go_wp2_with fail
      go_ret
      exact (⟨rfl,zbo hb3 HB.out⟩:TrueB w _ _)
    · obtain rfl:n=0:=by omega
      go_wp2_with fail
      refine (zoq _).mono ?_
      rintro e w3 ⟨rfl,hb3⟩
      go_wp2_with fail
      go_ret
      exact (⟨rfl,zbo hb3 HB.out⟩:TrueB w _ _)
end
end Go.Proofs.Ythdbckbpldlkeaa
