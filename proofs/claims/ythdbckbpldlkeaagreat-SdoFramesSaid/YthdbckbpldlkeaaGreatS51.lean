/- None -/
import Derived.Test.YthdbckbpldlkeaaGreatS50
import Derived.RegionCalls
namespace Go.Proofs.YthdbckbpldlkeaaGreat
set_option linter.unusedVariables false
set_option linter.unusedSimpArgs false
set_option linter.unnecessarySimpa false
section
open Go.RowKit Go.Maps
set_option maxRecDepth 100000
set_option maxHeartbeats 16000000
theorem zs5 (A:Option Addr) (n c:Nat) (L:List Ent) (A2:Option Addr) (m c2:Nat) (Q:List Op23) (w:World) (hn:n=L.length) (hL:SlE w A L) (hm:m=Q.length) (hQ:SlQ w A2 Q) :
 Calls Tryz.prog 6 #[.slice A n c,.slice A2 m c2] w (TrueB w):= by
 have HN:=zak hn
 have HL:=zak hL
 have HM:=zak hm
 have HQ:=zak hQ
 have HLT:=zak (zsp A2 m c2 Q w hm hQ)
 cases hli:lightL L
 · have HLI:=zak hli
   clear hn hL hli hm hQ
   go_enter Tryz.func6,Tryz.ntmps6
   go_wp2_with fail
   refine (zpu A n c L _ HN.out HL.out).mono ?_
   rintro e w1 ⟨rfl,rfl⟩
   rw[HLI.out]
   go_wp2_with fail
   refine (zri _).mono ?_
   rintro e wz ⟨rfl,hbz⟩
   go_wp2_with fail
   go_ret
   exact (⟨rfl,hbz⟩:TrueB w _ _)
 have HLI:=zak hli
 have HFT:=zak (zps hli)
 have h200:n≤200:=by rw[hn];exact zpt hli
 have HLL:Hid (L.length≤1000):= zak (by rw[← hn];omega)
 clear hn hL hli hm hQ
 go_enter Tryz.func6,Tryz.ntmps6
 go_wp2_with fail
 refine (zpu A n c L _ HN.out HL.out).mono ?_
 rintro e w1 ⟨rfl,rfl⟩
 rw[HLI.out]
 go_wp2_with fail
 refine HLT.out.mono ?_
 rintro e w1 ⟨x,rfl,rfl,hx⟩
 have HX:=zak hx
 clear hx
 cases x
 · go_wp2_with fail
   refine (zri _).mono ?_
   rintro e wz ⟨rfl,hbz⟩
   go_wp2_with fail
   go_ret
   exact (⟨rfl,hbz⟩:TrueB w _ _)
 have HX1:=zak (HX.out rfl)
 clear HX
 go_wp2_with fail
 refine (zqj A n c L _ HN.out HL.out HFT.out).mono ?_
 rintro e w2 ⟨v,er,at_,rfl,hnp,h2,h3,hb2⟩
 have HB2:=zak hb2
 by_cases her:er=0
 · subst her
   obtain⟨pd,gl,n',cl,Av,cv,ds,es,rfl,hn',hD⟩:= h3 rfl
   have HS:Hid (SortedE L):= zak (zsw hnp)
   have HVP:Hid (ValsP L (L.map Ent.df)):= zak (zpw (zsx hnp))
   have HD:=zak hD
   have HN':=zak hn'
   clear h2 h3 hnp hb2 hD hn'
   go_wp2_with fail
   refine (zqi (N:=w.heap.size) HN'.out HD.out HS.out HLL.out HVP.out 9 ⟨by omega,by omega⟩ HB2.out.size).mono ?_
   rintro e w3 ⟨p,ps,pb,rfl,hK,hb3⟩
   have HK0:Hid (SKI w p ps pb pd L (L.map Ent.df) w3):= zak ⟨_,_,_,hK,rfl,rfl,⟨zsy _ _,⟨Int.le_refl _,by show (0:Int)≤ 50;decide⟩⟩,zc0 hb3 HB2.out⟩
   clear hK hb3 HD HB2 HN'
   go_wp2_with fail
   go_loopw [10,11,12,13,14,15,16,17] (fun v10 _ _ _ _ _ _ _ wr=> ∃ k:Nat,v10= .int .i64 (k:Nat)∧ k≤m∧k≤80∧Hid (∃ V,SKI w p ps pb pd L V wr)) (fun v10 _ _ _ _ _ _ _ _=>80 - (intOf v10).toNat)
   case atStart=>exact⟨0,rfl,Nat.zero_le _,Nat.zero_le _,zak ⟨_,HK0.out⟩⟩
   case round=>
    clear HK0
    obtain⟨k,rfl,hk,hk80,HK⟩:= hrel
    obtain⟨V,F,G,X,hsk,hin,hout,hpl,hbr⟩:= HK.out
    by_cases hlt:k < m∧k < 80
    · obtain⟨hlt,h80⟩:= hlt
      obtain⟨o,ho⟩:∃ o,Q[k]? =some o:=⟨Q[k]'(by rw[← HM.out];exact hlt),List.getElem?_eq_getElem _⟩
      have hd100:=HX1.out k o h80 ho
      obtain⟨b,off,Af,cf,hA2,⟨d0,d1,d2,d3,d4,d5,d6⟩,hfc,hsf,hcd,hnn⟩:= HQ.out k o ho
      subst hA2
      have kk:∀ {q v},w.cell? q=some v→wr.cell? q=some v:=fun hc=>(hbr.cell (zal hc)).trans hc
      have c0:=kk d0
      have c1:=kk d1
      have c2:=kk d2
      have c3:=kk d3
      have c4:=kk d4
      have c5:=kk d5
      have c6:=kk d6
      obtain⟨i1,i2,i3⟩:= zdg hlt
      have HSF:=zak (fun W (h:Below w.heap.size w W)=> hsf.below h)
      have HFC:=zak hfc
      have HQ1:=zak (zdb wr 64 (opQV o Af cf))
      have HB1:=zak (zc1 hbr (.cells (opQV o Af cf) 64))
      have HK1:=zak (hsk.step (zc1 (Below.refl _ _) (.cells (opQV o Af cf) 64)))
      have HIO:=zak (And.intro hin (And.intro hout hpl))
      have hq:=HQ1.out
      have zq:=hq.lt
      clear HK hsk hin hout hpl hbr kk d0 d1 d2 d3 d4 d5 d6 hfc hsf hcd hnn ho hd100
      unfold opQV at hq HQ1 HB1 HK1
      obtain⟨hq_c0,hq_c1,hq_c2,hq_c3,hq_c4,hq_c5,hq_c6⟩:= cel7 hq
      have hq_f:=hq.frozen
      by_cases hk0:o.kind=0
      · have n0:(o.kind != 0)=false:=by simp[hk0]
        clear hk0
        go_wp2_with fail
        refine (zst o Af cf 9 ⟨by omega,by omega⟩ _).mono ?_
        rintro e w5 ⟨rfl,hb5⟩
        obtain⟨f,hf⟩:∃ f,f=cameF o 9:=⟨_,rfl⟩
        have hfd:o.f.data=f.data:=by rw[hf];exact (zsq o 9).symm
        rw[← hf,hfd]
        rw[hfd] at HSF HFC
        have HB5:=zak (zc1 (zc0 hb5 HB1.out) (.cells #[.int .i64 f.id,.bool f.re,.slice Af f.data.length cf] 62))
        have HK5:=zak ((HK1.out.step hb5).step (zc1 (Below.refl _ _) (.cells #[.int .i64 f.id,.bool f.re,.slice Af f.data.length cf] 62)))
        have HQ5:=zak (zdb w5 62 #[.int .i64 f.id,.bool f.re,.slice Af f.data.length cf])
        have HLS:=zak (show ∀ i,i=p∨i=ps∨i=pb→w.heap.size≤i∧i < w5.heap.size from fun i hi=>by
         have h1:=HK1.out.lo
         have h2:=(HK1.out.step hb5).dv.lt
         rcases hi with h | h | h<;>omega)
        have hq5:=HQ5.out
        have zq5:=hq5.lt
        clear hq_c0 hq_c1 hq_c2 hq_c3 hq_c4 hq_c5 hq_c6 hq_f
        clear hq zq HQ1 HB1 HK1 hb5 hf hfd n0
        clear c0 c1 c2 c3 c4 c5 c6
        obtain⟨hq5_c0,hq5_c1,hq5_c2⟩:= zc4 hq5
        have hq5_f:=hq5.frozen
        go_wp2_with fail
        refine (zqa HK5.out f Af f.data.length cf rfl HFC.out (fun W' ho=>HSF.out W' (zdw ho HB5.out (fun i hi=>(HLS.out i hi).1)))).mono ?_
        rintro e w6 ⟨N6,Y6,As6,ns6,cs6,ds6,A6,n6,c6',G6,rfl,hN6,hOf6,hOb6,_,hY62,hK6,hG6,ho6⟩
        obtain⟨O,hO⟩:∃ O,O=sdRO L V X f:=⟨_,rfl⟩
        obtain⟨X6,hX6⟩:∃ X6,X6=sdRS L V X f:=⟨_,rfl⟩
        have HT:Hid (ToldX X6 O):= zak (by rw[hX6,hO];exact zr0 HK5.out.wf)
        have HPL:Hid (SdPl X6∧LfOk X6):= zak (by rw[hX6];exact⟨zsb HIO.out.2.2.1,zs0 HIO.out.2.2.2⟩)
        have HIO6:Hid (X6.nin=1545∧X6.nout=1417):= zak (by rw[hX6,(zp0 L V X f).1,(zp0 L V X f).2];exact⟨HIO.out.1,HIO.out.2.1⟩)
        have HNO:Hid (sdReq X f=false→O=outZ):= zak (fun h=>by rw[hO];exact zs3 h)
        have HLN:Hid (O.ms.length≤1000):= zak (by rw[hO];exact zs2 HK5.out.wf)
        rw[HIO.out.2.1] at hOf6
        rw[← hO] at hOf6 hOb6
        rw[← hX6] at hK6
        rw[← hO]
        have al6:=zc1 (Below.refl w6.heap.size w6) (.cells #[.int .i64 O.ix,.int .i64 O.sub,.slice A6 n6 c6'] 46)
        have HK6:=zak (hK6.step al6)
        have HF6:=zak (hOf6.below al6)
        have HV6:=zak (hOb6.below al6)
        have HG6:=zak hG6
        have HB6:=zak (zc1 (zdw ho6 HB5.out (fun i hi=>(HLS.out i hi).1)) (.cells #[.int .i64 O.ix,.int .i64 O.sub,.slice A6 n6 c6'] 46))
        have HQ6:=zak ((show Blk w6 w5.heap.size 62 #[.int .i64 f.id,.bool f.re,.slice Af f.data.length cf] from (ho6.block _ HQ5.out.lt (fun e=>by have:=HLS.out _ e;omega)).trans HQ5.out).alloc (.cells #[.int .i64 O.ix,.int .i64 O.sub,.slice A6 n6 c6'] 46))
        have HU6:=zak (zdb w6 46 #[.int .i64 O.ix,.int .i64 O.sub,.slice A6 n6 c6'])
        have HZ6:=zak (And.intro ho6.size hN6)
        have HFE:=zak (show ∀ g,some g=Value.ownBlock (.slice As6 ns6 cs6)→ g < w6.heap.size from fun g e=>by
         rcases hOf6.1.own.shape with ⟨h1,h2,h3⟩ | ⟨g',h1,_,h3⟩
         · rw[h1,h2,h3] at e;simp[Value.ownBlock] at e
         · rw[h1] at e;simp[Value.ownBlock] at e;omega)
        have HFN:=zak (show ∀ g,F g→g < N6 from fun g hg=>by have h1:=(HK5.out.lF g hg).2;omega)
        have HLN6:=zak (show ∀ i,i=p∨i=ps∨i=pb→i < N6 from fun i hi=>by have h1:=(HLS.out i hi).2;have h2:=hN6;simp at h2;omega)
        have hq6:=HQ6.out
        have hu6:=HU6.out
        have zq6:=hq6.lt
        have zu6:=hu6.lt
        clear hq5_c0 hq5_c1 hq5_c2 hq5_f
        clear hq5 zq5 hO hX6 hN6 hOf6 hOb6 hY62 hK6 hG6 ho6 al6 HK5 HQ5 HB5
        obtain⟨hq6_c0,hq6_c1,hq6_c2⟩:= zc4 hq6
        have hq6_f:=hq6.frozen
        obtain⟨hu6_c0,hu6_c1,hu6_c2⟩:= zc4 hu6
        have hu6_f:=hu6.frozen
        cases hw:O.wr
        · have hb0:n6=0:=by rw[HV6.out.hn,HT.out.no hw];rfl
          have HW:Hid (O.wr=false):= zak hw
          clear hw
          subst hb0
          cases hrq:sdReq X f
          · obtain rfl:=HNO.out hrq
            have hns:ns6=0:=HF6.out.1.hn
            subst hns
            clear hrq
            go_wp2_with fail
            all_goals
             refine zd8 (P:=fun W=>(∃ V',SKI w p ps pb pd L V' W)∧ ∃ Z,zd3 frF 3 62 Frm.data W Z As6 0 cs6 (frmL 1417 outZ.ms) ds6) ⟨⟨V,F,G6,X6,HK6.out,HIO6.out.1,HIO6.out.2,HPL.out,HB6.out⟩,⟨_,HF6.out.1⟩⟩ (fun W7 hW7=>?_)
             obtain⟨hs7,Z7,ho7⟩:= hW7
             have HS7:=zak hs7
             have HO7:=zak ho7
             have HA7:=zak (show ∀ f ∈ frmL 1417 outZ.ms,f.id=1417∧f.re=false∧f.data.length=8 from zsh)
             have HN7:=zak (show 0≤1000 from Nat.zero_le _)
             clear hs7 ho7
             go_loopw [17] (fun v17 wx=> ∃ j:Nat,v17= .int .i64 (j:Nat)∧ j≤0∧W7=wx) (fun v17 _=>0 - (intOf v17).toNat)
             case atStart=>exact⟨0,rfl,Nat.zero_le _,rfl⟩
             case round=>
              obtain⟨j,rfl,hj,rfl⟩:= hrel
              by_cases hlj:j < 0
              · exact absurd hlj (Nat.not_lt_zero _)
              · obtain rfl:j=0:=by omega
                go_wp2_with fail
                obtain⟨V',F',G',X',h1,h2⟩:= HS7.out
                exact⟨⟨k+1,by congr 1,by omega,by omega,zak ⟨V',F',G',X',h1,h2⟩⟩,by simp only[intOf];omega⟩
          · have hns:ns6≤1000:=by
             rw[HF6.out.1.hn]
             have h1:=zsi (id:=1417) (l:=O.ms)
             have h2:=HLN.out
             omega
            obtain⟨r1,r2,r3⟩:= zrz hrq
            rw[HIO.out.1] at r1
            have d1:(f.id == 1545)=true:=by simp[r1]
            have d3:((f.data.length:Int) == 8)=true:=by rw[r3];rfl
            clear hrq r1 r3
            go_wp2_with fail
            refine zd8 (P:=fun W=>(∃ V',SKI w p ps pb pd L V' W)∧ ∃ Z,zd3 frF 3 62 Frm.data W Z As6 ns6 cs6 (frmL 1417 O.ms) ds6) ⟨⟨V,F,G6,X6,HK6.out,HIO6.out.1,HIO6.out.2,HPL.out,HB6.out⟩,⟨_,HF6.out.1⟩⟩ (fun W7 hW7=>?_)
            obtain⟨hs7,Z7,ho7⟩:= hW7
            have HS7:=zak hs7
            have HO7:=zak ho7
            have HA7:=zak (show ∀ f ∈ frmL 1417 O.ms,f.id=1417∧f.re=false∧f.data.length=8 from zsh)
            have HN7:=zak hns
            clear hs7 ho7
            go_loopw [17] (fun v17 wx=> ∃ j:Nat,v17= .int .i64 (j:Nat)∧ j≤ns6∧W7=wx) (fun v17 _=>ns6 - (intOf v17).toNat)
            case atStart=>exact⟨0,rfl,Nat.zero_le _,rfl⟩
            case round=>
             obtain⟨j,rfl,hj,rfl⟩:= hrel
             by_cases hlj:j < ns6
             · obtain⟨f',hf'⟩:∃ f',((frmL 1417 O.ms))[j]? =some f':=⟨((frmL 1417 O.ms))[j]'(by rw[← HO7.out.hn];exact hlj),List.getElem?_eq_getElem _⟩
               obtain⟨e1,e2,e3⟩:= HA7.out f' (List.mem_of_getElem? hf')
               obtain⟨d',hd',_,_⟩:= HO7.out.elem hf'
               obtain⟨g',hA',hlt',hc'⟩:= HO7.out.cells zgd hf' hd' (by omega)
               have hsl:=hA'
               have q0:=hc' 0 _ rfl
               have q1:=hc' 1 _ rfl
               have q2:=hc' 2 _ rfl
               rw[e1] at q0
               rw[e2] at q1
               rw[e3] at q2
               rw[Nat.add_zero] at q0
               obtain⟨y1,y2,y3⟩:= zdg hlj
               have hn1:=HN7.out
               clear hf' hd' hc' e1 e2 e3 hA'
               subst hsl
               go_wp2_with fail
               exact⟨⟨j+1,by congr 1,by omega,trivial⟩,by simp only[intOf];omega⟩
             · obtain rfl:j=ns6:=by omega
               go_wp2_with fail
               obtain⟨V',F',G',X',h1,h2⟩:= HS7.out
               exact⟨⟨k+1,by congr 1,by omega,by omega,zak ⟨V',F',G',X',h1,h2⟩⟩,by simp only[intOf];omega⟩
        · have hms:=HT.out.yes hw
          have hns:ns6=0:=by rw[HF6.out.1.hn,hms.1];rfl
          have HW:Hid (O.wr=true):= zak hw
          have HMS:=zak hms
          subst hns
          have hrq:sdReq X f=true:=by
           cases h:sdReq X f
           · rw[HNO.out h] at hw;cases hw
           · rfl
          obtain⟨r1,r2,r3⟩:= zrz hrq
          rw[HIO.out.1] at r1
          have d1:(f.id == 1545)=true:=by simp[r1]
          have d3:((f.data.length:Int) == 8)=true:=by rw[r3];rfl
          clear hrq r1 r3 hms hw
          go_wp2_with fail
          refine (zqg HK6.out O.ix O.sub A6 n6 c6' O.b HV6.out.hn HV6.out.le (by have h1:=HV6.out.hn;have h2:=HT.out.le;omega) HV6.out.sl).mono ?_
          rintro e w8 ⟨rfl,hK8,ho8⟩
          obtain⟨code,hcode,hcl⟩:= zs4 (L:=L) (ix:=O.ix) (sub:=O.sub) (b:=O.b)
          rw[hcode]
          have HK8:=zak hK8
          have HF8:=zak (HF6.out.1.keep (w':=w8) (fun g hg hlt=>ho8.block g hlt (fun hF=>absurd hg (by have:=HFN.out g hF;omega))))
          have HB8:=zak (zdw ho8 HB6.out (fun i hi=>(HK6.out.lF i hi).1))
          have HZ8:=zak ho8.size
          clear hK8 ho8
          clear hq6_c0 hq6_c1 hq6_c2 hq6_f
          clear hu6_c0 hu6_c1 hu6_c2 hu6_f
          clear hq6 hu6 zq6 zu6 HQ6 HU6
          go_wp2_with fail
          refine (zqd HK8.out code hcl).mono ?_
          rintro e w9 ⟨N9,As9,ns9,cs9,ds9,rfl,hN9,hO9,hK9,ho9⟩
          have HF9:=zak (HF8.out.keep (w':=w9) (fun g hg hlt=>ho9.block g hlt (fun e=>by have:=HLN6.out g e;omega)))
          have HK9:=zak hK9
          have hO9':zgg w9 (fun g=>N9≤g) As9 ns9 cs9 (frmL 1417 (sdAL X6 code)) ds9:=by have h:=hO9;rw[HIO6.out.2] at h;exact h
          have HO9:=zak hO9'
          have HB9:=zak (zdw ho9 HB8.out (fun i hi=>(HLS.out i hi).1))
          have HZ9:=zak ho9.size
          have HN9:Hid (ns9≤2):= zak (by
           rw[hO9'.1.hn]
           have h1:=zsi (id:=1417) (l:=sdAL X6 code)
           have h2:=zpk X6.sg code
           have h3:=zpl X6.bk code
           have h4:(sdAL X6 code).length=(answerL X6.sg code).length+(bAnswerL X6.bk code).length:=by unfold sdAL;rw[List.length_append]
           omega)
          have hnn:0+ns9≤34359738:=by have:=HN9.out;omega
          clear hK9 ho9 hO9 hO9' hN9 HF8 HK8 HB8
          obtain⟨i0,hi0,hz0,hz1,hz2⟩:= info_parts zgf
          have hms0:frmL 1417 O.ms= []:= by rw[HMS.out.1];rfl
          have HF9':Hid (zd3 frF 3 62 Frm.data w9 (fun g=>N6≤g) As6 0 cs6 [] ds6):= zak (by have h:=HF9.out;rw[hms0] at h;exact h)
          clear HF9 hms0
          go_wp2_with (at_builtin;refine zpj (G:=fun _=>True) _ rfl _ _ 65 rfl zgd zge tfr8 i0 _ 40 Tryz.underlying65 hi0 hz0 hz1 hz2 rfl (by omega) (by omega) As6 0 cs6 _ _ rfl HF9'.out As9 ns9 cs9 _ _ rfl HO9.out.1 (fun _ _=>trivial) (fun _ _ _=>trivial) (fun _ _ _=>trivial) hnn ?_;intro A10 c10 w10 hO10 hg10 hr10)
          have hZ10:zdv (fun g=>N6≤g∧g < w6.heap.size) w9 w10:=zdv.of_grown (F:=fun g=>N6≤g∧g < w6.heap.size) hg10 (fun g e=>⟨zgi HF9'.out e,HFE.out g e.symm⟩)
          have HK10:=zak (HK9.out.far hZ10 (fun q hq _=>by
           have h1:=hq.1
           have h2:=hq.2
           refine⟨fun e=>?_,fun e=>?_,fun e=>?_,fun e=>?_,fun e=>?_⟩
           · have:=HLN6.out q (.inl e);omega
           · have:=HLN6.out q (.inr (.inl e));omega
           · have:=HLN6.out q (.inr (.inr e));omega
           · rcases e.1 with e | e
             · have:=HFN.out q e;omega
             · simp at e;omega
           · have:=(HG6.out q e).2;omega))
          have HB10:=zak (zdw hZ10 HB9.out (fun i hi=>by have h1:=hi.1;have h2:=HLN6.out p (.inl rfl);have h3:=(HLS.out p (.inl rfl)).1;omega))
          have hns10:0+ns9≤1000:=by have:=HN9.out;omega
          clear hg10 hr10 hZ10
          go_wp2_with fail
          refine zd8 (P:=fun W=>(∃ V',SKI w p ps pb pd L V' W)∧ ∃ Z,zd3 frF 3 62 Frm.data W Z A10 (0+ns9) c10 ([] ++ frmL 1417 (sdAL X6 code)) (ds6 ++ ds9)) ⟨⟨_,_,G6,sdAS X6,HK10.out,HIO6.out.1,HIO6.out.2,⟨zsc HPL.out.1,HPL.out.2⟩,HB10.out⟩,⟨_,hO10⟩⟩ (fun W7 hW7=>?_)
          obtain⟨hs7,Z7,ho7⟩:= hW7
          have HS7:=zak hs7
          have HO7:=zak ho7
          have HA7:=zak (show ∀ f ∈ [] ++ frmL 1417 (sdAL X6 code),f.id=1417∧f.re=false∧f.data.length=8 from fun f hf=>zsh f (by simpa using hf))
          have HN7:=zak hns10
          clear hs7 ho7
          go_loopw [17] (fun v17 wx=> ∃ j:Nat,v17= .int .i64 (j:Nat)∧ j≤(0+ns9)∧ W7=wx) (fun v17 _=>(0+ns9) - (intOf v17).toNat)
          case atStart=>exact⟨0,rfl,Nat.zero_le _,rfl⟩
          case round=>
           obtain⟨j,rfl,hj,rfl⟩:= hrel
           by_cases hlj:j < (0+ns9)
           · obtain⟨f',hf'⟩:∃ f',(([] ++ frmL 1417 (sdAL X6 code)))[j]? =some f':=⟨(([] ++ frmL 1417 (sdAL X6 code)))[j]'(by rw[← HO7.out.hn];exact hlj),List.getElem?_eq_getElem _⟩
             obtain⟨e1,e2,e3⟩:= HA7.out f' (List.mem_of_getElem? hf')
             obtain⟨d',hd',_,_⟩:= HO7.out.elem hf'
             obtain⟨g',hA',hlt',hc'⟩:= HO7.out.cells zgd hf' hd' (by omega)
             have hsl:=hA'
             have q0:=hc' 0 _ rfl
             have q1:=hc' 1 _ rfl
             have q2:=hc' 2 _ rfl
             rw[e1] at q0
             rw[e2] at q1
             rw[e3] at q2
             rw[Nat.add_zero] at q0
             obtain⟨y1,y2,y3⟩:= zdg hlj
             have hn1:=HN7.out
             clear hf' hd' hc' e1 e2 e3 hA'
             subst hsl
             go_wp2_with fail
             exact⟨⟨j+1,by congr 1,by omega,trivial⟩,by simp only[intOf];omega⟩
           · obtain rfl:j=(0+ns9):= by omega
             go_wp2_with fail
             obtain⟨V',F',G',X',h1,h2⟩:= HS7.out
             exact⟨⟨k+1,by congr 1,by omega,by omega,zak ⟨V',F',G',X',h1,h2⟩⟩,by simp only[intOf];omega⟩
      · have n0:(o.kind != 0)=true:=by simp[hk0]
        go_wp2_with fail
        exact⟨⟨k+1,by congr 1,by omega,by omega,zak ⟨V,F,G,X,HK1.out,HIO.out.1,HIO.out.2.1,HIO.out.2.2,HB1.out⟩⟩,by simp only[intOf];omega⟩
    · have HK9:=zak (show ∃ F G X,SKM w.heap.size p ps pb pd L F G V X wr∧LfOk X∧X.nout=1417∧Below w.heap.size w wr from ⟨F,G,X,hsk,hpl.2,hout,hbr⟩)
      clear hsk hin hout hpl hbr HK
      have hlt':m≤k∨(k < m∧80≤k):= by omega
      rcases hlt' with h | ⟨h1,h2⟩
      all_goals
       go_wp2_with fail
       go_loopw [18,19] (fun v18 v19 wx=> ∃ j n:Nat,v18= .int .i64 (n:Nat)∧ v19= .int .i64 (j:Nat)∧ j≤50∧Hid (∃ F G X,SKM w.heap.size p ps pb pd L F G V X wx∧LfOk X∧X.nout=1417∧(n≤1∧(sdBusy X=true→n=0∧X.left+j≤50))∧ Below w.heap.size w wx)) (fun _ v19 _=>50 - (intOf v19).toNat)
       case atStart=>
        obtain⟨F',G',X',a1,a2,a3,a4⟩:= HK9.out
        exact⟨0,0,rfl,rfl,Nat.zero_le _,zak ⟨F',G',X',a1,a2,a3,⟨Nat.zero_le _,fun _=>⟨rfl,by have:=a2.2;omega⟩⟩,a4⟩⟩
       case round=>
        obtain⟨j,n',rfl,rfl,hj,HJ⟩:= hrel
        obtain⟨F',G',X',hk',hlf,hno,⟨hn1,hbz⟩,hb'⟩:= HJ.out
        by_cases hlj:j < 50
        · have HSTEP:=zak (zsj hk'.wf 1417 (k:=j) hbz hn1)
          have HTK:=zak (zqe hk' ⟨by have:=hlf.1;omega,by have:=hlf.2;omega⟩)
          have HLF:=zak (zs1 hk'.wf hlf)
          have HNO:=zak hno
          have HB':=zak hb'
          have HLO:=zak hk'.lo
          clear HJ hk' hlf hno hbz hb' HK9
          go_wp2_with fail
          refine HTK.out.mono ?_
          rintro e w9 ⟨N9,As9,ns9,cs9,ds9,rfl,hN9,hO9,hK9,ho9⟩
          have hns:ns9=(frmL 1417 (sdTL X')).length:=by rw[hO9.1.hn,HNO.out]
          have hst:=HSTEP.out
          rw[← hns] at hst
          have HK':=zak hK9
          have HST:=zak hst
          have HB9:=zak (zdw ho9 HB'.out (fun i hi=>by have:=HLO.out;rcases hi with h | h | h<;>omega))
          have hs1:=hst.1
          clear hst hN9 hO9 hK9 ho9 hns HTK HSTEP
          go_wp2_with fail
          exact⟨⟨j+1,n'+ns9,by congr 1,by congr 1,by omega,zak ⟨F',G',sdTS X',HK'.out,HLF.out,by rw[(zqc X').2];exact HNO.out,HST.out,HB9.out⟩⟩,by simp only[intOf];omega⟩
        · have hbu:sdBusy X'=false:=by
           cases hq:sdBusy X'
           · rfl
           · have h1:=(hbz hq).2
             have h2:=hk'.wf.lf hq
             omega
          have HBU:=zak hbu
          have HK':=zak hk'
          have HB':=zak hb'
          clear hbu hk' hb' hlf hno hbz HJ HK9
          go_wp2_with fail
          refine (zqf HK'.out).mono ?_
          rintro e w9 ⟨rfl,hw9⟩
          subst hw9
          rw[HBU.out]
          go_wp2_with fail
          refine (zri _).mono ?_
          rintro e wz ⟨rfl,hbz⟩
          go_wp2_with fail
          go_ret
          exact (⟨rfl,zc0 hbz HB'.out⟩:TrueB w _ _)
 · clear h2 h3 hnp hb2
   have d0:(er != 0)=true:=by simp[her]
   clear her
   go_wp2_with fail
   refine (zri _).mono ?_
   rintro e wz ⟨rfl,hbz⟩
   go_wp2_with fail
   go_ret
   exact (⟨rfl,zc0 hbz HB2.out⟩:TrueB w _ _)
end
section
open Go.RowKit
set_option maxRecDepth 20000
set_option maxHeartbeats 1000000
theorem zs6 (A A2:Option Addr) (n n2 c c2:Nat) (L:List SV) (w:World) (hn:n=L.length) (hn2:n2=L.length) (hc:n≤c) (hc2:n2≤c2) (hb:n≤35184372088) (hL:SlV w A L) (hL2:SlV w A2 L) :
 Calls Tryz.prog 19 #[.slice A n c,.slice A2 n2 c2] w fun e w'=>e= .returned (.bool true)∧ Below w.heap.size w w':=by
 obtain rfl:n=n2:=by omega
 have HN:=zak hn
 clear hn hn2
 go_enter Tryz.func19,Tryz.ntmps19
 go_wp2_with fail
 go_loopw [5] (fun i wr=> ∃ k,k≤n∧i= .int .i64 (k:Nat)∧ Below w.heap.size w wr) (fun i _=>n - (intOf i).toNat)
 case atStart=>exact⟨0,by omega,rfl,Below.refl _ _⟩
 case round=>
  obtain⟨k,hk,rfl,hbr⟩:= hrel
  by_cases hlt:k < n
  · obtain⟨v,hv⟩:∃ v,L[k]? =some v:=⟨L[k]'(by have:=HN.out;omega),List.getElem?_eq_getElem _⟩
    obtain⟨b,off,Aj,cj,rfl,h0,h1,h2,h4,h5⟩:= (hL.below hbr) k v hv
    obtain⟨b',off',Aj',cj',rfl,g0,g1,g2,g4,g5⟩:= (hL2.below hbr) k v hv
    have HV:=zak hv
    clear hv
    have k1:=fun nq=>zds (w:=wr.drewN nq) cj rfl (l:=v.data) (show Sl (wr.drewN nq) Aj (v.data.map bv) from h5)
    have k2:=fun nq=>zds (w:=wr.drewN nq) cj' rfl (l:=v.data) (show Sl (wr.drewN nq) Aj' (v.data.map bv) from g5)
    obtain⟨i1,i2,i3⟩:= zdg hlt
    have hself:(v.ix != v.ix)=false:=by simp
    have hself2:(v.sub != v.sub)=false:=by simp
    go_wp2_with fail
    go_quiet (fail)
    go_wp2_with fail
    go_roundw
    case rel=>exact⟨k+1,by omega,by go_num,zdl hbr _⟩
    case measure=>simp[intOf];omega
  · go_wp2_with fail
    go_ret
    exact⟨rfl,hbr⟩
end
end Go.Proofs.YthdbckbpldlkeaaGreat
