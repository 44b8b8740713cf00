/- None -/
import Derived.Test.YthdbckbpldlkeaaGreatS51
namespace Go.Proofs.YthdbckbpldlkeaaGreat
set_option linter.unusedVariables false
set_option linter.unusedSimpArgs false
set_option linter.unnecessarySimpa false
section
open Go.RowKit Go.Maps
set_option maxRecDepth 100000
set_option maxHeartbeats 16000000
theorem zs7 (A:Option Addr) (n c:Nat) (L:List Ent) (A2:Option Addr) (m c2:Nat) (Q:List Op23) (w:World) (hn:n=L.length) (hL:SlE w A L) (hm:m=Q.length) (hQ:SlQ w A2 Q) :
 Calls Tryz.prog 4 #[.slice A n c,.slice A2 m c2] w (TrueB w):= by
 have HN:=zak hn
 have HL:=zak hL
 have HM:=zak hm
 have HQ:=zak hQ
 have HLT:=zak (zsp A2 m c2 Q w hm hQ)
 cases hli:lightL L
 · have HLI:=zak hli
   clear hn hL hli hm hQ
   go_enter Tryz.func4,Tryz.ntmps4
   go_wp2_with fail
   refine (zpu A n c L _ HN.out HL.out).mono ?_
   rintro e w1 ⟨rfl,rfl⟩
   rw[HLI.out]
   go_wp2_with fail
   refine (zri _).mono ?_
   rintro e wz ⟨rfl,hbz⟩
   go_wp2_with fail
   go_ret
   exact (⟨rfl,hbz⟩:TrueB w _ _)
 have HLI:=zak hli
 have HFT:=zak (zps hli)
 have h200:n≤200:=by rw[hn];exact zpt hli
 have HLL:Hid (L.length≤1000):= zak (by rw[← hn];omega)
 clear hn hL hli hm hQ
 go_enter Tryz.func4,Tryz.ntmps4
 go_wp2_with fail
 refine (zpu A n c L _ HN.out HL.out).mono ?_
 rintro e w1 ⟨rfl,rfl⟩
 rw[HLI.out]
 go_wp2_with fail
 refine HLT.out.mono ?_
 rintro e w1 ⟨x,rfl,rfl,hx⟩
 have HX:=zak hx
 clear hx
 cases x
 · go_wp2_with fail
   refine (zri _).mono ?_
   rintro e wz ⟨rfl,hbz⟩
   go_wp2_with fail
   go_ret
   exact (⟨rfl,hbz⟩:TrueB w _ _)
 have HX1:=zak (HX.out rfl)
 clear HX
 go_wp2_with fail
 refine (zqj A n c L _ HN.out HL.out HFT.out).mono ?_
 rintro e w2 ⟨v,er,at_,rfl,hnp,h2,h3,hb2⟩
 have HB2:=zak hb2
 by_cases her:er=0
 · subst her
   obtain⟨pd,gl,n',cl,Av,cv,ds,es,rfl,hn',hD⟩:= h3 rfl
   have HS:Hid (SortedE L):= zak (zsw hnp)
   have HVP:Hid (ValsP L (L.map Ent.df)):= zak (zpw (zsx hnp))
   have HD:=zak hD
   have HN':=zak hn'
   clear h2 h3 hnp hb2 hD hn'
   go_wp2_with fail
   refine (zqi (N:=w.heap.size) HN'.out HD.out HS.out HLL.out HVP.out 9 ⟨by omega,by omega⟩ HB2.out.size).mono ?_
   rintro e w3 ⟨p,ps,pb,rfl,hK,hb3⟩
   have HK0:Hid (SKI w p ps pb pd L (L.map Ent.df) w3):= zak ⟨_,_,_,hK,rfl,rfl,⟨zsy _ _,⟨Int.le_refl _,by show (0:Int)≤ 50;decide⟩⟩,zc0 hb3 HB2.out⟩
   clear hK hb3 HD HB2 HN'
   go_wp2_with fail
   obtain⟨F0,G0,X0,hk0,hi0,ho0,hp0,hb0⟩:= HK0.out
   have HK1:=zak hk0
   have HIO0:=zak (And.intro hi0 (And.intro ho0 hp0.1))
   have HB0:=zak hb0
   have HZ3:=zak hk0.dv.lt
   have HLO:=zak hk0.lo
   clear hk0 hi0 ho0 hp0 hb0 HK0
   refine (zqh HK1.out).mono ?_
   rintro e w4 ⟨Aw,nw,cw,dsw,rfl,hOw,_,hb4⟩
   have HNW:=zak hOw.hn
   have HNS:Hid ((svL L (L.map Ent.df)).length≤1000):= zak (by rw[zjx _ _ (by simp)];exact HLL.out)
   have HW:Hid (∀ W,zdv (fun q=>q=p∨q=ps∨q=pb) w4 W→OwnSV W (fun g=>w3.heap.size≤g) Aw nw cw (svL L (L.map Ent.df)) dsw):= zak (fun W ho=>hOw.keep (fun g hg hlt=>ho.block g hlt (by have:=HZ3.out;rintro (h | h | h)<;> omega)))
   have HK4:=zak (show ∃ F G X,SKM w.heap.size p ps pb pd L F G (L.map Ent.df) X w4∧X.nin=1545∧X.nout=1417∧SdPl X∧Below w.heap.size w w4∧zdv (fun q=>q=p∨q=ps∨q=pb) w4 w4 from ⟨_,_,_,HK1.out.step hb4,HIO0.out.1,HIO0.out.2.1,HIO0.out.2.2,zc0 hb4 HB0.out,zdv.refl _ _⟩)
   clear hOw hb4 HK1 HIO0 HB0 HZ3
   go_wp2_with fail
   go_loopw [11,12,13,14,15] (fun v11 _ _ _ _ wr=> ∃ k:Nat,v11= .int .i64 (k:Nat)∧ k≤m∧k≤80∧Hid (∃ F G X,SKM w.heap.size p ps pb pd L F G (L.map Ent.df) X wr∧X.nin=1545∧X.nout=1417∧SdPl X∧Below w.heap.size w wr∧zdv (fun q=>q=p∨q=ps∨q=pb) w4 wr)) (fun v11 _ _ _ _ _=>80 - (intOf v11).toNat)
   case atStart=>exact⟨0,rfl,Nat.zero_le _,Nat.zero_le _,HK4⟩
   case round=>
    clear HK4
    obtain⟨k,rfl,hk,hk80,HK⟩:= hrel
    obtain⟨F,G,X,hsk,hin,hout,hpl,hbr,hor⟩:= HK.out
    by_cases hlt:k < m∧k < 80
    · obtain⟨hlt,h80⟩:= hlt
      obtain⟨o,ho⟩:∃ o,Q[k]? =some o:=⟨Q[k]'(by rw[← HM.out];exact hlt),List.getElem?_eq_getElem _⟩
      obtain⟨b,off,Af,cf,hA2,⟨d0,d1,d2,d3,d4,d5,d6⟩,hfc,hsf,hcd,hnn⟩:= HQ.out k o ho
      subst hA2
      have kk:∀ {q v},w.cell? q=some v→wr.cell? q=some v:=fun hc=>(hbr.cell (zal hc)).trans hc
      have c0:=kk d0
      have c1:=kk d1
      have c2:=kk d2
      have c3:=kk d3
      have c4:=kk d4
      have c5:=kk d5
      have c6:=kk d6
      have zb:=zal c0
      simp only at zb
      obtain⟨i1,i2,i3⟩:= zdg hlt
      have HSF:=zak (fun W (h:Below w.heap.size w W)=> hsf.below h)
      have HFC:=zak hfc
      have HB1:=zak hbr
      have HK1:=zak hsk
      have HOR:=zak hor
      have HIO:=zak (And.intro hin (And.intro hout hpl))
      clear HK hsk hin hout hpl hbr kk d0 d1 d2 d3 d4 d5 d6 hfc hsf hcd hnn ho hor
      by_cases hk0:o.kind=0
      · have n0:(o.kind == 0)=true:=by simp[hk0]
        clear hk0
        go_wp2_with fail
        refine (zst o Af cf 9 ⟨by omega,by omega⟩ _).mono ?_
        rintro e w5 ⟨rfl,hb5⟩
        obtain⟨f,hf⟩:∃ f,f=cameF o 9:=⟨_,rfl⟩
        have hfd:o.f.data=f.data:=by rw[hf];exact (zsq o 9).symm
        rw[← hf,hfd]
        rw[hfd] at HSF HFC
        have HB5:=zak (zc0 hb5 HB1.out)
        have HK5:=zak (HK1.out.step hb5)
        have HO5:=zak (HOR.out.step hb5)
        clear hb5 hf hfd n0 HB1 HK1 HOR
        clear c0 c1 c2 c3 c4 c5 c6
        go_wp2_with fail
        refine (zqa HK5.out f Af f.data.length cf rfl HFC.out (fun W' ho=>HSF.out W' (zdw ho HB5.out (fun i hi=>by have:=HLO.out;rcases hi with h | h | h<;>omega)))).mono ?_
        rintro e w6 ⟨N6,Y6,As6,ns6,cs6,ds6,A6,n6,c6',G6,rfl,hN6,hOf6,hOb6,_,hY62,hK6,hG6,ho6⟩
        obtain⟨O,hO⟩:∃ O,O=sdRO L (L.map Ent.df) X f:=⟨_,rfl⟩
        obtain⟨X6,hX6⟩:∃ X6,X6=sdRS L (L.map Ent.df) X f:=⟨_,rfl⟩
        have HT:Hid (ToldX X6 O):= zak (by rw[hX6,hO];exact zr0 HK5.out.wf)
        have HIO6:Hid (X6.nin=1545∧X6.nout=1417∧SdPl X6):= zak (by rw[hX6,(zp0 L (L.map Ent.df) X f).1,(zp0 L (L.map Ent.df) X f).2];exact⟨HIO.out.1,HIO.out.2.1,zsb HIO.out.2.2⟩)
        rw[← hX6] at hK6
        rw[← hO]
        have al6:=zc1 (Below.refl w6.heap.size w6) (.cells #[.int .i64 O.ix,.int .i64 O.sub,.slice A6 n6 c6'] 46)
        have HK6:=zak (hK6.step al6)
        have HB6:=zak (zc1 (zdw ho6 HB5.out (fun i hi=>by have:=HLO.out;rcases hi with h | h | h<;>omega)) (.cells #[.int .i64 O.ix,.int .i64 O.sub,.slice A6 n6 c6'] 46))
        have HO6:=zak ((HO5.out.trans ho6 (fun _ _ h=>h)).new (.cells #[.int .i64 O.ix,.int .i64 O.sub,.slice A6 n6 c6'] 46))
        clear hO hX6 hN6 hOf6 hOb6 hY62 hK6 hG6 ho6 al6 HK5 HB5 HO5 HSF HFC
        cases hw:O.wr
        · clear hw
          go_wp2_with fail
          refine (zqh HK6.out).mono ?_
          rintro e wv ⟨Av,nv,cv',dsv,rfl,hOv,_,hbv⟩
          have HNV:=zak hOv.hn
          skip
          have hns:nv≤1000:=by rw[HNV.out];exact HNS.out
          have HWv:=zak (HW.out wv (HO6.out.step hbv))
          have HOv:=zak hOv
          have HKv:=zak (HK6.out.step hbv)
          have HBv:=zak (zc0 hbv HB6.out)
          have HPv:=zak (HO6.out.step hbv)
          clear hOv hbv
          go_wp2_with fail
          refine (zs6 Av Aw nv nw cv' cw (svL L (L.map Ent.df)) _ HNV.out HNW.out HOv.out.own.le HWv.out.own.le (by omega) HOv.out.slV HWv.out.slV).mono ?_
          rintro e wz ⟨rfl,hbz⟩
          have HR:=zak (show ∃ F G X,SKM w.heap.size p ps pb pd L F G (L.map Ent.df) X wz∧X.nin=1545∧X.nout=1417∧SdPl X∧Below w.heap.size w wz∧zdv (fun q=>q=p∨q=ps∨q=pb) w4 wz from ⟨_,_,_,HKv.out.step hbz,HIO6.out.1,HIO6.out.2.1,HIO6.out.2.2,zc0 hbz HBv.out,HPv.out.step hbz⟩)
          clear hbz
          go_wp2_with fail
          exact⟨⟨k+1,by congr 1,by omega,by omega,HR⟩,by simp only[intOf];omega⟩
        · obtain⟨aix,asub,hap,hal⟩:= zsd HT.out hw HIO6.out.2.2 (code:=134217761) (by decide)
          have HI6:=zak (zr1 HT.out hw)
          have HAL:=zak hal
          have HAP:=zak hap
          have HW6:=zak hw
          clear hw hap hal
          go_wp2_with fail
          refine (zqd HK6.out 134217761 (by decide)).mono ?_
          rintro e w9 ⟨N9,As9,ns9,cs9,ds9,rfl,hN9,hO9,hK9,ho9⟩
          have hO9':zgg w9 (fun g=>N9≤g) As9 ns9 cs9 [⟨1417,false,laidB (abM aix asub 134217761)⟩] ds9:=by have h:=hO9;rw[HIO6.out.2.1,HAL.out,zsg HAP.out] at h;exact h
          have hns9:ns9=1:=hO9'.1.hn
          subst hns9
          obtain⟨d',hd',hOd,_⟩:= hO9'.1.elem (j:=0) (v:=⟨1417,false,laidB (abM aix asub 134217761)⟩) rfl
          obtain⟨g',hA',hlt',hc'⟩:= hO9'.1.cells zgd (j:=0) (v:=⟨1417,false,laidB (abM aix asub 134217761)⟩) rfl hd' (by omega)
          have hl8:(laidB (abM aix asub 134217761)).length=8:=zro _ (zse HAP.out)
          have q2:w9.cell? ⟨g',2,none⟩=some (.slice d'.1 8 d'.2):= by have h:=hc' 2 _ rfl;rw[hl8] at h;exact h
          obtain⟨gb,go',hgb,hcb⟩:= hOd.sl.at_ (j:=0) (u:=bv 128) (by rw[List.getElem?_map,zsf];rfl)
          have HK9:=zak hK9
          have HB9:=zak (zdw ho9 HB6.out (fun i hi=>by have:=HLO.out;rcases hi with h | h | h<;>omega))
          have HO9:=zak (HO6.out.trans ho9 (fun _ _ h=>h))
          have HIO9:Hid ((sdAS X6).nin=1545∧(sdAS X6).nout=1417∧SdPl (sdAS X6)):= zak ⟨HIO6.out.1,HIO6.out.2.1,zsc HIO6.out.2.2⟩
          rw[hgb] at q2
          replace hcb:w9.cell? ⟨gb,go',none⟩=some (.int .u8 128):= hcb
          clear hN9 hO9 hO9' hK9 ho9 hd' hOd hc' hl8 HK6 HB6 HO6
          subst hA'
          go_wp2_with fail
          refine (zqf HK9.out).mono ?_
          rintro e w10 ⟨rfl,hw10⟩
          subst hw10
          rw[HI6.out]
          go_wp2_with fail
          refine (zqh HK9.out).mono ?_
          rintro e wv ⟨Av,nv,cv',dsv,rfl,hOv,_,hbv⟩
          have HNV:=zak hOv.hn
          skip
          have hns:nv≤1000:=by rw[HNV.out];exact HNS.out
          have HWv:=zak (HW.out wv (HO9.out.step hbv))
          have HOv:=zak hOv
          have HKv:=zak (HK9.out.step hbv)
          have HBv:=zak (zc0 hbv HB9.out)
          have HPv:=zak (HO9.out.step hbv)
          clear hOv hbv
          go_wp2_with fail
          refine (zs6 Av Aw nv nw cv' cw (svL L (L.map Ent.df)) _ HNV.out HNW.out HOv.out.own.le HWv.out.own.le (by omega) HOv.out.slV HWv.out.slV).mono ?_
          rintro e wz ⟨rfl,hbz⟩
          have HR:=zak (show ∃ F G X,SKM w.heap.size p ps pb pd L F G (L.map Ent.df) X wz∧X.nin=1545∧X.nout=1417∧SdPl X∧Below w.heap.size w wz∧zdv (fun q=>q=p∨q=ps∨q=pb) w4 wz from ⟨_,_,_,HKv.out.step hbz,HIO9.out.1,HIO9.out.2.1,HIO9.out.2.2,zc0 hbz HBv.out,HPv.out.step hbz⟩)
          clear hbz
          go_wp2_with fail
          exact⟨⟨k+1,by congr 1,by omega,by omega,HR⟩,by simp only[intOf];omega⟩
      · have n0:(o.kind == 0)=false:=by simp[hk0]
        clear c1 c2 c3 c4 c5 c6
        go_wp2_with fail
        refine (zqh HK1.out).mono ?_
        rintro e wv ⟨Av,nv,cv',dsv,rfl,hOv,_,hbv⟩
        have HNV:=zak hOv.hn
        skip
        have hns:nv≤1000:=by rw[HNV.out];exact HNS.out
        have HWv:=zak (HW.out wv (HOR.out.step hbv))
        have HOv:=zak hOv
        have HKv:=zak (HK1.out.step hbv)
        have HBv:=zak (zc0 hbv HB1.out)
        have HPv:=zak (HOR.out.step hbv)
        clear hOv hbv
        go_wp2_with fail
        refine (zs6 Av Aw nv nw cv' cw (svL L (L.map Ent.df)) _ HNV.out HNW.out HOv.out.own.le HWv.out.own.le (by omega) HOv.out.slV HWv.out.slV).mono ?_
        rintro e wz ⟨rfl,hbz⟩
        have HR:=zak (show ∃ F G X,SKM w.heap.size p ps pb pd L F G (L.map Ent.df) X wz∧X.nin=1545∧X.nout=1417∧SdPl X∧Below w.heap.size w wz∧zdv (fun q=>q=p∨q=ps∨q=pb) w4 wz from ⟨_,_,_,HKv.out.step hbz,HIO.out.1,HIO.out.2.1,HIO.out.2.2,zc0 hbz HBv.out,HPv.out.step hbz⟩)
        clear hbz
        go_wp2_with fail
        exact⟨⟨k+1,by congr 1,by omega,by omega,HR⟩,by simp only[intOf];omega⟩
    · have HB9:=zak hbr
      clear hsk hin hout hpl hbr HK hor
      have hlt':m≤k∨(k < m∧80≤k):= by omega
      rcases hlt' with h | ⟨h1,h2⟩
      all_goals
       go_wp2_with fail
       refine (zri _).mono ?_
       rintro e wz ⟨rfl,hbz⟩
       go_wp2_with fail
       go_ret
       exact (⟨rfl,zc0 hbz HB9.out⟩:TrueB w _ _)
 · clear h2 h3 hnp hb2
   have d0:(er != 0)=true:=by simp[her]
   clear her
   go_wp2_with fail
   refine (zri _).mono ?_
   rintro e wz ⟨rfl,hbz⟩
   go_wp2_with fail
   go_ret
   exact (⟨rfl,zc0 hbz HB2.out⟩:TrueB w _ _)
end
end Go.Proofs.YthdbckbpldlkeaaGreat
