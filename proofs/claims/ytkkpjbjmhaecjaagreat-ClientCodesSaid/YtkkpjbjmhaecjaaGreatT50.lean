/- None -/
import Derived.Test.YtkkpjbjmhaecjaaGreatT49
namespace Go.Proofs.YtkkpjbjmhaecjaaGreat
set_option linter.all false
set_option maxRecDepth 100000
set_option maxHeartbeats 16000000
section
open Go.RowKit Go.Maps
section
variable {L:List Ent} {T:Tk} {f:Frm} {r:List Frm}
theorem tk_s {O:SegO}{X':SdoS}(hl:T.l=f :: r)(hi:f.id=1541)(hO:sdRO L T.V T.X f=O)(hX:sdRS L T.V T.X f=X')(hw:O.wr=false):tkStep L T=⟨T.C,X',T.V,r ++ frmL T.X.nout O.ms⟩:=by
 unfold tkStep;rw[hl];dsimp only;rw[if_pos hi,hO,hX,if_neg (by rw[hw];decide)]
theorem tk_w {O:SegO}{X':SdoS}{code:Nat}(hl:T.l=f :: r)(hi:f.id=1541)(hO:sdRO L T.V T.X f=O)(hX:sdRS L T.V T.X f=X')(hw:O.wr=true)(hc:mayC L O.ix O.sub O.b false=(code:Int)):tkStep L T=⟨T.C,sdAS X',putV L T.V O.ix O.sub O.b false,(r ++ frmL T.X.nout O.ms) ++ frmL T.X.nout (sdAL X' code)⟩:=by
 unfold tkStep;rw[hl];dsimp only;rw[if_pos hi,hO,hX,if_pos hw,hc]
 rfl
theorem tk_c (hl:T.l=f :: r)(hi:f.id≠1541):tkStep L T=⟨cRecvS T.C f,T.X,T.V,r ++ cRecvL T.C f⟩:=by
 unfold tkStep;rw[hl];dsimp only;rw[if_neg hi]
theorem zy7 (i:Nat)(T:Tk):tkRn L (i+1) T=tkStep L (tkRn L i T):=by rw[zr3];rfl
end
def TR (N pc mc p ps pb pd:Nat) (L:List Ent) (W0:World) (U:Nat→Prop) (A:Option Addr) (n c:Nat) (T:Tk) (W:World):Prop:=
 ∃F G1 G2 Z ds,TKM N pc mc p ps pb pd L F G1 G2 T.C T.X T.V W∧QFr W Z A n c T.l ds∧(∀g,Z g→N≤g∧g < W.heap.size∧Free pc mc p ps pb F G1 G2 g)∧ zd0 U W0 W∧(∀g,F g∨G1 g∨Z g→U g∨W0.heap.size≤g)
section
variable {N pc mc p ps pb pd:Nat} {L:List Ent} {C:CliS} {X:SdoS} {V:List (List UInt8)} {W0:World} {U:Nat→Prop}
theorem zy8 (A:Option Addr)(n c:Nat)(T0:Tk)(k0:Nat)(hk0:k0≤100)(hU:U pc∧U mc∧U p∧U ps∧U pb)(hT:TR N pc mc p ps pb pd L W0 U A n c T0 W0)(hC:CTk T0.C k0)(hl:T0.l.length≤2000)(hN:N≤W0.heap.size) :
 Calls Tryz.prog 29 #[.pointer (some ⟨pc,0,none⟩),.pointer (some ⟨p,0,none⟩),.pointer (some ⟨pd,0,none⟩),.slice A n c] W0 fun e W=>e= .returned (.tuple #[])∧ (∃A' n' c',TR N pc mc p ps pb pd L W0 U A' n' c' (tkRn L 600 T0) W)∧ CTk (tkRn L 600 T0).C (k0+600):=by
 obtain⟨i0,hi0,hz0,hz1,hz2⟩:=info_parts zg1;have HT:=zak hT;have HC:=zak hC;have HL:=zak hl;have HU:=zak hU;clear hT hC hl hU;go_enter Tryz.func29,Tryz.ntmps29
 go_wp2_with fail
 go_loopw [3,8,9,10,11,12] (fun v3 v8 _ _ _ _ wx=> ∃(i:Nat) (A:Option Addr) (n c:Nat),v8= .int .i64 (i:Nat)∧ v3= .slice A n c∧i≤600∧Hid (TR N pc mc p ps pb pd L W0 U A n c (tkRn L i T0) wx∧CTk (tkRn L i T0).C (k0+i)∧ (tkRn L i T0).l.length≤2000+2000 * i)) (fun _ v8 _ _ _ _ _=>600 - (intOf v8).toNat)
 case atStart=>exact⟨0,A,n,c,rfl,rfl,Nat.zero_le _,zak ⟨HT.out,HC.out,by have:=HL.out;show T0.l.length≤_;omega⟩⟩
 case round=>
  obtain⟨i,A,n,c,rfl,rfl,hi,HR⟩:=hrel;obtain⟨⟨F,G1,G2,Z,ds,hk,hq,hz,ho,hF⟩,hct,hln⟩:=HR.out;obtain⟨T,hTq⟩:∃T,T=tkRn L i T0:=⟨_,rfl⟩;rw[←hTq] at hk hq hct hln;have hnl:=hq.hn;by_cases hlt:i < 600∧0 < n
  · obtain⟨hi6,hn0⟩:=hlt;have HTN:=zak (show tkRn L (i+1) T0=tkStep L T by rw[zy7,←hTq]);obtain⟨f,r,hfr⟩:∃f r,T.l=f :: r:=by
     cases hl:T.l with
     | nil=>rw[hl] at hnl;simp at hnl;omega
     | cons f r=>exact⟨f,r,rfl⟩
    obtain⟨d,ds',rfl⟩:∃d ds',ds=d :: ds':=by
     cases ds with
     | nil=>have:=hq.hd;rw[hfr] at this;simp at this
     | cons d ds'=>exact⟨d,ds',rfl⟩
    have hq':=hq;rw[hfr] at hq';obtain⟨g,off,hA,hglt,hZg,q0,q1,q2,hOd,hFd⟩:=hq'.head;obtain⟨A1,hA1⟩:∃A1,A1=cutA A c 1 3:=⟨_,rfl⟩;obtain⟨n1,hn1⟩:∃n1,n1=n - 1:=⟨_,rfl⟩;obtain⟨c1,hc1⟩:∃c1,c1=c - 1:=⟨_,rfl⟩;have hqt:=hq'.tail;rw[←hA1,←hn1,←hc1] at hqt;have HA1:=zak hA1;have HC1:=zak hc1;subst hA;have HQT:=zak hqt;have HK:=zak hk;have HZ:=zak hz;have HO:=zak ho;have HF:=zak hF;have HCT:=zak hct;have HLN:=zak hln;have HFR:=zak hfr;have HOD:=zak (And.intro hOd hFd);have HN1:=zak (show n1≤2000+2000 * i from by omega);have HNN:=zak hn1;clear hTq hA1 hc1 hqt hk hz ho hF hct hln hfr hq hq' hOd hFd HR hZg
    have al1:=zc5 (Below.refl wr.heap.size wr) (.cells #[.int .i64 f.id,.bool f.re,.slice d.1 f.data.length d.2] 69);have HK1:=zak (HK.out.step al1);have HQ1:=zak (HQT.out.below al1);have HD1:=zak (And.intro (HOD.out.1.alloc (.cells #[.int .i64 f.id,.bool f.re,.slice d.1 f.data.length d.2] 69)) HOD.out.2);have HO1:=zak (HO.out.step al1);have HB1:=zak (zdg wr 69 #[.int .i64 f.id,.bool f.re,.slice d.1 f.data.length d.2]);have HZ1:Hid ((wr.alloc (.cells #[.int .i64 f.id,.bool f.re,.slice d.1 f.data.length d.2] 69)).heap.size=wr.heap.size+1):=zak (by simp);have HS0:=zak HO.out.size;have HKL:=zak (show ∀q,q=pc∨q=mc∨q=p∨q=ps∨q=pb∨F q∨G1 q∨G2 q→q < wr.heap.size from fun q hq=>by
     have h1:=HK.out.chi;have h2:=HK.out.sk.dv.lt;rcases hq with h | h | h | h | h | h | h | h
     · omega
     · omega
     · omega
     · omega
     · omega
     · exact (HK.out.sk.lF q h).2
     · exact (HK.out.g1 q h).2.1
     · exact (HK.out.sk.lG q h).1)
    have hb1:=HB1.out;have zb1:=hb1.lt;clear al1 HQT HOD hnl hn1;go_upto_region 4 with fail
    go_cut [3,25,26] (fun v3 _ _ wx=>v3= .slice A1 n1 c1∧wr.alloc (.cells #[.int .i64 f.id,.bool f.re,.slice d.1 f.data.length d.2] 69)=wx)
    case first=>
     have hA1:=HA1.out;have hn1:=HNN.out;have hc1:=HC1.out;clear HA1 HNN HC1;go_wp2_with fail
     all_goals
      go_meet
      refine⟨?_,rfl⟩;subst hA1 hn1 hc1
      first
       | (simp[cutA,h];done)
       | (simp[cutA,h,Addr.add];done)
    case rest=>
     obtain⟨rfl,rfl⟩:=hcut;by_cases hid:f.id=1541
     · have d0:(f.id == 1541)=true:=by simp[hid]
       have HID:=zak hid;clear hid;obtain⟨gV,gW,gX⟩:=zc8 hb1;have i7:=hb1.frozen;go_wp2_with fail
       refine (zyz HK1.out.sk f d.1 f.data.length d.2 rfl HD1.out.1.le (fun W' ho=>(HD1.out.1.keepF HD1.out.2 (fun g' hg' hlt'=>ho.block g' hlt' (fun e=>by
        obtain⟨_,_,_,_,b3,b4,b5,_⟩:=HZ.out g' hg';rcases e with e | e | e
        · exact b3 e
        · exact b4 e
        · exact b5 e))).sl)).mono ?_
       rintro e w6 ⟨N6,Y6,As6,ns6,cs6,ds6,A6,n6,c6',G6,rfl,hN6,hOf6,hOb6,hYA,hY62,hK6,hG6,ho6⟩;obtain⟨O,hO⟩:∃O,O=sdRO L T.V T.X f:=⟨_,rfl⟩;obtain⟨X6,hX6⟩:∃X6,X6=sdRS L T.V T.X f:=⟨_,rfl⟩;have HOq:=zak hO;have HXq:=zak hX6;have HTX:Hid (ToldX X6 O):=zak (by rw[hX6,hO];exact zqi HK1.out.sk.wf);have HLO:Hid (O.ms.length≤1000):=zak (by rw[hO];exact zwi HK1.out.sk.wf);rw[←hO] at hOf6 hOb6;rw[←hX6] at hK6;rw[←hO];have hns6:ns6≤1000:=by
        rw[hOf6.1.hn];have h1:=zqk (id:=T.X.nout) (l:=O.ms);have h2:=HLO.out;omega
       have al6:=zc5 (Below.refl w6.heap.size w6) (.cells #[.int .i64 O.ix,.int .i64 O.sub,.slice A6 n6 c6'] 46);have HK6:=zak ((HK1.out.srv hK6 ho6 (fun q hq=>(hG6 q hq).1)).step al6);have HQ6:=zak ((HQ1.out.keep (w':=w6) (fun g' hg' hlt'=>ho6.block g' hlt' (fun e=>by
        obtain⟨_,_,_,_,b3,b4,b5,_⟩:=HZ.out g' hg';rcases e with e | e | e
        · exact b3 e
        · exact b4 e
        · exact b5 e))).below al6)
       have HF6:=zak (hOf6.1.below al6);have HV6:=zak (hOb6.alloc (.cells #[.int .i64 O.ix,.int .i64 O.sub,.slice A6 n6 c6'] 46));have HG6:=zak hG6;have HO6:=zak ((HO1.out.trans ho6 (fun q _ hq=>by
        obtain⟨u1,u2,u3,u4,u5⟩:=HU.out;rcases hq with rfl | rfl | rfl
        · exact u3
        · exact u4
        · exact u5)).step al6)
       have HU6:=zak (zdg w6 46 #[.int .i64 O.ix,.int .i64 O.sub,.slice A6 n6 c6']);have HZ6:=zak (And.intro ho6.size hN6);have HZ7:Hid ((w6.alloc (.cells #[.int .i64 O.ix,.int .i64 O.sub,.slice A6 n6 c6'] 46)).heap.size=w6.heap.size+1):=zak (by simp);have HFR6:=zak (show ∀q,N6≤q∨w6.heap.size≤q→Free pc mc p ps pb F G1 G6 q from fun q hq=>by
        have h1:=HKL.out;have h2:=HZ6.out;have h3:=HZ1.out;have hn: ¬q < wr.heap.size:=by omega
        exact⟨fun e=>hn (h1 q (.inl e)),fun e=>hn (h1 q (.inr (.inl e))),fun e=>hn (h1 q (.inr (.inr (.inl e)))),fun e=>hn (h1 q (.inr (.inr (.inr (.inl e))))),fun e=>hn (h1 q (.inr (.inr (.inr (.inr (.inl e)))))),fun e=>hn (h1 q (.inr (.inr (.inr (.inr (.inr (.inl e))))))),fun e=>hn (h1 q (.inr (.inr (.inr (.inr (.inr (.inr (.inl e)))))))),fun e=>by have h4:=(HG6.out q e).2.2;have h5:=(hK6.lG q e).1;omega⟩)
       have HGL:=zak (show ∀q,G6 q→q < w6.heap.size from fun q e=>(hK6.lG q e).1);have HFZ6:=zak (show ∀q,Z q→Free pc mc p ps pb F G1 G6 q from fun q hq=>by
        obtain⟨_,h2,b1,b2,b3,b4,b5,b6,b7,b8⟩:=HZ.out q hq;exact⟨b1,b2,b3,b4,b5,b6,b7,fun e=>(HG6.out q e).1.elim b8 (fun h=>by have:=HZ1.out;omega)⟩)
       have hu6:=HU6.out;have zu6:=hu6.lt;have hnn:n1+ns6≤34359738:=by have:=HN1.out;omega
       clear gV gW gX i7;clear hb1 zb1 hO hX6 hN6 hOf6 hOb6 hYA hY62 hK6 hG6 ho6 al6 HK1 HQ1 HB1 HO1 HD1;obtain⟨ma,mf,mg⟩:=zc8 hu6;have nD:=hu6.frozen;have HNS6:=zak hns6;have HNL:Hid (n6≤35184372088832):=zak (by have h1:=HV6.out.hn;have h2:=HTX.out.le;omega);cases hw:O.wr
       · have HW:Hid (O.wr=false):=zak hw;clear hw;go_wp2_with (at_builtin;refine zyo (G:=fun g'=>Z g'∨N6≤g'∨w6.heap.size≤g') _ rfl _ _ rfl A1 n1 c1 r ds' rfl HQ6.out As6 ns6 cs6 (frmL T.X.nout O.ms) ds6 rfl HF6.out (fun g' h=> .inr (.inr (by have:=HZ7.out;omega))) (fun g' _ h=> .inl h) (fun g' _ h=> .inr (.inl h)) hnn ?_;intro A7 c7 w7 hQ7 hO7)
         have HK7:=zak (HK6.out.far hO7 (fun q hq _=>HFZ6.out q hq));have HQ7:=zak (hQ7.mono (G:=fun g'=>(Z g'∨N6≤g'∨w6.heap.size≤g')∧ g' < w7.heap.size) (fun q h1 h2=>⟨h2,h1⟩));have HO7:=zak (HO6.out.trans hO7 (fun q hq h=>(HF.out q (.inr (.inr h))).elim id (fun hh=>by omega)));have HS7:=zak hO7.size;have HZN7:=zak (show ∀q,(Z q∨N6≤q∨w6.heap.size≤q)∧ q < w7.heap.size→N≤q∧q < w7.heap.size∧Free pc mc p ps pb F G1 G6 q from fun q hq=>by
          rcases hq.1 with h | h
          · exact⟨(HZ.out q h).1,hq.2,HFZ6.out q h⟩
          · refine⟨?_,hq.2,HFR6.out q h⟩;have h1:=HS0.out;have h2:=HZ1.out;have h3:=HZ6.out;omega)
         have HFU7:=zak (show ∀q,F q∨G1 q∨(Z q∨N6≤q∨w6.heap.size≤q)∧ q < w7.heap.size→U q∨W0.heap.size≤q from fun q hq=>by
          have h1:=HS0.out;have h2:=HZ1.out;have h3:=HZ6.out;rcases hq with h | h | ⟨h | h,_⟩
          · exact HF.out q (.inl h)
          · exact HF.out q (.inr (.inl h))
          · exact HF.out q (.inr (.inr h))
          · right;omega)
         have HTE:=zak (show tkRn L (i+1) T0=⟨T.C,X6,T.V,r ++ frmL T.X.nout O.ms⟩ by rw[HTN.out];exact tk_s HFR.out HID.out HOq.out.symm HXq.out.symm HW.out);clear hQ7 hO7;go_wp2_with fail
         have HRR:=zak (show TR N pc mc p ps pb pd L W0 U A7 (n1+ns6) c7 (tkRn L (i+1) T0) w7∧CTk (tkRn L (i+1) T0).C (k0+(i+1))∧ (tkRn L (i+1) T0).l.length≤2000+2000 * (i+1) from by
          rw[HTE.out];refine⟨⟨F,G1,G6,_,_,HK7.out,HQ7.out,HZN7.out,HO7.out,HFU7.out⟩,⟨HCT.out.bnd.mono,HCT.out.wk⟩,?_⟩;show (r ++ frmL T.X.nout O.ms).length≤_;rw[←HQ7.out.hn]
          have:=HN1.out
          have:=HNS6.out
          omega)
         exact⟨⟨i+1,A7,n1+ns6,c7,by congr 1,rfl,by omega,HRR⟩,by simp only[intOf];omega⟩
       · have HW:Hid (O.wr=true):=zak hw;clear hw;go_wp2_with (at_builtin;refine zyo (G:=fun g'=>Z g'∨N6≤g'∨w6.heap.size≤g') _ rfl _ _ rfl A1 n1 c1 r ds' rfl HQ6.out As6 ns6 cs6 (frmL T.X.nout O.ms) ds6 rfl HF6.out (fun g' h=> .inr (.inr (by have:=HZ7.out;omega))) (fun g' _ h=> .inl h) (fun g' _ h=> .inr (.inl h)) hnn ?_;intro A7 c7 w7 hQ7 hO7;have hu7:Blk w7 w6.heap.size 46 #[.int .i64 O.ix,.int .i64 O.sub,.slice A6 n6 c6']:=(hO7.block _ HU6.out.lt (fun hq=>by have h1:=(HZ.out _ hq).2.1;have h2:=HZ1.out;have h3:=HZ6.out.1;omega)).trans HU6.out;have zu7:=hu7.lt;have e70:=hu7.cell 0 (u:= .int .i64 O.ix) rfl;have e71:=hu7.cell 1 (u:= .int .i64 O.sub) rfl;have e72:=hu7.cell 2 (u:= .slice A6 n6 c6') rfl)
         have HK7:=zak (HK6.out.far hO7 (fun q hq _=>HFZ6.out q hq));have HQ7:=zak (hQ7.mono (G:=fun g'=>(Z g'∨N6≤g'∨w6.heap.size≤g')∧ g' < w7.heap.size) (fun q h1 h2=>⟨h2,h1⟩));have HO7:=zak (HO6.out.trans hO7 (fun q hq h=>(HF.out q (.inr (.inr h))).elim id (fun hh=>by omega)));have HS7:=zak hO7.size;have HZN7:=zak (show ∀q,(Z q∨N6≤q∨w6.heap.size≤q)∧ q < w7.heap.size→N≤q∧q < w7.heap.size∧Free pc mc p ps pb F G1 G6 q from fun q hq=>by
          rcases hq.1 with h | h
          · exact⟨(HZ.out q h).1,hq.2,HFZ6.out q h⟩
          · refine⟨?_,hq.2,HFR6.out q h⟩;have h1:=HS0.out;have h2:=HZ1.out;have h3:=HZ6.out;omega)
         have HFU7:=zak (show ∀q,F q∨G1 q∨(Z q∨N6≤q∨w6.heap.size≤q)∧ q < w7.heap.size→U q∨W0.heap.size≤q from fun q hq=>by
          have h1:=HS0.out;have h2:=HZ1.out;have h3:=HZ6.out;rcases hq with h | h | ⟨h | h,_⟩
          · exact HF.out q (.inl h)
          · exact HF.out q (.inr (.inl h))
          · exact HF.out q (.inr (.inr h))
          · right;omega)
         have hzb:=HZ7.out;have HV7:=zak (show zdv w7 (wr.alloc (.cells #[.int .i64 f.id,.bool f.re,.slice d.1 f.data.length d.2] 69)).heap.size A6 n6 c6' O.b from ⟨HV6.out.hn,HV6.out.own.keep (fun q hB hlt _=>hO7.block q hlt (fun hq=>by have h1:=(HZ.out q hq).2.1;have h2:=HZ1.out;omega))⟩);clear hQ7 hO7 hu7 zu7 e70 e71 e72;refine (zvj HK7.out.sk O.ix O.sub A6 n6 c6' O.b HV7.out.hn HV7.out.le HNL.out HV7.out.sl).mono ?_;rintro e w8 ⟨rfl,hK8,ho8⟩;obtain⟨code,hcode,hcl⟩:=zwj (L:=L) (ix:=O.ix) (sub:=O.sub) (b:=O.b);rw[hcode];have HCO:=zak hcode;have HK8:=zak (HK7.out.set hK8 ho8);have HQ8:=zak (HQ7.out.keep (w':=w8) (fun g' hg' hlt'=>ho8.block g' hlt' (HZN7.out g' hg').2.2.2.2.2.2.2.1))
         have HO8:=zak (HO7.out.trans ho8 (fun q hq h=>(HF.out q (.inl h)).elim id (fun hh=>by omega)));have HS8:=zak ho8.size;have HFZ8:=zak (show ∀q,(Z q∨N6≤q∨w6.heap.size≤q)∧ q < w7.heap.size→Free pc mc p ps pb (fun g=>(F g∨w7.heap.size≤g)∧ g < w8.heap.size) G1 G6 q from fun q hq=>by
          obtain⟨_,h2,b1,b2,b3,b4,b5,b6,b7,b8⟩:=HZN7.out q hq;exact⟨b1,b2,b3,b4,b5,fun e=>e.1.elim b6 (fun hh=>by omega),b7,b8⟩)
         clear hK8 ho8 hcode;go_wp2_with fail
         refine (zvh HK8.out.sk code hcl).mono ?_;rintro e w9 ⟨N9,As9,ns9,cs9,ds9,rfl,hN9,hO9,hK9,ho9⟩;have HK9:=zak (HK8.out.srv hK9 ho9 (fun q h=> .inl h));have HQ9:=zak (HQ8.out.keep (w':=w9) (fun g' hg' hlt'=>ho9.block g' hlt' (fun e=>by
          obtain⟨_,_,b3,b4,b5,_⟩:=HFZ8.out g' hg';rcases e with e | e | e
          · exact b3 e
          · exact b4 e
          · exact b5 e)))
         have HO9:=zak (HO8.out.trans ho9 (fun q _ hq=>by
          obtain⟨u1,u2,u3,u4,u5⟩:=HU.out;rcases hq with rfl | rfl | rfl
          · exact u3
          · exact u4
          · exact u5))
         have HF9:=zak hO9.1;have HZ9:=zak (And.intro ho9.size hN9);have hns9:ns9≤2:=by
          rw[hO9.1.hn];have h1:=zqk (id:=X6.nout) (l:=sdAL X6 code);have h2:=zu1 X6.sg code;have h3:=zu2 X6.bk code;have h4:(sdAL X6 code).length=(answerL X6.sg code).length+(bAnswerL X6.bk code).length:=by unfold sdAL;rw[List.length_append]
          omega
         have HNS9:=zak hns9;have hnn2:n1+ns6+ns9≤34359738:=by have:=HN1.out;have:=HNS6.out;omega
         clear hN9 hO9 hK9 ho9 HK8 HQ8 HO8 hnn;go_wp2_with (at_builtin;refine zyo (G:=fun g'=>((Z g'∨N6≤g'∨w6.heap.size≤g')∧ g' < w7.heap.size)∨ N9≤g'∨w9.heap.size≤g') _ rfl _ _ rfl A7 (n1+ns6) c7 (r ++ frmL T.X.nout O.ms) (ds' ++ ds6) rfl HQ9.out As9 ns9 cs9 (frmL X6.nout (sdAL X6 code)) ds9 rfl HF9.out (fun g' h=> .inr (.inr h)) (fun g' _ h=> .inl h) (fun g' _ h=> .inr (.inl h)) hnn2 ?_;intro A10 c10 w10 hQ10 hO10)
         have HK10:=zak (HK9.out.far hO10 (fun q hq _=>HFZ8.out q hq));have HQ10:=zak (hQ10.mono (G:=fun g'=>(((Z g'∨N6≤g'∨w6.heap.size≤g')∧ g' < w7.heap.size)∨ N9≤g'∨w9.heap.size≤g')∧ g' < w10.heap.size) (fun q h1 h2=>⟨h2,h1⟩));have HO10:=zak (HO9.out.trans hO10 (fun q hq h=>(HFU7.out q (.inr (.inr h))).elim id (fun hh=>by omega)));have HTE:=zak (show tkRn L (i+1) T0=⟨T.C,sdAS X6,putV L T.V O.ix O.sub O.b false,(r ++ frmL T.X.nout O.ms) ++ frmL X6.nout (sdAL X6 code)⟩ by
          rw[HTN.out,show X6.nout=T.X.nout by rw[HXq.out,(zvg L T.V T.X f).2]];exact tk_w HFR.out HID.out HOq.out.symm HXq.out.symm HW.out HCO.out)
         have HRR:=zak (show TR N pc mc p ps pb pd L W0 U A10 (n1+ns6+ns9) c10 (tkRn L (i+1) T0) w10∧CTk (tkRn L (i+1) T0).C (k0+(i+1))∧ (tkRn L (i+1) T0).l.length≤2000+2000 * (i+1) from by
          rw[HTE.out];have h1:=HS0.out;have h2:=HZ1.out;have h3:=HZ6.out;have h4:=HZ7.out;have h5:=HS7.out;have h6:=HS8.out;have h7:=HZ9.out;refine⟨⟨_,G1,G6,_,_,HK10.out,HQ10.out,?_,HO10.out,?_⟩,⟨HCT.out.bnd.mono,HCT.out.wk⟩,?_⟩
          · intro q hq;rcases hq.1 with h | h
            · exact⟨(HZN7.out q h).1,hq.2,HFZ8.out q h⟩
            · refine⟨by omega,hq.2,?_⟩;have hk:=HK10.out;have hn:w8.heap.size≤q:=by omega
              have hlo:=HKL.out;exact⟨fun e=>by have:=hlo q (.inl e);omega,fun e=>by have:=hlo q (.inr (.inl e));omega,fun e=>by have:=hlo q (.inr (.inr (.inl e)));omega,fun e=>by have:=hlo q (.inr (.inr (.inr (.inl e))));omega,fun e=>by have:=hlo q (.inr (.inr (.inr (.inr (.inl e)))));omega,fun e=>by have:=e.2;omega,fun e=>by have:=hlo q (.inr (.inr (.inr (.inr (.inr (.inr (.inl e)))))));omega,fun e=>by have:=HGL.out q e;omega⟩
          · intro q hq;rcases hq with h | h | h
            · rcases h.1 with h | h
              · exact HF.out q (.inl h)
              · right;omega
            · exact HF.out q (.inr (.inl h))
            · rcases h.1 with h | h
              · exact HFU7.out q (.inr (.inr h))
              · right;omega
          · show ((r ++ frmL T.X.nout O.ms) ++ frmL X6.nout (sdAL X6 code)).length≤_;rw[←HQ10.out.hn]
            have:=HN1.out
            have:=HNS6.out
            have:=HNS9.out
            omega)
         clear hQ10 hO10;go_wp2_with fail
         exact⟨⟨i+1,A10,n1+ns6+ns9,c10,by congr 1,rfl,by omega,HRR⟩,by simp only[intOf];omega⟩
     · have d0:(f.id == 1541)=false:=by simp[hid]
       have HID:=zak hid;clear hid;obtain⟨gV,gW,gX⟩:=zc8 hb1;have i7:=hb1.frozen;go_wp2_with fail
       obtain⟨kb1,kb2⟩:=HCT.out.clb (by omega);refine (zx0 T.C f d.1 f.data.length d.2 _ HK1.out.cv kb1 kb2 rfl HD1.out.1.le HD1.out.1.sl).mono ?_;rintro e w6 hR;obtain⟨N6,As6,ns6,cs6,ds6,rfl,hOf6,hN6,ho6,hK6⟩:=HK1.out.cli hR;have hns6:ns6≤1000:=by rw[hOf6.1.hn];exact zyy _ _
       have HNS6:=zak hns6;have HK6:=zak hK6;have HQ6:=zak (HQ1.out.keep (w':=w6) (fun g' hg' hlt'=>ho6.block g' hlt' (fun e=>by
        obtain⟨_,_,b1,b2,_,_,_,_,b7,_⟩:=HZ.out g' hg';rcases e with e | e | e
        · exact b1 e
        · exact b2 e
        · exact b7 e)))
       have HF6:=zak hOf6.1;have HO6:=zak (HO1.out.trans ho6 (fun q hq h=>by
        obtain⟨u1,u2,u3,u4,u5⟩:=HU.out;rcases h with rfl | rfl | h
        · exact u1
        · exact u2
        · exact (HF.out q (.inr (.inl h))).elim id (fun hh=>by omega)))
       have HZ6:=zak (And.intro ho6.size hN6);have HFZ6:=zak (show ∀q,Z q→Free pc mc p ps pb F (fun g=>(G1 g∨(wr.alloc (.cells #[.int .i64 f.id,.bool f.re,.slice d.1 f.data.length d.2] 69)).heap.size≤g)∧ g < N6∧g < w6.heap.size) G2 q from fun q hq=>by
        obtain⟨_,h2,b1,b2,b3,b4,b5,b6,b7,b8⟩:=HZ.out q hq;exact⟨b1,b2,b3,b4,b5,b6,fun e=>e.1.elim b7 (fun h=>by have:=HZ1.out;omega),b8⟩)
       have hnn:n1+ns6≤34359738:=by have:=HN1.out;omega
       clear gV gW gX i7;clear hb1 zb1 hR hN6 hOf6 hK6 ho6 HK1 HQ1 HB1 HO1 HD1 kb1 kb2;go_wp2_with (at_builtin;refine zyo (G:=fun g'=>Z g'∨N6≤g'∨w6.heap.size≤g') _ rfl _ _ rfl A1 n1 c1 r ds' rfl HQ6.out As6 ns6 cs6 (cRecvL T.C f) ds6 rfl HF6.out (fun g' h=> .inr (.inr h)) (fun g' _ h=> .inl h) (fun g' _ h=> .inr (.inl h)) hnn ?_;intro A7 c7 w7 hQ7 hO7)
       have HK7:=zak (HK6.out.far hO7 (fun q hq _=>HFZ6.out q hq));have HQ7:=zak (hQ7.mono (G:=fun g'=>(Z g'∨N6≤g'∨w6.heap.size≤g')∧ g' < w7.heap.size) (fun q h1 h2=>⟨h2,h1⟩));have HO7:=zak (HO6.out.trans hO7 (fun q hq h=>(HF.out q (.inr (.inr h))).elim id (fun hh=>by omega)));have HTE:=zak (show tkRn L (i+1) T0=⟨cRecvS T.C f,T.X,T.V,r ++ cRecvL T.C f⟩ by rw[HTN.out];exact tk_c HFR.out HID.out);have HRR:=zak (show TR N pc mc p ps pb pd L W0 U A7 (n1+ns6) c7 (tkRn L (i+1) T0) w7∧CTk (tkRn L (i+1) T0).C (k0+(i+1))∧ (tkRn L (i+1) T0).l.length≤2000+2000 * (i+1) from by
        rw[HTE.out];have h1:=HS0.out;have h2:=HZ1.out;have h3:=HZ6.out;refine⟨⟨F,_,G2,_,_,HK7.out,HQ7.out,?_,HO7.out,?_⟩,zyu HCT.out f,?_⟩
        · intro q hq;rcases hq.1 with h | h
          · exact⟨(HZ.out q h).1,hq.2,HFZ6.out q h⟩
          · refine⟨by omega,hq.2,?_⟩;have hlo:=HKL.out;exact⟨fun e=>by have:=hlo q (.inl e);omega,fun e=>by have:=hlo q (.inr (.inl e));omega,fun e=>by have:=hlo q (.inr (.inr (.inl e)));omega,fun e=>by have:=hlo q (.inr (.inr (.inr (.inl e))));omega,fun e=>by have:=hlo q (.inr (.inr (.inr (.inr (.inl e)))));omega,fun e=>by have:=hlo q (.inr (.inr (.inr (.inr (.inr (.inl e))))));omega,fun e=>by have:=e.2;omega,fun e=>by have:=hlo q (.inr (.inr (.inr (.inr (.inr (.inr (.inr e)))))));omega⟩
        · intro q hq;rcases hq with h | h | h
          · exact HF.out q (.inl h)
          · rcases h.1 with h | h
            · exact HF.out q (.inr (.inl h))
            · right;omega
          · rcases h.1 with h | h
            · exact HF.out q (.inr (.inr h))
            · right;omega
        · show (r ++ cRecvL T.C f).length≤_;rw[←HQ7.out.hn]
          have:=HN1.out
          have:=HNS6.out
          omega)
       clear hQ7 hO7;go_wp2_with fail
       exact⟨⟨i+1,A7,n1+ns6,c7,by congr 1,rfl,by omega,HRR⟩,by simp only[intOf];omega⟩
  · have hend:tkRn L 600 T0=T:=by
     by_cases h6:i=600
     · rw[←h6];exact hTq.symm
     · have h0:n=0:=by omega
       have e:600=i+(600 - i):=by omega
       rw[e,zr3,←hTq];exact zr2 _ (List.eq_nil_of_length_eq_zero (by rw[←hnl];exact h0))
    have HE:=zak (show (∃A' n' c',TR N pc mc p ps pb pd L W0 U A' n' c' (tkRn L 600 T0) wr)∧ CTk (tkRn L 600 T0).C (k0+600) from ⟨⟨A,n,c,by rw[hend];exact⟨F,G1,G2,Z,ds,hk,hq,hz,ho,hF⟩⟩,by
     rw[hend];obtain⟨⟨b1,b2,⟨b3,b4⟩,b5⟩,b6⟩:=hct;exact⟨⟨by omega,by omega,⟨b3,by omega⟩,b5⟩,b6⟩⟩)
    have hlt':600≤i∨(i < 600∧n=0):=by omega
    clear hk hq hz ho hF hct hln hTq hend HR hnl;rcases hlt' with h | ⟨h1,h2⟩
    · go_wp2_with fail
      go_end0
      exact⟨rfl,HE.out⟩
    · subst h2;go_wp2_with fail
      go_end0
      exact⟨rfl,HE.out⟩
end
end
section
open Go.RowKit Go.Maps
def TS (N pc mc p ps pb pd:Nat) (L:List Ent) (C:CliS) (X:SdoS) (V:List (List UInt8)) (W:World):Prop:= ∃F G1 G2,TKM N pc mc p ps pb pd L F G1 G2 C X V W
theorem zy9 (C:CliS)(ix sub:Int)(b:List UInt8)(m:Int):(cWriteL C ix sub b m).length≤2000:=by
 have h:∀M,(cSend C [M]).length≤2000:=fun M=>by have:=zyx C M;omega
 unfold cWriteL
 (repeat' split)
 · exact Nat.zero_le _
 all_goals exact h _
theorem zza (C:CliS)(ix sub m:Int):(cReadL C ix sub m).length≤2000:=by
 have h:∀M,(cSend C [M]).length≤2000:=fun M=>by have:=zyx C M;omega
 unfold cReadL
 (repeat' split)
 · exact Nat.zero_le _
 all_goals exact h _
theorem zzb {C:CliS}{ix sub m:Int}(hp:PlcOk ix sub){b:List UInt8}(hb:b.length≤2000)(hm:0≤m∧m≤2):CTk (cWriteS C ix sub b m) 0:=by
 have hbg:=zy0 hp hm;unfold cWriteS cBegS;rw[if_neg (by rw[hbg];decide)];split
 · exact⟨⟨hb,Nat.zero_le _,⟨Int.le_refl _,by dsimp only;omega⟩,⟨Int.le_refl _,by dsimp only;omega⟩⟩,⟨by show (0:Int)≤ 16;decide,by show (16:Int)≤ 21;decide⟩,fun _=>rfl⟩
 split
 · exact⟨⟨hb,Nat.zero_le _,⟨by dsimp only;omega,by dsimp only;omega⟩,⟨Int.le_refl _,by dsimp only;omega⟩⟩,⟨by show (0:Int)≤ 12;decide,by show (12:Int)≤ 21;decide⟩,fun _=>rfl⟩
 · exact⟨⟨hb,Nat.zero_le _,⟨Int.le_refl _,by dsimp only;omega⟩,⟨Int.le_refl _,by dsimp only;omega⟩⟩,⟨by show (0:Int)≤ 12;decide,by show (12:Int)≤ 21;decide⟩,fun _=>rfl⟩
theorem zzc {C:CliS}{ix sub m:Int}(hp:PlcOk ix sub)(hm:0≤m∧m≤2):CTk (cReadS C ix sub m) 0:=by
 have hbg:=zy0 hp hm;unfold cReadS cBegS;rw[if_neg (by rw[hbg];decide)];split
 · exact⟨⟨Nat.zero_le _,Nat.zero_le _,⟨Int.le_refl _,by dsimp only;omega⟩,⟨Int.le_refl _,by dsimp only;omega⟩⟩,⟨by show (0:Int)≤ 19;decide,by show (19:Int)≤ 21;decide⟩,fun _=>rfl⟩
 · exact⟨⟨Nat.zero_le _,Nat.zero_le _,⟨Int.le_refl _,by dsimp only;omega⟩,⟨Int.le_refl _,by dsimp only;omega⟩⟩,⟨by show (0:Int)≤ 14;decide,by show (14:Int)≤ 21;decide⟩,fun _=>rfl⟩
section
variable {N pc mc p ps pb pd:Nat} {L:List Ent} {C C':CliS} {X:SdoS} {V:List (List UInt8)} {W W':World}
theorem TS.step (h:TS N pc mc p ps pb pd L C X V W)(hb:Below W.heap.size W W'):TS N pc mc p ps pb pd L C X V W':=by
 obtain⟨F,G1,G2,hk⟩:=h;exact⟨F,G1,G2,hk.step hb⟩
theorem TS.sk (h:TS N pc mc p ps pb pd L C X V W):∃F G2,SKM N p ps pb pd L F G2 V X W:=by
 obtain⟨F,G1,G2,hk⟩:=h;exact⟨F,G2,hk.sk⟩
theorem TS.cv (h:TS N pc mc p ps pb pd L C X V W):∃G1,CV_ W G1 pc mc C:=by
 obtain⟨F,G1,G2,hk⟩:=h;exact⟨G1,hk.cv⟩
def TU (U:Nat→Prop) (N pc mc p ps pb pd:Nat) (L:List Ent) (C:CliS) (X:SdoS) (V:List (List UInt8)) (W:World):Prop:= ∃F G1 G2,TKM N pc mc p ps pb pd L F G1 G2 C X V W∧(U pc∧U mc∧U p∧U ps∧U pb)∧ ∀g,F g∨G1 g→U g
theorem TS.tu (h:TS N pc mc p ps pb pd L C X V W):TU (fun g=>N≤g) N pc mc p ps pb pd L C X V W:=by
 obtain⟨F,G1,G2,hk⟩:=h;exact⟨F,G1,G2,hk,⟨hk.clo.1,hk.clo.2,hk.sk.lo.1,hk.sk.lo.2.1,hk.sk.lo.2.2⟩,fun g hg=>hg.elim (fun h=>(hk.sk.lF g h).1) (fun h=>(hk.g1 g h).1)⟩
theorem TS.tu_step (h:TS N pc mc p ps pb pd L C X V W)(hb:Below W.heap.size W W'):TU (fun g=>N≤g∧(g < W.heap.size∨W'.heap.size≤g)) N pc mc p ps pb pd L C X V W':=by
 obtain⟨F,G1,G2,hk⟩:=h;obtain⟨c1,c2⟩:=hk.chi;obtain⟨s1,s2,s3⟩:=hk.sk.dv.lt;exact⟨F,G1,G2,hk.step hb,⟨⟨hk.clo.1,.inl c1⟩,⟨hk.clo.2,.inl c2⟩,⟨hk.sk.lo.1,.inl s1⟩,⟨hk.sk.lo.2.1,.inl s2⟩,⟨hk.sk.lo.2.2,.inl s3⟩⟩,fun g hg=>hg.elim (fun h=>⟨(hk.sk.lF g h).1,.inl (hk.sk.lF g h).2⟩) (fun h=>⟨(hk.g1 g h).1,.inl (hk.g1 g h).2.1⟩)⟩
variable {U:Nat→Prop}
def CalR (U:Nat→Prop) (N pc mc p ps pb pd:Nat) (L:List Ent) (C':CliS) (X:SdoS) (V:List (List UInt8)) (l:List Frm) (W:World) (e:Ending) (W':World):Prop:=
 ∃As ns cs,e= .returned (.slice As ns cs)∧ (TR N pc mc p ps pb pd L W' U As ns cs ⟨C',X,V,l⟩ W'∧(U pc∧U mc∧U p∧U ps∧U pb))∧ zd0 U W W'
theorem zzd {F G1 G2:Nat→Prop}{l:List Frm}{e:Ending}(hk:TKM N pc mc p ps pb pd L F G1 G2 C X V W)(hU:U pc∧U mc∧U p∧U ps∧U pb)(hF:∀g,F g∨G1 g→U g)(hN:N≤W.heap.size)(hM:∀g,W.heap.size≤g→U g)(hR:zw3 W G1 pc mc C' l e W'):CalR U N pc mc p ps pb pd L C' X V l W e W':=by
 obtain⟨N1,As,ns,cs,ds,rfl,hO,hN1,ho,hk'⟩:=hk.cli hR;have hz:=ho.size;obtain⟨c1,c2⟩:=hk.chi;obtain⟨s1,s2,s3⟩:=hk.sk.dv.lt;have hlo:∀i,i=pc∨i=mc∨G1 i→U i:=by
  rintro i (rfl | rfl | hi)
  · exact hU.1
  · exact hU.2.1
  · exact hF i (.inr hi)
 refine⟨As,ns,cs,rfl,⟨⟨F,_,G2,fun g=>N1≤g∧g < W'.heap.size,ds,hk',(QFr.of hO.1).mono (fun g h1 h2=>⟨h2,h1⟩),?_,zd0.refl _ _,?_⟩,hU⟩,ho.mono (fun i _ h=>hlo i h)⟩
 · rintro g ⟨h1,h2⟩;exact⟨by omega,h2,by omega,by omega,by omega,by omega,by omega,fun hf=>by have:=(hk.sk.lF g hf).2;omega,fun hg=>by have:=hg.2.1;omega,fun hg=>by have:=(hk.sk.lG g hg).1;omega⟩
 · rintro g (h | h | h)
   · exact .inl (hF g (.inl h))
   · left;rcases h.1 with h1 | h1
     · exact hF g (.inr h1)
     · exact hM g h1
   · left;exact hM g (by have:=h.1;omega)
theorem zze (h:TU U N pc mc p ps pb pd L C X V W)(hw:0≤C.wk∧C.wk≤21)(ix sub mode:Int)(b:List UInt8)(Ab:Option Addr)(nb cb:Nat)(hnb:nb=b.length)(hl:b.length≤2000)(hs:∀W',zd0 U W W'→Sl W' Ab (b.map bv))(hN:N≤W.heap.size)(hM:∀g,W.heap.size≤g→U g) :
 Calls Tryz.prog 30 #[.pointer (some ⟨pc,0,none⟩),.int .i64 ix,.int .i64 sub,.slice Ab nb cb,.int .i64 mode] W (CalR U N pc mc p ps pb pd L (cWriteS C ix sub b mode) X V (cWriteL C ix sub b mode) W):=by
 obtain⟨F,G1,G2,hk,hU,hF⟩:=h;refine (zyl C ix sub mode b Ab nb cb W hk.cv hw hnb (by omega) (fun W' ho=>hs W' (ho.mono (fun i _ hi=>?_)))).mono ?_
 · rcases hi with rfl | rfl | hi
   · exact hU.1
   · exact hU.2.1
   · exact hF i (.inr hi)
 · rintro e W' hR;exact zzd hk hU hF hN hM hR
theorem zzf (h:TU U N pc mc p ps pb pd L C X V W)(hw:0≤C.wk∧C.wk≤21)(ix sub mode:Int)(hN:N≤W.heap.size)(hM:∀g,W.heap.size≤g→U g) :
 Calls Tryz.prog 33 #[.pointer (some ⟨pc,0,none⟩),.int .i64 ix,.int .i64 sub,.int .i64 mode] W (CalR U N pc mc p ps pb pd L (cReadS C ix sub mode) X V (cReadL C ix sub mode) W):=by
 obtain⟨F,G1,G2,hk,hU,hF⟩:=h;refine (zym C ix sub mode W hk.cv hw).mono ?_;rintro e W' hR;exact zzd hk hU hF hN hM hR
theorem zzg {A:Option Addr}{n c:Nat}{T0:Tk}(hT:TR N pc mc p ps pb pd L W U A n c T0 W∧(U pc∧U mc∧U p∧U ps∧U pb))(hC:CTk T0.C 0)(hl:T0.l.length≤2000)(hN:N≤W.heap.size) :
 Calls Tryz.prog 29 #[.pointer (some ⟨pc,0,none⟩),.pointer (some ⟨p,0,none⟩),.pointer (some ⟨pd,0,none⟩),.slice A n c] W fun e W'=>e= .returned (.tuple #[])∧ TS N pc mc p ps pb pd L (tkRn L 600 T0).C (tkRn L 600 T0).X (tkRn L 600 T0).V W'∧zd0 U W W':=by
 refine (zy8 (U:=U) A n c T0 0 (by omega) hT.2 hT.1 hC hl hN).mono ?_;rintro e W' ⟨rfl,⟨A',n',c',F,G1,G2,Z,ds,hk,hq,hz,ho,hF⟩,_⟩;exact⟨rfl,⟨F,G1,G2,hk⟩,ho⟩
end
theorem zzh {N:Nat}{W W':World}(h:zd0 (fun g=>N≤g) W W')(hN:N≤W.heap.size):Below N W W':=h.below hN (fun _ h=>h)
theorem zzi {N M M2:Nat}{W W':World}(h:zd0 (fun g=>N≤g∧(g < M∨M2≤g)) W W')(hN:N≤W.heap.size):Below N W W':=h.below hN (fun _ h=>h.1)
theorem zzj {N M M2 n c:Nat}{A:Option Addr}{b:List UInt8}{W W':World}(hO:zdv W M A n c b)(hA:∀g,A=some ⟨g,0,none⟩→ g < M2)(h:zd0 (fun g=>N≤g∧(g < M∨M2≤g)) W W'):zdv W' M A n c b:=
 ⟨hO.hn,hO.own.keep fun g h1 h2 hg=>h.block g h2 (fun hh=>by have:=hA g hg;omega)⟩
structure zzn (C:CliS) (X:SdoS):Prop where
 nd:C.nd=5
 wk:C.wk=0
 nin:X.nin=1541
 nout:X.nout=1413
 sg:X.sg.st=0
 bk:X.bk.st=0
theorem zzk:zzn (cliZ 5) ⟨segZ,blkZ,1541,1413,0⟩:=⟨rfl,rfl,rfl,rfl,rfl,rfl⟩
theorem zzl.idle {L:List Ent}{V:List (List UInt8)}{ix sub:Int}{b:List UInt8}{T:Tk}(h:zzl L V ix sub b T):zzn T.C T.X:=⟨h.nd,h.wk,h.nin,h.nout,h.sg,h.bk⟩
theorem zzm.idle {L:List Ent}{V:List (List UInt8)}{ix sub:Int}{T:Tk}(h:zzm L V ix sub T):zzn T.C T.X:=⟨h.nd,h.wk,h.nin,h.nout,h.sg,h.bk⟩
theorem zzn.w {C:CliS}{X:SdoS}(h:zzn C X):0≤C.wk∧C.wk≤21:=by rw[h.wk];omega
theorem zzn.busy {C:CliS}{X:SdoS}(h:zzn C X):sdBusy X=false:=by
 unfold sdBusy;rw[h.sg,h.bk]
 rfl
theorem zzo {L:List Ent}{V:List (List UInt8)}{ix sub:Int}(h:∀v ∈ V,v.length≤256):(getB L V ix sub).length≤256:=by
 unfold getB;split
 · unfold valK;rw[List.getD_eq_getElem?_getD];cases hv:V[locK L ix sub]? with
   | none=>exact Nat.zero_le _
   | some v=>exact h v (List.mem_of_getElem? hv)
 · exact Nat.zero_le _
theorem zzp (m:Nat):(0:Int)≤ (m:Int) % 3∧(m:Int) % 3≤2:=by omega
end
end Go.Proofs.YtkkpjbjmhaecjaaGreat
