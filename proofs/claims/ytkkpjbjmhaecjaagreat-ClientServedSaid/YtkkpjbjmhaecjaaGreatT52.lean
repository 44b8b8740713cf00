/- None -/
import Derived.Test.YtkkpjbjmhaecjaaGreatT51
namespace Go.Proofs.YtkkpjbjmhaecjaaGreat
set_option linter.all false
set_option maxRecDepth 100000
set_option maxHeartbeats 16000000
section
open Go.RowKit Go.Maps
theorem zz1 (A:Option Addr)(n c:Nat)(L:List Ent)(ix sub:Int)(Ab:Option Addr)(cb:Nat)(b:List UInt8)(m0 m1:Nat)(w:World)(hn:n=L.length)(hL:SlE w A L)(hcb:b.length≤cb)(hsb:Sl w Ab (b.map bv))(h0:m0≤255)(h1:m1≤255) :
 Calls Tryz.prog 6 #[.agg #[.slice A n c,.int .i64 ix,.int .i64 sub,.slice Ab b.length cb,.int .u8 (m0:Nat),.int .u8 (m1:Nat)]] w (TrueB w):=by
 have hB:=zc5 (Below.refl w.heap.size w) (.cells #[.slice A n c,.int .i64 ix,.int .i64 sub,.slice Ab b.length cb,.int .u8 (m0:Nat),.int .u8 (m1:Nat)] 75);have hbg:=zzt A n c L ix sub Ab cb b m0 m1 _ hn (hL.below hB);have HSB:=zak (fun W (h:Below w.heap.size w W)=> hsb.below h);have hq:=zdg w 75 #[.slice A n c,.int .i64 ix,.int .i64 sub,.slice Ab b.length cb,.int .u8 (m0:Nat),.int .u8 (m1:Nat)];unfold caseV at hbg;obtain⟨nb,hnb⟩:∃nb,nb=b.length:=⟨_,rfl⟩;rw[←hnb] at hbg hB hq hcb ⊢;obtain⟨wb,hwb⟩:∃wb,wb=w.alloc (.cells #[.slice A n c,.int .i64 ix,.int .i64 sub,.slice Ab nb cb,.int .u8 (m0:Nat),.int .u8 (m1:Nat)] 75):=⟨_,rfl⟩
 rw[←hwb] at hbg hB hq;have hz0:=hq.lt;have HZ0:=zak hz0;have HNB:=zak hnb;have HB:=zak hB;have HBG:=zak hbg;have HWB:=zak hwb;have HQ:=zak hq;have HM:=zak (zzp m1);have HM0:=zak (zzp m0);clear hn hL hsb hnb hB hbg hz0;rw[hwb] at hq;clear hwb;obtain⟨eK,eL,eM,eN,eP,eQ⟩:=zda hq;have iF:=hq.frozen;go_enter Tryz.func6,Tryz.ntmps6
 go_wp2_with fail
 rw[←HWB.out];refine HBG.out.mono ?_;rintro e w2 (⟨rfl,hb2⟩ | ⟨pc,mc,p,ps,pb,pd,F,G1,G2,rfl,hk,hb2,hp,hbl⟩)
 · have HB2:=zak (zc4 hb2 HB.out);clear eK eL eM eN eP eQ iF;clear hb2 hq;go_wp2_with fail
   refine (zzw _).mono ?_;rintro e w3 ⟨rfl,hb3⟩;go_wp2_with fail
   go_ret
   exact (⟨rfl,zc4 hb3 HB2.out⟩:TrueB w _ _)
 · have HT2:Hid (TS wb.heap.size pc mc p ps pb pd L (cliZ 5) ⟨segZ,blkZ,1541,1413,0⟩ (L.map Ent.df) w2):=zak ⟨F,G1,G2,hk⟩;have HB2:=zak hb2;have HP:=zak hp;have HBL:=zak hbl;have q2:=HQ.out.below hb2 HZ0.out;clear eK eL eM eN eP eQ iF;clear hk hb2 hp hbl hq;obtain⟨di,dj,dm,dY,dZ,ea⟩:=zda q2;have el:=q2.frozen;go_wp2_with fail
   obtain⟨F2,G2,hs2⟩:=HT2.out.sk;have hvl:(svL L (L.map Ent.df)).length≤1000:=by rw[zkm _ _ hs2.vl];exact hs2.ll
   have HVL:=zak hvl;refine (zvk hs2).mono ?_;rintro e w3 ⟨A3,n3,c3,ds3,rfl,hO3,ha3,hb3⟩;have HO3:=zak hO3;have HB3:=zak hb3;have q3:=q2.below hb3 q2.lt;have hs3:=hs2.step hb3;clear di dj dm dY dZ ea el;clear hs2 hvl hO3 ha3 hb3 q2;obtain⟨eb,ed,ee,ef,eg,eh⟩:=zda q3;have fy:=q3.frozen;go_wp2_with fail
   refine (zvm hs3 ix sub Ab nb cb b HNB.out hcb (by have:=HBL.out;have:=HNB.out;omega) (HSB.out _ (zc4 (HB2.out.trans (HB3.out.mono HB2.out.size)) HB.out))).mono ?_;rintro e w4 ⟨rfl,hb4⟩;obtain⟨code,hcode,hcl⟩:=zwj (L:=L) (ix:=ix) (sub:=sub) (b:=b);rw[hcode];have HCO:=zak hcode;have hb24:=zc4 hb4 HB3.out;have HT4:=zak (HT2.out.tu_step hb24);have HB4:=zak (HB2.out.trans (hb24.mono HB2.out.size));have HO4:Hid (OwnSV w4 (fun g=>w2.heap.size≤g∧g < w4.heap.size) A3 n3 c3 (svL L (L.map Ent.df)) ds3):=zak ((HO3.out.below hb4).mono (fun g h1 h2=>⟨h2,h1⟩));have hz4:wb.heap.size≤w4.heap.size:=HB4.out.size
   have HZ4:=zak hz4;have q4:=q3.below hb4 q3.lt;clear eb ed ee ef eg eh fy;clear hs3 hb4 hcode hb24 hz4 q3 HT2 HB2 HO3 HB3;obtain⟨dD,dE,dF,dK,dL,dM⟩:=zda q4;have ey:=q4.frozen;go_wp2_with fail
   refine (zze HT4.out ⟨by decide,by decide⟩ ix sub ((m0:Int) % 3) b Ab nb cb HNB.out HBL.out (fun W h=>HSB.out W (zc4 (HB4.out.trans (zzi h HZ4.out)) HB.out)) HZ4.out (fun g h=>⟨Nat.le_trans HZ4.out h,.inr h⟩)).mono ?_;rintro e w5 ⟨As,ns,cs,rfl,hT5,ho5⟩;have HT5:=zak hT5;have HB5:=zak (HB4.out.trans (zzi ho5 HZ4.out));have HZ5:Hid (wb.heap.size≤w5.heap.size):=zak HB5.out.size;have HO5:=zak (HO4.out.keep (fun g hg hl=>ho5.block g hl (fun hh=>by have:=hh.2;omega)));clear dD dE dF dK dL dM ey;clear hT5 ho5 q4 HT4 HB4 HO4;go_wp2_with fail
   refine (zzg HT5.out (zzb HP.out HBL.out HM0.out) (zy9 _ _ _ _ _) HZ5.out).mono ?_;rintro e w6 ⟨rfl,hT6,ho6⟩;have hen:=zy2 (C:=cliZ 5) (X:=⟨segZ,blkZ,1541,1413,0⟩) (L:=L) (V:=L.map Ent.df) HP.out (b:=b) HBL.out HM0.out rfl ⟨rfl,rfl⟩ rfl rfl ⟨rfl,rfl,rfl⟩;obtain⟨T,hTq⟩:∃T,T=tkRn L 600 ⟨cWriteS (cliZ 5) ix sub b ((m0:Int) % 3),⟨segZ,blkZ,1541,1413,0⟩,L.map Ent.df,cWriteL (cliZ 5) ix sub b ((m0:Int) % 3)⟩:=⟨_,rfl⟩;rw[←hTq] at hen hT6;have HEN:=zak hen;have HT6:=zak hT6;have HB6:=zak (HB5.out.trans (zzi ho6 HZ5.out));have HO6:=zak (HO5.out.keep (fun g hg hl=>ho6.block g hl (fun hh=>by have:=hh.2;omega)))
   obtain⟨G6,hc6⟩:=hT6.cv;obtain⟨F6,G7,hs6⟩:=hT6.sk;have HS6:=zak hs6;obtain⟨R6,hm6,_,_⟩:=hc6.cm;rw[hen.wk] at hm6;have HM6:=zak hm6;have hc35:=zy4 hc6;obtain⟨kc,hkc⟩:∃kc,kc=T.C.code:=⟨_,rfl⟩;rw[←hkc] at hc35;have HC35:=zak hc35;have HKC:Hid (kc=0 ↔ code=0):=zak (by
    rw[hkc,hen.code,HCO.out];omega)
   have HZ6:Hid (wb.heap.size≤w6.heap.size):=zak HB6.out.size;have q6:=HQ.out.below (B:=wb.heap.size) HB6.out HZ0.out;have HQ6:=zak q6;clear hen hT6 ho6 hTq hm6 hc6 hs6 hc35 hkc HT5 HB5 HO5;go_wp2_with fail
   refine (zeo _ HM6.out rfl).mono ?_;rintro e w7 ⟨rfl,hw7⟩;subst hw7;rw[show decide ((0:Int)≠ 0)=false from rfl];go_wp2_with fail
   refine (zvi HS6.out).mono ?_;rintro e w7 ⟨rfl,hw7⟩;subst hw7;rw[HEN.out.idle.busy];go_wp2_with fail
   refine (zep kc _ HC35.out).mono ?_;rintro e w7 ⟨rfl,hw7⟩;subst hw7;by_cases hc0:code=0
   · have hk0:kc=0:=HKC.out.2 hc0;subst hk0;have HC0:=zak hc0;subst hc0;clear hcl;obtain⟨fA,fB,fC,i9,ja,jb⟩:=zda q6;have i8:=q6.frozen;go_wp2_with fail
     have HGL:Hid ((getB L T.V ix sub).length≤256):=zak (zzo HS6.out.hv);refine (zvl HS6.out ix sub).mono ?_;rintro e w7 ⟨A7,n7,c7,b7,rfl,hO7,hb7e,hb7⟩;obtain⟨kg,hkg⟩:=Int.eq_ofNat_of_zero_le (zsw L ix sub);rw[hkg];have HKG:=zak hkg;have HE7:Hid (kg=0→getB L T.V ix sub=b):=zak (fun h=>by
      rw[HEN.out.V];exact zy6 HS6.out.so (by rw[List.length_map]) (by rw[HCO.out];rfl) (by rw[hkg,h];rfl))
     have HT7:=zak (HT6.out.step hb7);have HB7:=zak (HB6.out.trans (hb7.mono HB6.out.size));have HZ7:Hid (wb.heap.size≤w7.heap.size):=zak HB7.out.size;have q7:=q6.below hb7 q6.lt;have HI6:=zak HEN.out.idle;clear fA fB fC i9 ja jb i8;clear hkg hb7e hb7 hO7 HT6 HB6 q6 HQ6 HO6 HM6 HS6 HC35 HKC;obtain⟨jc,jd,je,jf,jg,jh⟩:=zda q7;have kv:=q7.frozen;go_wp2_with fail
     have hrd:=zzf (U:=fun g=>wb.heap.size≤g) HT7.out.tu HI6.out.w ix sub ((m1:Int) % 3) HZ7.out (fun g h=>Nat.le_trans HZ7.out h);refine hrd.mono ?_;clear hrd;rintro e w8 ⟨As8,ns8,cs8,rfl,hT8,ho8⟩;have HT8:=zak hT8;have HB8:=zak (HB7.out.trans (zzh ho8 HZ7.out));have HZ8:Hid (wb.heap.size≤w8.heap.size):=zak HB8.out.size;clear jc jd je jf jg jh kv;clear hT8 ho8 q7 HT7 HB7;go_wp2_with fail
     refine (zzg HT8.out (zzc HP.out HM.out) (zza _ _ _ _) HZ8.out).mono ?_;rintro e w9 ⟨rfl,hT9,ho9⟩;have hen:=zy3 (L:=L) (V:=T.V) (X:=T.X) (C:=T.C) HP.out HGL.out HM.out HI6.out.nd ⟨HI6.out.nin,HI6.out.nout⟩ HI6.out.sg HI6.out.bk;obtain⟨T2,hTq⟩:∃T2,T2=tkRn L 600 ⟨cReadS T.C ix sub ((m1:Int) % 3),T.X,T.V,cReadL T.C ix sub ((m1:Int) % 3)⟩:=⟨_,rfl⟩;rw[←hTq] at hen hT9;have HEN2:=zak hen;have HB9:=zak (HB8.out.trans (zzh ho9 HZ8.out));obtain⟨G9,hc9⟩:=hT9.cv;obtain⟨F9,G10,hs9⟩:=hT9.sk;have HS9:=zak hs9;have HC9:=zak hc9;have hc35:=zy4 hc9;have hkc:T2.C.code=kg:=by rw[hen.code,HKG.out];rfl
     rw[hkc] at hc35;have HC35:=zak hc35;have HWK:Hid (T2.C.wk=0):=zak hen.wk;obtain⟨R9,hm9,_,_⟩:=hc9.cm;rw[hen.wk] at hm9;have HM9:=zak hm9;have q9:=HQ.out.below (B:=wb.heap.size) HB9.out HZ0.out;clear hen hT9 ho9 hTq hm9 hc9 hs9 hc35 hkc HT8 HB8;go_wp2_with fail
     refine (zeo _ HM9.out rfl).mono ?_;rintro e w10 ⟨rfl,hw10⟩;subst hw10;rw[show decide ((0:Int)≠ 0)=false from rfl];go_wp2_with fail
     refine (zvi HS9.out).mono ?_;rintro e w10 ⟨rfl,hw10⟩;subst hw10;rw[HEN2.out.idle.busy];go_wp2_with fail
     refine (zep kg _ HC35.out).mono ?_;rintro e w10 ⟨rfl,hw10⟩;subst hw10;have hs2:=fun (W:World) (h:Below w9.heap.size w9 W)=> zdx (w:=W) cb HNB.out (HSB.out W (zc4 (HB9.out.trans (h.mono HB9.out.size)) HB.out))
     have zq9:=q9.lt;by_cases hg0:kg=0
     · have HDT:Hid (T2.C.data=b):=zak (by rw[HEN2.out.data,HE7.out hg0]);subst hg0;obtain⟨Ad,nd',cd,hcd,hnd,hsd⟩:=zy5 HC9.out;rw[HDT.out] at hnd hsd;have HCD:=zak hcd;have HND:=zak hnd;have HSD:=zak hsd;have hbn:nd'≤1000000:=by
        have h1:=HND.out;have h2:=HBL.out;omega
       have HBN:=zak hbn;clear hcd hnd hsd hbn HEN2;go_upto_region 17 with fail
       obtain⟨kQ,kR,kS,kT,kU,kV⟩:=zda q9;have mh:=q9.frozen;refine wp_region_held_drew (S:=(fun w'=>(∀qA:Addr,qA.block < (w9).heap.size→w'.cell? qA=(w9).cell? qA)∧ Below (w9).heap.size (w9) w')) (by kernel_rfl) ?hS1 (fun hHeld=>?rest1)
       case hS1=>exact kSn
       case' rest1=>skip
       iterate 4 (refine tkN ?_;try simp only[PqL,Act.put])
       refine tkH 6 ?_;try simp only[PqL,Act.put]
       refine tkH 7 ?_;try simp only[PqL,Act.put]
       refine tkH 8 ?_;try simp only[PqL,Act.put]
       refine kRd 4 (fun K hK=>?_)
       go_simp
       refine (zeq Ad nd' cd b _ (show w9.drew.cell? _=_ from HCD.out) HND.out HBN.out (show Sl w9.drew Ad (b.map bv) from HSD.out.below (Below.drew (Below.refl _ _)))).mono ?_;rintro e w10 ⟨A10,c10,rfl,hO10,hb10⟩;have hs1:=zdx (w:=w10) c10 hO10.hn hO10.sl;replace hb10:Below w9.heap.size w9 w10:=⟨hb10.os,hb10.tape,hb10.output,hb10.size,hb10.block⟩;clear hO10;refine hK.out _ _ ?hS11 (fun hHeld=>?rest11)
       case hS11=>exact kSn
       case' rest11=>(clear hK K;try simp only[PqL,Act.put])
       refine kRd 5 (fun K hK=>?_)
       go_simp
       refine hK.out _ _ ?hS14 (fun hHeld=>?rest14)
       case hS14=>exact kSn
       case' rest14=>(clear hK K;try simp only[PqL,Act.put])
       refine tkH 9 ?_;try simp only[PqL,Act.put]
       refine tkH 10 ?_;try simp only[PqL,Act.put]
       refine tkH 11 ?_;try simp only[PqL,Act.put]
       refine kRd 12 (fun K hK=>?_)
       go_simp
       refine (zzw _).mono ?_;rintro e w11 ⟨rfl,hb11⟩;have hb11:Below w9.heap.size w9 w11:=zc4 hb11 hb10;refine hK.out _ _ ?hS20 (fun hHeld=>?rest20)
       case hS20=>exact kSn
       case' rest20=>(clear hK K;try simp only[PqL,Act.put])
       refine tkH 13 ?_;try simp only[PqL,Act.put]
       refine tkH 14 ?_;try simp only[PqL,Act.put]
       refine wpAnyH_done (by kernel_rfl) ?_ _;have hEnd:=hHeld.2
       repeat (clear hHeld)
       have HE:=zak hEnd;clear kQ kR kS kT kU kV mh;clear hEnd hb10 hb11 hs1 hs2 q9 zq9;go_wp2_with fail
       go_ret
       exact (⟨rfl,zc4 (HB9.out.trans (HE.out.mono (HB9.out.size))) HB.out⟩:TrueB w _ _)
     · have e4:((kg:Int) != 0)=true:=by simp[hg0]
       clear hg0;go_upto_region 17 with fail
       refine wp_region_held_drew (S:=(fun w'=>(∀qA:Addr,qA.block < (w9).heap.size→w'.cell? qA=(w9).cell? qA)∧ Below (w9).heap.size (w9) w')) (by kernel_rfl) ?hS24 (fun hHeld=>?rest24)
       case hS24=>exact kSn
       case' rest24=>skip
       iterate 3 (refine tkN ?_;try simp only[PqL,Act.put])
       iterate 7 (refine tkV ?_;try simp only[PqL,Act.put])
       iterate 2 (refine tkN ?_;try simp only[PqL,Act.put])
       refine kRd 12 (fun K hK=>?_)
       go_simp
       refine (zzw _).mono ?_;rintro e w11 ⟨rfl,hb11⟩;replace hb11:Below w9.heap.size w9 w11:=⟨hb11.os,hb11.tape,hb11.output,hb11.size,hb11.block⟩;refine hK.out _ _ ?hS39 (fun hHeld=>?rest39)
       case hS39=>exact kSn
       case' rest39=>(clear hK K;try simp only[PqL,Act.put])
       refine tkH 13 ?_;try simp only[PqL,Act.put]
       refine tkH 14 ?_;try simp only[PqL,Act.put]
       refine wpAnyH_done (by kernel_rfl) ?_ _;have hEnd:=hHeld.2
       repeat (clear hHeld)
       have HE:=zak hEnd;clear hEnd hb11 hs2 q9 zq9;go_wp2_with fail
       go_ret
       exact (⟨rfl,zc4 (HB9.out.trans (HE.out.mono (HB9.out.size))) HB.out⟩:TrueB w _ _)
   · have hk0: ¬kc=0:=fun h=>hc0 (HKC.out.1 h)
     have e1:((kc:Int) == 0)=false:=by simp[hk0]
     have e2:((code:Int) == 0)=false:=by simp[hc0]
     have e3:((code:Int) != 0)=true:=by simp[hc0]
     have HC0:=zak hc0;clear hc0 hk0 hcl;go_wp2_with fail
     refine (zvk HS6.out).mono ?_;rintro e w7 ⟨A7,n7,c7,ds7,rfl,hO7,ha7,hb7⟩;have hV:T.V=L.map Ent.df:=by
      rw[HEN.out.V,zsz (by rw[HCO.out];have:=HC0.out;omega)]
     rw[hV] at hO7;have HO7:=zak hO7;have HO8:=zak (HO6.out.below hb7);have HB7:=zak (HB6.out.trans (hb7.mono HB6.out.size));clear hO7 ha7 hb7 hV HO6 HB6 HM6 HS6 q6 HQ6;go_wp2_with fail
     refine (zz0 A7 A3 n7 n3 c7 c3 (svL L (L.map Ent.df)) _ HO7.out.hn HO8.out.hn HO7.out.own.le HO8.out.own.le (by have:=HO7.out.hn;have:=HVL.out;omega) HO7.out.slV HO8.out.slV).mono ?_;rintro e w8 ⟨rfl,hb8⟩;have HB8:=zak (HB7.out.trans (hb8.mono HB7.out.size));clear hb8 HB7 HO7 HO8;go_wp2_with fail
     refine (zzw _).mono ?_;rintro e w9 ⟨rfl,hb9⟩;go_wp2_with fail
     go_ret
     exact (⟨rfl,zc4 (HB8.out.trans (hb9.mono HB8.out.size)) HB.out⟩:TrueB w _ _)
end
end Go.Proofs.YtkkpjbjmhaecjaaGreat
