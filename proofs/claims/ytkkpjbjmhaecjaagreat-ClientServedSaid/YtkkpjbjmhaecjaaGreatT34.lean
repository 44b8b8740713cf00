/- None -/
import Derived.Test.YtkkpjbjmhaecjaaGreatT33
namespace Go.Proofs.YtkkpjbjmhaecjaaGreat
set_option linter.all false
set_option maxRecDepth 100000
set_option maxHeartbeats 8000000
section
open Go.RowKit Go.Maps
theorem zps (L:List Ent)(V:List (List UInt8))(X:SdoS)(M:Ms):(sdDS L V X M).nin=X.nin∧(sdDS L V X M).nout=X.nout:=by
 unfold sdDS;split
 · exact⟨rfl,rfl⟩
 split
 · split
   · exact⟨rfl,rfl⟩
   split
   · exact⟨rfl,rfl⟩
   · exact⟨rfl,rfl⟩
 · split
   · exact⟨rfl,rfl⟩
   split
   · exact⟨rfl,rfl⟩
   · exact⟨rfl,rfl⟩
theorem zpt (ks:List Int)(b:List UInt8):(resM ks b).data.length≤b.length:=by
 unfold resM;split
 · have h:∀ks,∀x,ofM ks b=some x→x.data.length≤b.length:=by
    intro ks
    induction ks with
    | nil=>intro x hx;cases hx
    | cons k ks ih=>
      intro x hx;unfold ofM at hx;split at hx
      · injection hx with hx
        subst hx;show (if dataB (formI k)=true then (preM k b).data else []).length≤b.length;split
        · show ((b.drop (datF (formI k))).take (datN (formI k) (byt b 0))).length≤b.length
          simp
          omega
        · simp
      · exact ih x hx
   cases ho:ofM ks b with
   | none=>simp[msZ]
   | some x=>exact h ks x ho
 · simp[msZ]
section
variable {F:Nat→Prop} {pd gl n cl cv:Nat} {Av:Option Addr} {L:List Ent} {V:List (List UInt8)} {ds es:List (Option Addr×Nat)} {w:World} {G:Nat→Prop} {p ps pb:Nat} {X:SdoS}
theorem zpu (h:DV w G p ps pb pd X)(hW:SdWf X)(hin:X.nin≠0)(hD:DB 100 w F pd (some ⟨gl,0,none⟩) n cl Av cv L V ds es)(hs:SortedE L)(hn:n≤1000)(hv:∀v ∈ V,v.length≤256)(hF: ¬F p∧ ¬F ps∧ ¬F pb)
 (f:Frm) (A:Option Addr) (m c:Nat) (hm:m=f.data.length) (hc:m≤c) (hA:∀W,zd0 (fun q=>q=p∨q=ps∨q=pb) w W→Sl W A (f.data.map bv)) (hr:sdReq X f=true) :
 Calls Tryz.prog 60 #[.pointer (some ⟨p,0,none⟩),.agg #[.int .i64 f.id,.bool f.re,.slice A m c]] w (DRecR w G p ps pb pd (sdRS L V X f) X.nout (sdRO L V X f)):=by
 obtain⟨P,hP⟩:∃P,P=DRecR w G p ps pb pd (sdRS L V X f) X.nout (sdRO L V X f):=⟨_,rfl⟩;have HP:=zak hP;rw[←hP];obtain⟨h1,h2,h8⟩:f.id=X.nin∧f.re=false∧f.data.length=8:=by unfold sdReq at hr;simpa using hr
 have HR:=zak hr;have HX:=zak (rx_mk h f A m c);have zp:=h.lt;have HL:=zak zp;have c2:w.cell? ⟨p,2,none⟩=some (.int .i64 X.nin):=h.blk.cell 2 rfl;have c4:w.cell? ⟨p,4,none⟩=some (.int .i64 X.left):=h.blk.cell 4 rfl;have f4:=h.blk.frozen 4;obtain⟨k1,k2⟩:=zdh w 69 46 #[.int .i64 f.id,.bool f.re,.slice A m c] #[.int .i64 0,.int .i64 0,.slice none 0 0];have zk1:=k1.lt;have zk2:=k2.lt;have d0:(X.nin == 0)=false:=by simp[hin]
 have d1:(f.id != X.nin)=false:=by simp[h1]
 have d3:((m:Int) != 8)=false:=by simp;omega
 have HD:=zak h;have HW:=zak hW;have HDB:=zak hD;have HSO:=zak hs;have HN:=zak hn;have HV:=zak hv;have HF:=zak hF;have HM:=zak hm;have HC:=zak hc;have HA:=zak hA;have H8:=zak h8;clear hP h hW hin hD hs hn hv hF hm hc hA hr h1 h8;obtain⟨ai,af,ag⟩:=zc8 k1;have aM:=k1.frozen;obtain⟨aB,aC,aD⟩:=zc8 k2;have aO:=k2.frozen;unfold frmV valZ at HX;rw[h2] at HX;go_enter Tryz.func60,Tryz.ntmps60
 go_upto_region 1 with fail
 go_quiet (fail)
 go_upto_region 4 with fail
 refine zed (P:=RX w G p ps pb pd f A m c { X with left:=50 }) ((HX.out.step kBl).left HL.out 50) (fun W hX=>?_);clear ai af ag aM;clear aB aC aD aO;clear k1 k2 zk1 zk2 c2 c4 f4 HX d0 d1 d3;have HX:=zak hX;have k1:=hX.2.2.1;have k2:=hX.2.2.2.1;have zk1:=k1.lt;have zk2:=k2.lt;have zW:=hX.2.1.lt;unfold frmV at k1;unfold valZ at k2;obtain⟨ai,af,ag⟩:=zc8 k1;have aM:=k1.frozen;obtain⟨aB,aC,aD⟩:=zc8 k2;have aO:=k2.frozen;have hAW:Sl W A (f.data.map bv):=HA.out W hX.1;have HRD:=zak (zn5 A m c f.data hX.2.1 HM.out H8.out HC.out hAW);clear hX hAW;go_wp2_with fail
 refine HRD.out.mono ?_;rintro e w3 ⟨A3,n3,c3,rfl,hO,hb⟩;obtain⟨M,hM⟩:∃M,M=resM (sdKs X f.data) f.data:=⟨_,rfl⟩;obtain⟨rc,hrc⟩:∃rc,rc=sdRc X f.data:=⟨_,rfl⟩;replace hO:zdv w3 W.heap.size A3 n3 c3 M.data:=by rw[hM];exact hO
 rw[show resM (sdKs { X with left:=50 } f.data) f.data=M from hM.symm,show sdRc { X with left:=50 } f.data=rc from hrc.symm];have HMq:=zak hM;have HRC:=zak hrc;have HX3:=zak (HX.out.step hb);have hzW0:=HX.out.2.2.2.2;have HO:=zak hO;clear ai af ag aM;clear aB aC aD aO;clear k1 k2 zk1 zk2 zW HX HRD hM hrc hO;have k2:=HX3.out.2.2.2.1;have zk2:=k2.lt;have zW:=HX3.out.2.1.lt;unfold valZ at k2;obtain⟨aB,aC,aD⟩:=zc8 k2;have aO:=k2.frozen;have HX4:=zak (HX3.out.step (zc5 (Below.refl _ _) (.cells (msV M A3 n3 c3) 95)));have hzW:=hb.size;have HDL:=zak (zph M A3 n3 c3 HX4.out.2.1 ⟨HW.out.sg,HW.out.bk⟩ (by rw[HMq.out];exact zog _ _) (HDB.out.keep (fun g hg hlt=>HX4.out.1.block g hlt (fun e=>by rcases e with rfl | rfl | rfl;exact HF.out.1 hg;exact HF.out.2.1 hg;exact HF.out.2.2 hg))) HSO.out HN.out HV.out HF.out.2 HO.out.hn (by have h1:=HO.out.hn;have h2:=zpt (sdKs X f.data) f.data;rw[←HMq.out] at h2;have h3:=H8.out;omega) (fun W' ho=>((HO.out.alloc _).own.keep (fun g hB hlt _=>ho.block g hlt (by have:=HL.out;omega))).sl))
 have k4:=zdg w3 95 (msV M A3 n3 c3);obtain⟨kind,ix,sub,tg,la,cr,sz,size,code,data,sq,bl,em,sum⟩:=M;unfold msV at HX4 HDL k4 ⊢;dsimp only at HX4 HDL k4 ⊢;obtain⟨jw,jx,jy,jz,jA,jB,jC,jD,jE,jF,iR,iS,iT,iU⟩:=zde k4;have kI:=k4.frozen;clear hb;by_cases h0:rc=0
 · subst h0;have d0:(((0:Nat):Int) != 0)=false:=rfl;go_wp2_with fail
   refine HDL.out.mono ?_;rintro e w5 ⟨Y,As,ns,cs,ds5,A5,n5,c5,rfl,h1,h2,h3,h4,h5,h6⟩;have hbm:BMOk (⟨kind,ix,sub,tg,la,cr,sz,size,code,data,sq,bl,em,sum⟩:Ms):=by rw[HMq.out];exact zog _ _
   have hok:AllOk (sdDO L V { X with left:=50 } (⟨kind,ix,sub,tg,la,cr,sz,size,code,data,sq,bl,em,sum⟩:Ms)).ms:=zo4 HV.out;have hln:(sdDO L V { X with left:=50 } (⟨kind,ix,sub,tg,la,cr,sz,size,code,data,sq,bl,em,sum⟩:Ms)).ms.length≤1000:=zpq (X:={ X with left:=50 }) HW.out.bk hbm;have hS:sdRS L V X f=sdDS L V { X with left:=50 } (⟨kind,ix,sub,tg,la,cr,sz,size,code,data,sq,bl,em,sum⟩:Ms):=by unfold sdRS;rw[if_pos HR.out,if_neg (fun h=>h HRC.out.symm),HMq.out]
   have hQ:sdRO L V X f=sdDO L V { X with left:=50 } (⟨kind,ix,sub,tg,la,cr,sz,size,code,data,sq,bl,em,sum⟩:Ms):=by unfold sdRO;rw[if_pos HR.out,if_neg (fun h=>h HRC.out.symm),HMq.out];rfl
   obtain⟨O,hO9⟩:∃O,O=sdDO L V { X with left:=50 } (⟨kind,ix,sub,tg,la,cr,sz,size,code,data,sq,bl,em,sum⟩:Ms):=⟨_,rfl⟩;rw[←hO9] at h1 h2 hok hln hQ;rw[←hO9];have HS9:=zak hS;have HQ9:=zak hQ;have hO3:zd0 (fun q=>q=p∨q=ps∨q=pb) w w5:=HX4.out.1.trans (h6.mono (G:=fun q=>q=p∨q=ps∨q=pb) (fun q _ h=> .inr h)) (fun _ _ h=>h);have HO3:=zak hO3;have H1:=zak h1;have H2:=zak h2;have H3:=zak h3;have H4:=zak h4;have H5:=zak h5;have k5:Blk w5 (w.heap.size+1) 46 valZ:=(h6.block _ HX4.out.2.2.2.1.lt (by omega)).trans HX4.out.2.2.2.1;have hz5:=h6.size;have hz4:=HX4.out.2.2.2.2;have HZ5:=zak hz5;have HZ4:=zak hz4
   have hb8:=Below.drew (zc5 (Below.refl w5.heap.size w5) (.cells (outV As ns cs O A5 n5 c5) 93));have HB8:=zak hb8;have k8:=Blk.new w5 93 (outV As ns cs O A5 n5 c5);have HFR:=zak (zpa (h5.low hb8) (show MsG _ _ Y As ns cs O.ms ds5 from ⟨h1.1.below hb8,h1.2⟩) hok hln);clear jw jx jy jz jA jB jC jD jE jF iR iS iT iU kI;clear aB aC aD aO;clear k4 k2 zk2 h1 h2 h3 h4 h5 h6 hbm hok hln hS hQ hO9 hO3 hz5 hz4 hb8;have zk5:=k5.lt;unfold valZ at k5;unfold outV at k8 HFR ⊢;dsimp only at k8 HFR ⊢;obtain⟨bB,bC,bD⟩:=zc8 k5;have cE:=k5.frozen;obtain⟨kJ,kK,kL,kM,kN⟩:=zc9 k8;have lW:=k8.frozen;have K8:=zak k8
   have K5:=zak k5;go_upto_region 8 with fail
   refine wp_region_held_drew (S:=(fun w'=>w'.cell? ⟨w5.heap.size,0,none⟩=some (.slice As ns cs)∧ w'.cell? ⟨w5.heap.size,1,none⟩=some (.bool O.wr)∧ w'.cell? ⟨w5.heap.size,2,none⟩=some (.int .i64 O.ix)∧ w'.cell? ⟨w5.heap.size,3,none⟩=some (.int .i64 O.sub)∧ w'.cell? ⟨w5.heap.size,4,none⟩=some (.slice A5 n5 c5))) (by kernel_rfl) ?hS1 (fun hHeld=>?rest1)
   case hS1=>((try dsimp only);(exact⟨K8.out.cell 0 rfl,K8.out.cell 1 rfl,K8.out.cell 2 rfl,K8.out.cell 3 rfl,K8.out.cell 4 rfl⟩))
   case' rest1=>skip
   iterate 3 (refine tkN ?_;try simp only[PqL,Act.put])
   refine tkH 4 ?_;try simp only[PqL,Act.put]
   refine tkH 5 ?_;try simp only[PqL,Act.put]
   refine tkH 6 ?_;try simp only[PqL,Act.put]
   refine tkH 7 ?_;try simp only[PqL,Act.put]
   refine kRd 3 (fun K hK=>?_)
   go_simp
   refine HFR.out.mono ?_;rintro e w6 ⟨A6,n6,c6,ds6,rfl,h6,hb6⟩;try dsimp only
   have h8:=K8.out.drew.below hb6 K8.out.drew.lt;have k6:=((K5.out.below HB8.out zk5).below hb6 (K5.out.below HB8.out zk5).lt);have zk6:=k6.lt;have K9:=zak h8;have H6:=zak h6;have HB6:=zak hb6;have hne:w5.heap.size≠w.heap.size+1:=by have:=HZ4.out;have:=HZ5.out;omega
   have Q9:=zak (fun u0 u1 u2=>((K9.out.far (p:=⟨w.heap.size+1,0,none⟩) hne u0).far (p:=⟨w.heap.size+1,1,none⟩) hne u1).far (p:=⟨w.heap.size+1,2,none⟩) hne u2);have hz5:=HZ5.out;have hz4:=HZ4.out;have hz8:w5.heap.size≤(w5.alloc (.cells #[.slice As ns cs,.bool O.wr,.int .i64 O.ix,.int .i64 O.sub,.slice A5 n5 c5] 93)).drew.heap.size:=HB8.out.size;have h6':=H6.out;rw[(zps _ _ _ _).2] at h6';have hF6:=zpk (X':=sdDS L V { X with left:=50 } (⟨kind,ix,sub,tg,la,cr,sz,size,code,data,sq,bl,em,sum⟩:Ms)) (id:=X.nout) (O:=O) (Y:=fun q=>Y q∧q < w5.heap.size) HD.out (by omega) h6' (((H2.out.below HB8.out).below HB6.out).mono hz4) (fun q hq=>⟨H3.out q hq,(H2.out.own.fin q hq).2⟩) (fun q hq=>⟨by have:=H4.out q hq.1;omega,by have:=hq.2;omega⟩) ((H5.out.step HB8.out).low HB6.out) (fun q _ hq=>⟨⟨hq.1.1.elim (fun h=> .inl h.1) (fun h=> .inr (by omega)),fun hy=>hq.1.2 hy.1⟩,by have:=hq.2;omega,by have h1:=hq.1.1;have h2:=hz4;rcases h1 with h1 | h1<;>omega⟩) ((HO3.out.step HB8.out).step HB6.out)
   have HF:Hid (P (.returned (.tuple #[.slice A6 n6 c6,.agg #[.int .i64 O.ix,.int .i64 O.sub,.slice A5 n5 c5],.bool O.wr])) (putVal w6 (w.heap.size+1) O.ix O.sub A5 n5 c5)):=zak (by rw[HP.out,HS9.out,HQ9.out];exact hF6);clear bB bC bD cE;clear kJ kK kL kM kN lW;clear k5 k8 h8 h6 hb6 zk5 hF6 h6' hz5 hz4 hz8;obtain⟨iV,iW,iX⟩:=zc8 k6;have kt:=k6.frozen;refine hK.out _ _ ?hS11 (fun hHeld=>?rest11)
   case hS11=>((try dsimp only);(exact⟨K9.out.cell 0 rfl,K9.out.cell 1 rfl,K9.out.cell 2 rfl,K9.out.cell 3 rfl,K9.out.cell 4 rfl⟩))
   case' rest11=>(clear hK K;try simp only[PqL,Act.put])
   refine tkH 8 ?_;try simp only[PqL,Act.put]
   refine kRd 9 (fun K hK=>?_)
   go_simp
   refine hK.out _ _ ?hS15 (fun hHeld=>?rest15)
   case hS15=>((try dsimp only);(exact⟨(Q9.out _ _ _).cell 0 rfl,(Q9.out _ _ _).cell 1 rfl,(Q9.out _ _ _).cell 2 rfl,(Q9.out _ _ _).cell 3 rfl,(Q9.out _ _ _).cell 4 rfl⟩))
   case' rest15=>(clear hK K;try simp only[PqL,Act.put])
   refine tkH 10 ?_;try simp only[PqL,Act.put]
   refine wpAnyH_done (by kernel_rfl) ?_ _;have hEnd:=hHeld.2
   repeat (clear hHeld)
   unfold putVal at HF;go_wp2_with fail
   refine bodyPost_ret (v:= .tuple #[.slice A6 n6 c6,.agg #[.int .i64 O.ix,.int .i64 O.sub,.slice A5 n5 c5],.bool O.wr]) (by simp[results,Tryz.results60,go_sem,iV,iW,iX,kt]) rfl ?_;exact HF.out
 · have d0:((rc:Int) != 0)=true:=by simp;omega
   have HR0:=zak h0;clear h0;go_wp2_with fail
   refine (zn0 rc HX4.out.2.1).mono ?_;rintro e w5 ⟨As,ns,cs,ds5,rfl,h1,h2',h3⟩;have hkc:AllOk (sdAbL { X with left:=50 } rc):=zo5 _ _ (by rw[HRC.out];unfold sdRc;(repeat' split)<;> decide);have HS5:=zak (zpa h2' h1 hkc (by rw[zo8];decide));have H2:=zak h2';have hO3:zd0 (fun q=>q=p∨q=ps∨q=pb) w w5:=HX4.out.1.trans (h3.mono (G:=fun q=>q=p∨q=ps∨q=pb) (fun q _ h=> .inr h)) (fun _ _ h=>h);have HO3:=zak hO3;have k5:Blk w5 (w.heap.size+1) 46 valZ:=(h3.block _ HX4.out.2.2.2.1.lt (by omega)).trans HX4.out.2.2.2.1;have hz5:=h3.size;have K5:=zak k5;clear jw jx jy jz jA jB jC jD jE jF iR iS iT iU kI;clear aB aC aD aO
   clear k4 k2 zk2 h1 h2' h3 hkc hO3;have zk5:=k5.lt;unfold valZ at k5;obtain⟨bB,bC,bD⟩:=zc8 k5;have cE:=k5.frozen;dsimp only;go_wp2_with fail
   refine HS5.out.mono ?_;rintro e w6 ⟨A6,n6,c6,ds6,rfl,h6,hb6⟩;rw[(zo9 _).2.1] at h6;have hS:sdRS L V X f=sdAbS { X with left:=50 }:=by unfold sdRS;rw[if_pos HR.out,if_pos (by rw[←HRC.out];exact HR0.out)]
   have hQ:sdRO L V X f=outL (sdAbL { X with left:=50 } rc):=by unfold sdRO;rw[if_pos HR.out,if_pos (by rw[←HRC.out];exact HR0.out),←HRC.out];rfl
   have hz3:=HX4.out.2.2.2.2;have F:=zpk (X':=sdAbS { X with left:=50 }) (id:=X.nout) (O:=outL (sdAbL { X with left:=50 } rc)) (Y:=fun _=>False) (A:=none) (n:=0) (c:=0) (N:=w5.heap.size) HD.out (by omega) h6 (zdv.nil _ _) (FIn.nil _) (fun _ h=>h.elim) (H2.out.low hb6) (fun q _ hq=>⟨⟨.inl hq.1,id⟩,by have:=hq.2;omega,by have:=hq.2;omega⟩) (HO3.out.step hb6);have k6:=K5.out.below hb6 zk5;have zk6:=k6.lt;have HF:Hid (P (.returned (.tuple #[.slice A6 n6 c6,.agg #[.int .i64 0,.int .i64 0,.slice none 0 0],.bool false])) (putVal w6 (w.heap.size+1) 0 0 none 0 0)):=zak (by rw[HP.out,hS,hQ];exact F);clear bB bC bD cE
   clear F hS hQ h6 hb6 hz3 k5 zk5;unfold valZ at k6;obtain⟨iV,iW,iX⟩:=zc8 k6;have kt:=k6.frozen;unfold putVal at HF;dsimp only;go_wp2_with fail
   refine bodyPost_ret (v:= .tuple #[.slice A6 n6 c6,.agg #[.int .i64 0,.int .i64 0,.slice none 0 0],.bool false]) (by simp[results,Tryz.results60,go_sem,iV,iW,iX,kt]) rfl ?_;exact HF.out
end
end
section
open Go.RowKit
theorem b1N (x:Nat)(h:x≤255):(UInt8.ofNat x).toNat=x:=by simp[UInt8.toNat_ofNat'];omega
theorem b2N (x:Nat)(h:x≤65535):leN [UInt8.ofNat x,UInt8.ofNat (x / 256)]=x:=by simp only[leN,UInt8.toNat_ofNat'];omega
theorem b4N (x:Nat)(h:x≤4294967295):leN [UInt8.ofNat x,UInt8.ofNat (x / 256),UInt8.ofNat (x / 256 / 256),UInt8.ofNat (x / 256 / 256 / 256)]=x:=by simp only[leN,UInt8.toNat_ofNat'];omega
theorem zpv (M:Ms)(h:canB M=true):(laidB M).length=8:=by
 simp only[canB,rangeB,Bool.and_eq_true,decide_eq_true_iff] at h;have h7:M.data.length≤7:=h.1.1.2.2;have hsh:=h.1.2;unfold laidB;rw[List.length_set];have hp:=zcr M;by_cases h2:formI M.kind=2
 · rw[h2] at hsh ⊢;simp only[shapeB,if_true,Bool.or_eq_true,Bool.and_eq_true,decide_eq_true_iff] at hsh;unfold bodL;rw[if_neg (by decide),if_pos rfl];split
   · rw[zcq,hp]
   · rw[zcs _ _ _ (by rw[zcq,hp];omega),zcq,hp]
 · generalize formI M.kind=f at *
   unfold bodL;rw[if_neg (c:=f=2) h2]
   (repeat' split)<;> first
     | (rw[zcs _ _ _ (by rw[hp];omega),hp])
     | simp[zcq,hp]
theorem zpw (M:Ms)(h:canB M=true):onlyM (formI M.kind) M=M:=by
 simp only[canB,sameB,Bool.and_eq_true,decide_eq_true_iff] at h;exact h.2.symm
theorem zpx (M:Ms)(h:canB M=true):rangeB M=true∧shapeB (formI M.kind) M=true∧formI M.kind≠0:=by
 simp only[canB,Bool.and_eq_true,decide_eq_true_iff] at h;exact⟨h.1.1.2,h.1.2,h.1.1.1⟩
end
section
structure Told (st:Int) (O:SegO):Prop where
 yes:O.wr=true→O.ms= []∧ st=3
 no:O.wr=false→O.b= []
 le:O.b.length≤2000
theorem zpy {st:Int}{O:SegO}(h1:O.wr=false)(h2:O.b= []):Told st O:=⟨fun h=>(by rw[h1] at h;cases h),fun _=>h2,by rw[h2];exact Nat.zero_le _⟩
theorem zpz {L:List Ent}{S:SegS}{M:Ms}(hM:M.data.length≤1000):Told (downS L S M).st (downO L M):=by
 unfold downS downO;by_cases h1:dcode L M≠0
 · rw[if_pos h1,if_pos h1];exact zpy rfl rfl
 rw[if_neg h1,if_neg h1];by_cases h2:M.data≠ []
 · rw[if_pos h2,if_pos h2];exact⟨fun _=>⟨rfl,rfl⟩,fun h=>(by cases h),(by show M.data.length≤2000;omega)⟩
 · rw[if_neg h2,if_neg h2];exact zpy rfl rfl
theorem zp0 {S:SegS}{M:Ms}(h:zn6 S)(h0:S.st=1)(hM:M.data.length≤1000):Told (partS S M).st (partO S M):=by
 unfold partS partO;by_cases h1:M.tg≠S.tg
 · have h2:pcode S M≠0:=by unfold pcode;rw[if_pos h1];decide
   rw[if_pos h1,if_pos h2];exact zpy rfl rfl
 rw[if_neg h1];by_cases h2:pcode S M≠0
 · rw[if_pos h2,if_pos h2];exact zpy rfl rfl
 rw[if_neg h2,if_neg h2];by_cases h3:M.la=true
 · rw[if_pos h3,if_pos h3];refine⟨fun _=>⟨rfl,rfl⟩,fun h=>(by cases h),?_⟩
   have:=(h.1 h0).2
   show (S.b ++ M.data).length≤2000
   simp
   omega
 · rw[if_neg h3,if_neg h3];exact zpy rfl rfl
theorem zqa {L:List Ent}{V:List (List UInt8)}{S:SegS}{M:Ms}(h:zn6 S)(hM:M.data.length≤1000):Told (recvS L V S M).st (recvO L V S M):=by
 unfold recvS recvO;by_cases h1:M.kind=1
 · rw[if_pos h1,if_pos h1];exact zpy rfl rfl
 rw[if_neg h1,if_neg h1];by_cases h2:M.kind=2
 · rw[if_pos h2,if_pos h2];exact zpz hM
 rw[if_neg h2,if_neg h2];by_cases h3:M.kind=4
 · rw[if_pos h3,if_pos h3];refine zpy ?_ ?_
   · unfold upO;(repeat' split)<;> rfl
   · unfold upO;(repeat' split)<;> rfl
 rw[if_neg h3,if_neg h3];by_cases h4:M.kind=3∧S.st=1
 · rw[if_pos h4,if_pos h4];exact zp0 h h4.2 hM
 rw[if_neg h4,if_neg h4];by_cases h5:M.kind=5∧S.st=2
 · rw[if_pos h5,if_pos h5];refine zpy ?_ ?_
   · unfold nextO;(repeat' split)<;> rfl
   · unfold nextO;(repeat' split)<;> rfl
 rw[if_neg h5,if_neg h5];refine zpy ?_ ?_
 · (repeat' split)<;> rfl
 · (repeat' split)<;> rfl
theorem zqb {S:BlkS}{M:Ms}(h:BWf S)(h0:S.st=2):Told (bendS S M).st (bendO S M):=by
 unfold bendS bendO;by_cases h1:becode S M≠0
 · rw[if_pos h1,if_pos h1];exact zpy rfl rfl
 · rw[if_neg h1,if_neg h1];refine⟨fun _=>⟨rfl,rfl⟩,fun h=>(by cases h),?_⟩;have h2:=h.b12 (.inr h0);have h3:=h.mo;show (bendB S M).length≤2000
   have:(bendB S M).length≤S.b.length:=by unfold bendB;rw[List.length_take];omega
   omega
theorem zqc {L:List Ent}{V:List (List UInt8)}{S:BlkS}{M:Ms}(h:BWf S):Told (brS L V S M).st (brO L V S M):=by
 unfold brS brO;by_cases h1:M.kind=1
 · rw[if_pos h1,if_pos h1];exact zpy rfl rfl
 rw[if_neg h1,if_neg h1];by_cases h2:M.kind=6
 · rw[if_pos h2,if_pos h2];refine zpy ?_ ?_
   · unfold bdownO;(repeat' split)<;> rfl
   · unfold bdownO;(repeat' split)<;> rfl
 rw[if_neg h2,if_neg h2];by_cases h3:M.kind=8
 · rw[if_pos h3,if_pos h3];refine zpy ?_ ?_
   · unfold bupO;(repeat' split)<;> rfl
   · unfold bupO;(repeat' split)<;> rfl
 rw[if_neg h3,if_neg h3];by_cases h4:S.st=0∨S.st=3
 · rw[if_pos h4,if_pos h4];exact zpy rfl rfl
 rw[if_neg h4,if_neg h4];by_cases h5:M.kind=21∧S.st=1
 · rw[if_pos h5,if_pos h5];refine zpy ?_ ?_
   · unfold bpartO;(repeat' split)<;> rfl
   · unfold bpartO;(repeat' split)<;> rfl
 rw[if_neg h5,if_neg h5];by_cases h6:M.kind=7∧S.st=2
 · rw[if_pos h6,if_pos h6];exact zqb h h6.2
 rw[if_neg h6,if_neg h6];by_cases h7:M.kind=9∧S.st=4
 · rw[if_pos h7,if_pos h7];exact zpy rfl rfl
 rw[if_neg h7,if_neg h7];by_cases h8:M.kind=10∧S.st=5
 · rw[if_pos h8,if_pos h8];refine zpy ?_ ?_
   · unfold backO;(repeat' split)<;> rfl
   · unfold backO;(repeat' split)<;> rfl
 rw[if_neg h8,if_neg h8];refine zpy ?_ ?_
 · (repeat' split)<;> rfl
 · (repeat' split)<;> rfl
structure ToldX (X:SdoS) (O:SegO):Prop where
 yes:O.wr=true→O.ms= []∧ ((X.sg.st=3∧X.bk.st=0)∨ (X.sg.st=0∧X.bk.st=3))
 no:O.wr=false→O.b= []
 le:O.b.length≤2000
theorem zqd {X:SdoS}{O:SegO}(h1:O.wr=false)(h2:O.b= []):ToldX X O:=⟨fun h=>(by rw[h1] at h;cases h),fun _=>h2,by rw[h2];exact Nat.zero_le _⟩
theorem zqe {X:SdoS}{O:SegO}(h:Told X.sg.st O)(h0:X.bk.st=0):ToldX X O:=⟨fun hw=>⟨(h.yes hw).1,.inl ⟨(h.yes hw).2,h0⟩⟩,h.no,h.le⟩
theorem zqf {X:SdoS}{O:SegO}(h:Told X.bk.st O)(h0:X.sg.st=0):ToldX X O:=⟨fun hw=>⟨(h.yes hw).1,.inr ⟨h0,(h.yes hw).2⟩⟩,h.no,h.le⟩
theorem zqg {L:List Ent}{V:List (List UInt8)}{X:SdoS}{M:Ms}(h1:zn6 X.sg)(h2:BWf X.bk)(h:X.sg.st=0∨X.bk.st=0)(hM:M.data.length≤1000):ToldX (sdDS L V X M) (sdDO L V X M):=by
 unfold sdDS sdDO;by_cases k1:M.kind=1
 · rw[if_pos k1,if_pos k1];exact zqd rfl rfl
 rw[if_neg k1,if_neg k1];by_cases k2:sdSeg M.kind=true
 · rw[if_pos k2,if_pos k2];by_cases k3:sdBeg M.kind=true
   · rw[if_pos k3,if_pos k3];exact zqe (zqa h1 hM) rfl
   rw[if_neg k3,if_neg k3];by_cases k4:X.bk.st≠0
   · rw[if_pos k4,if_pos k4];exact zqd rfl rfl
   rw[if_neg k4,if_neg k4];exact zqe (zqa h1 hM) (show X.bk.st=0 by omega)
 rw[if_neg k2,if_neg k2];by_cases k3:sdBeg M.kind=true
 · rw[if_pos k3,if_pos k3];exact zqf (zqc h2) rfl
 rw[if_neg k3,if_neg k3];by_cases k4:X.sg.st≠0
 · rw[if_pos k4,if_pos k4];exact zqd rfl rfl
 rw[if_neg k4,if_neg k4];exact zqf (zqc h2) (show X.sg.st=0 by omega)
theorem zqh {X:SdoS}{f:Frm}(h:sdReq X f=true):f.id=X.nin∧f.re=false∧f.data.length=8:=by
 unfold sdReq at h
 simpa using h
theorem zqi {L:List Ent}{V:List (List UInt8)}{X:SdoS}{f:Frm}(h:SdWf X):ToldX (sdRS L V X f) (sdRO L V X f):=by
 unfold sdRS sdRO;by_cases k1:sdReq X f=true
 · rw[if_pos k1,if_pos k1];by_cases k2:sdRc X f.data≠0
   · rw[if_pos k2,if_pos k2];exact zqd rfl rfl
   rw[if_neg k2,if_neg k2];have h8:=(zqh k1).2.2;have hd:=zpt (sdKs X f.data) f.data;exact zqg (X:={ X with left:=50 }) h.sg h.bk h.one (by omega)
 · rw[if_neg k1,if_neg k1];exact zqd rfl rfl
def PlcOk (ix sub:Int):Prop:=(0≤ix∧ix≤65535)∧ 0≤sub∧sub≤255
theorem zqj {ix sub:Int}{code:Nat}(h:PlcOk ix sub):canB (abM ix sub code)=true:=by
 obtain⟨⟨h1,h2⟩,h3,h4⟩:=h;have e:onlyM 1 (abM ix sub code)=abM ix sub code:=rfl;have hr:rangeB (abM ix sub code)=true:=by simp[rangeB,abM,h1,h2,h3,h4]
 unfold canB;rw[hr,show formI (abM ix sub code).kind=1 from rfl,e];simp[shapeB,sameB]
theorem zqk {id:Int}{l:List Ms}:(frmL id l).length≤l.length:=by
 unfold frmL;rw[List.length_map];exact List.length_filter_le _ _
end
section
structure RCli where
 nd:Int
 wk:Int
 ix:Int
 sub:Int
 b:List UInt8
 code:Nat
 data:List UInt8
 tg:Bool
 la:Bool
 sz:Bool
 si:Int
 cr:Bool
 ha:Int
 ro:Int
 nx:Int
 qk:Bool
end
section
theorem zql (ix sub:Int)(size:Nat)(b:List UInt8)(h:0≤ix∧ix≤65535∧0≤sub∧sub≤255)(hb:b.length≤4)(hz:b≠ []→ size=0):canB (downM ix sub true size b)=true:=by
 obtain⟨h1,h2,h3,h4⟩:=h;have h5:b.length≤7:=by omega
 rcases b with _ | ⟨x,b⟩
 · simp[canB,downM,formI,rangeB,shapeB,sameB,onlyM,placedB,dataB,h1,h2,h3,h4]
 · obtain rfl:size=0:=hz (by simp);have h6:b.length+1=4∨b.length+1 < 4:=by rw[List.length_cons] at hb;omega
   simp only[List.length_cons] at h5;simp[canB,downM,formI,rangeB,shapeB,sameB,onlyM,placedB,dataB,h1,h2,h3,h4,h5];rcases h6 with h6 | h6
   · exact .inl (by omega)
   · exact .inr (decide_eq_true h6)
theorem zqm (tg la:Bool)(b:List UInt8)(h:b.length≤7):canB (dsegM tg la b)=true:=by
 simp[canB,dsegM,formI,rangeB,shapeB,sameB,onlyM,placedB,dataB,h]
theorem zqn (ix sub:Int)(h:0≤ix∧ix≤65535∧0≤sub∧sub≤255):canB (uplM ix sub)=true:=by
 obtain⟨h1,h2,h3,h4⟩:=h;simp[canB,uplM,formI,rangeB,shapeB,sameB,onlyM,placedB,dataB,h1,h2,h3,h4]
theorem zqo (tg:Bool):canB (usegM tg)=true:=by cases tg<;>decide
theorem zqp (ix sub:Int)(n:Nat)(h:0≤ix∧ix≤65535∧0≤sub∧sub≤255):canB (bdnM ix sub n)=true:=by
 obtain⟨h1,h2,h3,h4⟩:=h;simp[canB,bdnM,formI,rangeB,shapeB,sameB,onlyM,placedB,dataB,h1,h2,h3,h4]
theorem zqq (em:Int)(sum:Nat)(h:0≤em∧em≤7):canB (bdeM em sum)=true:=by
 obtain⟨h1,h2⟩:=h;simp[canB,bdeM,formI,rangeB,shapeB,sameB,onlyM,placedB,dataB,h1,h2]
theorem zqr (ix sub:Int)(h:0≤ix∧ix≤65535∧0≤sub∧sub≤255):canB (buM ix sub)=true:=by
 obtain⟨h1,h2,h3,h4⟩:=h;simp[canB,buM,formI,rangeB,shapeB,sameB,onlyM,placedB,dataB,h1,h2,h3,h4]
theorem zqs (sq:Int)(h:0≤sq∧sq≤127):canB (buaM sq)=true:=by
 obtain⟨h1,h2⟩:=h;simp[canB,buaM,formI,rangeB,shapeB,sameB,onlyM,placedB,dataB,h1,h2]
theorem zqt (sq:Int)(la:Bool)(b:List UInt8)(h:1≤sq∧sq≤127)(hb:b.length=7):canB (bsegM sq la b)=true:=by
 obtain⟨h1,h2⟩:=h;have h3:0≤sq:=by omega
 have h4:0 < sq:=by omega
 simp[canB,bsegM,formI,rangeB,shapeB,sameB,onlyM,placedB,dataB,h3,h4,h2,hb]
theorem zqu (B:List UInt8)(k:Nat):(bpiece B k).length=7:=by
 unfold bpiece;simp only[List.length_append,List.length_take,List.length_drop,List.length_replicate];omega
theorem zqv (tot h:Nat)(b:List UInt8)(k:Nat)(hk:k≤127):∀M ∈ crowT tot h b k,canB M=true:=by
 intro M hM;unfold crowT at hM;rw[List.mem_map] at hM;obtain⟨i,hi,rfl⟩:=hM;rw[List.mem_range] at hi;exact zqt _ _ _ ⟨by omega,by omega⟩ (zqu _ _)
theorem zqw {M:Ms}(h:canB M=true):0≤M.ix∧M.ix≤65535∧0≤M.sub∧M.sub≤255∧0≤M.sq∧M.sq≤127∧0≤M.bl∧M.bl≤127∧0≤M.em∧M.em≤7∧M.data.length≤7:=by
 simp only[canB,rangeB,Bool.and_eq_true,decide_eq_true_iff] at h;omega
section
variable {S:CliS} {T:RCli}
theorem zqx {ix sub mode:Int}(h:cBegB ix sub mode≠false):0≤ix∧ix≤65535∧0≤sub∧sub≤255∧0≤mode∧mode≤2:=by
 unfold cBegB at h
 simpa using h
end
end
end Go.Proofs.YtkkpjbjmhaecjaaGreat
