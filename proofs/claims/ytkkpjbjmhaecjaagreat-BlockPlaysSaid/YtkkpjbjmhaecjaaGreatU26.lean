/- None -/
import Derived.Test.YtkkpjbjmhaecjaaGreatU25
import Derived.Test.YtkkpjbjmhaecjaaGreatU14
namespace Go.Proofs.YtkkpjbjmhaecjaaGreat
set_option linter.all false
set_option maxRecDepth 100000
set_option maxHeartbeats 4000000
section
section
open Go.RowKit
theorem zkb (E:Ent)(A:Option Addr)(n c:Nat)(w:World):Calls Tryz.prog 169 #[.agg (entV E A n c)] w fun e w'=>e= .returned (.int .i64 (mostE E))∧ Below w.heap.size w w':=by
 obtain⟨ix,sub,nm,ty,acc,mp,st,mx,lo,hi,df⟩:=E;have q:=zbf w 90 (entV ⟨ix,sub,nm,ty,acc,mp,st,mx,lo,hi,df⟩ A n c);have hbw:=za7 (Below.refl w.heap.size w) (.cells (entV ⟨ix,sub,nm,ty,acc,mp,st,mx,lo,hi,df⟩ A n c) 90);unfold entV at *
 obtain⟨cZ,da,db,dc,dG,dH,dI,dJ,dK,dL,cT⟩:=zbb q;have eQ:=q.frozen;go_enter Tryz.func169,Tryz.ntmps169
 go_wp2_with fail
 refine (ze8 ty _).mono ?_;rintro e w1 ⟨rfl,rfl⟩;by_cases hb:0 < tyBits ty
 · have HM:Hid (mostE ⟨ix,sub,nm,ty,acc,mp,st,mx,lo,hi,df⟩=tySize ty):=zak (by unfold mostE;rw[if_pos hb]);go_wp2_with fail
   refine (ze6 ty _).mono ?_;rintro e w2 ⟨rfl,rfl⟩;go_wp2_with fail
   go_ret
   exact⟨zau HM.out.symm,hbw⟩
 · have HM:Hid (mostE ⟨ix,sub,nm,ty,acc,mp,st,mx,lo,hi,df⟩=if mx < 0 then 0 else if 256 < mx then 256 else mx):=zak (by unfold mostE;rw[if_neg hb]);go_wp2_with fail
   all_goals
    go_ret
    refine⟨zau ?_,hbw⟩;rw[HM.out];clear hbw
    (repeat' split)<;> omega
theorem zkc (E:Ent)(k:Int)(hk:0≤k)(A:Option Addr)(n c:Nat)(w:World):Calls Tryz.prog 168 #[.agg (entV E A n c),.int .i64 k] w fun e w'=>e= .returned (.int .u32 (fitsC E k))∧ Below w.heap.size w w':=by
 have HM:=zak (fun W=>zkb E A n c W);have HF:Hid (fitsC E k=if 0 < tyBits E.ty∧k < tySize E.ty then 101122067 else if mostE E < k then 101122066 else 0):=zak (by
  unfold fitsC mostE;by_cases hb:0 < tyBits E.ty
  · rw[if_pos hb]
    (repeat' split)<;> first | rfl | (exfalso;omega)
  · have h0:tySize E.ty=0:=by
     unfold tyBits at hb;split at hb
     · omega
     · have:=(zcc E.ty).1
       unfold tyBits at this;split at this<;>omega
    rw[h0]
    (repeat' split)<;> first | rfl | (exfalso;omega))
 obtain⟨m,hm⟩:∃m,m=mostE E:=⟨_,rfl⟩;rw[←hm] at HM HF;obtain⟨f,hf⟩:∃f,f=fitsC E k:=⟨_,rfl⟩;rw[←hf] at HF ⊢;clear hm hf;obtain⟨ix,sub,nm,ty,acc,mp,st,mx,lo,hi,df⟩:=E;have q:=zbf w 90 (entV ⟨ix,sub,nm,ty,acc,mp,st,mx,lo,hi,df⟩ A n c);have hbw:=za7 (Below.refl w.heap.size w) (.cells (entV ⟨ix,sub,nm,ty,acc,mp,st,mx,lo,hi,df⟩ A n c) 90);unfold entV at *
 obtain⟨cZ,da,db,dc,dG,dH,dI,dJ,dK,dL,cT⟩:=zbb q;have eQ:=q.frozen;go_enter Tryz.func168,Tryz.ntmps168
 by_cases hb:0 < tyBits ty
 · obtain⟨s,hs⟩:∃s,s=tySize ty:=⟨_,rfl⟩;have HS:=zak (fun W=>ze6 ty W);rw[←hs] at HF HS;clear hs;by_cases h1:k < s
   · have HR:Hid (f=101122067):=zak (by rw[HF.out,if_pos ⟨hb,h1⟩]);go_wp2_with fail
     refine (ze8 ty _).mono ?_;rintro e w1 ⟨rfl,rfl⟩;go_wp2_with fail
     refine (HS.out _).mono ?_;rintro e w1 ⟨rfl,rfl⟩;go_wp2_with fail
     go_ret
     exact⟨zau HR.out.symm,hbw⟩
   · have HR:Hid (f=if m < k then 101122066 else 0):=zak (by rw[HF.out,if_neg (fun h=>h1 h.2)]);go_wp2_with fail
     refine (ze8 ty _).mono ?_;rintro e w1 ⟨rfl,rfl⟩;go_wp2_with fail
     refine (HS.out _).mono ?_;rintro e w1 ⟨rfl,rfl⟩;go_wp2_with fail
     refine (HM.out _).mono ?_;rintro e w1 ⟨rfl,hb1⟩;have hbw1:=za5 hb1 hbw;by_cases h0:m < k
     · have HR2:Hid (f=101122066):=zak (by rw[HR.out,if_pos h0]);go_wp2_with fail
       go_ret
       exact⟨zau HR2.out.symm,hbw1⟩
     · have HR2:Hid (f=0):=zak (by rw[HR.out,if_neg h0]);go_wp2_with fail
       go_ret
       exact⟨zau HR2.out.symm,hbw1⟩
 · have HR:Hid (f=if m < k then 101122066 else 0):=zak (by rw[HF.out,if_neg (fun h=>hb h.1)]);go_wp2_with fail
   refine (ze8 ty _).mono ?_;rintro e w1 ⟨rfl,rfl⟩;go_wp2_with fail
   refine (HM.out _).mono ?_;rintro e w1 ⟨rfl,hb1⟩;have hbw1:=za5 hb1 hbw;by_cases h0:m < k
   · have HR2:Hid (f=101122066):=zak (by rw[HR.out,if_pos h0]);go_wp2_with fail
     go_ret
     exact⟨zau HR2.out.symm,hbw1⟩
   · have HR2:Hid (f=0):=zak (by rw[HR.out,if_neg h0]);go_wp2_with fail
     go_ret
     exact⟨zau HR2.out.symm,hbw1⟩
section
variable {F:Nat→Prop} {p n cl cv:Nat} {Al Av:Option Addr} {L:List Ent} {V:List (List UInt8)} {ds es:List (Option Addr×Nat)}
theorem zkd (ix sub:Int)(w:World)(hD:DB 106 w F p Al n cl Av cv L V ds es)(hn:n≤1000) :
 Calls Tryz.prog 167 #[.pointer (some ⟨p,0,none⟩),.int .i64 ix,.int .i64 sub] w (SMayR L ix sub w):=by
 have H1:=zak hn;have hN:=hD.ents.hn;have hbw:=za7 (Below.refl w.heap.size w) (.cells (entV zeroE none 0 0) 90);have q:=zbf w 90 (entV zeroE none 0 0);have HD:=zak (hD.below hbw);have HQ:=zak q;have HP:Hid (∀w1 E A m c,Below w.heap.size w w1→Blk w1 w.heap.size 90 (entV zeroE none 0 0)→ Blk (put11 w1 w.heap.size E A m c) w.heap.size 90 (entV E A m c)∧ Below w.heap.size w (put11 w1 w.heap.size E A m c)):=zak (by
  intro w1 E A m c hb hB;have o1:=zg6 w1 w.heap.size E A m c;exact⟨zg5 hB rfl E A m c,hb.trans (o1.below hb.size (fun i h=>by omega))⟩)
 unfold put11 at HP;have HP':=zak HP;have HB:=zak hbw;unfold entV zeroE at HD;clear hD HP;unfold entV zeroE at q hbw;obtain⟨cZ,da,db,dc,dG,dH,dI,dJ,dK,dL,cT⟩:=zbb q;have eQ:=q.frozen;by_cases hf:0≤findL L ix sub
 · obtain⟨j,hj,hlj,hjl⟩:=zdr hf;obtain⟨E,hE⟩:∃E,L[j]? =some E:=⟨L[j],List.getElem?_eq_getElem _⟩;have HC:Hid (smayC L ix sub=writeE E.acc):=zak (by unfold smayC;rw[if_pos (zdd.2 hf),hlj,zdf hE]);have HK:Hid (E=entK L (locK L ix sub)):=zak (by rw[hlj,zdf hE]);have HJ:=zak hj;have hjn:j < n:=by rw[hN];exact hjl
   obtain⟨g,d,rfl,zg,_,hO,hfit,c0,c1,c2,c3,c4,c5,c6,c7,c8,c9,c10⟩:=HD.out.ent hE;have hBr:=HD.out.blk;obtain⟨bi,bj⟩:=za8 hBr;have bM:=hBr.frozen;have HE:=zak hE;have HW:=zak (fun W=>zeb E d.1 E.df.length d.2 W);obtain⟨wc,hwc⟩:∃wc,wc=writeE E.acc:=⟨_,rfl⟩;rw[←hwc] at HC HW;clear hwc hf hj hlj hE hN;unfold entV at HW;go_enter Tryz.func167,Tryz.ntmps167
   go_wp2_with fail
   refine (zjz ix sub _ HD.out H1.out).mono ?_;rintro e w1 ⟨rfl,rfl⟩;rw[HJ.out];go_wp2_with fail
   refine (HW.out _).mono ?_;rintro e w2 ⟨rfl,hb2⟩;have HD2:=zak (HD.out.below hb2);have hbw2:=za5 hb2 hbw;have HQ2:=zak (HQ.out.below hb2 HQ.out.lt);clear c0 c1 c2 c3 c4 c5 c6 c7 c8 c9 c10 zg hfit hO;clear bi bj bM;clear cZ da db dc dG dH dI dJ dK dL cT eQ;clear q;have r4:=HQ2.out;unfold entV zeroE at r4;by_cases h0:wc=0
   · subst h0;obtain⟨g2,d2,hg2,zg,_,hO,hfit,c0,c1,c2,c3,c4,c5,c6,c7,c8,c9,c10⟩:=HD2.out.ent HE.out;injection hg2 with hg2
     injection hg2 with hg2
     subst hg2;have hB2:=HD2.out.blk;obtain⟨bY,bo⟩:=za8 hB2;have cR:=hB2.frozen;have HO:=zak hO;have HLE:=zak (fun W (h:Below w2.heap.size w2 W)=> zj7 E d2.1 E.df.length d2.2 W rfl hfit.1 (HO.out.sl.below h));unfold entV at HLE;clear hO;obtain⟨eh,ei,ej,ek,el,en,eo,ep,eq,et,dz⟩:=zbb r4;have fj:=r4.frozen;go_wp2_with fail
     refine (HLE.out _ (Below.refl _ _)).mono ?_;rintro e w4 ⟨A2,c2',rfl,hO2,hb4⟩;have HQ4:=zak (HQ2.out.below hb4 HQ2.out.lt);have hbw4:=za5 hb4 hbw2;clear c0 c1 c2 c3 c4 c5 c6 c7 c8 c9 c10 zg hfit hO2;clear bY bo cR;clear eh ei ej ek el en eo ep eq et dz fj;have r5:=HQ4.out;unfold entV zeroE at r5;obtain⟨jh,ji,jj,jk,jl,jm,jn,jo,jp,jq,iv⟩:=zbb r5;have ki:=r5.frozen;go_wp2_with fail
     obtain⟨r1,r2⟩:=HP'.out.out _ E A2 E.df.length c2' hbw4 HQ4.out;exact zhd (E:=E) (A:=A2) (n:=E.df.length) (c:=c2') rfl rfl rfl r1 ⟨E,A2,_,c2',by rw[HC.out];rfl,fun _=>HK.out,r2⟩
   · skip
     obtain⟨eh,ei,ej,ek,el,en,eo,ep,eq,et,dz⟩:=zbb r4;have fj:=r4.frozen;go_wp2_with fail
     obtain⟨r1,r2⟩:=HP'.out.out _ zeroE none 0 0 hbw2 HQ2.out;exact zhd (E:=zeroE) (A:=none) (n:=0) (c:=0) rfl rfl rfl r1 ⟨zeroE,none,0,0,by rw[HC.out];rfl,fun h=>absurd (by rw[←HC.out];exact h) h0,r2⟩
 · have hcz:codeL L ix sub≠0:=fun h=>hf (zdd.1 h)
   have HC:Hid (smayC L ix sub=if findL L ix sub= -2 then 100794368 else 101253137):=zak (by unfold smayC;rw[if_neg hcz];unfold codeL;rw[if_neg hf]);have HCZ:=zak hcz;have HCY:Hid (smayC L ix sub=codeL L ix sub):=zak (by unfold smayC;rw[if_neg hcz]);rcases zdb L ix sub with h2 | h2 | h2
   · have HF:=zak h2;rw[h2] at HC;clear h2 hf hcz hN;go_enter Tryz.func167,Tryz.ntmps167
     go_wp2_with fail
     refine (zjz ix sub _ HD.out H1.out).mono ?_;rintro e w1 ⟨rfl,rfl⟩;rw[HF.out];go_wp2_with fail
     have r1:=HQ.out;have r3:=HB.out;exact zhd (E:=zeroE) (A:=none) (n:=0) (c:=0) rfl rfl rfl r1 ⟨zeroE,none,0,0,by rw[HC.out];rfl,fun h=>absurd (by rw[←HCY.out];exact h) HCZ.out,r3⟩
   · have HF:=zak h2;rw[h2] at HC;clear h2 hf hcz hN;go_enter Tryz.func167,Tryz.ntmps167
     go_wp2_with fail
     refine (zjz ix sub _ HD.out H1.out).mono ?_;rintro e w1 ⟨rfl,rfl⟩;rw[HF.out];go_wp2_with fail
     have r1:=HQ.out;have r3:=HB.out;exact zhd (E:=zeroE) (A:=none) (n:=0) (c:=0) rfl rfl rfl r1 ⟨zeroE,none,0,0,by rw[HC.out];rfl,fun h=>absurd (by rw[←HCY.out];exact h) HCZ.out,r3⟩
   · exact absurd h2.1 hf
end
end
section
open Go.RowKit
def outL_ (As:Option Addr) (ns cs:Nat) (O:SegO) (A:Option Addr) (n c:Nat):List Value:=[.slice As ns cs,.bool O.wr,.int .i64 O.ix,.int .i64 O.sub,.slice A n c]
def msL_ (M:Ms) (A:Option Addr) (n c:Nat):List Value:=[.int .i64 M.kind,.int .i64 M.ix,.int .i64 M.sub,.bool M.tg,.bool M.la,.bool M.cr,.bool M.sz,.int .u32 (M.size:Nat),.int .u32 (M.code:Nat),.slice A n c,.int .i64 M.sq,.int .i64 M.bl,.int .i64 M.em,.int .u16 (M.sum:Nat)]
theorem zke:(Tryz.prog.info? 118).map (·.size)=some 5:=by kernel_rfl
theorem zkf {fn:Func}{p:Tmp}(h:fn.results= #[.cell p 118]){a:Act}{w:World}{g:Nat}{As:Option Addr}{ns cs:Nat}{O:SegO}{A:Option Addr}{n c:Nat}{R:Ending→World→Prop}(hd:a.defers= [])(hp:a.tmps.getD p undef= .pointer (some ⟨g,0,none⟩))
 (hB:Blk w g 118 (outV As ns cs O A n c)) (hR:R (.returned (.agg (outV As ns cs O A n c))) w):bodyPost Tryz.prog fn R .ret a w:=
 bodyPost_ret (results_cell_row h _ _ _ _ _ _ _ hp hB Tryz.underlying118 rfl zke) hd hR
theorem zkg {w:World}{g:Nat}{t:TypeId}{As As':Option Addr}{ns cs ns' cs':Nat}{O O':SegO}{A A':Option Addr}{n c n' c':Nat}(h:Blk w g t (outV As ns cs O A n c)):Blk (putO w g As' ns' cs' O' A' n' c') g t (outV As' ns' cs' O' A' n' c'):=
 ((((h.set_ 0 (.slice As' ns' cs')).set_ 1 (.bool O'.wr)).set_ 2 (.int .i64 O'.ix)).set_ 3 (.int .i64 O'.sub)).set_ 4 (.slice A' n' c')
end
end
end Go.Proofs.YtkkpjbjmhaecjaaGreat
