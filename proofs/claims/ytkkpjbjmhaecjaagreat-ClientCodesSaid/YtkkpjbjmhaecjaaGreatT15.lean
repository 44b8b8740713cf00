/- None -/
import Derived.Test.YtkkpjbjmhaecjaaGreatT14
namespace Go.Proofs.YtkkpjbjmhaecjaaGreat
set_option linter.all false
set_option maxRecDepth 100000
set_option maxHeartbeats 4000000
section
section
open Go.RowKit
theorem zjy (E:Ent)(A:Option Addr)(n c:Nat)(w:World):Calls Tryz.prog 151 #[.agg (entV E A n c)] w fun e w'=>e= .returned (.int .i64 (mostE E))∧ Below w.heap.size w w':=by
 obtain⟨ix,sub,nm,ty,acc,mp,st,mx,lo,hi,df⟩:=E;have q:=zdg w 90 (entV ⟨ix,sub,nm,ty,acc,mp,st,mx,lo,hi,df⟩ A n c);have hbw:=zc5 (Below.refl w.heap.size w) (.cells (entV ⟨ix,sub,nm,ty,acc,mp,st,mx,lo,hi,df⟩ A n c) 90);unfold entV at *
 go_enter Tryz.func151,Tryz.ntmps151
 go_wp2_with fail
 refine (zir ty _).mono ?_;rintro e w1 ⟨rfl,hb1⟩;have q1:=q.below hb1 q.lt;have hbw1:=zc4 hb1 hbw;by_cases hb:0 < tyBits ty
 · have HM:Hid (mostE ⟨ix,sub,nm,ty,acc,mp,st,mx,lo,hi,df⟩=tySize ty):=zak (by unfold mostE;rw[if_pos hb]);obtain⟨cF,cG,cH,cU,cV,cX,cY,cZ,da,dc,cD⟩:=zdc q1;have dh:=q1.frozen;go_wp2_with fail
   refine (zis ty _).mono ?_;rintro e w2 ⟨rfl,hb2⟩;go_wp2_with fail
   go_ret
   exact⟨zat HM.out.symm,zc4 hb2 hbw1⟩
 · have HM:Hid (mostE ⟨ix,sub,nm,ty,acc,mp,st,mx,lo,hi,df⟩=if mx < 0 then 0 else if 256 < mx then 256 else mx):=zak (by unfold mostE;rw[if_neg hb]);obtain⟨cF,cG,cH,cU,cV,cX,cY,cZ,da,dc,cD⟩:=zdc q1;have dh:=q1.frozen;go_wp2_with fail
   all_goals
    go_ret
    refine⟨zat ?_,hbw1⟩;rw[HM.out];clear hbw1 hb1 hbw
    (repeat' split)<;> omega
theorem zjz (E:Ent)(k:Int)(A:Option Addr)(n c:Nat)(w:World):Calls Tryz.prog 150 #[.agg (entV E A n c),.int .i64 k] w fun e w'=>e= .returned (.int .u32 (fitsC E k))∧ Below w.heap.size w w':=by
 have HM:=zak (fun W=>zjy E A n c W);have HF:Hid (fitsC E k=if mostE E < k then 101122066 else if k < tySize E.ty then 101122067 else 0):=zak rfl;obtain⟨m,hm⟩:∃m,m=mostE E:=⟨_,rfl⟩;rw[←hm] at HM HF;obtain⟨f,hf⟩:∃f,f=fitsC E k:=⟨_,rfl⟩;rw[←hf] at HF ⊢;clear hm hf;obtain⟨ix,sub,nm,ty,acc,mp,st,mx,lo,hi,df⟩:=E;have q:=zdg w 90 (entV ⟨ix,sub,nm,ty,acc,mp,st,mx,lo,hi,df⟩ A n c);have hbw:=zc5 (Below.refl w.heap.size w) (.cells (entV ⟨ix,sub,nm,ty,acc,mp,st,mx,lo,hi,df⟩ A n c) 90);unfold entV at *
 go_enter Tryz.func150,Tryz.ntmps150
 go_wp2_with fail
 refine (HM.out _).mono ?_;rintro e w1 ⟨rfl,hb1⟩;have q1:=q.below hb1 q.lt;have hbw1:=zc4 hb1 hbw;by_cases h0:m < k
 · have HR:Hid (f=101122066):=zak (by rw[HF.out,if_pos h0]);go_wp2_with fail
   go_ret
   exact⟨zat HR.out.symm,hbw1⟩
 · have HR:Hid (f=if k < tySize ty then 101122067 else 0):=zak (by rw[HF.out,if_neg h0]);obtain⟨cF,cG,cH,cU,cV,cX,cY,cZ,da,dc,cD⟩:=zdc q1;have dh:=q1.frozen;go_wp2_with fail
   refine (zis ty _).mono ?_;rintro e w2 ⟨rfl,hb2⟩;have hbw2:=zc4 hb2 hbw1;obtain⟨s,hs⟩:∃s,s=tySize ty:=⟨_,rfl⟩;rw[←hs] at HR ⊢;clear hs;by_cases h1:k < s
   · have HR2:Hid (f=101122067):=zak (by rw[HR.out,if_pos h1]);go_wp2_with fail
     go_ret
     exact⟨zat HR2.out.symm,hbw2⟩
   · have HR2:Hid (f=0):=zak (by rw[HR.out,if_neg h1]);go_wp2_with fail
     go_ret
     exact⟨zat HR2.out.symm,hbw2⟩
section
variable {F:Nat→Prop} {p n cl cv:Nat} {Av:Option Addr} {L:List Ent} {V:List (List UInt8)} {ds es:List (Option Addr×Nat)} {gl:Nat}
def SMayR (L:List Ent) (ix sub:Int) (w:World) (e:Ending) (w':World):Prop:=
 ∃E A n c,e= .returned (.tuple #[.agg (entV E A n c),.int .u32 (smayC L ix sub)])∧ (smayC L ix sub=0→E=entK L (locK L ix sub))∧ Below w.heap.size w w'
theorem zj0 (ix sub:Int)(w:World)(hD:DB 100 w F p (some ⟨gl,0,none⟩) n cl Av cv L V ds es)(hs:SortedE L)(hn:n≤1000) :
 Calls Tryz.prog 149 #[.pointer (some ⟨p,0,none⟩),.int .i64 ix,.int .i64 sub] w (SMayR L ix sub w):=by
 have HS:=zak hs;have H1:=zak hn;have hbw:=zc5 (Below.refl w.heap.size w) (.cells (entV zeroE none 0 0) 90);have q:=zdg w 90 (entV zeroE none 0 0);have HD:=zak (hD.below hbw);have HQ:=zak q;have HP:Hid (∀w1 E A m c,Below w.heap.size w w1→Blk w1 w.heap.size 90 (entV zeroE none 0 0)→ Blk (put11 w1 w.heap.size E A m c) w.heap.size 90 (entV E A m c)∧ Below w.heap.size w (put11 w1 w.heap.size E A m c)):=zak (by
  intro w1 E A m c hb hB;have o1:=zjj w1 w.heap.size E A m c;exact⟨zji hB rfl E A m c,hb.trans (o1.below hb.size (fun i h=>by omega))⟩)
 unfold put11 at HP;have HP':=zak HP;clear hD hs HP;unfold entV zeroE at q hbw;go_enter Tryz.func149,Tryz.ntmps149
 go_wp2_with fail
 refine (zhp ix sub _ HD.out HS.out H1.out).mono ?_;rintro e w1 ⟨rfl,hb1⟩;have HD1:=zak (HD.out.below hb1);have hbw1:=zc4 hb1 hbw;have HQ1:=zak (HQ.out.below hb1 HQ.out.lt);have q1:=HQ1.out;unfold entV zeroE at q1;obtain⟨cF,cG,cH,cU,cV,cX,cY,cZ,da,dc,cD⟩:=zdc q1;have dh:=q1.frozen;by_cases hf:0≤findL L ix sub
 · obtain⟨j,hj,hlj,hjl⟩:=zcf hf;obtain⟨E,hE⟩:∃E,L[j]? =some E:=⟨L[j],List.getElem?_eq_getElem _⟩;have hh:hasL L ix sub=true:=by simp[hasL,hf]
   have HC:Hid (smayC L ix sub=writeE E.acc):=zak (by unfold smayC;rw[if_pos (zbz.2 hf),hlj,zb2 hE]);have HK:Hid (E=entK L (locK L ix sub)):=zak (by rw[hlj,zb2 hE]);rw[hh,hlj];have HE:=zak hE;clear hf hj hlj hh hE;go_wp2_with fail
   refine (zjr j E _ _ p gl n cl cv Av L V ds es HD1.out HE.out).mono ?_;rintro e w2 ⟨A2,c2,rfl,hO2,hb2⟩;clear hO2;have hbw2:=zc4 hb2 hbw1;have HQ2:=zak (HQ1.out.below hb2 HQ1.out.lt);have HQ3:=zak (HQ2.out.alloc (.cells (entV E A2 E.df.length c2) 90));have hbw3:=zc5 hbw2 (.cells (entV E A2 E.df.length c2) 90);have q3:=zdg w2 90 (entV E A2 E.df.length c2);have HW:=zak (fun W=>zhh E A2 E.df.length c2 W);obtain⟨wc,hwc⟩:∃wc,wc=writeE E.acc:=⟨_,rfl⟩;rw[←hwc] at HC HW;clear hwc;have HQ3b:=zak HQ3;clear HQ2;unfold entV at HW q3 hbw3 ⊢;clear cF cG cH cU cV cX cY cZ da dc cD dh;obtain⟨eb,ed,ee,ef,eg,eh,iG,iH,iI,iJ,fE⟩:=zdc q3
   have fy:=q3.frozen;go_wp2_with fail
   refine (HW.out _).mono ?_;rintro e w4 ⟨rfl,hb4⟩;have hbw4:=zc4 hb4 hbw3;have HQ4:=zak (HQ3b.out.out.below hb4 HQ3b.out.out.lt);have q4:=q3.below hb4 q3.lt;have r4:=HQ4.out;unfold entV zeroE at r4;clear eb ed ee ef eg eh iG iH iI iJ fE fy;obtain⟨dD,dE,dF,dK,dL,dM,eo,ep,eq,et,dG⟩:=zdc q4;have ey:=q4.frozen;obtain⟨mA,mB,mC,mD,mF,mG,mH,mI,mJ,mK,lx⟩:=zdc r4;have nH:=r4.frozen;by_cases h0:wc=0
   · subst h0;go_wp2_with fail
     obtain⟨r1,r2⟩:=HP'.out.out _ E A2 E.df.length c2 hbw4 HQ4.out;exact zjn (E:=E) (A:=A2) (n:=E.df.length) (c:=c2) rfl rfl rfl r1 ⟨E,A2,_,c2,by rw[HC.out];rfl,fun _=>HK.out,r2⟩
   · go_wp2_with fail
     obtain⟨r1,r2⟩:=HP'.out.out _ zeroE none 0 0 hbw4 HQ4.out;exact zjn (E:=zeroE) (A:=none) (n:=0) (c:=0) rfl rfl rfl r1 ⟨zeroE,none,0,0,by rw[HC.out];rfl,fun h=>absurd (by rw[←HC.out];exact h) h0,r2⟩
 · have hh:hasL L ix sub=false:=by simp[hasL,hf]
   have hlk:locK L ix sub=0:=by unfold locK;omega
   have hcz:codeL L ix sub≠0:=fun h=>hf (zbz.1 h)
   have HC:Hid (smayC L ix sub=mayC L ix sub [] false):=zak (by unfold smayC mayC;rw[if_neg hcz,if_neg hcz]);have HCZ:Hid (mayC L ix sub [] false≠0):=zak (by unfold mayC;rw[if_neg hcz];exact hcz);rw[hh,hlk];clear hf hh hlk hcz;go_wp2_with fail
   refine (zje ix sub none 0 0 [] _ HD1.out HS.out H1.out rfl (by omega) (by omega) (by intro j u hu;simp at hu)).mono ?_;rintro e w2 ⟨rfl,hb2⟩;have hbw2:=zc4 hb2 hbw1;have HQ2:=zak (HQ1.out.below hb2 HQ1.out.lt);have r2:=HQ2.out;unfold entV zeroE at r2;clear cF cG cH cU cV cX cY cZ da dc cD dh;obtain⟨mL,mM,mN,mO,mP,mQ,mR,mS,mT,mU,ly⟩:=zdc r2;have nI:=r2.frozen;obtain⟨cc,hcc⟩:∃cc,cc=mayC L ix sub [] false:=⟨_,rfl⟩;rw[←hcc] at HC HCZ ⊢;clear hcc;go_wp2_with fail
   obtain⟨r1,r3⟩:=HP'.out.out _ zeroE none 0 0 hbw2 HQ2.out;exact zjn (E:=zeroE) (A:=none) (n:=0) (c:=0) rfl rfl rfl r1 ⟨zeroE,none,0,0,by rw[HC.out];rfl,fun h=>absurd (by rw[←HC.out];exact h) HCZ.out,r3⟩
end
end
section
open Go.RowKit
def srvV (S:SegS) (pd:Nat) (A:Option Addr) (n c:Nat):Array Value:=#[.pointer (some ⟨pd,0,none⟩),.int .i64 S.st,.int .i64 S.ix,.int .i64 S.sub,.int .i64 S.mo,.int .i64 S.sz,.slice A n c,.bool S.tg,.int .i64 S.wk,.int .i64 S.wi,.int .i64 S.ws,.bool S.wt,.bool false,.bool false,.bool false,.int .u32 0,.int .u32 0,.slice none 0 0,.int .i64 0,.int .i64 0,.int .i64 0,.int .u16 0]
def outV (As:Option Addr) (ns cs:Nat) (O:SegO) (A:Option Addr) (n c:Nat):Array Value:=#[.slice As ns cs,.bool O.wr,.int .i64 O.ix,.int .i64 O.sub,.slice A n c]
theorem zj1:(Tryz.prog.info? 93).map (·.size)=some 5:=by kernel_rfl
theorem zj2 {fn:Func}{p:Tmp}(h:fn.results= #[.cell p 93]){a:Act}{w:World}{g:Nat}{As:Option Addr}{ns cs:Nat}{O:SegO}{A:Option Addr}{n c:Nat}{R:Ending→World→Prop}(hd:a.defers= [])(hp:a.tmps.getD p undef= .pointer (some ⟨g,0,none⟩))
 (hB:Blk w g 93 (outV As ns cs O A n c)) (hR:R (.returned (.agg (outV As ns cs O A n c))) w):bodyPost Tryz.prog fn R .ret a w:=
 bodyPost_ret (results_cell_row h _ _ _ _ _ _ _ hp hB Tryz.underlying93 rfl zj1) hd hR
def putO (w:World) (g:Nat) (As:Option Addr) (ns cs:Nat) (O:SegO) (A:Option Addr) (n c:Nat):World:=((((w.setCell ⟨g,0,none⟩ (.slice As ns cs)).setCell ⟨g,1,none⟩ (.bool O.wr)).setCell ⟨g,2,none⟩ (.int .i64 O.ix)).setCell ⟨g,3,none⟩ (.int .i64 O.sub)).setCell ⟨g,4,none⟩ (.slice A n c)
theorem zj3 {w:World}{g:Nat}{As As':Option Addr}{ns cs ns' cs':Nat}{O O':SegO}{A A':Option Addr}{n c n' c':Nat}(h:Blk w g 93 (outV As ns cs O A n c)):Blk (putO w g As' ns' cs' O' A' n' c') g 93 (outV As' ns' cs' O' A' n' c'):=
 ((((h.set_ 0 (.slice As' ns' cs')).set_ 1 (.bool O'.wr)).set_ 2 (.int .i64 O'.ix)).set_ 3 (.int .i64 O'.sub)).set_ 4 (.slice A' n' c')
theorem zj4 {w:World}{g p:Nat}{t:TypeId}{arr:Array Value}(h:Blk w p t arr)(hne:p≠g)(As:Option Addr)(ns cs:Nat)(O:SegO)(A:Option Addr)(n c:Nat):Blk (putO w g As ns cs O A n c) p t arr:=
 (((((h.far (p:=⟨g,0,none⟩) hne _).far (p:=⟨g,1,none⟩) hne _).far (p:=⟨g,2,none⟩) hne _).far (p:=⟨g,3,none⟩) hne _).far (p:=⟨g,4,none⟩) hne _)
theorem zj5 {F:Nat→Prop}{w W:World}{g:Nat}(h:zd0 F w W)(hg:w.heap.size≤g)(As:Option Addr)(ns cs:Nat)(O:SegO)(A:Option Addr)(n c:Nat):zd0 F w (putO W g As ns cs O A n c):=
 ((((h.setNew hg _).setNew hg _).setNew hg _).setNew hg _).setNew hg _
theorem zj6 {w:World}{B g n c:Nat}{A:Option Addr}{l:List UInt8}(h:zdv w B A n c l)(hg:g < B)(As:Option Addr)(ns cs:Nat)(O:SegO)(A2:Option Addr)(n2 c2:Nat):zdv (putO w g As ns cs O A2 n2 c2) B A n c l:=
 ((((h.set_ (p:=⟨g,0,none⟩) hg _).set_ (p:=⟨g,1,none⟩) hg _).set_ (p:=⟨g,2,none⟩) hg _).set_ (p:=⟨g,3,none⟩) hg _).set_ (p:=⟨g,4,none⟩) hg _
theorem zj7 (pd:Nat)(w:World):Calls Tryz.prog 63 #[.pointer (some ⟨pd,0,none⟩)] w fun e w'=>e= .returned (.pointer (some ⟨w.heap.size,0,none⟩))∧ Blk w' w.heap.size 195 (srvV segZ pd none 0 0)∧ Below w.heap.size w w'∧w'.heap.size=w.heap.size+1:=by
 have q:=zdg w 195 (srvV segZ pd none 0 0);have hbw:=zc5 (Below.refl w.heap.size w) (.cells (srvV segZ pd none 0 0) 195);have HQ:=zak q;have HB:=zak hbw;clear q hbw;unfold srvV segZ at *
 go_enter Tryz.func63,Tryz.ntmps63
 go_wp2_with fail
 go_ret
 exact⟨rfl,HQ.out,HB.out,by simp⟩
theorem zj8 (p pd:Nat)(S:SegS)(A:Option Addr)(n c:Nat)(w:World)(hB:Blk w p 195 (srvV S pd A n c)):Calls Tryz.prog 76 #[.pointer (some ⟨p,0,none⟩)] w fun e w'=>e= .returned (.bool (S.st != 0))∧ w=w':=by
 have c1:w.cell? ⟨p,1,none⟩=some (.int .i64 S.st):=hB.cell 1 rfl;go_enter Tryz.func76,Tryz.ntmps76
 go_wp2_with fail
 go_ret
 exact⟨rfl,rfl⟩
theorem zj9 (ix sub:Int)(code:Nat)(w:World):Calls Tryz.prog 211 #[.int .i64 ix,.int .i64 sub,.int .u32 (code:Nat)] w fun e w'=>e= .returned (.slice (some ⟨w.heap.size,0,none⟩) 1 1)∧ Blk w' w.heap.size 95 (msV (abM ix sub code) none 0 0)∧ Below w.heap.size w w'∧w'.heap.size=w.heap.size+1:=by
 have q:=zdg w 95 (msV (abM ix sub code) none 0 0);have hbw:=zc5 (Below.refl w.heap.size w) (.cells (msV (abM ix sub code) none 0 0) 95);have HQ:=zak q;have HB:=zak hbw;clear q hbw;unfold msV abM at *
 go_enter Tryz.func211,Tryz.ntmps211
 go_wp2_with fail
 go_ret
 exact⟨rfl,HQ.out,HB.out,by simp⟩
theorem zka (M:Ms)(A:Option Addr)(n c:Nat)(w:World):Calls Tryz.prog 234 #[.agg (msV M A n c)] w fun e w'=> ∃g,w.heap.size≤g∧e= .returned (.agg (outV (some ⟨g,0,none⟩) 1 1 outZ none 0 0))∧ Blk w' g 95 (msV M A n c)∧ Below w.heap.size w w':=by
 obtain⟨k1,k2,k3⟩:=zdi w 95 93 95 (msV M A n c) (outV (some ⟨w.heap.size+1+1,0,none⟩) 1 1 outZ none 0 0) (msV M A n c);have hbw:=zc5 (zc5 (zc5 (Below.refl w.heap.size w) (.cells (msV M A n c) 95)) (.cells (outV (some ⟨w.heap.size+1+1,0,none⟩) 1 1 outZ none 0 0) 93)) (.cells (msV M A n c) 95);have HK2:=zak k2;have HK3:=zak k3;have HB:=zak hbw;clear k1 k2 k3 hbw;obtain⟨kind,ix,sub,tg,la,cr,sz,size,code,data,sq,bl,em,sum⟩:=M;unfold msV at *
 go_enter Tryz.func234,Tryz.ntmps234
 go_wp2_with fail
 exact zj2 (O:=outZ) rfl rfl rfl HK2.out ⟨w.heap.size+1+1,by omega,rfl,HK3.out,HB.out⟩
theorem zkb (p pd:Nat)(S:SegS)(code:Nat)(A:Option Addr)(n c:Nat)(w:World)(hB:Blk w p 195 (srvV S pd A n c)) :
 Calls Tryz.prog 178 #[.pointer (some ⟨p,0,none⟩),.int .u32 (code:Nat)] w fun e w'=>(S.st=0→e= .returned (.slice none 0 0)∧ w'=w)∧
  (S.st≠0→ ∃g,w.heap.size≤g∧e= .returned (.slice (some ⟨g,0,none⟩) 1 1)∧ Blk w' g 95 (msV (abM S.ix S.sub code) none 0 0)∧ Blk w' p 195 (srvV (abortS S) pd A n c)∧ zd0 (fun k=>k=p) w w'):=by
 have HB:=zak hB;clear hB;by_cases h0:S.st=0
 · have hf:(S.st != 0)=false:=by simp[h0]
   go_enter Tryz.func178,Tryz.ntmps178
   go_wp2_with fail
   refine (zj8 p pd S A n c _ HB.out).mono ?_;rintro e w1 ⟨rfl,rfl⟩;rw[hf];go_wp2_with fail
   go_ret
   exact⟨fun _=>⟨rfl,rfl⟩,fun h=>absurd h0 h⟩
 · have hf:(S.st != 0)=true:=by simp[h0]
   have hs:Hid (Blk (w.setCell ⟨p,1,none⟩ (.int .i64 0)) p 195 (srvV (abortS S) pd A n c)):=zak (HB.out.set_ 1 (.int .i64 0));have ho:zd0 (fun k=>k=p) w (w.setCell ⟨p,1,none⟩ (.int .i64 0)):=zd0.of_set (F:=fun k=>k=p) rfl _;have hz:=HB.out.lt;have qB:=HB.out;unfold srvV at qB;have c1:w.cell? ⟨p,1,none⟩=some (.int .i64 S.st):=HB.out.cell 1 rfl;have f1:=HB.out.frozen 1;have q':=hs.out;unfold srvV abortS at q';have hz0:(w.setCell ⟨p,1,none⟩ (.int .i64 0)).heap.size=w.heap.size:=by simp[World.setCell]
   have d2:(w.setCell ⟨p,1,none⟩ (.int .i64 0)).cell? ⟨p,2,none⟩=some (.int .i64 S.ix):=q'.cell 2 rfl;have d3:(w.setCell ⟨p,1,none⟩ (.int .i64 0)).cell? ⟨p,3,none⟩=some (.int .i64 S.sub):=q'.cell 3 rfl;go_enter Tryz.func178,Tryz.ntmps178
   go_wp2_with fail
   refine (zj8 p pd S A n c _ HB.out).mono ?_;rintro e w1 ⟨rfl,rfl⟩;rw[hf];clear qB q';go_wp2_with fail
   refine wp_region_held_drew (S:=(fun w'=>(∀qA:Addr,qA.block < ((w.setCell ⟨p,1,none⟩ (.int .i64 0))).heap.size→w'.cell? qA=((w.setCell ⟨p,1,none⟩ (.int .i64 0))).cell? qA)∧ Below ((w.setCell ⟨p,1,none⟩ (.int .i64 0))).heap.size ((w.setCell ⟨p,1,none⟩ (.int .i64 0))) w')) (by kernel_rfl) ?hS1 (fun hHeld=>?rest1)
   case hS1=>exact kSn
   case' rest1=>skip
   iterate 9 (refine tkN ?_;try simp only[PqL,Act.put])
   refine kRd 9 (fun K hK=>?_)
   go_simp
   refine (zj9 S.ix S.sub code _).mono ?_;rintro e w2 ⟨rfl,hB2,hb2,hz2⟩;rw[show (w.setCell ⟨p,1,none⟩ (.int .i64 0)).drew.heap.size=w.heap.size from hz0] at hB2;have HB2:=zak hB2;dsimp only;refine hK.out _ _ ?hS13 (fun hHeld=>?rest13)
   case hS13=>exact kSn
   case' rest13=>(clear hK K;try simp only[PqL,Act.put])
   refine tkH 10 ?_;try simp only[PqL,Act.put]
   refine wpAnyH_done (by kernel_rfl) ?_ _;have hEnd:=hHeld.2
   repeat (clear hHeld)
   go_wp2_with fail
   go_ret
   exact⟨fun h=>absurd h h0,fun _=>⟨w.heap.size,Nat.le_refl _,rfl,HB2.out,hs.out.below hEnd hs.out.lt,ho.trans (zd0.of_below (F:=fun k=>k=p) hEnd) (fun _ _ h=>h)⟩⟩
theorem zkc (p pd:Nat)(S:SegS)(A:Option Addr)(n c:Nat)(w:World)(hB:Blk w p 195 (srvV S pd A n c)) :
 Calls Tryz.prog 135 #[.pointer (some ⟨p,0,none⟩)] w fun e w'=>e= .returned (.tuple #[])∧ Blk w' p 195 (srvV (segIdle S) pd A n c)∧ zd0 (fun k=>k=p) w w':=by
 have hs:Hid (Blk (w.setCell ⟨p,1,none⟩ (.int .i64 0)) p 195 (srvV (segIdle S) pd A n c)):=zak (hB.set_ 1 (.int .i64 0));have ho:zd0 (fun k=>k=p) w (w.setCell ⟨p,1,none⟩ (.int .i64 0)):=zd0.of_set (F:=fun k=>k=p) rfl _;have hz:=hB.lt;have c1:w.cell? ⟨p,1,none⟩=some (.int .i64 S.st):=hB.cell 1 rfl;have f1:=hB.frozen 1;go_enter Tryz.func135,Tryz.ntmps135
 go_wp2_with fail
 go_end0
 exact⟨rfl,hs.out,ho⟩
end
end
section
section
open Go.RowKit
structure SV where
 ix:Int
 sub:Int
 data:List UInt8
def SlV (w:World) (A:Option Addr) (L:List SV):Prop:= ∀j v,L[j]? =some v→ ∃b off Aj cj,A=some ⟨b,off,none⟩∧ w.cell? ⟨b,off+j * 3,none⟩=some (.int .i64 v.ix)∧ w.cell? ⟨b,off+j * 3+1,none⟩=some (.int .i64 v.sub)∧
 w.cell? ⟨b,off+j * 3+2,none⟩=some (.slice Aj v.data.length cj)∧ v.data.length≤cj∧Sl w Aj (v.data.map bv)
theorem SlV.keep {w w':World}{A:Option Addr}{L:List SV}(h:SlV w A L)(hk:∀p v,w.cell? p=some v→w'.cell? p=some v):SlV w' A L:=by
 intro j v hv;obtain⟨b,off,Aj,cj,e,h1,h2,h3,h4,h5⟩:=h j v hv;exact⟨b,off,Aj,cj,e,hk _ _ h1,hk _ _ h2,hk _ _ h3,h4,h5.keep hk⟩
theorem SlV.below {w w':World}{A:Option Addr}{L:List SV}(h:SlV w A L)(hb:Below w.heap.size w w'):SlV w' A L:=
 h.keep fun _ _ hc=>(hb.cell (zal hc)).trans hc
end
section
open Go.RowKit
end
end
section
open Go.RowKit
theorem zkd {α:Type}{f: α→Option Addr×Nat→List Value}{k:Nat}{e:TypeId}{dat: α→List UInt8}{F:Nat→Prop}{o:Oper}{a:Act}{K:Act→World→Prop}{Q:Exit→Act→World→Prop}{w:World}(s x:Operand)(ty:TypeId)
 (ho:o.op= .call { callee:= .builtin .append,args:=#[s,x],argTypes:=#[ty,ty] })
 (hf:∀v d,(f v d).length=k) (hone:∀v d,∀u ∈ f v d,u.oneCell'=true) (hne:5≠e) (bytes:Nat) (z:Value) (hu:Tryz.prog.underlying ty=some (.slice e)) (hi:(Tryz.prog.info? e).map (fun i=>(i.zero,i.size,i.bytes))=some (some z,k,bytes)) (hzs:z.cells.size=k) (hk0:0 < k) (hb4:bytes≤4096)
 (A:Option Addr) (n c:Nat) (L:List α) (ds:List (Option Addr×Nat)) (hs:a.eval s= .slice A n c) (hown:zd8 f k e dat w F A n c L ds)
 (v: α) (d:Option Addr×Nat) (A2:Option Addr) (hx:a.eval x= .slice A2 1 1)
 (hr:Sl w A2 (f v d)) (hv:zdv w 0 d.1 (dat v).length d.2 (dat v)) (hvF:FIn F d.1) (hF:∀g,w.heap.size≤g→F g)
 (hb:n≤34359738)
 (h:∀A' c' w',zd8 f k e dat w' F A' (n+1) c' (L ++ [v]) (ds ++ [d])→ w.grownBy w' (Value.ownBlock (.slice A n c))→ (A'=A∨A'=some ⟨w.heap.size,0,none⟩)→ K (a.put o.dst (.slice A' (n+1) c')) w'):Oper.wp Tryz.prog o a w K Q:=by
 obtain⟨i0,hi0,hz0,hz1,hz2⟩:=info_parts hi;obtain⟨A',c',w',hr',h2,h3,h4⟩:=zcx (P:=Tryz.prog) w 0 ty o.type e i0 _ k bytes hu hi0 hz0 hz1 hz2 hzs hk0 A n c _ hown.own A2 1 1 _ (by rw[hf];omega) hr (hone v d) (by unfold maxLen;omega) (by
  calc (n+1) * bytes≤(n+1) * 4096:=Nat.mul_le_mul_left _ hb4
   _≤_:=by omega) (Nat.zero_le _)
 unfold Oper.wp execOp;simp only[ho,resolve,invoke,builtin,Sem.run_bind,Sem.run_pure,Result.andThen_ok,List.map_toArray,List.map_cons,List.map_nil,hs,hx,hr'];exact h A' c' w' (hown.snoc hne h2 h3 h4 hF hv hvF) h3 h4
def SlE (w:World) (A:Option Addr) (L:List Ent):Prop:= ∀j E,L[j]? =some E→ ∃b off Aj cj,A=some ⟨b,off,none⟩∧ (w.cell? ⟨b,off+j * 11,none⟩=some (.int .i64 E.ix)∧ w.cell? ⟨b,off+j * 11+1,none⟩=some (.int .i64 E.sub)∧ w.cell? ⟨b,off+j * 11+2,none⟩=some (.string E.nm)∧ w.cell? ⟨b,off+j * 11+3,none⟩=some (.int .i64 E.ty)∧ w.cell? ⟨b,off+j * 11+4,none⟩=some (.int .i64 E.acc)∧ w.cell? ⟨b,off+j * 11+5,none⟩=some (.bool E.mp)∧ w.cell? ⟨b,off+j * 11+6,none⟩=some (.bool E.st)∧ w.cell? ⟨b,off+j * 11+7,none⟩=some (.int .i64 E.mx)∧ w.cell? ⟨b,off+j * 11+8,none⟩=some (.int .i64 E.lo)∧ w.cell? ⟨b,off+j * 11+9,none⟩=some (.int .i64 E.hi)∧ w.cell? ⟨b,off+j * 11+10,none⟩=some (.slice Aj E.df.length cj))∧ E.df.length≤cj∧Sl w Aj (E.df.map bv)
theorem SlE.below {w w':World}{A:Option Addr}{L:List Ent}(h:SlE w A L)(hb:Below w.heap.size w w'):SlE w' A L:=by
 intro j E hE;obtain⟨b,off,Aj,cj,hA,⟨c0,c1,c2,c3,c4,c5,c6,c7,c8,c9,c10⟩,hc,hs⟩:=h j E hE;have k:∀ {p v},w.cell? p=some v→w'.cell? p=some v:=fun hc=>(hb.cell (zal hc)).trans hc
 exact⟨b,off,Aj,cj,hA,⟨k c0,k c1,k c2,k c3,k c4,k c5,k c6,k c7,k c8,k c9,k c10⟩,hc,hs.below hb⟩
theorem SlE.two {w w':World}{A:Option Addr}{L:List Ent}(h:SlE w A L)(hb:Below w.heap.size w w'){j:Nat}{E:Ent}(hE:L[j]? =some E) :
 ∃b off Aj cj,A=some ⟨b,off,none⟩∧ (w'.cell? ⟨b,off+j * 11,none⟩=some (.int .i64 E.ix)∧ w'.cell? ⟨b,off+j * 11+1,none⟩=some (.int .i64 E.sub)∧ w'.cell? ⟨b,off+j * 11+2,none⟩=some (.string E.nm)∧ w'.cell? ⟨b,off+j * 11+3,none⟩=some (.int .i64 E.ty)∧ w'.cell? ⟨b,off+j * 11+4,none⟩=some (.int .i64 E.acc)∧ w'.cell? ⟨b,off+j * 11+5,none⟩=some (.bool E.mp)∧ w'.cell? ⟨b,off+j * 11+6,none⟩=some (.bool E.st)∧ w'.cell? ⟨b,off+j * 11+7,none⟩=some (.int .i64 E.mx)∧ w'.cell? ⟨b,off+j * 11+8,none⟩=some (.int .i64 E.lo)∧ w'.cell? ⟨b,off+j * 11+9,none⟩=some (.int .i64 E.hi)∧ w'.cell? ⟨b,off+j * 11+10,none⟩=some (.slice Aj E.df.length cj))∧ E.df.length≤cj∧Sl w Aj (E.df.map bv):=by
 obtain⟨b,off,Aj,cj,hA,⟨c0,c1,c2,c3,c4,c5,c6,c7,c8,c9,c10⟩,hc,hs⟩:=h j E hE;have k:∀ {p v},w.cell? p=some v→w'.cell? p=some v:=fun hc=>(hb.cell (zal hc)).trans hc
 exact⟨b,off,Aj,cj,hA,⟨k c0,k c1,k c2,k c3,k c4,k c5,k c6,k c7,k c8,k c9,k c10⟩,hc,hs⟩
theorem zke {w w':World}(h:Below w.drew.heap.size w.drew w'):Below w.heap.size w w':=⟨h.os,h.tape,h.output,h.size,h.block⟩
theorem zkf {w:World}{b:Nat}{E:Ent}{A:Option Addr}{n c:Nat}(h:Blk w b 90 (entV E A n c)):w.cell? ⟨b,0,none⟩=some (.int .i64 E.ix)∧ w.cell? ⟨b,1,none⟩=some (.int .i64 E.sub)∧ w.cell? ⟨b,2,none⟩=some (.string E.nm)∧ w.cell? ⟨b,3,none⟩=some (.int .i64 E.ty)∧ w.cell? ⟨b,4,none⟩=some (.int .i64 E.acc)∧ w.cell? ⟨b,5,none⟩=some (.bool E.mp)∧ w.cell? ⟨b,6,none⟩=some (.bool E.st)∧ w.cell? ⟨b,7,none⟩=some (.int .i64 E.mx)∧ w.cell? ⟨b,8,none⟩=some (.int .i64 E.lo)∧ w.cell? ⟨b,9,none⟩=some (.int .i64 E.hi)∧ w.cell? ⟨b,10,none⟩=some (.slice A n c):=
 ⟨h.cell 0 rfl,h.cell 1 rfl,h.cell 2 rfl,h.cell 3 rfl,h.cell 4 rfl,h.cell 5 rfl,h.cell 6 rfl,h.cell 7 rfl,h.cell 8 rfl,h.cell 9 rfl,h.cell 10 rfl⟩
theorem zkg {g H:Nat}{A':Option Addr}(h:A'=some (⟨g,0,none⟩:Addr)∨ A'=some ⟨H,0,none⟩):∃g',A'=some ⟨g',0,none⟩:=h.elim (fun h=>⟨g,h⟩) (fun h=>⟨H,h⟩)
def svF (v:SV) (d:Option Addr×Nat):List Value:=[.int .i64 v.ix,.int .i64 v.sub,.slice d.1 v.data.length d.2]
theorem zkh (v:SV)(d:Option Addr×Nat):(svF v d).length=3:=rfl
theorem zki (v:SV)(d:Option Addr×Nat):∀u ∈ svF v d,u.oneCell'=true:=by
 intro u hu;simp only[svF,List.mem_cons,List.not_mem_nil,or_false] at hu;rcases hu with rfl | rfl | rfl<;>rfl
theorem zkj:(Tryz.prog.info? 46).map (fun i=>(i.zero,i.size,i.bytes))=some (some (.agg #[.int .i64 0,.int .i64 0,.slice none 0 0]),3,40):=by kernel_rfl
abbrev OwnSV (w:World) (F:Nat→Prop) (A:Option Addr) (n c:Nat) (L:List SV) (ds:List (Option Addr×Nat)):Prop:=zd8 svF 3 46 SV.data w F A n c L ds
def zkk (ds:List (Option Addr×Nat)):Prop:=ds.Pairwise (fun a b=> ∀g,a.1=some (⟨g,0,none⟩:Addr)→ b.1≠some ⟨g,0,none⟩)
theorem zkk.nil:zkk []:=List.Pairwise.nil
theorem zkk.snoc {ds:List (Option Addr×Nat)}(h:zkk ds){d:Option Addr×Nat}{N:Nat}(h1:∀e ∈ ds,∀g,e.1=some (⟨g,0,none⟩:Addr)→ g < N)(h2:FIn (fun g=>N≤g) d.1):zkk (ds ++ [d]):=by
 unfold zkk;rw[List.pairwise_append];refine⟨h,List.pairwise_singleton _ _,?_⟩;intro a ha b hb g hg he;simp at hb;subst hb
 have:=h1 a ha g hg
 have:=h2 g he
 omega
section
variable {w:World} {F:Nat→Prop} {A:Option Addr} {n c:Nat} {L:List SV} {ds:List (Option Addr×Nat)}
theorem zd8.dlt {α:Type}{f: α→Option Addr×Nat→List Value}{k:Nat}{e:TypeId}{dat: α→List UInt8}{L:List α}(h:zd8 f k e dat w F A n c L ds):∀d ∈ ds,∀g,d.1=some (⟨g,0,none⟩:Addr)→ g < w.heap.size:=by
 intro d hd g hg;obtain⟨j,hj,rfl⟩:=List.getElem_of_mem hd;obtain⟨v,hv⟩:∃v,L[j]? =some v:=⟨L[j]'(by rw[←h.hd];exact hj),List.getElem?_eq_getElem _⟩;exact ((h.data j v _ hv (List.getElem?_eq_getElem hj)).1.own.fin g hg).2
theorem zd8.slV (h:OwnSV w F A n c L ds):SlV w A L:=by
 intro j v hv;obtain⟨d,hd,hO,_⟩:=h.elem hv;obtain⟨g,hA,_,hc⟩:=h.cells zkh hv hd (by omega);exact⟨g,0,d.1,d.2,hA,by rw[Nat.zero_add];exact hc 0 _ rfl,by rw[Nat.zero_add];exact hc 1 _ rfl,by rw[Nat.zero_add];exact hc 2 _ rfl,hO.own.le,hO.sl⟩
end
section
variable {α:Type} {f: α→Option Addr×Nat→List Value} {k:Nat} {e:TypeId} {dat: α→List UInt8} {w w':World} {F:Nat→Prop} {n c:Nat} {A:Option Addr} {L:List α} {ds:List (Option Addr×Nat)}
theorem zd8.grownT (h:zd8 f k e dat w F A n c L ds){B2 e2 s2 n2 c2:Nat}{A2:Option Addr}{xs2:List Value}(hg:w.grownBy w' (Value.ownBlock (.slice A2 n2 c2)))(h2:Own w B2 e2 s2 A2 n2 c2 xs2)(h1:e≠e2)(h3:5≠e2):zd8 f k e dat w' F A n c L ds:=
 ⟨h.hn,h.hd,h.own.grown hg (zd2 h.own h2 h1),h.inF,fun j v d hv hd=>⟨⟨(h.data j v d hv hd).1.hn,(h.data j v d hv hd).1.own.grown hg (zd2 (h.data j v d hv hd).1.own h2 h3)⟩,(h.data j v d hv hd).2⟩⟩
theorem zkl {B e' s' n' c':Nat}{A':Option Addr}{xs':List Value}{g:Nat}{t:TypeId}{cs:Array Value}(h':Own w B e' s' A' n' c' xs')(h:Blk w g t cs)(hne:t≠e'):∀g',A'=some (⟨g',0,none⟩:Addr)→ some g'≠some g:=by
 rintro g' rfl hg
 have:=zd3 h h' hne
 simp[Value.ownBlock] at this;injection hg with hg
 exact this hg.symm
theorem zd8.setT (h:zd8 f k e dat w F A n c L ds){g:Nat}{t:TypeId}{cs:Array Value}(hB:Blk w g t cs)(h1:t≠e)(h3:t≠5)(i:Nat)(u:Value):zd8 f k e dat (w.setCell ⟨g,i,none⟩ u) F A n c L ds:=by
 have hg:w.grownBy (w.setCell ⟨g,i,none⟩ u) (some g):=zc3 (World.grownBy.refl _ _) (.inl rfl) i u;exact⟨h.hn,h.hd,h.own.grown hg (zkl h.own hB h1),h.inF,fun j v d hv hd=>⟨⟨(h.data j v d hv hd).1.hn,(h.data j v d hv hd).1.own.grown hg (zkl (h.data j v d hv hd).1.own hB h3)⟩,(h.data j v d hv hd).2⟩⟩
theorem zd8.empty {g:Nat}(hB:Blk w g e #[])(hF:F g):zd8 f k e dat w F (some ⟨g,0,none⟩) 0 0 [] []:=
 ⟨rfl,rfl,⟨by simp[cellsG],.inr ⟨g,0,#[],rfl,Nat.zero_le _,hB,Nat.le_refl _,by unfold maxLen;omega,by simp,by simp[cellsG]⟩⟩,fun g' hg=>by injection hg with hg;injection hg with hg;subst hg;exact hF,by intro j v d h;simp at h⟩
end
def svL (L:List Ent) (V:List (List UInt8)):List SV:=List.zipWith (fun E v=>⟨E.ix,E.sub,v⟩) L V
theorem zkm (L:List Ent)(V:List (List UInt8))(h:V.length=L.length):(svL L V).length=L.length:=by simp[svL,h]
theorem zkn {L:List Ent}{V:List (List UInt8)}{k:Nat}{E:Ent}{v:List UInt8}(hE:L[k]? =some E)(hv:V[k]? =some v):(svL L V)[k]? =some ⟨E.ix,E.sub,v⟩:=by simp[svL,List.getElem?_zipWith,hE,hv]
theorem zko {α:Type}{L:List α}{k:Nat}{x: α}(h:L[k]? =some x):L.take (k+1)=L.take k ++ [x]:=by
 obtain⟨hk,rfl⟩:=List.getElem?_eq_some_iff.1 h;exact List.take_succ_eq_append_getElem hk
end
end Go.Proofs.YtkkpjbjmhaecjaaGreat
