/- None -/
import Derived.Test.YthdbckbpldlkeaaGreatS18
namespace Go.Proofs.YthdbckbpldlkeaaGreat
set_option linter.unusedVariables false
set_option linter.unusedSimpArgs false
set_option linter.unnecessarySimpa false
section
section
open Go.RowKit
set_option maxRecDepth 100000
set_option maxHeartbeats 4000000
theorem zi9 (E:Ent) (A:Option Addr) (n c:Nat) (w:World):Calls Tryz.prog 159 #[.agg (entV E A n c)] w fun e w'=>e= .returned (.int .i64 (mostE E))∧ Below w.heap.size w w':=by
 obtain⟨ix,sub,nm,ty,acc,mp,st,mx,lo,hi,df⟩:= E
 have q:=zdb w 97 (entV ⟨ix,sub,nm,ty,acc,mp,st,mx,lo,hi,df⟩ A n c)
 have hbw:=zc1 (Below.refl w.heap.size w) (.cells (entV ⟨ix,sub,nm,ty,acc,mp,st,mx,lo,hi,df⟩ A n c) 97)
 unfold entV at *
 go_enter Tryz.func159,Tryz.ntmps159
 go_wp2_with fail
 refine (zh2 ty _).mono ?_
 rintro e w1 ⟨rfl,hb1⟩
 have q1:=q.below hb1 q.lt
 have hbw1:=zc0 hb1 hbw
 by_cases hb:0 < tyBits ty
 · have HM:Hid (mostE ⟨ix,sub,nm,ty,acc,mp,st,mx,lo,hi,df⟩=tySize ty):= zak (by unfold mostE;rw[if_pos hb])
   obtain⟨q1_c0,q1_c1,q1_c2,q1_c3,q1_c4,q1_c5,q1_c6,q1_c7,q1_c8,q1_c9,q1_c10⟩:= zc7 q1
   have q1_f:=q1.frozen
   go_wp2_with fail
   refine (zh3 ty _).mono ?_
   rintro e w2 ⟨rfl,hb2⟩
   go_wp2_with fail
   go_ret
   exact⟨zat HM.out.symm,zc0 hb2 hbw1⟩
 · have HM:Hid (mostE ⟨ix,sub,nm,ty,acc,mp,st,mx,lo,hi,df⟩=if mx < 0 then 0 else if 256 < mx then 256 else mx):= zak (by unfold mostE;rw[if_neg hb])
   obtain⟨q1_c0,q1_c1,q1_c2,q1_c3,q1_c4,q1_c5,q1_c6,q1_c7,q1_c8,q1_c9,q1_c10⟩:= zc7 q1
   have q1_f:=q1.frozen
   go_wp2_with fail
   all_goals
    go_ret
    refine⟨zat ?_,hbw1⟩
    rw[HM.out]
    clear hbw1 hb1 hbw
    (repeat' split)<;> omega
theorem zja (E:Ent) (k:Int) (A:Option Addr) (n c:Nat) (w:World):Calls Tryz.prog 158 #[.agg (entV E A n c),.int .i64 k] w fun e w'=>e= .returned (.int .u32 (fitsC E k))∧ Below w.heap.size w w':=by
 have HM:=zak (fun W=>zi9 E A n c W)
 have HF:Hid (fitsC E k=if mostE E < k then 101122066 else if k < tySize E.ty then 101122067 else 0):= zak rfl
 obtain⟨m,hm⟩:∃ m,m=mostE E:=⟨_,rfl⟩
 rw[← hm] at HM HF
 obtain⟨f,hf⟩:∃ f,f=fitsC E k:=⟨_,rfl⟩
 rw[← hf] at HF ⊢
 clear hm hf
 obtain⟨ix,sub,nm,ty,acc,mp,st,mx,lo,hi,df⟩:= E
 have q:=zdb w 97 (entV ⟨ix,sub,nm,ty,acc,mp,st,mx,lo,hi,df⟩ A n c)
 have hbw:=zc1 (Below.refl w.heap.size w) (.cells (entV ⟨ix,sub,nm,ty,acc,mp,st,mx,lo,hi,df⟩ A n c) 97)
 unfold entV at *
 go_enter Tryz.func158,Tryz.ntmps158
 go_wp2_with fail
 refine (HM.out _).mono ?_
 rintro e w1 ⟨rfl,hb1⟩
 have q1:=q.below hb1 q.lt
 have hbw1:=zc0 hb1 hbw
 by_cases h0:m < k
 · have HR:Hid (f=101122066):= zak (by rw[HF.out,if_pos h0])
   go_wp2_with fail
   go_ret
   exact⟨zat HR.out.symm,hbw1⟩
 · have HR:Hid (f=if k < tySize ty then 101122067 else 0):= zak (by rw[HF.out,if_neg h0])
   obtain⟨q1_c0,q1_c1,q1_c2,q1_c3,q1_c4,q1_c5,q1_c6,q1_c7,q1_c8,q1_c9,q1_c10⟩:= zc7 q1
   have q1_f:=q1.frozen
   go_wp2_with fail
   refine (zh3 ty _).mono ?_
   rintro e w2 ⟨rfl,hb2⟩
   have hbw2:=zc0 hb2 hbw1
   obtain⟨s,hs⟩:∃ s,s=tySize ty:=⟨_,rfl⟩
   rw[← hs] at HR ⊢
   clear hs
   by_cases h1:k < s
   · have HR2:Hid (f=101122067):= zak (by rw[HR.out,if_pos h1])
     go_wp2_with fail
     go_ret
     exact⟨zat HR2.out.symm,hbw2⟩
   · have HR2:Hid (f=0):= zak (by rw[HR.out,if_neg h1])
     go_wp2_with fail
     go_ret
     exact⟨zat HR2.out.symm,hbw2⟩
section
variable {F:Nat→Prop} {p n cl cv:Nat} {Av:Option Addr} {L:List Ent} {V:List (List UInt8)} {ds es:List (Option Addr×Nat)} {gl:Nat}
def SMayR (L:List Ent) (ix sub:Int) (w:World) (e:Ending) (w':World):Prop:=
 ∃ E A n c,e= .returned (.tuple #[.agg (entV E A n c),.int .u32 (smayC L ix sub)])∧ (smayC L ix sub=0→E=entK L (locK L ix sub))∧ Below w.heap.size w w'
theorem zjb (ix sub:Int) (w:World) (hD:DB 107 w F p (some ⟨gl,0,none⟩) n cl Av cv L V ds es) (hs:SortedE L) (hn:n≤1000) :
 Calls Tryz.prog 157 #[.pointer (some ⟨p,0,none⟩),.int .i64 ix,.int .i64 sub] w (SMayR L ix sub w):= by
 have HS:=zak hs
 have H1:=zak hn
 have hbw:=zc1 (Below.refl w.heap.size w) (.cells (entV zeroE none 0 0) 97)
 have q:=zdb w 97 (entV zeroE none 0 0)
 have HD:=zak (hD.below hbw)
 have HQ:=zak q
 have HP:Hid (∀ w1 E A m c,Below w.heap.size w w1→Blk w1 w.heap.size 97 (entV zeroE none 0 0)→ Blk (put11 w1 w.heap.size E A m c) w.heap.size 97 (entV E A m c)∧ Below w.heap.size w (put11 w1 w.heap.size E A m c)):= zak (by
  intro w1 E A m c hb hB
  have o1:=ziu w1 w.heap.size E A m c
  exact⟨zit hB rfl E A m c,hb.trans (o1.below hb.size (fun i h=>by omega))⟩)
 unfold put11 at HP
 have HP':=zak HP
 clear hD hs HP
 unfold entV zeroE at q hbw
 go_enter Tryz.func157,Tryz.ntmps157
 go_wp2_with fail
 refine (zgw ix sub _ HD.out HS.out H1.out).mono ?_
 rintro e w1 ⟨rfl,hb1⟩
 have HD1:=zak (HD.out.below hb1)
 have hbw1:=zc0 hb1 hbw
 have HQ1:=zak (HQ.out.below hb1 HQ.out.lt)
 have q1:=HQ1.out
 unfold entV zeroE at q1
 obtain⟨q1_c0,q1_c1,q1_c2,q1_c3,q1_c4,q1_c5,q1_c6,q1_c7,q1_c8,q1_c9,q1_c10⟩:= zc7 q1
 have q1_f:=q1.frozen
 by_cases hf:0≤findL L ix sub
 · obtain⟨j,hj,hlj,hjl⟩:= zce hf
   obtain⟨E,hE⟩:∃ E,L[j]? =some E:=⟨L[j],List.getElem?_eq_getElem _⟩
   have hh:hasL L ix sub=true:=by simp[hasL,hf]
   have HC:Hid (smayC L ix sub=writeE E.acc):= zak (by unfold smayC;rw[if_pos (zbz.2 hf),hlj,zb2 hE])
   have HK:Hid (E=entK L (locK L ix sub)):= zak (by rw[hlj,zb2 hE])
   rw[hh,hlj]
   have HE:=zak hE
   clear hf hj hlj hh hE
   go_wp2_with fail
   refine (zi2 j E _ _ p gl n cl cv Av L V ds es HD1.out HE.out).mono ?_
   rintro e w2 ⟨A2,c2,rfl,hO2,hb2⟩
   clear hO2
   have hbw2:=zc0 hb2 hbw1
   have HQ2:=zak (HQ1.out.below hb2 HQ1.out.lt)
   have HQ3:=zak (HQ2.out.alloc (.cells (entV E A2 E.df.length c2) 97))
   have hbw3:=zc1 hbw2 (.cells (entV E A2 E.df.length c2) 97)
   have q3:=zdb w2 97 (entV E A2 E.df.length c2)
   have HW:=zak (fun W=>zgo E A2 E.df.length c2 W)
   obtain⟨wc,hwc⟩:∃ wc,wc=writeE E.acc:=⟨_,rfl⟩
   rw[← hwc] at HC HW
   clear hwc
   have HQ3b:=zak HQ3
   clear HQ2
   unfold entV at HW q3 hbw3 ⊢
   clear q1_c0 q1_c1 q1_c2 q1_c3 q1_c4 q1_c5 q1_c6 q1_c7 q1_c8 q1_c9 q1_c10 q1_f
   obtain⟨q3_c0,q3_c1,q3_c2,q3_c3,q3_c4,q3_c5,q3_c6,q3_c7,q3_c8,q3_c9,q3_c10⟩:= zc7 q3
   have q3_f:=q3.frozen
   go_wp2_with fail
   refine (HW.out _).mono ?_
   rintro e w4 ⟨rfl,hb4⟩
   have hbw4:=zc0 hb4 hbw3
   have HQ4:=zak (HQ3b.out.out.below hb4 HQ3b.out.out.lt)
   have q4:=q3.below hb4 q3.lt
   have r4:=HQ4.out
   unfold entV zeroE at r4
   clear q3_c0 q3_c1 q3_c2 q3_c3 q3_c4 q3_c5 q3_c6 q3_c7 q3_c8 q3_c9 q3_c10 q3_f
   obtain⟨q4_c0,q4_c1,q4_c2,q4_c3,q4_c4,q4_c5,q4_c6,q4_c7,q4_c8,q4_c9,q4_c10⟩:= zc7 q4
   have q4_f:=q4.frozen
   obtain⟨r4_c0,r4_c1,r4_c2,r4_c3,r4_c4,r4_c5,r4_c6,r4_c7,r4_c8,r4_c9,r4_c10⟩:= zc7 r4
   have r4_f:=r4.frozen
   by_cases h0:wc=0
   · subst h0
     go_wp2_with fail
     obtain⟨r1,r2⟩:= HP'.out.out _ E A2 E.df.length c2 hbw4 HQ4.out
     exact ziy (E:=E) (A:=A2) (n:=E.df.length) (c:=c2) rfl rfl rfl r1 ⟨E,A2,_,c2,by rw[HC.out];rfl,fun _=>HK.out,r2⟩
   · go_wp2_with fail
     obtain⟨r1,r2⟩:= HP'.out.out _ zeroE none 0 0 hbw4 HQ4.out
     exact ziy (E:=zeroE) (A:=none) (n:=0) (c:=0) rfl rfl rfl r1 ⟨zeroE,none,0,0,by rw[HC.out];rfl,fun h=>absurd (by rw[← HC.out];exact h) h0,r2⟩
 · have hh:hasL L ix sub=false:=by simp[hasL,hf]
   have hlk:locK L ix sub=0:=by unfold locK;omega
   have hcz:codeL L ix sub≠0:=fun h=>hf (zbz.1 h)
   have HC:Hid (smayC L ix sub=mayC L ix sub [] false):= zak (by unfold smayC mayC;rw[if_neg hcz,if_neg hcz])
   have HCZ:Hid (mayC L ix sub [] false≠0):= zak (by unfold mayC;rw[if_neg hcz];exact hcz)
   rw[hh,hlk]
   clear hf hh hlk hcz
   go_wp2_with fail
   refine (zip ix sub none 0 0 [] _ HD1.out HS.out H1.out rfl (by omega) (by omega) (by intro j u hu;simp at hu)).mono ?_
   rintro e w2 ⟨rfl,hb2⟩
   have hbw2:=zc0 hb2 hbw1
   have HQ2:=zak (HQ1.out.below hb2 HQ1.out.lt)
   have r2:=HQ2.out
   unfold entV zeroE at r2
   clear q1_c0 q1_c1 q1_c2 q1_c3 q1_c4 q1_c5 q1_c6 q1_c7 q1_c8 q1_c9 q1_c10 q1_f
   obtain⟨r2_c0,r2_c1,r2_c2,r2_c3,r2_c4,r2_c5,r2_c6,r2_c7,r2_c8,r2_c9,r2_c10⟩:= zc7 r2
   have r2_f:=r2.frozen
   obtain⟨cc,hcc⟩:∃ cc,cc=mayC L ix sub [] false:=⟨_,rfl⟩
   rw[← hcc] at HC HCZ ⊢
   clear hcc
   go_wp2_with fail
   obtain⟨r1,r3⟩:= HP'.out.out _ zeroE none 0 0 hbw2 HQ2.out
   exact ziy (E:=zeroE) (A:=none) (n:=0) (c:=0) rfl rfl rfl r1 ⟨zeroE,none,0,0,by rw[HC.out];rfl,fun h=>absurd (by rw[← HC.out];exact h) HCZ.out,r3⟩
end
end
section
open Go.RowKit
set_option maxRecDepth 100000
set_option maxHeartbeats 4000000
def srvV (S:SegS) (pd:Nat) (A:Option Addr) (n c:Nat):Array Value:= #[.pointer (some ⟨pd,0,none⟩),.int .i64 S.st,.int .i64 S.ix,.int .i64 S.sub,.int .i64 S.mo,.int .i64 S.sz,.slice A n c,.bool S.tg,.int .i64 S.wk,.int .i64 S.wi,.int .i64 S.ws,.bool S.wt,.bool false,.bool false,.bool false,.int .u32 0,.int .u32 0,.slice none 0 0,.int .i64 0,.int .i64 0,.int .i64 0,.int .u16 0]
structure SB (w:World) (F:Nat→Prop) (p pd:Nat) (S:SegS):Prop where
 nF: ¬ F p
 some_:∃ A n c,Blk w p 199 (srvV S pd A n c)∧ ((S.st=1∨S.st=2)→ n=S.b.length∧n≤c∧Sl w A (S.b.map bv)∧ ∀ ad,A=some ad→F ad.block∧ad.block < w.heap.size)
def outV (As:Option Addr) (ns cs:Nat) (O:SegO) (A:Option Addr) (n c:Nat):Array Value:= #[.slice As ns cs,.bool O.wr,.int .i64 O.ix,.int .i64 O.sub,.slice A n c]
theorem zjc:(Tryz.prog.info? 100).map (·.size)=some 5:=by kernel_rfl
theorem zjd {fn:Func} {p:Tmp} (h:fn.results= #[.cell p 100]) {a:Act} {w:World} {g:Nat} {As:Option Addr} {ns cs:Nat} {O:SegO} {A:Option Addr} {n c:Nat} {R:Ending→World→Prop} (hd:a.defers= []) (hp:a.tmps.getD p undef= .pointer (some ⟨g,0,none⟩))
 (hB:Blk w g 100 (outV As ns cs O A n c)) (hR:R (.returned (.agg (outV As ns cs O A n c))) w):bodyPost Tryz.prog fn R .ret a w:=
 bodyPost_ret (results_cell_row h _ _ _ _ _ _ _ hp hB Tryz.underlying100 rfl zjc) hd hR
def putO (w:World) (g:Nat) (As:Option Addr) (ns cs:Nat) (O:SegO) (A:Option Addr) (n c:Nat):World:=((((w.setCell ⟨g,0,none⟩ (.slice As ns cs)).setCell ⟨g,1,none⟩ (.bool O.wr)).setCell ⟨g,2,none⟩ (.int .i64 O.ix)).setCell ⟨g,3,none⟩ (.int .i64 O.sub)).setCell ⟨g,4,none⟩ (.slice A n c)
theorem zje {w:World} {g:Nat} {As As':Option Addr} {ns cs ns' cs':Nat} {O O':SegO} {A A':Option Addr} {n c n' c':Nat} (h:Blk w g 100 (outV As ns cs O A n c)):Blk (putO w g As' ns' cs' O' A' n' c') g 100 (outV As' ns' cs' O' A' n' c'):=
 ((((h.set_ 0 (.slice As' ns' cs')).set_ 1 (.bool O'.wr)).set_ 2 (.int .i64 O'.ix)).set_ 3 (.int .i64 O'.sub)).set_ 4 (.slice A' n' c')
theorem zjf {w:World} {g p:Nat} {t:TypeId} {arr:Array Value} (h:Blk w p t arr) (hne:p≠g) (As:Option Addr) (ns cs:Nat) (O:SegO) (A:Option Addr) (n c:Nat):Blk (putO w g As ns cs O A n c) p t arr:=
 (((((h.far (p:=⟨g,0,none⟩) hne _).far (p:=⟨g,1,none⟩) hne _).far (p:=⟨g,2,none⟩) hne _).far (p:=⟨g,3,none⟩) hne _).far (p:=⟨g,4,none⟩) hne _)
theorem zjg {F:Nat→Prop} {w W:World} {g:Nat} (h:zdv F w W) (hg:w.heap.size≤g) (As:Option Addr) (ns cs:Nat) (O:SegO) (A:Option Addr) (n c:Nat):zdv F w (putO W g As ns cs O A n c):=
 ((((h.setNew hg _).setNew hg _).setNew hg _).setNew hg _).setNew hg _
theorem zjh {w:World} {B g n c:Nat} {A:Option Addr} {l:List UInt8} (h:zdq w B A n c l) (hg:g < B) (As:Option Addr) (ns cs:Nat) (O:SegO) (A2:Option Addr) (n2 c2:Nat):zdq (putO w g As ns cs O A2 n2 c2) B A n c l:=
 ((((h.set_ (p:=⟨g,0,none⟩) hg _).set_ (p:=⟨g,1,none⟩) hg _).set_ (p:=⟨g,2,none⟩) hg _).set_ (p:=⟨g,3,none⟩) hg _).set_ (p:=⟨g,4,none⟩) hg _
theorem zji (pd:Nat) (w:World):Calls Tryz.prog 70 #[.pointer (some ⟨pd,0,none⟩)] w fun e w'=>e= .returned (.pointer (some ⟨w.heap.size,0,none⟩))∧ Blk w' w.heap.size 199 (srvV segZ pd none 0 0)∧ Below w.heap.size w w'∧w'.heap.size=w.heap.size+1:=by
 have q:=zdb w 199 (srvV segZ pd none 0 0)
 have hbw:=zc1 (Below.refl w.heap.size w) (.cells (srvV segZ pd none 0 0) 199)
 have HQ:=zak q
 have HB:=zak hbw
 clear q hbw
 unfold srvV segZ at *
 go_enter Tryz.func70,Tryz.ntmps70
 go_wp2_with fail
 go_ret
 exact⟨rfl,HQ.out,HB.out,by simp⟩
theorem zjj (p pd:Nat) (S:SegS) (A:Option Addr) (n c:Nat) (w:World) (hB:Blk w p 199 (srvV S pd A n c)):Calls Tryz.prog 76 #[.pointer (some ⟨p,0,none⟩)] w fun e w'=>e= .returned (.bool (S.st != 0))∧ w=w':=by
 have c1:w.cell? ⟨p,1,none⟩=some (.int .i64 S.st):= hB.cell 1 rfl
 go_enter Tryz.func76,Tryz.ntmps76
 go_wp2_with fail
 go_ret
 exact⟨rfl,rfl⟩
theorem zjk (ix sub:Int) (code:Nat) (w:World):Calls Tryz.prog 192 #[.int .i64 ix,.int .i64 sub,.int .u32 (code:Nat)] w fun e w'=>e= .returned (.slice (some ⟨w.heap.size,0,none⟩) 1 1)∧ Blk w' w.heap.size 102 (msV (abM ix sub code) none 0 0)∧ Below w.heap.size w w'∧w'.heap.size=w.heap.size+1:=by
 have q:=zdb w 102 (msV (abM ix sub code) none 0 0)
 have hbw:=zc1 (Below.refl w.heap.size w) (.cells (msV (abM ix sub code) none 0 0) 102)
 have HQ:=zak q
 have HB:=zak hbw
 clear q hbw
 unfold msV abM at *
 go_enter Tryz.func192,Tryz.ntmps192
 go_wp2_with fail
 go_ret
 exact⟨rfl,HQ.out,HB.out,by simp⟩
theorem zjl (M:Ms) (A:Option Addr) (n c:Nat) (w:World):Calls Tryz.prog 224 #[.agg (msV M A n c)] w fun e w'=> ∃ g,w.heap.size≤g∧e= .returned (.agg (outV (some ⟨g,0,none⟩) 1 1 outZ none 0 0))∧ Blk w' g 102 (msV M A n c)∧ Below w.heap.size w w':=by
 obtain⟨k1,k2,k3⟩:= zdd w 102 100 102 (msV M A n c) (outV (some ⟨w.heap.size+1+1,0,none⟩) 1 1 outZ none 0 0) (msV M A n c)
 have hbw:=zc1 (zc1 (zc1 (Below.refl w.heap.size w) (.cells (msV M A n c) 102)) (.cells (outV (some ⟨w.heap.size+1+1,0,none⟩) 1 1 outZ none 0 0) 100)) (.cells (msV M A n c) 102)
 have HK2:=zak k2
 have HK3:=zak k3
 have HB:=zak hbw
 clear k1 k2 k3 hbw
 obtain⟨kind,ix,sub,tg,la,cr,sz,size,code,data,sq,bl,em,sum⟩:= M
 unfold msV at *
 go_enter Tryz.func224,Tryz.ntmps224
 go_wp2_with fail
 exact zjd (O:=outZ) rfl rfl rfl HK2.out ⟨w.heap.size+1+1,by omega,rfl,HK3.out,HB.out⟩
theorem zjm (p pd:Nat) (S:SegS) (code:Nat) (A:Option Addr) (n c:Nat) (w:World) (hB:Blk w p 199 (srvV S pd A n c)) :
 Calls Tryz.prog 138 #[.pointer (some ⟨p,0,none⟩),.int .u32 (code:Nat)] w fun e w'=>(S.st=0→e= .returned (.slice none 0 0)∧ w'=w)∧
  (S.st≠0→ ∃ g,w.heap.size≤g∧e= .returned (.slice (some ⟨g,0,none⟩) 1 1)∧ Blk w' g 102 (msV (abM S.ix S.sub code) none 0 0)∧ Blk w' p 199 (srvV (abortS S) pd A n c)∧ zdv (fun k=>k=p) w w'):= by
 have HB:=zak hB
 clear hB
 by_cases h0:S.st=0
 · have hf:(S.st != 0)=false:=by simp[h0]
   go_enter Tryz.func138,Tryz.ntmps138
   go_wp2_with fail
   refine (zjj p pd S A n c _ HB.out).mono ?_
   rintro e w1 ⟨rfl,rfl⟩
   rw[hf]
   go_wp2_with fail
   go_ret
   exact⟨fun _=>⟨rfl,rfl⟩,fun h=>absurd h0 h⟩
 · have hf:(S.st != 0)=true:=by simp[h0]
   have hs:Hid (Blk (w.setCell ⟨p,1,none⟩ (.int .i64 0)) p 199 (srvV (abortS S) pd A n c)):= zak (HB.out.set_ 1 (.int .i64 0))
   have ho:zdv (fun k=>k=p) w (w.setCell ⟨p,1,none⟩ (.int .i64 0)):= zdv.of_set (F:=fun k=>k=p) rfl _
   have hz:=HB.out.lt
   have qB:=HB.out
   unfold srvV at qB
   have c1:w.cell? ⟨p,1,none⟩=some (.int .i64 S.st):= HB.out.cell 1 rfl
   have f1:=HB.out.frozen 1
   have q':=hs.out
   unfold srvV abortS at q'
   have hz0:(w.setCell ⟨p,1,none⟩ (.int .i64 0)).heap.size=w.heap.size:=by simp[World.setCell]
   have d2:(w.setCell ⟨p,1,none⟩ (.int .i64 0)).cell? ⟨p,2,none⟩=some (.int .i64 S.ix):= q'.cell 2 rfl
   have d3:(w.setCell ⟨p,1,none⟩ (.int .i64 0)).cell? ⟨p,3,none⟩=some (.int .i64 S.sub):= q'.cell 3 rfl
   go_enter Tryz.func138,Tryz.ntmps138
   go_wp2_with fail
   refine (zjj p pd S A n c _ HB.out).mono ?_
   rintro e w1 ⟨rfl,rfl⟩
   rw[hf]
   clear qB q'
   go_wp2_with fail
   refine wp_region_held_drew (S:=(fun w'=>(∀ qA:Addr,qA.block < ((w.setCell ⟨p,1,none⟩ (.int .i64 0))).heap.size→w'.cell? qA=((w.setCell ⟨p,1,none⟩ (.int .i64 0))).cell? qA)∧ Below ((w.setCell ⟨p,1,none⟩ (.int .i64 0))).heap.size ((w.setCell ⟨p,1,none⟩ (.int .i64 0))) w')) (by kernel_rfl) ?hS1 (fun hHeld=>?rest1)
   case hS1=>((try dsimp only);(((try go_split_ands);refine zcz ?_;repeat' (first | with_reducible assumption | with_reducible exact Below.refl _ _ | with_reducible apply zc1 | with_reducible apply zdm | with_reducible apply zdl | (with_reducible apply zc0;with_reducible assumption) | (with_reducible apply zdn;(first | exact Nat.le_refl _ | (simp;done) | omega))))))
   case' rest1=>skip
   iterate 9 (refine tkN ?_;try simp only[PqL,Act.put])
   refine wpAnyH_ready (rs:= [9]) (by kernel_rfl) (by simp) ?_
   refine AllReadyH.cons (o:=_) rfl (fun K hK=>?_) AllReadyH.nil
   go_simp
   refine (zjk S.ix S.sub code _).mono ?_
   rintro e w2 ⟨rfl,hB2,hb2,hz2⟩
   rw[show (w.setCell ⟨p,1,none⟩ (.int .i64 0)).drew.heap.size=w.heap.size from hz0] at hB2
   have HB2:=zak hB2
   dsimp only
   refine hK.out _ _ ?hS13 (fun hHeld=>?rest13)
   case hS13=>((try dsimp only);(((try go_split_ands);refine zcz ?_;repeat' (first | with_reducible assumption | with_reducible exact Below.refl _ _ | with_reducible apply zc1 | with_reducible apply zdm | with_reducible apply zdl | (with_reducible apply zc0;with_reducible assumption) | (with_reducible apply zdn;(first | exact Nat.le_refl _ | (simp;done) | omega))))))
   case' rest13=>(clear hK K;try simp only[PqL,Act.put])
   refine tkH 10 ?_
   try simp only[PqL,Act.put]
   refine wpAnyH_done (by kernel_rfl) ?_ _
   have hEnd:=hHeld.2
   repeat (clear hHeld)
   go_wp2_with fail
   go_ret
   exact⟨fun h=>absurd h h0,fun _=>⟨w.heap.size,Nat.le_refl _,rfl,HB2.out,hs.out.below hEnd hs.out.lt,ho.trans (zdv.of_below (F:=fun k=>k=p) hEnd) (fun _ _ h=>h)⟩⟩
theorem zjn (p pd:Nat) (S:SegS) (A:Option Addr) (n c:Nat) (w:World) (hB:Blk w p 199 (srvV S pd A n c)) :
 Calls Tryz.prog 77 #[.pointer (some ⟨p,0,none⟩)] w fun e w'=>e= .returned (.tuple #[])∧ Blk w' p 199 (srvV (segIdle S) pd A n c)∧ zdv (fun k=>k=p) w w':=by
 have hs:Hid (Blk (w.setCell ⟨p,1,none⟩ (.int .i64 0)) p 199 (srvV (segIdle S) pd A n c)):= zak (hB.set_ 1 (.int .i64 0))
 have ho:zdv (fun k=>k=p) w (w.setCell ⟨p,1,none⟩ (.int .i64 0)):= zdv.of_set (F:=fun k=>k=p) rfl _
 have hz:=hB.lt
 have c1:w.cell? ⟨p,1,none⟩=some (.int .i64 S.st):= hB.cell 1 rfl
 have f1:=hB.frozen 1
 go_enter Tryz.func77,Tryz.ntmps77
 go_wp2_with fail
 go_end0
 exact⟨rfl,hs.out,ho⟩
end
end
section
section
open Go.RowKit
structure SV where
 ix:Int
 sub:Int
 data:List UInt8
def SlV (w:World) (A:Option Addr) (L:List SV):Prop:= ∀ j v,L[j]? =some v→ ∃ b off Aj cj,A=some ⟨b,off,none⟩∧ w.cell? ⟨b,off+j * 3,none⟩=some (.int .i64 v.ix)∧ w.cell? ⟨b,off+j * 3+1,none⟩=some (.int .i64 v.sub)∧
 w.cell? ⟨b,off+j * 3+2,none⟩=some (.slice Aj v.data.length cj)∧ v.data.length≤cj∧Sl w Aj (v.data.map bv)
theorem SlV.keep {w w':World} {A:Option Addr} {L:List SV} (h:SlV w A L) (hk:∀ p v,w.cell? p=some v→w'.cell? p=some v):SlV w' A L:=by
 intro j v hv
 obtain⟨b,off,Aj,cj,e,h1,h2,h3,h4,h5⟩:= h j v hv
 exact⟨b,off,Aj,cj,e,hk _ _ h1,hk _ _ h2,hk _ _ h3,h4,h5.keep hk⟩
theorem SlV.below {w w':World} {A:Option Addr} {L:List SV} (h:SlV w A L) (hb:Below w.heap.size w w'):SlV w' A L:=
 h.keep fun _ _ hc=>(hb.cell (zal hc)).trans hc
def fitsV (L:List SV):Prop:= ∀ v ∈ L,v.data.length≤35184372088832
end
section
open Go.RowKit
structure Opr where
 kind:Int
 ix:Int
 sub:Int
 b:List UInt8
def SlO (w:World) (A:Option Addr) (L:List Opr):Prop:= ∀ j o,L[j]? =some o→ ∃ b off Aj cj,A=some ⟨b,off,none⟩∧ (w.cell? ⟨b,off+j * 4,none⟩=some (.int .i64 o.kind)∧ w.cell? ⟨b,off+j * 4+1,none⟩=some (.int .i64 o.ix)∧
 w.cell? ⟨b,off+j * 4+2,none⟩=some (.int .i64 o.sub)∧ w.cell? ⟨b,off+j * 4+3,none⟩=some (.slice Aj o.b.length cj))∧ o.b.length≤cj∧Sl w Aj (o.b.map bv)
end
end
end Go.Proofs.YthdbckbpldlkeaaGreat
