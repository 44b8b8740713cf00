/- None -/
import Derived.Test.YthdbckbpldlkeaaGreatS16
namespace Go.Proofs.YthdbckbpldlkeaaGreat
set_option linter.unusedVariables false
set_option linter.unusedSimpArgs false
set_option linter.unnecessarySimpa false
section
open Go.RowKit
set_option maxRecDepth 100000
set_option maxHeartbeats 2000000
def NumV (t lo hi:Int) (l:List UInt8):Int:=if decE t l=2 then 101122067 else if decE t l=3 then 101122066 else if decE t l≠0 then 101253168 else if decV t l < lo then 101253170 else if hi < decV t l then 101253169 else 0
theorem zih {t mx lo hi:Int} {l:List UInt8} (h:0 < tyBits t):valueE t mx lo hi l=NumV t lo hi l:=by
 unfold valueE
 rw[zaz (by omega),if_neg (by decide),if_pos h]
 rfl
theorem zii {t mx lo hi:Int} {l:List UInt8} (h: ¬ 0 < tyBits t):valueE t mx lo hi l=if checkE t mx l=0 then 0 else if checkE t mx l=3 then 101122066 else if checkE t mx l=4 then 101253168 else 100925511:=by
 unfold valueE
 cases hk:tyKnown t
 · rw[if_pos rfl]
   have:checkE t mx l=15:=by simp[checkE,hk]
   rw[this]
   rfl
 · rw[if_neg (by decide),if_neg h]
   rcases zay t mx l h hk with e | e | e<;>rw[e]<;> rfl
def ValR (E:Ent) (l:List UInt8) (w:World) (e:Ending) (w':World):Prop:=e= .returned (.int .u32 (valueE E.ty E.mx E.lo E.hi l))∧ Below w.heap.size w w'
def NumR (E:Ent) (l:List UInt8) (w:World) (e:Ending) (w':World):Prop:=e= .returned (.int .u32 (NumV E.ty E.lo E.hi l))∧ Below w.heap.size w w'
theorem zij (E:Ent) (A0:Option Addr) (n0 c0:Nat) (A:Option Addr) (n c:Nat) (l:List UInt8) (w:World) (hn:n=l.length) (hc:n≤c) (hl:n≤35184372088832) (hs:Sl w A (l.map bv)) :
 Calls Tryz.prog 168 #[.agg (entV E A0 n0 c0),.slice A n c] w (NumR E l w):= by
 obtain⟨ix,sub,nm,ty,acc,mp,st,mx,lo,hi,df⟩:= E
 have hs1:=hs.alloc (.cells (entV ⟨ix,sub,nm,ty,acc,mp,st,mx,lo,hi,df⟩ A0 n0 c0) 97)
 have q:=zdb w 97 (entV ⟨ix,sub,nm,ty,acc,mp,st,mx,lo,hi,df⟩ A0 n0 c0)
 have HN:=zak hn
 unfold entV at *
 clear hn
 go_enter Tryz.func168,Tryz.ntmps168
 go_wp2_with fail
 refine (zh6 ty A n c l _ HN.out hc hl hs1).mono ?_
 rintro e w1 ⟨rfl,hb1⟩
 have q1:=q.below hb1 q.lt
 obtain⟨q1_c0,q1_c1,q1_c2,q1_c3,q1_c4,q1_c5,q1_c6,q1_c7,q1_c8,q1_c9,q1_c10⟩:= zc7 q1
 have q1_f:=q1.frozen
 obtain⟨v,hv⟩:∃ v,v=decV ty l:=⟨_,rfl⟩
 obtain⟨er,he⟩:∃ er,er=decE ty l:=⟨_,rfl⟩
 have HV:Hid (NumV ty lo hi l=if er=2 then 101122067 else if er=3 then 101122066 else if er≠0 then 101253168 else if v < lo then 101253170 else if hi < v then 101253169 else 0):= zak (by rw[hv,he];rfl)
 rw[← hv,← he]
 clear hv he
 go_wp2_with fail
 all_goals
  go_ret
  refine⟨zat ?_,bl⟩
  show _=NumV ty lo hi l
  rw[HV.out]
  clear HV
  simp_all
 all_goals omega
theorem zik (E:Ent) (A0:Option Addr) (n0 c0:Nat) (A:Option Addr) (n c:Nat) (l:List UInt8) (w:World) (hn:n=l.length) (hc:n≤c) (hl:n≤35184372088832) (hs:Sl w A (l.map bv)) :
 Calls Tryz.prog 113 #[.agg (entV E A0 n0 c0),.slice A n c] w (ValR E l w):= by
 obtain⟨ix,sub,nm,ty,acc,mp,st,mx,lo,hi,df⟩:= E
 have hs1:=hs.alloc (.cells (entV ⟨ix,sub,nm,ty,acc,mp,st,mx,lo,hi,df⟩ A0 n0 c0) 97)
 have q:=zdb w 97 (entV ⟨ix,sub,nm,ty,acc,mp,st,mx,lo,hi,df⟩ A0 n0 c0)
 have HN:=zak hn
 by_cases hb:0 < tyBits ty
 · have HV:Hid (valueE ty mx lo hi l=NumV ty lo hi l):= zak (zih hb)
   have HNU:=zak (fun W (h:Sl W A (l.map bv))=> zij ⟨ix,sub,nm,ty,acc,mp,st,mx,lo,hi,df⟩ A0 n0 c0 A n c l W hn hc hl h)
   unfold entV at *
   clear hn
   go_enter Tryz.func113,Tryz.ntmps113
   go_wp2_with fail
   refine (zh2 ty _).mono ?_
   rintro e w1 ⟨rfl,hb1⟩
   have q1:=q.below hb1 q.lt
   obtain⟨q1_c0,q1_c1,q1_c2,q1_c3,q1_c4,q1_c5,q1_c6,q1_c7,q1_c8,q1_c9,q1_c10⟩:= zc7 q1
   have q1_f:=q1.frozen
   go_wp2_with fail
   refine (HNU.out _ (hs1.below hb1)).mono ?_
   rintro e w2 ⟨rfl,hb2⟩
   go_wp2_with fail
   go_ret
   exact⟨zat HV.out.symm,bl⟩
 · have HV:Hid (valueE ty mx lo hi l=if checkE ty mx l=0 then 0 else if checkE ty mx l=3 then 101122066 else if checkE ty mx l=4 then 101253168 else 100925511):= zak (zii hb)
   unfold entV at *
   clear hn
   go_enter Tryz.func113,Tryz.ntmps113
   go_wp2_with fail
   refine (zh2 ty _).mono ?_
   rintro e w1 ⟨rfl,hb1⟩
   have q1:=q.below hb1 q.lt
   obtain⟨q1_c0,q1_c1,q1_c2,q1_c3,q1_c4,q1_c5,q1_c6,q1_c7,q1_c8,q1_c9,q1_c10⟩:= zc7 q1
   have q1_f:=q1.frozen
   go_wp2_with fail
   refine (zh8 ty mx A n c l _ HN.out hc hl (hs1.below hb1)).mono ?_
   rintro e w2 ⟨rfl,hb2⟩
   obtain⟨er,he⟩:∃ er,er=checkE ty mx l:=⟨_,rfl⟩
   rw[← he] at HV ⊢
   clear he
   go_wp2_with fail
   all_goals
    go_ret
    refine⟨zat ?_,bl⟩
    show _=valueE ty mx lo hi l
    rw[HV.out]
    clear HV
    simp_all
def RightR (E:Ent) (w:World) (e:Ending) (w':World):Prop:=e= .returned (.int .i64 (rightE E))∧ Below w.heap.size w w'
theorem zil (E:Ent) (A:Option Addr) (n c:Nat) (w:World) (hn:n=E.df.length) (hc:n≤c) (hl:n≤35184372088832) (hnm:E.nm.size≤9223372036854775807) (hs:Sl w A (E.df.map bv)) :
 Calls Tryz.prog 48 #[.agg (entV E A n c)] w (RightR E w):= by
 have hs1:=hs.alloc (.cells (entV E A n c) 97)
 have q:=zdb w 97 (entV E A n c)
 have HV:=zak (fun W (h:Sl W A (E.df.map bv))=> zik E A n c A n c E.df W hn hc hl h)
 have HF:=zak (fun W=>zie E A n c W)
 have HNB:=zak (fun W=>zif E A n c W)
 have HSZ:=zak (fun W=>zig E A n c W)
 by_cases hp:placeB E.ix E.sub=false
 · have HR:Hid (rightE E=9):= zak (by simp[rightE,hp])
   have hp':E.ix < 1∨65535 < E.ix∨E.sub < 0∨255 < E.sub:=by simp[placeB] at hp;omega
   obtain⟨ix,sub,nm,ty,acc,mp,st,mx,lo,hi,df⟩:= E
   unfold entV at *
   simp only[] at *
   clear hn hp HV HF HNB HSZ
   rcases (show ix < 1∨(1≤ix∧65535 < ix)∨ (1≤ix∧ix≤65535∧sub < 0)∨ (1≤ix∧ix≤65535∧0≤sub∧255 < sub) by omega) with h | ⟨h1,h2⟩ | ⟨h1,h2,h3⟩ | ⟨h1,h2,h3,h4⟩
   all_goals
    clear hp'
    go_enter Tryz.func48,Tryz.ntmps48
    go_wp2_with fail
    refine (zh5 ty _).mono ?_
    rintro e w1 ⟨rfl,hb1⟩
    have q1:=q.below hb1 q.lt
    obtain⟨q1_c0,q1_c1,q1_c2,q1_c3,q1_c4,q1_c5,q1_c6,q1_c7,q1_c8,q1_c9,q1_c10⟩:= zc7 q1
    have q1_f:=q1.frozen
    go_wp2_with fail
    go_ret
    exact⟨zat HR.out.symm,bl⟩
 have hp':1≤E.ix∧E.ix≤65535∧0≤E.sub∧E.sub≤255:=by simp[placeB] at hp;omega
 obtain⟨x1,x2,x3,x4⟩:= hp'
 have hpt:placeB E.ix E.sub=true:=by simpa using hp
 have HR:=zak (show rightE E=if nameB E.nm=false then 14 else if tyKnown E.ty=false then 15 else
  if flagsB E.acc E.st E.mp=false then 1 else if limitsB E.ty E.mp E.mx E.lo E.hi=false then 1 else if valueE E.ty E.mx E.lo E.hi E.df≠0 then 4 else 0 by unfold rightE;rw[if_neg (by rw[hpt];decide)])
 clear hp hpt hn
 have bNM:∃ b,b=nameB E.nm:=⟨_,rfl⟩
 have bKN:∃ b,b=tyKnown E.ty:=⟨_,rfl⟩
 have bFL:∃ b,b=flagsB E.acc E.st E.mp:=⟨_,rfl⟩
 have bLI:∃ b,b=limitsB E.ty E.mp E.mx E.lo E.hi:=⟨_,rfl⟩
 have bVA:∃ b,b=valueE E.ty E.mx E.lo E.hi E.df:=⟨_,rfl⟩
 obtain⟨b1,e1⟩:= bNM
 obtain⟨b2,e2⟩:= bKN
 obtain⟨b3,e3⟩:= bFL
 obtain⟨b4,e4⟩:= bLI
 obtain⟨b5,e5⟩:= bVA
 rw[← e1,← e2,← e3,← e4,← e5] at HR
 have H1:=zak e1
 have H2:=zak e2
 have H3:=zak e3
 have H4:=zak e4
 have H5:=zak e5
 clear e1 e2 e3 e4 e5
 have HLI:Hid ((tyNum E.ty=true→numberedB E.ty E.mx E.lo E.hi=b4)∧ (tyNum E.ty=false→sizedB E.mp E.mx E.lo E.hi=b4)):= zak (by
  rw[H4.out]
  exact⟨fun h=>by simp[limitsB,h],fun h=>by simp[limitsB,h]⟩)
 obtain⟨ix,sub,nm,ty,acc,mp,st,mx,lo,hi,df⟩:= E
 unfold entV at *
 simp only[] at *
 go_enter Tryz.func48,Tryz.ntmps48
 go_wp2_with fail
 refine (zh5 ty _).mono ?_
 rintro e w1 ⟨rfl,hb1⟩
 have q1:=q.below hb1 q.lt
 obtain⟨q1_c0,q1_c1,q1_c2,q1_c3,q1_c4,q1_c5,q1_c6,q1_c7,q1_c8,q1_c9,q1_c10⟩:= zc7 q1
 have q1_f:=q1.frozen
 go_wp2_with fail
 refine (zid nm _ hnm).mono ?_
 rintro e w2 ⟨rfl,rfl⟩
 rw[← H1.out]
 cases b1
 · go_wp2_with fail
   go_ret
   exact⟨zat HR.out.symm,bl⟩
 go_wp2_with fail
 refine (zh1 ty _).mono ?_
 rintro e w2 ⟨rfl,hb2⟩
 have q2:=q1.below hb2 q1.lt
 have hbw2:=zc0 hb2 (zc0 hb1 (zc1 (Below.refl w.heap.size w) (.cells #[.int .i64 ix,.int .i64 sub,.string nm,.int .i64 ty,.int .i64 acc,.bool mp,.bool st,.int .i64 mx,.int .i64 lo,.int .i64 hi,.slice A n c] 97)))
 have hs2:=(hs1.below hb1).below hb2
 clear q1_c0 q1_c1 q1_c2 q1_c3 q1_c4 q1_c5 q1_c6 q1_c7 q1_c8 q1_c9 q1_c10 q1_f
 clear hb1 hb2 q1 q hs1
 obtain⟨q2_c0,q2_c1,q2_c2,q2_c3,q2_c4,q2_c5,q2_c6,q2_c7,q2_c8,q2_c9,q2_c10⟩:= zc7 q2
 have q2_f:=q2.frozen
 rw[← H2.out]
 cases b2
 · go_wp2_with fail
   go_ret
   exact⟨zat HR.out.symm,bl⟩
 go_wp2_with fail
 refine (HF.out _).mono ?_
 rintro e w3 ⟨rfl,hb3⟩
 have q3:=q2.below hb3 q2.lt
 have hbw3:=zc0 hb3 hbw2
 have hs3:=hs2.below hb3
 clear q2_c0 q2_c1 q2_c2 q2_c3 q2_c4 q2_c5 q2_c6 q2_c7 q2_c8 q2_c9 q2_c10 q2_f
 clear hbw2 hb3 hs2 q2
 obtain⟨q3_c0,q3_c1,q3_c2,q3_c3,q3_c4,q3_c5,q3_c6,q3_c7,q3_c8,q3_c9,q3_c10⟩:= zc7 q3
 have q3_f:=q3.frozen
 rw[← H3.out]
 cases b3
 · go_wp2_with fail
   go_ret
   exact⟨zat HR.out.symm,bl⟩
 cases hnum:tyNum ty
 all_goals
  first
  | (have hli:=HLI.out.1 hnum
     have HNE:=HNB)
  | (have hli:=HLI.out.2 hnum
     have HNE:=HSZ)
  have HL:=zak hli
  have HM:=zak hnum
  clear hli hnum
  go_wp2_with fail
  refine (HNE.out _).mono ?_
  rintro e w4 ⟨rfl,hb4⟩
  have q4:=q3.below hb4 q3.lt
  have hbw4:=zc0 hb4 hbw3
  have hs4:=hs3.below hb4
  clear q3_c0 q3_c1 q3_c2 q3_c3 q3_c4 q3_c5 q3_c6 q3_c7 q3_c8 q3_c9 q3_c10 q3_f
  clear hbw3 hb4 hs3 q3
  obtain⟨q4_c0,q4_c1,q4_c2,q4_c3,q4_c4,q4_c5,q4_c6,q4_c7,q4_c8,q4_c9,q4_c10⟩:= zc7 q4
  have q4_f:=q4.frozen
  rw[HL.out]
  cases b4
  · go_wp2_with fail
    go_ret
    exact⟨zat HR.out.symm,bl⟩
  go_wp2_with fail
  refine (HV.out _ hs4).mono ?_
  rintro e w5 ⟨rfl,hb5⟩
  rw[← H5.out]
  go_wp2_with fail
  all_goals
   go_ret
   refine⟨zat ?_,bl⟩
   rw[HR.out]
   simp_all
end
section
section
open Go.RowKit
set_option maxRecDepth 100000
set_option maxHeartbeats 2000000
section
variable {F:Nat→Prop} {p n cl cv:Nat} {Av:Option Addr} {L:List Ent} {V:List (List UInt8)} {ds es:List (Option Addr×Nat)} {gl:Nat}
def GetR (L:List Ent) (V:List (List UInt8)) (ix sub:Int) (w:World) (e:Ending) (w':World):Prop:=
 ∃ A m c b,e= .returned (.tuple #[.slice A m c,.int .u32 (getC L ix sub)])∧ zdq w' w.heap.size A m c b∧b=(if getC L ix sub=0 then valK V (locK L ix sub) else [])∧ Below w.heap.size w w'
theorem zim (ix sub:Int) (w:World) (hD:DB 107 w F p (some ⟨gl,0,none⟩) n cl Av cv L V ds es) (hs:SortedE L) (hn:n≤1000) :
 Calls Tryz.prog 41 #[.pointer (some ⟨p,0,none⟩),.int .i64 ix,.int .i64 sub] w (GetR L V ix sub w):= by
 have HS:=zak hs
 have HD:=zak hD
 have HN:=zak hD.ents.hn
 have HLV:=zak hD.lenV
 clear hs hD
 go_enter Tryz.func41,Tryz.ntmps41
 go_wp2_with fail
 refine (zgx ix sub _ HD.out HS.out hn).mono ?_
 rintro e w1 ⟨rfl,hb1⟩
 have HD1:=zak (HD.out.below hb1)
 by_cases hf:0≤findL L ix sub
 · have hc0:codeL L ix sub=0:=zbz.2 hf
   have hk:=zby hf
   have HG:Hid (getC L ix sub=readE (entK L (locK L ix sub)).acc):= zak (by unfold getC;rw[if_pos hc0])
   obtain⟨k,hkk⟩:∃ k,k=locK L ix sub:=⟨_,rfl⟩
   obtain⟨E,hE⟩:∃ E,L[k]? =some E:=⟨L[k]'(by rw[hkk];exact hk),List.getElem?_eq_getElem _⟩
   obtain⟨v,hv⟩:∃ v,V[k]? =some v:=⟨V[k]'(by rw[hkk,HLV.out];exact hk),List.getElem?_eq_getElem _⟩
   have hkn:k < n:=by rw[hkk,HN.out];exact hk
   have HE:Hid (getC L ix sub=readE E.acc):= zak (by rw[HG.out,← hkk,zb2 hE])
   have HV:Hid (valK V (locK L ix sub)=v):= zak (by rw[← hkk,zb3 hv])
   have HF:=zak hf
   rw[hc0,← hkk]
   clear hc0 hk HG hf hkk
   obtain⟨g,d,hA,zg,_,_,_,c0,c1,c2,c3,c4,c5,c6,c7,c8,c9,c10⟩:= HD1.out.ent hE
   injection hA with hA
   injection hA with hA
   subst hA
   have hBr:=HD1.out.blk
   obtain⟨hBr_c0,hBr_c1⟩:= zc3 hBr
   have hBr_f:=hBr.frozen
   go_wp2_with fail
   refine (zgn E d.1 E.df.length d.2 _).mono ?_
   rintro e w2 ⟨rfl,hb2⟩
   have HD2:=zak (HD1.out.below hb2)
   by_cases hr:readE E.acc=0
   · obtain⟨gv,dv,hAv,_,_,hO,hfit,cv0,_,_⟩:= HD2.out.val hv
     subst hAv
     rw[hr]
     have HR:=zak hr
     clear hr c0 c1 c2 c3 c4 c5 c6 c7 c8 c9 c10 zg hE hv
     clear hBr_c0 hBr_c1 hBr_f
     have hB2:=HD2.out.blk
     obtain⟨hB2_c0,hB2_c1⟩:= zc3 hB2
     have hB2_f:=hB2.frozen
     have HO:=zak (hO.sl)
     clear hO
     go_wp2_with fail
     refine (zgq dv.1 v.length dv.2 v _ rfl hfit HO.out).mono ?_
     rintro e w3 ⟨A3,c3,rfl,hO3,hb3⟩
     go_wp2_with fail
     go_ret2
     refine⟨A3,v.length,c3,v,by rw[HE.out,HR.out];rfl,hO3.mono (by have:=hb1.size;have:=hb2.size;omega),by rw[HE.out,HR.out,HV.out];rfl,zc0 hb3 (zc0 hb2 hb1)⟩
   · have hr1:readE E.acc=100728833:=by unfold readE at *;split at hr<;>simp_all
     have HR:=zak hr1
     rw[hr1]
     clear hr hr1
     go_wp2_with fail
     go_ret2
     refine⟨none,0,0,[],by rw[HE.out,HR.out];rfl,zdq.nil _ _,by rw[HE.out,HR.out];rfl,zc0 hb2 hb1⟩
 · have HC:Hid (getC L ix sub=codeL L ix sub):= zak (by unfold getC;rw[if_neg (fun h=>hf (zbz.1 h))])
   have hcc:codeL L ix sub≠0:=fun h=>hf (zbz.1 h)
   have HX:=zak hcc
   obtain⟨cc,hce⟩:∃ cc,cc=codeL L ix sub:=⟨_,rfl⟩
   have hcn: ¬ cc=0:=by rw[hce];exact hcc
   rw[← hce]
   have HE:=zak hce
   clear hf hcc hce
   go_wp2_with fail
   go_ret2
   refine⟨none,0,0,[],by rw[HC.out,← HE.out];rfl,zdq.nil _ _,by rw[HC.out,if_neg HX.out],hb1⟩
def PeekR (L:List Ent) (V:List (List UInt8)) (ix sub:Int) (w:World) (e:Ending) (w':World):Prop:=
 ∃ A m c b,e= .returned (.tuple #[.slice A m c,.bool (hasL L ix sub)])∧ zdq w' w.heap.size A m c b∧b=(if hasL L ix sub=true then valK V (locK L ix sub) else [])∧ Below w.heap.size w w'
end
end
section
open Go.RowKit
set_option maxRecDepth 100000
set_option maxHeartbeats 2000000
section
variable {F:Nat→Prop} {p n cl cv:Nat} {Av:Option Addr} {L:List Ent} {V:List (List UInt8)} {ds es:List (Option Addr×Nat)} {gl:Nat}
theorem zin (acc:Int):writeE acc=0∨writeE acc=100728834:=by unfold writeE;split<;>simp
theorem zio (ix sub:Int) (any:Bool) (A:Option Addr) (m c:Nat) (b:List UInt8) (w:World) (hD:DB 107 w F p (some ⟨gl,0,none⟩) n cl Av cv L V ds es) (hs:SortedE L) (hn:n≤1000)
 (hm:m=b.length) (hc:m≤c) (hl:m≤35184372088832) (hb:Sl w A (b.map bv)) :
 Calls Tryz.prog 89 #[.pointer (some ⟨p,0,none⟩),.int .i64 ix,.int .i64 sub,.slice A m c,.bool any] w fun e w'=>e= .returned (.tuple #[.int .i64 (locK L ix sub),.int .u32 (mayC L ix sub b any)])∧ Below w.heap.size w w':=by
 have HS:=zak hs
 have HD:=zak hD
 have HN:=zak hD.ents.hn
 have HM:=zak hm
 have HB:=zak hb
 clear hs hD hm hb
 go_enter Tryz.func89,Tryz.ntmps89
 go_wp2_with fail
 refine (zgx ix sub _ HD.out HS.out hn).mono ?_
 rintro e w1 ⟨rfl,hb1⟩
 have HD1:=zak (HD.out.below hb1)
 have HB1:=zak (HB.out.below hb1)
 by_cases hf:0≤findL L ix sub
 · have hc0:codeL L ix sub=0:=zbz.2 hf
   have hk:=zby hf
   obtain⟨k,hkk⟩:∃ k,k=locK L ix sub:=⟨_,rfl⟩
   obtain⟨E,hE⟩:∃ E,L[k]? =some E:=⟨L[k]'(by rw[hkk];exact hk),List.getElem?_eq_getElem _⟩
   have hkn:k < n:=by rw[hkk,HN.out];exact hk
   have HC:Hid (mayC L ix sub b any=if any=false∧writeE E.acc≠0 then writeE E.acc else valC E b):= zak (by unfold mayC;rw[if_pos hc0,← hkk,zb2 hE])
   rw[hc0,← hkk]
   have HKK:=zak hkk
   clear hc0 hk hf hkk
   obtain⟨g,d,hA,zg,_,_,_,c0,c1,c2,c3,c4,c5,c6,c7,c8,c9,c10⟩:= HD1.out.ent hE
   injection hA with hA
   injection hA with hA
   subst hA
   have hBr:=HD1.out.blk
   obtain⟨hBr_c0,hBr_c1⟩:= zc3 hBr
   have hBr_f:=hBr.frozen
   cases any
   · go_wp2_with fail
     refine (zgo E d.1 E.df.length d.2 _).mono ?_
     rintro e w2 ⟨rfl,hb2⟩
     have HD2:=zak (HD1.out.below hb2)
     clear c0 c1 c2 c3 c4 c5 c6 c7 c8 c9 c10 zg
     clear hBr_c0 hBr_c1 hBr_f
     rcases zin E.acc with hw | hw
     · have HC2:Hid (mayC L ix sub b false=valC E b):= zak (by rw[HC.out,hw];rfl)
       rw[hw]
       clear hw
       obtain⟨g,d',hA,zg,hd',_,_,c0,c1,c2,c3,c4,c5,c6,c7,c8,c9,c10⟩:= HD2.out.ent hE
       injection hA with hA
       injection hA with hA
       subst hA
       have hB2:=HD2.out.blk
       obtain⟨hB2_c0,hB2_c1⟩:= zc3 hB2
       have hB2_f:=hB2.frozen
       clear hE hd'
       go_wp2_with fail
       refine (zik E d'.1 E.df.length d'.2 A m c b _ HM.out hc hl (HB1.out.below hb2)).mono ?_
       rintro e w3 ⟨rfl,hb3⟩
       go_wp2_with fail
       go_ret2
       exact⟨by rw[HC2.out,← HKK.out];rfl,zc0 hb3 (zc0 hb2 hb1)⟩
     · have HC2:Hid (mayC L ix sub b false=100728834):= zak (by rw[HC.out,hw];rfl)
       rw[hw]
       clear hw
       go_wp2_with fail
       go_ret2
       exact⟨by rw[HC2.out,← HKK.out];rfl,zc0 hb2 hb1⟩
   · have HC2:Hid (mayC L ix sub b true=valC E b):= zak (by rw[HC.out];rfl)
     go_wp2_with fail
     refine (zik E d.1 E.df.length d.2 A m c b _ HM.out hc hl HB1.out).mono ?_
     rintro e w3 ⟨rfl,hb3⟩
     go_wp2_with fail
     go_ret2
     exact⟨by rw[HC2.out,← HKK.out];rfl,zc0 hb3 hb1⟩
 · have HC:Hid (mayC L ix sub b any=codeL L ix sub):= zak (by unfold mayC;rw[if_neg (fun h=>hf (zbz.1 h))])
   have hcc:codeL L ix sub≠0:=fun h=>hf (zbz.1 h)
   obtain⟨cc,hce⟩:∃ cc,cc=codeL L ix sub:=⟨_,rfl⟩
   have hcn: ¬ cc=0:=by rw[hce];exact hcc
   rw[← hce]
   have HE:=zak hce
   clear hf hcc hce
   go_wp2_with fail
   go_ret2
   exact⟨by rw[HC.out,← HE.out];rfl,hb1⟩
theorem zip (ix sub:Int) (A:Option Addr) (m c:Nat) (b:List UInt8) (w:World) (hD:DB 107 w F p (some ⟨gl,0,none⟩) n cl Av cv L V ds es) (hs:SortedE L) (hn:n≤1000)
 (hm:m=b.length) (hc:m≤c) (hl:m≤35184372088832) (hb:Sl w A (b.map bv)) :
 Calls Tryz.prog 37 #[.pointer (some ⟨p,0,none⟩),.int .i64 ix,.int .i64 sub,.slice A m c] w fun e w'=>e= .returned (.int .u32 (mayC L ix sub b false))∧ Below w.heap.size w w':=by
 have HC:=zak (zio ix sub false A m c b w hD hs hn hm hc hl hb)
 clear hD hs hn hm hc hl hb
 go_enter Tryz.func37,Tryz.ntmps37
 go_wp2_with fail
 refine HC.out.mono ?_
 rintro e w1 ⟨rfl,hb1⟩
 go_wp2_with fail
 go_ret
 exact⟨rfl,hb1⟩
def PutR (F:Nat→Prop) (p gl n cl:Nat) (Av:Option Addr) (cv:Nat) (L:List Ent) (V:List (List UInt8)) (ds:List (Option Addr×Nat)) (ix sub:Int) (b:List UInt8) (any:Bool) (w:World) (e:Ending) (w':World):Prop:=
 ∃ V' es',e= .returned (.int .u32 (mayC L ix sub b any))∧ V'=putV L V ix sub b any∧DB 107 w' (fun g=>F g∨w.heap.size≤g) p (some ⟨gl,0,none⟩) n cl Av cv L V' ds es'∧zdv F w w'
theorem ziq (ix sub:Int) (any:Bool) (A:Option Addr) (m c:Nat) (b:List UInt8) (w:World) (hD:DB 107 w F p (some ⟨gl,0,none⟩) n cl Av cv L V ds es) (hs:SortedE L) (hn:n≤1000)
 (hm:m=b.length) (hc:m≤c) (hl:m≤35184372088832) (hb:Sl w A (b.map bv)) :
 Calls Tryz.prog 78 #[.pointer (some ⟨p,0,none⟩),.int .i64 ix,.int .i64 sub,.slice A m c,.bool any] w (PutR F p gl n cl Av cv L V ds ix sub b any w):= by
 have HC:=zak (zio ix sub any A m c b w hD hs hn hm hc hl hb)
 have HD:=zak hD
 have HM:=zak hm
 have HB:=zak hb
 have HFK:Hid (mayC L ix sub b any=0→locK L ix sub < n∧V.length=n):= zak (by
  intro h
  refine⟨?_,by rw[hD.lenV,hD.ents.hn]⟩
  rw[hD.ents.hn]
  refine zby (zbz.1 ?_)
  unfold mayC at h
  split at h
  · assumption
  · exact h)
 obtain⟨cc,hce⟩:∃ cc,cc=mayC L ix sub b any:=⟨_,rfl⟩
 have HE:=zak hce
 clear hD hs hm hb hce hc
 go_enter Tryz.func78,Tryz.ntmps78
 go_wp2_with fail
 refine HC.out.mono ?_
 rintro e w1 ⟨rfl,hb1⟩
 have HD1:=zak (HD.out.below hb1)
 have HB1:=zak (HB.out.below hb1)
 clear HC
 by_cases h0:cc=0
 · have h0':mayC L ix sub b any=0:=by rw[← HE.out];exact h0
   obtain⟨hkn,hvn⟩:= HFK.out h0'
   have HP:Hid (putV L V ix sub b any=V.set (locK L ix sub) b):= zak (by unfold putV;rw[if_pos h0'])
   rw[h0']
   have H0:=zak h0'
   obtain⟨k,hkk⟩:∃ k,k=locK L ix sub:=⟨_,rfl⟩
   rw[← hkk] at hkn HP ⊢
   clear h0 h0' hkk HFK
   have HFB:=zak hl
   clear hl
   obtain⟨v,hv⟩:∃ v,V[k]? =some v:=⟨V[k]'(by rw[hvn];exact hkn),List.getElem?_eq_getElem _⟩
   obtain⟨gv,dv,hAv,zv,_,_,_,cv0,cf0,hFv⟩:= HD1.out.val hv
   subst hAv
   have hB2:=HD1.out.blk
   have zp:=hB2.lt
   obtain⟨hB2_c0,hB2_c1⟩:= zc3 hB2
   have hB2_f:=hB2.frozen
   obtain⟨i1,i2,i3⟩:= zdg hkn
   have hne:p≠gv:=fun h=>zdy hB2 HD1.out.vals.own (by decide) (by rw[h];rfl)
   clear hv hvn
   go_wp2_with fail
   refine wp_region_held_drew (S:=(fun w'=>w'.cell? ⟨p,1,none⟩=some (.slice (some ⟨gv,0,none⟩) n cv)∧ True)) (by kernel_rfl) ?hS1 (fun hHeld=>?rest1)
   case hS1=>((try dsimp only);(exact⟨hB2_c1,trivial⟩))
   case' rest1=>skip
   iterate 6 (refine tkN ?_;try simp only[PqL,Act.put])
   refine wpAnyH_ready (rs:= [6]) (by kernel_rfl) (by simp) ?_
   refine AllReadyH.cons (o:=_) rfl (fun K hK=>?_) .nil
   go_simp
   refine (zgq A m c b _ HM.out HFB.out HB1.out.drew).mono ?_
   rintro e w2 ⟨A3,c3,rfl,hO3,hb3⟩
   dsimp only
   have zp':p < w1.drew.heap.size:=zp
   refine hK.out _ _ ?hS10 (fun hHeld=>?rest10)
   case hS10=>((try dsimp only);(exact⟨(Blk.below (w:=w1.drew) hB2 hb3 zp').cell 1 rfl,trivial⟩))
   case' rest10=>(clear hK K;try simp only[PqL,Act.put])
   have zv3:=Nat.lt_of_lt_of_le zv hb3.size
   have hf3:w2.frozen? ⟨gv,k,none⟩=false:=(hb3.frozen (p:=⟨gv,k,none⟩) zv).trans cf0
   have hc3:w2.cell? ⟨gv,k,none⟩=w1.cell? ⟨gv,k,none⟩:= hb3.cell (p:=⟨gv,k,none⟩) zv
   rw[cv0] at hc3
   refine tkH 7 ?_
   try simp only[PqL,Act.put]
   refine wpAnyH_ready (rs:= [8]) (by kernel_rfl) (by simp) ?_
   refine AllReadyH.cons (o:=_) rfl (fun K hK=>?_) .nil
   go_simp
   refine hK.out _ _ ?hS14 (fun hHeld=>?rest14)
   case hS14=>((try dsimp only);(exact⟨((Blk.below (w:=w1.drew) hB2 hb3 zp').far hne _).cell 1 rfl,trivial⟩))
   case' rest14=>(clear hK K;try simp only[PqL,Act.put])
   refine wpAnyH_done (by kernel_rfl) ?_ _
   have hEnd:=hHeld.2
   repeat (clear hHeld)
   go_wp2_with fail
   go_ret
   have hb4:Below w1.heap.size w1 w2:=⟨hb3.os,hb3.tape,hb3.output,hb3.size,hb3.block⟩
   have HD3:=HD1.out.below (w':=w2) hb4
   refine⟨_,_,by rw[H0.out];rfl,HP.out.symm,DB.store (HD3.mono (fun g _ h=> .inl h)) (by decide) hkn (hO3.mono (Nat.zero_le _)) ?_ (by have:=HM.out;have:=HFB.out;unfold fitB;omega),?_⟩
   · exact hO3.own.fin.mono (fun g h=> .inr (by have:=hb1.size;have:=h.1;simp at this;omega))
   · exact ((zdv.of_below hb1).step hb4).trans (zdv.of_set (F:=F) hFv _) (fun _ _ h=>h)
 · have HP:Hid (putV L V ix sub b any=V):= zak (by unfold putV;rw[if_neg (by rw[← HE.out];exact h0)])
   rw[← HE.out]
   clear HFK
   go_wp2_with fail
   go_ret
   exact⟨V,es,by rw[← HE.out];rfl,HP.out.symm,HD1.out.mono (fun g _ h=> .inl h),zdv.of_below hb1⟩
theorem zir (ix sub:Int) (A:Option Addr) (m c:Nat) (b:List UInt8) (w:World) (hD:DB 107 w F p (some ⟨gl,0,none⟩) n cl Av cv L V ds es) (hs:SortedE L) (hn:n≤1000)
 (hm:m=b.length) (hc:m≤c) (hl:m≤35184372088832) (hb:Sl w A (b.map bv)) :
 Calls Tryz.prog 31 #[.pointer (some ⟨p,0,none⟩),.int .i64 ix,.int .i64 sub,.slice A m c] w (PutR F p gl n cl Av cv L V ds ix sub b false w):= by
 have HC:=zak (ziq ix sub false A m c b w hD hs hn hm hc hl hb)
 clear hD hs hn hm hc hl hb
 go_enter Tryz.func31,Tryz.ntmps31
 go_wp2_with fail
 refine HC.out.mono ?_
 rintro e w1 ⟨V',es',rfl,h2,h3,h4⟩
 have H2:=zak h2
 have H3:=zak h3
 have H4:=zak h4
 clear h2 h3 h4
 go_wp2_with fail
 go_ret
 exact⟨V',es',rfl,H2.out,H3.out,H4.out⟩
end
end
end
end Go.Proofs.YthdbckbpldlkeaaGreat
