/- None -/
import Derived.Test.YtkkpjbjmhaecjaaGreatU09
namespace Go.Proofs.YtkkpjbjmhaecjaaGreat
set_option linter.all false
set_option maxRecDepth 100000
set_option maxHeartbeats 2000000
section
open Go.RowKit
theorem zgl (c:Nat)(w:World):Calls Tryz.prog 157 #[.int .u8 (c:Nat)] w fun e w'=>e= .returned (.bool (letterB c))∧ w=w':=by
 go_enter Tryz.func157,Tryz.ntmps157
 go_wp2_with fail
 all_goals
  go_ret
  exact⟨zav (by rw[Bool.eq_iff_iff];simp_all [letterB];try omega),rfl⟩
theorem zgm (c:Nat)(w:World):Calls Tryz.prog 158 #[.int .u8 (c:Nat)] w fun e w'=>e= .returned (.bool (innerB c))∧ w=w':=by
 cases hl:letterB c
 all_goals
  have HL:=zak hl;clear hl;go_enter Tryz.func158,Tryz.ntmps158
  go_wp2_with fail
  refine (zgl c _).mono ?_;rintro e w1 ⟨rfl,rfl⟩;rw[HL.out];go_wp2_with fail
  all_goals
   go_ret
   exact⟨zav (by have:=HL.out;rw[Bool.eq_iff_iff];simp_all [innerB];try omega),rfl⟩
theorem zgn (s:ByteArray)(h:s.size=0):s.toList= []:=by
 rw[toList_nil_iff_emptyBytes];obtain⟨⟨l⟩⟩:=s
 have:l.length=0:=h
 rw[List.eq_nil_of_length_eq_zero this]
 rfl
theorem zgo (s:ByteArray)(h:0 < s.size): ¬s.toList= []:=by
 rw[toList_nil_iff_emptyBytes];rintro rfl;exact absurd h (by decide)
theorem zgp (s:ByteArray)(w:World)(hsz:s.size≤9223372036854775807):Calls Tryz.prog 98 #[.string s] w fun e w'=>e= .returned (.bool (nameB s))∧ w=w':=by
 by_cases h0:s.size=0
 · have HR:Hid (nameB s=false):=zak (by simp[nameB,h0]);have hnil:=zgn s h0;clear h0;go_enter Tryz.func98,Tryz.ntmps98
   go_wp2_with fail
   go_ret
   exact⟨zav HR.out.symm,rfl⟩
 have hp:0 < s.size:=by omega
 have hnn:=zgo s hp;have hne:s.toList.isEmpty=false:=by simpa using hnn
 by_cases h16:16 < s.size
 · have HR:Hid (nameB s=false):=zak (by simp[nameB];intro _ h;omega);clear h0;go_enter Tryz.func98,Tryz.ntmps98
   go_wp2_with fail
   go_ret
   exact⟨zav HR.out.symm,rfl⟩
 have h16':s.size≤16:=by omega
 cases hl:letterB (s[0]).toNat
 · have HR:Hid (nameB s=false):=zak (by simp only[nameB,zct s hp,hl];simp);have HL:=zak hl;clear h0 hl h16;go_enter Tryz.func98,Tryz.ntmps98
   go_wp2_with fail
   refine (zgl _ _).mono ?_;rintro e w1 ⟨rfl,rfl⟩;rw[HL.out];go_wp2_with fail
   go_ret
   exact⟨zav HR.out.symm,rfl⟩
 · have HR:Hid ((∀k (hk:k < s.size),innerB (s[k]).toNat=true)→ nameB s=true):=zak (by intro h;simp only[nameB,zct s hp,hl,zcs s h];simp[h0,h16']);have HL:=zak hl;clear h0 hl h16;go_enter Tryz.func98,Tryz.ntmps98
   go_wp2_with fail
   refine (zgl _ _).mono ?_;rintro e w1 ⟨rfl,rfl⟩;rw[HL.out];go_wp2_with fail
   go_loop [3,19] (fun _ i=> ∃k:Nat,k≤s.size∧i= .int .i64 k∧Hid (∀j (hj:j < s.size),j < k→innerB (s[j]).toNat=true)) (fun _ i=>s.size - (intOf i).toNat)
   case atStart=>exact⟨0,by omega,rfl,zak (by intro j _ h;omega)⟩
   case round=>
    obtain⟨k,hk,rfl,HA⟩:=hrel;by_cases hlt:k < s.size
    · cases hi:innerB (s[k]).toNat
      · have HI:=zak hi;clear hi;go_wp2_with fail
        refine (zgm _ _).mono ?_;rintro e w1 ⟨rfl,rfl⟩;rw[HI.out];go_wp2_with fail
        go_ret
        exact⟨zav (zcr s k hlt HI.out).symm,rfl⟩
      · have HI:=zak hi;clear hi;go_wp2_with fail
        refine (zgm _ _).mono ?_;rintro e w1 ⟨rfl,rfl⟩;rw[HI.out];go_wp2_with fail
        go_round
        case rel=>
         refine⟨k+1,by omega,by go_num,zak ?_⟩;intro j hj hjk;by_cases e:j=k
         · subst e;exact HI.out
         · exact HA.out j hj (by omega)
        case measure=>simp[intOf];omega
    · go_wp2_with fail
      go_ret
      exact⟨zav (HR.out (fun j hj=>HA.out j hj (by omega))).symm,rfl⟩
theorem zgq (E:Ent)(A:Option Addr)(n c:Nat)(w:World):Calls Tryz.prog 100 #[.agg (entV E A n c)] w fun e w'=>e= .returned (.bool (flagsB E.acc E.st E.mp))∧ Below w.heap.size w w':=by
 obtain⟨ix,sub,nm,ty,acc,mp,st,mx,lo,hi,df⟩:=E;unfold entV;go_enter Tryz.func100,Tryz.ntmps100
 go_wp2_with fail
 all_goals (go_ret;exact⟨zav (by simp_all [flagsB]),za7 (Below.refl _ _) _⟩)
theorem zgr (E:Ent)(A:Option Addr)(n c:Nat)(w:World):Calls Tryz.prog 101 #[.agg (entV E A n c),.int .i64 (tyLow E.ty),.int .i64 (tyHigh E.ty)] w fun e w'=>e= .returned (.bool (numberedB E.ty E.mx E.lo E.hi))∧ Below w.heap.size w w':=by
 obtain⟨ix,sub,nm,ty,acc,mp,st,mx,lo,hi,df⟩:=E;unfold entV;go_enter Tryz.func101,Tryz.ntmps101
 go_wp2_with fail
 all_goals (go_ret;exact⟨zav (by rw[Bool.eq_iff_iff];simp_all [numberedB];try omega),za7 (Below.refl _ _) _⟩)
theorem zgs (E:Ent)(A:Option Addr)(n c:Nat)(w:World):Calls Tryz.prog 102 #[.agg (entV E A n c)] w fun e w'=>e= .returned (.bool (sizedB E.mp E.mx E.lo E.hi))∧ Below w.heap.size w w':=by
 obtain⟨ix,sub,nm,ty,acc,mp,st,mx,lo,hi,df⟩:=E;unfold entV;go_enter Tryz.func102,Tryz.ntmps102
 go_wp2_with fail
 all_goals (go_ret;exact⟨zav (by rw[Bool.eq_iff_iff];simp_all [sizedB];try omega),za7 (Below.refl _ _) _⟩)
end
section
open Go.RowKit
def NumV (t lo hi:Int) (l:List UInt8):Int:=if decE t l=2 then 101122067 else if decE t l=3 then 101122066 else if decE t l≠0 then 101253168 else if decV t l < lo then 101253170 else if hi < decV t l then 101253169 else 0
theorem zgt {t mx lo hi:Int}{l:List UInt8}(h:0 < tyBits t):valueE t mx lo hi l=NumV t lo hi l:=by
 unfold valueE;rw[zcd (by omega),if_neg (by decide),if_pos h]
 rfl
theorem zgu {t mx lo hi:Int}{l:List UInt8}(h: ¬ 0 < tyBits t):valueE t mx lo hi l=if checkE t mx l=0 then 0 else if checkE t mx l=3 then 101122066 else if checkE t mx l=4 then 101253168 else 100925511:=by
 unfold valueE;cases hk:tyKnown t
 · rw[if_pos rfl]
   have:checkE t mx l=15:=by simp[checkE,hk]
   rw[this]
   rfl
 · rw[if_neg (by decide),if_neg h];rcases zcb t mx l h hk with e | e | e<;>rw[e]<;> rfl
def ValR (E:Ent) (l:List UInt8) (w:World) (e:Ending) (w':World):Prop:=e= .returned (.int .u32 (valueE E.ty E.mx E.lo E.hi l))∧ Below w.heap.size w w'
def NumR (E:Ent) (l:List UInt8) (w:World) (e:Ending) (w':World):Prop:=e= .returned (.int .u32 (NumV E.ty E.lo E.hi l))∧ Below w.heap.size w w'
theorem zgv (E:Ent)(A0:Option Addr)(n0 c0:Nat)(A:Option Addr)(n c:Nat)(l:List UInt8)(w:World)(hn:n=l.length)(hc:n≤c)(hl:n≤35184372088832)(hs:Sl w A (l.map bv)) :
 Calls Tryz.prog 160 #[.agg (entV E A0 n0 c0),.slice A n c] w (NumR E l w):=by
 obtain⟨ix,sub,nm,ty,acc,mp,st,mx,lo,hi,df⟩:=E;have hs1:=hs.alloc (.cells (entV ⟨ix,sub,nm,ty,acc,mp,st,mx,lo,hi,df⟩ A0 n0 c0) 90);have q:=zbf w 90 (entV ⟨ix,sub,nm,ty,acc,mp,st,mx,lo,hi,df⟩ A0 n0 c0);have HN:=zak hn;unfold entV at *
 clear hn;go_enter Tryz.func160,Tryz.ntmps160
 go_wp2_with fail
 refine (zgi ty A n c l _ HN.out hc hl hs1).mono ?_;rintro e w1 ⟨rfl,hb1⟩;have q1:=q.below hb1 q.lt;obtain⟨bC,bD,bE,bF,bG,bH,bI,bJ,bK,bL,bh⟩:=zbb q1;have cG:=q1.frozen;obtain⟨v,hv⟩:∃v,v=decV ty l:=⟨_,rfl⟩;obtain⟨er,he⟩:∃er,er=decE ty l:=⟨_,rfl⟩;have HV:Hid (NumV ty lo hi l=if er=2 then 101122067 else if er=3 then 101122066 else if er≠0 then 101253168 else if v < lo then 101253170 else if hi < v then 101253169 else 0):=zak (by rw[hv,he];rfl);rw[←hv,←he];clear hv he;go_wp2_with fail
 all_goals
  go_ret
  refine⟨zau ?_,kBl⟩;show _=NumV ty lo hi l;rw[HV.out];clear HV
  simp_all
 all_goals omega
theorem zgw (E:Ent)(A0:Option Addr)(n0 c0:Nat)(A:Option Addr)(n c:Nat)(l:List UInt8)(w:World)(hn:n=l.length)(hc:n≤c)(hl:n≤35184372088832)(hs:Sl w A (l.map bv)) :
 Calls Tryz.prog 103 #[.agg (entV E A0 n0 c0),.slice A n c] w (ValR E l w):=by
 obtain⟨ix,sub,nm,ty,acc,mp,st,mx,lo,hi,df⟩:=E;have hs1:=hs.alloc (.cells (entV ⟨ix,sub,nm,ty,acc,mp,st,mx,lo,hi,df⟩ A0 n0 c0) 90);have q:=zbf w 90 (entV ⟨ix,sub,nm,ty,acc,mp,st,mx,lo,hi,df⟩ A0 n0 c0);have HN:=zak hn;by_cases hb:0 < tyBits ty
 · have HV:Hid (valueE ty mx lo hi l=NumV ty lo hi l):=zak (zgt hb);have HNU:=zak (fun W (h:Sl W A (l.map bv))=> zgv ⟨ix,sub,nm,ty,acc,mp,st,mx,lo,hi,df⟩ A0 n0 c0 A n c l W hn hc hl h);unfold entV at *
   clear hn;go_enter Tryz.func103,Tryz.ntmps103
   go_wp2_with fail
   refine (zge ty _).mono ?_;rintro e w1 ⟨rfl,hb1⟩;have q1:=q.below hb1 q.lt;obtain⟨bC,bD,bE,bF,bG,bH,bI,bJ,bK,bL,bh⟩:=zbb q1;have cG:=q1.frozen;go_wp2_with fail
   refine (HNU.out _ (hs1.below hb1)).mono ?_;rintro e w2 ⟨rfl,hb2⟩;go_wp2_with fail
   go_ret
   exact⟨zau HV.out.symm,kBl⟩
 · have HV:Hid (valueE ty mx lo hi l=if checkE ty mx l=0 then 0 else if checkE ty mx l=3 then 101122066 else if checkE ty mx l=4 then 101253168 else 100925511):=zak (zgu hb);unfold entV at *
   clear hn;go_enter Tryz.func103,Tryz.ntmps103
   go_wp2_with fail
   refine (zge ty _).mono ?_;rintro e w1 ⟨rfl,hb1⟩;have q1:=q.below hb1 q.lt;obtain⟨bC,bD,bE,bF,bG,bH,bI,bJ,bK,bL,bh⟩:=zbb q1;have cG:=q1.frozen;go_wp2_with fail
   refine (zgk ty mx A n c l _ HN.out hc hl (hs1.below hb1)).mono ?_;rintro e w2 ⟨rfl,hb2⟩;obtain⟨er,he⟩:∃er,er=checkE ty mx l:=⟨_,rfl⟩;rw[←he] at HV ⊢;clear he;go_wp2_with fail
   all_goals
    go_ret
    refine⟨zau ?_,kBl⟩;show _=valueE ty mx lo hi l;rw[HV.out];clear HV
    simp_all
def RightR (E:Ent) (w:World) (e:Ending) (w':World):Prop:=e= .returned (.int .i64 (rightE E))∧ Below w.heap.size w w'
theorem zgx (E:Ent)(A:Option Addr)(n c:Nat)(w:World)(hn:n=E.df.length)(hc:n≤c)(hl:n≤35184372088832)(hnm:E.nm.size≤9223372036854775807)(hs:Sl w A (E.df.map bv)) :
 Calls Tryz.prog 39 #[.agg (entV E A n c)] w (RightR E w):=by
 have hs1:=hs.alloc (.cells (entV E A n c) 90);have q:=zbf w 90 (entV E A n c);have HV:=zak (fun W (h:Sl W A (E.df.map bv))=> zgw E A n c A n c E.df W hn hc hl h);have HF:=zak (fun W=>zgq E A n c W);have HNB:=zak (fun W=>zgr E A n c W);have HSZ:=zak (fun W=>zgs E A n c W);by_cases hp:placeB E.ix E.sub=false
 · have HR:Hid (rightE E=9):=zak (by simp[rightE,hp]);have hp':E.ix < 1∨65535 < E.ix∨E.sub < 0∨255 < E.sub:=by simp[placeB] at hp;omega
   obtain⟨ix,sub,nm,ty,acc,mp,st,mx,lo,hi,df⟩:=E;unfold entV at *
   simp only[] at *
   clear hn hp HV HF HNB HSZ;rcases (show ix < 1∨(1≤ix∧65535 < ix)∨ (1≤ix∧ix≤65535∧sub < 0)∨ (1≤ix∧ix≤65535∧0≤sub∧255 < sub) by omega) with h | ⟨h1,h2⟩ | ⟨h1,h2,h3⟩ | ⟨h1,h2,h3,h4⟩
   all_goals
    clear hp';go_enter Tryz.func39,Tryz.ntmps39
    go_wp2_with fail
    refine (zgh ty _).mono ?_;rintro e w1 ⟨rfl,hb1⟩;have q1:=q.below hb1 q.lt;obtain⟨bC,bD,bE,bF,bG,bH,bI,bJ,bK,bL,bh⟩:=zbb q1;have cG:=q1.frozen;go_wp2_with fail
    go_ret
    exact⟨zau HR.out.symm,kBl⟩
 have hp':1≤E.ix∧E.ix≤65535∧0≤E.sub∧E.sub≤255:=by simp[placeB] at hp;omega
 obtain⟨x1,x2,x3,x4⟩:=hp';have hpt:placeB E.ix E.sub=true:=by simpa using hp
 have HR:=zak (show rightE E=if nameB E.nm=false then 14 else if tyKnown E.ty=false then 15 else
  if flagsB E.acc E.st E.mp=false then 1 else if limitsB E.ty E.mp E.mx E.lo E.hi=false then 1 else if valueE E.ty E.mx E.lo E.hi E.df≠0 then 4 else 0 by unfold rightE;rw[if_neg (by rw[hpt];decide)])
 clear hp hpt hn;have bNM:∃b,b=nameB E.nm:=⟨_,rfl⟩;have bKN:∃b,b=tyKnown E.ty:=⟨_,rfl⟩;have bFL:∃b,b=flagsB E.acc E.st E.mp:=⟨_,rfl⟩;have bLI:∃b,b=limitsB E.ty E.mp E.mx E.lo E.hi:=⟨_,rfl⟩;have bVA:∃b,b=valueE E.ty E.mx E.lo E.hi E.df:=⟨_,rfl⟩;obtain⟨b1,e1⟩:=bNM;obtain⟨b2,e2⟩:=bKN;obtain⟨b3,e3⟩:=bFL;obtain⟨b4,e4⟩:=bLI;obtain⟨b5,e5⟩:=bVA;rw[←e1,←e2,←e3,←e4,←e5] at HR;have H1:=zak e1;have H2:=zak e2;have H3:=zak e3;have H4:=zak e4;have H5:=zak e5;clear e1 e2 e3 e4 e5;have HLI:Hid ((tyNum E.ty=true→numberedB E.ty E.mx E.lo E.hi=b4)∧ (tyNum E.ty=false→sizedB E.mp E.mx E.lo E.hi=b4)):=zak (by
  rw[H4.out];exact⟨fun h=>by simp[limitsB,h],fun h=>by simp[limitsB,h]⟩)
 obtain⟨ix,sub,nm,ty,acc,mp,st,mx,lo,hi,df⟩:=E;unfold entV at *
 simp only[] at *
 go_enter Tryz.func39,Tryz.ntmps39
 go_wp2_with fail
 refine (zgh ty _).mono ?_;rintro e w1 ⟨rfl,hb1⟩;have q1:=q.below hb1 q.lt;obtain⟨bC,bD,bE,bF,bG,bH,bI,bJ,bK,bL,bh⟩:=zbb q1;have cG:=q1.frozen;go_wp2_with fail
 refine (zgp nm _ hnm).mono ?_;rintro e w2 ⟨rfl,rfl⟩;rw[←H1.out];cases b1
 · go_wp2_with fail
   go_ret
   exact⟨zau HR.out.symm,kBl⟩
 go_wp2_with fail
 refine (zgd ty _).mono ?_;rintro e w2 ⟨rfl,hb2⟩;have q2:=q1.below hb2 q1.lt;have hbw2:=za5 hb2 (za5 hb1 (za7 (Below.refl w.heap.size w) (.cells #[.int .i64 ix,.int .i64 sub,.string nm,.int .i64 ty,.int .i64 acc,.bool mp,.bool st,.int .i64 mx,.int .i64 lo,.int .i64 hi,.slice A n c] 90)));have hs2:=(hs1.below hb1).below hb2;clear bC bD bE bF bG bH bI bJ bK bL bh cG;clear hb1 hb2 q1 q hs1;obtain⟨dM,dN,dO,dP,dQ,dR,dS,dU,dV,dW,de⟩:=zbb q2;have eK:=q2.frozen;rw[←H2.out];cases b2
 · go_wp2_with fail
   go_ret
   exact⟨zau HR.out.symm,kBl⟩
 go_wp2_with fail
 refine (HF.out _).mono ?_;rintro e w3 ⟨rfl,hb3⟩;have q3:=q2.below hb3 q2.lt;have hbw3:=za5 hb3 hbw2;have hs3:=hs2.below hb3;clear dM dN dO dP dQ dR dS dU dV dW de eK;clear hbw2 hb3 hs2 q2;obtain⟨dX,dY,dZ,ea,eb,ec,ed,ee,ef,eg,dy⟩:=zbb q3;have fh:=q3.frozen;rw[←H3.out];cases b3
 · go_wp2_with fail
   go_ret
   exact⟨zau HR.out.symm,kBl⟩
 cases hnum:tyNum ty
 all_goals
  first
  | (have hli:=HLI.out.1 hnum
     have HNE:=HNB)
  | (have hli:=HLI.out.2 hnum
     have HNE:=HSZ)
  have HL:=zak hli;have HM:=zak hnum;clear hli hnum;go_wp2_with fail
  refine (HNE.out _).mono ?_;rintro e w4 ⟨rfl,hb4⟩;have q4:=q3.below hb4 q3.lt;have hbw4:=za5 hb4 hbw3;have hs4:=hs3.below hb4;clear dX dY dZ ea eb ec ed ee ef eg dy fh;clear hbw3 hb4 hs3 q3;obtain⟨fV,fW,fX,fY,fZ,gc,gd,gf,gg,gh,fi⟩:=zbb q4;have ie:=q4.frozen;rw[HL.out];cases b4
  · go_wp2_with fail
    go_ret
    exact⟨zau HR.out.symm,kBl⟩
  go_wp2_with fail
  refine (HV.out _ hs4).mono ?_;rintro e w5 ⟨rfl,hb5⟩;rw[←H5.out];go_wp2_with fail
  all_goals
   go_ret
   refine⟨zau ?_,kBl⟩;rw[HR.out]
   simp_all
end
end Go.Proofs.YtkkpjbjmhaecjaaGreat
