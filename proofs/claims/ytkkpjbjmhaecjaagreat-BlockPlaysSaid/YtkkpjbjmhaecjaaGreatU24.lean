/- None -/
import Derived.Test.YtkkpjbjmhaecjaaGreatU08
namespace Go.Proofs.YtkkpjbjmhaecjaaGreat
set_option linter.all false
set_option maxRecDepth 100000
set_option maxHeartbeats 4000000
section
section
open Go.RowKit
theorem zjx (A:Option Addr)(n c:Nat)(l:List UInt8)(w:World)(hn:n=l.length)(hl:n≤35184372088832)(hs:Sl w A (l.map bv)) :
 Calls Tryz.prog 46 #[.slice none 0 0,.slice A n c] w fun e w'=> ∃A' c',e= .returned (.slice A' n c')∧ zbs w' w.heap.size A' n c' l∧Below w.heap.size w w':=by
 refine (zep none A 0 n 0 c [] l w rfl hn (by omega) hl (Sl.nil _ _) hs).mono ?_;rintro e w' ⟨A',n',c',rfl,hO,hb⟩;have h1:n'=n:=by have:=hO.hn;simp at this;omega
 subst h1;exact⟨A',c',rfl,hO,hb⟩
section
variable {F:Nat→Prop} {p n cl cv:Nat} {Al Av:Option Addr} {L:List Ent} {V:List (List UInt8)} {ds es:List (Option Addr×Nat)}
theorem zjy {α:Type}{L:List α}{k:Nat}{x: α}(h:L[k]? =some x):L.drop k=x :: L.drop (k+1):=by
 obtain⟨hk,rfl⟩:=List.getElem?_eq_some_iff.1 h;exact List.drop_eq_getElem_cons hk
theorem zjz (ix sub:Int)(w:World)(hD:DB 106 w F p Al n cl Av cv L V ds es)(hn:n≤1000) :
 Calls Tryz.prog 117 #[.pointer (some ⟨p,0,none⟩),.int .i64 ix,.int .i64 sub] w fun e w'=>e= .returned (.int .i64 (findL L ix sub))∧ w=w':=by
 have HD:=zak hD;have HN:=zak hD.ents.hn;have hB:=hD.blk;clear hD;obtain⟨bZ,b9⟩:=za8 hB;have cY:=hB.frozen;go_enter Tryz.func117,Tryz.ntmps117
 go_wp2_with fail
 go_loopw [7,8] (fun s7 s8 wr=> ∃(k:Nat) (kk:Int),k≤n∧s7= .int .i64 kk∧s8= .int .i64 (k:Nat)∧ Hid (findA (L.drop k) ix sub k kk=findL L ix sub)∧ w=wr) (fun _ s8 _=>n - (intOf s8).toNat)
 case atStart=>exact⟨0,-2,by omega,rfl,rfl,zak rfl,rfl⟩
 case round=>
  obtain⟨k,kk,hk,rfl,rfl,HA,rfl⟩:=hrel;by_cases hlt:k < n
  · obtain⟨E,hE⟩:∃E,L[k]? =some E:=⟨L[k]'(by rw[←HN.out];exact hlt),List.getElem?_eq_getElem _⟩;obtain⟨g,d,rfl,zg,_,_,_,c0,c1,c2,c3,c4,c5,c6,c7,c8,c9,c10⟩:=HD.out.ent hE;have HAE:Hid (findA (L.drop (k+1)) ix sub (k+1) (if E.ix≠ix then kk else if E.sub=sub then (k:Int) else if kk= -2 then -1 else kk)=findL L ix sub):=zak (by rw[←HA.out,zjy hE];rfl);clear hE c2 c3 c4 c5 c6 c7 c8 c9 c10 HA;by_cases h1:E.ix=ix
    · by_cases h2:E.sub=sub
      · have HA2:Hid (findA (L.drop (k+1)) ix sub (k+1) (k:Int)=findL L ix sub):=zak (by have:=HAE.out;rw[if_neg (by simpa using h1),if_pos h2] at this;exact this);by_cases h3:kk= -2
        all_goals
         go_wp2_with fail
         go_roundw
         case rel=>exact⟨k+1,k,by omega,by rfl,by go_num,HA2,by trivial⟩
         case measure=>simp[intOf];omega
      · by_cases h3:kk= -2
        · have HA2:Hid (findA (L.drop (k+1)) ix sub (k+1) (-1)=findL L ix sub):=zak (by have:=HAE.out;rw[if_neg (by simpa using h1),if_neg h2,if_pos h3] at this;exact this);go_wp2_with fail
          go_roundw
          case rel=>exact⟨k+1,-1,by omega,by rfl,by go_num,HA2,by trivial⟩
          case measure=>simp[intOf];omega
        · have HA2:Hid (findA (L.drop (k+1)) ix sub (k+1) kk=findL L ix sub):=zak (by have:=HAE.out;rw[if_neg (by simpa using h1),if_neg h2,if_neg h3] at this;exact this);go_wp2_with fail
          go_roundw
          case rel=>exact⟨k+1,kk,by omega,by rfl,by go_num,HA2,by trivial⟩
          case measure=>simp[intOf];omega
    · have HA2:Hid (findA (L.drop (k+1)) ix sub (k+1) kk=findL L ix sub):=zak (by have:=HAE.out;rw[if_pos h1] at this;exact this);go_wp2_with fail
      go_roundw
      case rel=>exact⟨k+1,kk,by omega,by rfl,by go_num,HA2,by trivial⟩
      case measure=>simp[intOf];omega
  · have hkn:k=n:=by omega
    have HA2:Hid (kk=findL L ix sub):=zak (by have:=HA.out;rw[List.drop_eq_nil_of_le (by rw[hkn,HN.out];exact Nat.le_refl _)] at this;exact this);go_wp2_with fail
    go_ret
    exact⟨zau HA2.out,rfl⟩
theorem zj0 (k:Int)(w:World):Calls Tryz.prog 173 #[.int .i64 k] w fun e w'=>e= .returned (.int .u32 (if k= -2 then 100794368 else 101253137))∧ w=w':=by
 by_cases h:k= -2
 · subst h;go_enter Tryz.func173,Tryz.ntmps173
   go_wp2_with fail
   go_ret
   exact⟨rfl,rfl⟩
 · have HR:Hid ((if k= -2 then (100794368:Int) else 101253137)=101253137):=zak (if_neg h);go_enter Tryz.func173,Tryz.ntmps173
   go_wp2_with fail
   go_ret
   first | exact⟨rfl,rfl⟩ | exact⟨zau HR.out.symm,rfl⟩
theorem zj1 {L:List Ent}{ix sub:Int}(h: ¬ 0≤findL L ix sub):(if findL L ix sub= -2 then (100794368:Int) else 101253137)=codeL L ix sub:=by unfold codeL;rw[if_neg h]
end
end
section
open Go.RowKit
section
variable {F:Nat→Prop} {p n cl cv:Nat} {Al Av:Option Addr} {L:List Ent} {V:List (List UInt8)} {ds es:List (Option Addr×Nat)}
theorem zj2 (acc:Int):readE acc=0∨readE acc=100728833:=by unfold readE;split<;>simp
def RGetR (L:List Ent) (V:List (List UInt8)) (ix sub:Int) (w:World) (e:Ending) (w':World):Prop:=
 ∃A m c b,e= .returned (.tuple #[.slice A m c,.int .u32 (getC L ix sub)])∧ zbs w' w.heap.size A m c b∧b=(if getC L ix sub=0 then valK V (locK L ix sub) else [])∧ Below w.heap.size w w'
theorem zj3 (ix sub:Int)(w:World)(hD:DB 106 w F p Al n cl Av cv L V ds es)(hn:n≤1000) :
 Calls Tryz.prog 171 #[.pointer (some ⟨p,0,none⟩),.int .i64 ix,.int .i64 sub] w (RGetR L V ix sub w):=by
 have HD:=zak hD;have HN:=zak hD.ents.hn;have HLV:=zak hD.lenV;by_cases hf:0≤findL L ix sub
 · obtain⟨k,hk,hlk,hkl⟩:=zdr hf;obtain⟨E,hE⟩:∃E,L[k]? =some E:=⟨L[k],List.getElem?_eq_getElem _⟩;obtain⟨v,hv⟩:∃v,V[k]? =some v:=⟨V[k]'(by rw[HLV.out];exact hkl),List.getElem?_eq_getElem _⟩;have hkn:k < n:=by rw[HN.out];exact hkl
   have HE:Hid (getC L ix sub=readE E.acc):=zak (by unfold getC;rw[if_pos (zdd.2 hf),hlk,zdf hE]);have HV:Hid (valK V (locK L ix sub)=v):=zak (by rw[hlk,zdg hv]);have HK:=zak hk;obtain⟨g,d,rfl,zg,_,_,_,c0,c1,c2,c3,c4,c5,c6,c7,c8,c9,c10⟩:=hD.ent hE;have hBr:=hD.blk;clear hD hf hlk hkl hE hk;obtain⟨bi,bj⟩:=za8 hBr;have bM:=hBr.frozen;go_enter Tryz.func171,Tryz.ntmps171
   go_wp2_with fail
   refine (zjz ix sub _ HD.out hn).mono ?_;rintro e w1 ⟨rfl,rfl⟩;rw[HK.out];go_wp2_with fail
   refine (zea E d.1 E.df.length d.2 _).mono ?_;rintro e w2 ⟨rfl,hb2⟩;have HD2:=zak (HD.out.below hb2);clear c0 c1 c2 c3 c4 c5 c6 c7 c8 c9 c10 zg;clear bi bj bM;rcases zj2 E.acc with hr | hr
   · rw[hr];have HR:=zak hr;clear hr;obtain⟨gv,dv,rfl,_,_,hO,hfit,cv0,_,_⟩:=HD2.out.val hv;have hB2:=HD2.out.blk;obtain⟨bY,bo⟩:=za8 hB2;have cR:=hB2.frozen;have HO:=zak hO.sl;clear hO hv;go_wp2_with fail
     refine (zjx dv.1 v.length dv.2 v _ rfl hfit HO.out).mono ?_;rintro e w3 ⟨A3,c3,rfl,hO3,hb3⟩;go_wp2_with fail
     go_ret2
     refine⟨A3,v.length,c3,v,by rw[HE.out,HR.out];rfl,hO3.mono hb2.size,by rw[HE.out,HR.out,HV.out];rfl,za5 hb3 hb2⟩
   · rw[hr];have HR:=zak hr;clear hr;go_wp2_with fail
     go_ret2
     refine⟨none,0,0,[],by rw[HE.out,HR.out];rfl,zbs.nil _ _,by rw[HE.out,HR.out];rfl,hb2⟩
 · have HC:Hid (getC L ix sub=codeL L ix sub):=zak (by unfold getC;rw[if_neg (fun h=>hf (zdd.1 h))]);have HX:Hid (codeL L ix sub≠0):=zak (fun h=>hf (zdd.1 h));have HM:=zak (zj1 hf);have hf':findL L ix sub < 0:=by omega
   clear hf hD;go_enter Tryz.func171,Tryz.ntmps171
   go_wp2_with fail
   refine (zjz ix sub _ HD.out hn).mono ?_;rintro e w1 ⟨rfl,rfl⟩;go_wp2_with fail
   refine (zj0 _ _).mono ?_;rintro e w1 ⟨rfl,rfl⟩;rw[HM.out];go_wp2_with fail
   go_ret2
   refine⟨none,0,0,[],by rw[HC.out];rfl,zbs.nil _ _,by rw[HC.out,if_neg HX.out],Below.refl _ _⟩
theorem zj4 (ix sub:Int)(A:Option Addr)(m c:Nat)(b:List UInt8)(w:World)(hD:DB 106 w F p Al n cl Av cv L V ds es)(hn:n≤1000)
 (hm:m=b.length) (hc:m≤c) (hl:m≤35184372088832) (hb:Sl w A (b.map bv)) :
 Calls Tryz.prog 116 #[.pointer (some ⟨p,0,none⟩),.int .i64 ix,.int .i64 sub,.slice A m c] w fun e w'=>e= .returned (.int .u32 (mayC L ix sub b false))∧ Below w.heap.size w w':=by
 have HD:=zak hD;have HN:=zak hD.ents.hn;have HM:=zak hm;have HB:=zak hb;clear hm hb;by_cases hf:0≤findL L ix sub
 · obtain⟨k,hk,hlk,hkl⟩:=zdr hf;obtain⟨E,hE⟩:∃E,L[k]? =some E:=⟨L[k],List.getElem?_eq_getElem _⟩;have hkn:k < n:=by rw[HN.out];exact hkl
   have HC:Hid (mayC L ix sub b false=if writeE E.acc≠0 then writeE E.acc else valC E b):=zak (by unfold mayC;rw[if_pos (zdd.2 hf),hlk,zdf hE];simp);have HK:=zak hk;have HE:=zak hE;obtain⟨g,d,rfl,zg,_,_,_,c0,c1,c2,c3,c4,c5,c6,c7,c8,c9,c10⟩:=hD.ent hE;have hBr:=hD.blk;clear hD hf hlk hkl hE hk;obtain⟨bi,bj⟩:=za8 hBr;have bM:=hBr.frozen;go_enter Tryz.func116,Tryz.ntmps116
   go_wp2_with fail
   refine (zjz ix sub _ HD.out hn).mono ?_;rintro e w1 ⟨rfl,rfl⟩;rw[HK.out];go_wp2_with fail
   refine (zeb E d.1 E.df.length d.2 _).mono ?_;rintro e w2 ⟨rfl,hb2⟩;have HD2:=zak (HD.out.below hb2);clear c0 c1 c2 c3 c4 c5 c6 c7 c8 c9 c10 zg;clear bi bj bM;rcases (show writeE E.acc=0∨writeE E.acc=100728834 by unfold writeE;split<;>simp) with hw | hw
   · have HC2:Hid (mayC L ix sub b false=valC E b):=zak (by rw[HC.out,hw];rfl);rw[hw];clear hw;obtain⟨g,d',hA,zg,hd',_,_,c0,c1,c2,c3,c4,c5,c6,c7,c8,c9,c10⟩:=HD2.out.ent HE.out;injection hA with hA
     injection hA with hA
     subst hA;have hB2:=HD2.out.blk;obtain⟨bY,bo⟩:=za8 hB2;have cR:=hB2.frozen;clear hd';go_wp2_with fail
     refine (zfi E d'.1 E.df.length d'.2 A m c b _ HM.out hc hl (HB.out.below hb2)).mono ?_;rintro e w3 ⟨rfl,hb3⟩;go_wp2_with fail
     go_ret
     exact⟨by rw[HC2.out];rfl,za5 hb3 hb2⟩
   · have HC2:Hid (mayC L ix sub b false=100728834):=zak (by rw[HC.out,hw];rfl);rw[hw];clear hw;go_wp2_with fail
     go_ret
     exact⟨by rw[HC2.out];rfl,hb2⟩
 · have HC:Hid (mayC L ix sub b false=codeL L ix sub):=zak (by unfold mayC;rw[if_neg (fun h=>hf (zdd.1 h))]);have HMS:=zak (zj1 hf);have hf':findL L ix sub < 0:=by omega
   clear hf hD;go_enter Tryz.func116,Tryz.ntmps116
   go_wp2_with fail
   refine (zjz ix sub _ HD.out hn).mono ?_;rintro e w1 ⟨rfl,rfl⟩;go_wp2_with fail
   refine (zj0 _ _).mono ?_;rintro e w1 ⟨rfl,rfl⟩;rw[HMS.out];go_wp2_with fail
   go_ret
   exact⟨by rw[HC.out];rfl,Below.refl _ _⟩
end
end
end
section
open Go.RowKit
inductive RightW (acc mx lo hi lw hg v:Int) (mp st nb:Bool) (r:Int):Prop
 | a0 (h:acc < 1) (e:r=1)
 | a1 (h:1≤acc) (h2:4 < acc) (e:r=1)
 | n0 (h:1≤acc) (h2:acc≤4) (b:nb=true) (h3:(mx != 0)=true) (e:r=1)
 | n1 (h:1≤acc) (h2:acc≤4) (b:nb=true) (h3:mx=0) (h4:lo < lw) (e:r=1)
 | n2 (h:1≤acc) (h2:acc≤4) (b:nb=true) (h3:mx=0) (h4:lw≤lo) (h5:hg < hi) (e:r=1)
 | n3 (h:1≤acc) (h2:acc≤4) (b:nb=true) (h3:mx=0) (h4:lw≤lo) (h5:hi≤hg) (h6:hi < lo) (e:r=1)
 | s0 (h:1≤acc) (h2:acc≤4) (b:nb=false) (h3:(lo != 0)=true) (e:r=1)
 | s1 (h:1≤acc) (h2:acc≤4) (b:nb=false) (h3:lo=0) (h4:(hi != 0)=true) (e:r=1)
 | s2 (h:1≤acc) (h2:acc≤4) (b:nb=false) (h3:lo=0) (h4:hi=0) (h5:mx < 1) (e:r=1)
 | s3 (h:1≤acc) (h2:acc≤4) (b:nb=false) (h3:lo=0) (h4:hi=0) (h5:1≤mx) (h6:256 < mx) (e:r=1)
 | s4 (h:1≤acc) (h2:acc≤4) (b:nb=false) (h3:lo=0) (h4:hi=0) (h5:1≤mx) (h6:mx≤256) (h7:mp=true) (e:r=1)
 | gn0 (h:1≤acc) (h2:acc≤4) (b:nb=true) (h3:mx=0) (h4:lw≤lo) (h5:hi≤hg) (h6:lo≤hi) (h7:st=true) (h8:acc < 3) (e:r=1)
 | gn1 (h:1≤acc) (h2:acc≤4) (b:nb=true) (h3:mx=0) (h4:lw≤lo) (h5:hi≤hg) (h6:lo≤hi) (h7:st=true) (h8:3≤acc) (h9:(acc == 1)=false) (h10:mp=true) (e:r=if v≠0 then 4 else 0)
 | gn2 (h:1≤acc) (h2:acc≤4) (b:nb=true) (h3:mx=0) (h4:lw≤lo) (h5:hi≤hg) (h6:lo≤hi) (h7:st=true) (h8:3≤acc) (h10:mp=false) (e:r=if v≠0 then 4 else 0)
 | gn3 (h:1≤acc) (h2:acc≤4) (b:nb=true) (h3:mx=0) (h4:lw≤lo) (h5:hi≤hg) (h6:lo≤hi) (h7:st=false) (h9:acc=1) (h10:mp=true) (e:r=1)
 | gn4 (h:1≤acc) (h2:acc≤4) (b:nb=true) (h3:mx=0) (h4:lw≤lo) (h5:hi≤hg) (h6:lo≤hi) (h7:st=false) (h9:(acc == 1)=false) (h10:mp=true) (e:r=if v≠0 then 4 else 0)
 | gn5 (h:1≤acc) (h2:acc≤4) (b:nb=true) (h3:mx=0) (h4:lw≤lo) (h5:hi≤hg) (h6:lo≤hi) (h7:st=false) (h10:mp=false) (e:r=if v≠0 then 4 else 0)
 | gs0 (h:1≤acc) (h2:acc≤4) (b:nb=false) (h3:lo=0) (h4:hi=0) (h5:1≤mx) (h6:mx≤256) (h10:mp=false) (h7:st=true) (h8:acc < 3) (e:r=1)
 | gs1 (h:1≤acc) (h2:acc≤4) (b:nb=false) (h3:lo=0) (h4:hi=0) (h5:1≤mx) (h6:mx≤256) (h10:mp=false) (h7:st=true) (h8:3≤acc) (e:r=if v≠0 then 4 else 0)
 | gs2 (h:1≤acc) (h2:acc≤4) (b:nb=false) (h3:lo=0) (h4:hi=0) (h5:1≤mx) (h6:mx≤256) (h10:mp=false) (h7:st=false) (e:r=if v≠0 then 4 else 0)
theorem zj5 (acc mx lo hi lw hg v:Int)(mp st nb:Bool)(r:Int)(h:r=if acc < 1∨4 < acc then 1 else
 if nb=true∧(mx≠0∨lo < lw∨hg < hi∨hi < lo) then 1 else if nb=false∧(lo≠0∨hi≠0∨mx < 1∨256 < mx∨mp=true) then 1 else
 if st=true∧acc < 3 then 1 else if mp=true∧acc=1 then 1 else if v≠0 then 4 else 0):RightW acc mx lo hi lw hg v mp st nb r:=by
 by_cases h0:acc < 1
 · exact .a0 h0 (by rw[h,if_pos (by omega)])
 by_cases h1:4 < acc
 · exact .a1 (by omega) h1 (by rw[h,if_pos (by omega)])
 have a1:1≤acc:=by omega
 have a2:acc≤4:=by omega
 rw[if_neg (by omega)] at h;cases nb
 · rw[if_neg (by simp)] at h;by_cases c1:lo=0
   case neg=>exact .s0 a1 a2 rfl (by simpa using c1) (by rw[h,if_pos ⟨rfl,.inl c1⟩])
   by_cases c2:hi=0
   case neg=>exact .s1 a1 a2 rfl c1 (by simpa using c2) (by rw[h,if_pos ⟨rfl,.inr (.inl c2)⟩])
   by_cases c3:mx < 1
   case pos=>exact .s2 a1 a2 rfl c1 c2 c3 (by rw[h,if_pos ⟨rfl,.inr (.inr (.inl c3))⟩])
   by_cases c4:256 < mx
   case pos=>exact .s3 a1 a2 rfl c1 c2 (by omega) c4 (by rw[h,if_pos ⟨rfl,.inr (.inr (.inr (.inl c4)))⟩])
   cases mp
   case true=>exact .s4 a1 a2 rfl c1 c2 (by omega) (by omega) rfl (by rw[h,if_pos ⟨rfl,.inr (.inr (.inr (.inr rfl)))⟩])
   rw[if_neg (by rintro⟨_,h⟩;rcases h with h | h | h | h | h<;>first | omega | cases h)] at h;cases st
   · exact .gs2 a1 a2 rfl c1 c2 (by omega) (by omega) rfl rfl (by rw[h,if_neg (by simp),if_neg (by simp)])
   by_cases c5:acc < 3
   · exact .gs0 a1 a2 rfl c1 c2 (by omega) (by omega) rfl rfl c5 (by rw[h,if_pos ⟨rfl,c5⟩])
   · exact .gs1 a1 a2 rfl c1 c2 (by omega) (by omega) rfl rfl (by omega) (by rw[h,if_neg (by rintro⟨_,h⟩;omega),if_neg (by simp)])
 · by_cases c1:mx=0
   case neg=>exact .n0 a1 a2 rfl (by simpa using c1) (by rw[h,if_pos ⟨rfl,.inl c1⟩])
   by_cases c2:lo < lw
   case pos=>exact .n1 a1 a2 rfl c1 c2 (by rw[h,if_pos ⟨rfl,.inr (.inl c2)⟩])
   by_cases c3:hg < hi
   case pos=>exact .n2 a1 a2 rfl c1 (by omega) c3 (by rw[h,if_pos ⟨rfl,.inr (.inr (.inl c3))⟩])
   by_cases c4:hi < lo
   case pos=>exact .n3 a1 a2 rfl c1 (by omega) (by omega) c4 (by rw[h,if_pos ⟨rfl,.inr (.inr (.inr c4))⟩])
   rw[if_neg (by rintro⟨_,h⟩;omega),if_neg (by simp)] at h;cases st
   · cases mp
     · exact .gn5 a1 a2 rfl c1 (by omega) (by omega) (by omega) rfl rfl (by rw[h,if_neg (by simp),if_neg (by simp)])
     by_cases c5:acc=1
     · exact .gn3 a1 a2 rfl c1 (by omega) (by omega) (by omega) rfl c5 rfl (by rw[h,if_neg (by simp),if_pos ⟨rfl,c5⟩])
     · exact .gn4 a1 a2 rfl c1 (by omega) (by omega) (by omega) rfl (by simpa using c5) rfl (by rw[h,if_neg (by simp),if_neg (by rintro⟨_,h⟩;omega)])
   by_cases c5:acc < 3
   · exact .gn0 a1 a2 rfl c1 (by omega) (by omega) (by omega) rfl c5 (by rw[h,if_pos ⟨rfl,c5⟩])
   cases mp
   · exact .gn2 a1 a2 rfl c1 (by omega) (by omega) (by omega) rfl (by omega) rfl (by rw[h,if_neg (by rintro⟨_,h⟩;omega),if_neg (by simp)])
   · exact .gn1 a1 a2 rfl c1 (by omega) (by omega) (by omega) rfl (by omega) (by simp;omega) rfl (by rw[h,if_neg (by rintro⟨_,h⟩;omega),if_neg (by rintro⟨_,h⟩;omega)])
def RRightR (E:Ent) (w:World) (e:Ending) (w':World):Prop:=e= .returned (.int .i64 (rightE E))∧ Below w.heap.size w w'
theorem zj6 (E:Ent)(A:Option Addr)(n c:Nat)(w:World)(hn:n=E.df.length)(hc:n≤c)(hl:n≤35184372088832)(hnm:E.nm.size≤9223372036854775807)(hs:Sl w A (E.df.map bv)) :
 Calls Tryz.prog 43 #[.agg (entV E A n c)] w (RRightR E w):=by
 have hs1:=hs.alloc (.cells (entV E A n c) 90);have HV:=zak (fun W (h:Sl W A (E.df.map bv))=> zfi E A n c A n c E.df W hn hc hl h);by_cases hp:placeB E.ix E.sub=false
 · have HR:Hid (rightE E=9):=zak (by simp[rightE,hp]);have hp':E.ix < 1∨65535 < E.ix∨E.sub < 0∨255 < E.sub:=by simp[placeB] at hp;omega
   obtain⟨ix,sub,nm,ty,acc,mp,st,mx,lo,hi,df⟩:=E;unfold entV at *
   simp only[] at *
   clear hn hp HV;rcases (show ix < 1∨(1≤ix∧65535 < ix)∨ (1≤ix∧ix≤65535∧sub < 0)∨ (1≤ix∧ix≤65535∧0≤sub∧255 < sub) by omega) with h | ⟨h1,h2⟩ | ⟨h1,h2,h3⟩ | ⟨h1,h2,h3,h4⟩
   all_goals
    clear hp';go_enter Tryz.func43,Tryz.ntmps43
    go_wp2_with fail
    refine (zff ty _).mono ?_;rintro e w1 ⟨rfl,rfl⟩;go_wp2_with fail
    go_ret
    exact⟨zau HR.out.symm,kBl⟩
 have hp':1≤E.ix∧E.ix≤65535∧0≤E.sub∧E.sub≤255:=by simp[placeB] at hp;omega
 obtain⟨x1,x2,x3,x4⟩:=hp';obtain⟨v,hv⟩:∃v,valueE E.ty E.mx E.lo E.hi E.df=v:=⟨_,rfl⟩;have hr:=zfj E v hv;rw[if_neg (by omega)] at hr;obtain⟨b1,e1⟩:∃b,b=nameB E.nm:=⟨_,rfl⟩;obtain⟨b2,e2⟩:∃b,b=tyKnown E.ty:=⟨_,rfl⟩;rw[←e1,←e2] at hr;have HR:=zak hr;have HVV:=zak hv;have H1:=zak e1;have H2:=zak e2;clear e1 e2 hp hn hr hv;obtain⟨ix,sub,nm,ty,acc,mp,st,mx,lo,hi,df⟩:=E;unfold entV at *
 simp only[] at *
 go_enter Tryz.func43,Tryz.ntmps43
 go_wp2_with fail
 refine (zff ty _).mono ?_;rintro e w1 ⟨rfl,rfl⟩;generalize tyLow ty=lw at *
 generalize tyHigh ty=hg at *
 generalize tyNum ty=nb at *
 go_wp2_with fail
 refine (rname nm _ hnm).mono ?_;rintro e w2 ⟨rfl,rfl⟩;rw[←H1.out];cases b1
 · go_wp2_with fail
   go_ret
   exact⟨zau HR.out.symm,kBl⟩
 go_wp2_with fail
 refine (ze5 ty _).mono ?_;rintro e w2 ⟨rfl,rfl⟩;rw[←H2.out];cases b2
 · go_wp2_with fail
   go_ret
   exact⟨zau HR.out.symm,kBl⟩
 have HW:=zak (zj5 acc mx lo hi lw hg v mp st nb _ HR.out);clear x1 x2 x3 x4 HR;have HRR:=HW.out;cases HRR
 all_goals
  rename (rightE _=_)=> e
  have HE:=zak e;clear e HW
 all_goals (try (rename (nb=_)=> b;subst b))
 all_goals (try (rename (mp=_)=> b;subst b))
 all_goals (try (rename (st=_)=> b;subst b))
 all_goals (try (rename (mx=0)=> b;subst b))
 all_goals (try (rename (lo=0)=> b;subst b))
 all_goals (try (rename (hi=0)=> b;subst b))
 all_goals (try (rename (acc=1)=> b;subst b))
 all_goals go_wp2_with fail
 all_goals first
  | (go_ret
     exact⟨zau HE.out.symm,kBl⟩)
  | (refine (HV.out _ hs1).mono ?_
     rintro e w5 ⟨rfl,hb5⟩;simp only[];rw[HVV.out];go_wp2_with fail
     all_goals
      go_ret
      refine⟨zau ?_,kBl⟩;rw[HE.out]
      go_light
      simp_all)
end
end Go.Proofs.YtkkpjbjmhaecjaaGreat
