/- None -/
import Derived.Test.YtehabbnohoomjaaGreatDoorP28
namespace Go.Proofs.YtehabbnohoomjaaGreatDoor
set_option linter.unusedVariables false
set_option linter.unusedSimpArgs false
set_option linter.unnecessarySimpa false
section
open Go.RowKit
set_option maxRecDepth 100000
set_option maxHeartbeats 4000000
inductive RightW (acc mx lo hi lw hg v:Int) (mp st nb:Bool) (r:Int):Prop
 | a0 (h:acc < 1) (e:r=1)
 | a1 (h:1≤acc) (h2:4 < acc) (e:r=1)
 | n0 (h:1≤acc) (h2:acc≤4) (b:nb=true) (h3:(mx != 0)=true) (e:r=1)
 | n1 (h:1≤acc) (h2:acc≤4) (b:nb=true) (h3:mx=0) (h4:lo < lw) (e:r=1)
 | n2 (h:1≤acc) (h2:acc≤4) (b:nb=true) (h3:mx=0) (h4:lw≤lo) (h5:hg < hi) (e:r=1)
 | n3 (h:1≤acc) (h2:acc≤4) (b:nb=true) (h3:mx=0) (h4:lw≤lo) (h5:hi≤hg) (h6:hi < lo) (e:r=1)
 | s0 (h:1≤acc) (h2:acc≤4) (b:nb=false) (h3:(lo != 0)=true) (e:r=1)
 | s1 (h:1≤acc) (h2:acc≤4) (b:nb=false) (h3:lo=0) (h4:(hi != 0)=true) (e:r=1)
 | s2 (h:1≤acc) (h2:acc≤4) (b:nb=false) (h3:lo=0) (h4:hi=0) (h5:mx < 1) (e:r=1)
 | s3 (h:1≤acc) (h2:acc≤4) (b:nb=false) (h3:lo=0) (h4:hi=0) (h5:1≤mx) (h6:256 < mx) (e:r=1)
 | s4 (h:1≤acc) (h2:acc≤4) (b:nb=false) (h3:lo=0) (h4:hi=0) (h5:1≤mx) (h6:mx≤256) (h7:mp=true) (e:r=1)
 | gn0 (h:1≤acc) (h2:acc≤4) (b:nb=true) (h3:mx=0) (h4:lw≤lo) (h5:hi≤hg) (h6:lo≤hi) (h7:st=true) (h8:acc < 3) (e:r=1)
 | gn1 (h:1≤acc) (h2:acc≤4) (b:nb=true) (h3:mx=0) (h4:lw≤lo) (h5:hi≤hg) (h6:lo≤hi) (h7:st=true) (h8:3≤acc) (h9:(acc == 1)=false) (h10:mp=true) (e:r=if v≠0 then 4 else 0)
 | gn2 (h:1≤acc) (h2:acc≤4) (b:nb=true) (h3:mx=0) (h4:lw≤lo) (h5:hi≤hg) (h6:lo≤hi) (h7:st=true) (h8:3≤acc) (h10:mp=false) (e:r=if v≠0 then 4 else 0)
 | gn3 (h:1≤acc) (h2:acc≤4) (b:nb=true) (h3:mx=0) (h4:lw≤lo) (h5:hi≤hg) (h6:lo≤hi) (h7:st=false) (h9:acc=1) (h10:mp=true) (e:r=1)
 | gn4 (h:1≤acc) (h2:acc≤4) (b:nb=true) (h3:mx=0) (h4:lw≤lo) (h5:hi≤hg) (h6:lo≤hi) (h7:st=false) (h9:(acc == 1)=false) (h10:mp=true) (e:r=if v≠0 then 4 else 0)
 | gn5 (h:1≤acc) (h2:acc≤4) (b:nb=true) (h3:mx=0) (h4:lw≤lo) (h5:hi≤hg) (h6:lo≤hi) (h7:st=false) (h10:mp=false) (e:r=if v≠0 then 4 else 0)
 | gs0 (h:1≤acc) (h2:acc≤4) (b:nb=false) (h3:lo=0) (h4:hi=0) (h5:1≤mx) (h6:mx≤256) (h10:mp=false) (h7:st=true) (h8:acc < 3) (e:r=1)
 | gs1 (h:1≤acc) (h2:acc≤4) (b:nb=false) (h3:lo=0) (h4:hi=0) (h5:1≤mx) (h6:mx≤256) (h10:mp=false) (h7:st=true) (h8:3≤acc) (e:r=if v≠0 then 4 else 0)
 | gs2 (h:1≤acc) (h2:acc≤4) (b:nb=false) (h3:lo=0) (h4:hi=0) (h5:1≤mx) (h6:mx≤256) (h10:mp=false) (h7:st=false) (e:r=if v≠0 then 4 else 0)
theorem zt1 (acc mx lo hi lw hg v:Int) (mp st nb:Bool) (r:Int) (h:r=if acc < 1∨4 < acc then 1 else
 if nb=true∧(mx≠0∨lo < lw∨hg < hi∨hi < lo) then 1 else if nb=false∧(lo≠0∨hi≠0∨mx < 1∨256 < mx∨mp=true) then 1 else
 if st=true∧acc < 3 then 1 else if mp=true∧acc=1 then 1 else if v≠0 then 4 else 0):RightW acc mx lo hi lw hg v mp st nb r:=by
 by_cases h0:acc < 1
 · exact .a0 h0 (by rw[h,if_pos (by omega)])
 by_cases h1:4 < acc
 · exact .a1 (by omega) h1 (by rw[h,if_pos (by omega)])
 have a1:1≤acc:=by omega
 have a2:acc≤4:=by omega
 rw[if_neg (by omega)] at h
 cases nb
 · rw[if_neg (by simp)] at h
   by_cases c1:lo=0
   case neg=>exact .s0 a1 a2 rfl (by simpa using c1) (by rw[h,if_pos ⟨rfl,.inl c1⟩])
   by_cases c2:hi=0
   case neg=>exact .s1 a1 a2 rfl c1 (by simpa using c2) (by rw[h,if_pos ⟨rfl,.inr (.inl c2)⟩])
   by_cases c3:mx < 1
   case pos=>exact .s2 a1 a2 rfl c1 c2 c3 (by rw[h,if_pos ⟨rfl,.inr (.inr (.inl c3))⟩])
   by_cases c4:256 < mx
   case pos=>exact .s3 a1 a2 rfl c1 c2 (by omega) c4 (by rw[h,if_pos ⟨rfl,.inr (.inr (.inr (.inl c4)))⟩])
   cases mp
   case true=>exact .s4 a1 a2 rfl c1 c2 (by omega) (by omega) rfl (by rw[h,if_pos ⟨rfl,.inr (.inr (.inr (.inr rfl)))⟩])
   rw[if_neg (by rintro⟨_,h⟩;rcases h with h | h | h | h | h<;>first | omega | cases h)] at h
   cases st
   · exact .gs2 a1 a2 rfl c1 c2 (by omega) (by omega) rfl rfl (by rw[h,if_neg (by simp),if_neg (by simp)])
   by_cases c5:acc < 3
   · exact .gs0 a1 a2 rfl c1 c2 (by omega) (by omega) rfl rfl c5 (by rw[h,if_pos ⟨rfl,c5⟩])
   · exact .gs1 a1 a2 rfl c1 c2 (by omega) (by omega) rfl rfl (by omega) (by rw[h,if_neg (by rintro⟨_,h⟩;omega),if_neg (by simp)])
 · by_cases c1:mx=0
   case neg=>exact .n0 a1 a2 rfl (by simpa using c1) (by rw[h,if_pos ⟨rfl,.inl c1⟩])
   by_cases c2:lo < lw
   case pos=>exact .n1 a1 a2 rfl c1 c2 (by rw[h,if_pos ⟨rfl,.inr (.inl c2)⟩])
   by_cases c3:hg < hi
   case pos=>exact .n2 a1 a2 rfl c1 (by omega) c3 (by rw[h,if_pos ⟨rfl,.inr (.inr (.inl c3))⟩])
   by_cases c4:hi < lo
   case pos=>exact .n3 a1 a2 rfl c1 (by omega) (by omega) c4 (by rw[h,if_pos ⟨rfl,.inr (.inr (.inr c4))⟩])
   rw[if_neg (by rintro⟨_,h⟩;omega),if_neg (by simp)] at h
   cases st
   · cases mp
     · exact .gn5 a1 a2 rfl c1 (by omega) (by omega) (by omega) rfl rfl (by rw[h,if_neg (by simp),if_neg (by simp)])
     by_cases c5:acc=1
     · exact .gn3 a1 a2 rfl c1 (by omega) (by omega) (by omega) rfl c5 rfl (by rw[h,if_neg (by simp),if_pos ⟨rfl,c5⟩])
     · exact .gn4 a1 a2 rfl c1 (by omega) (by omega) (by omega) rfl (by simpa using c5) rfl (by rw[h,if_neg (by simp),if_neg (by rintro⟨_,h⟩;omega)])
   by_cases c5:acc < 3
   · exact .gn0 a1 a2 rfl c1 (by omega) (by omega) (by omega) rfl c5 (by rw[h,if_pos ⟨rfl,c5⟩])
   cases mp
   · exact .gn2 a1 a2 rfl c1 (by omega) (by omega) (by omega) rfl (by omega) rfl (by rw[h,if_neg (by rintro⟨_,h⟩;omega),if_neg (by simp)])
   · exact .gn1 a1 a2 rfl c1 (by omega) (by omega) (by omega) rfl (by omega) (by simp;omega) rfl (by rw[h,if_neg (by rintro⟨_,h⟩;omega),if_neg (by rintro⟨_,h⟩;omega)])
def RRightR (E:Ent) (w:World) (e:Ending) (w':World):Prop:=e= .returned (.int .i64 (rightE E))∧ Below w.heap.size w w'
theorem zt2 (E:Ent) (A:Option Addr) (n c:Nat) (w:World) (hn:n=E.df.length) (hc:n≤c) (hl:n≤35184372088832) (hnm:E.nm.size≤9223372036854775807) (hs:Sl w A (E.df.map bv)) :
 Calls Tryz.prog 61 #[.agg (entV E A n c)] w (RRightR E w):= by
 have hs1:=hs.alloc (.cells (entV E A n c) 55)
 have HV:=zak (fun W (h:Sl W A (E.df.map bv))=> zrh E A n c A n c E.df W hn hc hl h)
 by_cases hp:placeB E.ix E.sub=false
 · have HR:Hid (rightE E=9):= zak (by simp[rightE,hp])
   have hp':E.ix < 1∨65535 < E.ix∨E.sub < 0∨255 < E.sub:=by simp[placeB] at hp;omega
   obtain⟨ix,sub,nm,ty,acc,mp,st,mx,lo,hi,df⟩:= E
   unfold entV at *
   simp only[] at *
   clear hn hp HV
   rcases (show ix < 1∨(1≤ix∧65535 < ix)∨ (1≤ix∧ix≤65535∧sub < 0)∨ (1≤ix∧ix≤65535∧0≤sub∧255 < sub) by omega) with h | ⟨h1,h2⟩ | ⟨h1,h2,h3⟩ | ⟨h1,h2,h3,h4⟩
   all_goals
    clear hp'
    go_enter Tryz.func61,Tryz.ntmps61
    go_wp2_with fail
    refine (zre ty _).mono ?_
    rintro e w1 ⟨rfl,rfl⟩
    go_wp2_with fail
    go_ret
    exact⟨za0 HR.out.symm,bl⟩
 have hp':1≤E.ix∧E.ix≤65535∧0≤E.sub∧E.sub≤255:=by simp[placeB] at hp;omega
 obtain⟨x1,x2,x3,x4⟩:= hp'
 obtain⟨v,hv⟩:∃ v,valueE E.ty E.mx E.lo E.hi E.df=v:=⟨_,rfl⟩
 have hr:=zri E v hv
 rw[if_neg (by omega)] at hr
 obtain⟨b1,e1⟩:∃ b,b=nameB E.nm:=⟨_,rfl⟩
 obtain⟨b2,e2⟩:∃ b,b=tyKnown E.ty:=⟨_,rfl⟩
 rw[← e1,← e2] at hr
 have HR:=zak hr
 have HVV:=zak hv
 have H1:=zak e1
 have H2:=zak e2
 clear e1 e2 hp hn hr hv
 obtain⟨ix,sub,nm,ty,acc,mp,st,mx,lo,hi,df⟩:= E
 unfold entV at *
 simp only[] at *
 go_enter Tryz.func61,Tryz.ntmps61
 go_wp2_with fail
 refine (zre ty _).mono ?_
 rintro e w1 ⟨rfl,rfl⟩
 generalize tyLow ty=lw at *
 generalize tyHigh ty=hg at *
 generalize tyNum ty=nb at *
 go_wp2_with fail
 refine (rname nm _ hnm).mono ?_
 rintro e w2 ⟨rfl,rfl⟩
 rw[← H1.out]
 cases b1
 · go_wp2_with fail
   go_ret
   exact⟨za0 HR.out.symm,bl⟩
 go_wp2_with fail
 refine (zq4 ty _).mono ?_
 rintro e w2 ⟨rfl,rfl⟩
 rw[← H2.out]
 cases b2
 · go_wp2_with fail
   go_ret
   exact⟨za0 HR.out.symm,bl⟩
 have HW:=zak (zt1 acc mx lo hi lw hg v mp st nb _ HR.out)
 clear x1 x2 x3 x4 HR
 have HRR:=HW.out
 cases HRR
 all_goals
  rename (rightE _=_)=> e
  have HE:=zak e
  clear e HW
 all_goals (try (rename (nb=_)=> b;subst b))
 all_goals (try (rename (mp=_)=> b;subst b))
 all_goals (try (rename (st=_)=> b;subst b))
 all_goals (try (rename (mx=0)=> b;subst b))
 all_goals (try (rename (lo=0)=> b;subst b))
 all_goals (try (rename (hi=0)=> b;subst b))
 all_goals (try (rename (acc=1)=> b;subst b))
 all_goals go_wp2_with fail
 all_goals first
  | (go_ret
     exact⟨za0 HE.out.symm,bl⟩)
  | (refine (HV.out _ hs1).mono ?_
     rintro e w5 ⟨rfl,hb5⟩
     simp only[]
     rw[HVV.out]
     go_wp2_with fail
     all_goals
      go_ret
      refine⟨za0 ?_,bl⟩
      rw[HE.out]
      go_light
      simp_all)
end
end Go.Proofs.YtehabbnohoomjaaGreatDoor
