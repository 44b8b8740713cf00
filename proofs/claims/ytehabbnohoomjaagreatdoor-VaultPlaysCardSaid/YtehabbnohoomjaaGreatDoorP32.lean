/- None -/
import Derived.Test.YtehabbnohoomjaaGreatDoorP31
namespace Go.Proofs.YtehabbnohoomjaaGreatDoor
set_option linter.unusedVariables false
set_option linter.unusedSimpArgs false
set_option linter.unnecessarySimpa false
section
section
open Go.RowKit
def inE (ix g:Int):Bool:=decide (g=1∨(2≤g∧g≤4∧groupE ix=g))
def ofV:List Ent→List (List UInt8)→ Int→List SV
 | E :: L,v :: V,g=>if E.st=true∧inE E.ix g=true then ⟨E.ix,E.sub,v⟩ :: ofV L V g else ofV L V g
 | _,_,_=> []
theorem ztw (L:List Ent) (V:List (List UInt8)) (E:Ent) (v:List UInt8) (g:Int) (h:V.length=L.length):ofV (L ++ [E]) (V ++ [v]) g=ofV L V g ++ (if E.st=true∧inE E.ix g=true then [⟨E.ix,E.sub,v⟩] else []):= by
 induction L generalizing V with
 | nil=>
   obtain rfl:V= []:= List.eq_nil_of_length_eq_zero h
   simp[ofV]
 | cons D L ih=>
   cases V with
   | nil=>simp at h
   | cons u V=>
     simp only[List.cons_append,ofV]
     rw[ih V (by simpa using h)]
     split<;>simp
theorem ztx {L:List Ent} {V:List (List UInt8)} {k:Nat} {E:Ent} {v:List UInt8} (g:Int) (hE:L[k]? =some E) (hv:V[k]? =some v) :
 ofV (L.take (k+1)) (V.take (k+1)) g=ofV (L.take k) (V.take k) g ++ (if E.st=true∧inE E.ix g=true then [⟨E.ix,E.sub,v⟩] else []):= by
 obtain⟨h1,rfl⟩:= List.getElem?_eq_some_iff.1 hE
 obtain⟨h2,rfl⟩:= List.getElem?_eq_some_iff.1 hv
 rw[List.take_succ_eq_append_getElem h1,List.take_succ_eq_append_getElem h2]
 exact ztw _ _ _ _ _ (by simp;omega)
end
section
open Go.RowKit
set_option maxRecDepth 100000
set_option maxHeartbeats 4000000
theorem zty (ix g:Int):inB ix g=inE ix g:=by
 have:groupZ ix=groupE ix:=by unfold groupZ groupE;(repeat' split)<;> omega
 unfold inB inE
 rw[this]
def OfR (X:List SV) (w:World) (e:Ending) (w':World):Prop:=
 ∃ A n c ds,e= .returned (.slice A n c)∧ OwnSV w' (fun g=>w.heap.size≤g) A n c X ds∧Below w.heap.size w w'
section
variable {F:Nat→Prop} {p n cl cv:Nat} {Av:Option Addr} {L:List Ent} {V:List (List UInt8)} {ds es:List (Option Addr×Nat)} {gl:Nat}
theorem ztz (gr:Int) (w:World) (hD:DB 102 w F p (some ⟨gl,0,none⟩) n cl Av cv L V ds es) (hn:n≤1000) :
 Calls Tryz.prog 52 #[.pointer (some ⟨p,0,none⟩),.int .i64 gr] w (OfR (ofV L V gr) w):= by
 have HD:=zak hD
 have HN:=zak hD.ents.hn
 have HNV:=zak hD.vals.hn
 have HLV:=zak hD.lenV
 clear hD
 go_enter Tryz.func52,Tryz.ntmps52
 go_wp2_with fail
 refine (ztu _ HD.out hn).mono ?_
 rintro e w1 ⟨A1,n1,c1,ds1,rfl,hO1,_,hb1⟩
 have hn1:n1=n:=by rw[hO1.hn,ztm _ _ HLV.out,HN.out]
 subst hn1
 have HO1:=zak hO1
 clear hO1
 go_wp2_with fail
 go_loopw [5,13] (fun o i wr=> ∃ k A' m c' ds',k≤n1∧m≤k∧i= .int .i64 (k:Nat)∧ o= .slice A' m c'∧Hid (OwnSV wr (fun g=>w.heap.size≤g) A' m c' (ofV (L.take k) (V.take k) gr) ds'∧FIn (fun g=>w1.heap.size≤g) A')∧ Below w1.heap.size w1 wr) (fun _ i _=>n1 - (intOf i).toNat)
 case atStart=>exact⟨0,none,0,0,[],by omega,by omega,rfl,rfl,zak ⟨zcq.nil _ _,FIn.nil _⟩,Below.refl _ _⟩
 case round=>
  obtain⟨k,A',m,c',ds',hk,hmk,rfl,rfl,HO,hbr⟩:= hrel
  by_cases hlt:k < n1
  · obtain⟨E,hE⟩:∃ E,L[k]? =some E:=⟨L[k]'(by rw[← HN.out];exact hlt),List.getElem?_eq_getElem _⟩
    obtain⟨v,hv⟩:∃ v,V[k]? =some v:=⟨V[k]'(by rw[← HNV.out];exact hlt),List.getElem?_eq_getElem _⟩
    obtain⟨d,hd,hOd,hFd⟩:= HO1.out.elem (ztn hE hv)
    obtain⟨g1,hA1,z1,hc1⟩:= (HO1.out.below hbr).cells zth (ztn hE hv) hd (by omega)
    have c0:wr.cell? ⟨g1,k * 3,none⟩=some (.int .i64 E.ix):= hc1 0 _ rfl
    have c1':wr.cell? ⟨g1,k * 3+1,none⟩=some (.int .i64 E.sub):= hc1 1 _ rfl
    have c2':wr.cell? ⟨g1,k * 3+2,none⟩=some (.slice d.1 v.length d.2):= hc1 2 _ rfl
    subst hA1
    have HT:=zak (ztx gr hE hv)
    have HE:=zak hE
    have HOd:=zak (hOd.below hbr)
    have HFd:=zak hFd
    obtain⟨i1,i2,i3⟩:= zbr hlt
    have q:=zbm wr 52 #[.int .i64 E.ix,.int .i64 E.sub,.slice d.1 v.length d.2]
    have hb2:=zbf (Below.refl wr.heap.size wr) (.cells #[.int .i64 E.ix,.int .i64 E.sub,.slice d.1 v.length d.2] 52)
    have HDr:=zak ((HD.out.below hb1).below (zbd hb2 hbr))
    clear hE hv hd hOd hFd hc1
    go_wp2_with fail
    refine (ztb k E _ _ p gl n1 cl cv Av L V ds es HDr.out HE.out).mono ?_
    rintro e w2 ⟨A2,c2,rfl,hO2,hb3⟩
    have qv:=q.below hb3 q.lt
    have q2:=zbm w2 55 (entV E A2 E.df.length c2)
    have hb4:=zbd (zbf (Below.refl w2.heap.size w2) (.cells (entV E A2 E.df.length c2) 55)) (zbd hb3 hb2)
    have qv2:=qv.alloc (.cells (entV E A2 E.df.length c2) 55)
    have HQV:=zak qv2
    obtain⟨st,hst⟩:∃ st,st=E.st:=⟨_,rfl⟩
    have HST:=zak hst
    clear hO2 c0 c1' c2'
    unfold entV at q2 hb4 qv2 ⊢
    rw[← hst] at q2 hb4 qv2 ⊢
    clear hst
    cases st
    · go_wp2_with fail
      have HO4:=zak (And.intro (HO.out.1.below hb4) HO.out.2)
      have HTF:Hid (ofV (L.take (k+1)) (V.take (k+1)) gr=ofV (L.take k) (V.take k) gr):= zak (by rw[HT.out,← HST.out];simp)
      rw[← HTF.out] at HO4
      go_roundw
      case rel=>exact⟨k+1,A',m,c',ds',by omega,by omega,by go_num,by rfl,HO4,zbd hb4 hbr⟩
      case measure=>simp[intOf];omega
    · skip
      obtain⟨q2_c0,q2_c1,q2_c2,q2_c3,q2_c4,q2_c5,q2_c6,q2_c7,q2_c8,q2_c9,q2_c10⟩:= zbl q2
      have q2_f:=q2.frozen
      go_wp2_with fail
      refine (znx E.ix E.sub gr _ _ _ _ _ _ _ _ _ _).mono ?_
      rintro e w3 ⟨rfl,hb5⟩
      have hb6:=zbd hb5 hb4
      have qv3:=qv2.below hb5 qv2.lt
      clear q2_c0 q2_c1 q2_c2 q2_c3 q2_c4 q2_c5 q2_c6 q2_c7 q2_c8 q2_c9 q2_c10 q2_f
      cases hin:inB E.ix gr
      · have HTF:Hid (ofV (L.take (k+1)) (V.take (k+1)) gr=ofV (L.take k) (V.take k) gr):= zak (by rw[HT.out,← zty,hin];simp)
        clear hin
        go_wp2_with fail
        have HO4:=zak (And.intro (HO.out.1.below hb6) HO.out.2)
        rw[← HTF.out] at HO4
        go_roundw
        case rel=>exact⟨k+1,A',m,c',ds',by omega,by omega,by go_num,by rfl,HO4,zbd hb6 hbr⟩
        case measure=>simp[intOf];omega
      · have HTF:Hid (ofV (L.take (k+1)) (V.take (k+1)) gr=ofV (L.take k) (V.take k) gr ++ [⟨E.ix,E.sub,v⟩]):= zak (by rw[HT.out,← zty,hin,← HST.out];simp)
        clear hin
        have hb7:=zbf hb6 (.cells #[.int .i64 E.ix,.int .i64 E.sub,.slice d.1 v.length d.2] 52)
        have hb8:=zbd hb7 hbr
        have hz8:=hb8.size
        have hz1:=hb1.size
        have HO4:=zak (HO.out.1.below hb7)
        have HOd7:=zak (HOd.out.below hb7)
        obtain⟨qv3_c0,qv3_c1,qv3_c2⟩:= zbh qv3
        have qv3_f:=qv3.frozen
        go_wp2_with (at_builtin;refine zcr _ rfl _ _ 27 rfl zth zti (by decide) (info_parts ztj).choose _ 40 Tryz.underlying27 (info_parts ztj).choose_spec.1 (info_parts ztj).choose_spec.2.1 (info_parts ztj).choose_spec.2.2.1 (info_parts ztj).choose_spec.2.2.2 rfl (by omega) (by omega) A' m c' (ofV (L.take k) (V.take k) gr) ds' rfl HO4.out ⟨E.ix,E.sub,v⟩ d _ rfl (by exact (Blk.new _ _ _).sl) HOd7.out HFd.out (fun g h=>Nat.le_trans (Nat.le_trans hz1 hz8) h) (by omega) (m+1) rfl ?_;intro A4 c4 w4 hO5 hg4 hr4)
        have hF4:FIn (fun g=>w1.heap.size≤g) A4:=by
         rcases hr4 with h | h
         · rw[h];exact HO.out.2
         · rw[h];intro g hg;injection hg with hg;injection hg with hg;subst hg;exact hz8
        have hO5':=hO5
        rw[← HTF.out] at hO5'
        have HO5:=zak (And.intro hO5' hF4)
        have hb9:Below w1.heap.size w1 w4:=hb8.grown hg4 hz8 (fun q hq=>by
         rcases HO.out.1.own.shape with ⟨h1,_⟩ | ⟨g',h1,_,_⟩
         · rw[h1] at hq;cases hq
         · have:=HO.out.2 g' h1
           rw[h1] at hq
           simp[Value.ownBlock] at hq
           omega)
        go_roundw
        case rel=>exact⟨k+1,A4,m+1,c4,_,by omega,by omega,by go_num,by rfl,HO5,hb9⟩
        case measure=>simp[intOf];omega
  · go_wp2_with fail
    go_ret
    have hkn:k=n1:=by omega
    refine⟨_,_,_,ds',rfl,?_,zbd hbr hb1⟩
    have h1:=HO.out.1
    rw[List.take_of_length_le (by rw[hkn,HN.out];exact Nat.le_refl _),List.take_of_length_le (by rw[HLV.out,hkn,HN.out];exact Nat.le_refl _)] at h1
    exact h1
end
end
end
section
open Go.RowKit
set_option maxRecDepth 20000
structure Two (N:Nat) (X:Nat→Prop) (L:List Ent) (V:List (List UInt8)) (pr:Nat) (w:World) (p:Nat) (Fd Fr:Nat→Prop) (gl n cl:Nat) (Av:Option Addr) (cv:Nat) (ds es:List (Option Addr×Nat)) (Al2:Option Addr) (cl2:Nat) (Av2:Option Addr) (cv2:Nat) (ds2 es2:List (Option Addr×Nat)):Prop where
 hn:n=L.length
 d:DB 102 w Fd p (some ⟨gl,0,none⟩) n cl Av cv L V ds es
 r:DB 112 w Fr pr Al2 n cl2 Av2 cv2 L V ds2 es2
 bd:∀ g,Fd g→N≤g∧g < w.heap.size∧ ¬ X g
 br:∀ g,Fr g→N≤g∧g < w.heap.size∧ ¬ X g
 dj:∀ g,Fd g→ ¬ Fr g
def TwoD (N:Nat) (X:Nat→Prop) (L:List Ent) (V:List (List UInt8)) (pr:Nat) (w:World) (p:Nat):Prop:=
 ∃ Fd Fr gl n cl Av cv ds es Al2 cl2 Av2 cv2 ds2 es2,Two N X L V pr w p Fd Fr gl n cl Av cv ds es Al2 cl2 Av2 cv2 ds2 es2
section
variable {N:Nat} {X Y:Nat→Prop} {L:List Ent} {V:List (List UInt8)} {pr p:Nat} {w w':World}
end
section
variable {N:Nat} {X:Nat→Prop} {L:List Ent} {V V1:List (List UInt8)} {pr p:Nat} {w w1 w2:World} {Fd Fr:Nat→Prop} {gl n cl:Nat} {Av:Option Addr} {cv:Nat} {ds es:List (Option Addr×Nat)} {Al2:Option Addr} {cl2:Nat} {Av2:Option Addr} {cv2:Nat} {ds2 es2:List (Option Addr×Nat)}
end
end
section
open Go.RowKit
set_option maxRecDepth 100000
set_option maxHeartbeats 4000000
def NewR (L:List Ent) (w:World) (e:Ending) (w':World):Prop:=
 ∃ v er at_,e= .returned (.tuple #[v,.int .i64 er,.int .i64 at_])∧ NewP L er at_∧(er≠0→v= .pointer none)∧
  (er=0→ ∃ p gl n cl Av cv ds es,v= .pointer (some ⟨p,0,none⟩)∧ n=L.length∧DB 102 w' (fun g=>w.heap.size≤g) p (some ⟨gl,0,none⟩) n cl Av cv L (L.map Ent.df) ds es)∧ Below w.heap.size w w'
theorem zt0 (A:Option Addr) (n c:Nat) (L:List Ent) (w:World) (hn:n=L.length) (hL:SlE w A L) (hf:∀ E ∈ L,fitE E) :
 Calls Tryz.prog 18 #[.slice A n c] w (NewR L w):= by
 have HN:=zak hn
 have HL:=zak hL
 have HF:=zak hf
 by_cases hbig:96 < n
 · clear hn hL hf
   go_enter Tryz.func18,Tryz.ntmps18
   go_wp2_with fail
   go_ret3
   exact⟨_,_,_,rfl,.inl ⟨by rw[← HN.out];exact hbig,rfl,rfl⟩,fun _=>rfl,fun h=>by omega,Below.refl _ _⟩
 have q:=zbn w 55 102 #[] #[.slice (some ⟨w.heap.size,0,none⟩) 0 0,.slice none 0 0]
 have hbw:=zbf (zbf (Below.refl w.heap.size w) (.cells #[] 55)) (.cells #[.slice (some ⟨w.heap.size,0,none⟩) 0 0,.slice none 0 0] 102)
 have HDC:Hid (DB 102 ((w.alloc (.cells #[] 55)).alloc (.cells #[.slice (some ⟨w.heap.size,0,none⟩) 0 0,.slice none 0 0] 102)) (fun g=>w.heap.size≤g) (w.heap.size+1) (some ⟨w.heap.size,0,none⟩) 0 0 none 0 (L.take 0) ((L.take 0).map Ent.df) [] []):=
  zak ⟨q.2,Nat.le_succ _,zcq.empty q.1 (Nat.le_refl _),zcq.nil _ _,by simp,by simp⟩
 clear hn hL hf q
 go_enter Tryz.func18,Tryz.ntmps18
 go_wp2_with fail
 go_loopw [17] (fun i wr=> ∃ k ga cl' Av' cv' ds' es',k≤n∧i= .int .i64 (k:Nat)∧ Hid (DB 102 wr (fun g=>w.heap.size≤g) (w.heap.size+1) (some ⟨ga,0,none⟩) k cl' Av' cv' (L.take k) ((L.take k).map Ent.df) ds' es')∧ Hid (∀ j,j < k→chkE L j=0)∧ Below w.heap.size w wr) (fun i _=>n - (intOf i).toNat)
 case atStart=>exact⟨0,_,_,_,_,_,_,by omega,rfl,HDC,zak (by intro j h;omega),hbw⟩
 case round=>
  clear HDC hbw
  obtain⟨k,ga,cl',Av',cv',ds',es',hk,rfl,HC,HK,hbr⟩:= hrel
  by_cases hlt:k < n
  · obtain⟨E,hE⟩:∃ E,L[k]? =some E:=⟨L[k]'(by rw[← HN.out];exact hlt),List.getElem?_eq_getElem _⟩
    obtain⟨b,off,Aj,cj,rfl,⟨c0,c1,c2,c3,c4,c5,c6,c7,c8,c9,c10⟩,hcj,hsj⟩:= HL.out.two hbr hE
    have HE:=zak hE
    have HFE:=zak (HF.out E (List.mem_of_getElem? hE))
    have HCJ:=zak hcj
    have HSK:=zak (hsj.below hbr)
    have HSW:=zak hsj
    have HT1:=zak (zto hE)
    have HT2:Hid ((L.take (k+1)).map Ent.df=(L.take k).map Ent.df ++ [E.df]):= zak (by rw[zto hE,List.map_append];rfl)
    have HSJ:=zak ((hsj.below hbr).alloc (.cells (entV E Aj E.df.length cj) 55))
    obtain⟨i1,i2,i3⟩:= zbr hlt
    have q:=zbm wr 55 (entV E Aj E.df.length cj)
    have hb0:=zbf (Below.refl wr.heap.size wr) (.cells (entV E Aj E.df.length cj) 55)
    have HQE:=zak q
    clear hE hcj hsj
    unfold entV at q hb0
    go_wp2_with fail
    clear c0 c1 c2 c3 c4 c5 c6 c7 c8 c9 c10
    obtain⟨q_c0,q_c1,q_c2,q_c3,q_c4,q_c5,q_c6,q_c7,q_c8,q_c9,q_c10⟩:= zbl q
    have q_f:=q.frozen
    go_wp2_with fail
    refine (zsu E Aj E.df.length cj _ rfl HCJ.out HFE.out.1 HFE.out.2 HSJ.out).mono ?_
    rintro e w1 ⟨rfl,hb1⟩
    clear q_c0 q_c1 q_c2 q_c3 q_c4 q_c5 q_c6 q_c7 q_c8 q_c9 q_c10 q_f
    have hb1':=zbd hb1 hb0
    by_cases hr:rightE E=0
    · have HR:=zak hr
      have k1:=zak (HQE.out.below hb1 HQE.out.lt)
      rw[hr]
      clear hr
      go_wp2_with fail
      go_cut [39] (fun s wx=> ∃ bb:Bool,s= .bool bb∧Hid (chkE L k=if bb=true then 16 else 0)∧ Below wr.heap.size wr wx∧Hid (Blk wx wr.heap.size 55 (entV E Aj E.df.length cj)))
      case first=>
       rcases (show k=0∨1≤k by omega) with hk0 | hk0
       · have HC0:Hid (chkE L k=0):= zak (zpo HE.out HR.out hk0)
         have hk1:(k:Int)=0:=by omega
         refine wp_region_held_drew (S:=(fun w'=>(∀ qA:Addr,qA.block < (w1).heap.size→w'.cell? qA=(w1).cell? qA)∧ Below (w1).heap.size (w1) w')) (by kernel_rfl) ?hS1 (fun hHeld=>?rest1)
         case hS1=>((try dsimp only);(((try go_split_ands);refine zbc ?_;all_goals exact bl)))
         case' rest1=>skip
         iterate 3 (refine tkN ?_;try simp only[PqL,Act.put])
         iterate 8 (refine tkV ?_;try simp only[PqL,Act.put])
         refine tkN ?_;try simp only[PqL,Act.put]
         refine wpAnyH_done (by kernel_rfl) ?_ _
         have hEnd:=hHeld.2
         repeat (clear hHeld)
         go_wp2_with fail
         go_meet
         case rel=>exact⟨false,rfl,zak (by rw[HC0.out];rfl),hb1'.drew,k1⟩
       · obtain⟨D,hDD⟩:∃ D,L[k - 1]? =some D:=⟨L[k - 1]'(by rw[← HN.out];omega),List.getElem?_eq_getElem _⟩
         obtain⟨b',off',Aj',cj',hAA,⟨d0,d1,d2,d3,d4,d5,d6,d7,d8,d9,d10⟩,_,_⟩:= (HL.out.below (zbd hb1' hbr)) (k - 1) D hDD
         injection hAA with hAA
         injection hAA with hA1 hA2
         subst hA1
         subst hA2
         have HB:Hid (chkE L k=if befE D E.ix E.sub=true then 0 else 16):= zak (zpp HE.out hDD hk0 HR.out)
         have q2:=k1.out
         unfold entV at q2
         obtain⟨q2_c0,q2_c1,q2_c2,q2_c3,q2_c4,q2_c5,q2_c6,q2_c7,q2_c8,q2_c9,q2_c10⟩:= zbl q2
         have q2_f:=q2.frozen
         have z1:=zal d0
         have z2:=q2.lt
         simp only[] at z1
         obtain⟨q1,q3,q4,q5,q6,q7,q8,q9,q10,q11,q12⟩:= zbq hk0 hk (by omega)
         clear hDD
         refine wp_region_held_drew (S:=(fun w'=>(∀ qA:Addr,qA.block < (w1).heap.size→w'.cell? qA=(w1).cell? qA)∧ Below (w1).heap.size (w1) w')) (by kernel_rfl) ?hS15 (fun hHeld=>?rest15)
         case hS15=>((try dsimp only);(((try go_split_ands);refine zbc ?_;all_goals exact bl)))
         case' rest15=>skip
         iterate 9 (refine tkN ?_;try simp only[PqL,Act.put])
         refine wpAnyH_ready (rs:= [9]) (by kernel_rfl) (by simp) ?_
         refine AllReadyH.cons (o:=_) rfl (fun K hK=>?_) .nil
         go_simp
         refine (zqh D E Aj' Aj D.df.length cj' E.df.length cj _).mono ?_
         rintro e w2 ⟨rfl,hb2⟩
         dsimp only
         refine hK.out _ _ ?hS27 (fun hHeld=>?rest27)
         case hS27=>((try dsimp only);(((try go_split_ands);refine zbc ?_;all_goals exact bl)))
         case' rest27=>(clear hK K;try simp only[PqL,Act.put])
         refine tkH 10 ?_
         try simp only[PqL,Act.put]
         refine tkH 11 ?_
         try simp only[PqL,Act.put]
         refine wpAnyH_done (by kernel_rfl) ?_ _
         have hEnd:=hHeld.2
         repeat (clear hHeld)
         have hb2':=zbd hEnd hb1'
         have k2:=zak (k1.out.below hEnd k1.out.lt)
         cases hbe:befE D E.ix E.sub
         · have hbe':beforeB D.ix D.sub E.ix E.sub=false:=hbe
           rw[hbe']
           have HC0:Hid (chkE L k=16):= zak (by rw[HB.out,hbe];rfl)
           clear hbe hbe'
           go_wp2_with fail
           go_meet
           case rel=>exact⟨true,by rfl,zak (by rw[HC0.out];rfl),hb2',k2⟩
         · have hbe':beforeB D.ix D.sub E.ix E.sub=true:=hbe
           rw[hbe']
           have HC0:Hid (chkE L k=0):= zak (by rw[HB.out,hbe];rfl)
           clear hbe hbe'
           go_wp2_with fail
           go_meet
           case rel=>exact⟨false,by rfl,zak (by rw[HC0.out];rfl),hb2',k2⟩
      case rest=>
       obtain⟨bb,rfl,HB16,hwc,r1⟩:= hcut
       cases bb
       · go_wp2_with fail
         have hC0:chkE L k=0:=by rw[HB16.out];rfl
         have HKN:Hid (∀ j,j < k+1→chkE L j=0):= zak (fun j hj=>by
          rcases Nat.lt_succ_iff_lt_or_eq.1 hj with h | h
          · exact HK.out j h
          · rw[h];exact hC0)
         clear hC0 HB16
         have hBc:=HC.out.blk.below hwc HC.out.blk.lt
         have rC:=zak hBc
         have HSX:=zak (HSK.out.below hwc)
         have q:=r1.out
         unfold entV at q
         obtain⟨q_c0,q_c1,q_c2,q_c3,q_c4,q_c5,q_c6,q_c7,q_c8,q_c9,q_c10⟩:= zbl q
         have q_f:=q.frozen
         obtain⟨hBc_c0,hBc_c1⟩:= zbg hBc
         have hBc_f:=hBc.frozen
         refine zaj (fun w'=>(w'.cell? ⟨wr.heap.size,0,none⟩=some (.int .i64 E.ix)∧ w'.cell? ⟨wr.heap.size,1,none⟩=some (.int .i64 E.sub)∧ w'.cell? ⟨wr.heap.size,2,none⟩=some (.string E.nm)∧ w'.cell? ⟨wr.heap.size,3,none⟩=some (.int .i64 E.ty)∧ w'.cell? ⟨wr.heap.size,4,none⟩=some (.int .i64 E.acc)∧ w'.cell? ⟨wr.heap.size,5,none⟩=some (.bool E.mp)∧ w'.cell? ⟨wr.heap.size,6,none⟩=some (.bool E.st)∧ w'.cell? ⟨wr.heap.size,7,none⟩=some (.int .i64 E.mx)∧ w'.cell? ⟨wr.heap.size,8,none⟩=some (.int .i64 E.lo)∧ w'.cell? ⟨wr.heap.size,9,none⟩=some (.int .i64 E.hi)∧ w'.cell? ⟨wr.heap.size,10,none⟩=some (.slice Aj E.df.length cj))∧ w'.cell? ⟨w.heap.size+1,0,none⟩=some (.slice (some ⟨ga,0,none⟩) k cl')) [0,1,2,3,4,5] (by kernel_rfl) ?hS31 (fun hHeld=>?rest31)
         case hS31=>((try dsimp only);exact⟨ztf r1.out,hBc_c0⟩)
         case' rest31=>skip
         refine tkT 0 ?_
         try simp only[PqL,Act.put]
         refine tkT 1 ?_
         try simp only[PqL,Act.put]
         refine tkT 2 ?_
         try simp only[PqL,Act.put]
         refine tkT 3 ?_
         try simp only[PqL,Act.put]
         refine tkT 4 ?_
         try simp only[PqL,Act.put]
         refine tkT 5 ?_
         try simp only[PqL,Act.put]
         refine zag (i:=6) (o:=_) rfl (by kernel_rfl) (fun K hK=>?_)
         go_simp
         refine (zs9 E Aj E.df.length cj _ rfl HFE.out.1 HSX.out.drew).mono ?_
         rintro e w2 ⟨A3,c3',rfl,hO3,hb3⟩
         dsimp only
         unfold entV
         replace hb3:=zte hb3
         have k1:=zak (r1.out.below hb3 r1.out.lt)
         have k2:=zak (rC.out.below hb3 rC.out.lt)
         refine hK.out _ _ ?hS39 (fun hHeld=>?rest39)
         case hS39=>((try dsimp only);(exact⟨ztf k1.out,k2.out.cell 0 rfl⟩))
         case' rest39=>(clear hK K;try simp only[PqL,Act.put])
         refine zag (i:=7) (o:=_) rfl (by kernel_rfl) (fun K hK=>?_)
         go_simp
         refine hK.out _ _ ?hS41 (fun hHeld=>?rest41)
         case hS41=>((try dsimp only);(exact⟨ztf (k1.out.alloc _),(k2.out.alloc _).cell 0 rfl⟩))
         case' rest41=>(clear hK K;try simp only[PqL,Act.put])
         have hb5:=zbf hb3 (.cells (entV E A3 E.df.length c3') 55)
         have hb7:=zbd hb5 hwc
         have hb8:=zbd hb7 hbr
         have hz5:=hbr.size
         have hz6:=hb7.size
         have hz7:=(zbd hwc hbr).size
         have k1':=zak (k1.out.alloc (.cells (entV E A3 E.df.length c3') 55))
         have k2':=zak (k2.out.alloc (.cells (entV E A3 E.df.length c3') 55))
         have zga:=HC.out.ents.own.fin ga rfl
         unfold entV at hb5 hb7 hb8 k1' k2' hz6
         refine zag (i:=8) (o:=_) rfl (by kernel_rfl) (fun K hK=>?_)
         rw[if_pos (show Region.wanted _ _=true by kernel_rfl)]
         refine ztc (f:=entF) (k:=11) (e:=55) (dat:=Ent.df) (F:=fun g=>w.heap.size≤g) _ _ 22 rfl zp4 zp6 (by decide) 104 _ Tryz.underlying22 zp9 rfl (by omega) (by omega) (some ⟨ga,0,none⟩) k cl' (L.take k) ds' rfl (HC.out.ents.below hb7) E (A3,c3') _ rfl (by exact (Blk.new _ _ _).sl) ((hO3.alloc _).mono (Nat.zero_le _)) (hO3.own.fin.mono (fun g h=>Nat.le_trans hz7 h.1)) (fun g h=>Nat.le_trans (Nat.le_trans hz5 hz6) h) (by omega) ?_
         intro A4 c4 w4 hO4 hg4 hr4
         obtain⟨g4,rfl⟩:= ztg hr4
         have m1:=zak (k1'.out.grown hg4 (by simp[Value.ownBlock];omega))
         have m2:=zak (k2'.out.grown hg4 (zcm k2'.out (HC.out.ents.below hb7).own (by decide)))
         have mV:=zak ((HC.out.vals.below hb7).grownT hg4 (HC.out.ents.below hb7).own (by decide) (by decide))
         have mb:Below w.heap.size w w4:=hb8.grown hg4 hb8.size (fun q hq=>by
          have h1:=HC.out.ents.inF ga rfl
          simp[Value.ownBlock] at hq
          omega)
         rw[← HT1.out] at hO4
         have mE:=zak hO4
         clear hO4 hO3 hr4 k1 k2 k1' k2' hg4 hb5 hb7 hb8 hz6 hz7
         refine hK.out _ _ ?hS43 (fun hHeld=>?rest43)
         case hS43=>((try dsimp only);(exact⟨ztf m1.out,m2.out.cell 0 rfl⟩))
         case' rest43=>(clear hK K;try simp only[PqL,Act.put])
         have m2c:=m2.out.cell 0 rfl
         have m2f:=m2.out.frozen 0
         refine zag (i:=9) (o:=_) rfl (by kernel_rfl) (fun K hK=>?_)
         go_simp
         refine hK.out _ _ ?hS45 (fun hHeld=>?rest45)
         case hS45=>((try dsimp only);(exact⟨ztf m1.out,m2.out.cell 0 rfl⟩))
         case' rest45=>(clear hK K;try simp only[PqL,Act.put])
         refine zag (i:=10) (o:=_) rfl (by kernel_rfl) (fun K hK=>?_)
         go_simp
         refine hK.out _ _ ?hS47 (fun hHeld=>?rest47)
         case hS47=>((try dsimp only);(exact⟨ztf m1.out,m2.out.cell 0 rfl⟩))
         case' rest47=>(clear hK K;try simp only[PqL,Act.put])
         refine zah (i:=11) (o:=_) rfl (by kernel_rfl) (by kernel_rfl) (fun K hK=>?_)
         go_simp
         refine hK.out _ _ ?rest49
         case' rest49=>(clear hK K;try simp only[PqL,Act.put])
         refine zai (by kernel_rfl) ?_ _
         repeat (clear hHeld)
         clear m2c m2f
         clear q_c0 q_c1 q_c2 q_c3 q_c4 q_c5 q_c6 q_c7 q_c8 q_c9 q_c10 hBc_c0
         have n1:=zak (m1.out.far (p:=⟨w.heap.size+1,0,none⟩) (Nat.ne_of_gt HC.out.blk.lt) (.slice (some ⟨g4,0,none⟩) (k+1) c4))
         have n2:=zak (m2.out.set_ 0 (.slice (some ⟨g4,0,none⟩) (k+1) c4))
         have nE:=zak (mE.out.setT m2.out (by decide) (by decide) 0 (.slice (some ⟨g4,0,none⟩) (k+1) c4))
         have nV:=zak (mV.out.setT m2.out (by decide) (by decide) 0 (.slice (some ⟨g4,0,none⟩) (k+1) c4))
         have nb:=zbp mb (p:=⟨w.heap.size+1,0,none⟩) (Nat.le_succ _) (.slice (some ⟨g4,0,none⟩) (k+1) c4)
         generalize hw5:w4.setCell ⟨w.heap.size+1,0,none⟩ (.slice (some ⟨g4,0,none⟩) (k+1) c4)=w5 at *
         clear hw5 mE mV mb m1 m2 r1 rC
         go_wp2_with fail
         have n1_c10:=n1.out.cell 10 rfl
         have n2_c1:=n2.out.cell 1 rfl
         refine zaj (fun w'=>w'.cell? ⟨wr.heap.size,10,none⟩=some (.slice Aj E.df.length cj)∧ w'.cell? ⟨w.heap.size+1,1,none⟩=some (.slice Av' k cv')) [0,1,2,3,4,5,6] (by kernel_rfl) ?hS51 (fun hHeld=>?rest51)
         case hS51=>((try dsimp only);exact⟨n1.out.cell 10 rfl,n2.out.cell 1 rfl⟩)
         case' rest51=>skip
         refine tkT 0 ?_
         try simp only[PqL,Act.put]
         refine tkT 1 ?_
         try simp only[PqL,Act.put]
         refine tkT 2 ?_
         try simp only[PqL,Act.put]
         refine tkT 3 ?_
         try simp only[PqL,Act.put]
         refine tkT 4 ?_
         try simp only[PqL,Act.put]
         refine tkT 5 ?_
         try simp only[PqL,Act.put]
         refine tkT 6 ?_
         try simp only[PqL,Act.put]
         refine zag (i:=7) (o:=_) rfl (by kernel_rfl) (fun K hK=>?_)
         go_simp
         refine (zqj Aj E.df.length cj E.df _ rfl HFE.out.1 (HSW.out.below nb).drew).mono ?_
         rintro e w6 ⟨A5,c5,rfl,hO5,hb5⟩
         dsimp only
         replace hb5:=zte hb5
         have o1:=zak (n1.out.below hb5 n1.out.lt)
         have o2:=zak (n2.out.below hb5 n2.out.lt)
         have ob:=zbd hb5 nb
         have hz8:=nb.size
         have ofi:=hO5.own.fin
         refine hK.out _ _ ?hS60 (fun hHeld=>?rest60)
         case hS60=>((try dsimp only);(exact⟨o1.out.cell 10 rfl,o2.out.cell 1 rfl⟩))
         case' rest60=>(clear hK K;try simp only[PqL,Act.put])
         have ob2:=zbf ob (.cells #[.slice A5 E.df.length c5] 23)
         have o1':=zak (o1.out.alloc (.cells #[.slice A5 E.df.length c5] 23))
         have o3:=zak (o2.out.alloc (.cells #[.slice A5 E.df.length c5] 23))
         have hb6:=zbf hb5 (.cells #[.slice A5 E.df.length c5] 23)
         refine zag (i:=8) (o:=_) rfl (by kernel_rfl) (fun K hK=>?_)
         go_simp
         refine hK.out _ _ ?hS62 (fun hHeld=>?rest62)
         case hS62=>((try dsimp only);(exact⟨o1'.out.cell 10 rfl,o3.out.cell 1 rfl⟩))
         case' rest62=>(clear hK K;try simp only[PqL,Act.put])
         have hz9:=ob2.size
         refine zag (i:=9) (o:=_) rfl (by kernel_rfl) (fun K hK=>?_)
         rw[if_pos (show Region.wanted _ _=true by kernel_rfl)]
         refine ztc (f:=valF) (k:=1) (e:=23) (dat:=fun v=>v) (F:=fun g=>w.heap.size≤g) _ _ 100 rfl zp5 zp8 (by decide) 24 _ Tryz.underlying100 zqa rfl (by omega) (by omega) Av' k cv' ((L.take k).map Ent.df) es' rfl (nV.out.below hb6) E.df (A5,c5) _ rfl (by exact (Blk.new _ _ _).sl) ((hO5.alloc _).mono (Nat.zero_le _)) (ofi.mono (fun g h=>Nat.le_trans hz8 h.1)) (fun g h=>Nat.le_trans hz9 h) (by omega) ?_
         intro A6 c6 w7 hO6 hg6 hr6
         have p1:=zak (o1'.out.grown hg6 (zcm o1'.out (nV.out.below hb6).own (by decide)))
         have p2:=zak (o3.out.grown hg6 (zcm o3.out (nV.out.below hb6).own (by decide)))
         have pE:=zak ((nE.out.below hb6).grownT hg6 (nV.out.below hb6).own (by decide) (by decide))
         have pb:Below w.heap.size w w7:=ob2.grown hg6 ob2.size (fun q hq=>by
          rcases nV.out.own.shape with ⟨h1,_⟩ | ⟨g',h1,_,_⟩
          · rw[h1] at hq;cases hq
          · have:=nV.out.inF g' h1
            rw[h1] at hq
            simp[Value.ownBlock] at hq
            omega)
         rw[← HT2.out] at hO6
         have pV:=zak hO6
         clear hO6 hO5 hr6 hg6 ofi hb5 hb6 ob2 o1 o1' o2 o3 n1_c10 n2_c1
         refine hK.out _ _ ?hS64 (fun hHeld=>?rest64)
         case hS64=>((try dsimp only);(exact⟨p1.out.cell 10 rfl,p2.out.cell 1 rfl⟩))
         case' rest64=>(clear hK K;try simp only[PqL,Act.put])
         have p2c:=p2.out.cell 1 rfl
         have p2f:=p2.out.frozen 1
         refine zag (i:=10) (o:=_) rfl (by kernel_rfl) (fun K hK=>?_)
         go_simp
         refine hK.out _ _ ?hS66 (fun hHeld=>?rest66)
         case hS66=>((try dsimp only);(exact⟨p1.out.cell 10 rfl,p2.out.cell 1 rfl⟩))
         case' rest66=>(clear hK K;try simp only[PqL,Act.put])
         refine zag (i:=11) (o:=_) rfl (by kernel_rfl) (fun K hK=>?_)
         go_simp
         refine hK.out _ _ ?hS68 (fun hHeld=>?rest68)
         case hS68=>((try dsimp only);(exact⟨p1.out.cell 10 rfl,p2.out.cell 1 rfl⟩))
         case' rest68=>(clear hK K;try simp only[PqL,Act.put])
         refine zah (i:=12) (o:=_) rfl (by kernel_rfl) (by kernel_rfl) (fun K hK=>?_)
         go_simp
         refine hK.out _ _ ?rest70
         case' rest70=>(clear hK K;try simp only[PqL,Act.put])
         refine zai (by kernel_rfl) ?_ _
         repeat (clear hHeld)
         have HC2:Hid (DB 102 (w7.setCell ⟨w.heap.size+1,1,none⟩ (.slice A6 (k+1) c6)) (fun g=>w.heap.size≤g) (w.heap.size+1) (some ⟨g4,0,none⟩) (k+1) c4 A6 c6 (L.take (k+1)) ((L.take (k+1)).map Ent.df) (ds' ++ [(A3,c3')]) (es' ++ [(A5,c5)])):=
          zak ⟨p2.out.set_ 1 _,Nat.le_succ _,pE.out.setT p2.out (by decide) (by decide) 1 _,pV.out.setT p2.out (by decide) (by decide) 1 _,fun E hE=>HF.out E (List.mem_of_mem_take hE),fun v hv=>by
           obtain⟨D,hD,rfl⟩:= List.mem_map.1 hv
           exact (HF.out D (List.mem_of_mem_take hD)).1⟩
         have pb2:=zbp pb (p:=⟨w.heap.size+1,1,none⟩) (Nat.le_succ _) (.slice A6 (k+1) c6)
         clear p2c p2f
         go_wp2_with fail
         go_roundw
         case rel=>exact⟨k+1,g4,c4,A6,c6,_,_,by omega,by go_num,HC2,HKN,pb2⟩
         case measure=>simp[intOf];omega
       · go_wp2_with fail
         go_ret3
         exact⟨_,_,_,rfl,.inr (.inl ⟨by rw[← HN.out];omega,by decide,k,by rw[← HN.out];exact hlt,by rw[HB16.out];rfl,rfl,HK.out⟩),fun _=>rfl,fun h=>absurd h (by decide),zbd hwc hbr⟩
    · have HR:Hid (chkE L k=rightE E∧rightE E≠0):= zak ⟨zpn HE.out hr,hr⟩
      obtain⟨er,her⟩:∃ er,er=rightE E:=⟨_,rfl⟩
      have hr': ¬ er=0:=by rw[her];exact hr
      rw[← her]
      have HER:=zak her
      clear hr her
      go_wp2_with fail
      go_ret3
      refine⟨_,_,_,rfl,.inr (.inl ⟨by rw[← HN.out];omega,hr',k,by rw[← HN.out];exact hlt,by rw[HR.out.1,HER.out],rfl,HK.out⟩),fun _=>rfl,fun h=>absurd h hr',zbd hb1' hbr⟩
  · have hkn:k=n:=by omega
    go_wp2_with fail
    go_ret3
    have h1:=HC.out
    have h2:=HK.out
    rw[List.take_of_length_le (by rw[hkn,HN.out];exact Nat.le_refl _)] at h1
    exact⟨_,0,0,rfl,.inr (.inr ⟨by rw[← HN.out];omega,rfl,rfl,by rw[← HN.out,← hkn];exact h2⟩),fun h=>absurd rfl h,fun _=>⟨_,ga,k,cl',Av',cv',ds',es',rfl,by rw[hkn];exact HN.out,h1⟩,hbr⟩
end
end Go.Proofs.YtehabbnohoomjaaGreatDoor
