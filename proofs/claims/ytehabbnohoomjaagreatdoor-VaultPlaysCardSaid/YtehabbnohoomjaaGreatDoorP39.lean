/- None -/
import Derived.Test.YtehabbnohoomjaaGreatDoorP38
namespace Go.Proofs.YtehabbnohoomjaaGreatDoor
set_option linter.unusedVariables false
set_option linter.unusedSimpArgs false
set_option linter.unnecessarySimpa false
section
open Go.RowKit
set_option maxRecDepth 20000
theorem zwt {L:List SV} {v:SV} (h:v ∈ L):v.data.length+5≤(L.flatMap vbytes).length:=by
 induction L with
 | nil=>simp at h
 | cons u L ih=>
   have:=zno u
   simp only[List.flatMap_cons,List.length_append]
   rcases List.mem_cons.1 h with rfl | h
   · omega
   · have:=ih h;omega
theorem zwu (L:List SV):L.length≤(L.flatMap vbytes).length:=by
 induction L with
 | nil=>simp
 | cons u L ih=>have:=zno u;simp only[List.flatMap_cons,List.length_append,List.length_cons];omega
theorem zwv {L:List SV} {l:List UInt8} (h:BuildR L l 0):L.length≤960∧ ∀ v ∈ L,v.data.length≤960:=by
 rcases h with ⟨h,_⟩ | ⟨ha,⟨_,_,h⟩ | ⟨h1,h2,_⟩⟩
 · exact absurd rfl h
 · cases h
 · exact⟨Nat.le_trans (zwu L) h1,fun v hv=>by have:=zwt hv;omega⟩
theorem zww (l:List UInt8) (v:SV) (rest:List UInt8) (h:oneS l=(v,rest,0)):l=vbytes v ++ rest∧thereB v.ix v.sub=true:=by
 unfold oneS at h
 split at h
 · injection h with _ h;injection h with _ h;cases h
 · rename_i h5
   split at h
   · injection h with _ h;injection h with _ h;cases h
   · rename_i hb
     split at h
     · injection h with _ h;injection h with _ h;cases h
     · rename_i ht
       injection h with hv h
       injection h with hr _
       obtain⟨a0,a1,s,m0,m1,t,rfl⟩:∃ a0 a1 s m0 m1 t,l=a0 :: a1 :: s :: m0 :: m1 :: t:=by
        match l,h5 with
        | a0 :: a1 :: s :: m0 :: m1 :: t,_=>exact⟨a0,a1,s,m0,m1,t,rfl⟩
        | [],h=>simp at h
        | [_],h=>simp at h
        | [_,_],h=>simp at h
        | [_,_,_],h=>simp at h
        | [_,_,_,_],h=>simp at h
       simp only[List.length_cons,List.drop_succ_cons,List.drop_zero,List.take_succ_cons,List.take_zero,List.getD_cons_succ,List.getD_cons_zero] at hb ht hv hr
       subst hv
       refine⟨?_,by simpa using ht⟩
       have hlen:(List.take (leN [m0,m1]) t).length=leN [m0,m1]:= by rw[List.length_take];omega
       have e1:=zaq [a0,a1]
       have e2:=zaq [m0,m1]
       simp only[List.length_cons,List.length_nil] at e1 e2
       have e3:leB 1 s.toNat= [s]:= by have:=zaq [s];simpa [leN] using this
       simp only[vbytes,Int.toNat_natCast,hlen]
       rw[e1,e2,e3,← hr]
       simp
theorem zwx (f:Nat):∀ (P:List SV) (l:List UInt8) (L:List SV),l.length≤f→parseF (f+1) P l=(L,0)→ (∀ j,j < P.length→chkV P j=0)→
 ∃ S,L=P ++ S∧l=S.flatMap vbytes∧ ∀ j,j < L.length→chkV L j=0:=by
 induction f with
 | zero=>
   intro P l L hl h hP
   obtain rfl:l= []:= List.eq_nil_of_length_eq_zero (by omega)
   rw[znz] at h
   injection h with h
   subst h
   exact⟨[],by simp,rfl,hP⟩
 | succ f ih=>
   intro P l L hl h hP
   by_cases hne:l= []
   · subst hne
     rw[znz] at h
     injection h with h
     subst h
     exact⟨[],by simp,rfl,hP⟩
   · obtain⟨v,rest,er,ho⟩:∃ v rest er,oneS l=(v,rest,er):= ⟨_,_,_,rfl⟩
     by_cases her:er=0
     · subst her
       obtain⟨hl2,ht⟩:= zww l v rest ho
       by_cases hah:P= []∨ aheadB (lastV P).ix (lastV P).sub v.ix v.sub=true
       · rw[zn2 _ _ _ _ _ hne ho hah] at h
         have hvl:=zno v
         obtain⟨S,rfl,hS,hc⟩:= ih (P ++ [v]) rest L (by rw[hl2,List.length_append] at hl;omega) h (by
          intro j hj
          simp only[List.length_append,List.length_cons,List.length_nil] at hj
          rcases Nat.lt_succ_iff_lt_or_eq.1 hj with hj | hj
          · have e:chkV (P ++ [v]) j=chkV P j:=by
             unfold chkV
             simp only[List.getD_eq_getElem?_getD]
             rw[List.getElem?_append_left hj,List.getElem?_append_left (by omega)]
            rw[e]
            exact hP j hj
          · subst hj
            unfold chkV
            simp only[List.getD_eq_getElem?_getD]
            have e0:(P ++ [v])[P.length]? =some v:=by simp
            rw[e0]
            simp only[Option.getD_some,ht]
            rw[if_neg (by simp)]
            rcases hah with hp | hp
            · subst hp
              simp
            · rw[if_neg]
              rintro⟨h1,h2⟩
              have e1:(P ++ [v])[P.length - 1]? =P[P.length - 1]? :=List.getElem?_append_left (by omega)
              rw[e1] at h2
              unfold lastV at hp
              rw[List.getD_eq_getElem?_getD,h2] at hp
              cases hp)
         exact⟨v :: S,by simp,by rw[hl2,hS];simp,hc⟩
       · have h1:P≠ []:= fun hp=>hah (.inl hp)
         have h2:aheadB (lastV P).ix (lastV P).sub v.ix v.sub=false:=by
          cases hx:aheadB (lastV P).ix (lastV P).sub v.ix v.sub with
          | true=>exact absurd (.inr hx) hah
          | false=>rfl
         rw[zn1 _ _ _ _ _ hne ho h1 h2] at h
         injection h with _ h
         cases h
     · rw[zn0 _ _ _ _ _ _ hne ho her] at h
       injection h with _ h
       exact absurd h her
theorem zwy {L:List SV} {l:List UInt8} (h:parseS l=(L,0)):BuildR L l 0∧l.length≤960:=by
 unfold parseS at h
 split at h
 · injection h with _ h;cases h
 · rename_i hl
   obtain⟨S,rfl,hS,hc⟩:= zwx l.length [] l L (Nat.le_refl _) h (by intro j hj;simp at hj)
   exact⟨.inr ⟨hc,.inr ⟨by rw[← hS];omega,hS,rfl⟩⟩,by omega⟩
theorem zwz (f:Nat):∀ (P:List SV) (l:List UInt8) (L:List SV) (e:Int),parseF f P l=(L,e)→ e≠0→L= []:= by
 induction f with
 | zero=>intro P l L e h he;rw[parseF] at h;injection h with h1 h2;exact absurd h2.symm he
 | succ f ih=>
   intro P l L e h he
   rw[parseF] at h
   split at h
   · injection h with _ h2;exact absurd h2.symm he
   · split at h
     · injection h with h1 _;exact h1.symm
     · split at h
       · injection h with h1 _;exact h1.symm
       · exact ih _ _ _ _ h he
theorem zw0 {L:List SV} {l:List UInt8} {e:Int} (h:parseS l=(L,e)):L.length≤960∧ ∀ v ∈ L,v.data.length≤960:=by
 by_cases he:e=0
 · subst he
   exact zwv (zwy h).1
 · have hL:L= []:= by
    unfold parseS at h
    split at h
    · injection h with h1 _;exact h1.symm
    · exact zwz _ _ _ _ _ h he
   subst hL
   exact⟨by simp,by intro v hv;simp at hv⟩
end
section
open Go.RowKit
set_option maxRecDepth 20000
set_option maxHeartbeats 8000000
def recX (L:List Ent) (J:JS):List SV×Bool:=
 if J.has=true∧(recJ J).1=1 then
  if (parseS (recJ J).2.2).2≠0∨checkL L (parseS (recJ J).2.2).1≠0 then ([],true) else ((parseS (recJ J).2.2).1,false)
 else ([],false)
def OpenGR (L:List Ent) (M:Nat) (q:FP) (S:FS) (w:World) (e:Ending) (w':World):Prop:=
 ∃ pv pj A n c dj As ns cs dx,e= .returned (.tuple #[.pointer (some ⟨pv,0,none⟩),.int .i64 0])∧ VD w' M (fun g=>w.heap.size≤g∧g < pv) (fun g=>pv < g∧g < w'.heap.size) pv pj q A n c dj As ns cs dx (openJ S) S (recX L (openJ S)).1 (recX L (openJ S)).2 false∧w.heap.size≤pv∧Below w.heap.size w w'
section
variable {Fd:Nat→Prop} {pd gl nd cl cv:Nat} {Av:Option Addr} {L:List Ent} {V:List (List UInt8)} {ds es:List (Option Addr×Nat)}
theorem zw1 (M:Nat) (q:FP) (S:FS) (w:World) (hD:FD w q S) (hoff:S.off=false) (h3:3≤S.wear.length) (hM:M≤w.heap.size) (hq:∀ g,q.F g→g < w.heap.size∧M≤g)
 (hDB:DB 102 w Fd pd (some ⟨gl,0,none⟩) nd cl Av cv L V ds es) (hs:SortedE L) (hnd:nd≤1000) :
 Calls Tryz.prog 11 #[.pointer (some ⟨q.p,0,none⟩),.pointer (some ⟨pd,0,none⟩)] w (OpenGR L M q S w):= by
 have HO:=zak (zi3 q S w hD hoff h3)
 have HD:=zak hD
 have HM:=zak hM
 have HQ:=zak hq
 have HDB:=zak hDB
 have HS:=zak hs
 have HND:=zak hnd
 obtain⟨R0,hR0⟩:∃ R0,R0=OpenGR L M q S w:=⟨_,rfl⟩
 rw[← hR0]
 have HR:=zak hR0
 obtain⟨X0,hX0⟩:∃ X0,X0=recX L (openJ S):= ⟨_,rfl⟩
 have HX:=zak hX0
 clear hD hoff h3 hM hq hR0 hDB hs hnd hX0
 have END:∀ (w':World) (pv pj:Nat) (A:Option Addr) (n c:Nat) (dj:List (Option Addr×Nat)) (As:Option Addr) (ns cs:Nat) (dx:List (Option Addr×Nat)) (XX:List SV) (odd:Bool),X0=(XX,odd)→
  Blk w' pv 90 (vauC (.pointer (some ⟨pj,0,none⟩)) (.slice As ns cs) odd false)→ JD w' (fun g=>w.heap.size≤g∧g < pv) pj q.p A n c (openJ S) dj→OwnSV w' (fun g=>pv < g∧g < w'.heap.size) As ns cs XX dx→
  ns≤200→(∀ v ∈ XX,v.data.length≤2000)→ w.heap.size≤pv→Below w.heap.size w w'→R0 (.returned (.tuple #[.pointer (some ⟨pv,0,none⟩),.int .i64 0])) w':=by
  intro w' pv pj A n c dj As ns cs dx XX odd hx hB hJ hO h200 hfit hpv hbw
  rw[HR.out]
  have hlt:=hB.lt
  have hsz:=hbw.size
  refine⟨pv,pj,A,n,c,dj,As,ns,cs,dx,rfl,?_,hpv,hbw⟩
  rw[← HX.out,hx]
  refine⟨hB,hJ,HD.out.below hbw,hO,by have:=HM.out;omega,?_,?_,?_,h200,hfit⟩
  · rintro g (h | h)
    · have:=HM.out
      exact⟨by omega,by omega,by omega⟩
    · have:=HQ.out g h
      exact⟨by omega,this.2,by omega⟩
  · intro g h
    have:=HM.out
    refine⟨h.2,by omega,by omega,?_⟩
    rintro (hx | hx)
    · omega
    · have:=HQ.out g hx;omega
  · intro g h hx
    have:=HQ.out g hx
    omega
 have HEND:=zak END
 clear END
 go_enter Tryz.func11,Tryz.ntmps11
 go_wp2_with fail
 refine HO.out.mono ?_
 rintro e w1 ⟨pj,A,n,c,dj,rfl,hJ,hb⟩
 have k0:=zbm w1 90 #[.pointer (some ⟨pj,0,none⟩),.slice none 0 0,.bool false,.bool false]
 have hba:=zbf (Below.refl w1.heap.size w1) (.cells #[.pointer (some ⟨pj,0,none⟩),.slice none 0 0,.bool false,.bool false] 90)
 have HB1:=zak hb
 have HJC:=zak ((show JD w1 (fun g=>w.heap.size≤g∧g < w1.heap.size) pj q.p A n c (openJ S) dj from hJ.mono (fun g hlt h=>⟨h,hlt⟩)).below hba)
 have HBA:=zak (zbd hba hb)
 have HK0:=zak k0
 have HLT:=zak (zjn _ (hJ.below hba))
 have HX0:Hid (X0=if (openJ S).has=true∧(recJ (openJ S)).1=1 then if (parseS (recJ (openJ S)).2.2).2≠0∨checkL L (parseS (recJ (openJ S)).2.2).1≠0 then ([],true) else ((parseS (recJ (openJ S)).2.2).1,false) else ([],false)):= HX
 obtain⟨RJ,hRJ⟩:∃ r,r=recJ (openJ S):= ⟨_,rfl⟩
 obtain⟨hs,hhs⟩:∃ hs,hs=(openJ S).has:=⟨_,rfl⟩
 rw[← hhs,← hRJ] at HLT HX0
 obtain⟨kd,m,bs⟩:= RJ
 clear hRJ
 try dsimp only at HLT HX0
 clear hJ hb k0 hba hhs HO
 go_wp2_with fail
 refine HLT.out.mono ?_
 rintro e w2 ⟨A',c',rfl,hO,hb2⟩
 have hba2:=zbf (Below.refl w2.heap.size w2) (.cells (rcV kd m A' bs.length c') 92)
 have qr:=zbm w2 92 (rcV kd m A' bs.length c')
 have hb3:=zbd hba2 hb2
 have HB3:=zak (zbd hb3 HBA.out)
 have HJ3:=zak (HJC.out.below hb3)
 have HK3:=zak (HK0.out.below hb3 HK0.out.lt)
 have HO3:=zak (hO.below hba2)
 have hkl:=HK0.out.lt
 have HZ:=zak (And.intro hb3.size (And.intro HB1.out.size (show w1.heap.size < (w1.alloc (.cells #[.pointer (some ⟨pj,0,none⟩),.slice none 0 0,.bool false,.bool false] 90)).heap.size from HK0.out.lt)))
 clear hb2 hb3 HLT hba2 hO hkl
 try dsimp only at qr
 unfold rcV at HB3 HJ3 HK3 HZ HO3 qr ⊢
 by_cases hno:hs=true∧kd=1
 · obtain⟨rfl,rfl⟩:= hno
   have HX1:=zak (HX0.out.trans (if_pos ⟨rfl,rfl⟩))
   clear HX0
   have HQR:=zak qr
   obtain⟨qr_c0,qr_c1,qr_c2⟩:= zbh qr
   have qr_f:=qr.frozen
   clear qr
   go_wp2_with fail
   refine (zn3 A' bs.length c' bs _ rfl HO3.out.own.le HO3.out.sl).mono ?_
   rintro e w4 ⟨A4,n4,c4,X4,d4,er,rfl,hO4,hP4,hb4⟩
   rw[hP4] at HX1
   dsimp only at HX1
   have HO4:=zak hO4
   have HB4:=zak (zbd hb4 HB3.out)
   have HJ4:=zak (HJ3.out.below hb4)
   have HK4:=zak (HK3.out.below hb4 HK3.out.lt)
   have kc:=HK4.out
   obtain⟨kc_c0,kc_c1,kc_c2,kc_c3⟩:= zbi kc
   have kc_f:=kc.frozen
   have HPS:=zak (zw0 hP4)
   have HP4:=zak hP4
   have hz4:=hb4.size
   have HZ4:=zak hz4
   clear hO4 hb4 hP4 hz4
   by_cases he:er=0
   · subst he
     have hbf:=zwj (zwy HP4.out).1
     have HBF:=zak hbf
     have hn4:n4≤192:=by rw[HO4.out.hn];exact hbf.1
     have HN4:=zak hn4
     clear hbf hn4
     go_wp2_with fail
     refine (zvw A4 n4 c4 X4 _ (HDB.out.below HB4.out) HS.out HND.out HO4.out.hn (by have:=HN4.out;omega) HO4.out.slV (fun v hv=>by have:=HBF.out.2 v hv;omega)).mono ?_
     rintro e w5 ⟨rfl,hb5⟩
     obtain⟨ck,hck⟩:∃ ck,ck=checkL L X4:=⟨_,rfl⟩
     rw[← hck] at HX1 ⊢
     have hJ5:=HJ4.out.below hb5
     have hK5:=HK4.out.below hb5 HK4.out.lt
     have hO5:=(zv1 HO4.out).below hb5
     have HB5:=zak (zbd hb5 HB4.out)
     have HO5:=zak hO5
     have HJ5:=zak hJ5
     have HK5:=zak hK5
     have kd5:=hK5
     have HZ5:=zak hb5.size
     clear kc_c0 kc_c1 kc_c2 kc_c3 kc_f
     obtain⟨kd5_c0,kd5_c1,kd5_c2,kd5_c3⟩:= zbi kd5
     have kd5_f:=kd5.frozen
     clear hb5 hck hO5 hJ5 hK5
     have hlt0:w1.heap.size < (w2.alloc (.cells #[.int .i64 1,.int .u32 m,.slice A' bs.length c'] 92)).heap.size:=HK3.out.lt
     have HL0:=zak hlt0
     clear hlt0
     by_cases hc0:ck=0
     · subst hc0
       go_wp2_with fail
       refine HEND.out _ w1.heap.size pj A n c dj A4 n4 c4 d4 X4 false (HX1.out.trans (if_neg (by simp))) (zhz (zhz HK5.out 2 (.bool false)) 1 (.slice A4 n4 c4)) (HJ5.out.only (zhe 2 1 _ _) (fun g hg e=>by omega)) ((HO5.out.keep (fun g hg hlt=>(zhe 2 1 (.bool false) (.slice A4 n4 c4)).block g hlt (fun e=>by have:=HL0.out;omega))).mono (fun g hlt hg=>⟨by have:=HL0.out;omega,hlt⟩)) (by have:=HN4.out;omega) (fun v hv=>by have:=HBF.out.2 v hv;omega) HZ.out.2.1 (zbp (zbp HB5.out (p:=⟨w1.heap.size,2,none⟩) HZ.out.2.1 _) (p:=⟨w1.heap.size,1,none⟩) HZ.out.2.1 _)
     · have hcb:(ck != 0)=true:=by simp[hc0]
       go_wp2_with fail
       refine HEND.out _ w1.heap.size pj A n c dj none 0 0 [] [] true (HX1.out.trans (if_pos (.inr hc0))) (zhz HK5.out 2 (.bool true)) (HJ5.out.only (zhd 2 _) (fun g hg e=>by omega)) (zcq.nil _ _) (by omega) (fun v hv=>by cases hv) HZ.out.2.1 (zbp HB5.out (p:=⟨w1.heap.size,2,none⟩) HZ.out.2.1 _)
   · go_wp2_with fail
     refine HEND.out _ w1.heap.size pj A n c dj none 0 0 [] [] true (HX1.out.trans (if_pos (.inl he))) (zhz HK4.out 2 (.bool true)) (HJ4.out.only (zhd 2 _) (fun g hg e=>by omega)) (zcq.nil _ _) (by omega) (fun v hv=>by cases hv) HZ.out.2.1 (zbp HB4.out (p:=⟨w1.heap.size,2,none⟩) HZ.out.2.1 _)
 · have HX1:=zak (HX0.out.trans (if_neg hno))
   clear HX0
   have HQR:=zak qr
   obtain⟨qr_c0,qr_c1,qr_c2⟩:= zbh qr
   have qr_f:=qr.frozen
   clear qr
   cases hs
   · clear hno
     go_wp2_with fail
     refine HEND.out _ w1.heap.size pj A n c dj none 0 0 [] [] false HX1.out HK3.out HJ3.out (zcq.nil _ _) (by omega) (fun v hv=>by cases hv) HZ.out.2.1 HB3.out
   · have hkd:(kd == (1:Int))=false:=by simp;intro h;exact hno ⟨rfl,h⟩
     clear hno
     go_wp2_with fail
     refine HEND.out _ w1.heap.size pj A n c dj none 0 0 [] [] false HX1.out HK3.out HJ3.out (zcq.nil _ _) (by omega) (fun v hv=>by cases hv) HZ.out.2.1 HB3.out
end
end
section
open Go.RowKit
set_option maxRecDepth 100000
set_option maxHeartbeats 4000000
theorem zw2 {w:World} {g:Nat} {E:Ent} {A:Option Addr} {c:Nat} (hB:Blk w g 55 (entV E A E.df.length c)) (hc:E.df.length≤c) (hs:Sl w A (E.df.map bv)):SlE w (some ⟨g,0,none⟩) [E]:= by
 intro j D hD
 cases j with
 | zero=>
   simp at hD
   subst hD
   obtain⟨c0,c1,c2,c3,c4,c5,c6,c7,c8,c9,c10⟩:= ztf hB
   exact⟨g,0,A,c,rfl,⟨c0,c1,c2,c3,c4,c5,c6,c7,c8,c9,c10⟩,hc,hs⟩
 | succ j=>simp at hD
def kD:Ent:=⟨4119,0,⟨#[98,101,97,116]⟩,6,4,false,false,0,10,1000,[20,0]⟩
end
section
open Go.RowKit
set_option maxRecDepth 100000
set_option maxHeartbeats 8000000
def vE:Ent:=⟨24576,0,⟨#[103,97,105,110]⟩,5,4,false,true,0,0,9,[3]⟩
def vX:SV:=⟨24576,0,[5]⟩
theorem zw3:chkE [vE] 0=0:=by decide +kernel
theorem zw4:NewP [vE] 0 0:= .inr (.inr ⟨by decide,rfl,rfl,by intro j hj;obtain rfl:j=0:=by simp at hj;omega
                                                             exact zw3⟩)
theorem zw5:SortedE [vE]:= List.pairwise_singleton _ _
theorem zw6:mayC [vE] 24576 0 [5] false=0∧putV [vE] [[3]] 24576 0 [5] false= [[5]]∧ mayC [vE] 24576 0 [7] false=0∧putV [vE] [[5]] 24576 0 [7] false= [[7]]∧ getC [vE] 24576 0=0∧valK [[5]] (locK [vE] 24576 0)= [5]∧ checkL [vE] [vX]=0∧applyV [vE] [[3]] [vX]= [[5]]:= by decide +kernel
theorem zw7:ofV [vE] [[5]] 1= [vX]∧ dropL [] 1= []∧ joinV [] [vX]= [vX]∧ dropL [vX] 0= [vX]∧ dropL [vX] 3= []∧ dropL [] 0= []:= ⟨by first | rfl | kernel_rfl,by first | rfl | kernel_rfl,by first | rfl | kernel_rfl,by first | rfl | kernel_rfl,by first | rfl | kernel_rfl,by first | rfl | kernel_rfl⟩
theorem zw8 {b:List UInt8} {er:Int} (h:BuildR [vX] b er):er=0∧b.length≤960:=by
 have h1:∀ j,j < [vX].length→chkV [vX] j=0:=by
  intro j hj
  obtain rfl:j=0:=by simp at hj;omega
  decide +kernel
 have h2:BuildR [vX] ([vX].flatMap vbytes) 0:= .inr ⟨h1,.inr ⟨by decide +kernel,rfl,rfl⟩⟩
 obtain⟨h3,h4⟩:= zn5 h h2
 exact⟨h4,by rw[h3];decide +kernel⟩
theorem zw9 {b:List UInt8} {er:Int} (h:BuildR [] b er):er=0∧b.length≤960∧b= []:= by
 have h2:BuildR [] [] 0:= .inr ⟨by intro j hj;simp at hj,.inr ⟨by simp,rfl,rfl⟩⟩
 obtain⟨h3,h4⟩:= zn5 h h2
 exact⟨h4,by rw[h3];simp,h3⟩
theorem zxa {S:FS} {k:Nat} {kd:Int} {l:List SV} {R:JS×FS×Int} (hf:Fresh S k) (hoff:S.off=false) (ha:S.ahead < 0) (hk:((k+1:Nat):Int) < S.most) (hk2:k+1≤1000000) (hb:∀ b er,BuildR l b er→er=0∧b.length≤960) (hkd:kd=1∨(kd=2∧ ∀ b er,BuildR l b er→b= [])) (h:WrP (openJ S) S kd l R) :
 ∃ S',R=(openJ S',S',0)∧ Fresh S' (k+1)∧ S'.off=false∧S'.ahead=S.ahead∧S'.most=S.most∧S'.ops≤S.ops+1000:=by
 obtain⟨b,er,hB,hc⟩:= h
 obtain⟨rfl,hd⟩:= hb b er hB
 rcases hc with ⟨h,_⟩ | ⟨_,rfl⟩
 · exact absurd rfl h
 have hr:rightR kd (numJ (openJ S)+1) b.length=0:=by
  unfold rightR
  rcases hkd with rfl | ⟨rfl,hz⟩
  · rw[if_neg (by omega),if_neg (by omega),if_neg (by decide),if_neg (by omega)]
  · rw[if_neg (by omega),if_pos ⟨rfl,by rw[hz b 0 hB];rfl⟩]
 obtain⟨⟨J1,S1,e⟩,hap⟩:∃ r,r=appJ (openJ S) S kd b:=⟨_,rfl⟩
 obtain⟨i,y,er,hs⟩:= zk3 hf hoff hr hap.symm
 rcases hs.ends with ⟨he,h2,h3,h4,h5,h6⟩ | ⟨_,h,_⟩
 · subst he
   have hJ1:=zhc hs
   refine⟨S1,by rw[← hap,hJ1],zk5 hf hs hk hk2,h2,h6 ha,hs.kept.most,?_⟩
   rw[h5]
   cases er<;>simp<;>omega
 · omega
end
section
open Go.RowKit
set_option maxRecDepth 20000
set_option maxHeartbeats 8000000
def DataR (n:Nat) (w:World) (e:Ending) (w':World):Prop:= ∃ A c l,e= .returned (.slice A n c)∧ n=l.length∧zcd w' w.heap.size A n c l∧Below w.heap.size w w'
end
section
open Go.RowKit
set_option maxRecDepth 20000
set_option maxHeartbeats 2000000
theorem zxb (bs:List UInt8):∀ (S:FS) (k:Nat),(progF S k bs).1.ops≤S.ops+bs.length:=by
 induction bs with
 | nil=>intro S k;exact Nat.le_refl _
 | cons x bs ih=>
   intro S k
   rw[progF]
   split
   · simp
   · refine Nat.le_trans (ih _ _) ?_
     simp only[List.length_cons]
     omega
theorem zxc (S:FS) (i:Nat):(eraseF S i).1.ops≤S.ops+1:=by
 unfold eraseF
 split<;>simp
theorem zxd (J:JS) (S:FS) (i:Nat) (x:LK) (kd:Int) (num:Nat) (d:List UInt8):(layJ J S i x kd num d).2.1.ops≤S.ops+(recB kd num d).length:=by
 have h:=zxb (recB kd num d) S (1024 * i+x.en)
 unfold layJ
 generalize progF S (1024 * i+x.en) (recB kd num d)=r at h
 obtain⟨S',e⟩:= r
 dsimp only
 split<;>exact h
theorem zxe (J:JS) (S:FS) (kd:Int) (d:List UInt8):(appJ J S kd d).2.1.ops≤S.ops+(recB kd (numJ J+1) d).length+1:=by
 unfold appJ
 split
 · simp only[];omega
 split
 · simp only[];omega
 split
 · simp only[];omega
 generalize placeJ J S d.length=r
 obtain⟨i,er,ok⟩:= r
 dsimp only
 split
 · simp only[];omega
 split
 · have h:=zxc S i
   generalize eraseF S i=r at h
   obtain⟨S1,e1⟩:= r
   dsimp only at h ⊢
   split
   · refine Nat.le_trans (zxd _ _ _ _ _ _ _) ?_
     omega
   · simp only[];omega
 · refine Nat.le_trans (zxd _ _ _ _ _ _ _) ?_
   omega
theorem zxf (S:FS):recJ (openJ S)=recS S:=by unfold recJ recS lastJ openJ;rfl
end
section
open Go.RowKit
set_option maxRecDepth 20000
set_option maxHeartbeats 2000000
def PlP (L:List Ent) (v:SV):Prop:= ∃ (k:Nat) (E:Ent),L[k]? =some E∧E.st=true∧valC E v.data=0∧v.ix=E.ix∧v.sub=E.sub
def GoodX (L:List Ent) (X:List SV):Prop:=SortV X∧ ∀ v ∈ X,PlP L v
theorem zxg (L:List Ent):GoodX L []:= ⟨List.Pairwise.nil,fun v h=>by cases h⟩
theorem zxh {X:List SV} (h:SortV X):OnceV X:=by
 refine List.Pairwise.imp ?_ h
 intro u v huv hp
 rw[zue] at huv
 obtain⟨h1,h2⟩:= hp
 omega
theorem zxi {L:List Ent} (hs:SortedE L):∀ (V:List (List UInt8)) (g:Int),SortV (ofV L V g):= by
 induction L with
 | nil=>intro V g;cases V<;>exact List.Pairwise.nil
 | cons E L ih=>
   intro V g
   cases V with
   | nil=>exact List.Pairwise.nil
   | cons v V=>
     obtain⟨h1,h2⟩:= List.pairwise_cons.1 hs
     rw[ofV]
     split
     · refine List.pairwise_cons.2 ⟨fun u hu=>?_,ih h2 V g⟩
       obtain⟨k,D,x,hD,_,_,rfl⟩:= zwc hu
       have h3:=h1 D (List.mem_of_getElem? hD)
       have h4:beforeB E.ix E.sub D.ix D.sub=true:=h3
       rw[zoz] at h4
       rw[zue]
       exact h4
     · exact ih h2 V g
theorem zxj {L:List Ent} (hs:SortedE L) {V:List (List UInt8)} (hv:ValsP L V) (g:Int):GoodX L (ofV L V g):=
 ⟨zxi hs V g,fun v h=>by
   obtain⟨k,E,u,h1,h2,h3,h4,rfl⟩:= of_P hv g v h
   exact⟨k,E,h1,h3,h4,rfl,rfl⟩⟩
theorem zxk {L:List Ent} {X:List SV} (h:GoodX L X) (g:Int):GoodX L (dropL X g):=
 ⟨h.1.filter _,fun v hv=>h.2 v (List.mem_filter.1 hv).1⟩
theorem zxl {L:List Ent} {X Y:List SV} (h:GoodX L X) (k:GoodX L Y):GoodX L (joinV X Y):= by
 obtain⟨h1,h2⟩:= zul (zxh h.1) (zxh k.1)
 exact⟨h1,fun v hv=>((h2 v).1 hv).elim (fun hv=>k.2 v hv) (fun hv=>h.2 v hv.1)⟩
theorem zxm {E:Ent} (h:rightE E=0):thereB E.ix E.sub=true:=by
 unfold rightE at h
 split at h
 · cases h
 · rename_i hp
   have hp':placeB E.ix E.sub=true:=by simpa using hp
   unfold placeB at hp'
   unfold thereB
   simpa [and_assoc] using hp'
theorem zxn {L:List Ent} (hr:∀ E ∈ L,rightE E=0) {X:List SV} (h:GoodX L X):∀ j,j < X.length→chkV X j=0:=by
 intro j hj
 have hv:X[j]? =some (X[j]):= List.getElem?_eq_getElem hj
 have ht:thereB (X[j]).ix (X[j]).sub=true:=by
  obtain⟨k,E,h1,_,_,h5,h6⟩:= h.2 (X[j]) (List.getElem_mem hj)
  rw[h5,h6]
  exact zxm (hr E (List.mem_of_getElem? h1))
 unfold chkV
 rw[List.getD_eq_getElem?_getD,hv]
 simp only[Option.getD_some]
 rw[if_neg (by rw[ht];simp)]
 rw[if_neg]
 rintro⟨h0,ha⟩
 have hu:X[j - 1]? =some (X[j - 1]'(by omega)):= List.getElem?_eq_getElem (by omega)
 rw[List.getD_eq_getElem?_getD,hu] at ha
 simp only[Option.getD_some] at ha
 have:=List.pairwise_iff_getElem.1 h.1 (j - 1) j (by omega) hj (by omega)
 unfold ahV at this
 rw[this] at ha
 cases ha
theorem zxo {L:List Ent} (hr:∀ E ∈ L,rightE E=0) {X:List SV} (h:GoodX L X) {b:List UInt8} {er:Int} (hb:BuildR X b er):(er=0∨er=3)∧ b.length≤960:=by
 rcases hb with ⟨h1,_,k,hk,h2,_⟩ | ⟨_,⟨_,rfl,rfl⟩ | ⟨h1,rfl,rfl⟩⟩
 · exact absurd ((zxn hr h k hk).symm.trans h2).symm h1
 · exact⟨.inr rfl,by simp⟩
 · exact⟨.inl rfl,h1⟩
def KeptP (L:List Ent) (l:List SV) (S:FS) (k:Nat) (R:JS×FS×Int):Prop:=
 (R.2.2=3∧R.1=openJ S∧R.2.1=S∧ ∃ b,BuildR l b 3)∨
 (Fresh R.2.1 (k+1)∧ R.2.1.most=S.most∧R.2.1.ops≤S.ops+1000∧(S.ahead < 0→R.2.2=0∧R.2.1.ahead=S.ahead)∧
   ((R.2.2=0∧R.1=openJ R.2.1∧R.2.1.off=false∧recX L (openJ R.2.1)=(l,false))∨ (R.2.2=7∧R.2.1.off=true∧(recX L (openJ R.2.1)=(l,false)∨ recX L (openJ R.2.1)=recX L (openJ S)))))
theorem zxp (t:Int):tySize t≤8:=by unfold tySize;(repeat' split)<;> omega
theorem zxq {E:Ent} {b:List UInt8} (h:valC E b=0):b.length≤256:=by
 unfold valC at h
 by_cases hb:0 < tyBits E.ty
 · rw[zsq hb] at h
   unfold NumV at h
   have h8:=zxp E.ty
   by_cases h1:(b.length:Int) < tySize E.ty
   · omega
   · by_cases h2:tySize E.ty < (b.length:Int)
     · exfalso
       have hd:decE E.ty b=3:=by unfold decE;rw[if_neg (by omega),if_neg h1,if_pos h2]
       rw[hd] at h
       simp at h
     · omega
 · rw[zsr hb] at h
   by_cases hc:checkE E.ty E.mx b=0
   · unfold checkE at hc
     split at hc
     · omega
     · split at hc
       · omega
       · omega
   · rw[if_neg hc] at h
     exfalso
     revert h
     (repeat' split)<;> omega
theorem zxr {L:List Ent} {V:List (List UInt8)} (h:ValsP L V) (hl:V.length=L.length):∀ v ∈ V,v.length≤256:=by
 intro v hv
 obtain⟨j,hj,rfl⟩:= List.getElem_of_mem hv
 exact zxq (h j _ _ (List.getElem?_eq_getElem (by omega)) (List.getElem?_eq_getElem hj))
end
section
open Go.RowKit
set_option maxRecDepth 20000
set_option maxHeartbeats 2000000
theorem zxs {L:List Ent} (hs:SortedE L) {X:List SV} (h:SortV X) (hp:∀ v ∈ X,∃ (k:Nat) (E:Ent),L[k]? =some E∧v.ix=E.ix∧v.sub=E.sub):X.length≤L.length:=by
 induction X generalizing L with
 | nil=>exact Nat.zero_le _
 | cons v X ih=>
   obtain⟨k,E,hE,e1,e2⟩:= hp v (by simp)
   obtain⟨h1,h2⟩:= List.pairwise_cons.1 h
   have hkl:=(List.getElem?_eq_some_iff.1 hE).1
   have:=ih (L:=L.drop (k+1)) (hs.drop) h2 (by
    intro u hu
    obtain⟨j,D,hD,f1,f2⟩:= hp u (by simp[hu])
    have hjl:=(List.getElem?_eq_some_iff.1 hD).1
    have hah:=h1 u hu
    rw[zue] at hah
    have hjk:k < j:=by
     rcases Nat.lt_trichotomy j k with hlt | rfl | hgt
     · have:=List.pairwise_iff_getElem.1 hs j k hjl hkl hlt
       have hb:beforeB D.ix D.sub E.ix E.sub=true:=by
        rw[List.getElem?_eq_getElem hjl] at hD
        rw[List.getElem?_eq_getElem hkl] at hE
        injection hD with hD
        injection hE with hE
        rw[← hD,← hE]
        exact this
       rw[zoz] at hb
       omega
     · rw[hE] at hD
       injection hD with hD
       subst hD
       omega
     · exact hgt
    refine⟨j - (k+1),D,?_,f1,f2⟩
    rw[List.getElem?_drop,← hD]
    congr 1
    omega)
   rw[List.length_drop] at this
   simp only[List.length_cons]
   omega
theorem zxt {L:List Ent} (hs:SortedE L) {X:List SV} (h:GoodX L X) (hl:L.length≤200):lightB X=true:=by
 have h1:=zxs hs h.1 (fun v hv=>by
  obtain⟨k,E,h1,_,_,h5,h6⟩:= h.2 v hv
  exact⟨k,E,h1,h5,h6⟩)
 refine decide_eq_true ⟨by omega,fun v hv=>?_⟩
 obtain⟨k,E,h1,h2,h3,_⟩:= h.2 v hv
 have:=zxq h3
 omega
theorem zxu {L:List Ent} (hr:∀ E ∈ L,rightE E=0) {X:List SV} (h:GoodX L X):∀ v ∈ X,I64 v.ix:=by
 intro v hv
 obtain⟨k,E,h1,_,_,h5,_⟩:= h.2 v hv
 have:=zxm (hr E (List.mem_of_getElem? h1))
 unfold thereB at this
 simp at this
 rw[h5]
 exact⟨by omega,by omega⟩
theorem zxv {L:List Ent} (hr:∀ E ∈ L,rightE E=0):∀ E ∈ L,I64 E.ix:=by
 intro E hE
 have:=zxm (hr E hE)
 unfold thereB at this
 simp at this
 exact⟨by omega,by omega⟩
theorem zxw {L:List Ent} {X:List SV} (h:GoodX L X):fitsV X:=by
 intro v hv
 obtain⟨k,E,h1,h2,h3,_⟩:= h.2 v hv
 have:=zxq h3
 omega
theorem zxx (X:List SV):dropL X 0=X:=by
 unfold dropL
 rw[List.filter_eq_self]
 intro v _
 simp[inB]
structure CrS (L:List Ent) (S:FS) (X:List SV) (k:Nat):Prop where
 fresh:Fresh S k
 off:S.off=false
 most:S.most=50
 ops:S.ops≤1000 * k
 rcx:recX L (openJ S)=(X,false)
 good:GoodX L X
end
section
open Go.RowKit
set_option maxRecDepth 20000
set_option maxHeartbeats 2000000
theorem zxy {k:Int} {n m:Nat} (h:rightR k n m=0):k=1∨k=2:=by
 unfold rightR at h
 split at h
 · cases h
 · split at h
   · rename_i h2;exact .inr h2.1
   · split at h
     · cases h
     · rename_i h3
       exact .inl (by omega)
theorem zxz (l:List UInt8) (f:Nat):∀ x:LK,(x.cnt=0∨x.k=1∨x.k=2)→ ((lookF l f x).cnt=0∨(lookF l f x).k=1∨(lookF l f x).k=2):= by
 induction f with
 | zero=>intro x h;exact h
 | succ f ih=>
   intro x h
   cases hs:stopB x (recParse l x.en)
   · rw[zfi hs]
     refine ih _ (.inr ?_)
     have h0:(recParse l x.en).er=0:=by
      unfold stopB at hs
      simp only[Bool.or_eq_false_iff,decide_eq_false_iff_not,Decidable.not_not] at hs
      exact hs.1
     obtain⟨_,hr,_⟩:= zfg l x.en _ rfl h0
     exact zxy hr
   · rw[zfh hs];exact h
theorem zx0 (l:List UInt8):(lookL l).cnt=0∨(lookL l).k=1∨(lookL l).k=2:=zxz l l.length lookZ (.inl rfl)
theorem zx1 {S:FS} (h:(newL (looksF S)).2=true):(recS S).1=1∨(recS S).1=2:=by
 unfold recS
 rw[if_pos h]
 rcases zgq (looksF S) with ⟨a,ha⟩ | ha
 · obtain⟨h1,h2,_⟩:= zgo.1 ha
   rw[ha]
   rw[zgx] at h1
   simp only[]
   rw[zgz S h1] at h2 ⊢
   rcases zx0 (secB S.b a) with h | h
   · omega
   · exact h
 · rw[ha] at h;cases h
theorem zx2 {X:List SV} (h:∀ j,j < X.length→chkV X j=0):SortV X:=by
 have step:∀ j (hj:j+1 < X.length),ahV (X[j]'(by omega)) (X[j+1])=true:=by
  intro j hj
  have:=h (j+1) hj
  unfold chkV at this
  rw[List.getD_eq_getElem?_getD,List.getElem?_eq_getElem hj,show j+1 - 1=j from rfl,List.getD_eq_getElem?_getD,List.getElem?_eq_getElem (show j < X.length by omega)] at this
  simp only[Option.getD_some] at this
  split at this
  · cases this
  · split at this
    · cases this
    · rename_i h2
      unfold ahV
      cases ha:aheadB (X[j]'(by omega)).ix (X[j]'(by omega)).sub (X[j+1]).ix (X[j+1]).sub
      · exact absurd ⟨by omega,ha⟩ h2
      · rfl
 have far:∀ d i (hd:i+d+1 < X.length),ahV (X[i]'(by omega)) (X[i+d+1])=true:=by
  intro d
  induction d with
  | zero=>intro i hd;exact step i hd
  | succ d ih=>
    intro i hd
    have h1:=ih i (by omega)
    have h2:=step (i+d+1) (by omega)
    rw[zue] at h1 h2 ⊢
    simp only[show i+(d+1)+1=i+d+1+1 by omega] at *
    omega
 refine List.pairwise_iff_getElem.2 (fun i j hi hj hij=>?_)
 have:=far (j - i - 1) i (by omega)
 simp only[show i+(j - i - 1)+1=j by omega] at this
 exact this
theorem zx3 {L:List Ent} (hs:SortedE L) {X:List SV} (h:checkL L X=0):∀ v ∈ X,PlP L v:=by
 induction X with
 | nil=>intro v hv;cases hv
 | cons u X ih=>
   rw[checkL] at h
   by_cases hc:chkS L u=0
   · rw[if_neg (by simpa using hc)] at h
     intro v hv
     rcases List.mem_cons.1 hv with rfl | hv
     · unfold chkS at hc
       split at hc
       · cases hc
       · rename_i h1
         split at hc
         · cases hc
         · rename_i h2
           have hh:hasL L v.ix v.sub=true:=by
            cases hq:hasL L v.ix v.sub
            · exact absurd (.inl hq) h1
            · rfl
           have h0:codeL L v.ix v.sub=0:=zpi.2 (by unfold hasL at hh;exact of_decide_eq_true hh)
           obtain⟨E,hE,e1,e2⟩:= zp0 hs h0
           have he:=zpl hE
           rw[he] at h1 h2
           refine⟨_,E,hE,?_,by simpa using h2,e1.symm,e2.symm⟩
           cases hq:E.st
           · exact absurd (.inr hq) h1
           · rfl
     · exact ih h v hv
   · rw[if_pos (by simpa using hc)] at h
     exact absurd h hc
theorem zx4 {L:List Ent} (hs:SortedE L) (J:JS):GoodX L (recX L J).1:=by
 unfold recX
 split
 · split
   · exact zxg L
   · rename_i h
     have h1:(parseS (recJ J).2.2).2=0:=Decidable.byContradiction (fun h2=>h (.inl h2))
     have h2:checkL L (parseS (recJ J).2.2).1=0:=Decidable.byContradiction (fun h3=>h (.inr h3))
     obtain⟨hb,_⟩:= zwy (L:=(parseS (recJ J).2.2).1) (l:=(recJ J).2.2) (by rw[← h1])
     refine⟨zx2 ?_,zx3 hs h2⟩
     rcases hb with ⟨h3,_⟩ | ⟨h3,_⟩
     · exact absurd rfl h3
     · exact h3
 · exact zxg L
theorem zx5 {S:FS} {kd:Int} {d:List UInt8} (hd:d.length≤960) (hkd:kd=1∨(kd=2∧d= [])):(appJ (openJ S) S kd d).2.2=0∨(appJ (openJ S) S kd d).2.2=6∨(appJ (openJ S) S kd d).2.2=7∨(appJ (openJ S) S kd d).2.2=10:=by
 have hlay:∀ (J:JS) (S1:FS) (i:Nat) (x:LK) (num:Nat),(layJ J S1 i x kd num d).2.2=0∨(layJ J S1 i x kd num d).2.2=7:=by
  intro J S1 i x num
  unfold layJ
  have:=zla S1 (1024 * i+x.en) (recB kd num d)
  obtain⟨⟨S',e⟩,h⟩:∃ r,r=progF S1 (1024 * i+x.en) (recB kd num d):= ⟨_,rfl⟩
  rw[← h] at this ⊢
  dsimp only at this ⊢
  split
  · exact .inl rfl
  · rename_i h0
    exact this.elim (fun h=>absurd h h0) .inr
 have hr:rightR kd (numJ (openJ S)+1) d.length=0:=by
  unfold rightR
  rcases hkd with rfl | ⟨rfl,rfl⟩
  · rw[if_neg (by omega),if_neg (by omega),if_neg (by decide),if_neg (by omega)]
  · rw[if_neg (by omega),if_pos ⟨rfl,rfl⟩]
 unfold appJ
 split
 · exact .inr (.inr (.inl rfl))
 · split
   · exact .inr (.inl rfl)
   · rw[if_neg (by rw[hr];decide)]
     obtain⟨⟨i,er,ok⟩,h⟩:∃ r,r=placeJ (openJ S) S d.length:=⟨_,rfl⟩
     rw[← h]
     dsimp only
     split
     · exact .inr (.inr (.inr rfl))
     · split
       · obtain⟨⟨S1,e1⟩,h1⟩:∃ r,r=eraseF S i:=⟨_,rfl⟩
         rw[← h1]
         dsimp only
         split
         · rcases hlay ⟨(openJ S).looks.set i ⟨0,0,[],0,0,true⟩,(openJ S).now,(openJ S).has,(openJ S).dead⟩ S1 i ⟨0,0,[],0,0,true⟩ (numJ (openJ S)+1) with h | h
           · exact .inl h
           · exact .inr (.inr (.inl h))
         · rename_i h0
           have:e1=0∨e1=7:=by
            unfold eraseF at h1
            split at h1
            · injection h1 with _ h1;exact .inr h1
            · injection h1 with _ h1;exact .inl h1
           exact this.elim (fun h=>absurd h h0) (fun h=> .inr (.inr (.inl h)))
       · rcases hlay (openJ S) S i ((openJ S).looks.getD i lookZ) (numJ (openJ S)+1) with h | h
         · exact .inl h
         · exact .inr (.inr (.inl h))
end
end Go.Proofs.YtehabbnohoomjaaGreatDoor
