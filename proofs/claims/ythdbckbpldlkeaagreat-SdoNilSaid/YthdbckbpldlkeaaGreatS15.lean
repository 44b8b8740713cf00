/- None -/
import Derived.Test.YthdbckbpldlkeaaGreatS14
import Derived.Deep.MidRow
import Derived.Laws.Closers25b
namespace Go.Proofs.YthdbckbpldlkeaaGreat
set_option linter.unusedVariables false
set_option linter.unusedSimpArgs false
set_option linter.unnecessarySimpa false
section
section
open Go.RowKit
set_option maxRecDepth 100000
set_option maxHeartbeats 2000000
theorem zgq (A:Option Addr) (n c:Nat) (l:List UInt8) (w:World) (hn:n=l.length) (hl:n≤35184372088832) (hs:Sl w A (l.map bv)) :
 Calls Tryz.prog 51 #[.slice A n c] w fun e w'=> ∃ A' c',e= .returned (.slice A' n c')∧ zdq w' w.heap.size A' n c' l∧Below w.heap.size w w':=by
 have H1:=zak hn
 clear hn
 go_enter Tryz.func51,Tryz.ntmps51
 go_wp2_with (at_builtin;refine zdr _ rfl _ (.tmp 3) rfl w.heap.size _ _ _ _ rfl (zdq.nil _ _) _ _ _ l rfl H1.out hs (by omega) (Nat.le_refl _) n (by omega) ?_;intro A3 c3 w3 hown3 _ _ hb3)
 go_ret
 exact⟨_,_,rfl,by simpa using hown3,hb3⟩
def PtrV (p:Nat):Value:= .pointer (some ⟨p,0,none⟩)
section
variable {F:Nat→Prop} {p n cl cv:Nat} {Av:Option Addr} {L:List Ent} {V:List (List UInt8)} {ds es:List (Option Addr×Nat)} {gl:Nat}
theorem zgr (w:World) (hB:Blk w p 107 #[.slice (some ⟨gl,0,none⟩) n cl,.slice Av n cv]) :
 Calls Tryz.prog 128 #[.pointer (some ⟨p,0,none⟩)] w fun e w'=>e= .returned (.bool true)∧ w=w':=by
 obtain⟨hB_c0,hB_c1⟩:= zc3 hB
 have hB_f:=hB.frozen
 go_enter Tryz.func128,Tryz.ntmps128
 go_wp2_with fail
 go_ret
 exact⟨rfl,rfl⟩
theorem zgs (w:World) (hB:Blk w p 107 #[.slice (some ⟨gl,0,none⟩) n cl,.slice Av n cv]) :
 Calls Tryz.prog 66 #[.pointer (some ⟨p,0,none⟩)] w fun e w'=>e= .returned (.int .i64 n)∧ w=w':=by
 have HT:=zak (zgr w hB)
 obtain⟨hB_c0,hB_c1⟩:= zc3 hB
 have hB_f:=hB.frozen
 go_enter Tryz.func66,Tryz.ntmps66
 go_wp2_with fail
 refine HT.out.mono ?_
 rintro e w1 ⟨rfl,rfl⟩
 go_wp2_with fail
 go_ret
 exact⟨rfl,rfl⟩
theorem zgt (k:Nat) (ix sub:Int) (w:World) (hD:DB 107 w F p (some ⟨gl,0,none⟩) n cl Av cv L V ds es) :
 Calls Tryz.prog 155 #[.pointer (some ⟨p,0,none⟩),.int .i64 k,.int .i64 ix,.int .i64 sub] w fun e w'=>e= .returned (.bool (hereB L[k]? ix sub))∧ w=w':=by
 have HL:=zak (zgs w hD.blk)
 have hB:=hD.blk
 have hn:=hD.ents.hn
 by_cases hk:k < n
 · obtain⟨E,hE⟩:∃ E,L[k]? =some E:=⟨L[k]'(by omega),List.getElem?_eq_getElem _⟩
   obtain⟨g,d,hA,hlt,hd,hO,hfit,c0,c1,c2,c3,c4,c5,c6,c7,c8,c9,c10⟩:= hD.ent hE
   injection hA with hA
   injection hA with hA
   subst hA
   rw[hE]
   clear c2 c3 c4 c5 c6 c7 c8 c9 c10
   clear hn hE hd hO hfit hD hlt
   obtain⟨hB_c0,hB_c1⟩:= zc3 hB
   have hB_f:=hB.frozen
   go_enter Tryz.func155,Tryz.ntmps155
   go_wp2_with fail
   refine HL.out.mono ?_
   rintro e w1 ⟨rfl,rfl⟩
   go_wp2_with fail
   all_goals (go_ret;refine⟨zau ?_,rfl⟩;go_light;simp_all [hereB];try (rw[Bool.eq_iff_iff];simp))
 · have hE:L[k]? =none:=List.getElem?_eq_none (by omega)
   rw[hE]
   clear hn hE hD
   obtain⟨hB_c0,hB_c1⟩:= zc3 hB
   have hB_f:=hB.frozen
   go_enter Tryz.func155,Tryz.ntmps155
   go_wp2_with fail
   refine HL.out.mono ?_
   rintro e w1 ⟨rfl,rfl⟩
   go_wp2_with fail
   go_ret
   exact⟨rfl,rfl⟩
theorem zgu (k:Int) (ix sub:Int) (w:World) (hD:DB 107 w F p (some ⟨gl,0,none⟩) n cl Av cv L V ds es) :
 Calls Tryz.prog 156 #[.pointer (some ⟨p,0,none⟩),.int .i64 k,.int .i64 ix,.int .i64 sub] w fun e w'=>e= .returned (.bool (nearZ L k ix))∧ w=w':=by
 have HL:=zak (zgs w hD.blk)
 have hB:=hD.blk
 have hn:=hD.ents.hn
 by_cases hk0:0≤k
 · obtain⟨k,rfl⟩:= Int.eq_ofNat_of_zero_le hk0
   have hR:nearZ L (k:Nat) ix=nearB L[k]? ix:=by simp[nearZ]
   rw[hR]
   clear hk0 hR
   by_cases hk:k < n
   · obtain⟨E,hE⟩:∃ E,L[k]? =some E:=⟨L[k]'(by omega),List.getElem?_eq_getElem _⟩
     obtain⟨g,d,hA,hlt,hd,hO,hfit,c0,c1,c2,c3,c4,c5,c6,c7,c8,c9,c10⟩:= hD.ent hE
     injection hA with hA
     injection hA with hA
     subst hA
     rw[hE]
     clear c1 c2 c3 c4 c5 c6 c7 c8 c9 c10
     clear hn hE hd hO hfit hD hlt
     obtain⟨hB_c0,hB_c1⟩:= zc3 hB
     have hB_f:=hB.frozen
     go_enter Tryz.func156,Tryz.ntmps156
     go_wp2_with fail
     refine HL.out.mono ?_
     rintro e w1 ⟨rfl,rfl⟩
     go_wp2_with fail
     go_ret
     refine⟨zau ?_,rfl⟩
     go_light
     simp_all [nearB]
     try rfl
   · have hE:L[k]? =none:=List.getElem?_eq_none (by omega)
     rw[hE]
     clear hn hE hD
     obtain⟨hB_c0,hB_c1⟩:= zc3 hB
     have hB_f:=hB.frozen
     go_enter Tryz.func156,Tryz.ntmps156
     go_wp2_with fail
     refine HL.out.mono ?_
     rintro e w1 ⟨rfl,rfl⟩
     go_wp2_with fail
     go_ret
     exact⟨rfl,rfl⟩
 · have hR:nearZ L k ix=false:=by simp[nearZ];intro h;omega
   rw[hR]
   have hk':k < 0:=by omega
   clear hn hD hk0 hR
   obtain⟨hB_c0,hB_c1⟩:= zc3 hB
   have hB_f:=hB.frozen
   go_enter Tryz.func156,Tryz.ntmps156
   go_wp2_with fail
   go_ret
   exact⟨rfl,rfl⟩
end
end
section
open Go.RowKit
set_option maxRecDepth 100000
set_option maxHeartbeats 2000000
def plE (ix sub:Int):Ent:=⟨ix,sub,⟨#[]⟩,0,0,false,false,0,0,0,[]⟩
section
variable {F:Nat→Prop} {p n cl cv:Nat} {Av:Option Addr} {L:List Ent} {V:List (List UInt8)} {ds es:List (Option Addr×Nat)} {gl:Nat}
theorem zgv (ix sub:Int) (w:World) (hD:DB 107 w F p (some ⟨gl,0,none⟩) n cl Av cv L V ds es) (hs:SortedE L) (hn:n≤1000) :
 Calls Tryz.prog 154 #[.pointer (some ⟨p,0,none⟩),.int .i64 ix,.int .i64 sub] w fun e w'=>e= .returned (.int .i64 (seekL L ix sub))∧ Below w.heap.size w w':=by
 have HS:=zak hs
 have HN:=zak hD.ents.hn
 obtain⟨s,hse⟩:∃ s,s=seekL L ix sub:=⟨_,rfl⟩
 have hsl:s≤n:=by rw[hse,HN.out];exact zbj L ix sub
 rw[← hse]
 have HSE:=zak hse
 clear hse hs
 have hB1:=hD.blk.alloc (.cells (entV (plE ix sub) none 0 0) 97)
 have hbw:=zc1 (Below.refl w.heap.size w) (.cells (entV (plE ix sub) none 0 0) 97)
 have q:=zdb w 97 (entV (plE ix sub) none 0 0)
 go_enter Tryz.func154,Tryz.ntmps154
 go_wp2_with fail
 refine (zgs _ hB1).mono ?_
 rintro e w1 ⟨rfl,rfl⟩
 go_wp2_with fail
 go_loopw [8,9] (fun lo hi wr=> ∃ a b,lo= .int .i64 (a:Nat)∧ hi= .int .i64 (b:Nat)∧ a≤s∧s≤b∧b≤n∧Below (w.heap.size+1) (w.alloc (.cells (entV (plE ix sub) none 0 0) 97)) wr) (fun lo hi _=>(intOf hi).toNat - (intOf lo).toNat)
 case atStart=>exact⟨0,n,rfl,rfl,by omega,hsl,Nat.le_refl _,Below.refl _ _⟩
 case round=>
  obtain⟨a,b,rfl,rfl,ha,hb,hbn,hbr⟩:= hrel
  by_cases hlt:a < b
  · obtain⟨m,hm⟩:∃ m,m=(a+b) / 2:=⟨_,rfl⟩
    have h2:((a:Int)+(b:Int)) / 2=(m:Int):= by omega
    have hm1:m < n:=by omega
    have hm2:a≤m∧m < b:=by omega
    obtain⟨hm3,hm4⟩:= hm2
    have HM:=zak hm
    clear hm
    have hbw1:=hbw.trans (hbr.mono (Nat.le_succ _))
    have hDr:=hD.below hbw1
    obtain⟨E,hE⟩:∃ E,L[m]? =some E:=⟨L[m]'(by rw[← HN.out];exact hm1),List.getElem?_eq_getElem _⟩
    have HBE:=zak (zbm L ix sub HS.out m E hE)
    obtain⟨g,d,hA,zg,_,_,_,c0,c1,c2,c3,c4,c5,c6,c7,c8,c9,c10⟩:= hDr.ent hE
    injection hA with hA
    injection hA with hA
    subst hA
    have hBr:=hDr.blk
    have zp:=hBr.lt
    have q1:=q.below hbr (Nat.lt_succ_self _)
    have zq:=q1.lt
    have hidx:=zdg hm1
    obtain⟨i1,i2,i3⟩:= hidx
    unfold entV plE at q1
    simp only[] at q1
    obtain⟨q1_c0,q1_c1,q1_c2,q1_c3,q1_c4,q1_c5,q1_c6,q1_c7,q1_c8,q1_c9,q1_c10⟩:= zc7 q1
    have q1_f:=q1.frozen
    obtain⟨hBr_c0,hBr_c1⟩:= zc3 hBr
    have hBr_f:=hBr.frozen
    clear hE hDr
    go_wp2_with fail
    refine wp_region_held_drew (S:=(fun w'=>(∀ qA:Addr,qA.block < (wr).heap.size→w'.cell? qA=(wr).cell? qA)∧ Below (wr).heap.size (wr) w')) (by kernel_rfl) ?hS1 (fun hHeld=>?rest1)
    case hS1=>((try dsimp only);(((try go_split_ands);refine zcz ?_;all_goals exact bl)))
    case' rest1=>skip
    iterate 8 (refine tkN ?_;try simp only[PqL,Act.put])
    refine wpAnyH_ready (rs:= [8]) (by kernel_rfl) (by simp) ?_
    refine AllReadyH.cons (o:=_) rfl (fun K hK=>?_) .nil
    go_simp
    refine (zgp E (plE ix sub) d.1 none E.df.length d.2 0 0 _).mono ?_
    rintro e w2 ⟨rfl,hb2⟩
    dsimp only
    refine hK.out _ _ ?hS12 (fun hHeld=>?rest12)
    case hS12=>((try dsimp only);(((try go_split_ands);refine zcz ?_;all_goals exact bl)))
    case' rest12=>(clear hK K;try simp only[PqL,Act.put])
    refine wpAnyH_done (by kernel_rfl) ?_ _
    have hEnd:=hHeld.2
    repeat (clear hHeld)
    have hb3:=hbr.trans (hEnd.mono (by have:=hbr.size;simpa using this))
    cases hbe:befE E ix sub
    · have hsm:s≤m:=by
       have:=HBE.out
       rw[hbe,← HSE.out] at this
       simpa using this.symm
      have HB:=zak hbe
      have hbe':beforeB E.ix E.sub (plE ix sub).ix (plE ix sub).sub=false:=hbe
      rw[hbe']
      clear hbe hbe' HBE
      go_wp2_with fail
      go_roundw
      case rel=>exact⟨a,m,rfl,rfl,ha,hsm,by omega,hb3⟩
      case measure=>simp[intOf];omega
    · have hsm:m < s:=by
       have:=HBE.out
       rw[hbe,← HSE.out] at this
       simpa using this.symm
      have HB:=zak hbe
      have hbe':beforeB E.ix E.sub (plE ix sub).ix (plE ix sub).sub=true:=hbe
      rw[hbe']
      clear hbe hbe' HBE
      go_wp2_with fail
      go_roundw
      case rel=>exact⟨m+1,b,by go_num,rfl,by omega,hb,hbn,hb3⟩
      case measure=>simp[intOf];omega
  · go_wp2_with fail
    go_ret
    refine⟨zat (by omega),hbw.trans (hbr.mono (by omega))⟩
end
end
section
open Go.RowKit
set_option maxRecDepth 100000
set_option maxHeartbeats 2000000
section
variable {F:Nat→Prop} {p n cl cv:Nat} {Av:Option Addr} {L:List Ent} {V:List (List UInt8)} {ds es:List (Option Addr×Nat)} {gl:Nat}
theorem zgw (ix sub:Int) (w:World) (hD:DB 107 w F p (some ⟨gl,0,none⟩) n cl Av cv L V ds es) (hs:SortedE L) (hn:n≤1000) :
 Calls Tryz.prog 208 #[.pointer (some ⟨p,0,none⟩),.int .i64 ix,.int .i64 sub] w fun e w'=>e= .returned (.tuple #[.int .i64 (locK L ix sub),.bool (hasL L ix sub)])∧ Below w.heap.size w w':=by
 have HC:=zak (zbv L ix sub hs)
 have HS:=zak hs
 have HD:=zak hD
 clear hs hD
 go_enter Tryz.func208,Tryz.ntmps208
 go_wp2_with fail
 refine (zgv ix sub _ HD.out HS.out hn).mono ?_
 rintro e w1 ⟨rfl,hb1⟩
 go_wp2_with fail
 refine (zgt _ ix sub _ (HD.out.below hb1)).mono ?_
 rintro e w2 ⟨rfl,rfl⟩
 cases h:hereB L[seekL L ix sub]? ix sub
 · have HF:Hid (locK L ix sub=0∧hasL L ix sub=false):= zak (by
    have:=HC.out
    rw[h] at this
    unfold locK hasL
    rcases this with ⟨h1,_⟩ | ⟨_,_,h1⟩ | ⟨_,_,_,h1⟩ | ⟨_,_,_,h1⟩
    · cases h1
    all_goals (rw[h1];exact⟨rfl,rfl⟩))
   clear h
   go_wp2_with fail
   go_ret2
   refine⟨?_,hb1⟩
   rw[HF.out.1,HF.out.2]
   rfl
 · have HF:Hid (locK L ix sub=seekL L ix sub∧hasL L ix sub=true):= zak (by
    have:=HC.out
    rw[h] at this
    unfold locK hasL
    rcases this with ⟨_,h1,_⟩ | ⟨h1,_⟩ | ⟨h1,_⟩ | ⟨h1,_⟩
    · rw[h1];exact⟨rfl,by simp⟩
    all_goals cases h1)
   clear h
   go_wp2_with fail
   go_ret2
   refine⟨?_,hb1⟩
   rw[HF.out.1,HF.out.2]
   rfl
theorem zgx (ix sub:Int) (w:World) (hD:DB 107 w F p (some ⟨gl,0,none⟩) n cl Av cv L V ds es) (hs:SortedE L) (hn:n≤1000) :
 Calls Tryz.prog 94 #[.pointer (some ⟨p,0,none⟩),.int .i64 ix,.int .i64 sub] w fun e w'=>e= .returned (.tuple #[.int .i64 (locK L ix sub),.int .u32 (codeL L ix sub)])∧ Below w.heap.size w w':=by
 have HC:=zbv L ix sub hs
 have HS:=zak hs
 have HD:=zak hD
 have HL:seekL L ix sub≤n:=by rw[hD.ents.hn];exact zbj L ix sub
 clear hs hD
 go_enter Tryz.func94,Tryz.ntmps94
 go_wp2_with fail
 refine (zgr _ HD.out.blk).mono ?_
 rintro e w1 ⟨rfl,rfl⟩
 go_wp2_with fail
 refine (zgv ix sub _ HD.out HS.out hn).mono ?_
 rintro e w1 ⟨rfl,hb1⟩
 have HD1:=zak (HD.out.below hb1)
 rcases HC with ⟨h1,h2,h3⟩ | ⟨h1,h2,h3⟩ | ⟨h1,h2,h3,h4⟩ | ⟨h1,h2,h3,h4⟩
 · have HF:Hid (locK L ix sub=seekL L ix sub∧codeL L ix sub=0):= zak (by unfold locK codeL;rw[h2];exact⟨rfl,if_pos (by omega)⟩)
   have H1:=zak h1
   clear h1 h2 h3
   go_wp2_with fail
   refine (zgt _ ix sub _ HD1.out).mono ?_
   rintro e w2 ⟨rfl,rfl⟩
   rw[H1.out]
   go_wp2_with fail
   go_ret2
   refine⟨?_,hb1⟩
   rw[HF.out.1,HF.out.2]
   rfl
 · have HF:Hid (locK L ix sub=0∧codeL L ix sub=101253137):= zak (by unfold locK codeL;rw[h3];exact⟨rfl,rfl⟩)
   have H1:=zak h1
   have H2:=zak h2
   clear h1 h2 h3
   go_wp2_with fail
   refine (zgt _ ix sub _ HD1.out).mono ?_
   rintro e w2 ⟨rfl,rfl⟩
   rw[H1.out]
   go_wp2_with fail
   refine (zgu _ ix sub _ HD1.out).mono ?_
   rintro e w2 ⟨rfl,rfl⟩
   rw[H2.out]
   go_wp2_with fail
   go_ret2
   refine⟨?_,hb1⟩
   rw[HF.out.1,HF.out.2]
   rfl
 · have HF:Hid (locK L ix sub=0∧codeL L ix sub=101253137):= zak (by unfold locK codeL;rw[h4];exact⟨rfl,rfl⟩)
   have H1:=zak h1
   have H2:=zak h2
   have H3:=zak h3
   clear h1 h2 h3 h4
   go_wp2_with fail
   refine (zgt _ ix sub _ HD1.out).mono ?_
   rintro e w2 ⟨rfl,rfl⟩
   rw[H1.out]
   go_wp2_with fail
   refine (zgu _ ix sub _ HD1.out).mono ?_
   rintro e w2 ⟨rfl,rfl⟩
   rw[H2.out]
   go_wp2_with fail
   refine (zgu _ ix sub _ HD1.out).mono ?_
   rintro e w2 ⟨rfl,rfl⟩
   rw[H3.out]
   go_wp2_with fail
   go_ret2
   refine⟨?_,hb1⟩
   rw[HF.out.1,HF.out.2]
   rfl
 · have HF:Hid (locK L ix sub=0∧codeL L ix sub=100794368):= zak (by unfold locK codeL;rw[h4];exact⟨rfl,rfl⟩)
   have H1:=zak h1
   have H2:=zak h2
   have H3:=zak h3
   clear h1 h2 h3 h4
   go_wp2_with fail
   refine (zgt _ ix sub _ HD1.out).mono ?_
   rintro e w2 ⟨rfl,rfl⟩
   rw[H1.out]
   go_wp2_with fail
   refine (zgu _ ix sub _ HD1.out).mono ?_
   rintro e w2 ⟨rfl,rfl⟩
   rw[H2.out]
   go_wp2_with fail
   refine (zgu _ ix sub _ HD1.out).mono ?_
   rintro e w2 ⟨rfl,rfl⟩
   rw[H3.out]
   go_wp2_with fail
   go_ret2
   refine⟨?_,hb1⟩
   rw[HF.out.1,HF.out.2]
   rfl
end
end
end
section
open Go.RowKit
set_option maxRecDepth 100000
set_option maxHeartbeats 1000000
theorem Blk.setAll {w:World} {g:Nat} {t:TypeId} (vs:List Value):∀ (pre:List Value) (cs:Array Value),cs.size=pre.length+vs.length→(∀ i,i < pre.length→cs[i]? =pre[i]?)→ Blk w g t cs→Blk (w.setCells g pre.length vs) g t (pre ++ vs).toArray:=by
 induction vs generalizing w with
 | nil=>
   intro pre cs hs hp hB
   have:cs=(pre ++ []).toArray:=by
    apply Array.ext_getElem?
    intro i
    by_cases hi:i < pre.length
    · rw[hp i hi];simp
    · rw[Array.getElem?_eq_none (by simp at hs;omega)];simp;omega
   rw[← this]
   exact hB
 | cons v vs ih=>
   intro pre cs hs hp hB
   have h:=ih (w:=w.setCell ⟨g,pre.length,none⟩ v) (pre ++ [v]) (cs.setIfInBounds pre.length v) (by simp at hs ⊢;omega) (by
    intro i hi
    rw[Array.getElem?_setIfInBounds]
    simp at hi
    by_cases he:pre.length=i
    · subst he
      rw[if_pos rfl,if_pos (by simp at hs;omega)]
      simp
    · rw[if_neg he,hp i (by omega),List.getElem?_append_left (by omega)]) (hB.set_ _ _)
   simp only[List.length_append,List.length_cons,List.length_nil,Nat.zero_add,List.append_assoc,List.singleton_append] at h
   exact h
theorem Blk.all {w:World} {g:Nat} {t:TypeId} {cs:Array Value} (hB:Blk w g t cs) (vs:List Value) (hs:vs.length=cs.size):Blk (w.setCells g 0 vs) g t vs.toArray:=by
 have:=Blk.setAll vs [] cs (by simpa using hs.symm) (by intro i hi;simp at hi) hB
 simpa using this
end
section
section
open Go.RowKit
set_option maxRecDepth 100000
set_option maxHeartbeats 1000000
theorem zgy (n:Nat) (h:n < 18446744073709551616):wrap64 (n:Int)=sgnN 8 n:=by
 unfold wrap64;simp[sgnN];split<;>omega
theorem zgz (n:Nat) (h:n < 18446744073709551616):wrap64 (IntKind.u64.wrap (n:Int))=sgnN 8 n:=by
 unfold wrap64;rw[IntKind.wrap_u64];simp[sgnN];split<;>omega
theorem zg0 (n:Nat) (w:World) (h:n < 256):Calls Tryz.prog 246 #[.int .u64 n,.int .i64 8] w fun e w'=>e= .returned (.int .i64 (sgnN 1 n))∧ w=w':=by
 have H:=zak h
 clear h
 go_enter Tryz.func246,Tryz.ntmps246
 go_wp2_with fail
 go_ret
 exact⟨zat (by exact za0 n H.out),rfl⟩
theorem zg1 (n:Nat) (w:World) (h:n < 65536):Calls Tryz.prog 246 #[.int .u64 n,.int .i64 16] w fun e w'=>e= .returned (.int .i64 (sgnN 2 n))∧ w=w':=by
 have H:=zak h
 clear h
 go_enter Tryz.func246,Tryz.ntmps246
 go_wp2_with fail
 go_ret
 exact⟨zat (by exact za1 n H.out),rfl⟩
theorem zg3 (n:Nat) (w:World) (h:n < 4294967296):Calls Tryz.prog 246 #[.int .u64 n,.int .i64 32] w fun e w'=>e= .returned (.int .i64 (sgnN 4 n))∧ w=w':=by
 have H:=zak h
 clear h
 go_enter Tryz.func246,Tryz.ntmps246
 go_wp2_with fail
 go_ret
 exact⟨zat (by exact za2 n H.out),rfl⟩
theorem zg4 (n:Nat) (w:World) (h:U64 n):Calls Tryz.prog 246 #[.int .u64 n,.int .i64 64] w fun e w'=>e= .returned (.int .i64 (sgnN 8 n))∧ w=w':=by
 have H:=zak h
 clear h
 go_enter Tryz.func246,Tryz.ntmps246
 go_wp2_with fail
 go_ret
 refine⟨zat (zgz n H.out),rfl⟩
theorem zg6 (wd:Int) (n:Nat) (w:World) (hw:Wd wd) (h:n < 256 ^ wd.toNat):Calls Tryz.prog 246 #[.int .u64 n,.int .i64 (8 * wd)] w fun e w'=>e= .returned (.int .i64 (sgnN wd n))∧ w=w':=by
 rcases hw with rfl | rfl | rfl | rfl
 · exact zg0 n w (by simpa using h)
 · exact zg1 n w (by simpa using h)
 · exact zg3 n w (by simpa using h)
 · exact zg4 n w (by simpa [U64] using h)
theorem zg8 (A:Option Addr) (n c:Nat) (l:List UInt8) (wd:Int) (w:World) (hw:Wd wd) (hn:n=l.length) (hwn:wd=(n:Int)) (hc:n≤c) (hs:Sl w A (l.map bv)) :
 Calls Tryz.prog 235 #[.slice A n c,.int .i64 0,.int .i64 wd] w fun e w'=>e= .returned (.tuple #[.int .i64 (sgnN wd (leN l)),.int .i64 0])∧ w=w':=by
 have h8:1≤wd∧wd≤8:=by rcases hw with rfl | rfl | rfl | rfl<;>omega
 obtain⟨h1,h8⟩:= h8
 have HW:=zak hw
 have hlt:=zan l
 rw[← hn,show n=wd.toNat by omega] at hlt
 have HG:=zak (zec A n c l 0 wd w hn hc (by omega) (by omega) (by omega) h1 h8 hs)
 have HE:=zak (show (l.drop (Int.toNat 0)).take wd.toNat=l by rw[List.take_of_length_le (by simp;omega)];rfl)
 have HL:=zak hlt
 clear hw hlt hn hwn hs
 go_enter Tryz.func235,Tryz.ntmps235
 go_wp2_with fail
 refine HG.out.mono ?_
 rintro e w1 ⟨rfl,rfl⟩
 rw[HE.out]
 go_wp2_with fail
 refine (zg6 wd (leN l) _ HW.out HL.out).mono ?_
 rintro e w1 ⟨rfl,rfl⟩
 go_wp2_with fail
 go_ret2
 exact⟨rfl,rfl⟩
def hfN (wd:Int):Int:=if wd=1 then 128 else if wd=2 then 32768 else 2147483648
end
section
open Go.RowKit
set_option maxRecDepth 100000
set_option maxHeartbeats 2000000
def SameV (v:Value) (w:World) (e:Ending) (w':World):Prop:=e= .returned v∧w=w'
def hiN (k:Nat):Int:=2 ^ k - 1
def RLimR (t:Int) (w:World) (e:Ending) (w':World):Prop:=e= .returned (.tuple #[.int .i64 (tyLow t),.int .i64 (tyHigh t),.bool (tyNum t)])∧ w=w'
def RDecR (t:Int) (l:List UInt8) (w:World) (e:Ending) (w':World):Prop:=e= .returned (.tuple #[.int .i64 (decV t l),.int .i64 (decE t l)])∧ w=w'
end
section
open Go.RowKit
set_option maxRecDepth 100000
set_option maxHeartbeats 2000000
def RValR (E:Ent) (l:List UInt8) (w:World) (e:Ending) (w':World):Prop:=e= .returned (.int .u32 (valueE E.ty E.mx E.lo E.hi l))∧ Below w.heap.size w w'
end
end
end Go.Proofs.YthdbckbpldlkeaaGreat
