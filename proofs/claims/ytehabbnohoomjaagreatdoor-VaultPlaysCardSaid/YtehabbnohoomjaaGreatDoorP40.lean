/- None -/
import Derived.Test.YtehabbnohoomjaaGreatDoorP37
namespace Go.Proofs.YtehabbnohoomjaaGreatDoor
set_option linter.unusedVariables false
set_option linter.unusedSimpArgs false
set_option linter.unnecessarySimpa false
section
open Go.RowKit
set_option maxRecDepth 20000
set_option maxHeartbeats 4000000
theorem zx6 (ix g:Int) (w:World) (hi:I64 ix):Calls Tryz.prog 59 #[.int .i64 ix,.int .i64 g] w fun e w'=>e= .returned (.bool (inE ix g))∧ Below w.heap.size w w':=by
 have HG:=zak (fun W=>zqg ⟨ix,0,⟨#[]⟩,0,0,false,false,0,0,0,[]⟩ none 0 0 W hi)
 unfold entV at HG
 dsimp only at HG
 by_cases h1:g=1
 · subst h1
   go_enter Tryz.func59,Tryz.ntmps59
   go_wp2_with fail
   go_ret
   exact⟨za1 (by simp[inE]),Below.refl _ _⟩
 · have h1':(g == 1)=false:=by simpa using h1
   by_cases h2:2≤g∧g≤4
   · obtain⟨h2,h3⟩:= h2
     have HF:=zak (show (groupE ix == g)=inE ix g by rw[Bool.eq_iff_iff];simp[inE];omega)
     clear h1
     go_enter Tryz.func59,Tryz.ntmps59
     go_wp2_with fail
     refine (HG.out _).mono ?_
     rintro e w1 ⟨rfl,hb1⟩
     go_wp2_with fail
     go_ret
     exact⟨za1 HF.out,hb1⟩
   · have HF:=zak (show false=inE ix g by simp[inE];omega)
     have h4:g < 2∨4 < g:=by omega
     clear h1 h2
     rcases h4 with h4 | h4
     · go_enter Tryz.func59,Tryz.ntmps59
       go_wp2_with fail
       go_ret
       exact⟨za1 HF.out,Below.refl _ _⟩
     · have h5:2≤g:=by omega
       go_enter Tryz.func59,Tryz.ntmps59
       go_wp2_with fail
       go_ret
       exact⟨za1 HF.out,Below.refl _ _⟩
theorem zx7 {fn:Func} {p:Tmp} (h:fn.results= #[.cell p 52]) {x:Act} {w:World} {g:Nat} {v1 v2 v3:Value} {R:Ending→World→Prop} (hd:x.defers= []) (hp:x.tmps.getD p undef= .pointer (some ⟨g,0,none⟩))
 (hB:Blk w g 52 #[v1,v2,v3]) (hR:R (.returned (.agg #[v1,v2,v3])) w):bodyPost Tryz.prog fn R .ret x w:=by
 exact bodyPost_ret (results_cell_row (P:=Tryz.prog) h x.tmps w g _ #[v1,v2,v3] (0,0) _ hp hB Tryz.underlying52 rfl zut) hd hR
theorem zx8 (v:SV) (A:Option Addr) (c:Nat) (w:World) (hl:v.data.length≤35184372088832) (hs:Sl w A (v.data.map bv)) :
 Calls Tryz.prog 60 #[.agg #[.int .i64 v.ix,.int .i64 v.sub,.slice A v.data.length c]] w fun e w'=> ∃ A' c',e= .returned (.agg #[.int .i64 v.ix,.int .i64 v.sub,.slice A' v.data.length c'])∧ zcd w' (w.heap.size+2) A' v.data.length c' v.data∧Below w.heap.size w w':=by
 obtain⟨n,hn⟩:∃ n,n=v.data.length:=⟨_,rfl⟩
 have hb:=zbf (zbf (Below.refl w.heap.size w) (.cells #[.int .i64 v.ix,.int .i64 v.sub,.slice A n c] 52)) (.cells #[.int .i64 0,.int .i64 0,.slice none 0 0] 52)
 have kk:=zbn w 52 52 #[.int .i64 v.ix,.int .i64 v.sub,.slice A n c] #[.int .i64 0,.int .i64 0,.slice none 0 0]
 have HJ:=zak (ztp A n c v.data _ hn (by omega) (hs.below hb))
 rw[← hn]
 obtain⟨R,hR⟩:∃ R,R=w.heap.size+1:=⟨_,rfl⟩
 rw[← hR] at kk
 have HR:=zak hR
 have HKK:=zak (And.intro kk hb)
 have HNN:=zak hn
 have hRw:w.heap.size < R:=by omega
 have q0:=kk.1.cell 2 (u:= .slice A n c) rfl
 clear hn hs hl kk hb hR
 go_enter Tryz.func60,Tryz.ntmps60
 go_wp2_with fail
 rw[← HR.out]
 refine HJ.out.mono ?_
 rintro e w1 ⟨A',c',rfl,hO,hb1⟩
 have k0:=HKK.out.1.1.below hb1 HKK.out.1.1.lt
 have k1:=HKK.out.1.2.below hb1 HKK.out.1.2.lt
 have x0:=k0.cell 0 (u:= .int .i64 v.ix) rfl
 have x1:=k0.cell 1 (u:= .int .i64 v.sub) rfl
 have x2:=k0.cell 2 (u:= .slice A n c) rfl
 have f0:=k0.frozen
 have y0:=k1.cell 0 (u:= .int .i64 0) rfl
 have y1:=k1.cell 1 (u:= .int .i64 0) rfl
 have y2:=k1.cell 2 (u:= .slice none 0 0) rfl
 have f1:=k1.frozen
 have HO:=zak (And.intro hO (zbd hb1 HKK.out.2))
 have HK1:=zak k1
 clear hO hb1 k0 k1 q0
 go_wp2_with fail
 have hsz:((w.alloc (.cells #[.int .i64 v.ix,.int .i64 v.sub,.slice A n c] 52)).alloc (.cells #[.int .i64 0,.int .i64 0,.slice none 0 0] 52)).heap.size=w.heap.size+2:=by show ((w.heap.push _).push _).size=_;simp
 have hRR:=HR.out
 refine zx7 rfl rfl (by rfl) (v1:= .int .i64 v.ix) (v2:= .int .i64 v.sub) (v3:= .slice A' n c') ?_ ?_
 · exact (((HK1.out.far (p:=⟨w.heap.size,2,none⟩) (by show R≠w.heap.size;omega) _).set_ 0 _).set_ 1 _).set_ 2 _
 · refine⟨_,_,rfl,?_,?_⟩
   · have h1:=HO.out.1
     rw[hsz] at h1
     exact (((h1.set_ (by show w.heap.size < _;omega) _).set_ (by show R < _;omega) _).set_ (by show R < _;omega) _).set_ (by show R < _;omega) _
   · exact zbp (zbp (zbp (zbp HO.out.2 (p:=⟨w.heap.size,2,none⟩) (Nat.le_refl _) _) (p:=⟨R,0,none⟩) (by show w.heap.size≤R;omega) _) (p:=⟨R,1,none⟩) (by show w.heap.size≤R;omega) _) (p:=⟨R,2,none⟩) (by show w.heap.size≤R;omega) _
abbrev DropR (X:List SV) (g:Int) (w:World) (e:Ending) (w':World):Prop:= ∃ A' n' c' ds,e= .returned (.slice A' n' c')∧ znh w' w.heap.size A' n' c' (dropL X g) ds∧Below w.heap.size w w'
theorem zx9 (A:Option Addr) (n c:Nat) (L:List SV) (g:Int) (w:World) (hn:n=L.length) (hl:n≤35184372) (hL:SlV w A L) (hf:fitsV L) (hi:∀ v ∈ L,I64 v.ix) :
 Calls Tryz.prog 23 #[.slice A n c,.int .i64 g] w (DropR L g w):= by
 have HN:=zak hn
 have HL:=zak hL
 have HF:=zak hf
 have HI:=zak hi
 clear hn hL hf hi
 go_enter Tryz.func23,Tryz.ntmps23
 go_wp2_with fail
 go_loopw [5,6] (fun v5 i wr=> ∃ k ds A' m c',k≤n∧i= .int .i64 (k:Nat)∧ v5= .slice A' m c'∧Hid (znh wr w.heap.size A' m c' (dropL (L.take k) g) ds)∧ m≤k∧Hid (Below w.heap.size w wr)) (fun _ i _=>n - (intOf i).toNat)
 case atStart=>exact⟨0,[],_,_,_,by omega,rfl,rfl,zak (znh.nil _ _),by omega,zak (Below.refl _ _)⟩
 case round=>
  obtain⟨k,ds,A',m,c',hk,rfl,rfl,HO,hmk,HB⟩:= hrel
  by_cases hlt:k < n
  · obtain⟨v,hv⟩:∃ v,L[k]? =some v:=⟨L[k]'(by have:=HN.out;omega),List.getElem?_eq_getElem _⟩
    obtain⟨b,off,Aj,cj,rfl,e0,e1,e2,e4,e5⟩:= (HL.out.below HB.out) k v hv
    have hfd:=HF.out _ (List.mem_of_getElem? hv)
    have HIN:=zak (fun W=>zx6 v.ix g W (HI.out _ (List.mem_of_getElem? hv)))
    have HTK:=zak (show dropL (L.take (k+1)) g=dropL (L.take k) g ++ (if inE v.ix g then [] else [v]) by
     rw[← zty]
     obtain⟨hkl,rfl⟩:= List.getElem?_eq_some_iff.1 hv
     rw[List.take_succ_eq_append_getElem hkl,dropL,List.filter_append]
     cases hi:inB L[k].ix g<;>simp[dropL,hi])
    have H5:=zak e5
    have HFD:=zak hfd
    obtain⟨vl,hvl⟩:∃ vl,vl=v.data.length:=⟨_,rfl⟩
    rw[← hvl] at e2 HFD
    have HVL:=zak hvl
    obtain⟨bi,hbi⟩:∃ bi,bi=inE v.ix g:=⟨_,rfl⟩
    rw[← hbi] at HIN HTK
    clear hv hfd hvl e4 e5 hbi
    cases bi
    · go_wp2_with fail
      refine (HIN.out _).mono ?_
      rintro e w1 ⟨rfl,hb1⟩
      have c0:=(hb1.cell (zal e0)).trans e0
      have c1:=(hb1.cell (zal e1)).trans e1
      have c2:=(hb1.cell (zal e2)).trans e2
      have HB1:=zak hb1
      clear e0 e1 e2 hb1
      go_wp2_with fail
      have HLT:=zx8 v Aj cj w1 (by have:=HFD.out;have:=HVL.out;omega) (H5.out.below HB1.out)
      rw[← HVL.out] at HLT
      refine HLT.mono ?_
      clear HLT
      rintro e w2 ⟨A3,c3,rfl,hO3,hb2⟩
      have HB2:=zak (zbd hb2 HB1.out)
      have HPW:=zak (zvb HO.out.hd HO.out.data (show wr.heap.size≤w1.heap.size+2 by have:=HB1.out.size;omega) hO3)
      have HO3:=zak hO3
      have H12:=zak hb2.size
      clear c0 c1 c2 hO3 hb2
      have HOA:=zak ((HO.out.below HB2.out).below (zbf (Below.refl w2.heap.size w2) (.cells #[.int .i64 v.ix,.int .i64 v.sub,.slice A3 v.data.length c3] 52)))
      have HDA:Hid (zcd (w2.alloc (.cells #[.int .i64 v.ix,.int .i64 v.sub,.slice A3 v.data.length c3] 52)) w.heap.size A3 v.data.length c3 v.data):= zak ((by
       have:=HO3.out
       rw[HVL.out] at this
       exact this.mono (by have:=HB1.out.size;have:=HB.out.size;omega):zcd w2 w.heap.size A3 v.data.length c3 v.data).below (zbf (Below.refl w2.heap.size w2) _))
      have HBZ:=zak (Nat.le_trans HB.out.size (Nat.le_trans HB2.out.size (zbf (Below.refl w2.heap.size w2) (.cells #[.int .i64 v.ix,.int .i64 v.sub,.slice A3 v.data.length c3] 52)).size))
      rw[← HVL.out] at HOA HBZ
      go_wp2_with (at_builtin;refine zni _ rfl _ _ rfl w.heap.size _ _ _ _ _ rfl HOA.out v (A3,c3) _ rfl (by rw[← HVL.out];exact (Blk.new _ _ _).sl) (by have:=HDA.out;rw[← HVL.out] at this ⊢;exact this) HPW.out (by omega) HBZ.out (m+1) rfl ?_;intro A4 c4 w4 hO4 hb4)
      go_roundw
      case rel=>exact⟨k+1,_,_,_,_,by omega,by go_num,rfl,zak (by rw[HTK.out];simpa using hO4),by omega,zak ((zbf (zbd HB2.out HB.out) _).trans hb4)⟩
      case measure=>simp[intOf];omega
    · go_wp2_with fail
      refine (HIN.out _).mono ?_
      rintro e w1 ⟨rfl,hb1⟩
      go_wp2_with fail
      go_roundw
      case rel=>exact⟨k+1,ds,A',m,c',by omega,by go_num,rfl,zak (by rw[HTK.out];simpa using HO.out.below hb1),by omega,zak (zbd hb1 HB.out)⟩
      case measure=>simp[intOf];omega
  · have hkn:k=n:=by omega
    subst hkn
    go_wp2_with fail
    go_ret
    refine⟨_,_,_,ds,rfl,?_,HB.out⟩
    have e1:L.take k=L:=List.take_of_length_le (by have:=HN.out;omega)
    have:=HO.out
    rw[e1] at this
    exact this
end
section
open Go.RowKit
set_option maxRecDepth 20000
set_option maxHeartbeats 4000000
def FarP (L:List SV) (i k:Nat):Prop:= ∀ u v,L[i]? =some u→L[k]? =some v→ ¬ placeE v u
end
section
open Go.RowKit
set_option maxRecDepth 100000
set_option maxHeartbeats 4000000
section
variable {F:Nat→Prop} {p n cl cv:Nat} {Al Av:Option Addr} {L:List Ent} {V:List (List UInt8)} {ds es:List (Option Addr×Nat)}
theorem zya (gr:Int) (w:World) (hD:DB 112 w F p Al n cl Av cv L V ds es) (hn:n≤1000) (hI:∀ E ∈ L,I64 E.ix) :
 Calls Tryz.prog 27 #[.pointer (some ⟨p,0,none⟩),.int .i64 gr] w (OfR (ofV L V gr) w):= by
 have HD:=zak hD
 have HN:=zak hD.ents.hn
 have HNV:=zak hD.vals.hn
 have HLV:=zak hD.lenV
 have HI:=zak hI
 have hB:=hD.blk
 have zp:=hB.lt
 obtain⟨R,hR⟩:∃ R,R=OfR (ofV L V gr) w:=⟨_,rfl⟩
 rw[← hR]
 have HR:=zak hR
 clear hD hI hR
 obtain⟨hB_c0,hB_c1⟩:= zbg hB
 have hB_f:=hB.frozen
 go_enter Tryz.func27,Tryz.ntmps27
 go_wp2_with fail
 go_loopw [5,6] (fun o i wr=> ∃ k A' m c' ds',k≤n∧m≤k∧i= .int .i64 (k:Nat)∧ o= .slice A' m c'∧Hid (OwnSV wr (fun g=>w.heap.size≤g) A' m c' (ofV (L.take k) (V.take k) gr) ds')∧ Below w.heap.size w wr) (fun _ i _=>n - (intOf i).toNat)
 case atStart=>exact⟨0,none,0,0,[],by omega,by omega,rfl,rfl,zak (zcq.nil _ _),Below.refl _ _⟩
 case round=>
  obtain⟨k,A',m,c',ds',hk,hmk,rfl,rfl,HO,hbr⟩:= hrel
  have hBr:=hB.below hbr zp
  obtain⟨hBr_c0,hBr_c1⟩:= zbg hBr
  have hBr_f:=hBr.frozen
  by_cases hlt:k < n
  · obtain⟨E,hE⟩:∃ E,L[k]? =some E:=⟨L[k]'(by rw[← HN.out];exact hlt),List.getElem?_eq_getElem _⟩
    obtain⟨v,hv⟩:∃ v,V[k]? =some v:=⟨V[k]'(by rw[← HNV.out];exact hlt),List.getElem?_eq_getElem _⟩
    obtain⟨g,d,hAl,zg,_,_,_,c0,c1,_,_,_,_,c6,_,_,_,_⟩:= HD.out.ent hE
    obtain⟨gv,dv,hAv,zv,_,hOv,hfit,cv0,_,_⟩:= HD.out.val hv
    subst hAl hAv
    have HT:=zak (show ofV (L.take (k+1)) (V.take (k+1)) gr=ofV (L.take k) (V.take k) gr ++ (if E.st=true∧inE E.ix gr=true then [⟨E.ix,E.sub,v⟩] else []) by
     obtain⟨h1,h2⟩:= List.getElem?_eq_some_iff.1 hE
     obtain⟨h3,h4⟩:= List.getElem?_eq_some_iff.1 hv
     rw[List.take_succ_eq_append_getElem h1,List.take_succ_eq_append_getElem h3,h2,h4]
     exact ztw _ _ _ _ _ (by simp[HLV.out]))
    have HSv:=zak (hOv.sl.below hbr)
    have HF:=zak hfit
    have HIN:=zak (fun W=>zx6 E.ix gr W (HI.out E (List.mem_of_getElem? hE)))
    obtain⟨i1,i2,i3⟩:= zbr hlt
    obtain⟨bi,hbi⟩:∃ bi,bi=inE E.ix gr:=⟨_,rfl⟩
    rw[← hbi] at HIN HT
    have r0:=(hbr.cell (zal c0)).trans c0
    have r6:=(hbr.cell (zal c6)).trans c6
    clear hE hv hOv hfit hbi
    cases hst:E.st
    · rw[hst] at r6 c6 HT
      go_wp2_with fail
      go_roundw
      case rel=>exact⟨k+1,A',m,c',ds',by omega,by omega,by go_num,rfl,zak (by rw[HT.out];simpa using HO.out),hbr⟩
      case measure=>simp[intOf];omega
    · rw[hst] at r6 c6 HT
      cases bi
      · go_wp2_with fail
        refine (HIN.out _).mono ?_
        rintro e w1 ⟨rfl,hb1⟩
        go_wp2_with fail
        go_roundw
        case rel=>exact⟨k+1,A',m,c',ds',by omega,by omega,by go_num,rfl,zak (by rw[HT.out];simpa using HO.out.below hb1),zbd hb1 hbr⟩
        case measure=>simp[intOf];omega
      · go_wp2_with fail
        refine (HIN.out _).mono ?_
        rintro e w1 ⟨rfl,hb1⟩
        have hbr1:=zbd hb1 hbr
        have HO1:=zak (HO.out.below hb1)
        have HSv1:=zak (HSv.out.below hb1)
        clear hBr hb1 r0 r6 hBr_c0 hBr_c1
        go_wp2_with fail
        refine wp_region_held_drew (S:=(fun w'=>(∀ qA:Addr,qA.block < (w).heap.size→w'.cell? qA=(w).cell? qA)∧ Below (w).heap.size (w) w')) (by kernel_rfl) ?hS1 (fun hHeld=>?rest1)
        case hS1=>((try dsimp only);(((try go_split_ands);refine zbc ?_;all_goals exact bl)))
        case' rest1=>skip
        iterate 24 (refine tkN ?_;try simp only[PqL,Act.put])
        refine wpAnyH_ready (rs:= [24]) (by kernel_rfl) (by simp) ?_
        refine AllReadyH.cons (o:=_) rfl (fun K hK=>?_) .nil
        go_simp
        refine (ztp dv.1 v.length dv.2 v _ rfl HF.out HSv1.out.drew).mono ?_
        rintro e w2 ⟨A3,c3,rfl,hO3,hb3⟩
        dsimp only
        refine hK.out _ _ ?hS28 (fun hHeld=>?rest28)
        case hS28=>((try dsimp only);(((try go_split_ands);refine zbc ?_;all_goals exact bl)))
        case' rest28=>(clear hK K;try simp only[PqL,Act.put])
        refine tkH 25 ?_
        try simp only[PqL,Act.put]
        refine wpAnyH_ready (rs:= [26]) (by kernel_rfl) (by simp) ?_
        refine AllReadyH.cons (o:=_) rfl (fun K hK=>?_) .nil
        go_simp
        refine hK.out _ _ ?hS32 (fun hHeld=>?rest32)
        case hS32=>((try dsimp only);(((try go_split_ands);refine zbc ?_;all_goals exact bl)))
        case' rest32=>(clear hK K;try simp only[PqL,Act.put])
        have hb4:Below w1.heap.size w1 w2:=⟨hb3.os,hb3.tape,hb3.output,hb3.size,hb3.block⟩
        have hb5:=zbf hb4 (.cells #[.int .i64 E.ix,.int .i64 E.sub,.slice A3 v.length c3] 52)
        have hz5:=hbr1.size
        have hz6:=hb4.size
        refine wpAnyH_ready (rs:= [27]) (by kernel_rfl) (by simp) ?_
        refine AllReadyH.cons (o:=_) rfl (fun K hK=>?_) .nil
        rw[if_pos (show Region.wanted _ _=true by kernel_rfl)]
        refine ztc (f:=svF) (k:=3) (e:=52) (dat:=SV.data) (F:=fun g=>w.heap.size≤g) _ _ 27 rfl zth zti (by decide) 40 _ Tryz.underlying27 ztj rfl (by omega) (by omega) A' m c' (ofV (L.take k) (V.take k) gr) ds' rfl (HO1.out.below hb5) ⟨E.ix,E.sub,v⟩ (A3,c3) _ rfl (by exact (Blk.new _ _ _).sl) ((hO3.alloc _).mono (Nat.zero_le _)) (hO3.own.fin.mono (fun g h=>Nat.le_trans hz5 h.1)) (fun g h=>by simp at h;omega) (by omega) ?_
        intro A4 c4 w4 hO4 hg4 hr4
        have HO4:=zak hO4
        have hb7:Below w.heap.size w (w2.alloc (.cells #[.int .i64 E.ix,.int .i64 E.sub,.slice A3 v.length c3] 52)):= zbd hb5 hbr1
        have hb6:Below w.heap.size w w4:=hb7.grown hg4 hb7.size (fun q hq=>by
         rcases HO1.out.own.shape with ⟨h1,_⟩ | ⟨g',h1,_,_⟩
         · rw[h1] at hq;cases hq
         · have:=HO1.out.inF g' h1
           rw[h1] at hq
           simp[Value.ownBlock] at hq
           omega)
        clear hO4 hb7 hO3
        refine hK.out _ _ ?hS35 (fun hHeld=>?rest35)
        case hS35=>((try dsimp only);(((try go_split_ands);refine zbc ?_;all_goals exact bl)))
        case' rest35=>(clear hK K;try simp only[PqL,Act.put])
        refine tkH 28 ?_
        try simp only[PqL,Act.put]
        refine wpAnyH_done (by kernel_rfl) ?_ _
        have hEnd:=hHeld.2
        repeat (clear hHeld)
        go_wp2_with fail
        go_roundw
        case rel=>exact⟨k+1,A4,m+1,c4,_,by omega,by omega,by go_num,by go_num,zak (by rw[HT.out];simpa using HO4.out),hb6⟩
        case measure=>simp[intOf];omega
  · have hkn:k=n:=by omega
    have HKN:=zak hkn
    clear hkn
    go_wp2_with fail
    rw[HR.out]
    refine⟨_,_,_,ds',rfl,?_,hbr⟩
    have h1:=HO.out
    rw[List.take_of_length_le (by rw[HKN.out,HN.out];exact Nat.le_refl _),List.take_of_length_le (by rw[HKN.out,HNV.out];exact Nat.le_refl _)] at h1
    exact h1
end
end
section
open Go.RowKit
set_option maxRecDepth 20000
set_option maxHeartbeats 1000000
theorem zyb (i s j t:Int) (d d':Value) (w:World) :
 Calls Tryz.prog 68 #[.agg #[.int .i64 i,.int .i64 s,d],.agg #[.int .i64 j,.int .i64 t,d']] w
  fun e w'=>e= .returned (.bool (aheadB i s j t))∧ Below w.heap.size w w':=by
 have fin:∀ b,b=aheadB i s j t→Ending.returned (.bool b)= .returned (.bool (aheadB i s j t)):= fun b h=>by rw[h]
 by_cases h1:i < j
 · go_enter Tryz.func68,Tryz.ntmps68
   go_wp2
   go_ret
   exact⟨fin _ (by simp[aheadB];omega),zbf (zbf (Below.refl _ _) _) _⟩
 · by_cases h2:i=j
   · subst h2
     go_enter Tryz.func68,Tryz.ntmps68
     go_wp2
     go_ret
     exact⟨fin _ (by simp[aheadB]),zbf (zbf (Below.refl _ _) _) _⟩
   · have h2':(i == j)=false:=by simpa using h2
     have HF:=zak (show false=aheadB i s j t by simp[aheadB];omega)
     clear h2
     go_enter Tryz.func68,Tryz.ntmps68
     go_wp2
     go_ret
     exact⟨fin _ HF.out,zbf (zbf (Below.refl _ _) _) _⟩
theorem zyc (A:Option Addr) (n c:Nat) (l:List UInt8) (wd:Int) (x:Nat) (w:World) (hu:x≤4611686018427387904) (h1:1≤wd) (h8:wd≤8) (h:x < 256 ^ wd.toNat) (hn:n=l.length) (hl:n≤35184372088832)
 (hs:Sl w A (l.map bv)) :
 Calls Tryz.prog 172 #[.slice A n c,.int .i64 wd,.int .i64 x] w fun e w'=> ∃ A' n' c',e= .returned (.slice A' n' c')∧
  zcd w' w.heap.size A' n' c' (l ++ leB wd.toNat x)∧ Below w.heap.size w w':=by
 have hc:=zc5 A n c l wd x w (by unfold U64;omega) h1 h8 h hn hl hs
 have HC:=zak hc
 clear hc h hn
 go_enter Tryz.func172,Tryz.ntmps172
 go_wp2_with (go_at_call 198;refine HC.out.mono ?_;rintro e w1 ⟨A1,n1,c1,rfl,hO1,hb1⟩)
 go_ret
 exact⟨_,_,_,rfl,hO1,hb1⟩
theorem zyd (A:Option Addr) (n c:Nat) (L:List SV) (w:World) (hn:n=L.length) (hc:n≤c) (hl:n≤35184372088832) (hL:SlV w A L) (hf:fitsV L) :
 Calls Tryz.prog 145 #[.slice A n c] w fun e w'=> ∃ A' n' c' b er,e= .returned (.tuple #[.slice A' n' c',.int .i64 er])∧ zcd w' w.heap.size A' n' c' b∧BuildR L b er∧Below w.heap.size w w':=by
 have HN:=zak hn
 clear hn
 go_enter Tryz.func145,Tryz.ntmps145
 go_wp2_with fail
 go_loopw [4,5] (fun v i wr=> ∃ k t:Nat,k≤n∧i= .int .i64 (k:Nat)∧ v= .int .i64 (t:Nat)∧ t≤35184372090000∧Hid (((L.take k).flatMap vbytes).length≤960→t=((L.take k).flatMap vbytes).length)∧ Hid (960 < ((L.take k).flatMap vbytes).length→960 < t)∧
  Hid (∀ j,j < k→chkV L j=0)∧ Below w.heap.size w wr) (fun _ i _=>n - (intOf i).toNat)
 case atStart=>exact⟨0,0,by omega,rfl,rfl,by omega,zak (by simp),zak (by simp),zak (by omega),Below.refl _ _⟩
 case round=>
  obtain⟨k,t,hk,rfl,rfl,ht,HT1,HT2,HC,hbr⟩:= hrel
  by_cases hlt:k < n
  · obtain⟨v,hv⟩:∃ v,L[k]? =some v:=⟨L[k]'(by have:=HN.out;omega),List.getElem?_eq_getElem _⟩
    obtain⟨b,off,Aj,cj,rfl,h0,h1,h2,h4,h5⟩:= (hL.below hbr) k v hv
    have hfd:=hf _ (List.mem_of_getElem? hv)
    have HV:=zak hv
    clear hv
    obtain⟨i1,i2,i3⟩:= zbr hlt
    obtain⟨m,hm⟩:∃ m,m=v.data.length:=⟨_,rfl⟩
    rw[← hm] at h2 h4 hfd
    have HM:=zak hm
    clear hm
    by_cases hth:1≤v.ix∧v.ix≤65535∧0≤v.sub∧v.sub≤255
    · have hb2:thereB v.ix v.sub=true:=by simpa [thereB] using hth
      obtain⟨t1,t2,t3,t4⟩:= hth
      have step:∀ t',((t≤960∧t'=t+5+m)∨ (960 < t∧t'=t))→ Hid (((L.take (k+1)).flatMap vbytes).length≤960→t'=((L.take (k+1)).flatMap vbytes).length)∧ Hid (960 < ((L.take (k+1)).flatMap vbytes).length→960 < t'):= by
       intro t' h
       have e1:=HT1.out
       have e2:=HT2.out
       have e3:=HM.out
       rw[znp L k v HV.out,List.length_append,zno,← e3]
       refine⟨zak ?_,zak ?_⟩<;> omega
      have hk0:k=0∨1≤k:=by omega
      rcases hk0 with hk0 | hk0
      · have hchk:∀ j,j < k+1→chkV L j=0:=by
         intro j hj
         rcases Nat.lt_succ_iff_lt_or_eq.1 hj with h | h
         · exact HC.out j h
         · subst h;simp[chkV,List.getD,HV.out,hb2];omega
        have HC2:=zak hchk
        have HS:=zak step
        have hd:decide ((0:Int) < (k:Int))=false:=by simp;omega
        have hd':decide (0 < k)=false:=by simp;omega
        clear hk0 hchk hb2 step
        by_cases ht9:t≤960
        all_goals
         go_wp2_with fail
         go_quiet (fail)
         clear hd hd'
         go_wp2_with fail
         go_roundw
         case measure=>simp[intOf];omega
        · exact⟨k+1,t+5+m,by omega,by go_num,by go_num,by omega,(HS.out _ (.inl ⟨by omega,rfl⟩)).1,(HS.out _ (.inl ⟨by omega,rfl⟩)).2,HC2,⟨hbr.os,hbr.tape,hbr.output,hbr.size,hbr.block⟩⟩
        · exact⟨k+1,t,by omega,by go_num,by go_num,by omega,(HS.out _ (.inr ⟨by omega,rfl⟩)).1,(HS.out _ (.inr ⟨by omega,rfl⟩)).2,HC2,⟨hbr.os,hbr.tape,hbr.output,hbr.size,hbr.block⟩⟩
      · obtain⟨u,hu⟩:∃ u,L[k - 1]? =some u:=⟨L[k - 1]'(by have:=HN.out;omega),List.getElem?_eq_getElem _⟩
        obtain⟨b',off',Ap,cp,hA,g0,g1,g2,g4,g5⟩:= (hL.below hbr) (k - 1) u hu
        injection hA with hA
        injection hA with hA1 hA2
        subst hA1
        subst hA2
        have z1:=zal g0
        have z2:=zal h0
        simp only[] at z1 z2
        have HU:=zak hu
        clear hu
        have HS:=zak step
        clear step
        by_cases ha:aheadB u.ix u.sub v.ix v.sub=true
        · have hchk:∀ j,j < k+1→chkV L j=0:=by
           intro j hj
           rcases Nat.lt_succ_iff_lt_or_eq.1 hj with h | h
           · exact HC.out j h
           · subst h;simp[chkV,List.getD,HV.out,HU.out,hb2,ha]
          have HC2:=zak hchk
          clear hchk hb2
          obtain⟨q1,q2,q3,q4,q5,q6,q7,q8,q9,q10,q11⟩:= zbq hk0 hk (by omega)
          by_cases ht9:t≤960
          all_goals
           go_wp2_with fail
           go_region_held3 (fun w'=>(∀ qA:Addr,qA.block < (wr).heap.size→w'.cell? qA=(wr).cell? qA)∧ Below (wr).heap.size (wr) w') (((try go_split_ands);refine zbc ?_;all_goals exact bl)) (first
            | (go_at_call 68;refine (zyb _ _ _ _ _ _ _).mono ?_;rintro e w2 ⟨rfl,hw2⟩))
           clear q1 q2 q3 q4 q5 q6 q7 q8 q9 q10 q11
           have hb3:=zbd (by assumption:_∧Below _ wr w2).2 hbr
           have d0:=(hw2.cell (p:=⟨b,off+k * 3+2,none⟩) (by simpa using z2)).trans h2
           go_wp2_with fail
           go_roundw
           case measure=>simp[intOf];omega
          · exact⟨k+1,t+5+m,by omega,by go_num,by go_num,by omega,(HS.out _ (.inl ⟨by omega,rfl⟩)).1,(HS.out _ (.inl ⟨by omega,rfl⟩)).2,HC2,hb3⟩
          · exact⟨k+1,t,by omega,by go_num,by go_num,by omega,(HS.out _ (.inr ⟨by omega,rfl⟩)).1,(HS.out _ (.inr ⟨by omega,rfl⟩)).2,HC2,hb3⟩
        · have ha:aheadB u.ix u.sub v.ix v.sub=false:=by simpa using ha
          obtain⟨q1,q2,q3,q4,q5,q6,q7,q8,q9,q10,q11⟩:= zbq hk0 hk (by omega)
          go_wp2_with fail
          go_region_held3 (fun w'=>(∀ qA:Addr,qA.block < (wr).heap.size→w'.cell? qA=(wr).cell? qA)∧ Below (wr).heap.size (wr) w') (((try go_split_ands);refine zbc ?_;all_goals exact bl)) (first
           | (go_at_call 68;refine (zyb _ _ _ _ _ _ _).mono ?_;rintro e w2 ⟨rfl,hw2⟩))
          clear q1 q2 q3 q4 q5 q6 q7 q8 q9 q10 q11
          have hb3:=zbd (by assumption:_∧Below _ wr w2).2 hbr
          go_wp2_with fail
          go_ret2
          refine⟨_,_,_,[],_,rfl,zcd.nil _ _,.inl ⟨by omega,rfl,k,by have:=HN.out;omega,?_,HC.out⟩,hb3⟩
          exact zns HV.out HU.out hk0 (by assumption) ha
    · have hb2:thereB v.ix v.sub=false:=by simp[thereB];omega
      have hq:chkV L k=9:=by simp[chkV,List.getD,HV.out,hb2]
      have HQ:=zak hq
      clear hq hb2
      have hcase:v.ix < 1∨(1≤v.ix∧65535 < v.ix)∨ (1≤v.ix∧v.ix≤65535∧v.sub < 0)∨ (1≤v.ix∧v.ix≤65535∧0≤v.sub∧255 < v.sub):= by omega
      rcases hcase with hq1 | ⟨hq1,hq2⟩ | ⟨hq1,hq2,hq3⟩ | ⟨hq1,hq2,hq3,hq4⟩
      all_goals
       go_wp2_with fail
       go_ret2
       exact⟨_,_,_,[],_,rfl,zcd.nil _ _,.inl ⟨by omega,rfl,k,by have:=HN.out;omega,HQ.out,HC.out⟩,hbr⟩
  · have hkn:k=n:=by omega
    subst hkn
    have hnl:=HN.out
    have e1:L.take k=L:=List.take_of_length_le (by omega)
    rw[e1] at HT1 HT2
    clear hnl e1
    by_cases ht9:t≤960
    · go_wp2_with fail
      have hS:(L.flatMap vbytes).length≤960:=by
       have e2:=HT2.out
       omega
      clear HT1 HT2
      have HSS:=zak hS
      clear hS
      go_loopw [6,7] (fun v i wr=> ∃ j bA bn bc b,j≤k∧i= .int .i64 (j:Nat)∧ v= .slice bA bn bc∧zcd wr w.heap.size bA bn bc b∧Hid (b=(L.take j).flatMap vbytes)∧ Below w.heap.size w wr) (fun _ i _=>k - (intOf i).toNat)
      case atStart=>exact⟨0,_,_,_,[],by omega,rfl,rfl,zcd.nil _ _,zak (by simp),hbr⟩
      case round=>
       clear hbr
       obtain⟨j,bA,bn,bc,b,hj,rfl,rfl,hO,HB,hbr⟩:= hrel
       have hbn:bn≤960:=by
        have e2:=znq L j
        rw[← HB.out,← hO.hn] at e2
        have:=HSS.out
        omega
       by_cases hjk:j < k
       · obtain⟨⟨ix,sub,data⟩,hv⟩:∃ v,L[j]? =some v:=⟨L[j]'(by have:=HN.out;omega),List.getElem?_eq_getElem _⟩
         obtain⟨t1,t2,t3,t4⟩:= znr hv (HC.out j hjk)
         obtain⟨bb,off,Aj,cj,rfl,h0,h1,h2,h4,h5⟩:= (hL.below hbr) j _ hv
         simp only[] at t1 t2 t3 t4 h0 h1 h2 h4 h5
         obtain⟨ix,rfl⟩:= Int.eq_ofNat_of_zero_le (show 0≤ix by omega)
         obtain⟨sub,rfl⟩:= Int.eq_ofNat_of_zero_le t3
         obtain⟨m,hm⟩:∃ m,m=data.length:=⟨_,rfl⟩
         have hfd:m≤960:=by
          have e1:=znp L j _ hv
          have e2:=znq L (j+1)
          rw[e1,List.length_append,zno] at e2
          have:=HSS.out
          simp only[] at e2
          omega
         rw[← hm] at h2 h4
         have HV:=zak hv
         have HM:=zak hm
         clear hv hm
         obtain⟨i1,i2,i3⟩:= zbr hjk
         have z0:=zal h0
         simp only[] at z0
         go_wp2_with fail
         go_region_held3 (fun w'=>(∀ qA:Addr,qA.block < (wr).heap.size→w'.cell? qA=(wr).cell? qA)∧ Below (wr).heap.size (wr) w') (((try go_split_ands);refine zbc ?_;all_goals exact bl)) (first
          | (go_at_call 172;(with_reducible refine (zyc _ _ _ b _ ix _ (by omega) (by omega) (by omega) (by rw[p2];omega) hO.hn (by omega) hO.sl.drew).mono ?_);rintro e w1 ⟨A1,n1,c1,rfl,hO1,hb1⟩;have l1:n1≤970:=(by have:=hO1.hn;have:=hO.hn;simp[zan] at *;omega))
          | (go_at_call 172;(with_reducible refine (zyc _ _ _ _ _ sub _ (by omega) (by omega) (by omega) (by rw[p1];omega) hO1.hn (by omega) hO1.sl).mono ?_);rintro e w2 ⟨A2,n2,c2,rfl,hO2,hb2⟩;have l2:n2≤970:=(by have:=hO2.hn;have:=hO.hn;simp[zan] at *;omega))
          | (go_at_call 172;(with_reducible refine (zyc _ _ _ _ _ m _ (by omega) (by omega) (by omega) (by rw[p2];omega) hO2.hn (by omega) hO2.sl).mono ?_);rintro e w3 ⟨A3,n3,c3,rfl,hO3,hb3⟩))
         obtain⟨rc3,hbb0⟩:= (by assumption:_∧Below _ wr w3)
         have hbb:=zbd hbb0 hbr
         have d2:=(hbb0.cell (p:=⟨bb,off+j * 3+2,none⟩) (by simpa using z0)).trans h2
         have h5':=h5.below hbb0
         have hO3':=hO3.mono (B':=w.heap.size) (by have:=hbr.size;have:=hb1.size;have:=hb2.size;simp at *;omega)
         have l3:n3≤970:=by have:=hO3.hn;have:=hO.hn;simp[zan] at *;omega
         clear rc3
         go_wp2_with (at_builtin;refine zce _ rfl (.tmp 98) (.tmp 103) rfl w.heap.size _ _ _ _ rfl hO3' _ _ _ data rfl HM.out h5' (by omega) hbb.size (n3+m) rfl ?_;intro A4 c4 w4 hO4 _ _ hb4)
         go_roundw
         case rel=>
          refine⟨j+1,_,_,_,_,by omega,by go_num,rfl,hO4,zak ?_,hbb.trans hb4⟩
          rw[znp L j _ HV.out,← HB.out]
          simp[vbytes,← HM.out]
         case measure=>simp[intOf];omega
       · have hjk':j=k:=by omega
         subst hjk'
         go_wp2_with fail
         go_ret2
         have hnl:=HN.out
         have e1:L.take j=L:=List.take_of_length_le (by omega)
         refine⟨_,_,_,b,_,rfl,hO,.inr ⟨by subst hnl;exact HC.out,.inr ⟨HSS.out,?_,rfl⟩⟩,hbr⟩
         · rw[HB.out,e1]
    · go_wp2_with fail
      go_ret2
      refine⟨_,_,_,[],_,rfl,zcd.nil _ _,.inr ⟨by have:=HN.out;subst this;exact HC.out,.inl ⟨?_,rfl,rfl⟩⟩,hbr⟩
      have:=HT1.out
      omega
end
end Go.Proofs.YtehabbnohoomjaaGreatDoor
