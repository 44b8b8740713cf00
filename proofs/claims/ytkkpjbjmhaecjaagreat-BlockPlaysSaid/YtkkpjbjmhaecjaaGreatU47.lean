/- None -/
import Derived.Test.YtkkpjbjmhaecjaaGreatU13
import Derived.Test.YtkkpjbjmhaecjaaGreatU24
namespace Go.Proofs.YtkkpjbjmhaecjaaGreat
set_option linter.all false
set_option maxRecDepth 100000
set_option maxHeartbeats 4000000
section
section
open Go.RowKit
def ValuesR (X:List SV) (w:World) (e:Ending) (w':World):Prop:=
 ∃A n c ds,e= .returned (.slice A n c)∧ OwnSV w' (fun g=>w.heap.size≤g) A n c X ds∧zh4 ds∧Below w.heap.size w w'
end
section
open Go.RowKit
section
variable {F:Nat→Prop} {p n cl cv:Nat} {Av:Option Addr} {L:List Ent} {V:List (List UInt8)} {ds es:List (Option Addr×Nat)} {gl:Nat}
theorem zou (w:World)(hD:DB 100 w F p (some ⟨gl,0,none⟩) n cl Av cv L V ds es)(hn:n≤1000) :
 Calls Tryz.prog 17 #[.pointer (some ⟨p,0,none⟩)] w (ValuesR (svL L V) w):=by
 have HD:=zak hD;have HN:=zak hD.ents.hn;have HNV:=zak hD.vals.hn;have HLV:=zak hD.lenV;have hB:=hD.blk;have zp:=hB.lt;clear hD;obtain⟨bZ,b9⟩:=za8 hB;have cY:=hB.frozen;go_enter Tryz.func17,Tryz.ntmps17
 go_wp2_with fail
 refine (zeg _ hB).mono ?_;rintro e w1 ⟨rfl,rfl⟩;go_wp2_with fail
 go_loopw [3,7] (fun o i wr=> ∃k A' c' ds',k≤n∧i= .int .i64 (k:Nat)∧ o= .slice A' k c'∧Hid (OwnSV wr (fun g=>w.heap.size≤g) A' k c' ((svL L V).take k) ds'∧zh4 ds')∧ Below w.heap.size w wr) (fun _ i _=>n - (intOf i).toNat)
 case atStart=>exact⟨0,none,0,[],by omega,rfl,rfl,zak ⟨zb2.nil _ _,zh4.nil⟩,Below.refl _ _⟩
 case round=>
  obtain⟨k,A',c',ds',hk,rfl,rfl,HO,hbr⟩:=hrel;by_cases hlt:k < n
  · obtain⟨E,hE⟩:∃E,L[k]? =some E:=⟨L[k]'(by rw[←HN.out];exact hlt),List.getElem?_eq_getElem _⟩;obtain⟨v,hv⟩:∃v,V[k]? =some v:=⟨V[k]'(by rw[←HNV.out];exact hlt),List.getElem?_eq_getElem _⟩;obtain⟨g,d,hA,zg,_,_,_,c0,c1,_,_,_,_,_,_,_,_,_⟩:=HD.out.ent hE;injection hA with hA
    injection hA with hA
    subst hA;obtain⟨gv,dv,hAv,zv,_,hOv,hfit,cv0,_,_⟩:=HD.out.val hv;subst hAv;have HT:=zak (zh8 (zh7 hE hv));have HSv:=zak (hOv.sl.below hbr);have HF:=zak hfit;obtain⟨i1,i2,i3⟩:=zbk hlt;clear hE hv hOv hfit;go_wp2_with fail
    refine wp_region_held_drew (S:=(fun w'=>(∀qA:Addr,qA.block < (w).heap.size→w'.cell? qA=(w).cell? qA)∧ Below (w).heap.size (w) w')) (by kernel_rfl) ?hS1 (fun hHeld=>?rest1)
    case hS1=>exact kSn
    case' rest1=>skip
    iterate 24 (refine tkN ?_;try simp only[PqL,Act.put])
    refine kRd 24 (fun K hK=>?_)
    go_simp
    refine (zee dv.1 v.length dv.2 v _ rfl HF.out HSv.out.drew).mono ?_;rintro e w2 ⟨A3,c3,rfl,hO3,hb3⟩;dsimp only;refine hK.out _ _ ?hS28 (fun hHeld=>?rest28)
    case hS28=>exact kSn
    case' rest28=>(clear hK K;try simp only[PqL,Act.put])
    refine tkH 25 ?_;try simp only[PqL,Act.put]
    refine kRd 26 (fun K hK=>?_)
    go_simp
    refine hK.out _ _ ?hS32 (fun hHeld=>?rest32)
    case hS32=>exact kSn
    case' rest32=>(clear hK K;try simp only[PqL,Act.put])
    have hb4:Below wr.heap.size wr w2:=⟨hb3.os,hb3.tape,hb3.output,hb3.size,hb3.block⟩;have hb5:=za7 hb4 (.cells #[.int .i64 E.ix,.int .i64 E.sub,.slice A3 v.length c3] 46);have hz5:=hbr.size;have hz6:=hb4.size;refine kRd 27 (fun K hK=>?_);rw[if_pos (show Region.wanted _ _=true by kernel_rfl)];refine zhw (f:=svF) (k:=3) (e:=46) (dat:=SV.data) (F:=fun g=>w.heap.size≤g) _ _ 53 rfl zh1 zh2 (by decide) 40 _ Tryz.underlying53 zh3 rfl (by omega) (by omega) A' k c' ((svL L V).take k) ds' rfl (HO.out.1.below hb5) ⟨E.ix,E.sub,v⟩ (A3,c3) _ rfl (by exact (Blk.new _ _ _).sl) ((hO3.alloc _).mono (Nat.zero_le _)) (hO3.own.fin.mono (fun g h=>Nat.le_trans hz5 h.1)) (fun g h=>by simp at h;omega) (by omega) ?_
    intro A4 c4 w4 hO4 hg4 hr4;have hO4':=hO4;rw[←HT.out] at hO4';have hap:zh4 (ds' ++ [(A3,c3)]):=HO.out.2.snoc (N:=wr.heap.size) HO.out.1.dlt (hO3.own.fin.mono (fun g h=>h.1));have HO4:=zak (And.intro hO4' hap);have hb7:Below w.heap.size w (w2.alloc (.cells #[.int .i64 E.ix,.int .i64 E.sub,.slice A3 v.length c3] 46)):=za5 hb5 hbr;have hb6:Below w.heap.size w w4:=hb7.grown hg4 hb7.size (fun q hq=>by
     rcases HO.out.1.own.shape with ⟨h1,_⟩ | ⟨g',h1,_,_⟩
     · rw[h1] at hq;cases hq
     · have:=HO.out.1.inF g' h1
       rw[h1] at hq;simp[Value.ownBlock] at hq;omega)
    clear hO4 hO4' hap hb7 hO3;refine hK.out _ _ ?hS35 (fun hHeld=>?rest35)
    case hS35=>exact kSn
    case' rest35=>(clear hK K;try simp only[PqL,Act.put])
    refine tkH 28 ?_;try simp only[PqL,Act.put]
    refine wpAnyH_done (by kernel_rfl) ?_ _;have hEnd:=hHeld.2
    repeat (clear hHeld)
    go_wp2_with fail
    go_roundw
    case rel=>exact⟨k+1,A4,c4,_,by omega,by go_num,by go_num,HO4,hb6⟩
    case measure=>simp[intOf];omega
  · go_wp2_with fail
    go_ret
    have hkn:k=n:=by omega
    refine⟨_,_,_,ds',rfl,?_,HO.out.2,hbr⟩;have h1:=HO.out.1;rw[List.take_of_length_le (by rw[zh6 _ _ HLV.out,hkn,HN.out];exact Nat.le_refl _)] at h1;exact h1
end
end
section
open Go.RowKit
section
variable {F:Nat→Prop} {p n cl cv:Nat} {Al Av:Option Addr} {L:List Ent} {V:List (List UInt8)} {ds es:List (Option Addr×Nat)}
theorem zov (w:World)(hD:DB 106 w F p Al n cl Av cv L V ds es)(hn:n≤1000) :
 Calls Tryz.prog 18 #[.pointer (some ⟨p,0,none⟩)] w (ValuesR (svL L V) w):=by
 have HD:=zak hD;have HN:=zak hD.ents.hn;have HNV:=zak hD.vals.hn;have HLV:=zak hD.lenV;have hB:=hD.blk;have zp:=hB.lt;clear hD;obtain⟨bZ,b9⟩:=za8 hB;have cY:=hB.frozen;go_enter Tryz.func18,Tryz.ntmps18
 go_wp2_with fail
 go_loopw [3,4] (fun o i wr=> ∃k A' c' ds',k≤n∧i= .int .i64 (k:Nat)∧ o= .slice A' k c'∧Hid (OwnSV wr (fun g=>w.heap.size≤g) A' k c' ((svL L V).take k) ds'∧zh4 ds')∧ Below w.heap.size w wr) (fun _ i _=>n - (intOf i).toNat)
 case atStart=>exact⟨0,none,0,[],by omega,rfl,rfl,zak ⟨zb2.nil _ _,zh4.nil⟩,Below.refl _ _⟩
 case round=>
  obtain⟨k,A',c',ds',hk,rfl,rfl,HO,hbr⟩:=hrel;have hBr:=hB.below hbr zp;obtain⟨bi,bj⟩:=za8 hBr;have bM:=hBr.frozen;by_cases hlt:k < n
  · obtain⟨E,hE⟩:∃E,L[k]? =some E:=⟨L[k]'(by rw[←HN.out];exact hlt),List.getElem?_eq_getElem _⟩;obtain⟨v,hv⟩:∃v,V[k]? =some v:=⟨V[k]'(by rw[←HNV.out];exact hlt),List.getElem?_eq_getElem _⟩;obtain⟨g,d,hAl,zg,_,_,_,c0,c1,_,_,_,_,_,_,_,_,_⟩:=HD.out.ent hE;obtain⟨gv,dv,hAv,zv,_,hOv,hfit,cv0,_,_⟩:=HD.out.val hv;subst hAl hAv;have HT:=zak (zh8 (zh7 hE hv));have HSv:=zak (hOv.sl.below hbr);have HF:=zak hfit;obtain⟨i1,i2,i3⟩:=zbk hlt;clear hE hv hOv hfit;go_wp2_with fail
    refine wp_region_held_drew (S:=(fun w'=>(∀qA:Addr,qA.block < (w).heap.size→w'.cell? qA=(w).cell? qA)∧ Below (w).heap.size (w) w')) (by kernel_rfl) ?hS38 (fun hHeld=>?rest38)
    case hS38=>exact kSn
    case' rest38=>skip
    iterate 24 (refine tkN ?_;try simp only[PqL,Act.put])
    refine kRd 24 (fun K hK=>?_)
    go_simp
    refine (zjx dv.1 v.length dv.2 v _ rfl HF.out HSv.out.drew).mono ?_;rintro e w2 ⟨A3,c3,rfl,hO3,hb3⟩;dsimp only;refine hK.out _ _ ?hS65 (fun hHeld=>?rest65)
    case hS65=>exact kSn
    case' rest65=>(clear hK K;try simp only[PqL,Act.put])
    refine tkH 25 ?_;try simp only[PqL,Act.put]
    refine kRd 26 (fun K hK=>?_)
    go_simp
    refine hK.out _ _ ?hS69 (fun hHeld=>?rest69)
    case hS69=>exact kSn
    case' rest69=>(clear hK K;try simp only[PqL,Act.put])
    have hb4:Below wr.heap.size wr w2:=⟨hb3.os,hb3.tape,hb3.output,hb3.size,hb3.block⟩;have hb5:=za7 hb4 (.cells #[.int .i64 E.ix,.int .i64 E.sub,.slice A3 v.length c3] 46);have hz5:=hbr.size;have hz6:=hb4.size;refine kRd 27 (fun K hK=>?_);rw[if_pos (show Region.wanted _ _=true by kernel_rfl)];refine zhw (f:=svF) (k:=3) (e:=46) (dat:=SV.data) (F:=fun g=>w.heap.size≤g) _ _ 53 rfl zh1 zh2 (by decide) 40 _ Tryz.underlying53 zh3 rfl (by omega) (by omega) A' k c' ((svL L V).take k) ds' rfl (HO.out.1.below hb5) ⟨E.ix,E.sub,v⟩ (A3,c3) _ rfl (by exact (Blk.new _ _ _).sl) ((hO3.alloc _).mono (Nat.zero_le _)) (hO3.own.fin.mono (fun g h=>Nat.le_trans hz5 h.1)) (fun g h=>by simp at h;omega) (by omega) ?_
    intro A4 c4 w4 hO4 hg4 hr4;have hO4':=hO4;rw[←HT.out] at hO4';have hap:zh4 (ds' ++ [(A3,c3)]):=HO.out.2.snoc (N:=wr.heap.size) HO.out.1.dlt (hO3.own.fin.mono (fun g h=>h.1));have HO4:=zak (And.intro hO4' hap);have hb7:Below w.heap.size w (w2.alloc (.cells #[.int .i64 E.ix,.int .i64 E.sub,.slice A3 v.length c3] 46)):=za5 hb5 hbr;have hb6:Below w.heap.size w w4:=hb7.grown hg4 hb7.size (fun q hq=>by
     rcases HO.out.1.own.shape with ⟨h1,_⟩ | ⟨g',h1,_,_⟩
     · rw[h1] at hq;cases hq
     · have:=HO.out.1.inF g' h1
       rw[h1] at hq;simp[Value.ownBlock] at hq;omega)
    clear hO4 hO4' hap hb7 hO3;refine hK.out _ _ ?hS72 (fun hHeld=>?rest72)
    case hS72=>exact kSn
    case' rest72=>(clear hK K;try simp only[PqL,Act.put])
    refine tkH 28 ?_;try simp only[PqL,Act.put]
    refine wpAnyH_done (by kernel_rfl) ?_ _;have hEnd:=hHeld.2
    repeat (clear hHeld)
    go_wp2_with fail
    go_roundw
    case rel=>exact⟨k+1,A4,c4,_,by omega,by go_num,by go_num,HO4,hb6⟩
    case measure=>simp[intOf];omega
  · go_wp2_with fail
    go_ret
    have hkn:k=n:=by omega
    refine⟨_,_,_,ds',rfl,?_,HO.out.2,hbr⟩;have h1:=HO.out.1;rw[List.take_of_length_le (by rw[zh6 _ _ HLV.out,hkn,HN.out];exact Nat.le_refl _)] at h1;exact h1
end
end
end
end Go.Proofs.YtkkpjbjmhaecjaaGreat
