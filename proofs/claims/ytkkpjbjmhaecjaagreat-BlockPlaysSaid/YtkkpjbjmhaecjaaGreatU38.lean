/- None -/
import Derived.Test.YtkkpjbjmhaecjaaGreatU37
namespace Go.Proofs.YtkkpjbjmhaecjaaGreat
set_option linter.all false
set_option maxRecDepth 100000
set_option maxHeartbeats 4000000
section
open Go.RowKit
def zm8 (w:World) (A:Option Addr) (L:List Ms) (ds:List (Option Addr×Nat)):Prop:=ds.length=L.length∧ ∀(j:Nat) (M:Ms) (d:Option Addr×Nat),L[j]? =some M→ds[j]? =some d→ ∃b off,A=some ⟨b,off,none⟩∧ (w.cell? ⟨b,off+j * 14+0,none⟩=some (.int .i64 M.kind)∧ w.cell? ⟨b,off+j * 14+1,none⟩=some (.int .i64 M.ix)∧ w.cell? ⟨b,off+j * 14+2,none⟩=some (.int .i64 M.sub)∧ w.cell? ⟨b,off+j * 14+3,none⟩=some (.bool M.tg)∧ w.cell? ⟨b,off+j * 14+4,none⟩=some (.bool M.la)∧ w.cell? ⟨b,off+j * 14+5,none⟩=some (.bool M.cr)∧ w.cell? ⟨b,off+j * 14+6,none⟩=some (.bool M.sz)∧ w.cell? ⟨b,off+j * 14+7,none⟩=some (.int .u32 (M.size:Nat))∧ w.cell? ⟨b,off+j * 14+8,none⟩=some (.int .u32 (M.code:Nat))∧ w.cell? ⟨b,off+j * 14+9,none⟩=some (.slice d.1 M.data.length d.2)∧ w.cell? ⟨b,off+j * 14+10,none⟩=some (.int .i64 M.sq)∧ w.cell? ⟨b,off+j * 14+11,none⟩=some (.int .i64 M.bl)∧ w.cell? ⟨b,off+j * 14+12,none⟩=some (.int .i64 M.em)∧ w.cell? ⟨b,off+j * 14+13,none⟩=some (.int .u16 (M.sum:Nat)))∧ Sl w d.1 (M.data.map bv)
theorem zm8.below {w w':World}{A:Option Addr}{L:List Ms}{ds:List (Option Addr×Nat)}(h:zm8 w A L ds)(hb:Below w.heap.size w w'):zm8 w' A L ds:=by
 refine⟨h.1,fun j M d hM hd=>?_⟩;obtain⟨b,off,hA,⟨c0,c1,c2,c3,c4,c5,c6,c7,c8,c9,c10,c11,c12,c13⟩,hs⟩:=h.2 j M d hM hd;have k:∀ {p v},w.cell? p=some v→w'.cell? p=some v:=fun hc=>(hb.cell (zal hc)).trans hc
 exact⟨b,off,hA,⟨k c0,k c1,k c2,k c3,k c4,k c5,k c6,k c7,k c8,k c9,k c10,k c11,k c12,k c13⟩,hs.below hb⟩
theorem zm9 {w:World}{A:Option Addr}{L:List Ms}{ds:List (Option Addr×Nat)}(hd:ds.length=L.length)(hs:Sl w A (cellsG msF L ds))(hb:∀(j:Nat) (M:Ms) (d:Option Addr×Nat),L[j]? =some M→ds[j]? =some d→Sl w d.1 (M.data.map bv)):zm8 w A L ds:=by
 refine⟨hd,fun j M d hM hd'=>?_⟩;have k:∀i u,(msF M d)[i]? =some u→ ∃b off,A=some ⟨b,off,none⟩∧ w.cell? ⟨b,off+(j * 14+i),none⟩=some u:=fun i u hu=>hs.at_ (zbz zdu L ds j i M d u hM hd' hu)
 obtain⟨b,off,hA,c0⟩:=k 0 _ rfl;have e:∀i u,(msF M d)[i]? =some u→w.cell? ⟨b,off+(j * 14+i),none⟩=some u:=fun i u hu=>by
  obtain⟨b',off',hA',hc⟩:=k i u hu;rw[hA] at hA';injection hA' with hA'
  injection hA' with h1 h2
  subst h1;subst h2;exact hc
 exact⟨b,off,hA,⟨e 0 _ rfl,e 1 _ rfl,e 2 _ rfl,e 3 _ rfl,e 4 _ rfl,e 5 _ rfl,e 6 _ rfl,e 7 _ rfl,e 8 _ rfl,e 9 _ rfl,e 10 _ rfl,e 11 _ rfl,e 12 _ rfl,e 13 _ rfl⟩,hb j M d hM hd'⟩
theorem zna {t:TypeId}{w:World}{F:Nat→Prop}{A:Option Addr}{n c:Nat}{L:List Ms}{ds:List (Option Addr×Nat)}(h:zb2 msF 14 t Ms.data w F A n c L ds):zm8 w A L ds:=
 zm9 h.hd h.own.sl (fun j M d hM hd=>(h.data j M d hM hd).1.sl)
theorem znb (L:List Ms)(ds es:List (Option Addr×Nat))(A A2:Option Addr)(n c n2 c2:Nat)(w:World)(hn:n=L.length)(hn2:n2=L.length)(hl:n≤9223372036854775807)(h1:zm8 w A L ds)(h2:zm8 w A2 L es) :
 Calls Tryz.prog 56 #[.slice A n c,.slice A2 n2 c2] w fun e w'=>e= .returned (.bool true)∧ Below w.heap.size w w':=by
 obtain rfl:n2=n:=by omega
 have HN:=zak hn;have H1:=zak h1;have H2:=zak h2;clear hn hn2 h1 h2;go_enter Tryz.func56,Tryz.ntmps56
 go_wp2_with fail
 go_loopw [5] (fun v5 wr=> ∃k:Nat,v5= .int .i64 (k:Nat)∧ k≤n2∧Hid (Below w.heap.size w wr)) (fun v5 _=>n2 - (intOf v5).toNat)
 case atStart=>exact⟨0,rfl,Nat.zero_le _,zak (Below.refl _ _)⟩
 case round=>
  obtain⟨k,rfl,hk,HB⟩:=hrel;by_cases hlt:k < n2
  · obtain⟨M,hM⟩:∃M,L[k]? =some M:=⟨L[k]'(by rw[←HN.out];exact hlt),List.getElem?_eq_getElem _⟩;have hw1:=H1.out.below HB.out;have hw2:=H2.out.below HB.out;obtain⟨d,hd⟩:∃d,ds[k]? =some d:=⟨ds[k]'(by rw[hw1.1,←HN.out];exact hlt),List.getElem?_eq_getElem _⟩;obtain⟨d',hd'⟩:∃d,es[k]? =some d:=⟨es[k]'(by rw[hw2.1,←HN.out];exact hlt),List.getElem?_eq_getElem _⟩;obtain⟨b,off,hA,⟨c0,c1,c2,c3,c4,c5,c6,c7,c8,c9,c10,c11,c12,c13⟩,hs⟩:=hw1.2 k M d hM hd;obtain⟨b',off',hA',⟨d0,d1,d2,d3,d4,d5,d6,d7,d8,d9,d10,d11,d12,d13⟩,hs'⟩:=hw2.2 k M d' hM hd';subst hA hA';replace c0:wr.cell? ⟨b,off+k * 14,none⟩=some (.int .i64 M.kind):=c0
    replace d0:wr.cell? ⟨b',off'+k * 14,none⟩=some (.int .i64 M.kind):=d0;have zb:=zal c1;have zb':=zal d1;simp only at zb zb';have HS:=zak (fun W (h:Below wr.heap.size wr W)=> zm1 M d.1 d'.1 M.data.length d.2 M.data.length d'.2 W rfl rfl (hs.below h) (hs'.below h));clear hs hs' hM hd hd' hw1 hw2;obtain⟨kind,ix,sub,tg,la,cr,sz,size,code,data,sq,bl,em,sum⟩:=M;unfold msV at HS;dsimp only at *
    go_wp2_with fail
    refine wp_region_held_drew (S:=(fun w'=>(∀qA:Addr,qA.block < (wr).heap.size→w'.cell? qA=(wr).cell? qA)∧ Below (wr).heap.size (wr) w')) (by kernel_rfl) ?hS1 (fun hHeld=>?rest1)
    case hS1=>exact kSn
    case' rest1=>skip
    iterate 8 (refine tkN ?_;try simp only[PqL,Act.put])
    refine kRd 8 (fun K hK=>?_)
    go_simp
    refine (HS.out _ (Below.drew (Below.refl _ _))).mono ?_;rintro e w2 ⟨rfl,hb2⟩;replace hb2:=zhy hb2;have HB2:=zak hb2;refine hK.out _ _ ?hS12 (fun hHeld=>?rest12)
    case hS12=>exact kSn
    case' rest12=>(clear hK K;try simp only[PqL,Act.put])
    refine tkH 9 ?_;try simp only[PqL,Act.put]
    refine wpAnyH_done (by kernel_rfl) ?_ _;have hEnd:=hHeld.2
    repeat (clear hHeld)
    go_wp2_with fail
    exact⟨⟨k+1,by congr 1,by omega,zak (HB.out.trans (HB2.out.mono HB.out.size))⟩,by simp only[intOf];omega⟩
  · obtain rfl:k=n2:=by omega
    go_wp2_with fail
    go_ret
    exact⟨rfl,HB.out⟩
theorem znc (L:List Ms)(ds:List (Option Addr×Nat))(hd:ds.length=L.length){k:Nat}{M:Ms}{d:Option Addr×Nat}(hM:L[k]? =some M)(hdk:ds[k]? =some d):cellsG msF (L.take (k+1)) (ds.take (k+1))=cellsG msF (L.take k) (ds.take k) ++ msF M d:=by
 rw[List.take_add_one,List.take_add_one,hM,hdk];exact zb0 _ _ _ _ (by simp[hd])
theorem znd (L:List Ms)(ds:List (Option Addr×Nat))(A:Option Addr)(n c:Nat)(w:World)(hn:n=L.length)(hl:n≤100000)(h1:zm8 w A L ds) :
 Calls Tryz.prog 57 #[.slice A n c] w fun e w'=> ∃A' c',e= .returned (.slice A' n c')∧ zm8 w' A' L ds∧Below w.heap.size w w':=by
 have HN:=zak hn;have H1:=zak h1;clear hn h1;obtain⟨i0,hi0,hz0,hz1,hz2⟩:=info_parts zmz;go_enter Tryz.func57,Tryz.ntmps57
 go_wp2_with fail
 go_loopw [3,4] (fun v3 v4 wr=> ∃k A' c',v3= .slice A' k c'∧v4= .int .i64 (k:Nat)∧ k≤n∧Hid (Own wr w.heap.size 30 14 A' k c' (cellsG msF (L.take k) (ds.take k)))∧ Hid (Below w.heap.size w wr)) (fun _ v4 _=>n - (intOf v4).toNat)
 case atStart=>exact⟨0,none,0,rfl,rfl,Nat.zero_le _,zak (Own.nil _ _ _ _),zak (Below.refl _ _)⟩
 case round=>
  obtain⟨k,A',c',rfl,rfl,hk,HO,HB⟩:=hrel;by_cases hlt:k < n
  · obtain⟨M,hM⟩:∃M,L[k]? =some M:=⟨L[k]'(by rw[←HN.out];exact hlt),List.getElem?_eq_getElem _⟩;have hw1:=H1.out.below HB.out;obtain⟨d,hd⟩:∃d,ds[k]? =some d:=⟨ds[k]'(by rw[hw1.1,←HN.out];exact hlt),List.getElem?_eq_getElem _⟩;obtain⟨b,off,hA,⟨c0,c1,c2,c3,c4,c5,c6,c7,c8,c9,c10,c11,c12,c13⟩,hs⟩:=hw1.2 k M d hM hd;subst hA;replace c0:wr.cell? ⟨b,off+k * 14,none⟩=some (.int .i64 M.kind):=c0;have zb:=zal c1;simp only at zb;have HT1:=zak (znc L ds hw1.1 hM hd);have hzw:=HB.out.size;clear hs hM hd hw1;obtain⟨kind,ix,sub,tg,la,cr,sz,size,code,data,sq,bl,em,sum⟩:=M;dsimp only at *
    go_wp2_with (at_builtin;refine zay _ rfl _ _ 115 rfl w.heap.size 30 i0 _ 14 96 Tryz.underlying115 hi0 hz0 hz1 hz2 rfl (by omega) A' k c' _ rfl ((HO.out.below kBl)) _ 1 1 (msF ⟨kind,ix,sub,tg,la,cr,sz,size,code,data,sq,bl,em,sum⟩ d) rfl rfl ((zbg wr _ _ _ _).2.sl) (zdv _ _) (by unfold maxLen;omega) (by omega) (by simp;omega) (k+1) rfl _ rfl ?_;intro A4 c4 w9 hO9 hg9 hA9 hb9)
    have HOX:=zak hO9;have HBX:Hid (Below w.heap.size w w9):=zak (((HB.out.trans (by have hb:=Below.refl wr.heap.size wr;exact (show Below wr.heap.size wr _ from kBl).mono hzw))).trans hb9);clear hO9 hg9 hA9 hb9;go_wp2_with fail
    refine⟨⟨k+1,A4,c4,rfl,by congr 1,by omega,zak ?_,HBX⟩,by simp only[intOf];omega⟩;rw[HT1.out];exact HOX.out
  · obtain rfl:k=n:=by omega
    go_wp2_with fail
    go_ret
    refine⟨A',c',rfl,?_,HB.out⟩;have h:=HO.out;rw[List.take_of_length_le (by rw[HN.out];exact Nat.le_refl _),List.take_of_length_le (by rw[H1.out.1,HN.out];exact Nat.le_refl _)] at h;exact zm9 H1.out.1 h.sl (fun j M d hM hd=>by
     obtain⟨_,_,_,_,hs⟩:=H1.out.2 j M d hM hd;exact hs.below HB.out)
def zne (A:Option Addr) (n c:Nat) (L:List Ms) (ds:List (Option Addr×Nat)) (w0:World) (k:Nat) (w:World):Prop:=
 Own w 0 95 14 A n c (cellsG msF L ds)∧ (n=L.length∧ds.length=L.length∧zdx ds)∧ (∀j f d,k≤j→L[j]? =some f→ds[j]? =some d→zbs w 0 d.1 f.data.length d.2 f.data)∧ zbv (fun g=> ∃d ∈ ds,d.1=some (⟨g,0,none⟩:Addr)) w0 w
section
variable {A:Option Addr} {n c:Nat} {L:List Ms} {ds:List (Option Addr×Nat)} {FA:Nat→Prop} {k:Nat} {w0 w w':World}
theorem zne.at_ (h:zne A n c L ds w0 k w){f:Ms}(hE:L[k]? =some f):∃g d,A=some ⟨g,0,none⟩∧ g < w.heap.size∧ds[k]? =some d∧w.cell? ⟨g,k * 14+9,none⟩=some (.slice d.1 f.data.length d.2)∧ zbs w 0 d.1 f.data.length d.2 f.data:=by
 obtain⟨h1,⟨hn,hl,_⟩,h3,_⟩:=h;have hk:=(List.getElem?_eq_some_iff.1 hE).1;have hd:ds[k]? =some (ds[k]'(by rw[hl];exact hk)):=List.getElem?_eq_getElem _;obtain⟨b,off,hA,hc⟩:=h1.sl.at_ (zbz zdu L ds k 9 f _ _ hE hd rfl);obtain⟨g,hg,_,hlt⟩:=h1.at_ (by omega);rw[hg] at hA;injection hA with hA
 injection hA with hA1 hA2
 subst hA1;subst hA2;rw[Nat.zero_add] at hc;exact⟨_,_,hg,hlt,hd,hc,h3 k f _ (Nat.le_refl _) hE hd⟩
theorem zne.step (h:zne A n c L ds w0 k w){f:Ms}{d:Option Addr×Nat}(hE:L[k]? =some f)(hd:ds[k]? =some d)(hg:w.grownBy w' (Value.ownBlock (.slice d.1 f.data.length d.2))):zne A n c L ds w0 (k+1) w':=by
 obtain⟨h1,⟨hn,hl,hap⟩,h3,h4⟩:=h;have hO:=h3 k f d (Nat.le_refl _) hE hd;refine⟨h1.grown hg (zbx h1 hO.own (by decide)),⟨hn,hl,hap⟩,?_,?_⟩
 · intro j D e hj hD he;have hO2:=h3 j D e (by omega) hD he;refine⟨hO2.hn,hO2.own.grown hg (fun g hg2 hb=>?_)⟩;obtain⟨hk1,e1⟩:=List.getElem?_eq_some_iff.1 hd;obtain⟨hj1,e2⟩:=List.getElem?_eq_some_iff.1 he
   have:=List.pairwise_iff_getElem.1 hap k j hk1 hj1 (by omega)
   rw[e1,e2] at this;rcases hO.own.shape with ⟨hx,_⟩ | ⟨g',hx,_,_⟩
   · rw[hx] at hb;simp[Value.ownBlock] at hb
   · rw[hx] at hb;simp[Value.ownBlock] at hb;subst hb;exact this _ hx hg2
 · refine h4.trans (zbv.of_grown (F:=fun g=> ∃d ∈ ds,d.1=some (⟨g,0,none⟩:Addr)) hg (fun g hgg=>?_)) (fun _ _ h=>h);rcases hO.own.shape with ⟨hx,_⟩ | ⟨g',hx,_,_⟩
   · rw[hx] at hgg;cases hgg
   · rw[hx] at hgg;simp[Value.ownBlock] at hgg;subst hgg;exact⟨d,List.mem_of_getElem? hd,hx⟩
theorem zne.start (h:zdz w FA A n c L ds):zne A n c L ds w 0 w:=
 ⟨h.1.own,⟨h.1.hn,h.1.hd,h.2⟩,fun j E d _ hE hd=>(h.1.data j E d hE hd).1,zbv.refl _ _⟩
end
end
end Go.Proofs.YtkkpjbjmhaecjaaGreat
