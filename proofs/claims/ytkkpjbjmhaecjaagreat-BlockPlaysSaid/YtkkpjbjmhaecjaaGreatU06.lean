/- None -/
import Derived.Test.YtkkpjbjmhaecjaaGreatU05
import Derived.Deep.Light
namespace Go.Proofs.YtkkpjbjmhaecjaaGreat
set_option linter.all false
set_option maxRecDepth 100000
set_option maxHeartbeats 2000000
section
section
open Go.RowKit
theorem zee (A:Option Addr)(n c:Nat)(l:List UInt8)(w:World)(hn:n=l.length)(hl:n≤35184372088832)(hs:Sl w A (l.map bv)) :
 Calls Tryz.prog 42 #[.slice A n c] w fun e w'=> ∃A' c',e= .returned (.slice A' n c')∧ zbs w' w.heap.size A' n c' l∧Below w.heap.size w w':=by
 have H1:=zak hn;clear hn;go_enter Tryz.func42,Tryz.ntmps42
 go_wp2_with (at_builtin;refine zbt _ rfl _ (.tmp 3) rfl w.heap.size _ _ _ _ rfl (zbs.nil _ _) _ _ _ l rfl H1.out hs (by omega) (Nat.le_refl _) n (by omega) ?_;intro A3 c3 w3 hown3 _ _ hb3)
 go_ret
 exact⟨_,_,rfl,by simpa using hown3,hb3⟩
section
variable {F:Nat→Prop} {p n cl cv:Nat} {Av:Option Addr} {L:List Ent} {V:List (List UInt8)} {ds es:List (Option Addr×Nat)} {gl:Nat}
theorem zef (w:World)(hB:Blk w p 100 #[.slice (some ⟨gl,0,none⟩) n cl,.slice Av n cv]) :
 Calls Tryz.prog 119 #[.pointer (some ⟨p,0,none⟩)] w fun e w'=>e= .returned (.bool true)∧ w=w':=by
 obtain⟨bZ,b9⟩:=za8 hB;have cY:=hB.frozen;go_enter Tryz.func119,Tryz.ntmps119
 go_wp2_with fail
 go_ret
 exact⟨rfl,rfl⟩
theorem zeg (w:World)(hB:Blk w p 100 #[.slice (some ⟨gl,0,none⟩) n cl,.slice Av n cv]) :
 Calls Tryz.prog 58 #[.pointer (some ⟨p,0,none⟩)] w fun e w'=>e= .returned (.int .i64 n)∧ w=w':=by
 have HT:=zak (zef w hB);obtain⟨bZ,b9⟩:=za8 hB;have cY:=hB.frozen;go_enter Tryz.func58,Tryz.ntmps58
 go_wp2_with fail
 refine HT.out.mono ?_;rintro e w1 ⟨rfl,rfl⟩;go_wp2_with fail
 go_ret
 exact⟨rfl,rfl⟩
theorem zeh (k:Nat)(ix sub:Int)(w:World)(hD:DB 100 w F p (some ⟨gl,0,none⟩) n cl Av cv L V ds es) :
 Calls Tryz.prog 147 #[.pointer (some ⟨p,0,none⟩),.int .i64 k,.int .i64 ix,.int .i64 sub] w fun e w'=>e= .returned (.bool (hereB L[k]? ix sub))∧ w=w':=by
 have HL:=zak (zeg w hD.blk);have hB:=hD.blk;have hn:=hD.ents.hn;by_cases hk:k < n
 · obtain⟨E,hE⟩:∃E,L[k]? =some E:=⟨L[k]'(by omega),List.getElem?_eq_getElem _⟩;obtain⟨g,d,hA,hlt,hd,hO,hfit,c0,c1,c2,c3,c4,c5,c6,c7,c8,c9,c10⟩:=hD.ent hE;injection hA with hA
   injection hA with hA
   subst hA;rw[hE];clear c2 c3 c4 c5 c6 c7 c8 c9 c10;clear hn hE hd hO hfit hD hlt;obtain⟨bZ,b9⟩:=za8 hB;have cY:=hB.frozen;go_enter Tryz.func147,Tryz.ntmps147
   go_wp2_with fail
   refine HL.out.mono ?_;rintro e w1 ⟨rfl,rfl⟩;go_wp2_with fail
   all_goals (go_ret;refine⟨zav ?_,rfl⟩;go_light;simp_all [hereB];try (rw[Bool.eq_iff_iff];simp))
 · have hE:L[k]? =none:=List.getElem?_eq_none (by omega);rw[hE];clear hn hE hD;obtain⟨bZ,b9⟩:=za8 hB;have cY:=hB.frozen;go_enter Tryz.func147,Tryz.ntmps147
   go_wp2_with fail
   refine HL.out.mono ?_;rintro e w1 ⟨rfl,rfl⟩;go_wp2_with fail
   go_ret
   exact⟨rfl,rfl⟩
theorem zei (k:Int)(ix sub:Int)(w:World)(hD:DB 100 w F p (some ⟨gl,0,none⟩) n cl Av cv L V ds es) :
 Calls Tryz.prog 148 #[.pointer (some ⟨p,0,none⟩),.int .i64 k,.int .i64 ix,.int .i64 sub] w fun e w'=>e= .returned (.bool (nearZ L k ix))∧ w=w':=by
 have HL:=zak (zeg w hD.blk);have hB:=hD.blk;have hn:=hD.ents.hn;by_cases hk0:0≤k
 · obtain⟨k,rfl⟩:=Int.eq_ofNat_of_zero_le hk0;have hR:nearZ L (k:Nat) ix=nearB L[k]? ix:=by simp[nearZ]
   rw[hR];clear hk0 hR;by_cases hk:k < n
   · obtain⟨E,hE⟩:∃E,L[k]? =some E:=⟨L[k]'(by omega),List.getElem?_eq_getElem _⟩;obtain⟨g,d,hA,hlt,hd,hO,hfit,c0,c1,c2,c3,c4,c5,c6,c7,c8,c9,c10⟩:=hD.ent hE;injection hA with hA
     injection hA with hA
     subst hA;rw[hE];clear c1 c2 c3 c4 c5 c6 c7 c8 c9 c10;clear hn hE hd hO hfit hD hlt;obtain⟨bZ,b9⟩:=za8 hB;have cY:=hB.frozen;go_enter Tryz.func148,Tryz.ntmps148
     go_wp2_with fail
     refine HL.out.mono ?_;rintro e w1 ⟨rfl,rfl⟩;go_wp2_with fail
     go_ret
     refine⟨zav ?_,rfl⟩
     go_light
     simp_all [nearB]
     try rfl
   · have hE:L[k]? =none:=List.getElem?_eq_none (by omega);rw[hE];clear hn hE hD;obtain⟨bZ,b9⟩:=za8 hB;have cY:=hB.frozen;go_enter Tryz.func148,Tryz.ntmps148
     go_wp2_with fail
     refine HL.out.mono ?_;rintro e w1 ⟨rfl,rfl⟩;go_wp2_with fail
     go_ret
     exact⟨rfl,rfl⟩
 · have hR:nearZ L k ix=false:=by simp[nearZ];intro h;omega
   rw[hR];have hk':k < 0:=by omega
   clear hn hD hk0 hR;obtain⟨bZ,b9⟩:=za8 hB;have cY:=hB.frozen;go_enter Tryz.func148,Tryz.ntmps148
   go_wp2_with fail
   go_ret
   exact⟨rfl,rfl⟩
end
end
section
open Go.RowKit
def plE (ix sub:Int):Ent:=⟨ix,sub,⟨#[]⟩,0,0,false,false,0,0,0,[]⟩
section
variable {F:Nat→Prop} {p n cl cv:Nat} {Av:Option Addr} {L:List Ent} {V:List (List UInt8)} {ds es:List (Option Addr×Nat)} {gl:Nat}
theorem zej (ix sub:Int)(w:World)(hD:DB 100 w F p (some ⟨gl,0,none⟩) n cl Av cv L V ds es)(hs:SortedE L)(hn:n≤1000) :
 Calls Tryz.prog 146 #[.pointer (some ⟨p,0,none⟩),.int .i64 ix,.int .i64 sub] w fun e w'=>e= .returned (.int .i64 (seekL L ix sub))∧ Below w.heap.size w w':=by
 have HS:=zak hs;have HN:=zak hD.ents.hn;obtain⟨s,hse⟩:∃s,s=seekL L ix sub:=⟨_,rfl⟩;have hsl:s≤n:=by rw[hse,HN.out];exact zcx L ix sub
 rw[←hse];have HSE:=zak hse;clear hse hs;have hB1:=hD.blk.alloc (.cells (entV (plE ix sub) none 0 0) 90);have hbw:=za7 (Below.refl w.heap.size w) (.cells (entV (plE ix sub) none 0 0) 90);have q:=zbf w 90 (entV (plE ix sub) none 0 0);go_enter Tryz.func146,Tryz.ntmps146
 go_wp2_with fail
 refine (zeg _ hB1).mono ?_;rintro e w1 ⟨rfl,rfl⟩;go_wp2_with fail
 go_loopw [8,9] (fun lo hi wr=> ∃a b,lo= .int .i64 (a:Nat)∧ hi= .int .i64 (b:Nat)∧ a≤s∧s≤b∧b≤n∧Below (w.heap.size+1) (w.alloc (.cells (entV (plE ix sub) none 0 0) 90)) wr) (fun lo hi _=>(intOf hi).toNat - (intOf lo).toNat)
 case atStart=>exact⟨0,n,rfl,rfl,by omega,hsl,Nat.le_refl _,Below.refl _ _⟩
 case round=>
  obtain⟨a,b,rfl,rfl,ha,hb,hbn,hbr⟩:=hrel;by_cases hlt:a < b
  · obtain⟨m,hm⟩:∃m,m=(a+b) / 2:=⟨_,rfl⟩;have h2:((a:Int)+(b:Int)) / 2=(m:Int):=by omega
    have hm1:m < n:=by omega
    have hm2:a≤m∧m < b:=by omega
    obtain⟨hm3,hm4⟩:=hm2;have HM:=zak hm;clear hm;have hbw1:=hbw.trans (hbr.mono (Nat.le_succ _));have hDr:=hD.below hbw1;obtain⟨E,hE⟩:∃E,L[m]? =some E:=⟨L[m]'(by rw[←HN.out];exact hm1),List.getElem?_eq_getElem _⟩;have HBE:=zak (zc0 L ix sub HS.out m E hE);obtain⟨g,d,hA,zg,_,_,_,c0,c1,c2,c3,c4,c5,c6,c7,c8,c9,c10⟩:=hDr.ent hE;injection hA with hA
    injection hA with hA
    subst hA;have hBr:=hDr.blk;have zp:=hBr.lt;have q1:=q.below hbr (Nat.lt_succ_self _);have zq:=q1.lt;have hidx:=zbk hm1;obtain⟨i1,i2,i3⟩:=hidx;unfold entV plE at q1;simp only[] at q1;obtain⟨bC,bD,bE,bF,bG,bH,bI,bJ,bK,bL,bh⟩:=zbb q1;have cG:=q1.frozen;obtain⟨bi,bj⟩:=za8 hBr;have bM:=hBr.frozen;clear hE hDr;go_wp2_with fail
    refine wp_region_held_drew (S:=(fun w'=>(∀qA:Addr,qA.block < (wr).heap.size→w'.cell? qA=(wr).cell? qA)∧ Below (wr).heap.size (wr) w')) (by kernel_rfl) ?hS1 (fun hHeld=>?rest1)
    case hS1=>exact kSn
    case' rest1=>skip
    iterate 8 (refine tkN ?_;try simp only[PqL,Act.put])
    refine kRd 8 (fun K hK=>?_)
    go_simp
    refine (zec E (plE ix sub) d.1 none E.df.length d.2 0 0 _).mono ?_;rintro e w2 ⟨rfl,hb2⟩;dsimp only;refine hK.out _ _ ?hS12 (fun hHeld=>?rest12)
    case hS12=>exact kSn
    case' rest12=>(clear hK K;try simp only[PqL,Act.put])
    refine wpAnyH_done (by kernel_rfl) ?_ _;have hEnd:=hHeld.2
    repeat (clear hHeld)
    have hb3:=hbr.trans (hEnd.mono (by have:=hbr.size;simpa using this));cases hbe:befE E ix sub
    · have hsm:s≤m:=by
       have:=HBE.out
       rw[hbe,←HSE.out] at this
       simpa using this.symm
      have HB:=zak hbe;have hbe':beforeB E.ix E.sub (plE ix sub).ix (plE ix sub).sub=false:=hbe;rw[hbe'];clear hbe hbe' HBE;go_wp2_with fail
      go_roundw
      case rel=>exact⟨a,m,rfl,rfl,ha,hsm,by omega,hb3⟩
      case measure=>simp[intOf];omega
    · have hsm:m < s:=by
       have:=HBE.out
       rw[hbe,←HSE.out] at this
       simpa using this.symm
      have HB:=zak hbe;have hbe':beforeB E.ix E.sub (plE ix sub).ix (plE ix sub).sub=true:=hbe;rw[hbe'];clear hbe hbe' HBE;go_wp2_with fail
      go_roundw
      case rel=>exact⟨m+1,b,by go_num,rfl,by omega,hb,hbn,hb3⟩
      case measure=>simp[intOf];omega
  · go_wp2_with fail
    go_ret
    refine⟨zau (by omega),hbw.trans (hbr.mono (by omega))⟩
end
end
section
open Go.RowKit
section
variable {F:Nat→Prop} {p n cl cv:Nat} {Av:Option Addr} {L:List Ent} {V:List (List UInt8)} {ds es:List (Option Addr×Nat)} {gl:Nat}
theorem zek (ix sub:Int)(w:World)(hD:DB 100 w F p (some ⟨gl,0,none⟩) n cl Av cv L V ds es)(hs:SortedE L)(hn:n≤1000) :
 Calls Tryz.prog 200 #[.pointer (some ⟨p,0,none⟩),.int .i64 ix,.int .i64 sub] w fun e w'=>e= .returned (.tuple #[.int .i64 (locK L ix sub),.bool (hasL L ix sub)])∧ Below w.heap.size w w':=by
 have HC:=zak (zc9 L ix sub hs);have HS:=zak hs;have HD:=zak hD;clear hs hD;go_enter Tryz.func200,Tryz.ntmps200
 go_wp2_with fail
 refine (zej ix sub _ HD.out HS.out hn).mono ?_;rintro e w1 ⟨rfl,hb1⟩;go_wp2_with fail
 refine (zeh _ ix sub _ (HD.out.below hb1)).mono ?_;rintro e w2 ⟨rfl,rfl⟩;cases h:hereB L[seekL L ix sub]? ix sub
 · have HF:Hid (locK L ix sub=0∧hasL L ix sub=false):=zak (by
    have:=HC.out
    rw[h] at this;unfold locK hasL;rcases this with ⟨h1,_⟩ | ⟨_,_,h1⟩ | ⟨_,_,_,h1⟩ | ⟨_,_,_,h1⟩
    · cases h1
    all_goals (rw[h1];exact⟨rfl,rfl⟩))
   clear h;go_wp2_with fail
   go_ret2
   refine⟨?_,hb1⟩;rw[HF.out.1,HF.out.2]
   rfl
 · have HF:Hid (locK L ix sub=seekL L ix sub∧hasL L ix sub=true):=zak (by
    have:=HC.out
    rw[h] at this;unfold locK hasL;rcases this with ⟨_,h1,_⟩ | ⟨h1,_⟩ | ⟨h1,_⟩ | ⟨h1,_⟩
    · rw[h1];exact⟨rfl,by simp⟩
    all_goals cases h1)
   clear h;go_wp2_with fail
   go_ret2
   refine⟨?_,hb1⟩;rw[HF.out.1,HF.out.2]
   rfl
theorem zel (ix sub:Int)(w:World)(hD:DB 100 w F p (some ⟨gl,0,none⟩) n cl Av cv L V ds es)(hs:SortedE L)(hn:n≤1000) :
 Calls Tryz.prog 84 #[.pointer (some ⟨p,0,none⟩),.int .i64 ix,.int .i64 sub] w fun e w'=>e= .returned (.tuple #[.int .i64 (locK L ix sub),.int .u32 (codeL L ix sub)])∧ Below w.heap.size w w':=by
 have HC:=zc9 L ix sub hs;have HS:=zak hs;have HD:=zak hD;have HL:seekL L ix sub≤n:=by rw[hD.ents.hn];exact zcx L ix sub
 clear hs hD;go_enter Tryz.func84,Tryz.ntmps84
 go_wp2_with fail
 refine (zef _ HD.out.blk).mono ?_;rintro e w1 ⟨rfl,rfl⟩;go_wp2_with fail
 refine (zej ix sub _ HD.out HS.out hn).mono ?_;rintro e w1 ⟨rfl,hb1⟩;have HD1:=zak (HD.out.below hb1);rcases HC with ⟨h1,h2,h3⟩ | ⟨h1,h2,h3⟩ | ⟨h1,h2,h3,h4⟩ | ⟨h1,h2,h3,h4⟩
 · have HF:Hid (locK L ix sub=seekL L ix sub∧codeL L ix sub=0):=zak (by unfold locK codeL;rw[h2];exact⟨rfl,if_pos (by omega)⟩);have H1:=zak h1;clear h1 h2 h3;go_wp2_with fail
   refine (zeh _ ix sub _ HD1.out).mono ?_;rintro e w2 ⟨rfl,rfl⟩;rw[H1.out];go_wp2_with fail
   go_ret2
   refine⟨?_,hb1⟩;rw[HF.out.1,HF.out.2]
   rfl
 · have HF:Hid (locK L ix sub=0∧codeL L ix sub=101253137):=zak (by unfold locK codeL;rw[h3];exact⟨rfl,rfl⟩);have H1:=zak h1;have H2:=zak h2;clear h1 h2 h3;go_wp2_with fail
   refine (zeh _ ix sub _ HD1.out).mono ?_;rintro e w2 ⟨rfl,rfl⟩;rw[H1.out];go_wp2_with fail
   refine (zei _ ix sub _ HD1.out).mono ?_;rintro e w2 ⟨rfl,rfl⟩;rw[H2.out];go_wp2_with fail
   go_ret2
   refine⟨?_,hb1⟩;rw[HF.out.1,HF.out.2]
   rfl
 · have HF:Hid (locK L ix sub=0∧codeL L ix sub=101253137):=zak (by unfold locK codeL;rw[h4];exact⟨rfl,rfl⟩);have H1:=zak h1;have H2:=zak h2;have H3:=zak h3;clear h1 h2 h3 h4;go_wp2_with fail
   refine (zeh _ ix sub _ HD1.out).mono ?_;rintro e w2 ⟨rfl,rfl⟩;rw[H1.out];go_wp2_with fail
   refine (zei _ ix sub _ HD1.out).mono ?_;rintro e w2 ⟨rfl,rfl⟩;rw[H2.out];go_wp2_with fail
   refine (zei _ ix sub _ HD1.out).mono ?_;rintro e w2 ⟨rfl,rfl⟩;rw[H3.out];go_wp2_with fail
   go_ret2
   refine⟨?_,hb1⟩;rw[HF.out.1,HF.out.2]
   rfl
 · have HF:Hid (locK L ix sub=0∧codeL L ix sub=100794368):=zak (by unfold locK codeL;rw[h4];exact⟨rfl,rfl⟩);have H1:=zak h1;have H2:=zak h2;have H3:=zak h3;clear h1 h2 h3 h4;go_wp2_with fail
   refine (zeh _ ix sub _ HD1.out).mono ?_;rintro e w2 ⟨rfl,rfl⟩;rw[H1.out];go_wp2_with fail
   refine (zei _ ix sub _ HD1.out).mono ?_;rintro e w2 ⟨rfl,rfl⟩;rw[H2.out];go_wp2_with fail
   refine (zei _ ix sub _ HD1.out).mono ?_;rintro e w2 ⟨rfl,rfl⟩;rw[H3.out];go_wp2_with fail
   go_ret2
   refine⟨?_,hb1⟩;rw[HF.out.1,HF.out.2]
   rfl
end
end
end
section
section
open Go.RowKit
theorem zem (n:Int)(w:World):Calls Tryz.prog 244 #[.int .i64 n] w fun e w'=>e= .returned (.bool (decide (1≤n) && decide (n≤8)))∧ w=w':=by
 by_cases h1:1≤n
 · by_cases h2:n≤8
   · go_enter Tryz.func244,Tryz.ntmps244
     go_wp2
     go_ret
     exact⟨by simp[h1,h2],rfl⟩
   · go_enter Tryz.func244,Tryz.ntmps244
     go_wp2
     go_ret
     exact⟨by simp[h1,h2],rfl⟩
 · go_enter Tryz.func244,Tryz.ntmps244
   go_wp2
   go_ret
   exact⟨by simp;omega,rfl⟩
set_option maxHeartbeats 400000 in
theorem zen (A:Option Addr)(cap:Nat)(l:List UInt8)(at_ wd:Int)(w:World)
 (hl:l.length≤cap) (hcap:l.length≤4611686018427387904) (ha0:0≤at_) (ha:at_+wd≤l.length) (h1:1≤wd) (h8:wd≤8) (hc:Sl w A (l.map bv)) :
 Calls Tryz.prog 231 #[.slice A l.length cap,.int .i64 at_,.int .i64 wd] w fun e w'=>
  e= .returned (.tuple #[.int .u64 (leN ((l.drop at_.toNat).take wd.toNat)),.int .i64 0])∧ w=w':=by
 have g1:(decide (1≤(wd:Int)) && decide ((wd:Int)≤ 8))=true:=by simp;omega
 go_enter Tryz.func231,Tryz.ntmps231
 go_wp2_with (go_at_call 244;refine (zem _ _).mono ?_;rintro e w' ⟨rfl,rfl⟩)
 go_loop [8,9,32] (fun n _ i=> ∃k:Nat,k≤wd∧i= .int .i64 k∧n= .int .u64 (leN ((l.drop at_.toNat).take k))) (fun _ _ i=>wd.toNat - (intOf i).toNat)
 case atStart=>exact⟨0,by omega,rfl,rfl⟩
 case round=>
  obtain⟨k,hk,rfl,rfl⟩:=hrel;by_cases hlt:(k:Int) < wd
  · obtain⟨ad,rfl,hcell⟩:=hc.byte (j:=at_.toNat+k) (by omega);have e1:(at_+k).toNat=at_.toNat+k:=by omega
    go_wp2_with fail
    go_round
    case rel=>
     have hd:k < (l.drop at_.toNat).length:=by simp;omega
     have hlt':=zan ((l.drop at_.toNat).take k);rw[List.length_take,Nat.min_eq_left (Nat.le_of_lt hd)] at hlt';refine⟨k+1,by omega,by go_num,?_⟩;rw[zas _ _ _ hlt' (UInt8.toNat_lt _) (by omega),zap _ _ hd]
     simp
    case measure=>simp[intOf];omega
  · go_wp2
    go_ret2
    have:k=wd.toNat:=by omega
    subst this;exact⟨rfl,rfl⟩
theorem zeo (A:Option Addr)(n cap:Nat)(l:List UInt8)(at_ wd:Int)(w:World)(hn:n=l.length)
 (hl:n≤cap) (hcap:n≤4611686018427387904) (ha0:0≤at_) (ha:at_+wd≤n) (h1:1≤wd) (h8:wd≤8) (hc:Sl w A (l.map bv)) :
 Calls Tryz.prog 231 #[.slice A n cap,.int .i64 at_,.int .i64 wd] w fun e w'=>
  e= .returned (.tuple #[.int .u64 (leN ((l.drop at_.toNat).take wd.toNat)),.int .i64 0])∧ w=w':=by
 subst hn;exact zen A cap l at_ wd w hl hcap ha0 ha h1 h8 hc
end
section
open Go.RowKit
theorem zep (A1 A2:Option Addr)(n1 n2 c1 c2:Nat)(l1 l2:List UInt8)(w:World)(hn1:n1=l1.length)(hn2:n2=l2.length)(hl:n1≤35184372088832)(hl2:n2≤35184372088832)
 (h1:Sl w A1 (l1.map bv)) (h2:Sl w A2 (l2.map bv)) :
 Calls Tryz.prog 46 #[.slice A1 n1 c1,.slice A2 n2 c2] w fun e w'=> ∃A' n' c',e= .returned (.slice A' n' c')∧
  zbs w' w.heap.size A' n' c' (l1 ++ l2)∧ Below w.heap.size w w':=by
 have H1:=zak hn1;have H2:=zak hn2;clear hn1 hn2;go_enter Tryz.func46,Tryz.ntmps46
 go_wp2_with (first
  | (at_builtin;refine zbt _ rfl (.tmp 6) (.tmp 7) rfl w.heap.size _ _ _ _ rfl (zbs.nil _ _) _ _ _ l1 rfl H1.out h1 (by omega) (Nat.le_refl _) n1 (by omega) ?_;intro A3 c3 w3 hown3 _ _ hb3)
  | (at_builtin;refine zbt _ rfl (.tmp 9) (.tmp 10) rfl w.heap.size _ _ _ _ rfl hown3 _ _ _ l2 rfl H2.out (h2.below hb3) (by omega) hb3.size (n1+n2) rfl ?_;intro A4 c4 w4 hown4 _ _ hb4))
 go_ret
 exact⟨_,_,_,rfl,by simpa using hown4,hb3.trans hb4⟩
theorem zeq (d:List UInt8)(k b:Nat)(h1:1≤k)(hk:k≤d.length)(h8:d.length≤8)(hb:b=(d[k - 1]'(by omega)).toNat) :
 IntKind.u64.wrap (IntKind.u64.wrap (256 * ↑(leN (List.drop k d)))+IntKind.u64.wrap (b:Int))=(leN (d.drop (k - 1)):Int):=by
 have e:d.drop (k - 1)=d[k - 1]'(by omega) :: d.drop k:=by
  rw[List.drop_eq_getElem_cons (by omega)]
  congr 2
  omega
 have hu:U64 (leN (d.drop (k - 1))):=zat (by simp;omega);rw[e] at hu ⊢;simp only[leN] at hu ⊢;rw[←hb] at hu ⊢;unfold U64 at hu;have e1:IntKind.u64.wrap (256 * ↑(leN (List.drop k d)))=256 * ↑(leN (List.drop k d)):=by rw[IntKind.wrap_u64];omega
 have e2:IntKind.u64.wrap (b:Int)=b:=by rw[IntKind.wrap_u64];omega
 rw[e1,e2,IntKind.wrap_u64];omega
set_option maxHeartbeats 400000 in
theorem zer (A:Option Addr)(n cap:Nat)(l:List UInt8)(at_ wd:Int)(w:World)(hn:n=l.length)
 (hl:n≤cap) (hcap:n≤4611686018427387904) (ha0:0≤at_) (ha:at_+wd≤n) (h1:1≤wd) (h8:wd≤8) (hc:Sl w A (l.map bv)) :
 Calls Tryz.prog 208 #[.slice A n cap,.int .i64 at_,.int .i64 wd] w fun e w'=>
  e= .returned (.tuple #[.int .u64 (leN ((l.drop at_.toNat).take wd.toNat)),.int .i64 0])∧ w=w':=by
 have HN:=zak hn;clear hn;have hlen:((l.drop at_.toNat).take wd.toNat).length=wd.toNat:=by have:=HN.out;rw[List.length_take,List.length_drop];omega
 obtain⟨d,hd⟩:∃d,d=(l.drop at_.toNat).take wd.toNat:=⟨_,rfl⟩;rw[←hd] at hlen ⊢;have HD:=zak hd;have HL:=zak hlen;clear hd hlen;go_enter Tryz.func208,Tryz.ntmps208
 go_wp2_with fail
 go_loop [8,9] (fun n i=> ∃k:Nat,k≤wd∧i= .int .i64 ((k:Int) - 1)∧ n= .int .u64 (leN (d.drop k))) (fun _ i=>(intOf i+1).toNat)
 case atStart=>exact⟨wd.toNat,by omega,by go_num,by rw[List.drop_eq_nil_of_le (by rw[HL.out];omega)];rfl⟩
 case round=>
  obtain⟨k,hk,rfl,rfl⟩:=hrel;by_cases hlt:1≤k
  · obtain⟨ad,rfl,hcell⟩:=hc.byte (j:=at_.toNat+(k - 1)) (by have:=HN.out;omega);have e1:(at_+(↑k - 1)).toNat=at_.toNat+(k - 1):=by omega
    go_wp2_with fail
    go_round
    case rel=>
     refine⟨k - 1,by omega,by go_num,?_⟩;rw[zeq d k _ hlt (by rw[HL.out];omega) (by rw[HL.out];omega)];have hd:=HD.out;subst hd;rw[List.getElem_take,List.getElem_drop]
    case measure=>simp[intOf];omega
  · go_wp2
    go_ret2
    have:k=0:=by omega
    subst this;exact⟨by rw[HD.out];rfl,rfl⟩
end
section
open Go.RowKit
theorem zes (A:Option Addr)(n c B:Nat)(l:List UInt8)(w:World)(hl:n≤35184372088832)(hO:Own w B 5 1 A n c (l.map bv))(hB:B≤w.heap.size) :
 Calls Tryz.prog 49 #[.slice A n c] w fun e w'=>e= .returned (.tuple #[])∧ w.grownBy w' (Value.ownBlock (.slice A n c)):=by
 obtain⟨i0,hi0,hz0,hz1,hz2⟩:=info_parts zbq;go_enter Tryz.func49,Tryz.ntmps49
 go_wp2
 go_loopw [2] (fun i wr=> ∃k zs,k≤n∧i= .int .i64 (k:Nat)∧ Own wr B 5 1 A n c (List.map (Value.int .u8) zs)∧ w.grownBy wr (Value.ownBlock (.slice A n c))) (fun i _=>n - (intOf i).toNat)
 case atStart=>exact⟨0,l.map (fun c=>(c.toNat:Int)),by omega,rfl,by rw[List.map_map];exact hO,World.grownBy.refl _ _⟩
 case round=>
  obtain⟨k,zs,hk,rfl,hOr,hgr⟩:=hrel;by_cases hlt:k < n
  · obtain⟨g,u,rfl,hg1,hg2,hu,hcell,hfr⟩:=hOr.cell hlt;obtain⟨z,hz,rfl⟩:∃z,zs[k]? =some z∧u= .int .u8 z:=by
     rw[List.getElem?_map] at hu;obtain⟨z,h1,h2⟩:=Option.map_eq_some_iff.1 hu;exact⟨z,h1,h2.symm⟩
    clear hu hz;go_wp2_with fail
    go_roundw
    case rel=>exact⟨k+1,_,by omega,by go_num,by rw[List.map_set];exact hOr.stored _ _,za3 hgr (.inl rfl) _ _⟩
    case measure=>simp[intOf];omega
  · have hB2:B≤wr.heap.size:=Nat.le_trans hB hgr.size
    go_wp2_with (first
     | (at_builtin;refine zay _ rfl (.tmp 17) (.tmp 18) _ rfl B 5 i0 _ 1 1 Tryz.underlying27 hi0 hz0 hz1 hz2 rfl (by omega) _ _ _ _ rfl (hOr.alloc _) _ _ _ _ rfl rfl (Sl.one _ _ _) (by intro u hu;simp at hu;subst hu;rfl) (by unfold maxLen;omega) (by omega) (by simp;omega) (n+1) rfl _ rfl ?_;intro A4 c4 w4 hown4 hg4 hat4 hb4;obtain⟨g,u,rfl,hg1,hg2,hu,hcell,hfr⟩:=hown4.cell (k:=n) (by omega)))
    go_end0
    refine⟨rfl,za3 ((za4 hgr _).trans hg4) ?_ _ _⟩;have hs:=hgr.size;rcases hat4 with h | h
    · left;rw[←h];rfl
    · right;simp at h;omega
end
end
end Go.Proofs.YtkkpjbjmhaecjaaGreat
