/- None -/
import Derived.Test.YtkkpjbjmhaecjaaGreatU24
import Derived.Test.YtkkpjbjmhaecjaaGreatU13
namespace Go.Proofs.YtkkpjbjmhaecjaaGreat
set_option linter.all false
set_option maxRecDepth 100000
set_option maxHeartbeats 4000000
section
section
open Go.RowKit
theorem zj7 (E:Ent)(A:Option Addr)(n c:Nat)(w:World)(hn:n=E.df.length)(hl:n≤35184372088832)(hs:Sl w A (E.df.map bv)) :
 Calls Tryz.prog 45 #[.agg (entV E A n c)] w fun e w'=> ∃A' c',e= .returned (.agg (entV E A' n c'))∧ zbs w' w.heap.size A' n c' E.df∧Below w.heap.size w w':=by
 have HN:=zak hn;have HS:=zak hs;clear hn hs;have K0:=zbg w 90 90 (entV E A n c) (entV zeroE none 0 0);have hbw:=za7 (za7 (Below.refl w.heap.size w) (.cells (entV E A n c) 90)) (.cells (entV zeroE none 0 0) 90);have HS1:=zak (HS.out.below hbw)
 have HQ:Hid (∀w1 A1 c1,zbs w1 (w.heap.size+1+1) A1 n c1 E.df→Below w.heap.size w w1→Blk w1 (w.heap.size+1) 90 (entV zeroE none 0 0)→ (Blk (put11 (w1.setCell ⟨w.heap.size,10,none⟩ (.slice A1 n c1)) (w.heap.size+1) E A1 n c1) (w.heap.size+1) 90 (entV E A1 n c1)∧
  zbs (put11 (w1.setCell ⟨w.heap.size,10,none⟩ (.slice A1 n c1)) (w.heap.size+1) E A1 n c1) w.heap.size A1 n c1 E.df∧Below w.heap.size w (put11 (w1.setCell ⟨w.heap.size,10,none⟩ (.slice A1 n c1)) (w.heap.size+1) E A1 n c1))):=zak (by
  intro w1 A1 c1 hO hb hB
  have o1:zbv (fun k=>k=w.heap.size∨k=w.heap.size+1) w1 (put11 (w1.setCell ⟨w.heap.size,10,none⟩ (.slice A1 n c1)) (w.heap.size+1) E A1 n c1):=
   (zbv.of_set (F:=fun k=>k=w.heap.size∨k=w.heap.size+1) (.inl rfl) _).trans (zg6 _ _ _ _ _ _) (fun i _ h=> .inr h)
  refine⟨zg5 (hB.far (p:=⟨w.heap.size,10,none⟩) (by simp) _) rfl E A1 n c1,(zhf hO o1 (fun g h1 _ h2=>by omega)).mono (by omega),hb.trans (o1.below hb.size (fun i h=>by omega))⟩)
 unfold put11 at HQ;have HQ':=zak HQ;clear HQ;unfold entV zeroE at K0 hbw;unfold entV;obtain⟨K1,K2⟩:=K0;have hne:w.heap.size≠w.heap.size+1:=by omega
 have kc10:=K1.cell 10 rfl;have hz:(((w.alloc (.cells #[.int .i64 E.ix,.int .i64 E.sub,.string E.nm,.int .i64 E.ty,.int .i64 E.acc,.bool E.mp,.bool E.st,.int .i64 E.mx,.int .i64 E.lo,.int .i64 E.hi,.slice A n c] 90)).alloc (.cells #[.int .i64 0,.int .i64 0,.string ⟨#[]⟩,.int .i64 0,.int .i64 0,.bool false,.bool false,.int .i64 0,.int .i64 0,.int .i64 0,.slice none 0 0] 90)).heap.size)=w.heap.size+1+1:=by simp
 have HZ:=zak hz;clear hz;go_enter Tryz.func45,Tryz.ntmps45
 go_wp2_with (at_builtin;refine zbt _ rfl _ _ rfl (w.heap.size+1+1) _ _ _ _ rfl (zbs.nil _ _) _ _ _ E.df rfl HN.out HS1.out (by omega) (by rw[HZ.out];exact Nat.le_refl _) n (by omega) ?_;intro A1 c1 w1 hO1 _ _ hb1;have HO:=zak hO1;have q1:=K1.below hb1 (by omega);have q2:=K2.below hb1 (by omega);have HQ2:=zak q2;have hbw2:=za6 hb1 (by omega) hbw;clear hO1;have f10:=q1.frozen 10;have g0:=q2.frozen 0;have g1:=q2.frozen 1;have g2:=q2.frozen 2;have g3:=q2.frozen 3;have g4:=q2.frozen 4;have g5:=q2.frozen 5;have g6:=q2.frozen 6;have g7:=q2.frozen 7;have g8:=q2.frozen 8;have g9:=q2.frozen 9;have g10:=q2.frozen 10;have e0:=q2.cell 0 rfl;have e1:=q2.cell 1 rfl;have e2:=q2.cell 2 rfl;have e3:=q2.cell 3 rfl;have e4:=q2.cell 4 rfl;have e5:=q2.cell 5 rfl;have e6:=q2.cell 6 rfl;have e7:=q2.cell 7 rfl;have e8:=q2.cell 8 rfl;have e9:=q2.cell 9 rfl;have e10:=q2.cell 10 rfl;have d0:=q1.cell 0 rfl;have d1:=q1.cell 1 rfl;have d2:=q1.cell 2 rfl;have d3:=q1.cell 3 rfl;have d4:=q1.cell 4 rfl;have d5:=q1.cell 5 rfl;have d6:=q1.cell 6 rfl;have d7:=q1.cell 7 rfl;have d8:=q1.cell 8 rfl;have d9:=q1.cell 9 rfl;have d10:=q1.cell 10 rfl)
 obtain⟨r1,r2,r3⟩:=HQ'.out.out _ _ _ HO.out hbw2 HQ2.out;exact zhc (E:=E) rfl rfl rfl r1 ⟨_,_,rfl,r2,r3⟩
end
section
open Go.RowKit
def RNewR (L:List Ent) (w:World) (e:Ending) (w':World):Prop:=
 ∃p er at_,e= .returned (.tuple #[.pointer (some ⟨p,0,none⟩),.int .i64 er,.int .i64 at_])∧ NewP L er at_∧
  (er=0→ ∃Al n cl Av cv ds es,n=L.length∧DB 106 w' (fun g=>w.heap.size≤g) p Al n cl Av cv L (L.map Ent.df) ds es)∧ Below w.heap.size w w'
theorem zj8 (A:Option Addr)(n c:Nat)(L:List Ent)(w:World)(hn:n=L.length)(hL:SlE w A L)(hf:∀E ∈ L,fitE E) :
 Calls Tryz.prog 10 #[.slice A n c] w (RNewR L w):=by
 have HN:=zak hn;have HL:=zak hL;have HF:=zak hf;have q:=zbf w 106 #[.slice none 0 0,.slice none 0 0];have hbw:=za7 (Below.refl w.heap.size w) (.cells #[.slice none 0 0,.slice none 0 0] 106);by_cases hbig:96 < n
 · clear hn hL hf;go_enter Tryz.func10,Tryz.ntmps10
   go_wp2_with fail
   go_ret3
   exact⟨_,_,_,rfl,.inl ⟨by rw[←HN.out];exact hbig,rfl,rfl⟩,fun h=>by omega,hbw⟩
 have HDC:Hid (DB 106 (w.alloc (.cells #[.slice none 0 0,.slice none 0 0] 106)) (fun g=>w.heap.size≤g) w.heap.size none 0 0 none 0 (L.take 0) ((L.take 0).map Ent.df) [] []):=
  zak ⟨q,Nat.le_refl _,zb2.nil _ _,zb2.nil _ _,by simp,by simp⟩
 clear hn hL hf q;go_enter Tryz.func10,Tryz.ntmps10
 go_wp2_with fail
 go_loopw [6] (fun i wr=> ∃k Al' cl' Av' cv' ds' es',k≤n∧i= .int .i64 (k:Nat)∧ Hid (DB 106 wr (fun g=>w.heap.size≤g) w.heap.size Al' k cl' Av' cv' (L.take k) ((L.take k).map Ent.df) ds' es')∧ Hid (∀j,j < k→chkE L j=0)∧ Below w.heap.size w wr) (fun i _=>n - (intOf i).toNat)
 case atStart=>exact⟨0,_,_,_,_,_,_,by omega,rfl,HDC,zak (by intro j h;omega),hbw⟩
 case round=>
  clear HDC hbw;obtain⟨k,Al',cl',Av',cv',ds',es',hk,rfl,HC,HK,hbr⟩:=hrel;by_cases hlt:k < n
  · obtain⟨E,hE⟩:∃E,L[k]? =some E:=⟨L[k]'(by rw[←HN.out];exact hlt),List.getElem?_eq_getElem _⟩;obtain⟨b,off,Aj,cj,rfl,⟨e0,e1,e2,e3,e4,e5,e6,e7,e8,e9,e10⟩,hcj,hsj⟩:=HL.out k E hE;have CL:Hid (w.cell? ⟨b,off+k * 11,none⟩=some (.int .i64 E.ix)∧ w.cell? ⟨b,off+k * 11+1,none⟩=some (.int .i64 E.sub)∧ w.cell? ⟨b,off+k * 11+2,none⟩=some (.string E.nm)∧ w.cell? ⟨b,off+k * 11+3,none⟩=some (.int .i64 E.ty)∧ w.cell? ⟨b,off+k * 11+4,none⟩=some (.int .i64 E.acc)∧ w.cell? ⟨b,off+k * 11+5,none⟩=some (.bool E.mp)∧ w.cell? ⟨b,off+k * 11+6,none⟩=some (.bool E.st)∧ w.cell? ⟨b,off+k * 11+7,none⟩=some (.int .i64 E.mx)∧ w.cell? ⟨b,off+k * 11+8,none⟩=some (.int .i64 E.lo)∧ w.cell? ⟨b,off+k * 11+9,none⟩=some (.int .i64 E.hi)∧ w.cell? ⟨b,off+k * 11+10,none⟩=some (.slice Aj E.df.length cj)):=zak ⟨e0,e1,e2,e3,e4,e5,e6,e7,e8,e9,e10⟩
    have zb:=zal e0;simp only[] at zb;clear e0 e1 e2 e3 e4 e5 e6 e7 e8 e9 e10;have HE:=zak hE;have HFE:=zak (HF.out E (List.mem_of_getElem? hE));have HCJ:=zak hcj;have HSW:=zak hsj;have HT1:=zak (zh8 hE);have HT2:Hid ((L.take (k+1)).map Ent.df=(L.take k).map Ent.df ++ [E.df]):=zak (by rw[zh8 hE,List.map_append];rfl);obtain⟨i1,i2,i3⟩:=zbk hlt;clear hE hcj hsj;obtain⟨c0,c1,c2,c3,c4,c5,c6,c7,c8,c9,c10⟩:=zhx CL.out hbr;go_wp2_with fail
    refine (zj6 E Aj E.df.length cj _ rfl HCJ.out HFE.out.1 HFE.out.2 (HSW.out.below hbr)).mono ?_;rintro e w1 ⟨rfl,hb1⟩;clear c0 c1 c2 c3 c4 c5 c6 c7 c8 c9 c10;have hb1':=za5 hb1 hbr;by_cases hr:rightE E=0
    · have HR:=zak hr;rw[hr];clear hr;go_wp2_with fail
      go_cut [45] (fun s wx=> ∃bb:Bool,s= .bool bb∧Hid (chkE L k=if bb=true then 16 else 0)∧ Below wr.heap.size wr wx)
      case first=>
       rcases (show k=0∨1≤k by omega) with hk0 | hk0
       · have HC0:Hid (chkE L k=0):=zak (zdi HE.out HR.out hk0);have hk1:(k:Int)=0:=by omega
         refine wp_region_held_drew (S:=(fun w'=>(∀qA:Addr,qA.block < (w1).heap.size→w'.cell? qA=(w1).cell? qA)∧ Below (w1).heap.size (w1) w')) (by kernel_rfl) ?hS1 (fun hHeld=>?rest1)
         case hS1=>exact kSn
         case' rest1=>skip
         iterate 3 (refine tkN ?_;try simp only[PqL,Act.put])
         iterate 11 (refine tkV ?_;try simp only[PqL,Act.put])
         refine tkN ?_;try simp only[PqL,Act.put];refine wpAnyH_done (by kernel_rfl) ?_ _;have hEnd:=hHeld.2
         repeat (clear hHeld)
         go_wp2_with fail
         go_meet
         case rel=>exact⟨false,rfl,zak (by rw[HC0.out];rfl),hb1.drew⟩
       · obtain⟨D,hDD⟩:∃D,L[k - 1]? =some D:=⟨L[k - 1]'(by rw[←HN.out];omega),List.getElem?_eq_getElem _⟩;obtain⟨b',off',Aj',cj',hAA,⟨d0,d1,d2,d3,d4,d5,d6,d7,d8,d9,d10⟩,_,_⟩:=(HL.out.below hb1') (k - 1) D hDD;injection hAA with hAA
         injection hAA with hA1 hA2
         subst hA1;subst hA2;have HB:Hid (chkE L k=if befE D E.ix E.sub=true then 0 else 16):=zak (zdj HE.out hDD hk0 HR.out);obtain⟨c0,c1,c2,c3,c4,c5,c6,c7,c8,c9,c10⟩:=zhx CL.out hb1';have z1:=zal d0;simp only[] at z1;obtain⟨q1,q3,q4,q5,q6,q7,q8,q9,q10,q11,q12⟩:=zbj hk0 hk (by omega);clear hDD;refine wp_region_held_drew (S:=(fun w'=>(∀qA:Addr,qA.block < (w1).heap.size→w'.cell? qA=(w1).cell? qA)∧ Below (w1).heap.size (w1) w')) (by kernel_rfl) ?hS18 (fun hHeld=>?rest18)
         case hS18=>exact kSn
         case' rest18=>skip
         iterate 12 (refine tkN ?_;try simp only[PqL,Act.put])
         refine kRd 12 (fun K hK=>?_)
         go_simp
         refine (zed D E Aj' Aj D.df.length cj' E.df.length cj _).mono ?_;rintro e w2 ⟨rfl,hb2⟩;dsimp only;refine hK.out _ _ ?hS33 (fun hHeld=>?rest33)
         case hS33=>exact kSn
         case' rest33=>(clear hK K;try simp only[PqL,Act.put])
         refine tkH 13 ?_;try simp only[PqL,Act.put]
         refine tkH 14 ?_;try simp only[PqL,Act.put]
         refine wpAnyH_done (by kernel_rfl) ?_ _;have hEnd:=hHeld.2
         repeat (clear hHeld)
         have hb2':=za5 hEnd hb1;cases hbe:befE D E.ix E.sub
         · have hbe':beforeB D.ix D.sub E.ix E.sub=false:=hbe;rw[hbe'];have HC0:Hid (chkE L k=16):=zak (by rw[HB.out,hbe];rfl);clear hbe hbe';go_wp2_with fail
           go_meet
           case rel=>exact⟨true,by rfl,zak (by rw[HC0.out];rfl),hb2'⟩
         · have hbe':beforeB D.ix D.sub E.ix E.sub=true:=hbe;rw[hbe'];have HC0:Hid (chkE L k=0):=zak (by rw[HB.out,hbe];rfl);clear hbe hbe';go_wp2_with fail
           go_meet
           case rel=>exact⟨false,by rfl,zak (by rw[HC0.out];rfl),hb2'⟩
      case rest=>
       obtain⟨bb,rfl,HB16,hwc⟩:=hcut;cases bb
       · go_wp2_with fail
         have hC0:chkE L k=0:=by rw[HB16.out];rfl
         have HKN:Hid (∀j,j < k+1→chkE L j=0):=zak (fun j hj=>by
          rcases Nat.lt_succ_iff_lt_or_eq.1 hj with h | h
          · exact HK.out j h
          · rw[h];exact hC0)
         clear hC0 HB16;have hwc0:=za5 hwc hbr;have hBc:=HC.out.blk.below hwc HC.out.blk.lt;have rC:=zak hBc;have HSX:=zak (HSW.out.below hwc0);obtain⟨c0,c1,c2,c3,c4,c5,c6,c7,c8,c9,c10⟩:=zhx CL.out hwc0;obtain⟨cS,fH⟩:=za8 hBc;have gm:=hBc.frozen;refine zaj (fun w'=>(w'.cell? ⟨b,off+k * 11,none⟩=some (.int .i64 E.ix)∧ w'.cell? ⟨b,off+k * 11+1,none⟩=some (.int .i64 E.sub)∧ w'.cell? ⟨b,off+k * 11+2,none⟩=some (.string E.nm)∧ w'.cell? ⟨b,off+k * 11+3,none⟩=some (.int .i64 E.ty)∧ w'.cell? ⟨b,off+k * 11+4,none⟩=some (.int .i64 E.acc)∧ w'.cell? ⟨b,off+k * 11+5,none⟩=some (.bool E.mp)∧ w'.cell? ⟨b,off+k * 11+6,none⟩=some (.bool E.st)∧ w'.cell? ⟨b,off+k * 11+7,none⟩=some (.int .i64 E.mx)∧ w'.cell? ⟨b,off+k * 11+8,none⟩=some (.int .i64 E.lo)∧ w'.cell? ⟨b,off+k * 11+9,none⟩=some (.int .i64 E.hi)∧ w'.cell? ⟨b,off+k * 11+10,none⟩=some (.slice Aj E.df.length cj))∧ w'.cell? ⟨w.heap.size,0,none⟩=some (.slice Al' k cl')) [0,1,2,3,4,5,6,7,8] (by kernel_rfl) ?hS37 (fun hHeld=>?rest37)
         case hS37=>((try dsimp only);exact⟨zhx CL.out hwc0.drew,cS⟩)
         case' rest37=>skip
         refine tkT 0 ?_;try simp only[PqL,Act.put]
         refine tkT 1 ?_;try simp only[PqL,Act.put]
         refine tkT 2 ?_;try simp only[PqL,Act.put]
         refine tkT 3 ?_;try simp only[PqL,Act.put]
         refine tkT 4 ?_;try simp only[PqL,Act.put]
         refine tkT 5 ?_;try simp only[PqL,Act.put]
         refine tkT 6 ?_;try simp only[PqL,Act.put]
         refine tkT 7 ?_;try simp only[PqL,Act.put]
         refine tkT 8 ?_;try simp only[PqL,Act.put]
         refine zag (i:=9) (o:=_) rfl (by kernel_rfl) (fun K hK=>?_)
         go_simp
         refine (zj7 E Aj E.df.length cj _ rfl HFE.out.1 HSX.out.drew).mono ?_;rintro e w2 ⟨A3,c3',rfl,hO3,hb3⟩;dsimp only;unfold entV;replace hb3:=zhy hb3;have hw3:=za5 hb3 hwc0;have k2:=zak (rC.out.below hb3 rC.out.lt);refine hK.out _ _ ?hS48 (fun hHeld=>?rest48)
         case hS48=>((try dsimp only);(exact⟨zhx CL.out hw3,k2.out.cell 0 rfl⟩))
         case' rest48=>(clear hK K;try simp only[PqL,Act.put])
         refine zag (i:=10) (o:=_) rfl (by kernel_rfl) (fun K hK=>?_)
         go_simp
         refine hK.out _ _ ?hS50 (fun hHeld=>?rest50)
         case hS50=>((try dsimp only);(exact⟨zhx CL.out (za7 hw3 _),(k2.out.alloc _).cell 0 rfl⟩))
         case' rest50=>(clear hK K;try simp only[PqL,Act.put])
         have hb5:=za7 hb3 (.cells (entV E A3 E.df.length c3') 90);have hb7:=za5 hb5 hwc;have hb8:=za5 hb7 hbr;have hz5:=hbr.size;have hz6:=hb7.size;have hz7:=(za5 hwc hbr).size;have k2':=zak (k2.out.alloc (.cells (entV E A3 E.df.length c3') 90));unfold entV at hb5 hb7 hb8 k2' hz6;refine zag (i:=11) (o:=_) rfl (by kernel_rfl) (fun K hK=>?_);rw[if_pos (show Region.wanted _ _=true by kernel_rfl)];refine zhw (f:=entF) (k:=11) (e:=90) (dat:=Ent.df) (F:=fun g=>w.heap.size≤g) _ _ 22 rfl zd2 zd4 (by decide) 104 _ Tryz.underlying22 zd6 rfl (by omega) (by omega) Al' k cl' (L.take k) ds' rfl (HC.out.ents.below hb7) E (A3,c3') _ rfl (by exact (Blk.new _ _ _).sl) ((hO3.alloc _).mono (Nat.zero_le _)) (hO3.own.fin.mono (fun g h=>Nat.le_trans hz7 h.1)) (fun g h=>Nat.le_trans (Nat.le_trans hz5 hz6) h) (by omega) ?_
         intro A4 c4 w4 hO4 hg4 hr4;have m2:=zak (k2'.out.grown hg4 (zby k2'.out (HC.out.ents.below hb7).own (by decide)));have mV:=zak ((HC.out.vals.below hb7).grownT hg4 (HC.out.ents.below hb7).own (by decide) (by decide));have mb:Below w.heap.size w w4:=hb8.grown hg4 hb8.size (fun q hq=>by
          rcases HC.out.ents.own.shape with ⟨h1,_⟩ | ⟨g',h1,_,_⟩
          · rw[h1] at hq;cases hq
          · have:=HC.out.ents.inF g' h1
            rw[h1] at hq;simp[Value.ownBlock] at hq;omega)
         rw[←HT1.out] at hO4;have mE:=zak hO4;clear hO4 hO3 hr4 k2 k2' hg4 hw3 hb5 hb7 hb8 hz6 hz7;refine hK.out _ _ ?hS52 (fun hHeld=>?rest52)
         case hS52=>((try dsimp only);(exact⟨zhx CL.out mb,m2.out.cell 0 rfl⟩))
         case' rest52=>(clear hK K;try simp only[PqL,Act.put])
         have m2c:=m2.out.cell 0 rfl;have m2f:=m2.out.frozen 0;refine zag (i:=12) (o:=_) rfl (by kernel_rfl) (fun K hK=>?_)
         go_simp
         refine hK.out _ _ ?hS54 (fun hHeld=>?rest54)
         case hS54=>((try dsimp only);(exact⟨zhx CL.out mb,m2.out.cell 0 rfl⟩))
         case' rest54=>(clear hK K;try simp only[PqL,Act.put])
         refine zag (i:=13) (o:=_) rfl (by kernel_rfl) (fun K hK=>?_)
         go_simp
         refine hK.out _ _ ?hS56 (fun hHeld=>?rest56)
         case hS56=>((try dsimp only);(exact⟨zhx CL.out mb,m2.out.cell 0 rfl⟩))
         case' rest56=>(clear hK K;try simp only[PqL,Act.put])
         refine zah (i:=14) (o:=_) rfl (by kernel_rfl) (by kernel_rfl) (fun K hK=>?_)
         go_simp
         refine hK.out _ _ ?rest58
         case' rest58=>(clear hK K;try simp only[PqL,Act.put])
         refine zai (by kernel_rfl) ?_ _
         repeat (clear hHeld)
         clear m2c m2f;clear cS;have n2:=zak (m2.out.set_ 0 (.slice A4 (k+1) c4));have nE:=zak (mE.out.setT m2.out (by decide) (by decide) 0 (.slice A4 (k+1) c4));have nV:=zak (mV.out.setT m2.out (by decide) (by decide) 0 (.slice A4 (k+1) c4));have nb:=zbi mb (p:=⟨w.heap.size,0,none⟩) (Nat.le_refl _) (.slice A4 (k+1) c4);generalize hw5:w4.setCell ⟨w.heap.size,0,none⟩ (.slice A4 (k+1) c4)=w5 at *
         clear hw5 mE mV mb m2 rC;go_wp2_with fail
         have dF:=(zhx CL.out nb).2.2.2.2.2.2.2.2.2.2;have ev:=n2.out.cell 1 rfl;refine zaj (fun w'=>w'.cell? ⟨b,off+k * 11+10,none⟩=some (.slice Aj E.df.length cj)∧ w'.cell? ⟨w.heap.size,1,none⟩=some (.slice Av' k cv')) [0,1,2,3,4,5,6,7,8,9] (by kernel_rfl) ?hS60 (fun hHeld=>?rest60)
         case hS60=>((try dsimp only);exact⟨(zhx CL.out nb.drew).2.2.2.2.2.2.2.2.2.2,n2.out.cell 1 rfl⟩)
         case' rest60=>skip
         refine tkT 0 ?_;try simp only[PqL,Act.put]
         refine tkT 1 ?_;try simp only[PqL,Act.put]
         refine tkT 2 ?_;try simp only[PqL,Act.put]
         refine tkT 3 ?_;try simp only[PqL,Act.put]
         refine tkT 4 ?_;try simp only[PqL,Act.put]
         refine tkT 5 ?_;try simp only[PqL,Act.put]
         refine tkT 6 ?_;try simp only[PqL,Act.put]
         refine tkT 7 ?_;try simp only[PqL,Act.put]
         refine tkT 8 ?_;try simp only[PqL,Act.put]
         refine tkT 9 ?_;try simp only[PqL,Act.put]
         refine zag (i:=10) (o:=_) rfl (by kernel_rfl) (fun K hK=>?_)
         go_simp
         refine (zjx Aj E.df.length cj E.df _ rfl HFE.out.1 (HSW.out.below nb).drew).mono ?_;rintro e w6 ⟨A5,c5,rfl,hO5,hb5⟩;dsimp only;replace hb5:=zhy hb5;have o2:=zak (n2.out.below hb5 n2.out.lt);have ob:=za5 hb5 nb;have hz8:=nb.size;have ofi:=hO5.own.fin;refine hK.out _ _ ?hS72 (fun hHeld=>?rest72)
         case hS72=>((try dsimp only);(exact⟨(zhx CL.out ob).2.2.2.2.2.2.2.2.2.2,o2.out.cell 1 rfl⟩))
         case' rest72=>(clear hK K;try simp only[PqL,Act.put])
         have ob2:=za7 ob (.cells #[.slice A5 E.df.length c5] 27);have o3:=zak (o2.out.alloc (.cells #[.slice A5 E.df.length c5] 27));have hb6:=za7 hb5 (.cells #[.slice A5 E.df.length c5] 27);refine zag (i:=11) (o:=_) rfl (by kernel_rfl) (fun K hK=>?_)
         go_simp
         refine hK.out _ _ ?hS74 (fun hHeld=>?rest74)
         case hS74=>((try dsimp only);(exact⟨(zhx CL.out ob2).2.2.2.2.2.2.2.2.2.2,o3.out.cell 1 rfl⟩))
         case' rest74=>(clear hK K;try simp only[PqL,Act.put])
         have hz9:=ob2.size;refine zag (i:=12) (o:=_) rfl (by kernel_rfl) (fun K hK=>?_);rw[if_pos (show Region.wanted _ _=true by kernel_rfl)];refine zhw (f:=valF) (k:=1) (e:=27) (dat:=fun v=>v) (F:=fun g=>w.heap.size≤g) _ _ 98 rfl zd3 zd5 (by decide) 24 _ Tryz.underlying98 zd7 rfl (by omega) (by omega) Av' k cv' ((L.take k).map Ent.df) es' rfl (nV.out.below hb6) E.df (A5,c5) _ rfl (by exact (Blk.new _ _ _).sl) ((hO5.alloc _).mono (Nat.zero_le _)) (ofi.mono (fun g h=>Nat.le_trans hz8 h.1)) (fun g h=>Nat.le_trans hz9 h) (by omega) ?_;intro A6 c6 w7 hO6 hg6 hr6;have p2:=zak (o3.out.grown hg6 (zby o3.out (nV.out.below hb6).own (by decide)))
         have pE:=zak ((nE.out.below hb6).grownT hg6 (nV.out.below hb6).own (by decide) (by decide));have pb:Below w.heap.size w w7:=ob2.grown hg6 ob2.size (fun q hq=>by
          rcases nV.out.own.shape with ⟨h1,_⟩ | ⟨g',h1,_,_⟩
          · rw[h1] at hq;cases hq
          · have:=nV.out.inF g' h1
            rw[h1] at hq;simp[Value.ownBlock] at hq;omega)
         rw[←HT2.out] at hO6;have pV:=zak hO6;clear hO6 hO5 hr6 hg6 ofi hb5 hb6 ob2 o2 o3 dF ev;refine hK.out _ _ ?hS76 (fun hHeld=>?rest76)
         case hS76=>((try dsimp only);(exact⟨(zhx CL.out pb).2.2.2.2.2.2.2.2.2.2,p2.out.cell 1 rfl⟩))
         case' rest76=>(clear hK K;try simp only[PqL,Act.put])
         have p2c:=p2.out.cell 1 rfl;have p2f:=p2.out.frozen 1;refine zag (i:=13) (o:=_) rfl (by kernel_rfl) (fun K hK=>?_)
         go_simp
         refine hK.out _ _ ?hS78 (fun hHeld=>?rest78)
         case hS78=>((try dsimp only);(exact⟨(zhx CL.out pb).2.2.2.2.2.2.2.2.2.2,p2.out.cell 1 rfl⟩))
         case' rest78=>(clear hK K;try simp only[PqL,Act.put])
         refine zag (i:=14) (o:=_) rfl (by kernel_rfl) (fun K hK=>?_)
         go_simp
         refine hK.out _ _ ?hS80 (fun hHeld=>?rest80)
         case hS80=>((try dsimp only);(exact⟨(zhx CL.out pb).2.2.2.2.2.2.2.2.2.2,p2.out.cell 1 rfl⟩))
         case' rest80=>(clear hK K;try simp only[PqL,Act.put])
         refine zah (i:=15) (o:=_) rfl (by kernel_rfl) (by kernel_rfl) (fun K hK=>?_)
         go_simp
         refine hK.out _ _ ?rest82
         case' rest82=>(clear hK K;try simp only[PqL,Act.put])
         refine zai (by kernel_rfl) ?_ _
         repeat (clear hHeld)
         have HC2:Hid (DB 106 (w7.setCell ⟨w.heap.size,1,none⟩ (.slice A6 (k+1) c6)) (fun g=>w.heap.size≤g) w.heap.size A4 (k+1) c4 A6 c6 (L.take (k+1)) ((L.take (k+1)).map Ent.df) (ds' ++ [(A3,c3')]) (es' ++ [(A5,c5)])):=
          zak ⟨p2.out.set_ 1 _,Nat.le_refl _,pE.out.setT p2.out (by decide) (by decide) 1 _,pV.out.setT p2.out (by decide) (by decide) 1 _,fun E hE=>HF.out E (List.mem_of_mem_take hE),fun v hv=>by
           obtain⟨D,hD,rfl⟩:=List.mem_map.1 hv;exact (HF.out D (List.mem_of_mem_take hD)).1⟩
         have pb2:=zbi pb (p:=⟨w.heap.size,1,none⟩) (Nat.le_refl _) (.slice A6 (k+1) c6);clear p2c p2f;go_wp2_with fail
         go_roundw
         case rel=>exact⟨k+1,A4,c4,A6,c6,_,_,by omega,by go_num,HC2,HKN,pb2⟩
         case measure=>simp[intOf];omega
       · have hbx:=za7 (za5 hwc hbr) (.cells #[.slice none 0 0,.slice none 0 0] 106);go_wp2_with fail
         go_ret3
         exact⟨_,_,_,rfl,.inr (.inl ⟨by rw[←HN.out];omega,by decide,k,by rw[←HN.out];exact hlt,by rw[HB16.out];rfl,rfl,HK.out⟩),fun h=>absurd h (by decide),hbx⟩
    · have HR:Hid (chkE L k=rightE E∧rightE E≠0):=zak ⟨zdh HE.out hr,hr⟩;obtain⟨er,her⟩:∃er,er=rightE E:=⟨_,rfl⟩;have hr': ¬er=0:=by rw[her];exact hr
      rw[←her];have HER:=zak her;have hbx:=za7 hb1' (.cells #[.slice none 0 0,.slice none 0 0] 106);clear hr her;go_wp2_with fail
      go_ret3
      exact⟨_,_,_,rfl,.inr (.inl ⟨by rw[←HN.out];omega,hr',k,by rw[←HN.out];exact hlt,by rw[HR.out.1,HER.out],rfl,HK.out⟩),fun h=>absurd h hr',hbx⟩
  · have hkn:k=n:=by omega
    go_wp2_with fail
    go_ret3
    have h1:=HC.out;have h2:=HK.out;rw[List.take_of_length_le (by rw[hkn,HN.out];exact Nat.le_refl _)] at h1;exact⟨_,0,0,rfl,.inr (.inr ⟨by rw[←HN.out];omega,rfl,rfl,by rw[←HN.out,←hkn];exact h2⟩),fun _=>⟨Al',k,cl',Av',cv',ds',es',by rw[hkn];exact HN.out,h1⟩,hbr⟩
end
section
open Go.RowKit
section
variable {F:Nat→Prop} {p n cl cv:Nat} {Al Av:Option Addr} {L:List Ent} {V:List (List UInt8)} {ds es:List (Option Addr×Nat)}
def RPutR (F:Nat→Prop) (p n cl:Nat) (Al Av:Option Addr) (cv:Nat) (L:List Ent) (V:List (List UInt8)) (ds:List (Option Addr×Nat)) (ix sub:Int) (b:List UInt8) (any:Bool) (w:World) (e:Ending) (w':World):Prop:=
 ∃V' es',e= .returned (.int .u32 (mayC L ix sub b any))∧ V'=putV L V ix sub b any∧DB 106 w' (fun g=>F g∨w.heap.size≤g) p Al n cl Av cv L V' ds es'∧zbv F w w'
theorem zj9 (ix sub:Int)(A:Option Addr)(m c:Nat)(b:List UInt8)(w:World)(hD:DB 106 w F p Al n cl Av cv L V ds es)(hn:n≤1000)
 (hm:m=b.length) (hc:m≤c) (hl:m≤35184372088832) (hb:Sl w A (b.map bv)) :
 Calls Tryz.prog 51 #[.pointer (some ⟨p,0,none⟩),.int .i64 ix,.int .i64 sub,.slice A m c] w (RPutR F p n cl Al Av cv L V ds ix sub b false w):=by
 have HC:=zak (zj4 ix sub A m c b w hD hn hm hc hl hb);have HD:=zak hD;have HM:=zak hm;have HB:=zak hb;obtain⟨cc,hce⟩:∃cc,cc=mayC L ix sub b false:=⟨_,rfl⟩;have HE:=zak hce;by_cases h0:cc=0
 · have h0':mayC L ix sub b false=0:=by rw[←hce];exact h0
   obtain⟨k,hk,hlk,hkl⟩:=zdr (zdd.1 (zdp h0'));have hkn:k < n:=by rw[hD.ents.hn];exact hkl
   have HP:Hid (putV L V ix sub b false=V.set k b):=zak (by unfold putV;rw[if_pos h0',hlk]);have H0:=zak h0';have HK:=zak hk;have hvl:=hD.lenV;have HFB:=zak hl;have HN:=zak hn;clear hD hm hb hce hc h0 h0' hk hlk hl;go_enter Tryz.func51,Tryz.ntmps51
   go_wp2_with fail
   refine HC.out.mono ?_;rintro e w1 ⟨rfl,hb1⟩;have HD1:=zak (HD.out.below hb1);have HB1:=zak (HB.out.below hb1);clear HC;rw[H0.out];obtain⟨v,hv⟩:∃v,V[k]? =some v:=⟨V[k]'(by rw[hvl];exact hkl),List.getElem?_eq_getElem _⟩;obtain⟨gv,dv,rfl,zv,_,_,_,cv0,cf0,hFv⟩:=HD1.out.val hv;have hB2:=HD1.out.blk;have zp:=hB2.lt;obtain⟨bY,bo⟩:=za8 hB2;have cR:=hB2.frozen;obtain⟨i1,i2,i3⟩:=zbk hkn;have hne:p≠gv:=fun h=>zby hB2 HD1.out.vals.own (by decide) (by rw[h];rfl)
   have HFV:=zak hFv;clear hv hvl hFv hkl;go_wp2_with fail
   refine wp_region_held_drew (S:=(fun w'=>w'.cell? ⟨p,1,none⟩=some (.slice (some ⟨gv,0,none⟩) n cv)∧ True)) (by kernel_rfl) ?hS84 (fun hHeld=>?rest84)
   case hS84=>((try dsimp only);(exact⟨bo,trivial⟩))
   case' rest84=>skip
   iterate 7 (refine tkN ?_;try simp only[PqL,Act.put])
   refine tkH 8 ?_;try simp only[PqL,Act.put]
   refine kRd 7 (fun K hK=>?_)
   go_simp
   refine (zjz ix sub _ (HD1.out.below (Below.drew (Below.refl _ _))) HN.out).mono ?_;rintro e w2 ⟨rfl,hw2⟩;subst hw2;dsimp only;rw[HK.out];refine hK.out _ _ ?hS95 (fun hHeld=>?rest95)
   case hS95=>((try dsimp only);(exact⟨bo,trivial⟩))
   case' rest95=>(clear hK K;try simp only[PqL,Act.put])
   refine kRd 9 (fun K hK=>?_)
   go_simp
   refine (zjx A m c b _ HM.out HFB.out HB1.out.drew).mono ?_;rintro e w2 ⟨A3,c3,rfl,hO3,hb3⟩;dsimp only;have zp':p < w1.drew.heap.size:=zp;refine hK.out _ _ ?hS98 (fun hHeld=>?rest98)
   case hS98=>((try dsimp only);(exact⟨(Blk.below (w:=w1.drew) hB2 hb3 zp').cell 1 rfl,trivial⟩))
   case' rest98=>(clear hK K;try simp only[PqL,Act.put])
   have zv3:=Nat.lt_of_lt_of_le zv hb3.size;have hf3:w2.frozen? ⟨gv,k,none⟩=false:=(hb3.frozen (p:=⟨gv,k,none⟩) zv).trans cf0;have hc3:w2.cell? ⟨gv,k,none⟩=w1.cell? ⟨gv,k,none⟩:=hb3.cell (p:=⟨gv,k,none⟩) zv;rw[cv0] at hc3;refine tkH 10 ?_;try simp only[PqL,Act.put]
   refine kRd 11 (fun K hK=>?_)
   go_simp
   refine hK.out _ _ ?hS102 (fun hHeld=>?rest102)
   case hS102=>((try dsimp only);(exact⟨((Blk.below (w:=w1.drew) hB2 hb3 zp').far hne _).cell 1 rfl,trivial⟩))
   case' rest102=>(clear hK K;try simp only[PqL,Act.put])
   refine wpAnyH_done (by kernel_rfl) ?_ _;have hEnd:=hHeld.2
   repeat (clear hHeld)
   go_wp2_with fail
   go_ret
   have hb4:Below w1.heap.size w1 w2:=⟨hb3.os,hb3.tape,hb3.output,hb3.size,hb3.block⟩;have HD3:=HD1.out.below (w':=w2) hb4;refine⟨_,_,by rw[H0.out];rfl,HP.out.symm,DB.store (HD3.mono (fun g _ h=> .inl h)) (by decide) hkn (hO3.mono (Nat.zero_le _)) ?_ (by have:=HM.out;have:=HFB.out;unfold fitB;omega),?_⟩
   · exact hO3.own.fin.mono (fun g h=> .inr (by have:=hb1.size;have:=h.1;simp at this;omega))
   · exact ((zbv.of_below hb1).step hb4).trans (zbv.of_set (F:=F) HFV.out _) (fun _ _ h=>h)
 · have HP:Hid (putV L V ix sub b false=V):=zak (by unfold putV;rw[if_neg (by rw[←hce];exact h0)]);clear hD hn hm hb hce hc;go_enter Tryz.func51,Tryz.ntmps51
   go_wp2_with fail
   refine HC.out.mono ?_;rintro e w1 ⟨rfl,hb1⟩;have HD1:=zak (HD.out.below hb1);rw[←HE.out];go_wp2_with fail
   go_ret
   exact⟨V,es,by rw[←HE.out];rfl,HP.out.symm,HD1.out.mono (fun g _ h=> .inl h),zbv.of_below hb1⟩
end
end
end
end Go.Proofs.YtkkpjbjmhaecjaaGreat
