/- None -/
import Derived.Test.YtkkpjbjmhaecjaaGreatT15
import Derived.Laws.RangeString
import Derived.LoopN
import Derived.Laws.BitsAllLaws
namespace Go.Proofs.YtkkpjbjmhaecjaaGreat
set_option linter.all false
set_option maxRecDepth 100000
set_option maxHeartbeats 4000000
section
open Go.RowKit
def NewR (L:List Ent) (w:World) (e:Ending) (w':World):Prop:=
 ∃v er at_,e= .returned (.tuple #[v,.int .i64 er,.int .i64 at_])∧ NewP L er at_∧(er≠0→v= .pointer none)∧
  (er=0→ ∃p gl n cl Av cv ds es,v= .pointer (some ⟨p,0,none⟩)∧ n=L.length∧DB 100 w' (fun g=>w.heap.size≤g) p (some ⟨gl,0,none⟩) n cl Av cv L (L.map Ent.df) ds es)∧ Below w.heap.size w w'
theorem zvo (A:Option Addr)(n c:Nat)(L:List Ent)(w:World)(hn:n=L.length)(hL:SlE w A L)(hf:∀E ∈ L,fitE E) :
 Calls Tryz.prog 9 #[.slice A n c] w (NewR L w):=by
 have HN:=zak hn;have HL:=zak hL;have HF:=zak hf;by_cases hbig:96 < n
 · clear hn hL hf;go_enter Tryz.func9,Tryz.ntmps9
   go_wp2_with fail
   go_ret3
   exact⟨_,_,_,rfl,.inl ⟨by rw[←HN.out];exact hbig,rfl,rfl⟩,fun _=>rfl,fun h=>by omega,Below.refl _ _⟩
 have q:=zdh w 90 100 #[] #[.slice (some ⟨w.heap.size,0,none⟩) 0 0,.slice none 0 0];have hbw:=zc5 (zc5 (Below.refl w.heap.size w) (.cells #[] 90)) (.cells #[.slice (some ⟨w.heap.size,0,none⟩) 0 0,.slice none 0 0] 100)
 have HDC:Hid (DB 100 ((w.alloc (.cells #[] 90)).alloc (.cells #[.slice (some ⟨w.heap.size,0,none⟩) 0 0,.slice none 0 0] 100)) (fun g=>w.heap.size≤g) (w.heap.size+1) (some ⟨w.heap.size,0,none⟩) 0 0 none 0 (L.take 0) ((L.take 0).map Ent.df) [] []):=
  zak ⟨q.2,Nat.le_succ _,zd8.empty q.1 (Nat.le_refl _),zd8.nil _ _,by simp,by simp⟩
 clear hn hL hf q;go_enter Tryz.func9,Tryz.ntmps9
 go_wp2_with fail
 go_loopw [17] (fun i wr=> ∃k ga cl' Av' cv' ds' es',k≤n∧i= .int .i64 (k:Nat)∧ Hid (DB 100 wr (fun g=>w.heap.size≤g) (w.heap.size+1) (some ⟨ga,0,none⟩) k cl' Av' cv' (L.take k) ((L.take k).map Ent.df) ds' es')∧ Hid (∀j,j < k→chkE L j=0)∧ Below w.heap.size w wr) (fun i _=>n - (intOf i).toNat)
 case atStart=>exact⟨0,_,_,_,_,_,_,by omega,rfl,HDC,zak (by intro j h;omega),hbw⟩
 case round=>
  clear HDC hbw;obtain⟨k,ga,cl',Av',cv',ds',es',hk,rfl,HC,HK,hbr⟩:=hrel;by_cases hlt:k < n
  · obtain⟨E,hE⟩:∃E,L[k]? =some E:=⟨L[k]'(by rw[←HN.out];exact hlt),List.getElem?_eq_getElem _⟩;obtain⟨b,off,Aj,cj,rfl,⟨c0,c1,c2,c3,c4,c5,c6,c7,c8,c9,c10⟩,hcj,hsj⟩:=HL.out.two hbr hE;have HE:=zak hE;have HFE:=zak (HF.out E (List.mem_of_getElem? hE));have HCJ:=zak hcj;have HSK:=zak (hsj.below hbr);have HSW:=zak hsj;have HT1:=zak (zko hE);have HT2:Hid ((L.take (k+1)).map Ent.df=(L.take k).map Ent.df ++ [E.df]):=zak (by rw[zko hE,List.map_append];rfl);have HSJ:=zak ((hsj.below hbr).alloc (.cells (entV E Aj E.df.length cj) 90));obtain⟨i1,i2,i3⟩:=zdl hlt;have q:=zdg wr 90 (entV E Aj E.df.length cj)
    have hb0:=zc5 (Below.refl wr.heap.size wr) (.cells (entV E Aj E.df.length cj) 90);have HQE:=zak q;clear hE hcj hsj;unfold entV at q hb0;go_wp2_with fail
    clear c0 c1 c2 c3 c4 c5 c6 c7 c8 c9 c10;obtain⟨cI,cJ,cK,cS,de,dg,dN,dO,dP,dQ,cT⟩:=zdc q;have ei:=q.frozen;go_wp2_with fail
    refine (zja E Aj E.df.length cj _ rfl HCJ.out HFE.out.1 HFE.out.2 HSJ.out).mono ?_;rintro e w1 ⟨rfl,hb1⟩;clear cI cJ cK cS de dg dN dO dP dQ cT ei;have hb1':=zc4 hb1 hb0;by_cases hr:rightE E=0
    · have HR:=zak hr;have k1:=zak (HQE.out.below hb1 HQE.out.lt);rw[hr];clear hr;go_wp2_with fail
      go_cut [39] (fun s wx=> ∃bb:Bool,s= .bool bb∧Hid (chkE L k=if bb=true then 16 else 0)∧ Below wr.heap.size wr wx∧Hid (Blk wx wr.heap.size 90 (entV E Aj E.df.length cj)))
      case first=>
       rcases (show k=0∨1≤k by omega) with hk0 | hk0
       · have HC0:Hid (chkE L k=0):=zak (zb5 HE.out HR.out hk0);have hk1:(k:Int)=0:=by omega
         refine wp_region_held_drew (S:=(fun w'=>(∀qA:Addr,qA.block < (w1).heap.size→w'.cell? qA=(w1).cell? qA)∧ Below (w1).heap.size (w1) w')) (by kernel_rfl) ?hS1 (fun hHeld=>?rest1)
         case hS1=>exact kSn
         case' rest1=>skip
         iterate 3 (refine tkN ?_;try simp only[PqL,Act.put])
         iterate 8 (refine tkV ?_;try simp only[PqL,Act.put])
         refine tkN ?_;try simp only[PqL,Act.put];refine wpAnyH_done (by kernel_rfl) ?_ _;have hEnd:=hHeld.2
         repeat (clear hHeld)
         go_wp2_with fail
         go_meet
         case rel=>exact⟨false,rfl,zak (by rw[HC0.out];rfl),hb1'.drew,k1⟩
       · obtain⟨D,hDD⟩:∃D,L[k - 1]? =some D:=⟨L[k - 1]'(by rw[←HN.out];omega),List.getElem?_eq_getElem _⟩;obtain⟨b',off',Aj',cj',hAA,⟨d0,d1,d2,d3,d4,d5,d6,d7,d8,d9,d10⟩,_,_⟩:=(HL.out.below (zc4 hb1' hbr)) (k - 1) D hDD;injection hAA with hAA
         injection hAA with hA1 hA2
         subst hA1;subst hA2;have HB:Hid (chkE L k=if befE D E.ix E.sub=true then 0 else 16):=zak (zb6 HE.out hDD hk0 HR.out);have q2:=k1.out;unfold entV at q2;obtain⟨di,dj,dm,dY,dZ,ea,gY,gZ,hJ,ia,eR⟩:=zdc q2;have el:=q2.frozen;have z1:=zal d0;have z2:=q2.lt;simp only[] at z1;obtain⟨q1,q3,q4,q5,q6,q7,q8,q9,q10,q11,q12⟩:=zdk hk0 hk (by omega);clear hDD;refine wp_region_held_drew (S:=(fun w'=>(∀qA:Addr,qA.block < (w1).heap.size→w'.cell? qA=(w1).cell? qA)∧ Below (w1).heap.size (w1) w')) (by kernel_rfl) ?hS15 (fun hHeld=>?rest15)
         case hS15=>exact kSn
         case' rest15=>skip
         iterate 9 (refine tkN ?_;try simp only[PqL,Act.put])
         refine kRd 9 (fun K hK=>?_)
         go_simp
         refine (zhi D E Aj' Aj D.df.length cj' E.df.length cj _).mono ?_;rintro e w2 ⟨rfl,hb2⟩;dsimp only;refine hK.out _ _ ?hS27 (fun hHeld=>?rest27)
         case hS27=>exact kSn
         case' rest27=>(clear hK K;try simp only[PqL,Act.put])
         refine tkH 10 ?_;try simp only[PqL,Act.put]
         refine tkH 11 ?_;try simp only[PqL,Act.put]
         refine wpAnyH_done (by kernel_rfl) ?_ _;have hEnd:=hHeld.2
         repeat (clear hHeld)
         have hb2':=zc4 hEnd hb1';have k2:=zak (k1.out.below hEnd k1.out.lt);cases hbe:befE D E.ix E.sub
         · have hbe':beforeB D.ix D.sub E.ix E.sub=false:=hbe;rw[hbe'];have HC0:Hid (chkE L k=16):=zak (by rw[HB.out,hbe];rfl);clear hbe hbe';go_wp2_with fail
           go_meet
           case rel=>exact⟨true,by rfl,zak (by rw[HC0.out];rfl),hb2',k2⟩
         · have hbe':beforeB D.ix D.sub E.ix E.sub=true:=hbe;rw[hbe'];have HC0:Hid (chkE L k=0):=zak (by rw[HB.out,hbe];rfl);clear hbe hbe';go_wp2_with fail
           go_meet
           case rel=>exact⟨false,by rfl,zak (by rw[HC0.out];rfl),hb2',k2⟩
      case rest=>
       obtain⟨bb,rfl,HB16,hwc,r1⟩:=hcut;cases bb
       · go_wp2_with fail
         have hC0:chkE L k=0:=by rw[HB16.out];rfl
         have HKN:Hid (∀j,j < k+1→chkE L j=0):=zak (fun j hj=>by
          rcases Nat.lt_succ_iff_lt_or_eq.1 hj with h | h
          · exact HK.out j h
          · rw[h];exact hC0)
         clear hC0 HB16;have hBc:=HC.out.blk.below hwc HC.out.blk.lt;have rC:=zak hBc;have HSX:=zak (HSK.out.below hwc);have q:=r1.out;unfold entV at q;obtain⟨cI,cJ,cK,cS,de,dg,dN,dO,dP,dQ,cT⟩:=zdc q;have ei:=q.frozen;obtain⟨iY,lX⟩:=zc7 hBc;have mY:=hBc.frozen;refine zaj (fun w'=>(w'.cell? ⟨wr.heap.size,0,none⟩=some (.int .i64 E.ix)∧ w'.cell? ⟨wr.heap.size,1,none⟩=some (.int .i64 E.sub)∧ w'.cell? ⟨wr.heap.size,2,none⟩=some (.string E.nm)∧ w'.cell? ⟨wr.heap.size,3,none⟩=some (.int .i64 E.ty)∧ w'.cell? ⟨wr.heap.size,4,none⟩=some (.int .i64 E.acc)∧ w'.cell? ⟨wr.heap.size,5,none⟩=some (.bool E.mp)∧ w'.cell? ⟨wr.heap.size,6,none⟩=some (.bool E.st)∧ w'.cell? ⟨wr.heap.size,7,none⟩=some (.int .i64 E.mx)∧ w'.cell? ⟨wr.heap.size,8,none⟩=some (.int .i64 E.lo)∧ w'.cell? ⟨wr.heap.size,9,none⟩=some (.int .i64 E.hi)∧ w'.cell? ⟨wr.heap.size,10,none⟩=some (.slice Aj E.df.length cj))∧ w'.cell? ⟨w.heap.size+1,0,none⟩=some (.slice (some ⟨ga,0,none⟩) k cl')) [0,1,2,3,4,5] (by kernel_rfl) ?hS31 (fun hHeld=>?rest31)
         case hS31=>((try dsimp only);exact⟨zkf r1.out,iY⟩)
         case' rest31=>skip
         refine tkT 0 ?_;try simp only[PqL,Act.put]
         refine tkT 1 ?_;try simp only[PqL,Act.put]
         refine tkT 2 ?_;try simp only[PqL,Act.put]
         refine tkT 3 ?_;try simp only[PqL,Act.put]
         refine tkT 4 ?_;try simp only[PqL,Act.put]
         refine tkT 5 ?_;try simp only[PqL,Act.put]
         refine zag (i:=6) (o:=_) rfl (by kernel_rfl) (fun K hK=>?_)
         go_simp
         refine (zjq E Aj E.df.length cj _ rfl HFE.out.1 HSX.out.drew).mono ?_;rintro e w2 ⟨A3,c3',rfl,hO3,hb3⟩;dsimp only;unfold entV;replace hb3:=zke hb3;have k1:=zak (r1.out.below hb3 r1.out.lt);have k2:=zak (rC.out.below hb3 rC.out.lt);refine hK.out _ _ ?hS39 (fun hHeld=>?rest39)
         case hS39=>((try dsimp only);(exact⟨zkf k1.out,k2.out.cell 0 rfl⟩))
         case' rest39=>(clear hK K;try simp only[PqL,Act.put])
         refine zag (i:=7) (o:=_) rfl (by kernel_rfl) (fun K hK=>?_)
         go_simp
         refine hK.out _ _ ?hS41 (fun hHeld=>?rest41)
         case hS41=>((try dsimp only);(exact⟨zkf (k1.out.alloc _),(k2.out.alloc _).cell 0 rfl⟩))
         case' rest41=>(clear hK K;try simp only[PqL,Act.put])
         have hb5:=zc5 hb3 (.cells (entV E A3 E.df.length c3') 90);have hb7:=zc4 hb5 hwc;have hb8:=zc4 hb7 hbr;have hz5:=hbr.size;have hz6:=hb7.size;have hz7:=(zc4 hwc hbr).size;have k1':=zak (k1.out.alloc (.cells (entV E A3 E.df.length c3') 90));have k2':=zak (k2.out.alloc (.cells (entV E A3 E.df.length c3') 90));have zga:=HC.out.ents.own.fin ga rfl;unfold entV at hb5 hb7 hb8 k1' k2' hz6;refine zag (i:=8) (o:=_) rfl (by kernel_rfl) (fun K hK=>?_);rw[if_pos (show Region.wanted _ _=true by kernel_rfl)];refine zkd (f:=entF) (k:=11) (e:=90) (dat:=Ent.df) (F:=fun g=>w.heap.size≤g) _ _ 22 rfl zhc zhe (by decide) 104 _ Tryz.underlying22 infoE rfl (by omega) (by omega) (some ⟨ga,0,none⟩) k cl' (L.take k) ds' rfl (HC.out.ents.below hb7) E (A3,c3') _ rfl (by exact (Blk.new _ _ _).sl) ((hO3.alloc _).mono (Nat.zero_le _)) (hO3.own.fin.mono (fun g h=>Nat.le_trans hz7 h.1)) (fun g h=>Nat.le_trans (Nat.le_trans hz5 hz6) h) (by omega) ?_
         intro A4 c4 w4 hO4 hg4 hr4;obtain⟨g4,rfl⟩:=zkg hr4;have m1:=zak (k1'.out.grown hg4 (by simp[Value.ownBlock];omega));have m2:=zak (k2'.out.grown hg4 (zd3 k2'.out (HC.out.ents.below hb7).own (by decide)));have mV:=zak ((HC.out.vals.below hb7).grownT hg4 (HC.out.ents.below hb7).own (by decide) (by decide));have mb:Below w.heap.size w w4:=hb8.grown hg4 hb8.size (fun q hq=>by
          have h1:=HC.out.ents.inF ga rfl;simp[Value.ownBlock] at hq;omega)
         rw[←HT1.out] at hO4;have mE:=zak hO4;clear hO4 hO3 hr4 k1 k2 k1' k2' hg4 hb5 hb7 hb8 hz6 hz7;refine hK.out _ _ ?hS43 (fun hHeld=>?rest43)
         case hS43=>((try dsimp only);(exact⟨zkf m1.out,m2.out.cell 0 rfl⟩))
         case' rest43=>(clear hK K;try simp only[PqL,Act.put])
         have m2c:=m2.out.cell 0 rfl;have m2f:=m2.out.frozen 0;refine zag (i:=9) (o:=_) rfl (by kernel_rfl) (fun K hK=>?_)
         go_simp
         refine hK.out _ _ ?hS45 (fun hHeld=>?rest45)
         case hS45=>((try dsimp only);(exact⟨zkf m1.out,m2.out.cell 0 rfl⟩))
         case' rest45=>(clear hK K;try simp only[PqL,Act.put])
         refine zag (i:=10) (o:=_) rfl (by kernel_rfl) (fun K hK=>?_)
         go_simp
         refine hK.out _ _ ?hS47 (fun hHeld=>?rest47)
         case hS47=>((try dsimp only);(exact⟨zkf m1.out,m2.out.cell 0 rfl⟩))
         case' rest47=>(clear hK K;try simp only[PqL,Act.put])
         refine zah (i:=11) (o:=_) rfl (by kernel_rfl) (by kernel_rfl) (fun K hK=>?_)
         go_simp
         refine hK.out _ _ ?rest49
         case' rest49=>(clear hK K;try simp only[PqL,Act.put])
         refine zai (by kernel_rfl) ?_ _
         repeat (clear hHeld)
         clear m2c m2f;clear cI cJ cK cS de dg dN dO dP dQ cT iY;have n1:=zak (m1.out.far (p:=⟨w.heap.size+1,0,none⟩) (Nat.ne_of_gt HC.out.blk.lt) (.slice (some ⟨g4,0,none⟩) (k+1) c4));have n2:=zak (m2.out.set_ 0 (.slice (some ⟨g4,0,none⟩) (k+1) c4));have nE:=zak (mE.out.setT m2.out (by decide) (by decide) 0 (.slice (some ⟨g4,0,none⟩) (k+1) c4));have nV:=zak (mV.out.setT m2.out (by decide) (by decide) 0 (.slice (some ⟨g4,0,none⟩) (k+1) c4));have nb:=zdj mb (p:=⟨w.heap.size+1,0,none⟩) (Nat.le_succ _) (.slice (some ⟨g4,0,none⟩) (k+1) c4);generalize hw5:w4.setCell ⟨w.heap.size+1,0,none⟩ (.slice (some ⟨g4,0,none⟩) (k+1) c4)=w5 at *
         clear hw5 mE mV mb m1 m2 r1 rC;go_wp2_with fail
         have ku:=n1.out.cell 10 rfl;have kO:=n2.out.cell 1 rfl;refine zaj (fun w'=>w'.cell? ⟨wr.heap.size,10,none⟩=some (.slice Aj E.df.length cj)∧ w'.cell? ⟨w.heap.size+1,1,none⟩=some (.slice Av' k cv')) [0,1,2,3,4,5,6] (by kernel_rfl) ?hS51 (fun hHeld=>?rest51)
         case hS51=>((try dsimp only);exact⟨n1.out.cell 10 rfl,n2.out.cell 1 rfl⟩)
         case' rest51=>skip
         refine tkT 0 ?_;try simp only[PqL,Act.put]
         refine tkT 1 ?_;try simp only[PqL,Act.put]
         refine tkT 2 ?_;try simp only[PqL,Act.put]
         refine tkT 3 ?_;try simp only[PqL,Act.put]
         refine tkT 4 ?_;try simp only[PqL,Act.put]
         refine tkT 5 ?_;try simp only[PqL,Act.put]
         refine tkT 6 ?_;try simp only[PqL,Act.put]
         refine zag (i:=7) (o:=_) rfl (by kernel_rfl) (fun K hK=>?_)
         go_simp
         refine (zhj Aj E.df.length cj E.df _ rfl HFE.out.1 (HSW.out.below nb).drew).mono ?_;rintro e w6 ⟨A5,c5,rfl,hO5,hb5⟩;dsimp only;replace hb5:=zke hb5;have o1:=zak (n1.out.below hb5 n1.out.lt);have o2:=zak (n2.out.below hb5 n2.out.lt);have ob:=zc4 hb5 nb;have hz8:=nb.size;have ofi:=hO5.own.fin;refine hK.out _ _ ?hS60 (fun hHeld=>?rest60)
         case hS60=>((try dsimp only);(exact⟨o1.out.cell 10 rfl,o2.out.cell 1 rfl⟩))
         case' rest60=>(clear hK K;try simp only[PqL,Act.put])
         have ob2:=zc5 ob (.cells #[.slice A5 E.df.length c5] 27);have o1':=zak (o1.out.alloc (.cells #[.slice A5 E.df.length c5] 27));have o3:=zak (o2.out.alloc (.cells #[.slice A5 E.df.length c5] 27));have hb6:=zc5 hb5 (.cells #[.slice A5 E.df.length c5] 27);refine zag (i:=8) (o:=_) rfl (by kernel_rfl) (fun K hK=>?_)
         go_simp
         refine hK.out _ _ ?hS62 (fun hHeld=>?rest62)
         case hS62=>((try dsimp only);(exact⟨o1'.out.cell 10 rfl,o3.out.cell 1 rfl⟩))
         case' rest62=>(clear hK K;try simp only[PqL,Act.put])
         have hz9:=ob2.size;refine zag (i:=9) (o:=_) rfl (by kernel_rfl) (fun K hK=>?_);rw[if_pos (show Region.wanted _ _=true by kernel_rfl)];refine zkd (f:=valF) (k:=1) (e:=27) (dat:=fun v=>v) (F:=fun g=>w.heap.size≤g) _ _ 98 rfl zhd zhf (by decide) 24 _ Tryz.underlying98 infoS rfl (by omega) (by omega) Av' k cv' ((L.take k).map Ent.df) es' rfl (nV.out.below hb6) E.df (A5,c5) _ rfl (by exact (Blk.new _ _ _).sl) ((hO5.alloc _).mono (Nat.zero_le _)) (ofi.mono (fun g h=>Nat.le_trans hz8 h.1)) (fun g h=>Nat.le_trans hz9 h) (by omega) ?_;intro A6 c6 w7 hO6 hg6 hr6;have p1:=zak (o1'.out.grown hg6 (zd3 o1'.out (nV.out.below hb6).own (by decide)))
         have p2:=zak (o3.out.grown hg6 (zd3 o3.out (nV.out.below hb6).own (by decide)));have pE:=zak ((nE.out.below hb6).grownT hg6 (nV.out.below hb6).own (by decide) (by decide));have pb:Below w.heap.size w w7:=ob2.grown hg6 ob2.size (fun q hq=>by
          rcases nV.out.own.shape with ⟨h1,_⟩ | ⟨g',h1,_,_⟩
          · rw[h1] at hq;cases hq
          · have:=nV.out.inF g' h1
            rw[h1] at hq;simp[Value.ownBlock] at hq;omega)
         rw[←HT2.out] at hO6;have pV:=zak hO6;clear hO6 hO5 hr6 hg6 ofi hb5 hb6 ob2 o1 o1' o2 o3 ku kO;refine hK.out _ _ ?hS64 (fun hHeld=>?rest64)
         case hS64=>((try dsimp only);(exact⟨p1.out.cell 10 rfl,p2.out.cell 1 rfl⟩))
         case' rest64=>(clear hK K;try simp only[PqL,Act.put])
         have p2c:=p2.out.cell 1 rfl;have p2f:=p2.out.frozen 1;refine zag (i:=10) (o:=_) rfl (by kernel_rfl) (fun K hK=>?_)
         go_simp
         refine hK.out _ _ ?hS66 (fun hHeld=>?rest66)
         case hS66=>((try dsimp only);(exact⟨p1.out.cell 10 rfl,p2.out.cell 1 rfl⟩))
         case' rest66=>(clear hK K;try simp only[PqL,Act.put])
         refine zag (i:=11) (o:=_) rfl (by kernel_rfl) (fun K hK=>?_)
         go_simp
         refine hK.out _ _ ?hS68 (fun hHeld=>?rest68)
         case hS68=>((try dsimp only);(exact⟨p1.out.cell 10 rfl,p2.out.cell 1 rfl⟩))
         case' rest68=>(clear hK K;try simp only[PqL,Act.put])
         refine zah (i:=12) (o:=_) rfl (by kernel_rfl) (by kernel_rfl) (fun K hK=>?_)
         go_simp
         refine hK.out _ _ ?rest70
         case' rest70=>(clear hK K;try simp only[PqL,Act.put])
         refine zai (by kernel_rfl) ?_ _
         repeat (clear hHeld)
         have HC2:Hid (DB 100 (w7.setCell ⟨w.heap.size+1,1,none⟩ (.slice A6 (k+1) c6)) (fun g=>w.heap.size≤g) (w.heap.size+1) (some ⟨g4,0,none⟩) (k+1) c4 A6 c6 (L.take (k+1)) ((L.take (k+1)).map Ent.df) (ds' ++ [(A3,c3')]) (es' ++ [(A5,c5)])):=
          zak ⟨p2.out.set_ 1 _,Nat.le_succ _,pE.out.setT p2.out (by decide) (by decide) 1 _,pV.out.setT p2.out (by decide) (by decide) 1 _,fun E hE=>HF.out E (List.mem_of_mem_take hE),fun v hv=>by
           obtain⟨D,hD,rfl⟩:=List.mem_map.1 hv;exact (HF.out D (List.mem_of_mem_take hD)).1⟩
         have pb2:=zdj pb (p:=⟨w.heap.size+1,1,none⟩) (Nat.le_succ _) (.slice A6 (k+1) c6);clear p2c p2f;go_wp2_with fail
         go_roundw
         case rel=>exact⟨k+1,g4,c4,A6,c6,_,_,by omega,by go_num,HC2,HKN,pb2⟩
         case measure=>simp[intOf];omega
       · go_wp2_with fail
         go_ret3
         exact⟨_,_,_,rfl,.inr (.inl ⟨by rw[←HN.out];omega,by decide,k,by rw[←HN.out];exact hlt,by rw[HB16.out];rfl,rfl,HK.out⟩),fun _=>rfl,fun h=>absurd h (by decide),zc4 hwc hbr⟩
    · have HR:Hid (chkE L k=rightE E∧rightE E≠0):=zak ⟨zb4 HE.out hr,hr⟩;obtain⟨er,her⟩:∃er,er=rightE E:=⟨_,rfl⟩;have hr': ¬er=0:=by rw[her];exact hr
      rw[←her];have HER:=zak her;clear hr her;go_wp2_with fail
      go_ret3
      refine⟨_,_,_,rfl,.inr (.inl ⟨by rw[←HN.out];omega,hr',k,by rw[←HN.out];exact hlt,by rw[HR.out.1,HER.out],rfl,HK.out⟩),fun _=>rfl,fun h=>absurd h hr',zc4 hb1' hbr⟩
  · have hkn:k=n:=by omega
    go_wp2_with fail
    go_ret3
    have h1:=HC.out;have h2:=HK.out;rw[List.take_of_length_le (by rw[hkn,HN.out];exact Nat.le_refl _)] at h1;exact⟨_,0,0,rfl,.inr (.inr ⟨by rw[←HN.out];omega,rfl,rfl,by rw[←HN.out,←hkn];exact h2⟩),fun h=>absurd rfl h,fun _=>⟨_,ga,k,cl',Av',cv',ds',es',rfl,by rw[hkn];exact HN.out,h1⟩,hbr⟩
end
section
open Go.RowKit
set_option maxHeartbeats 4000000
end
section
open Go.RowKit
def hexD (c:Nat):Prop:=(48≤c∧c≤57)∨ (97≤c∧c≤102)
instance (c:Nat):Decidable (hexD c):=by unfold hexD;infer_instance
def nibN (c:Nat):Nat:=if c≤57 then c - 48 else c - 87
theorem zvp (c:Nat)(hc:hexD c)(w:World):Calls Tryz.prog 176 #[.int .u8 (c:Nat)] w fun e w'=>e= .returned (.tuple #[.int .u8 (nibN c:Nat),.bool true])∧ w=w':=by
 rcases hc with ⟨h1,h2⟩ | ⟨h1,h2⟩
 · have e:((nibN c:Nat):Int)=(c:Int) - 48:=by unfold nibN;rw[if_pos h2];omega
   rw[e];have h1':(48:Int)≤ (c:Int):=by omega
   have h2':(c:Int)≤ 57:=by omega
   clear e h1 h2;go_enter Tryz.func176,Tryz.ntmps176
   go_wp2_with fail
   go_ret2
   exact⟨rfl,rfl⟩
 · have e:((nibN c:Nat):Int)=(c:Int) - 87:=by unfold nibN;rw[if_neg (by omega)];omega
   have E:=zak e;have h1':(97:Int)≤ (c:Int):=by omega
   have h2':(c:Int)≤ 102:=by omega
   have h3': ¬(c:Int)≤ 57:=by omega
   have h4':(48:Int)≤ (c:Int):=by omega
   have w1:(c:Int) - 97+10=(c:Int) - 87:=by omega
   clear e h1 h2;go_enter Tryz.func176,Tryz.ntmps176
   go_wp2_with fail
   go_ret2
   exact⟨by rw[E.out,←w1];rfl,rfl⟩
theorem zvq (c:Nat)(h1:48≤c∧c≤57)(w:World):Calls Tryz.prog 175 #[.int .i32 (c:Nat)] w fun e w'=>e= .returned (.tuple #[.int .i64 ((c:Int) - 48),.bool true])∧ w=w':=by
 have h1':(48:Int)≤ (c:Int):=by omega
 have h2':(c:Int)≤ 57:=by omega
 clear h1;go_enter Tryz.func175,Tryz.ntmps175
 go_wp2_with fail
 go_ret2
 exact⟨rfl,rfl⟩
def unhL (s:ByteArray) (n:Nat):List UInt8:=(List.range n).map fun i=>UInt8.ofNat (nibN ((s.data.getD (2 * i) 0).toNat) * 16+nibN ((s.data.getD (2 * i+1) 0).toNat))
theorem zvr (s:ByteArray)(n:Nat):unhL s (n+1)=unhL s n ++ [UInt8.ofNat (nibN ((s.data.getD (2 * n) 0).toNat) * 16+nibN ((s.data.getD (2 * n+1) 0).toNat))]:=by
 unfold unhL;rw[List.range_succ,List.map_append]
 rfl
theorem gb (s:ByteArray)(i:Nat)(h:i < s.size):(s[i]'h).toNat=(s.data.getD i 0).toNat:=by
 have h':i < s.data.size:=h;rw[show s[i]'h=s.data[i]'h' from rfl];unfold Array.getD;rw[dif_pos h']
 rfl
theorem zvs (x y:Nat)(hx:x < 16)(hy:y < 16):bits BinOp.or IntKind.u8 ((x:Int) * 16) (y:Int)=((x * 16+y:Nat):Int):=by
 have h:∀a:Fin 16,∀b:Fin 16,bits BinOp.or IntKind.u8 ((a.val:Int) * 16) (b.val:Int)=((a.val * 16+b.val:Nat):Int):=by decide +kernel
 exact h ⟨x,hx⟩ ⟨y,hy⟩
theorem zvt (W:World)(z:Nat)(hz:z < 256):Sl (W.alloc (.cells #[.int .u8 (z:Nat)] 5)) (some ⟨W.heap.size,0,none⟩) ([UInt8.ofNat z].map bv):=by
 intro j u hu;cases j with
 | succ j=>simp at hu
 | zero=>
   have e:(UInt8.ofNat z).toNat=z:=by simp;omega
   simp[bv,e] at hu;subst hu;refine⟨_,rfl,?_⟩;exact (Blk.new W 5 #[.int .u8 (z:Nat)]).cell 0 rfl
theorem zvu (s:ByteArray)(n:Nat)(hs:s.size=2 * n)(hn:n≤1000)(hd:∀i,i < s.size→hexD ((s.data.getD i 0).toNat))(w:World) :
 Calls Tryz.prog 121 #[.string s] w fun e w'=> ∃A c,e= .returned (.tuple #[.slice A n c,.int .i64 0])∧ zdv w' w.heap.size A n c (unhL s n)∧ Below w.heap.size w w':=by
 have HD:=zak hd;have HS:=zak hs;have hr:(s.size:Int) % 2=0:=by omega
 have hq:(s.size:Int) / 2=(n:Int):=by omega
 clear hd hs;go_enter Tryz.func121,Tryz.ntmps121
 go_wp2_with (at_make;refine mk_b _ rfl _ _ rfl _ _ _ _ 0 n rfl rfl rfl rfl (Nat.zero_le _) (by omega) w.heap.size rfl ?_;intro w1 hown1 hz1 hb1)
 have HO1:=zak hown1;have HB1:=zak hb1;clear hown1 hb1 hr
 go_loopw [2,3,4,5,6,7,8,9,21,22,23,24,25,26,27,28,29,30,31,32,33,34,35,36,37,38,39,40,41,42,43,44,45,46,47,48,49,50,51,52,53,54] (fun _ _ v4 _ _ _ _ _ v21 _ _ _ _ _ _ _ _ _ _ _ _ _ _ _ _ _ _ _ _ _ _ _ _ _ _ _ _ _ _ _ _ _ wr=> ∃k A' c',v21= .int .i64 (k:Nat)∧ v4= .slice A' k c'∧k≤n∧Hid (zdv wr w.heap.size A' k c' (unhL s k)∧ Below w.heap.size w wr)) (fun _ _ _ _ _ _ _ _ v21 _ _ _ _ _ _ _ _ _ _ _ _ _ _ _ _ _ _ _ _ _ _ _ _ _ _ _ _ _ _ _ _ _ _=>n - (intOf v21).toNat)
 case atStart=>exact⟨0,_,_,rfl,rfl,Nat.zero_le _,zak ⟨HO1.out,HB1.out⟩⟩
 case round=>
  obtain⟨k,A',c',rfl,rfl,hk,HR⟩:=hrel;by_cases hlt:k < n
  · have i1:2 * k < s.size:=by have:=HS.out;omega
    have i2:2 * k+1 < s.size:=by have:=HS.out;omega
    obtain⟨x,hx⟩:∃x,x=nibN ((s.data.getD (2 * k) 0).toNat):=⟨_,rfl⟩;obtain⟨y,hy⟩:∃y,y=nibN ((s.data.getD (2 * k+1) 0).toNat):=⟨_,rfl⟩;have HX:=zak hx;have HY:=zak hy;have hx16:x < 16:=by
     have:=HD.out _ i1
     rw[hx];unfold nibN;unfold hexD at this;split<;>omega
    have hy16:y < 16:=by
     have:=HD.out _ i2
     rw[hy];unfold nibN;unfold hexD at this;split<;>omega
    clear hx hy;go_wp2_with fail
    rw[gb s (2 * k) i1];refine (zvp _ (HD.out _ i1) wr).mono ?_;rintro e w2 ⟨rfl,rfl⟩;rw[←HX.out];go_wp2_with fail
    rw[gb s (2 * k+1) i2];refine (zvp _ (HD.out _ i2) wr).mono ?_;rintro e w2 ⟨rfl,rfl⟩;rw[←HY.out];have hb:=zvs x y hx16 hy16;have HXY:=zak (show unhL s (k+1)=unhL s k ++ [UInt8.ofNat (x * 16+y)] by rw[HX.out,HY.out];exact zvr s k);go_wp2_with (at_builtin;refine zdw _ rfl _ _ rfl w.heap.size A' k c' (unhL s k) rfl (HR.out.1.alloc _) (some ⟨wr.heap.size,0,none⟩) 1 1 [UInt8.ofNat (x * 16+y)] rfl rfl (zvt wr (x * 16+y) (by omega)) (by omega) (by have:=HR.out.2.size;simp;omega) (k+1) rfl ?_;intro A6 c6 w6 h1 h2 h3 h4)
    refine⟨⟨k+1,A6,c6,by congr 1,rfl,by omega,zak ⟨by rw[HXY.out];exact h1,(zc5 HR.out.2 _).trans h4⟩⟩,by simp only[intOf];omega⟩
  · obtain rfl:n=k:=by omega
    go_wp2_with fail
    go_ret2
    exact⟨A',c',rfl,HR.out.1,HR.out.2⟩
end
section
open Go.RowKit
theorem zvv (s:ByteArray)(hs:4 < s.size)(h0:(s.data.getD 0 0).toNat=53)(h1:(s.data.getD 1 0).toNat=56)(h2:(s.data.getD 2 0).toNat=53)(h3:(s.data.getD 3 0).toNat=35)(w:World) :
 Calls Tryz.prog 120 #[.string s] w fun e w'=>e= .returned (.tuple #[.int .i64 1413,.string (s.extract 4 s.size),.bool true])∧ Below w.heap.size w w':=by
 have n0:=fun ty=>run_next_ascii (P:=Tryz.prog) w s 0 ty (by omega) (by rw[gb s 0 (by omega),h0];omega)
 have n1:=fun ty=>run_next_ascii (P:=Tryz.prog) w s 1 ty (by omega) (by rw[gb s 1 (by omega),h1];omega)
 have n2:=fun ty=>run_next_ascii (P:=Tryz.prog) w s 2 ty (by omega) (by rw[gb s 2 (by omega),h2];omega)
 have n3:=fun ty=>run_next_ascii (P:=Tryz.prog) w s 3 ty (by omega) (by rw[gb s 3 (by omega),h3];omega)
 rw[gb s 0 (by omega),h0] at n0;rw[gb s 1 (by omega),h1] at n1;rw[gb s 2 (by omega),h2] at n2;rw[gb s 3 (by omega),h3] at n3;have hb:=zc5 (Below.refl w.heap.size w) (.stringIter s 4);have hs4:4≤s.size:=by omega
 clear h0 h1 h2 h3;go_enter Tryz.func120,Tryz.ntmps120
 go_wp2_with fail
 refine wp_loop_rounds 5 ?_;rw[rounds_succ];go_wp2_with fail
 refine (zvq 53 (by omega) _).mono ?_;rintro e w1 ⟨rfl,rfl⟩;go_wp2_with fail
 rw[rounds_succ];go_wp2_with fail
 refine (zvq 56 (by omega) _).mono ?_;rintro e w1 ⟨rfl,rfl⟩;go_wp2_with fail
 rw[rounds_succ];go_wp2_with fail
 refine (zvq 53 (by omega) _).mono ?_;rintro e w1 ⟨rfl,rfl⟩;go_wp2_with fail
 rw[rounds_succ];go_wp2_with fail
 go_quiet (fail)
 go_wp2_with fail
 rw[show bits BinOp.or IntKind.i64 (wrap64 (bits BinOp.or IntKind.i64 (wrap64 (bits BinOp.or IntKind.i64 0 5 * 16)) 8 * 16)) 5=1413 by decide +kernel];go_ret3
 exact⟨rfl,zdq hb _⟩
end
section
open Go.RowKit
def dig (d:Nat):UInt8:=if d < 10 then UInt8.ofNat (48+d) else UInt8.ofNat (87+d)
def hexL (b:List UInt8):List UInt8:=b.flatMap fun c=> [dig (c.toNat / 16),dig (c.toNat % 16)]
theorem zvw (b:List UInt8)(c:UInt8):hexL (b ++ [c])=hexL b ++ [dig (c.toNat / 16),dig (c.toNat % 16)]:=by simp[hexL]
theorem zvx (b:List UInt8):(hexL b).length=2 * b.length:=by
 induction b with
 | nil=>rfl
 | cons c b ih=>simp only[hexL,List.flatMap_cons,List.length_append,List.length_cons,List.length_nil] at ih ⊢;omega
theorem zvy (d:Nat)(h:d < 16)(W:World):(Instr.index 9 (.string ⟨#[48,49,50,51,52,53,54,55,56,57,97,98,99,100,101,102]⟩) (.int .u8 (d:Nat))).run Tryz.prog W= .ok (.int .u8 ((dig d).toNat:Nat)) W:=by
 have h16:d=0∨d=1∨d=2∨d=3∨d=4∨d=5∨d=6∨d=7∨d=8∨d=9∨d=10∨d=11∨d=12∨d=13∨d=14∨d=15:=by omega
 rcases h16 with rfl | rfl | rfl | rfl | rfl | rfl | rfl | rfl | rfl | rfl | rfl | rfl | rfl | rfl | rfl | rfl
 all_goals
  show _=_
  kernel_rfl
theorem and15 (c:Nat)(h:c < 256):bits BinOp.and IntKind.u8 (c:Int) 15=((c % 16:Nat):Int):=by
 have:∀x:Fin 256,bits BinOp.and IntKind.u8 (x.val:Int) 15=((x.val % 16:Nat):Int):=by decide +kernel
 exact this ⟨c,h⟩
theorem zvz (A:Option Addr)(n c:Nat)(b:List UInt8)(w:World)(hn:n=b.length)(hl:n≤1000)(hs:Sl w A (b.map bv)) :
 Calls Tryz.prog 182 #[.slice A n c] w fun e w'=>e= .returned (.string ⟨(hexL b).toArray⟩)∧ Below w.heap.size w w':=by
 have HN:=zak hn;have HS:=zak hs;clear hn hs;go_enter Tryz.func182,Tryz.ntmps182
 go_wp2_with (at_make;refine mk_b _ rfl _ _ rfl _ _ _ _ 0 (2 * n) rfl rfl rfl (by omega) (Nat.zero_le _) (by omega) w.heap.size rfl ?_;intro w1 hown1 hz1 hb1)
 have HO1:=zak hown1;have HB1:=zak hb1;clear hown1 hb1
 go_loopw [3,5,12,13,14,15,16,17,18,19,20,21,22,23,24,25] (fun v3 _ v12 _ _ _ _ _ _ _ _ _ _ _ _ _ wr=> ∃k A' c',v12= .int .i64 (k:Nat)∧ v3= .slice A' (2 * k) c'∧k≤n∧Hid (zdv wr w.heap.size A' (2 * k) c' (hexL (b.take k))∧ Below w.heap.size w wr)) (fun _ _ v12 _ _ _ _ _ _ _ _ _ _ _ _ _ _=>n - (intOf v12).toNat)
 case atStart=>exact⟨0,_,_,rfl,rfl,Nat.zero_le _,zak ⟨HO1.out,HB1.out⟩⟩
 case round=>
  obtain⟨k,A',c',rfl,rfl,hk,HR⟩:=hrel;by_cases hlt:k < n
  · obtain⟨x,hx⟩:∃x,b[k]? =some x:=⟨b[k]'(by rw[←HN.out];exact hlt),List.getElem?_eq_getElem _⟩;obtain⟨bb,oo,rfl,hc⟩:=(HS.out.below HR.out.2).at_ (show (b.map bv)[k]? =some (bv x) by rw[List.getElem?_map,hx];rfl);have HX:=zak hx;unfold bv at hc;obtain⟨y,hy⟩:∃y,y=x.toNat:=⟨_,rfl⟩;have hy256:y < 256:=by rw[hy];exact x.toNat_lt
    have HY:=zak hy;rw[←hy] at hc;obtain⟨d1,hd1⟩:∃d,d=y / 16:=⟨_,rfl⟩;obtain⟨d2,hd2⟩:∃d,d=y % 16:=⟨_,rfl⟩;have hsh:(y:Int) / 16=(d1:Int):=by omega
    have hand:bits BinOp.and IntKind.u8 (y:Int) 15=(d2:Int):=by rw[and15 y hy256,hd2]
    have hi1:=fun W=>zvy d1 (by omega) W
    have hi2:=fun W=>zvy d2 (by omega) W
    have HD:=zak (And.intro hd1 hd2);clear hx hy hd1 hd2;go_upto_region 5 with fail
    have HSB:Hid (Sl (wr.drew.alloc (.cells #[.int .u8 ((dig d1).toNat:Nat),.int .u8 ((dig d2).toNat:Nat)] 5)) (some ⟨wr.heap.size,0,none⟩) ([dig d1,dig d2].map bv)):=zak (Blk.new wr.drew 5 #[.int .u8 ((dig d1).toNat:Nat),.int .u8 ((dig d2).toNat:Nat)]).sl;refine wp_region_held_drew (S:=(fun _=>True∧True)) (by kernel_rfl) ?hS1 (fun hHeld=>?rest1)
    case hS1=>((try dsimp only);(exact⟨trivial,trivial⟩))
    case' rest1=>skip
    iterate 7 (refine tkN ?_;try simp only[PqL,Act.put])
    refine kRd 7 (fun K hK=>?_)
    go_simp
    refine hK.out _ _ ?hS11 (fun hHeld=>?rest11)
    case hS11=>((try dsimp only);(exact⟨trivial,trivial⟩))
    case' rest11=>(clear hK K;try simp only[PqL,Act.put])
    refine kRd 8 (fun K hK=>?_);rw[if_pos (show Region.wanted _ _=true by kernel_rfl)];refine zju _ _ rfl w.heap.size A' (2 * k) c' (hexL (b.take k)) rfl (HR.out.1.drew.alloc _) _ 2 2 [dig d1,dig d2] rfl rfl HSB.out (by omega) (by have:=HR.out.2.size;simp;omega) (2 * (k+1)) (by omega) ?_;intro A6 c6 w6 h1 h2;have H6:=zak (And.intro h1 ((zc5 HR.out.2.drew _).trans h2));clear h1 h2;refine hK.out _ _ ?hS14 (fun hHeld=>?rest14)
    case hS14=>((try dsimp only);(exact⟨trivial,trivial⟩))
    case' rest14=>(clear hK K;try simp only[PqL,Act.put])
    refine tkH 9 ?_;try simp only[PqL,Act.put]
    refine wpAnyH_done (by kernel_rfl) ?_ _;have hEnd:=hHeld.2
    repeat (clear hHeld)
    go_wp2_with fail
    have hstep:hexL (b.take (k+1))=hexL (b.take k) ++ [dig d1,dig d2]:=by
     obtain⟨hk1,hk2⟩:=List.getElem?_eq_some_iff.1 HX.out;rw[List.take_succ_eq_append_getElem hk1,hk2,zvw,←HY.out,HD.out.1,HD.out.2]
    exact⟨⟨k+1,A6,c6,by congr 1,rfl,by omega,zak ⟨by rw[hstep];exact H6.out.1,H6.out.2⟩⟩,by simp only[intOf];omega⟩
  · obtain rfl:n=k:=by omega
    have hcv:∀W,zdv W w.heap.size A' (2 * n) c' (hexL b)→ (convert 27 9 (.slice A' (2 * n) c')).run Tryz.prog W= .ok (.string ⟨(hexL b).toArray⟩) W:=fun W h=>zdx (w:=W) c' h.hn h.sl
    have hcv2:=hcv wr (by have:=HR.out.1;rwa [HN.out,List.take_length,←HN.out] at this);clear hcv;go_wp2_with fail
    go_ret
    exact⟨rfl,HR.out.2⟩
theorem zv0 (id:Int)(A:Option Addr)(n c:Nat)(w:World)(hi:0≤id∧id≤2047)(hn:n≤8) :
 Calls Tryz.prog 122 #[.agg #[.int .i64 id,.bool false,.slice A n c]] w fun e w'=>e= .returned (.int .i64 0)∧ Below w.heap.size w w':=by
 have hb:=zc5 (Below.refl w.heap.size w) (.cells #[.int .i64 id,.bool false,.slice A n c] 69);obtain⟨h1,h2⟩:=hi;have h3: ¬id < 0:=by omega
 have h4: ¬ 2047 < id:=by omega
 have h5: ¬ 8 < n:=by omega
 clear h1 h2 hn;go_enter Tryz.func122,Tryz.ntmps122
 go_wp2_with fail
 go_ret
 exact⟨rfl,hb⟩
end
end Go.Proofs.YtkkpjbjmhaecjaaGreat
