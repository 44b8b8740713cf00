/- None -/
import Derived.Test.YtkkpjbjmhaecjaaGreatU37
import Derived.Lib.SlBytesConst
namespace Go.Proofs.YtkkpjbjmhaecjaaGreat
set_option linter.all false
set_option maxRecDepth 100000
set_option maxHeartbeats 4000000
section
open Go.RowKit
section
variable {F:Nat→Prop} {pd gl n cl cv:Nat} {Av:Option Addr} {L:List Ent} {V:List (List UInt8)} {ds es:List (Option Addr×Nat)}
end
end
section
open Go.RowKit
def NewR (L:List Ent) (w:World) (e:Ending) (w':World):Prop:=
 ∃v er at_,e= .returned (.tuple #[v,.int .i64 er,.int .i64 at_])∧ NewP L er at_∧(er≠0→v= .pointer none)∧
  (er=0→ ∃p gl n cl Av cv ds es,v= .pointer (some ⟨p,0,none⟩)∧ n=L.length∧DB 100 w' (fun g=>w.heap.size≤g) p (some ⟨gl,0,none⟩) n cl Av cv L (L.map Ent.df) ds es)∧ Below w.heap.size w w'
theorem zny (A:Option Addr)(n c:Nat)(L:List Ent)(w:World)(hn:n=L.length)(hL:SlE w A L)(hf:∀E ∈ L,fitE E) :
 Calls Tryz.prog 9 #[.slice A n c] w (NewR L w):=by
 have HN:=zak hn;have HL:=zak hL;have HF:=zak hf;by_cases hbig:96 < n
 · clear hn hL hf;go_enter Tryz.func9,Tryz.ntmps9
   go_wp2_with fail
   go_ret3
   exact⟨_,_,_,rfl,.inl ⟨by rw[←HN.out];exact hbig,rfl,rfl⟩,fun _=>rfl,fun h=>by omega,Below.refl _ _⟩
 have q:=zbg w 90 100 #[] #[.slice (some ⟨w.heap.size,0,none⟩) 0 0,.slice none 0 0];have hbw:=za7 (za7 (Below.refl w.heap.size w) (.cells #[] 90)) (.cells #[.slice (some ⟨w.heap.size,0,none⟩) 0 0,.slice none 0 0] 100)
 have HDC:Hid (DB 100 ((w.alloc (.cells #[] 90)).alloc (.cells #[.slice (some ⟨w.heap.size,0,none⟩) 0 0,.slice none 0 0] 100)) (fun g=>w.heap.size≤g) (w.heap.size+1) (some ⟨w.heap.size,0,none⟩) 0 0 none 0 (L.take 0) ((L.take 0).map Ent.df) [] []):=
  zak ⟨q.2,Nat.le_succ _,zb2.empty q.1 (Nat.le_refl _),zb2.nil _ _,by simp,by simp⟩
 clear hn hL hf q;go_enter Tryz.func9,Tryz.ntmps9
 go_wp2_with fail
 go_loopw [17] (fun i wr=> ∃k ga cl' Av' cv' ds' es',k≤n∧i= .int .i64 (k:Nat)∧ Hid (DB 100 wr (fun g=>w.heap.size≤g) (w.heap.size+1) (some ⟨ga,0,none⟩) k cl' Av' cv' (L.take k) ((L.take k).map Ent.df) ds' es')∧ Hid (∀j,j < k→chkE L j=0)∧ Below w.heap.size w wr) (fun i _=>n - (intOf i).toNat)
 case atStart=>exact⟨0,_,_,_,_,_,_,by omega,rfl,HDC,zak (by intro j h;omega),hbw⟩
 case round=>
  clear HDC hbw;obtain⟨k,ga,cl',Av',cv',ds',es',hk,rfl,HC,HK,hbr⟩:=hrel;by_cases hlt:k < n
  · obtain⟨E,hE⟩:∃E,L[k]? =some E:=⟨L[k]'(by rw[←HN.out];exact hlt),List.getElem?_eq_getElem _⟩;obtain⟨b,off,Aj,cj,rfl,⟨c0,c1,c2,c3,c4,c5,c6,c7,c8,c9,c10⟩,hcj,hsj⟩:=HL.out.two hbr hE;have HE:=zak hE;have HFE:=zak (HF.out E (List.mem_of_getElem? hE));have HCJ:=zak hcj;have HSK:=zak (hsj.below hbr);have HSW:=zak hsj;have HT1:=zak (zh8 hE);have HT2:Hid ((L.take (k+1)).map Ent.df=(L.take k).map Ent.df ++ [E.df]):=zak (by rw[zh8 hE,List.map_append];rfl);have HSJ:=zak ((hsj.below hbr).alloc (.cells (entV E Aj E.df.length cj) 90));obtain⟨i1,i2,i3⟩:=zbk hlt;have q:=zbf wr 90 (entV E Aj E.df.length cj)
    have hb0:=za7 (Below.refl wr.heap.size wr) (.cells (entV E Aj E.df.length cj) 90);have HQE:=zak q;clear hE hcj hsj;unfold entV at q hb0;go_wp2_with fail
    clear c0 c1 c2 c3 c4 c5 c6 c7 c8 c9 c10;obtain⟨cZ,da,db,dc,dG,dH,dI,dJ,dK,dL,cT⟩:=zbb q;have eQ:=q.frozen;go_wp2_with fail
    refine (zgx E Aj E.df.length cj _ rfl HCJ.out HFE.out.1 HFE.out.2 HSJ.out).mono ?_;rintro e w1 ⟨rfl,hb1⟩;clear cZ da db dc dG dH dI dJ dK dL cT eQ;have hb1':=za5 hb1 hb0;by_cases hr:rightE E=0
    · have HR:=zak hr;have k1:=zak (HQE.out.below hb1 HQE.out.lt);rw[hr];clear hr;go_wp2_with fail
      go_cut [39] (fun s wx=> ∃bb:Bool,s= .bool bb∧Hid (chkE L k=if bb=true then 16 else 0)∧ Below wr.heap.size wr wx∧Hid (Blk wx wr.heap.size 90 (entV E Aj E.df.length cj)))
      case first=>
       rcases (show k=0∨1≤k by omega) with hk0 | hk0
       · have HC0:Hid (chkE L k=0):=zak (zdi HE.out HR.out hk0);have hk1:(k:Int)=0:=by omega
         refine wp_region_held_drew (S:=(fun w'=>(∀qA:Addr,qA.block < (w1).heap.size→w'.cell? qA=(w1).cell? qA)∧ Below (w1).heap.size (w1) w')) (by kernel_rfl) ?hS1 (fun hHeld=>?rest1)
         case hS1=>exact kSn
         case' rest1=>skip
         iterate 3 (refine tkN ?_;try simp only[PqL,Act.put])
         iterate 8 (refine tkV ?_;try simp only[PqL,Act.put])
         refine tkN ?_;try simp only[PqL,Act.put];refine wpAnyH_done (by kernel_rfl) ?_ _;have hEnd:=hHeld.2
         repeat (clear hHeld)
         go_wp2_with fail
         go_meet
         case rel=>exact⟨false,rfl,zak (by rw[HC0.out];rfl),hb1'.drew,k1⟩
       · obtain⟨D,hDD⟩:∃D,L[k - 1]? =some D:=⟨L[k - 1]'(by rw[←HN.out];omega),List.getElem?_eq_getElem _⟩;obtain⟨b',off',Aj',cj',hAA,⟨d0,d1,d2,d3,d4,d5,d6,d7,d8,d9,d10⟩,_,_⟩:=(HL.out.below (za5 hb1' hbr)) (k - 1) D hDD;injection hAA with hAA
         injection hAA with hA1 hA2
         subst hA1;subst hA2;have HB:Hid (chkE L k=if befE D E.ix E.sub=true then 0 else 16):=zak (zdj HE.out hDD hk0 HR.out);have q2:=k1.out;unfold entV at q2;obtain⟨dM,dN,dO,dP,dQ,dR,dS,dU,dV,dW,de⟩:=zbb q2;have eK:=q2.frozen;have z1:=zal d0;have z2:=q2.lt;simp only[] at z1;obtain⟨q1,q3,q4,q5,q6,q7,q8,q9,q10,q11,q12⟩:=zbj hk0 hk (by omega);clear hDD;refine wp_region_held_drew (S:=(fun w'=>(∀qA:Addr,qA.block < (w1).heap.size→w'.cell? qA=(w1).cell? qA)∧ Below (w1).heap.size (w1) w')) (by kernel_rfl) ?hS15 (fun hHeld=>?rest15)
         case hS15=>exact kSn
         case' rest15=>skip
         iterate 9 (refine tkN ?_;try simp only[PqL,Act.put])
         refine kRd 9 (fun K hK=>?_)
         go_simp
         refine (zec D E Aj' Aj D.df.length cj' E.df.length cj _).mono ?_;rintro e w2 ⟨rfl,hb2⟩;dsimp only;refine hK.out _ _ ?hS27 (fun hHeld=>?rest27)
         case hS27=>exact kSn
         case' rest27=>(clear hK K;try simp only[PqL,Act.put])
         refine tkH 10 ?_;try simp only[PqL,Act.put]
         refine tkH 11 ?_;try simp only[PqL,Act.put]
         refine wpAnyH_done (by kernel_rfl) ?_ _;have hEnd:=hHeld.2
         repeat (clear hHeld)
         have hb2':=za5 hEnd hb1';have k2:=zak (k1.out.below hEnd k1.out.lt);cases hbe:befE D E.ix E.sub
         · have hbe':beforeB D.ix D.sub E.ix E.sub=false:=hbe;rw[hbe'];have HC0:Hid (chkE L k=16):=zak (by rw[HB.out,hbe];rfl);clear hbe hbe';go_wp2_with fail
           go_meet
           case rel=>exact⟨true,by rfl,zak (by rw[HC0.out];rfl),hb2',k2⟩
         · have hbe':beforeB D.ix D.sub E.ix E.sub=true:=hbe;rw[hbe'];have HC0:Hid (chkE L k=0):=zak (by rw[HB.out,hbe];rfl);clear hbe hbe';go_wp2_with fail
           go_meet
           case rel=>exact⟨false,by rfl,zak (by rw[HC0.out];rfl),hb2',k2⟩
      case rest=>
       obtain⟨bb,rfl,HB16,hwc,r1⟩:=hcut;cases bb
       · go_wp2_with fail
         have hC0:chkE L k=0:=by rw[HB16.out];rfl
         have HKN:Hid (∀j,j < k+1→chkE L j=0):=zak (fun j hj=>by
          rcases Nat.lt_succ_iff_lt_or_eq.1 hj with h | h
          · exact HK.out j h
          · rw[h];exact hC0)
         clear hC0 HB16;have hBc:=HC.out.blk.below hwc HC.out.blk.lt;have rC:=zak hBc;have HSX:=zak (HSK.out.below hwc);have q:=r1.out;unfold entV at q;obtain⟨cZ,da,db,dc,dG,dH,dI,dJ,dK,dL,cT⟩:=zbb q;have eQ:=q.frozen;obtain⟨cS,fH⟩:=za8 hBc;have gm:=hBc.frozen;refine zaj (fun w'=>(w'.cell? ⟨wr.heap.size,0,none⟩=some (.int .i64 E.ix)∧ w'.cell? ⟨wr.heap.size,1,none⟩=some (.int .i64 E.sub)∧ w'.cell? ⟨wr.heap.size,2,none⟩=some (.string E.nm)∧ w'.cell? ⟨wr.heap.size,3,none⟩=some (.int .i64 E.ty)∧ w'.cell? ⟨wr.heap.size,4,none⟩=some (.int .i64 E.acc)∧ w'.cell? ⟨wr.heap.size,5,none⟩=some (.bool E.mp)∧ w'.cell? ⟨wr.heap.size,6,none⟩=some (.bool E.st)∧ w'.cell? ⟨wr.heap.size,7,none⟩=some (.int .i64 E.mx)∧ w'.cell? ⟨wr.heap.size,8,none⟩=some (.int .i64 E.lo)∧ w'.cell? ⟨wr.heap.size,9,none⟩=some (.int .i64 E.hi)∧ w'.cell? ⟨wr.heap.size,10,none⟩=some (.slice Aj E.df.length cj))∧ w'.cell? ⟨w.heap.size+1,0,none⟩=some (.slice (some ⟨ga,0,none⟩) k cl')) [0,1,2,3,4,5] (by kernel_rfl) ?hS31 (fun hHeld=>?rest31)
         case hS31=>((try dsimp only);exact⟨zhz r1.out,cS⟩)
         case' rest31=>skip
         refine tkT 0 ?_;try simp only[PqL,Act.put]
         refine tkT 1 ?_;try simp only[PqL,Act.put]
         refine tkT 2 ?_;try simp only[PqL,Act.put]
         refine tkT 3 ?_;try simp only[PqL,Act.put]
         refine tkT 4 ?_;try simp only[PqL,Act.put]
         refine tkT 5 ?_;try simp only[PqL,Act.put]
         refine zag (i:=6) (o:=_) rfl (by kernel_rfl) (fun K hK=>?_)
         go_simp
         refine (zhg E Aj E.df.length cj _ rfl HFE.out.1 HSX.out.drew).mono ?_;rintro e w2 ⟨A3,c3',rfl,hO3,hb3⟩;dsimp only;unfold entV;replace hb3:=zhy hb3;have k1:=zak (r1.out.below hb3 r1.out.lt);have k2:=zak (rC.out.below hb3 rC.out.lt);refine hK.out _ _ ?hS39 (fun hHeld=>?rest39)
         case hS39=>((try dsimp only);(exact⟨zhz k1.out,k2.out.cell 0 rfl⟩))
         case' rest39=>(clear hK K;try simp only[PqL,Act.put])
         refine zag (i:=7) (o:=_) rfl (by kernel_rfl) (fun K hK=>?_)
         go_simp
         refine hK.out _ _ ?hS41 (fun hHeld=>?rest41)
         case hS41=>((try dsimp only);(exact⟨zhz (k1.out.alloc _),(k2.out.alloc _).cell 0 rfl⟩))
         case' rest41=>(clear hK K;try simp only[PqL,Act.put])
         have hb5:=za7 hb3 (.cells (entV E A3 E.df.length c3') 90);have hb7:=za5 hb5 hwc;have hb8:=za5 hb7 hbr;have hz5:=hbr.size;have hz6:=hb7.size;have hz7:=(za5 hwc hbr).size;have k1':=zak (k1.out.alloc (.cells (entV E A3 E.df.length c3') 90));have k2':=zak (k2.out.alloc (.cells (entV E A3 E.df.length c3') 90));have zga:=HC.out.ents.own.fin ga rfl;unfold entV at hb5 hb7 hb8 k1' k2' hz6;refine zag (i:=8) (o:=_) rfl (by kernel_rfl) (fun K hK=>?_);rw[if_pos (show Region.wanted _ _=true by kernel_rfl)];refine zhw (f:=entF) (k:=11) (e:=90) (dat:=Ent.df) (F:=fun g=>w.heap.size≤g) _ _ 22 rfl zd2 zd4 (by decide) 104 _ Tryz.underlying22 zd6 rfl (by omega) (by omega) (some ⟨ga,0,none⟩) k cl' (L.take k) ds' rfl (HC.out.ents.below hb7) E (A3,c3') _ rfl (by exact (Blk.new _ _ _).sl) ((hO3.alloc _).mono (Nat.zero_le _)) (hO3.own.fin.mono (fun g h=>Nat.le_trans hz7 h.1)) (fun g h=>Nat.le_trans (Nat.le_trans hz5 hz6) h) (by omega) ?_
         intro A4 c4 w4 hO4 hg4 hr4;obtain⟨g4,rfl⟩:=zh0 hr4;have m1:=zak (k1'.out.grown hg4 (by simp[Value.ownBlock];omega));have m2:=zak (k2'.out.grown hg4 (zby k2'.out (HC.out.ents.below hb7).own (by decide)));have mV:=zak ((HC.out.vals.below hb7).grownT hg4 (HC.out.ents.below hb7).own (by decide) (by decide));have mb:Below w.heap.size w w4:=hb8.grown hg4 hb8.size (fun q hq=>by
          have h1:=HC.out.ents.inF ga rfl;simp[Value.ownBlock] at hq;omega)
         rw[←HT1.out] at hO4;have mE:=zak hO4;clear hO4 hO3 hr4 k1 k2 k1' k2' hg4 hb5 hb7 hb8 hz6 hz7;refine hK.out _ _ ?hS43 (fun hHeld=>?rest43)
         case hS43=>((try dsimp only);(exact⟨zhz m1.out,m2.out.cell 0 rfl⟩))
         case' rest43=>(clear hK K;try simp only[PqL,Act.put])
         have m2c:=m2.out.cell 0 rfl;have m2f:=m2.out.frozen 0;refine zag (i:=9) (o:=_) rfl (by kernel_rfl) (fun K hK=>?_)
         go_simp
         refine hK.out _ _ ?hS45 (fun hHeld=>?rest45)
         case hS45=>((try dsimp only);(exact⟨zhz m1.out,m2.out.cell 0 rfl⟩))
         case' rest45=>(clear hK K;try simp only[PqL,Act.put])
         refine zag (i:=10) (o:=_) rfl (by kernel_rfl) (fun K hK=>?_)
         go_simp
         refine hK.out _ _ ?hS47 (fun hHeld=>?rest47)
         case hS47=>((try dsimp only);(exact⟨zhz m1.out,m2.out.cell 0 rfl⟩))
         case' rest47=>(clear hK K;try simp only[PqL,Act.put])
         refine zah (i:=11) (o:=_) rfl (by kernel_rfl) (by kernel_rfl) (fun K hK=>?_)
         go_simp
         refine hK.out _ _ ?rest49
         case' rest49=>(clear hK K;try simp only[PqL,Act.put])
         refine zai (by kernel_rfl) ?_ _
         repeat (clear hHeld)
         clear m2c m2f;clear cZ da db dc dG dH dI dJ dK dL cT cS;have n1:=zak (m1.out.far (p:=⟨w.heap.size+1,0,none⟩) (Nat.ne_of_gt HC.out.blk.lt) (.slice (some ⟨g4,0,none⟩) (k+1) c4));have n2:=zak (m2.out.set_ 0 (.slice (some ⟨g4,0,none⟩) (k+1) c4));have nE:=zak (mE.out.setT m2.out (by decide) (by decide) 0 (.slice (some ⟨g4,0,none⟩) (k+1) c4));have nV:=zak (mV.out.setT m2.out (by decide) (by decide) 0 (.slice (some ⟨g4,0,none⟩) (k+1) c4));have nb:=zbi mb (p:=⟨w.heap.size+1,0,none⟩) (Nat.le_succ _) (.slice (some ⟨g4,0,none⟩) (k+1) c4);generalize hw5:w4.setCell ⟨w.heap.size+1,0,none⟩ (.slice (some ⟨g4,0,none⟩) (k+1) c4)=w5 at *
         clear hw5 mE mV mb m1 m2 r1 rC;go_wp2_with fail
         have dF:=n1.out.cell 10 rfl;have ev:=n2.out.cell 1 rfl;refine zaj (fun w'=>w'.cell? ⟨wr.heap.size,10,none⟩=some (.slice Aj E.df.length cj)∧ w'.cell? ⟨w.heap.size+1,1,none⟩=some (.slice Av' k cv')) [0,1,2,3,4,5,6] (by kernel_rfl) ?hS51 (fun hHeld=>?rest51)
         case hS51=>((try dsimp only);exact⟨n1.out.cell 10 rfl,n2.out.cell 1 rfl⟩)
         case' rest51=>skip
         refine tkT 0 ?_;try simp only[PqL,Act.put]
         refine tkT 1 ?_;try simp only[PqL,Act.put]
         refine tkT 2 ?_;try simp only[PqL,Act.put]
         refine tkT 3 ?_;try simp only[PqL,Act.put]
         refine tkT 4 ?_;try simp only[PqL,Act.put]
         refine tkT 5 ?_;try simp only[PqL,Act.put]
         refine tkT 6 ?_;try simp only[PqL,Act.put]
         refine zag (i:=7) (o:=_) rfl (by kernel_rfl) (fun K hK=>?_)
         go_simp
         refine (zee Aj E.df.length cj E.df _ rfl HFE.out.1 (HSW.out.below nb).drew).mono ?_;rintro e w6 ⟨A5,c5,rfl,hO5,hb5⟩;dsimp only;replace hb5:=zhy hb5;have o1:=zak (n1.out.below hb5 n1.out.lt);have o2:=zak (n2.out.below hb5 n2.out.lt);have ob:=za5 hb5 nb;have hz8:=nb.size;have ofi:=hO5.own.fin;refine hK.out _ _ ?hS60 (fun hHeld=>?rest60)
         case hS60=>((try dsimp only);(exact⟨o1.out.cell 10 rfl,o2.out.cell 1 rfl⟩))
         case' rest60=>(clear hK K;try simp only[PqL,Act.put])
         have ob2:=za7 ob (.cells #[.slice A5 E.df.length c5] 27);have o1':=zak (o1.out.alloc (.cells #[.slice A5 E.df.length c5] 27));have o3:=zak (o2.out.alloc (.cells #[.slice A5 E.df.length c5] 27));have hb6:=za7 hb5 (.cells #[.slice A5 E.df.length c5] 27);refine zag (i:=8) (o:=_) rfl (by kernel_rfl) (fun K hK=>?_)
         go_simp
         refine hK.out _ _ ?hS62 (fun hHeld=>?rest62)
         case hS62=>((try dsimp only);(exact⟨o1'.out.cell 10 rfl,o3.out.cell 1 rfl⟩))
         case' rest62=>(clear hK K;try simp only[PqL,Act.put])
         have hz9:=ob2.size;refine zag (i:=9) (o:=_) rfl (by kernel_rfl) (fun K hK=>?_);rw[if_pos (show Region.wanted _ _=true by kernel_rfl)];refine zhw (f:=valF) (k:=1) (e:=27) (dat:=fun v=>v) (F:=fun g=>w.heap.size≤g) _ _ 98 rfl zd3 zd5 (by decide) 24 _ Tryz.underlying98 zd7 rfl (by omega) (by omega) Av' k cv' ((L.take k).map Ent.df) es' rfl (nV.out.below hb6) E.df (A5,c5) _ rfl (by exact (Blk.new _ _ _).sl) ((hO5.alloc _).mono (Nat.zero_le _)) (ofi.mono (fun g h=>Nat.le_trans hz8 h.1)) (fun g h=>Nat.le_trans hz9 h) (by omega) ?_;intro A6 c6 w7 hO6 hg6 hr6;have p1:=zak (o1'.out.grown hg6 (zby o1'.out (nV.out.below hb6).own (by decide)))
         have p2:=zak (o3.out.grown hg6 (zby o3.out (nV.out.below hb6).own (by decide)));have pE:=zak ((nE.out.below hb6).grownT hg6 (nV.out.below hb6).own (by decide) (by decide));have pb:Below w.heap.size w w7:=ob2.grown hg6 ob2.size (fun q hq=>by
          rcases nV.out.own.shape with ⟨h1,_⟩ | ⟨g',h1,_,_⟩
          · rw[h1] at hq;cases hq
          · have:=nV.out.inF g' h1
            rw[h1] at hq;simp[Value.ownBlock] at hq;omega)
         rw[←HT2.out] at hO6;have pV:=zak hO6;clear hO6 hO5 hr6 hg6 ofi hb5 hb6 ob2 o1 o1' o2 o3 dF ev;refine hK.out _ _ ?hS64 (fun hHeld=>?rest64)
         case hS64=>((try dsimp only);(exact⟨p1.out.cell 10 rfl,p2.out.cell 1 rfl⟩))
         case' rest64=>(clear hK K;try simp only[PqL,Act.put])
         have p2c:=p2.out.cell 1 rfl;have p2f:=p2.out.frozen 1;refine zag (i:=10) (o:=_) rfl (by kernel_rfl) (fun K hK=>?_)
         go_simp
         refine hK.out _ _ ?hS66 (fun hHeld=>?rest66)
         case hS66=>((try dsimp only);(exact⟨p1.out.cell 10 rfl,p2.out.cell 1 rfl⟩))
         case' rest66=>(clear hK K;try simp only[PqL,Act.put])
         refine zag (i:=11) (o:=_) rfl (by kernel_rfl) (fun K hK=>?_)
         go_simp
         refine hK.out _ _ ?hS68 (fun hHeld=>?rest68)
         case hS68=>((try dsimp only);(exact⟨p1.out.cell 10 rfl,p2.out.cell 1 rfl⟩))
         case' rest68=>(clear hK K;try simp only[PqL,Act.put])
         refine zah (i:=12) (o:=_) rfl (by kernel_rfl) (by kernel_rfl) (fun K hK=>?_)
         go_simp
         refine hK.out _ _ ?rest70
         case' rest70=>(clear hK K;try simp only[PqL,Act.put])
         refine zai (by kernel_rfl) ?_ _
         repeat (clear hHeld)
         have HC2:Hid (DB 100 (w7.setCell ⟨w.heap.size+1,1,none⟩ (.slice A6 (k+1) c6)) (fun g=>w.heap.size≤g) (w.heap.size+1) (some ⟨g4,0,none⟩) (k+1) c4 A6 c6 (L.take (k+1)) ((L.take (k+1)).map Ent.df) (ds' ++ [(A3,c3')]) (es' ++ [(A5,c5)])):=
          zak ⟨p2.out.set_ 1 _,Nat.le_succ _,pE.out.setT p2.out (by decide) (by decide) 1 _,pV.out.setT p2.out (by decide) (by decide) 1 _,fun E hE=>HF.out E (List.mem_of_mem_take hE),fun v hv=>by
           obtain⟨D,hD,rfl⟩:=List.mem_map.1 hv;exact (HF.out D (List.mem_of_mem_take hD)).1⟩
         have pb2:=zbi pb (p:=⟨w.heap.size+1,1,none⟩) (Nat.le_succ _) (.slice A6 (k+1) c6);clear p2c p2f;go_wp2_with fail
         go_roundw
         case rel=>exact⟨k+1,g4,c4,A6,c6,_,_,by omega,by go_num,HC2,HKN,pb2⟩
         case measure=>simp[intOf];omega
       · go_wp2_with fail
         go_ret3
         exact⟨_,_,_,rfl,.inr (.inl ⟨by rw[←HN.out];omega,by decide,k,by rw[←HN.out];exact hlt,by rw[HB16.out];rfl,rfl,HK.out⟩),fun _=>rfl,fun h=>absurd h (by decide),za5 hwc hbr⟩
    · have HR:Hid (chkE L k=rightE E∧rightE E≠0):=zak ⟨zdh HE.out hr,hr⟩;obtain⟨er,her⟩:∃er,er=rightE E:=⟨_,rfl⟩;have hr': ¬er=0:=by rw[her];exact hr
      rw[←her];have HER:=zak her;clear hr her;go_wp2_with fail
      go_ret3
      refine⟨_,_,_,rfl,.inr (.inl ⟨by rw[←HN.out];omega,hr',k,by rw[←HN.out];exact hlt,by rw[HR.out.1,HER.out],rfl,HK.out⟩),fun _=>rfl,fun h=>absurd h hr',za5 hb1' hbr⟩
  · have hkn:k=n:=by omega
    go_wp2_with fail
    go_ret3
    have h1:=HC.out;have h2:=HK.out;rw[List.take_of_length_le (by rw[hkn,HN.out];exact Nat.le_refl _)] at h1;exact⟨_,0,0,rfl,.inr (.inr ⟨by rw[←HN.out];omega,rfl,rfl,by rw[←HN.out,←hkn];exact h2⟩),fun h=>absurd rfl h,fun _=>⟨_,ga,k,cl',Av',cv',ds',es',rfl,by rw[hkn];exact HN.out,h1⟩,hbr⟩
end
section
open Go.RowKit
theorem znz (w:World)(C:Array Value)(n c:Nat):(convert 27 27 (.slice (some ⟨w.heap.size,0,none⟩) n c)).run Tryz.prog (w.alloc (.cells C 5))= .ok (.slice (some ⟨w.heap.size,0,none⟩) n c) (w.alloc (.cells C 5 (C.size,C.size+1))):=
 Lib.run_convert_bytes_const (P:=Tryz.prog) w 27 5 C n c Tryz.underlying27 Tryz.underlying5
theorem zn0 (w:World)(cs:Array Value)(t:TypeId)(fr:Nat×Nat):Sl (w.alloc (.cells cs t fr)) (some ⟨w.heap.size,0,none⟩) cs.toList:=by
 intro j u hu;refine⟨_,rfl,?_⟩;rw[Addr.add_lit,Nat.zero_add];have hh:=heap_alloc_new w (.cells cs t fr);simp only[World.cell?];rw[hh]
 simpa using hu
theorem zn1 {w:World}{N:Nat}{X:Nat→Prop}{As:Option Addr}{ns cs:Nat}{M:Ms}(h:MsR w N X As ns cs [M]):∃g A n c,As=some ⟨g,0,none⟩∧ ns=1∧cs=1∧N≤g∧Blk w g 95 (msV M A n c)∧ zbs w N A n c M.data:=by
 rcases h with ⟨h,_⟩ | ⟨M',g,A,n,c,h,a,b,c1,d,e,f,_⟩
 · cases h
 · injection h with h _
   subst h;exact⟨g,A,n,c,a,b,c1,d,e,f⟩
theorem zn2 {w:World}{N:Nat}{X:Nat→Prop}{As:Option Addr}{ns cs:Nat}(h:MsR w N X As ns cs []):As=none∧ns=0∧cs=0:=by
 rcases h with ⟨_,a,b,c⟩ | ⟨M',g,A,n,c,h,_⟩
 · exact⟨a,b,c⟩
 · cases h
end
end Go.Proofs.YtkkpjbjmhaecjaaGreat
