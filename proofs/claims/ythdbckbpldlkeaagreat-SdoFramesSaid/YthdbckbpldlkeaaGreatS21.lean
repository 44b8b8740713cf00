/- None -/
import Derived.Test.YthdbckbpldlkeaaGreatS20
namespace Go.Proofs.YthdbckbpldlkeaaGreat
set_option linter.unusedVariables false
set_option linter.unusedSimpArgs false
set_option linter.unnecessarySimpa false
section
open Go.RowKit
set_option maxRecDepth 100000
set_option maxHeartbeats 4000000
def MsR (w:World) (N:Nat) (X:Nat→Prop) (As:Option Addr) (ns cs:Nat) (l:List Ms):Prop:=
 (l= []∧ As=none∧ns=0∧cs=0)∨ ∃ M g A n c,l= [M]∧ As=some ⟨g,0,none⟩∧ ns=1∧cs=1∧N≤g∧Blk w g 102 (msV M A n c)∧ zdq w N A n c M.data∧FIn X A
def SV_ (w:World) (G:Nat→Prop) (p pd:Nat) (S:SegS):Prop:=
 ∃ A n c,Blk w p 199 (srvV S pd A n c)∧ ((S.st=1∨S.st=2)→ n=S.b.length∧n≤c∧Sl w A (S.b.map bv)∧ (A=none→n=0)∧ ∀ ad,A=some ad→G ad.block∧ad.block < w.heap.size∧ad.block≠p)
def SOutR (w:World) (G:Nat→Prop) (p pd:Nat) (S':SegS) (O:SegO) (e:Ending) (w':World):Prop:=
 ∃ X As ns cs A n c,e= .returned (.agg (outV As ns cs O A n c))∧ MsR w' w.heap.size X As ns cs O.ms∧zdq w' w.heap.size A n c O.b∧FIn X A∧SV_ w' (fun g=>(G g∨w.heap.size≤g)∧ ¬ X g) p pd S'∧zdv (fun g=>g=p) w w'
section
variable {F:Nat→Prop} {pd gl n cl cv:Nat} {Av:Option Addr} {L:List Ent} {V:List (List UInt8)} {ds es:List (Option Addr×Nat)}
theorem zj3 {w w':World} {A:Option Addr} {xs:List Value} (h:Sl w A xs) (hk:∀ ad,A=some ad→w'.heap[ad.block]? =w.heap[ad.block]?):Sl w' A xs:=by
 intro j u hu
 obtain⟨ad,rfl,hc⟩:= h j u hu
 refine⟨ad,rfl,?_⟩
 rw[← hc]
 unfold World.cell?
 rw[show (ad.add j).block=ad.block by unfold Addr.add;split<;>rfl,hk ad rfl]
theorem SV_.keep {w w':World} {G H:Nat→Prop} {p pd:Nat} {S:SegS} (h:SV_ w G p pd S) (hk:∀ q,q=p∨G q→q < w.heap.size→w'.heap[q]? =w.heap[q]?) (hz:w.heap.size≤w'.heap.size) (hH:∀ q,q < w.heap.size→G q→H q):SV_ w' H p pd S:=by
 obtain⟨A,n,c,hB,hb⟩:= h
 refine⟨A,n,c,(hk p (.inl rfl) hB.lt).trans hB,fun h0=>?_⟩
 obtain⟨h1,h2,h3,h4,h5⟩:= hb h0
 exact⟨h1,h2,zj3 h3 (fun ad e=>hk _ (.inr (h5 ad e).1) (h5 ad e).2.1),h4,fun ad e=>⟨hH _ (h5 ad e).2.1 (h5 ad e).1,Nat.lt_of_lt_of_le (h5 ad e).2.1 hz,(h5 ad e).2.2⟩⟩
theorem zj4 {w:World} {g q:Nat} (hne:q≠g) (As:Option Addr) (ns cs:Nat) (O:SegO) (A:Option Addr) (n c:Nat):(putO w g As ns cs O A n c).heap[q]? =w.heap[q]? :=by
 unfold putO
 rw[Below.heap_setCell _ _ _ _ hne,Below.heap_setCell _ _ _ _ hne,Below.heap_setCell _ _ _ _ hne,Below.heap_setCell _ _ _ _ hne,Below.heap_setCell _ _ _ _ hne]
theorem zj5 (w:World) (g:Nat) (As:Option Addr) (ns cs:Nat) (O:SegO) (A:Option Addr) (n c:Nat):(putO w g As ns cs O A n c).heap.size=w.heap.size:=by
 unfold putO
 simp[World.setCell]
theorem zj6 {w w3:World} {G:Nat→Prop} {p pd g n c:Nat} {S':SegS} {M:Ms} {A:Option Addr} (X:Nat→Prop) (hK:Blk w3 (w.heap.size+1) 100 (outV none 0 0 outZ none 0 0)) (hg:w.heap.size+2≤g) (hM:Blk w3 g 102 (msV M A n c)) (hO:zdq w3 (w.heap.size+2) A n c M.data) (hX:FIn X A)
 (hS:SV_ w3 (fun q=>((G q∨w.heap.size≤q)∧ ¬ X q)∧ q≠w.heap.size+1) p pd S') (ho:zdv (fun q=>q=p) w w3) (hp:p < w.heap.size) :
 Blk (putO w3 (w.heap.size+1) (some ⟨g,0,none⟩) 1 1 outZ none 0 0) (w.heap.size+1) 100 (outV (some ⟨g,0,none⟩) 1 1 outZ none 0 0)∧ SOutR w G p pd S' (outM M) (.returned (.agg (outV (some ⟨g,0,none⟩) 1 1 outZ none 0 0))) (putO w3 (w.heap.size+1) (some ⟨g,0,none⟩) 1 1 outZ none 0 0):= by
 refine⟨zje hK,X,some ⟨g,0,none⟩,1,1,none,0,0,rfl,.inr ⟨M,g,A,n,c,rfl,rfl,rfl,rfl,by omega,zjf hM (by omega) _ _ _ _ _ _ _,(zjh hO (by omega) _ _ _ _ _ _ _).mono (by omega),hX⟩,zdq.nil _ _,FIn.nil _,?_,zjg ho (by omega) _ _ _ _ _ _ _⟩
 exact hS.keep (fun q hq _=>zj4 (by rcases hq with rfl | hq;omega;exact hq.2) _ _ _ _ _ _ _) (by rw[zj5];exact Nat.le_refl _) (fun q _ hq=>hq.1)
def UpX (w w2:World) (p pd:Nat) (S':SegS) (A:Option Addr) (n c:Nat) (b:List UInt8) (M:Ms) (W:World):Prop:=
 Blk W p 199 (srvV S' pd A n c)∧ zdv (fun q=>q=p) w W∧Blk W w2.heap.size 102 (msV M none 0 0)∧ Blk W (w.heap.size+1) 100 (outV none 0 0 outZ none 0 0)∧ zdq W (w.heap.size+2) A n c b∧W.heap.size=w2.heap.size+1
theorem zj7 {w w2:World} {p pd:Nat} {S':SegS} {A:Option Addr} {n c:Nat} {b:List UInt8} {M:Ms} {W0:World} {f:Nat} {args:Array Value} {K:Ending→World→Prop} (h:UpX w w2 p pd S' A n c b M W0) (k:∀ W,UpX w w2 p pd S' A n c b M W→Calls Tryz.prog f args W K):Calls Tryz.prog f args W0.drew K:=
 k _ ⟨h.1,h.2.1.drew,h.2.2.1,h.2.2.2.1,h.2.2.2.2.1.drew,h.2.2.2.2.2⟩
theorem zj8 {w:World} {N p pd n c:Nat} {S:SegS} {A:Option Addr} {H:Nat→Prop} (hB:Blk w p 199 (srvV S pd A n c)) (hO:zdq w N A n c S.b) (hp:p < N) (hH:∀ q,N≤q→H q):SV_ w H p pd S:=by
 refine⟨A,n,c,hB,fun _=>⟨hO.hn,hO.le,hO.sl,?_,?_⟩⟩
 · rintro rfl
   rcases hO.own.shape with ⟨_,h,_⟩ | ⟨g,h,_⟩
   · exact h
   · cases h
 · rintro ad rfl
   rcases hO.own.shape with ⟨h,_⟩ | ⟨g,h,h1,h2⟩
   · cases h
   · injection h with h
     subst h
     exact⟨hH _ h1,h2,by simp only;omega⟩
theorem zj9 (L:List Ent) (ix sub:Int):∃ k:Nat,getC L ix sub=(k:Int):= ⟨(getC L ix sub).toNat,by
 have:0≤getC L ix sub:=by unfold getC codeL readE;(repeat' split)<;> omega
 omega⟩
def UpW (w:World) (F:Nat→Prop) (p pd gl n cl:Nat) (Av:Option Addr) (cv:Nat) (L:List Ent) (V:List (List UInt8)) (ds es:List (Option Addr×Nat)) (S:SegS) (A:Option Addr) (n1 c1:Nat) (M:Ms) (A3:Option Addr) (m3 c3:Nat) (W:World):Prop:=
 Below w.heap.size w W∧DB 107 W F pd (some ⟨gl,0,none⟩) n cl Av cv L V ds es∧Blk W p 199 (srvV S pd A n1 c1)∧ Blk W w.heap.size 102 (msV M A3 m3 c3)∧ Blk W (w.heap.size+1) 100 (outV none 0 0 outZ none 0 0)
theorem zka (p:Nat) (S:SegS) (G:Nat→Prop) (M:Ms) (A3:Option Addr) (m3 c3:Nat) (w:World) (hD:DB 107 w F pd (some ⟨gl,0,none⟩) n cl Av cv L V ds es) (hs:SortedE L) (hn:n≤1000) (hv:∀ v ∈ V,v.length≤256)
 (hp: ¬ F p) (hS:SV_ w G p pd S) (h0:S.st=0) :
 Calls Tryz.prog 194 #[.pointer (some ⟨p,0,none⟩),.agg (msV M A3 m3 c3)] w (SOutR w G p pd (upS L V S M) (upO L V M)):= by
 obtain⟨A,n1,c1,hB,_⟩:= id hS
 obtain⟨k1,k2⟩:= zdc w 102 100 (msV M A3 m3 c3) (outV none 0 0 outZ none 0 0)
 have hbw:=zc1 (zc1 (Below.refl w.heap.size w) (.cells (msV M A3 m3 c3) 102)) (.cells (outV none 0 0 outZ none 0 0) 100)
 obtain⟨P,hP⟩:∃ P,P=SOutR w G p pd (upS L V S M) (upO L V M):= ⟨_,rfl⟩
 rw[← hP]
 have HP:=zak hP
 have HS:=zak hs
 have H1:=zak hn
 have HV:=zak hv
 have HD:=zak (hD.below hbw)
 have HB:=zak hB
 have HB2:=zak (hB.below hbw hB.lt)
 have hz:=hB.lt
 have HK2:=zak k2
 have HK1:=zak k1
 have HS0:Hid (SV_ w G p pd S):= zak hS
 clear hP hs hn hv hD hB hS
 have hne1:p≠w.heap.size+1:=by omega
 have HH:Hid (UpW w F p pd gl n cl Av cv L V ds es S A n1 c1 M A3 m3 c3 ((w.alloc (.cells (msV M A3 m3 c3) 102)).alloc (.cells (outV none 0 0 outZ none 0 0) 100))):= zak ⟨hbw,HD.out,HB2.out,HK1.out,HK2.out⟩
 unfold msV outV outZ at HH
 clear hbw HD HB2 HK1 HK2 k1 k2
 unfold msV
 go_enter Tryz.func194,Tryz.ntmps194
 go_wp2_with fail
 refine zd8 (P:=UpW w F p pd gl n cl Av cv L V ds es S A n1 c1 M A3 m3 c3) HH.out (fun W hW=>?_)
 clear HH
 obtain⟨hbw,hD,hB,hK1,hK2⟩:= hW
 have HD:=zak hD
 have HBW:=zak hB
 have HK1:=zak hK1
 have HK2:=zak hK2
 have zW:=hB.lt
 have zK:=hK2.lt
 have zK1:=hK1.lt
 have b0:W.cell? ⟨p,0,none⟩=some (.pointer (some ⟨pd,0,none⟩)):= hB.cell 0 rfl
 have b1:W.cell? ⟨w.heap.size,1,none⟩=some (.int .i64 M.ix):= hK1.cell 1 rfl
 have b2:W.cell? ⟨w.heap.size,2,none⟩=some (.int .i64 M.sub):= hK1.cell 2 rfl
 clear hD hB hK1 hK2
 refine wp_region_held_drew (S:=(fun w'=>(∀ qA:Addr,qA.block < (W).heap.size→w'.cell? qA=(W).cell? qA)∧ Below (W).heap.size (W) w')) (by kernel_rfl) ?hS1 (fun hHeld=>?rest1)
 case hS1=>((try dsimp only);(((try go_split_ands);refine zcz ?_;all_goals exact bl)))
 case' rest1=>skip
 iterate 8 (refine tkN ?_;try simp only[PqL,Act.put])
 refine wpAnyH_ready (rs:= [8]) (by kernel_rfl) (by simp) ?_
 refine AllReadyH.cons (o:=_) rfl (fun K hK=>?_) .nil
 go_simp
 refine (zim M.ix M.sub _ (HD.out.below (Below.drew (Below.refl _ _))) HS.out H1.out).mono ?_
 rintro e w2 ⟨A4,n4,c4,b,rfl,hO4,hb4,hb2⟩
 have HO4:=zak (hO4.mono (B':=W.heap.size) (Nat.le_refl _))
 have HB4:=zak hb4
 clear hO4 hb4
 dsimp only
 refine hK.out _ _ ?hS12 (fun hHeld=>?rest12)
 case hS12=>((try dsimp only);(((try go_split_ands);refine zcz ?_;all_goals exact bl)))
 case' rest12=>(clear hK K;try simp only[PqL,Act.put])
 refine tkH 9 ?_
 try simp only[PqL,Act.put]
 refine tkH 10 ?_
 try simp only[PqL,Act.put]
 refine tkH 11 ?_
 try simp only[PqL,Act.put]
 refine tkH 12 ?_
 try simp only[PqL,Act.put]
 refine tkH 13 ?_
 try simp only[PqL,Act.put]
 refine wpAnyH_done (by kernel_rfl) ?_ _
 have hEnd:=hHeld.2
 repeat (clear hHeld)
 have HD2:=zak (HD.out.below hEnd)
 have hbw2:=zc0 hEnd hbw
 have HBW2:=zak (HBW.out.below hEnd zW)
 have HK12:=zak (HK1.out.below hEnd HK1.out.lt)
 have HK22:=zak (HK2.out.below hEnd zK)
 have k1:=HK12.out
 have k2:=HK22.out
 have bb:=HBW2.out
 have zW2:=bb.lt
 unfold msV at k1
 unfold outV outZ at k2
 unfold srvV at bb
 obtain⟨k1_c0,k1_c1,k1_c2,k1_c3,k1_c4,k1_c5,k1_c6,k1_c7,k1_c8,k1_c9,k1_c10,k1_c11,k1_c12,k1_c13⟩:= zc9 k1
 have k1_f:=k1.frozen
 obtain⟨k2_c0,k2_c1,k2_c2,k2_c3,k2_c4⟩:= zc5 k2
 have k2_f:=k2.frozen
 obtain⟨bb_c0,bb_c1,bb_c2,bb_c3,bb_c4,bb_c5,bb_c6,bb_c7⟩:= zc6 bb
 have bb_f:=bb.frozen
 obtain⟨cc,hcc⟩:∃ cc,cc=getC L M.ix M.sub:=⟨_,rfl⟩
 have HCC:=zak hcc
 rw[← hcc]
 clear hcc
 have hne0:w.heap.size≠p:=by omega
 have hO2:Hid (zdv (fun q=>q=p) w w2):= zak (zdv.of_below hbw2)
 have zw2:w.heap.size+1 < w2.heap.size:=HK22.out.lt
 have zWz:W.heap.size≤w2.heap.size:=hEnd.size
 by_cases hc:cc=0
 · have hgc:getC L M.ix M.sub=0:=by rw[← HCC.out];exact hc
   have hgb:getB L V M.ix M.sub=b:=HB4.out.symm
   have hn4:n4=b.length:=HO4.out.hn
   have hb256:n4≤256:=by
    rw[hn4,HB4.out,if_pos hgc]
    unfold valK
    rw[List.getD_eq_getElem?_getD]
    cases hx:V[locK L M.ix M.sub]? with
    | none=>simp
    | some v=>exact HV.out v (List.mem_of_getElem? hx)
   by_cases hsh:0 < n4∧n4≤4
   · have HR:Hid (P=SOutR w G p pd S (outM (upM M.ix M.sub 0 b))):= zak (by
      rw[HP.out]
      congr 1
      · unfold upS;rw[if_neg (by rw[hgc];simp),if_pos (by rw[hgb,← hn4];exact hsh)]
      · unfold upO;rw[if_neg (by rw[hgc];simp),if_pos (by rw[hgb,← hn4];exact hsh),hgb])
     obtain⟨h1,h2⟩:= hsh
     clear hgc hgb hn4 HP
     go_wp2_with fail
     refine (zjl (upM M.ix M.sub 0 b) A4 n4 c4 _).mono ?_
     rintro e w3 ⟨g,hg,rfl,hBg,hb3⟩
     unfold outV outZ
     dsimp only
     have hb23:=zc0 hb3 (zc1 (Below.refl w2.heap.size w2) (.cells (msV (upM M.ix M.sub 0 b) A4 n4 c4) 102))
     have hgz:w2.heap.size≤g:=Nat.le_trans (by simp) hg
     have HK23:=zak (HK22.out.below hb23 zw2)
     have HO43:=zak (HO4.out.below hb23)
     have HBG:=zak hBg
     have HS3:=zak (HS0.out.keep (w':=w3) (H:=fun q=>((G q∨w.heap.size≤q)∧ ¬ W.heap.size≤q)∧ q≠w.heap.size+1) (fun q _ hq=>(hbw2.trans (hb23.mono hbw2.size)).block q hq) (zc0 hb23 hbw2).size (fun q h1 h2=>⟨⟨.inl h2,by have:=hbw.size;omega⟩,by omega⟩))
     have HO3:=zak (hO2.out.step hb23)
     clear k2_c0 k2_c1 k2_c2 k2_c3 k2_c4 k2_f
     clear k2 hBg
     have k2:=HK23.out
     unfold outV outZ at k2
     obtain⟨k2_c0,k2_c1,k2_c2,k2_c3,k2_c4⟩:= zc5 k2
     have k2_f:=k2.frozen
     go_wp2_with fail
     have F:=zj6 (fun q=>W.heap.size≤q) HK23.out (by omega) HBG.out (HO43.out.mono (by omega)) (HO43.out.own.fin.mono (fun q h=>h.1)) HS3.out HO3.out hz
     obtain⟨F1,F2⟩:= F
     rw[← HR.out] at F2
     clear HR
     unfold putO outZ at F1 F2
     dsimp only at F1 F2
     refine zjd (O:=⟨[],false,0,0,[]⟩) rfl rfl rfl F1 ?_
     exact F2
   · have HR:Hid (P=SOutR w G p pd (upS L V S M) (outM (upM M.ix M.sub n4 []))):= zak (by
      rw[HP.out]
      congr 1
      unfold upO;rw[if_neg (by rw[hgc];simp),if_neg (by rw[hgb,← hn4];exact hsh),hgb,← hn4])
     have HU:Hid (upS L V S M= { S with st:=2,ix:=M.ix,sub:=M.sub,b:=b,tg:=false }):= zak (by unfold upS;rw[if_neg (by rw[hgc];simp),if_neg (by rw[hgb,← hn4];exact hsh),hgb])
     have HUb:Hid ((upS L V S M).b=b):= zak (by rw[HU.out])
     have hmod:(n4:Int) % 4294967296=(n4:Int):= by omega
     rcases (show n4=0∨4 < n4 by omega) with hcs | hcs
     · subst hcs
       clear hmod
       have s1:=zd5 [.int .i64 2,.int .i64 M.ix,.int .i64 M.sub] 1 (l:=(srvV S pd A n1 c1).toList) HBW2.out (by simp[srvV])
       have s2:=zd5 [.slice A4 0 c4,.bool false] 6 s1 (by simp[srvV])
       have s3:Blk (World.setCells _ p 6 _) p 199 (srvV { S with st:=2,ix:=M.ix,sub:=M.sub,b:=b,tg:=false } pd A4 0 c4):= s2
       rw[← HU.out] at s3
       have s4:zdv (fun q=>q=p) w (((w2.setCells p 1 [.int .i64 2,.int .i64 M.ix,.int .i64 M.sub]).setCells p 6 [.slice A4 0 c4,.bool false])):= zd6 (F:=fun q=>q=p) rfl _ _ (zd6 (F:=fun q=>q=p) rfl _ _ hO2.out)
       have sz:(((w2.setCells p 1 [.int .i64 2,.int .i64 M.ix,.int .i64 M.sub]).setCells p 6 [.slice A4 0 c4,.bool false])).heap.size=w2.heap.size:=by rw[zd7,zd7]
       have HH:Hid (UpX w w2 p pd (upS L V S M) A4 0 c4 b (upM M.ix M.sub 0 []) ((((w2.setCells p 1 [.int .i64 2,.int .i64 M.ix,.int .i64 M.sub]).setCells p 6 [.slice A4 0 c4,.bool false])).alloc (.cells (msV (upM M.ix M.sub 0 []) none 0 0) 102))):= zak (by
        refine⟨s3.alloc _,(s4.new _),?_,?_,?_,by rw[← sz];simp⟩
        · have:=Blk.new (((w2.setCells p 1 [.int .i64 2,.int .i64 M.ix,.int .i64 M.sub]).setCells p 6 [.slice A4 0 c4,.bool false])) 102 (msV (upM M.ix M.sub 0 []) none 0 0)
          rw[sz] at this
          exact this
        · exact (ziz HK22.out (zd6 (F:=fun q=>q=p) rfl _ _ (zd6 (F:=fun q=>q=p) rfl _ _ (zdv.refl _ _))) (by omega)).alloc _
        · exact (zi0 HO4.out (zd6 (F:=fun q=>q=p) rfl _ _ (zd6 (F:=fun q=>q=p) rfl _ _ (zdv.refl _ _))) (fun g h1 _ h2=>by omega)).mono (by omega) |>.alloc _)
       simp only[World.setCells,Nat.reduceAdd,msV,upM] at HH
       have c1:(w2.alloc (.cells (msV (upM M.ix M.sub 0 []) none 0 0) 102)).cell? ⟨w.heap.size,1,none⟩=some (.int .i64 M.ix):= (HK12.out.alloc _).cell 1 rfl
       have c2:(w2.alloc (.cells (msV (upM M.ix M.sub 0 []) none 0 0) 102)).cell? ⟨w.heap.size,2,none⟩=some (.int .i64 M.sub):= (HK12.out.alloc _).cell 2 rfl
       have c3:((w2.setCell ⟨p,1,none⟩ (.int .i64 2)).alloc (.cells (msV (upM M.ix M.sub 0 []) none 0 0) 102)).cell? ⟨w.heap.size,1,none⟩=some (.int .i64 M.ix):= ((HK12.out.far (p:=⟨p,1,none⟩) hne0 _).alloc _).cell 1 rfl
       have c4':((w2.setCell ⟨p,1,none⟩ (.int .i64 2)).alloc (.cells (msV (upM M.ix M.sub 0 []) none 0 0) 102)).cell? ⟨w.heap.size,2,none⟩=some (.int .i64 M.sub):= ((HK12.out.far (p:=⟨p,1,none⟩) hne0 _).alloc _).cell 2 rfl
       have c5:(((w2.setCell ⟨p,1,none⟩ (.int .i64 2)).setCell ⟨p,2,none⟩ (.int .i64 M.ix)).alloc (.cells (msV (upM M.ix M.sub 0 []) none 0 0) 102)).cell? ⟨w.heap.size,1,none⟩=some (.int .i64 M.ix):= (((HK12.out.far (p:=⟨p,1,none⟩) hne0 _).far (p:=⟨p,2,none⟩) hne0 _).alloc _).cell 1 rfl
       have c6:(((w2.setCell ⟨p,1,none⟩ (.int .i64 2)).setCell ⟨p,2,none⟩ (.int .i64 M.ix)).alloc (.cells (msV (upM M.ix M.sub 0 []) none 0 0) 102)).cell? ⟨w.heap.size,2,none⟩=some (.int .i64 M.sub):= (((HK12.out.far (p:=⟨p,1,none⟩) hne0 _).far (p:=⟨p,2,none⟩) hne0 _).alloc _).cell 2 rfl
       unfold msV upM at c1 c2 c3 c4' c5 c6
       clear s1 s2 s3 s4 sz HU hgc hgb hn4 HP
       go_wp2_with fail
       refine zaj (fun w'=>w'.cell? ⟨w.heap.size,1,none⟩=some (.int .i64 M.ix)∧ w'.cell? ⟨w.heap.size,2,none⟩=some (.int .i64 M.sub)) [0,1,2,3,4,5,6,7,8,10,11,13,14] (by kernel_rfl) ?hS19 (fun hHeld=>?rest19)
       case hS19=>((try dsimp only);exact⟨c1,c2⟩)
       case' rest19=>skip
       refine tkT 0 ?_
       try simp only[PqL,Act.put]
       refine tkT 1 ?_
       try simp only[PqL,Act.put]
       refine tkT 2 ?_
       try simp only[PqL,Act.put]
       refine tkT 3 ?_
       try simp only[PqL,Act.put]
       refine tkT 4 ?_
       try simp only[PqL,Act.put]
       refine tkT 5 ?_
       try simp only[PqL,Act.put]
       refine tkT 6 ?_
       try simp only[PqL,Act.put]
       refine tkT 7 ?_
       try simp only[PqL,Act.put]
       refine tkT 8 ?_
       try simp only[PqL,Act.put]
       refine zag (i:=9) (o:=_) rfl (by kernel_rfl) (fun K hK=>?_)
       go_simp
       refine hK.out _ _ ?hS30 (fun hHeld=>?rest30)
       case hS30=>((try dsimp only);(exact⟨c3,c4'⟩))
       case' rest30=>(clear hK K;try simp only[PqL,Act.put])
       refine tkT 10 ?_
       try simp only[PqL,Act.put]
       refine tkT 11 ?_
       try simp only[PqL,Act.put]
       refine zag (i:=12) (o:=_) rfl (by kernel_rfl) (fun K hK=>?_)
       go_simp
       refine hK.out _ _ ?hS34 (fun hHeld=>?rest34)
       case hS34=>((try dsimp only);(exact⟨c5,c6⟩))
       case' rest34=>(clear hK K;try simp only[PqL,Act.put])
       refine tkT 13 ?_
       try simp only[PqL,Act.put]
       refine tkT 14 ?_
       try simp only[PqL,Act.put]
       refine zah (i:=15) (o:=_) rfl (by kernel_rfl) (by kernel_rfl) (fun K hK=>?_)
       go_simp
       refine hK.out _ _ ?rest38
       case' rest38=>(clear hK K;try simp only[PqL,Act.put])
       refine zai (by kernel_rfl) ?_ _
       repeat (clear hHeld)
       clear c1 c2 c3 c4' c5 c6
       go_wp2_with fail
       refine zj7 HH.out (fun W3 hW3=>?_)
       obtain⟨hB5,hO5,hM5,hK5,hOw5,hz5⟩:= hW3
       refine (zjl (upM M.ix M.sub 0 []) none 0 0 _).mono ?_
       rintro e w3 ⟨g,hg,rfl,hBg,hb3⟩
       unfold outV outZ
       dsimp only
       have HK23:=zak (hK5.below hb3 hK5.lt)
       have HBG:=zak hBg
       have HS3:Hid (SV_ w3 (fun q=>((G q∨w.heap.size≤q)∧ ¬ False)∧ q≠w.heap.size+1) p pd (upS L V S M)):= zak (zj8 (N:=w.heap.size+2) (hB5.below hb3 hB5.lt) (by rw[HUb.out];exact hOw5.below hb3) (by omega) (fun q h=>⟨⟨.inr (by omega),id⟩,by omega⟩))
       have HO3:=zak (hO5.step hb3)
       clear k2_c0 k2_c1 k2_c2 k2_c3 k2_c4 k2_f
       clear k2 hBg hB5 hO5 hM5 hOw5
       have k2:=HK23.out
       unfold outV outZ at k2
       obtain⟨k2_c0,k2_c1,k2_c2,k2_c3,k2_c4⟩:= zc5 k2
       have k2_f:=k2.frozen
       go_wp2_with fail
       obtain⟨F1,F2⟩:= zj6 (fun _=>False) HK23.out (by omega) HBG.out (zdq.nil _ _) (FIn.nil _) HS3.out HO3.out hz
       rw[← HR.out] at F2
       clear HR
       unfold putO outZ at F1 F2
       dsimp only at F1 F2
       refine zjd (O:=⟨[],false,0,0,[]⟩) rfl rfl rfl F1 ?_
       exact F2
     · skip
       have s1:=zd5 [.int .i64 2,.int .i64 M.ix,.int .i64 M.sub] 1 (l:=(srvV S pd A n1 c1).toList) HBW2.out (by simp[srvV])
       have s2:=zd5 [.slice A4 n4 c4,.bool false] 6 s1 (by simp[srvV])
       have s3:Blk (World.setCells _ p 6 _) p 199 (srvV { S with st:=2,ix:=M.ix,sub:=M.sub,b:=b,tg:=false } pd A4 n4 c4):= s2
       rw[← HU.out] at s3
       have s4:zdv (fun q=>q=p) w (((w2.setCells p 1 [.int .i64 2,.int .i64 M.ix,.int .i64 M.sub]).setCells p 6 [.slice A4 n4 c4,.bool false])):= zd6 (F:=fun q=>q=p) rfl _ _ (zd6 (F:=fun q=>q=p) rfl _ _ hO2.out)
       have sz:(((w2.setCells p 1 [.int .i64 2,.int .i64 M.ix,.int .i64 M.sub]).setCells p 6 [.slice A4 n4 c4,.bool false])).heap.size=w2.heap.size:=by rw[zd7,zd7]
       have HH:Hid (UpX w w2 p pd (upS L V S M) A4 n4 c4 b (upM M.ix M.sub n4 []) ((((w2.setCells p 1 [.int .i64 2,.int .i64 M.ix,.int .i64 M.sub]).setCells p 6 [.slice A4 n4 c4,.bool false])).alloc (.cells (msV (upM M.ix M.sub n4 []) none 0 0) 102))):= zak (by
        refine⟨s3.alloc _,(s4.new _),?_,?_,?_,by rw[← sz];simp⟩
        · have:=Blk.new (((w2.setCells p 1 [.int .i64 2,.int .i64 M.ix,.int .i64 M.sub]).setCells p 6 [.slice A4 n4 c4,.bool false])) 102 (msV (upM M.ix M.sub n4 []) none 0 0)
          rw[sz] at this
          exact this
        · exact (ziz HK22.out (zd6 (F:=fun q=>q=p) rfl _ _ (zd6 (F:=fun q=>q=p) rfl _ _ (zdv.refl _ _))) (by omega)).alloc _
        · exact (zi0 HO4.out (zd6 (F:=fun q=>q=p) rfl _ _ (zd6 (F:=fun q=>q=p) rfl _ _ (zdv.refl _ _))) (fun g h1 _ h2=>by omega)).mono (by omega) |>.alloc _)
       simp only[World.setCells,Nat.reduceAdd,msV,upM] at HH
       have c1:(w2.alloc (.cells (msV (upM M.ix M.sub n4 []) none 0 0) 102)).cell? ⟨w.heap.size,1,none⟩=some (.int .i64 M.ix):= (HK12.out.alloc _).cell 1 rfl
       have c2:(w2.alloc (.cells (msV (upM M.ix M.sub n4 []) none 0 0) 102)).cell? ⟨w.heap.size,2,none⟩=some (.int .i64 M.sub):= (HK12.out.alloc _).cell 2 rfl
       have c3:((w2.setCell ⟨p,1,none⟩ (.int .i64 2)).alloc (.cells (msV (upM M.ix M.sub n4 []) none 0 0) 102)).cell? ⟨w.heap.size,1,none⟩=some (.int .i64 M.ix):= ((HK12.out.far (p:=⟨p,1,none⟩) hne0 _).alloc _).cell 1 rfl
       have c4':((w2.setCell ⟨p,1,none⟩ (.int .i64 2)).alloc (.cells (msV (upM M.ix M.sub n4 []) none 0 0) 102)).cell? ⟨w.heap.size,2,none⟩=some (.int .i64 M.sub):= ((HK12.out.far (p:=⟨p,1,none⟩) hne0 _).alloc _).cell 2 rfl
       have c5:(((w2.setCell ⟨p,1,none⟩ (.int .i64 2)).setCell ⟨p,2,none⟩ (.int .i64 M.ix)).alloc (.cells (msV (upM M.ix M.sub n4 []) none 0 0) 102)).cell? ⟨w.heap.size,1,none⟩=some (.int .i64 M.ix):= (((HK12.out.far (p:=⟨p,1,none⟩) hne0 _).far (p:=⟨p,2,none⟩) hne0 _).alloc _).cell 1 rfl
       have c6:(((w2.setCell ⟨p,1,none⟩ (.int .i64 2)).setCell ⟨p,2,none⟩ (.int .i64 M.ix)).alloc (.cells (msV (upM M.ix M.sub n4 []) none 0 0) 102)).cell? ⟨w.heap.size,2,none⟩=some (.int .i64 M.sub):= (((HK12.out.far (p:=⟨p,1,none⟩) hne0 _).far (p:=⟨p,2,none⟩) hne0 _).alloc _).cell 2 rfl
       unfold msV upM at c1 c2 c3 c4' c5 c6
       clear s1 s2 s3 s4 sz HU hgc hgb hn4 HP
       go_wp2_with fail
       refine zaj (fun w'=>w'.cell? ⟨w.heap.size,1,none⟩=some (.int .i64 M.ix)∧ w'.cell? ⟨w.heap.size,2,none⟩=some (.int .i64 M.sub)) [0,1,2,3,4,5,6,7,8,10,11,13,14] (by kernel_rfl) ?hS40 (fun hHeld=>?rest40)
       case hS40=>((try dsimp only);exact⟨c1,c2⟩)
       case' rest40=>skip
       refine tkT 0 ?_
       try simp only[PqL,Act.put]
       refine tkT 1 ?_
       try simp only[PqL,Act.put]
       refine tkT 2 ?_
       try simp only[PqL,Act.put]
       refine tkT 3 ?_
       try simp only[PqL,Act.put]
       refine tkT 4 ?_
       try simp only[PqL,Act.put]
       refine tkT 5 ?_
       try simp only[PqL,Act.put]
       refine tkT 6 ?_
       try simp only[PqL,Act.put]
       refine tkT 7 ?_
       try simp only[PqL,Act.put]
       refine tkT 8 ?_
       try simp only[PqL,Act.put]
       refine zag (i:=9) (o:=_) rfl (by kernel_rfl) (fun K hK=>?_)
       go_simp
       refine hK.out _ _ ?hS51 (fun hHeld=>?rest51)
       case hS51=>((try dsimp only);(exact⟨c3,c4'⟩))
       case' rest51=>(clear hK K;try simp only[PqL,Act.put])
       refine tkT 10 ?_
       try simp only[PqL,Act.put]
       refine tkT 11 ?_
       try simp only[PqL,Act.put]
       refine zag (i:=12) (o:=_) rfl (by kernel_rfl) (fun K hK=>?_)
       go_simp
       refine hK.out _ _ ?hS55 (fun hHeld=>?rest55)
       case hS55=>((try dsimp only);(exact⟨c5,c6⟩))
       case' rest55=>(clear hK K;try simp only[PqL,Act.put])
       refine tkT 13 ?_
       try simp only[PqL,Act.put]
       refine tkT 14 ?_
       try simp only[PqL,Act.put]
       refine zah (i:=15) (o:=_) rfl (by kernel_rfl) (by kernel_rfl) (fun K hK=>?_)
       go_simp
       refine hK.out _ _ ?rest59
       case' rest59=>(clear hK K;try simp only[PqL,Act.put])
       refine zai (by kernel_rfl) ?_ _
       repeat (clear hHeld)
       clear c1 c2 c3 c4' c5 c6
       go_wp2_with fail
       refine zj7 HH.out (fun W3 hW3=>?_)
       obtain⟨hB5,hO5,hM5,hK5,hOw5,hz5⟩:= hW3
       refine (zjl (upM M.ix M.sub n4 []) none 0 0 _).mono ?_
       rintro e w3 ⟨g,hg,rfl,hBg,hb3⟩
       unfold outV outZ
       dsimp only
       have HK23:=zak (hK5.below hb3 hK5.lt)
       have HBG:=zak hBg
       have HS3:Hid (SV_ w3 (fun q=>((G q∨w.heap.size≤q)∧ ¬ False)∧ q≠w.heap.size+1) p pd (upS L V S M)):= zak (zj8 (N:=w.heap.size+2) (hB5.below hb3 hB5.lt) (by rw[HUb.out];exact hOw5.below hb3) (by omega) (fun q h=>⟨⟨.inr (by omega),id⟩,by omega⟩))
       have HO3:=zak (hO5.step hb3)
       clear k2_c0 k2_c1 k2_c2 k2_c3 k2_c4 k2_f
       clear k2 hBg hB5 hO5 hM5 hOw5
       have k2:=HK23.out
       unfold outV outZ at k2
       obtain⟨k2_c0,k2_c1,k2_c2,k2_c3,k2_c4⟩:= zc5 k2
       have k2_f:=k2.frozen
       go_wp2_with fail
       obtain⟨F1,F2⟩:= zj6 (fun _=>False) HK23.out (by omega) HBG.out (zdq.nil _ _) (FIn.nil _) HS3.out HO3.out hz
       rw[← HR.out] at F2
       clear HR
       unfold putO outZ at F1 F2
       dsimp only at F1 F2
       refine zjd (O:=⟨[],false,0,0,[]⟩) rfl rfl rfl F1 ?_
       exact F2
 · obtain⟨kc,hkc⟩:= zj9 L M.ix M.sub
   rw[← HCC.out] at hkc
   have HR:Hid (P=SOutR w G p pd S (outM (abM M.ix M.sub kc))):= zak (by
    rw[HP.out]
    congr 1
    · unfold upS;rw[if_pos (by rw[← HCC.out];exact hc)]
    · unfold upO;rw[if_pos (by rw[← HCC.out];exact hc),← HCC.out,hkc];rfl)
   subst hkc
   have hcn: ¬ kc=0:=by omega
   clear HP HCC HB4
   go_wp2_with fail
   refine (zjk M.ix M.sub kc _).mono ?_
   rintro e w3 ⟨rfl,hBg,hb3,hz3⟩
   have HK23:=zak (HK22.out.below hb3 zw2)
   have HBG:=zak hBg
   have HS3:=zak (HS0.out.keep (w':=w3) (H:=fun q=>((G q∨w.heap.size≤q)∧ ¬ W.heap.size≤q)∧ q≠w.heap.size+1) (fun q _ hq=>(hbw2.trans (hb3.mono hbw2.size)).block q hq) (zc0 hb3 hbw2).size (fun q h1 h2=>⟨⟨.inl h2,by have:=hbw.size;omega⟩,by omega⟩))
   have HO3:=zak (hO2.out.step hb3)
   clear k2_c0 k2_c1 k2_c2 k2_c3 k2_c4 k2_f
   clear k2 hBg
   have k2:=HK23.out
   unfold outV outZ at k2
   obtain⟨k2_c0,k2_c1,k2_c2,k2_c3,k2_c4⟩:= zc5 k2
   have k2_f:=k2.frozen
   go_wp2_with fail
   obtain⟨F1,F2⟩:= zj6 (fun q=>W.heap.size≤q) HK23.out (by omega) HBG.out (zdq.nil _ _) (FIn.nil _) HS3.out HO3.out hz
   rw[← HR.out] at F2
   clear HR
   unfold putO outZ at F1 F2
   dsimp only at F1 F2
   refine zjd (O:=⟨[],false,0,0,[]⟩) rfl rfl rfl F1 ?_
   exact F2
end
end
end Go.Proofs.YthdbckbpldlkeaaGreat
