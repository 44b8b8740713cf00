/- None -/
import Derived.Test.YtkkpjbjmhaecjaaGreatU40
namespace Go.Proofs.YtkkpjbjmhaecjaaGreat
set_option linter.all false
set_option maxRecDepth 100000
set_option maxHeartbeats 40000000
section
open Go.RowKit
structure BOk (S:BlkS):Prop where
 wf:BWf S
 b2:S.st=2→7≤S.b.length
 sz: -1≤S.sz
 st:0≤S.st∧S.st≤6
theorem znn {S:BlkS}(h:BOk S):BOk (blkIdle S):=⟨zkz h.wf,fun h=>absurd h (show ¬(0:Int)=2 by decide),h.sz,⟨show (0:Int)≤ 0 by decide,show (0:Int)≤ 6 by decide⟩⟩
theorem zno {S:BlkS}(h:BOk S):BOk (bAnswerS S):=by
 unfold bAnswerS;split
 · exact znn h
 · exact h
def zoz (N:Nat) (L:List Ent) (pp pd pt ps pr:Nat) (W:World):Prop:=
 ∃V S lix lsub lb X Gs Gr Al cl,znm (fun _=>False) N L pp pd pt ps pr V S S lix lsub lb X Gs Gr Al cl W∧BOk S∧ValsP L V
def znr (N:Nat) (L:List Ent) (pp pd pt ps pr:Nat) (w:World) (As:Option Addr) (ns cs:Nat) (Bs:Option Addr) (nbs cbs:Nat) (W:World):Prop:=
 Below N w W∧N≤W.heap.size∧ ∃l ds es,zdz W (fun g=>N≤g) As ns cs l ds∧OwnMr W (fun g=>N≤g) Bs nbs cbs l es∧(∀K ∈ l,K.data.length≤200000)∧ l.length≤1000∧ ∀W',zbv (fun q=> ∃d ∈ ds,d.1=some (⟨q,0,none⟩:Addr)) W W'→zoz N L pp pd pt ps pr W'
def DoesB (N:Nat) (L:List Ent) (pp pd pt ps pr:Nat) (w:World) (e:Ending) (w':World):Prop:=e= .returned (.bool true)∧ zoz N L pp pd pt ps pr w'∧Below N w w'
theorem BV_.drew_ {w:World}{G:Nat→Prop}{p pd:Nat}{S:BlkS}(h:BV_ w G p pd S):BV_ w.drew G p pd S:=h.keep (fun _ _ _=>rfl) (Nat.le_refl _) (fun _ _ h=>h)
theorem RBS.drew {w:World}{G:Nat→Prop}{p pd:Nat}{S:BlkS}(h:RBS w G p pd S):RBS w.drew G p pd S:=h.keep (fun _ _ _=>rfl) (Nat.le_refl _) (fun _ _ h=>h)
section
variable {N:Nat} {L:List Ent} {pp pd pt ps pr:Nat}
theorem znp {w W9 wb wx:World}{As:Option Addr}{ns cs k:Nat}{l:List Ms}{ds:List (Option Addr×Nat)}(hb9:Below N w W9)(hN9:N≤W9.heap.size)(hO:zdz W9 (fun g=>N≤g) As ns cs l ds)(hP:∀W',zbv (fun q=> ∃d ∈ ds,d.1=some (⟨q,0,none⟩:Addr)) W9 W'→zoz N L pp pd pt ps pr W')(hb:Below W9.heap.size W9 wb)(hS:zne As ns cs l ds wb k wx):DoesB N L pp pd pt ps pr w (.returned (.bool true)) wx:=by
 have ho:zbv (fun q=> ∃d ∈ ds,d.1=some (⟨q,0,none⟩:Addr)) W9 wx:=zbv.after hb hS.2.2.2;exact⟨rfl,hP wx ho,hb9.trans (ho.below hN9 (fun q h=>by
  obtain⟨d,hd,hq⟩:=h;exact hO.1.dsin d hd q hq))⟩
theorem znq {Z Xs:Nat→Prop}{N1 N2:Nat}{V:List (List UInt8)}{S:BlkS}{lix lsub:Int}{lb:List UInt8}{X Gs Gr:Nat→Prop}{Al:Option Addr}{cl:Nat}{w W:World}{As Bs:Option Addr}{ns cs nbs cbs:Nat}{l:List Ms}{ds es:List (Option Addr×Nat)}(hb:Below N w W)(hC:znm Z N L pp pd pt ps pr V S S lix lsub lb X Gs Gr Al cl W)(hwf:BOk S)(hvp:ValsP L V)(h1:MsG W N1 Xs As ns cs l ds)(hXZ:∀q,Xs q→Z q)(h2:OwnMr W (fun g=>N2≤g) Bs nbs cbs l es)(hN1:N≤N1)(hN2:N≤N2)(hle:∀K ∈ l,K.data.length≤200000)(hlen:l.length≤1000):znr N L pp pd pt ps pr w As ns cs Bs nbs cbs W:=
 ⟨hb,by have:=hC.pb.lt;have:=hC.nn.1;omega,l,ds,es,h1.1.mono (fun g _ hg=>Nat.le_trans hN1 hg),h2.mono (fun g _ hg=>Nat.le_trans hN2 hg),hle,hlen,fun W' ho=>⟨V,S,lix,lsub,lb,X,_,_,Al,cl,(hC.only (ho.mono (fun q _ h=>by
   obtain⟨d,hd,hq⟩:=h;exact hXZ q (h1.2 d hd q hq)))).mono (fun q h=>h.elim),hwf,hvp⟩⟩
theorem znr.drew {w:World}{As Bs:Option Addr}{ns cs nbs cbs:Nat}{W:World}(h:znr N L pp pd pt ps pr w As ns cs Bs nbs cbs W):znr N L pp pd pt ps pr w As ns cs Bs nbs cbs W.drew:=by
 obtain⟨h1,h2,l,ds,es,a,b,c,d,f⟩:=h;exact⟨h1.trans (Below.drew (Below.refl _ _)),h2,l,ds,es,a.keep (fun _ _ _=>rfl),b.keep (fun _ _ _=>rfl),c,d,fun W' ho=>f W' ⟨ho.os,ho.tape,ho.output,ho.size,ho.block⟩⟩
end
theorem zns (S:BlkS)(code:Nat):(∀K ∈ bAnswerL S code,K.data.length≤200000)∧ (bAnswerL S code).length≤1000:=by
 unfold bAnswerL;split
 · split
   · exact⟨fun K hK=>by simp at hK;subst hK;exact Nat.zero_le _,by simp⟩
   · exact⟨fun K hK=>by simp at hK;subst hK;exact Nat.zero_le _,by simp⟩
 · exact⟨by simp,by simp⟩
theorem znt (S:BlkS)(code:Nat):(∀K ∈ bAbortL S code,K.data.length≤200000)∧ (bAbortL S code).length≤1000:=by
 unfold bAbortL;split
 · exact⟨by simp,by simp⟩
 · exact⟨fun K hK=>by simp at hK;subst hK;exact Nat.zero_le _,by simp⟩
theorem znu {N:Nat}{L:List Ent}{pp pd pt ps pr:Nat}(M:Ms)(A3:Option Addr)(m3 c3 code:Nat)(w:World)(h:zoz N L pp pd pt ps pr w)(hs:SortedE L)(hL:L.length≤1000) :
 Calls Tryz.prog 13 #[.pointer (some ⟨pp,0,none⟩),.agg (opV 2 M A3 m3 c3 code)] w (DoesB N L pp pd pt ps pr w):=by
 obtain⟨V,S,lix,lsub,lb,X0,Gs0,Gr0,Al,cl,hC0,hwf,hvp⟩:=h;have hbw:=za7 (Below.refl w.heap.size w) (.cells (opV 2 M A3 m3 c3 code) 32);have hC:=hC0.below hbw;have hpb0:=hC0.pb.lt;have hNw:N≤w.heap.size:=by have:=hC0.nn.1;omega
 have hbN:Below N w (w.alloc (.cells (opV 2 M A3 m3 c3 code) 32)):=hbw.mono hNw;have hq:=Blk.new w 32 (opV 2 M A3 m3 c3 code);obtain⟨Gs,hGs⟩:∃Gs,Gs=(fun q=>Gs0 q∧q < w.heap.size):=⟨_,rfl⟩;obtain⟨Gr,hGr⟩:∃Gr,Gr=(fun q=>Gr0 q∧q < w.heap.size):=⟨_,rfl⟩;rw[←hGs,←hGr] at hC;have HS:=zak hs;have HL:=zak hL;have HWF:=zak hwf;have HVP:=zak hvp;have hpo:w.heap.size≠pp∧w.heap.size≠ps∧w.heap.size≠pr:=by
  have h1:=hC0.sv.lt;have h2:=hC0.rv.lt;exact⟨by omega,by omega,by omega⟩
 have HH:Hid (znm (fun _=>False) N L pp pd pt ps pr V S S lix lsub lb X0 Gs Gr Al cl _∧Blk _ w.heap.size 32 (opV 2 M A3 m3 c3 code)∧ Below N w _):=zak ⟨hC,hq,hbN⟩;clear hC hC0 hq hbN hbw hs hL hwf hvp hpb0 hGs hGr;unfold opV at HH;unfold opV;go_enter Tryz.func13,Tryz.ntmps13
 go_upto_region 23 with fail
 refine zb6 (P:=fun W=>znm (fun _=>False) N L pp pd pt ps pr V S S lix lsub lb X0 Gs Gr Al cl W∧Blk W w.heap.size 32 (opV 2 M A3 m3 c3 code)∧ Below N w W) HH.out (fun W hW=>?_);clear HH;obtain⟨hC,hq,hbN⟩:=hW;have HC:=zak hC;have HQ:=zak hq;have HBN:=zak hbN;have zp:=hC.pb.lt;have zq:=hq.lt;have pb:=hC.pb;have oq:=hq;unfold opV at oq;obtain⟨bU,co,bS,cp,bV,bW,bX⟩:=zba pb;have di:=pb.frozen;obtain⟨cq,ct,cy,cz,cA,cB,cC,cD,cE,cF,bN,bO,bP,bQ,bR,bn⟩:=zbe oq;have dk:=oq.frozen;clear hC hq hbN;have p2:=bS;have o15:=bn;refine wp_region_held_drew (S:=(fun w'=>w'.cell? ⟨pp,2,none⟩=some (.pointer (some ⟨ps,0,none⟩))∧ w'.cell? ⟨w.heap.size,15,none⟩=some (.int .u32 (code:Nat)))) (by kernel_rfl) ?hS1 (fun hHeld=>?rest1)
 case hS1=>((try dsimp only);(exact⟨p2,o15⟩))
 case' rest1=>skip
 iterate 6 (refine tkN ?_;try simp only[PqL,Act.put])
 refine kRd 6 (fun K hK=>?_)
 go_simp
 refine (zng ps pd S Gs code _ HC.out.sv.drew_).mono ?_;rintro e w3 ⟨As,ns,cs,ds3,rfl,hm3,hS3,ho3⟩;dsimp only;replace ho3:=zm4 ho3;have hC3:=(HC.out.prog (Zn:=fun _=>False) ho3 hS3 (fun q h=>⟨.inl h,fun h=>h⟩) (fun q h=>h.elim) (fun q h=>h.elim)).mono (Z':=fun _=>False) (fun q h=>h.elim);have HC3:=zak hC3;have HM3:=zak hm3;have HO3:=zak ho3;have HQ3:=zak (zhe HQ.out ho3 hpo.2.1);have q2:w3.cell? ⟨pp,2,none⟩=some (.pointer (some ⟨ps,0,none⟩)):=hC3.pb.cell 2 rfl;have q3:w3.cell? ⟨pp,3,none⟩=some (.pointer (some ⟨pr,0,none⟩)):=hC3.pb.cell 3 rfl;have q15:w3.cell? ⟨w.heap.size,15,none⟩=some (.int .u32 (code:Nat)):=HQ3.out.cell 15 rfl
 have zp3:=hC3.pb.lt;have zq3:=HQ3.out.lt;have hbN3:Below N w w3:=HBN.out.trans (ho3.below (by have:=HC.out.nn.1;omega) (fun q e=>by rw[e];exact HC.out.nn.2.1));have HBN3:=zak hbN3;clear hm3 hS3 ho3 hC3 hbN3;refine hK.out _ _ ?hS10 (fun hHeld=>?rest10)
 case hS10=>((try dsimp only);(exact⟨q2,q15⟩))
 case' rest10=>(clear hK K;try simp only[PqL,Act.put])
 refine tkH 7 ?_;try simp only[PqL,Act.put]
 refine wpAnyH_done (by kernel_rfl) ?_ _;have hEnd:=hHeld.2
 repeat (clear hHeld)
 clear bU co bS cp bV bW bX di;clear cq ct cy cz cA cB cC cD cE cF bN bO bP bQ bR bn dk;clear pb oq p2 o15;go_upto_region 24 with fail
 refine wp_region_held_drew (S:=(fun w'=>w'.cell? ⟨pp,3,none⟩=some (.pointer (some ⟨pr,0,none⟩))∧ w'.cell? ⟨w.heap.size,15,none⟩=some (.int .u32 (code:Nat)))) (by kernel_rfl) ?hS13 (fun hHeld=>?rest13)
 case hS13=>((try dsimp only);(exact⟨q3,q15⟩))
 case' rest13=>skip
 iterate 6 (refine tkN ?_;try simp only[PqL,Act.put])
 refine kRd 6 (fun K hK=>?_)
 go_simp
 refine (znj pr pt S (fun q=>Gr q∧q < W.heap.size) code _ HC3.out.rv.drew).mono ?_;rintro e w5 ⟨Bs,nbs,cbs,es5,rfl,hm5,hS5,ho5⟩;dsimp only;replace ho5:=zm4 ho5;have hC5:=HC3.out.refc ho5 hS5 (fun q h=>h) (fun q h=>h.elim);have r3:w5.cell? ⟨pp,3,none⟩=some (.pointer (some ⟨pr,0,none⟩)):=hC5.pb.cell 3 rfl;have r15:w5.cell? ⟨w.heap.size,15,none⟩=some (.int .u32 (code:Nat)):=(zhe HQ3.out ho5 hpo.2.2).cell 15 rfl;have hbN5:Below N w w5:=HBN3.out.trans (ho5.below (by have:=HC3.out.nn.1;omega) (fun q e=>by rw[e];exact HC3.out.nn.2.2));have HT:Hid (znr N L pp pd pt ps pr w As ns cs Bs nbs cbs w5):=zak (znq hbN5 hC5 (zno HWF.out) HVP.out (HM3.out.only ho5 (fun q e=>by have:=HC.out.rv.lt;rw[e];exact this)) (fun q h=>h.elim) hm5 (by have:=HC.out.pb.lt;have:=HC.out.nn.1;show N≤W.heap.size;omega) (by have:=HC3.out.pb.lt;have:=HC3.out.nn.1;show N≤w3.heap.size;omega) (zns S code).1 (zns S code).2)
 have HT2:=zak HT.out.drew;clear hm5 hS5 ho5 hC5 hbN5;refine hK.out _ _ ?hS22 (fun hHeld=>?rest22)
 case hS22=>((try dsimp only);(exact⟨r3,r15⟩))
 case' rest22=>(clear hK K;try simp only[PqL,Act.put])
 refine tkH 7 ?_;try simp only[PqL,Act.put]
 refine wpAnyH_done (by kernel_rfl) ?_ _;have hEnd:=hHeld.2
 repeat (clear hHeld)
 go_upto_region 28 with fail
 refine zb6 (P:=znr N L pp pd pt ps pr w As ns cs Bs nbs cbs) HT.out (fun W9 hW9=>?_);clear HT;obtain⟨hb9,hN9,l9,ds9,es9,hO9,hO9b,hl9,hk9,hP9⟩:=hW9;have HP9:=zak hP9;have HO9:=zak hO9;have HO9b:=zak hO9b;have HL9:=zak hl9;have HN9:Hid (ns=l9.length):=zak hO9.1.hn;have HN9b:Hid (nbs=l9.length):=zak hO9b.hn;have hn9:ns≤1000:=by rw[HN9.out];exact hk9
 clear hP9 hO9 hO9b hl9 hk9;go_wp2_with fail
 refine (znd l9 ds9 As ns cs _ HN9.out (by omega) (zna HO9.out.1)).mono ?_;rintro e wa ⟨Aa,ca,rfl,hSa,hba⟩;have HSA:=zak hSa;have HBA:=zak hba;clear hSa hba;go_wp2_with fail
 refine (znb l9 ds9 es9 Aa Bs ns ca nbs cbs _ HN9.out HN9b.out (by omega) HSA.out ((zna HO9b.out).below HBA.out)).mono ?_;rintro e wb ⟨rfl,hbb⟩;have HBAB:=zak (za5 hbb HBA.out);clear hbb;go_wp2_with fail
 go_loopw [11] (fun s11 wx=> ∃k:Nat,s11= .int .i64 (k:Nat)∧ k≤ns∧Hid (zne As ns cs l9 ds9 wb k wx)) (fun s11 _=>ns - (intOf s11).toNat)
 case atStart=>exact⟨0,rfl,Nat.zero_le _,zak (zne.start (HO9.out.below HBAB.out))⟩
 case round=>
  obtain⟨k,rfl,hk,HSP⟩:=hrel;by_cases hlt:k < ns
  · obtain⟨M9,hM9⟩:∃M,l9[k]? =some M:=⟨l9[k]'(by rw[←HN9.out];exact hlt),List.getElem?_eq_getElem _⟩;obtain⟨g9,d9,hA9,hg9,hd9,hc9,hO9'⟩:=HSP.out.at_ hM9;subst hA9;have HE:=zak (And.intro hM9 hd9);have HOd:=zak hO9';have hn9l:M9.data.length≤35184372088832:=by have:=HL9.out M9 (List.mem_of_getElem? hM9);omega
    clear hM9 hd9 hO9';go_wp2_with fail
    refine (zes d9.1 M9.data.length d9.2 0 M9.data _ hn9l HOd.out.own (Nat.zero_le _)).mono ?_;rintro e wc ⟨rfl,hgc⟩;have HGC:=zak (HSP.out.step HE.out.1 HE.out.2 hgc);clear hgc;go_wp2_with fail
    exact⟨⟨k+1,by congr 1,by omega,HGC⟩,by simp only[intOf];omega⟩
  · obtain rfl:k=ns:=by omega
    have HF:Hid (DoesB N L pp pd pt ps pr w (.returned (.bool true)) wr):=zak (znp hb9 hN9 HO9.out HP9.out HBAB.out HSP.out);go_wp2_with fail
    go_ret
    exact HF.out
theorem znv {N:Nat}{L:List Ent}{pp pd pt ps pr:Nat}(M:Ms)(A3:Option Addr)(m3 c3 code:Nat)(w:World)(h:zoz N L pp pd pt ps pr w)(hs:SortedE L)(hL:L.length≤1000) :
 Calls Tryz.prog 13 #[.pointer (some ⟨pp,0,none⟩),.agg (opV 3 M A3 m3 c3 code)] w (DoesB N L pp pd pt ps pr w):=by
 obtain⟨V,S,lix,lsub,lb,X0,Gs0,Gr0,Al,cl,hC0,hwf,hvp⟩:=h;have hbw:=za7 (Below.refl w.heap.size w) (.cells (opV 3 M A3 m3 c3 code) 32);have hC:=hC0.below hbw;have hpb0:=hC0.pb.lt;have hNw:N≤w.heap.size:=by have:=hC0.nn.1;omega
 have hbN:Below N w (w.alloc (.cells (opV 3 M A3 m3 c3 code) 32)):=hbw.mono hNw;have hq:=Blk.new w 32 (opV 3 M A3 m3 c3 code);obtain⟨Gs,hGs⟩:∃Gs,Gs=(fun q=>Gs0 q∧q < w.heap.size):=⟨_,rfl⟩;obtain⟨Gr,hGr⟩:∃Gr,Gr=(fun q=>Gr0 q∧q < w.heap.size):=⟨_,rfl⟩;rw[←hGs,←hGr] at hC;have HS:=zak hs;have HL:=zak hL;have HWF:=zak hwf;have HVP:=zak hvp;have hpo:w.heap.size≠pp∧w.heap.size≠ps∧w.heap.size≠pr:=by
  have h1:=hC0.sv.lt;have h2:=hC0.rv.lt;exact⟨by omega,by omega,by omega⟩
 have HH:Hid (znm (fun _=>False) N L pp pd pt ps pr V S S lix lsub lb X0 Gs Gr Al cl _∧Blk _ w.heap.size 32 (opV 3 M A3 m3 c3 code)∧ Below N w _):=zak ⟨hC,hq,hbN⟩;clear hC hC0 hq hbN hbw hs hL hwf hvp hpb0 hGs hGr;unfold opV at HH;unfold opV;go_enter Tryz.func13,Tryz.ntmps13
 go_upto_region 26 with fail
 refine zb6 (P:=fun W=>znm (fun _=>False) N L pp pd pt ps pr V S S lix lsub lb X0 Gs Gr Al cl W∧Blk W w.heap.size 32 (opV 3 M A3 m3 c3 code)∧ Below N w W) HH.out (fun W hW=>?_);clear HH;obtain⟨hC,hq,hbN⟩:=hW;have HC:=zak hC;have HQ:=zak hq;have HBN:=zak hbN;have zp:=hC.pb.lt;have zq:=hq.lt;have pb:=hC.pb;have oq:=hq;unfold opV at oq;obtain⟨bU,co,bS,cp,bV,bW,bX⟩:=zba pb;have di:=pb.frozen;obtain⟨cq,ct,cy,cz,cA,cB,cC,cD,cE,cF,bN,bO,bP,bQ,bR,bn⟩:=zbe oq;have dk:=oq.frozen;clear hC hq hbN;have p2:=bS;have o15:=bn;refine wp_region_held_drew (S:=(fun w'=>w'.cell? ⟨pp,2,none⟩=some (.pointer (some ⟨ps,0,none⟩))∧ w'.cell? ⟨w.heap.size,15,none⟩=some (.int .u32 (code:Nat)))) (by kernel_rfl) ?hS25 (fun hHeld=>?rest25)
 case hS25=>((try dsimp only);(exact⟨p2,o15⟩))
 case' rest25=>skip
 iterate 6 (refine tkN ?_;try simp only[PqL,Act.put])
 refine kRd 6 (fun K hK=>?_)
 go_simp
 refine (znh ps pd S Gs code _ HC.out.sv.drew_).mono ?_;rintro e w3 ⟨As,ns,cs,ds3,rfl,hm3,hS3,ho3⟩;dsimp only;replace ho3:=zm4 ho3;have hC3:=(HC.out.prog (Zn:=fun _=>False) ho3 hS3 (fun q h=>⟨.inl h,fun h=>h⟩) (fun q h=>h.elim) (fun q h=>h.elim)).mono (Z':=fun _=>False) (fun q h=>h.elim);have HC3:=zak hC3;have HM3:=zak hm3;have HO3:=zak ho3;have HQ3:=zak (zhe HQ.out ho3 hpo.2.1);have q2:w3.cell? ⟨pp,2,none⟩=some (.pointer (some ⟨ps,0,none⟩)):=hC3.pb.cell 2 rfl;have q3:w3.cell? ⟨pp,3,none⟩=some (.pointer (some ⟨pr,0,none⟩)):=hC3.pb.cell 3 rfl;have q15:w3.cell? ⟨w.heap.size,15,none⟩=some (.int .u32 (code:Nat)):=HQ3.out.cell 15 rfl
 have zp3:=hC3.pb.lt;have zq3:=HQ3.out.lt;have hbN3:Below N w w3:=HBN.out.trans (ho3.below (by have:=HC.out.nn.1;omega) (fun q e=>by rw[e];exact HC.out.nn.2.1));have HBN3:=zak hbN3;clear hm3 hS3 ho3 hC3 hbN3;refine hK.out _ _ ?hS34 (fun hHeld=>?rest34)
 case hS34=>((try dsimp only);(exact⟨q2,q15⟩))
 case' rest34=>(clear hK K;try simp only[PqL,Act.put])
 refine tkH 7 ?_;try simp only[PqL,Act.put]
 refine wpAnyH_done (by kernel_rfl) ?_ _;have hEnd:=hHeld.2
 repeat (clear hHeld)
 clear bU co bS cp bV bW bX di;clear cq ct cy cz cA cB cC cD cE cF bN bO bP bQ bR bn dk;clear pb oq p2 o15;go_upto_region 27 with fail
 refine wp_region_held_drew (S:=(fun w'=>w'.cell? ⟨pp,3,none⟩=some (.pointer (some ⟨pr,0,none⟩))∧ w'.cell? ⟨w.heap.size,15,none⟩=some (.int .u32 (code:Nat)))) (by kernel_rfl) ?hS37 (fun hHeld=>?rest37)
 case hS37=>((try dsimp only);(exact⟨q3,q15⟩))
 case' rest37=>skip
 iterate 6 (refine tkN ?_;try simp only[PqL,Act.put])
 refine kRd 6 (fun K hK=>?_)
 go_simp
 refine (znl pr pt S (fun q=>Gr q∧q < W.heap.size) code _ HC3.out.rv.drew).mono ?_;rintro e w5 ⟨Bs,nbs,cbs,es5,rfl,hm5,hS5,ho5⟩;dsimp only;replace ho5:=zm4 ho5;have hC5:=HC3.out.refc ho5 hS5 (fun q h=>h) (fun q h=>h.elim);have r3:w5.cell? ⟨pp,3,none⟩=some (.pointer (some ⟨pr,0,none⟩)):=hC5.pb.cell 3 rfl;have r15:w5.cell? ⟨w.heap.size,15,none⟩=some (.int .u32 (code:Nat)):=(zhe HQ3.out ho5 hpo.2.2).cell 15 rfl;have hbN5:Below N w w5:=HBN3.out.trans (ho5.below (by have:=HC3.out.nn.1;omega) (fun q e=>by rw[e];exact HC3.out.nn.2.2));have HT:Hid (znr N L pp pd pt ps pr w As ns cs Bs nbs cbs w5):=zak (znq hbN5 hC5 (znn HWF.out) HVP.out (HM3.out.only ho5 (fun q e=>by have:=HC.out.rv.lt;rw[e];exact this)) (fun q h=>h.elim) hm5 (by have:=HC.out.pb.lt;have:=HC.out.nn.1;show N≤W.heap.size;omega) (by have:=HC3.out.pb.lt;have:=HC3.out.nn.1;show N≤w3.heap.size;omega) (znt S code).1 (znt S code).2)
 have HT2:=zak HT.out.drew;clear hm5 hS5 ho5 hC5 hbN5;refine hK.out _ _ ?hS46 (fun hHeld=>?rest46)
 case hS46=>((try dsimp only);(exact⟨r3,r15⟩))
 case' rest46=>(clear hK K;try simp only[PqL,Act.put])
 refine tkH 7 ?_;try simp only[PqL,Act.put]
 refine wpAnyH_done (by kernel_rfl) ?_ _;have hEnd:=hHeld.2
 repeat (clear hHeld)
 go_upto_region 28 with fail
 refine zb6 (P:=znr N L pp pd pt ps pr w As ns cs Bs nbs cbs) HT.out (fun W9 hW9=>?_);clear HT;obtain⟨hb9,hN9,l9,ds9,es9,hO9,hO9b,hl9,hk9,hP9⟩:=hW9;have HP9:=zak hP9;have HO9:=zak hO9;have HO9b:=zak hO9b;have HL9:=zak hl9;have HN9:Hid (ns=l9.length):=zak hO9.1.hn;have HN9b:Hid (nbs=l9.length):=zak hO9b.hn;have hn9:ns≤1000:=by rw[HN9.out];exact hk9
 clear hP9 hO9 hO9b hl9 hk9;go_wp2_with fail
 refine (znd l9 ds9 As ns cs _ HN9.out (by omega) (zna HO9.out.1)).mono ?_;rintro e wa ⟨Aa,ca,rfl,hSa,hba⟩;have HSA:=zak hSa;have HBA:=zak hba;clear hSa hba;go_wp2_with fail
 refine (znb l9 ds9 es9 Aa Bs ns ca nbs cbs _ HN9.out HN9b.out (by omega) HSA.out ((zna HO9b.out).below HBA.out)).mono ?_;rintro e wb ⟨rfl,hbb⟩;have HBAB:=zak (za5 hbb HBA.out);clear hbb;go_wp2_with fail
 go_loopw [11] (fun s11 wx=> ∃k:Nat,s11= .int .i64 (k:Nat)∧ k≤ns∧Hid (zne As ns cs l9 ds9 wb k wx)) (fun s11 _=>ns - (intOf s11).toNat)
 case atStart=>exact⟨0,rfl,Nat.zero_le _,zak (zne.start (HO9.out.below HBAB.out))⟩
 case round=>
  obtain⟨k,rfl,hk,HSP⟩:=hrel;by_cases hlt:k < ns
  · obtain⟨M9,hM9⟩:∃M,l9[k]? =some M:=⟨l9[k]'(by rw[←HN9.out];exact hlt),List.getElem?_eq_getElem _⟩;obtain⟨g9,d9,hA9,hg9,hd9,hc9,hO9'⟩:=HSP.out.at_ hM9;subst hA9;have HE:=zak (And.intro hM9 hd9);have HOd:=zak hO9';have hn9l:M9.data.length≤35184372088832:=by have:=HL9.out M9 (List.mem_of_getElem? hM9);omega
    clear hM9 hd9 hO9';go_wp2_with fail
    refine (zes d9.1 M9.data.length d9.2 0 M9.data _ hn9l HOd.out.own (Nat.zero_le _)).mono ?_;rintro e wc ⟨rfl,hgc⟩;have HGC:=zak (HSP.out.step HE.out.1 HE.out.2 hgc);clear hgc;go_wp2_with fail
    exact⟨⟨k+1,by congr 1,by omega,HGC⟩,by simp only[intOf];omega⟩
  · obtain rfl:k=ns:=by omega
    have HF:Hid (DoesB N L pp pd pt ps pr w (.returned (.bool true)) wr):=zak (znp hb9 hN9 HO9.out HP9.out HBAB.out HSP.out);go_wp2_with fail
    go_ret
    exact HF.out
theorem znw {N:Nat}{L:List Ent}{pp pd pt ps pr:Nat}(kind:Int)(M:Ms)(A3:Option Addr)(m3 c3 code:Nat)(w:World)(h:zoz N L pp pd pt ps pr w)(hs:SortedE L)(hL:L.length≤1000)(hk0:kind≠0)(hk1:kind≠1)(hk2:kind≠2)(hk3:kind≠3) :
 Calls Tryz.prog 13 #[.pointer (some ⟨pp,0,none⟩),.agg (opV kind M A3 m3 c3 code)] w (DoesB N L pp pd pt ps pr w):=by
 obtain⟨V,S,lix,lsub,lb,X0,Gs0,Gr0,Al,cl,hC0,hwf,hvp⟩:=h;have hbw:=za7 (Below.refl w.heap.size w) (.cells (opV kind M A3 m3 c3 code) 32);have hC:=hC0.below hbw;have hpb0:=hC0.pb.lt;have hNw:N≤w.heap.size:=by have:=hC0.nn.1;omega
 have hbN:Below N w (w.alloc (.cells (opV kind M A3 m3 c3 code) 32)):=hbw.mono hNw;have hq:=Blk.new w 32 (opV kind M A3 m3 c3 code);obtain⟨Gs,hGs⟩:∃Gs,Gs=(fun q=>Gs0 q∧q < w.heap.size):=⟨_,rfl⟩;obtain⟨Gr,hGr⟩:∃Gr,Gr=(fun q=>Gr0 q∧q < w.heap.size):=⟨_,rfl⟩;rw[←hGs,←hGr] at hC;have HS:=zak hs;have HL:=zak hL;have HWF:=zak hwf;have HVP:=zak hvp;have hpo:w.heap.size≠pp∧w.heap.size≠ps∧w.heap.size≠pr:=by
  have h1:=hC0.sv.lt;have h2:=hC0.rv.lt;exact⟨by omega,by omega,by omega⟩
 have HH:Hid (znm (fun _=>False) N L pp pd pt ps pr V S S lix lsub lb X0 Gs Gr Al cl _∧Blk _ w.heap.size 32 (opV kind M A3 m3 c3 code)∧ Below N w _):=zak ⟨hC,hq,hbN⟩;clear hC hC0 hq hbN hbw hs hL hwf hvp hpb0 hGs hGr;unfold opV at HH;unfold opV;go_enter Tryz.func13,Tryz.ntmps13
 have hk0b:(kind == 0)=false:=by simp[hk0]
 have hk1b:(kind == 1)=false:=by simp[hk1]
 have hk2b:(kind == 2)=false:=by simp[hk2]
 have hk3b:(kind == 3)=false:=by simp[hk3]
 go_upto_region 4 with fail
 refine zb6 (P:=fun W=>znm (fun _=>False) N L pp pd pt ps pr V S S lix lsub lb X0 Gs Gr Al cl W∧Blk W w.heap.size 32 (opV kind M A3 m3 c3 code)∧ Below N w W) HH.out (fun W hW=>?_);clear HH;obtain⟨hC,hq,hbN⟩:=hW;have HC:=zak hC;have HQ:=zak hq;have HBN:=zak hbN;have zp:=hC.pb.lt;have zq:=hq.lt;have pb:=hC.pb;have oq:=hq;unfold opV at oq;obtain⟨bU,co,bS,cp,bV,bW,bX⟩:=zba pb;have di:=pb.frozen;obtain⟨cq,ct,cy,cz,cA,cB,cC,cD,cE,cF,bN,bO,bP,bQ,bR,bn⟩:=zbe oq;have dk:=oq.frozen;clear hC hq hbN;go_wp2_with fail
 refine (zni ps pd S Gs _ HC.out.sv).mono ?_;rintro e w3 ⟨rfl,hS3,ho3⟩;have hC3:=(HC.out.prog (Zn:=fun _=>False) ho3 hS3 (fun q h=>⟨.inl h,fun h=>h⟩) (fun q h=>h.elim) (fun q h=>h.elim)).mono (Z':=fun _=>False) (fun q h=>h.elim);have hbN3:Below N w w3:=HBN.out.trans (ho3.below (by have:=HC.out.nn.1;omega) (fun q e=>by rw[e];exact HC.out.nn.2.1));have q3:w3.cell? ⟨pp,3,none⟩=some (.pointer (some ⟨pr,0,none⟩)):=hC3.pb.cell 3 rfl;have zp3:=hC3.pb.lt;obtain⟨R0,A1,n1,c1,hrb⟩:=hC3.rv.blk_;have r1:w3.cell? ⟨pr,1,none⟩=some (.int .i64 S.st):=hrb.cell 1 rfl;have f1:=hrb.frozen 1;have zr:=hrb.lt;have hR5:RBS (w3.setCell ⟨pr,1,none⟩ (.int .i64 0)) (fun q=>Gr q∧q < W.heap.size) pr pt (blkIdle S):=hC3.rv.set0
 have ho5:zbv (fun q=>q=pr) w3 (w3.setCell ⟨pr,1,none⟩ (.int .i64 0)):=zbv.of_set (F:=fun q=>q=pr) rfl _;have hC5:=hC3.refc ho5 hR5 (fun q h=> .inl h) (fun q h=>h.elim);have hbN5:Below N w (w3.setCell ⟨pr,1,none⟩ (.int .i64 0)):=hbN3.trans (ho5.below (by have:=hC3.nn.1;omega) (fun q e=>by rw[e];exact hC3.nn.2.2));have HT:Hid (znr N L pp pd pt ps pr w none 0 0 none 0 0 (w3.setCell ⟨pr,1,none⟩ (.int .i64 0))):=zak (znq (N1:=N) (N2:=N) (Xs:=fun _=>False) hbN5 hC5 (znn HWF.out) HVP.out (zmg _ _ _) (fun q h=>h.elim) (zb2.nil _ _) (Nat.le_refl _) (Nat.le_refl _) (by simp) (by simp));clear hS3 ho3 hC3 hbN3 hrb hR5 ho5 hC5 hbN5
 clear bU co bS cp bV bW bX di;clear cq ct cy cz cA cB cC cD cE cF bN bO bP bQ bR bn dk;clear pb oq;go_upto_region 28 with fail
 refine zb6 (P:=znr N L pp pd pt ps pr w none 0 0 none 0 0) HT.out (fun W9 hW9=>?_);clear HT;obtain⟨hb9,hN9,l9,ds9,es9,hO9,hO9b,hl9,hk9,hP9⟩:=hW9;have HP9:=zak hP9;have HO9:=zak hO9;have HO9b:=zak hO9b;have HL9:=zak hl9;have HN9:Hid (0=l9.length):=zak hO9.1.hn;have HN9b:Hid (0=l9.length):=zak hO9b.hn;clear hP9 hO9 hO9b hl9 hk9;go_wp2_with fail
 refine (zm0 _).mono ?_;rintro e wa ⟨rfl,hwa⟩;subst hwa;go_wp2_with fail
 refine (zm2 _).mono ?_;rintro e wa ⟨rfl,hwa⟩;subst hwa;have HF:Hid (DoesB N L pp pd pt ps pr w (.returned (.bool true)) W9):=zak (znp (k:=0) hb9 hN9 HO9.out HP9.out (Below.refl _ _) (zne.start HO9.out));go_wp2_with fail
 go_loopw [11] (fun s11 wx=>s11= .int .i64 0∧W9=wx) (fun _ _=>0)
 case atStart=>exact⟨rfl,rfl⟩
 case round=>
  obtain⟨rfl,hwa⟩:=hrel;subst hwa;go_wp2_with fail
  go_ret
  exact HF.out
theorem znx {N:Nat}{L:List Ent}{pp pd pt ps pr:Nat}(M:Ms)(A3:Option Addr)(m3 c3 code:Nat)(w:World)(h:zoz N L pp pd pt ps pr w)(hs:SortedE L)(hL:L.length≤1000) :
 Calls Tryz.prog 13 #[.pointer (some ⟨pp,0,none⟩),.agg (opV 1 M A3 m3 c3 code)] w (DoesB N L pp pd pt ps pr w):=by
 obtain⟨V,S,lix,lsub,lb,X0,Gs0,Gr0,Al,cl,hC0,hwf,hvp⟩:=h;have hbw:=za7 (Below.refl w.heap.size w) (.cells (opV 1 M A3 m3 c3 code) 32);have hC:=hC0.below hbw;have hpb0:=hC0.pb.lt;have hNw:N≤w.heap.size:=by have:=hC0.nn.1;omega
 have hbN:Below N w (w.alloc (.cells (opV 1 M A3 m3 c3 code) 32)):=hbw.mono hNw;have hq:=Blk.new w 32 (opV 1 M A3 m3 c3 code);obtain⟨Gs,hGs⟩:∃Gs,Gs=(fun q=>Gs0 q∧q < w.heap.size):=⟨_,rfl⟩;obtain⟨Gr,hGr⟩:∃Gr,Gr=(fun q=>Gr0 q∧q < w.heap.size):=⟨_,rfl⟩;rw[←hGs,←hGr] at hC;have HS:=zak hs;have HL:=zak hL;have HWF:=zak hwf;have HVP:=zak hvp;have hpo:w.heap.size≠pp∧w.heap.size≠ps∧w.heap.size≠pr:=by
  have h1:=hC0.sv.lt;have h2:=hC0.rv.lt;exact⟨by omega,by omega,by omega⟩
 have HH:Hid (znm (fun _=>False) N L pp pd pt ps pr V S S lix lsub lb X0 Gs Gr Al cl _∧Blk _ w.heap.size 32 (opV 1 M A3 m3 c3 code)∧ Below N w _):=zak ⟨hC,hq,hbN⟩;clear hC hC0 hq hbN hbw hs hL hwf hvp hpb0 hGs hGr;unfold opV at HH;unfold opV;go_enter Tryz.func13,Tryz.ntmps13
 go_upto_region 17 with fail
 refine zb6 (P:=fun W=>znm (fun _=>False) N L pp pd pt ps pr V S S lix lsub lb X0 Gs Gr Al cl W∧Blk W w.heap.size 32 (opV 1 M A3 m3 c3 code)∧ Below N w W) HH.out (fun W hW=>?_);clear HH;obtain⟨hC,hq,hbN⟩:=hW;have HC:=zak hC;have HQ:=zak hq;have HBN:=zak hbN;have zp:=hC.pb.lt;have zq:=hq.lt;have pb:=hC.pb;have oq:=hq;unfold opV at oq;obtain⟨bU,co,bS,cp,bV,bW,bX⟩:=zba pb;have di:=pb.frozen;obtain⟨cq,ct,cy,cz,cA,cB,cC,cD,cE,cF,bN,bO,bP,bQ,bR,bn⟩:=zbe oq;have dk:=oq.frozen;clear hC hq hbN;have hgr:=HC.out.two.grow (G':=fun q=>X0 q∧q < W.heap.size) (fun q _ h=>h.1);obtain⟨Fd,Fr,gl,n8,cl8,Av,cv,ds,es,Al2,cl2,Av2,cv2,ds2,es2,T⟩:=hgr
 have hn8:n8≤1000:=by rw[T.hn];exact HL.out
 have hlb:lb.length≤35184372088832:=by have:=HC.out.le;omega
 obtain⟨mc,hmc⟩:=zm6 L lix lsub lb false;have HT0:=zak T;have hXd:∀q,Fd q→ ¬X0 q:=fun q h k=>(T.bd q h).2.2 ⟨k,(T.bd q h).2.1⟩
 have hXr:∀q,Fr q→ ¬X0 q:=fun q h k=>(T.br q h).2.2 ⟨k,(T.br q h).2.1⟩
 have HXD:=zak hXd;have HXR:=zak hXr;have HMC:=zak hmc;clear T hXd hXr hmc;refine wp_region_held_drew (S:=(fun w'=>w'.cell? ⟨pp,0,none⟩=some (.pointer (some ⟨pd,0,none⟩))∧ w'.cell? ⟨pp,4,none⟩=some (.int .i64 lix)∧ w'.cell? ⟨pp,5,none⟩=some (.int .i64 lsub)∧ w'.cell? ⟨pp,6,none⟩=some (.slice Al lb.length cl))) (by kernel_rfl) ?hS49 (fun hHeld=>?rest49)
 case hS49=>((try dsimp only);(exact⟨bU,bV,bW,bX⟩))
 case' rest49=>skip
 iterate 19 (refine tkN ?_;try simp only[PqL,Act.put])
 refine kRd 19 (fun K hK=>?_)
 go_simp
 refine (zg3 lix lsub Al lb.length cl lb _ (HT0.out.d.below (Below.drew (Below.refl _ _))) HS.out hn8 rfl HC.out.lc hlb (HC.out.lsl.below (Below.drew (Below.refl _ _)))).mono ?_;rintro e w3 ⟨V2,es',rfl,hV2,hD2,ho2⟩;dsimp only;rw[HMC.out];replace ho2:=zm4 ho2;have HB3:=zak (zhe HC.out.pb ho2 (fun h=>HXD.out _ h HC.out.xs.1));have g0:w3.cell? ⟨pp,0,none⟩=some (.pointer (some ⟨pd,0,none⟩)):=HB3.out.cell 0 rfl;have g1:w3.cell? ⟨pp,1,none⟩=some (.pointer (some ⟨pt,0,none⟩)):=HB3.out.cell 1 rfl;have g4:w3.cell? ⟨pp,4,none⟩=some (.int .i64 lix):=HB3.out.cell 4 rfl;have g5:w3.cell? ⟨pp,5,none⟩=some (.int .i64 lsub):=HB3.out.cell 5 rfl
 have g6:w3.cell? ⟨pp,6,none⟩=some (.slice Al lb.length cl):=HB3.out.cell 6 rfl;have zp3:=HB3.out.lt;have HO2:=zak ho2;have HD2:=zak hD2;have HSL3:=zak (zh9 HC.out.lsl (fun ad e=>ho2.block _ (HC.out.lal ad e).1 (fun h=>HXD.out _ h (HC.out.lal ad e).2.2.2.2.2)));have HV2:=zak hV2;clear ho2 hD2 hV2;refine hK.out _ _ ?hS71 (fun hHeld=>?rest71)
 case hS71=>((try dsimp only);(exact⟨g0,g4,g5,g6⟩))
 case' rest71=>(clear hK K;try simp only[PqL,Act.put])
 refine tkH 20 ?_;try simp only[PqL,Act.put]
 refine wpAnyH_done (by kernel_rfl) ?_ _;have hEnd:=hHeld.2
 repeat (clear hHeld)
 clear bU co bS cp bV bW bX di;clear cq ct cy cz cA cB cC cD cE cF bN bO bP bQ bR bn dk;clear pb oq;go_upto_region 18 with fail
 refine wp_region_held_drew (S:=(fun w'=>w'.cell? ⟨pp,1,none⟩=some (.pointer (some ⟨pt,0,none⟩))∧ w'.cell? ⟨pp,4,none⟩=some (.int .i64 lix)∧ w'.cell? ⟨pp,5,none⟩=some (.int .i64 lsub)∧ w'.cell? ⟨pp,6,none⟩=some (.slice Al lb.length cl))) (by kernel_rfl) ?hS74 (fun hHeld=>?rest74)
 case hS74=>((try dsimp only);(exact⟨g1,g4,g5,g6⟩))
 case' rest74=>skip
 iterate 20 (refine tkN ?_;try simp only[PqL,Act.put])
 refine kRd 20 (fun K hK=>?_)
 go_simp
 refine (zj9 lix lsub Al lb.length cl lb _ ((HT0.out.other HO2.out).below (Below.drew (Below.refl _ _))) hn8 rfl HC.out.lc hlb (HSL3.out.below (Below.drew (Below.refl _ _)))).mono ?_;rintro e w4 ⟨V3,es3',rfl,hV3,hD3,ho3⟩;dsimp only;rw[HMC.out];replace ho3:=zm4 ho3;have hV23:V3=V2:=hV3.trans HV2.out.symm;subst hV23;have hC4:=HC.out.dicts HXD.out HXR.out HO2.out ho3 (HT0.out.both HO2.out HD2.out ho3 hD3 (fun g h=>h.2) (by have:=HC.out.nn.1;omega)) (fun q h=>h.elim);have HC4:=zak hC4;have HVP4:Hid (ValsP L V3):=zak (by rw[HV2.out];exact zmu HS.out HT0.out.d.lenV HVP.out lix lsub lb false);have hbN4:Below N w w4:=HBN.out.trans ((HO2.out.below (by have:=HC.out.nn.1;omega) (fun q e=>(HT0.out.bd q e).1)).trans (ho3.below (by have:=HC.out.nn.1;have:=HO2.out.size;omega) (fun q e=>(HT0.out.br q e).1)))
 have HBN4:=zak hbN4;have k4:=hC4.pb;have j1:w4.cell? ⟨pp,1,none⟩=some (.pointer (some ⟨pt,0,none⟩)):=k4.cell 1 rfl;have j4:w4.cell? ⟨pp,4,none⟩=some (.int .i64 lix):=k4.cell 4 rfl;have j5:w4.cell? ⟨pp,5,none⟩=some (.int .i64 lsub):=k4.cell 5 rfl;have j6:w4.cell? ⟨pp,6,none⟩=some (.slice Al lb.length cl):=k4.cell 6 rfl;have j2:w4.cell? ⟨pp,2,none⟩=some (.pointer (some ⟨ps,0,none⟩)):=k4.cell 2 rfl;have zp4:=k4.lt;clear hV3 hD3 ho3 hC4 hbN4 k4;refine hK.out _ _ ?hS97 (fun hHeld=>?rest97)
 case hS97=>((try dsimp only);(exact⟨j1,j4,j5,j6⟩))
 case' rest97=>(clear hK K;try simp only[PqL,Act.put])
 refine tkH 21 ?_;try simp only[PqL,Act.put]
 refine wpAnyH_done (by kernel_rfl) ?_ _;have hEnd:=hHeld.2
 repeat (clear hHeld)
 go_wp2_with fail
 refine (zng ps pd S _ mc _ HC4.out.sv).mono ?_;rintro e w5 ⟨As,ns,cs,ds5,rfl,hm5,hS5,ho5⟩;have hC5:=(HC4.out.prog (Zn:=fun _=>False) ho5 hS5 (fun q h=>⟨.inl h,fun h=>h⟩) (fun q h=>h.elim) (fun q h=>h.elim)).mono (Z':=fun _=>False) (fun q h=>h.elim);have HC5:=zak hC5;have HM5:=zak hm5;have HBN5:Hid (Below N w w5):=zak (HBN4.out.trans (ho5.below (by have:=HC4.out.nn.1;omega) (fun q e=>by rw[e];exact HC4.out.nn.2.1)));have l3:w5.cell? ⟨pp,3,none⟩=some (.pointer (some ⟨pr,0,none⟩)):=hC5.pb.cell 3 rfl;have zp5:=hC5.pb.lt;clear hm5 hS5 ho5 hC5 j1 j2 j4 j5 j6 g0 g1 g4 g5 g6;go_wp2_with fail
 refine (znj pr pt S _ mc _ HC5.out.rv).mono ?_;rintro e w6 ⟨Bs,nbs,cbs,es6,rfl,hm6,hS6,ho6⟩;have hC6:=HC5.out.refc ho6 hS6 (fun q h=>h) (fun q h=>h.elim);have hbN6:Below N w w6:=HBN5.out.trans (ho6.below (by have:=HC5.out.nn.1;omega) (fun q e=>by rw[e];exact HC5.out.nn.2.2));have HT:Hid (znr N L pp pd pt ps pr w As ns cs Bs nbs cbs w6):=zak (znq hbN6 hC6 (zno HWF.out) HVP4.out (HM5.out.only ho6 (fun q e=>by have:=HC4.out.rv.lt;rw[e];exact this)) (fun q h=>h.elim) hm6 (by have:=HC4.out.pb.lt;have:=HC4.out.nn.1;omega) (by have:=HC5.out.pb.lt;have:=HC5.out.nn.1;omega) (zns S mc).1 (zns S mc).2);have HT2:=zak HT.out.drew
 clear hm6 hS6 ho6 hC6 hbN6;go_upto_region 28 with fail
 refine zb6 (P:=znr N L pp pd pt ps pr w As ns cs Bs nbs cbs) HT.out (fun W9 hW9=>?_);clear HT;obtain⟨hb9,hN9,l9,ds9,es9,hO9,hO9b,hl9,hk9,hP9⟩:=hW9;have HP9:=zak hP9;have HO9:=zak hO9;have HO9b:=zak hO9b;have HL9:=zak hl9;have HN9:Hid (ns=l9.length):=zak hO9.1.hn;have HN9b:Hid (nbs=l9.length):=zak hO9b.hn;have hn9:ns≤1000:=by rw[HN9.out];exact hk9
 clear hP9 hO9 hO9b hl9 hk9;go_wp2_with fail
 refine (znd l9 ds9 As ns cs _ HN9.out (by omega) (zna HO9.out.1)).mono ?_;rintro e wa ⟨Aa,ca,rfl,hSa,hba⟩;have HSA:=zak hSa;have HBA:=zak hba;clear hSa hba;go_wp2_with fail
 refine (znb l9 ds9 es9 Aa Bs ns ca nbs cbs _ HN9.out HN9b.out (by omega) HSA.out ((zna HO9b.out).below HBA.out)).mono ?_;rintro e wb ⟨rfl,hbb⟩;have HBAB:=zak (za5 hbb HBA.out);clear hbb;go_wp2_with fail
 go_loopw [11] (fun s11 wx=> ∃k:Nat,s11= .int .i64 (k:Nat)∧ k≤ns∧Hid (zne As ns cs l9 ds9 wb k wx)) (fun s11 _=>ns - (intOf s11).toNat)
 case atStart=>exact⟨0,rfl,Nat.zero_le _,zak (zne.start (HO9.out.below HBAB.out))⟩
 case round=>
  obtain⟨k,rfl,hk,HSP⟩:=hrel;by_cases hlt:k < ns
  · obtain⟨M9,hM9⟩:∃M,l9[k]? =some M:=⟨l9[k]'(by rw[←HN9.out];exact hlt),List.getElem?_eq_getElem _⟩;obtain⟨g9,d9,hA9,hg9,hd9,hc9,hO9'⟩:=HSP.out.at_ hM9;subst hA9;have HE:=zak (And.intro hM9 hd9);have HOd:=zak hO9';have hn9l:M9.data.length≤35184372088832:=by have:=HL9.out M9 (List.mem_of_getElem? hM9);omega
    clear hM9 hd9 hO9';go_wp2_with fail
    refine (zes d9.1 M9.data.length d9.2 0 M9.data _ hn9l HOd.out.own (Nat.zero_le _)).mono ?_;rintro e wc ⟨rfl,hgc⟩;have HGC:=zak (HSP.out.step HE.out.1 HE.out.2 hgc);clear hgc;go_wp2_with fail
    exact⟨⟨k+1,by congr 1,by omega,HGC⟩,by simp only[intOf];omega⟩
  · obtain rfl:k=ns:=by omega
    have HF:Hid (DoesB N L pp pd pt ps pr w (.returned (.bool true)) wr):=zak (znp hb9 hN9 HO9.out HP9.out HBAB.out HSP.out);go_wp2_with fail
    go_ret
    exact HF.out
end
end Go.Proofs.YtkkpjbjmhaecjaaGreat
