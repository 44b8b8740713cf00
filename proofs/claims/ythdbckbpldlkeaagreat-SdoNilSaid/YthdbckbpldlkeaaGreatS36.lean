/- None -/
import Derived.Test.YthdbckbpldlkeaaGreatS35
namespace Go.Proofs.YthdbckbpldlkeaaGreat
set_option linter.unusedVariables false
set_option linter.unusedSimpArgs false
set_option linter.unnecessarySimpa false
section
open Go.RowKit
set_option maxRecDepth 100000
set_option maxHeartbeats 4000000
theorem zme {w W' w3:World} {G G':Nat→Prop} {p pd:Nat} {S':BlkS} {L:List Ms} {As:Option Addr} {ns cs:Nat} {ds:List (Option Addr×Nat)} (hz:w.heap.size+2≤W'.heap.size) (hO:zdv (fun q=>q=p) w W') (hp:p < w.heap.size) (hK:Blk W' (w.heap.size+1) 100 (outV none 0 0 outZ none 0 0)) (hG:∀ q,G' q→G q∧q≠w.heap.size+1)
 (h1:zgb w3 (fun g=>W'.heap.size≤g) As ns cs L ds) (h4:BV_ w3 G' p pd S') (h5:zdv (fun q=>q=p) W' w3) :
 Blk (putO w3 (w.heap.size+1) As ns cs outZ none 0 0) (w.heap.size+1) 100 (outV As ns cs outZ none 0 0)∧ BOutF w G p pd S' L (.returned (.agg (outV As ns cs outZ none 0 0))) (putO w3 (w.heap.size+1) As ns cs outZ none 0 0):= by
 have hK3:=ziz hK h5 (by omega)
 refine⟨zje hK3,As,ns,cs,ds,rfl,(h1.keep (fun g hg _=>zj4 (show g≠w.heap.size+1 by omega) _ _ _ _ _ _ _)).mono (fun g _ hg=>by omega),h4.keep (fun q hq _=>zj4 (by rcases hq with rfl | hq;omega;exact (hG q hq).2) _ _ _ _ _ _ _) (by rw[zj5];exact Nat.le_refl _) (fun q _ hq=>(hG q hq).1),zjg (hO.trans h5 (fun _ _ h=>h)) (by omega) _ _ _ _ _ _ _⟩
section
variable {F:Nat→Prop} {pd gl n cl cv:Nat} {Av:Option Addr} {L:List Ent} {V:List (List UInt8)} {ds es:List (Option Addr×Nat)}
theorem zmf (p:Nat) (S:BlkS) (G:Nat→Prop) (ix sub:Int) (tg la cr sz:Bool) (size code:Nat) (data:List UInt8) (sq bl em:Int) (sum:Nat) (A3:Option Addr) (m3 c3:Nat) (w:World) (hD:DB 107 w F pd (some ⟨gl,0,none⟩) n cl Av cv L V ds es) (hs:SortedE L) (hn:n≤1000) (hv:∀ v ∈ V,v.length≤256)
 (hp: ¬ F p) (hS:BV_ w G p pd S) :
 Calls Tryz.prog 45 #[.pointer (some ⟨p,0,none⟩),.agg (msV (⟨8,ix,sub,tg,la,cr,sz,size,code,data,sq,bl,em,sum⟩:Ms) A3 m3 c3)] w (BOutR w G p pd (bupS L V (blkIdle S) (⟨8,ix,sub,tg,la,cr,sz,size,code,data,sq,bl,em,sum⟩:Ms)) (bupO L V (⟨8,ix,sub,tg,la,cr,sz,size,code,data,sq,bl,em,sum⟩:Ms))):= by
 obtain⟨P,hP⟩:∃ P,P=BOutR w G p pd (bupS L V (blkIdle S) (⟨8,ix,sub,tg,la,cr,sz,size,code,data,sq,bl,em,sum⟩:Ms)) (bupO L V (⟨8,ix,sub,tg,la,cr,sz,size,code,data,sq,bl,em,sum⟩:Ms)):= ⟨_,rfl⟩
 rw[← hP]
 have HP:=zak hP
 have HS:=zak hs
 have H1:=zak hn
 have HV:=zak hv
 have HD:=zak (fun W (h:zdv (fun q=>q=p) w W)=> hD.keep (w':=W) (fun g hg hlt=>h.block g hlt (fun e=>hp (e ▸ hg))))
 obtain⟨s,hst⟩:∃ s,s=S.st:=⟨_,rfl⟩
 obtain⟨A,n1,c1,hB,_⟩:= id hS
 have hz:=hB.lt
 have hne1:p≠w.heap.size+1:=by omega
 have hne0:w.heap.size≠p:=by omega
 have HX:=zak (zlr (S:=S) (pd:=pd) (A:=A) (n1:=n1) (c1:=c1) (⟨8,ix,sub,tg,la,cr,sz,size,code,data,sq,bl,em,sum⟩:Ms) A3 m3 c3 hB)
 have HB0:=zak (zc1 (zc1 (Below.refl w.heap.size w) (.cells (msV (⟨8,ix,sub,tg,la,cr,sz,size,code,data,sq,bl,em,sum⟩:Ms) A3 m3 c3) 102)) (.cells (outV none 0 0 outZ none 0 0) 100))
 have HS0:=zak hS
 clear hP hS hB hD hs hn hv
 unfold msV outV outZ at HX HB0
 unfold msV
 go_enter Tryz.func45,Tryz.ntmps45
 go_upto_region 1 with fail
 refine zd8 (P:=fun W=>BX w p pd (KMO w (⟨8,ix,sub,tg,la,cr,sz,size,code,data,sq,bl,em,sum⟩:Ms) A3 m3 c3) S A n1 c1 W∧Below w.heap.size w W) ⟨HX.out,HB0.out⟩ (fun W hW=>?_)
 clear HX HB0
 obtain⟨hX,hbw⟩:= hW
 have HX:=zak hX
 have HBW:=zak hbw
 have k1:=hX.msg
 have bb:=hX.2.1
 have zW:=bb.lt
 have zk1:=k1.lt
 have zo1:=hX.out.lt
 unfold msV at k1
 unfold bsrV at bb
 dsimp only at bb k1
 rw[← hst] at bb
 obtain⟨k1_c0,k1_c1,k1_c2,k1_c3,k1_c4,k1_c5,k1_c6,k1_c7,k1_c8,k1_c9,k1_c10,k1_c11,k1_c12,k1_c13⟩:= zc9 k1
 have k1_f:=k1.frozen
 obtain⟨bb_c0,bb_c1,bb_c2,bb_c3,bb_c4,bb_c5,bb_c6,bb_c7,bb_c8,bb_c9,bb_c10,bb_c11⟩:= zc8 bb
 have bb_f:=bb.frozen
 clear hX hbw
 have XI:=zak (HX.out.sets (S':=blkIdle S) [.int .i64 0] 7 (by simp) rfl)
 simp only[World.setCells] at XI
 clear hst
 by_cases h3:s=3
 · subst h3
   go_upto_region 5 with fail
   refine zd8 (P:=BX w p pd (KMO w (⟨8,ix,sub,tg,la,cr,sz,size,code,data,sq,bl,em,sum⟩:Ms) A3 m3 c3) (blkIdle S) A n1 c1) XI.out (fun W2 hW2=>?_)
   clear k1_c0 k1_c1 k1_c2 k1_c3 k1_c4 k1_c5 k1_c6 k1_c7 k1_c8 k1_c9 k1_c10 k1_c11 k1_c12 k1_c13 k1_f
   clear bb_c0 bb_c1 bb_c2 bb_c3 bb_c4 bb_c5 bb_c6 bb_c7 bb_c8 bb_c9 bb_c10 bb_c11 bb_f
   clear XI k1 bb
   have HX2:=zak hW2
   have k1:=hW2.msg
   have zk2:=k1.lt
   unfold msV at k1
   dsimp only at k1
   obtain⟨k1_c0,k1_c1,k1_c2,k1_c3,k1_c4,k1_c5,k1_c6,k1_c7,k1_c8,k1_c9,k1_c10,k1_c11,k1_c12,k1_c13⟩:= zc9 k1
   have k1_f:=k1.frozen
   clear hW2
   go_wp2_with fail
   refine (zl8 p (blkIdle S) (fun q=>G q∧q < w.heap.size) (⟨8,ix,sub,tg,la,cr,sz,size,code,data,sq,bl,em,sum⟩:Ms) A3 m3 c3 _ (HD.out W2 HX2.out.1) HS.out H1.out HV.out hp (zln HX2.out.2.1)).mono ?_
   rintro e w5 ⟨X,As,ns,cs,A5,n5,c5,rfl,h1,h2,h3,h4,h5⟩
   unfold outV
   dsimp only
   clear k1_c0 k1_c1 k1_c2 k1_c3 k1_c4 k1_c5 k1_c6 k1_c7 k1_c8 k1_c9 k1_c10 k1_c11 k1_c12 k1_c13 k1_f
   clear k1
   have F:=zl2 (G:=G) (G':=(fun q=>G q∧q < w.heap.size)) HX2.out.2.2.2 HX2.out.1 hz HX2.out.out (fun q h=>⟨.inl h.1,by have:=h.2;omega⟩) h1 h2 h3 h4 h5
   have k5:=ziz HX2.out.out h5 (fun e=>hne1 e.symm)
   have HF:=zak F
   clear F h1 h2 h3 h4 h5
   unfold outV outZ at k5
   obtain⟨k5_c0,k5_c1,k5_c2,k5_c3,k5_c4⟩:= zc5 k5
   have k5_f:=k5.frozen
   go_wp2_with fail
   obtain⟨F1,F2⟩:= HF.out
   rw[← HP.out] at F2
   unfold putO at F1 F2
   refine zjd (O:=bupO L V (⟨8,ix,sub,tg,la,cr,sz,size,code,data,sq,bl,em,sum⟩:Ms)) rfl rfl rfl F1 ?_
   exact F2
 · have h3n:(s == 3)=false:=by simp[h3]
   go_wp2_with fail
   refine (zlj 8 _).mono ?_
   rintro e w1 ⟨rfl,hw1⟩
   subst hw1
   rw[show (decide ((8:Int)=1∨(8:Int)=6∨(8:Int)=8))=true by decide]
   go_upto_region 5 with fail
   refine zd8 (P:=BX w p pd (KMO w (⟨8,ix,sub,tg,la,cr,sz,size,code,data,sq,bl,em,sum⟩:Ms) A3 m3 c3) (blkIdle S) A n1 c1) XI.out (fun W2 hW2=>?_)
   clear k1_c0 k1_c1 k1_c2 k1_c3 k1_c4 k1_c5 k1_c6 k1_c7 k1_c8 k1_c9 k1_c10 k1_c11 k1_c12 k1_c13 k1_f
   clear bb_c0 bb_c1 bb_c2 bb_c3 bb_c4 bb_c5 bb_c6 bb_c7 bb_c8 bb_c9 bb_c10 bb_c11 bb_f
   clear XI k1 bb
   have HX2:=zak hW2
   have k1:=hW2.msg
   have zk2:=k1.lt
   unfold msV at k1
   dsimp only at k1
   obtain⟨k1_c0,k1_c1,k1_c2,k1_c3,k1_c4,k1_c5,k1_c6,k1_c7,k1_c8,k1_c9,k1_c10,k1_c11,k1_c12,k1_c13⟩:= zc9 k1
   have k1_f:=k1.frozen
   clear hW2
   go_wp2_with fail
   refine (zl8 p (blkIdle S) (fun q=>G q∧q < w.heap.size) (⟨8,ix,sub,tg,la,cr,sz,size,code,data,sq,bl,em,sum⟩:Ms) A3 m3 c3 _ (HD.out W2 HX2.out.1) HS.out H1.out HV.out hp (zln HX2.out.2.1)).mono ?_
   rintro e w5 ⟨X,As,ns,cs,A5,n5,c5,rfl,h1,h2,h3,h4,h5⟩
   unfold outV
   dsimp only
   clear k1_c0 k1_c1 k1_c2 k1_c3 k1_c4 k1_c5 k1_c6 k1_c7 k1_c8 k1_c9 k1_c10 k1_c11 k1_c12 k1_c13 k1_f
   clear k1
   have F:=zl2 (G:=G) (G':=(fun q=>G q∧q < w.heap.size)) HX2.out.2.2.2 HX2.out.1 hz HX2.out.out (fun q h=>⟨.inl h.1,by have:=h.2;omega⟩) h1 h2 h3 h4 h5
   have k5:=ziz HX2.out.out h5 (fun e=>hne1 e.symm)
   have HF:=zak F
   clear F h1 h2 h3 h4 h5
   unfold outV outZ at k5
   obtain⟨k5_c0,k5_c1,k5_c2,k5_c3,k5_c4⟩:= zc5 k5
   have k5_f:=k5.frozen
   go_wp2_with fail
   obtain⟨F1,F2⟩:= HF.out
   rw[← HP.out] at F2
   unfold putO at F1 F2
   refine zjd (O:=bupO L V (⟨8,ix,sub,tg,la,cr,sz,size,code,data,sq,bl,em,sum⟩:Ms)) rfl rfl rfl F1 ?_
   exact F2
end
theorem zmg (p pd:Nat) (mo szz nx ta ro six ssub:Int) (b:List UInt8) (sm:Bool) (h:Nat) (G:Nat→Prop) (ix sub:Int) (tg la cr sz:Bool) (size code:Nat) (data:List UInt8) (sq bl em:Int) (sum:Nat) (A3:Option Addr) (m3 c3:Nat) (w:World) (hS:BV_ w G p pd (⟨mo,szz,nx,(h:Int),ta,ro,4,six,ssub,b,sm⟩:BlkS)) (h256:b.length≤1000) (hht:h < btotal b) (hta:0≤ta∧ta≤1000) :
 Calls Tryz.prog 45 #[.pointer (some ⟨p,0,none⟩),.agg (msV (⟨9,ix,sub,tg,la,cr,sz,size,code,data,sq,bl,em,sum⟩:Ms) A3 m3 c3)] w (BOutF w G p pd (bgiveS (⟨mo,szz,nx,(h:Int),ta,ro,4,six,ssub,b,sm⟩:BlkS)) (bgiveL (⟨mo,szz,nx,(h:Int),ta,ro,4,six,ssub,b,sm⟩:BlkS))):= by
 obtain⟨P,hP⟩:∃ P,P=BOutF w G p pd (bgiveS (⟨mo,szz,nx,(h:Int),ta,ro,4,six,ssub,b,sm⟩:BlkS)) (bgiveL (⟨mo,szz,nx,(h:Int),ta,ro,4,six,ssub,b,sm⟩:BlkS)):= ⟨_,rfl⟩
 rw[← hP]
 have HP:=zak hP
 obtain⟨A,n1,c1,hB,_⟩:= id hS
 have hz:=hB.lt
 have hne1:p≠w.heap.size+1:=by omega
 have hne0:w.heap.size≠p:=by omega
 have HX:=zak (zlr (S:=(⟨mo,szz,nx,(h:Int),ta,ro,4,six,ssub,b,sm⟩:BlkS)) (pd:=pd) (A:=A) (n1:=n1) (c1:=c1) (⟨9,ix,sub,tg,la,cr,sz,size,code,data,sq,bl,em,sum⟩:Ms) A3 m3 c3 hB)
 have HB0:=zak (zc1 (zc1 (Below.refl w.heap.size w) (.cells (msV (⟨9,ix,sub,tg,la,cr,sz,size,code,data,sq,bl,em,sum⟩:Ms) A3 m3 c3) 102)) (.cells (outV none 0 0 outZ none 0 0) 100))
 have HS0:=zak hS
 clear hP hS hB
 unfold msV outV outZ at HX HB0
 unfold msV
 go_enter Tryz.func45,Tryz.ntmps45
 go_upto_region 1 with fail
 refine zd8 (P:=fun W=>BX w p pd (KMO w (⟨9,ix,sub,tg,la,cr,sz,size,code,data,sq,bl,em,sum⟩:Ms) A3 m3 c3) (⟨mo,szz,nx,(h:Int),ta,ro,4,six,ssub,b,sm⟩:BlkS) A n1 c1 W∧Below w.heap.size w W) ⟨HX.out,HB0.out⟩ (fun W hW=>?_)
 clear HX HB0
 obtain⟨hX,hbw⟩:= hW
 have HX:=zak hX
 have HBW:=zak hbw
 have k1:=hX.msg
 have bb:=hX.2.1
 have zW:=bb.lt
 have zk1:=k1.lt
 have zo1:=hX.out.lt
 unfold msV at k1
 unfold bsrV at bb
 dsimp only at bb k1
 obtain⟨k1_c0,k1_c1,k1_c2,k1_c3,k1_c4,k1_c5,k1_c6,k1_c7,k1_c8,k1_c9,k1_c10,k1_c11,k1_c12,k1_c13⟩:= zc9 k1
 have k1_f:=k1.frozen
 obtain⟨bb_c0,bb_c1,bb_c2,bb_c3,bb_c4,bb_c5,bb_c6,bb_c7,bb_c8,bb_c9,bb_c10,bb_c11⟩:= zc8 bb
 have bb_f:=bb.frozen
 clear hX hbw
 go_wp2_with fail
 refine (zlj 9 _).mono ?_
 rintro e w1 ⟨rfl,hw1⟩
 subst hw1
 rw[show (decide ((9:Int)=1∨(9:Int)=6∨(9:Int)=8))=false by decide]
 have HX2:=HX
 go_wp2_with fail
 refine (zmb p pd (⟨mo,szz,nx,(h:Int),ta,ro,4,six,ssub,b,sm⟩:BlkS) (fun q=>G q∧q < w.heap.size) _ (zl3 HS0.out HBW.out) (show (4:Int)≠ 0 by decide) h256 h rfl hht hta).mono ?_
 rintro e w5 ⟨As,ns,cs,ds,rfl,h1,h4,h5⟩
 unfold outV
 dsimp only
 clear k1_c0 k1_c1 k1_c2 k1_c3 k1_c4 k1_c5 k1_c6 k1_c7 k1_c8 k1_c9 k1_c10 k1_c11 k1_c12 k1_c13 k1_f
 clear bb_c0 bb_c1 bb_c2 bb_c3 bb_c4 bb_c5 bb_c6 bb_c7 bb_c8 bb_c9 bb_c10 bb_c11 bb_f
 clear k1 bb
 have F:=zme (G:=G) HX2.out.2.2.2 HX2.out.1 hz HX2.out.out (fun q h=>⟨h.1,by have:=h.2;omega⟩) h1 h4 h5
 have k5:=ziz HX2.out.out h5 (fun e=>hne1 e.symm)
 have HF:=zak F
 clear F h1 h4 h5
 unfold outV outZ at k5
 obtain⟨k5_c0,k5_c1,k5_c2,k5_c3,k5_c4⟩:= zc5 k5
 have k5_f:=k5.frozen
 go_wp2_with fail
 obtain⟨F1,F2⟩:= HF.out
 rw[← HP.out] at F2
 unfold putO at F1 F2
 refine zjd (O:=outZ) rfl rfl rfl F1 ?_
 exact F2
theorem zmh (p pd:Nat) (mo szz nx ta ro six ssub:Int) (b:List UInt8) (sm:Bool) (h:Nat) (G:Nat→Prop) (ix sub:Int) (tg la cr sz:Bool) (size code:Nat) (data:List UInt8) (sq bl em:Int) (sum:Nat) (A3:Option Addr) (m3 c3:Nat) (w:World) (hS:BV_ w G p pd (⟨mo,szz,nx,(h:Int),ta,ro,5,six,ssub,b,sm⟩:BlkS)) (h256:b.length≤1000) (q:Nat) (hq:Hid (sq=(q:Int))) (hqr:(q:Int)≤ ro) (hbl:Hid (bl≠0)) (hh:h≤1000) (hq2:q≤1000) (hb:0≤bl∧bl≤1000) (h2:Nat) (hh2:Hid (h2=h+q)) (hlt2:h2 < btotal b) :
 Calls Tryz.prog 45 #[.pointer (some ⟨p,0,none⟩),.agg (msV (⟨10,ix,sub,tg,la,cr,sz,size,code,data,sq,bl,em,sum⟩:Ms) A3 m3 c3)] w (BOutF w G p pd (bgiveS (⟨mo,szz,nx,((h2:Nat):Int),bl,ro,5,six,ssub,b,sm⟩:BlkS)) (bgiveL (⟨mo,szz,nx,((h2:Nat):Int),bl,ro,5,six,ssub,b,sm⟩:BlkS))):= by
 obtain⟨P,hP⟩:∃ P,P=BOutF w G p pd (bgiveS (⟨mo,szz,nx,((h2:Nat):Int),bl,ro,5,six,ssub,b,sm⟩:BlkS)) (bgiveL (⟨mo,szz,nx,((h2:Nat):Int),bl,ro,5,six,ssub,b,sm⟩:BlkS)):= ⟨_,rfl⟩
 rw[← hP]
 have HP:=zak hP
 obtain⟨A,n1,c1,hB,_⟩:= id hS
 have hz:=hB.lt
 have hne1:p≠w.heap.size+1:=by omega
 have hne0:w.heap.size≠p:=by omega
 have HX:=zak (zlr (S:=(⟨mo,szz,nx,(h:Int),ta,ro,5,six,ssub,b,sm⟩:BlkS)) (pd:=pd) (A:=A) (n1:=n1) (c1:=c1) (⟨10,ix,sub,tg,la,cr,sz,size,code,data,sq,bl,em,sum⟩:Ms) A3 m3 c3 hB)
 have HB0:=zak (zc1 (zc1 (Below.refl w.heap.size w) (.cells (msV (⟨10,ix,sub,tg,la,cr,sz,size,code,data,sq,bl,em,sum⟩:Ms) A3 m3 c3) 102)) (.cells (outV none 0 0 outZ none 0 0) 100))
 have HS0:=zak hS
 clear hP hS hB
 unfold msV outV outZ at HX HB0
 unfold msV
 go_enter Tryz.func45,Tryz.ntmps45
 go_upto_region 1 with fail
 refine zd8 (P:=fun W=>BX w p pd (KMO w (⟨10,ix,sub,tg,la,cr,sz,size,code,data,sq,bl,em,sum⟩:Ms) A3 m3 c3) (⟨mo,szz,nx,(h:Int),ta,ro,5,six,ssub,b,sm⟩:BlkS) A n1 c1 W∧Below w.heap.size w W) ⟨HX.out,HB0.out⟩ (fun W hW=>?_)
 clear HX HB0
 obtain⟨hX,hbw⟩:= hW
 have HX:=zak hX
 have HBW:=zak hbw
 have k1:=hX.msg
 have bb:=hX.2.1
 have zW:=bb.lt
 have zk1:=k1.lt
 have zo1:=hX.out.lt
 unfold msV at k1
 unfold bsrV at bb
 dsimp only at bb k1
 obtain⟨k1_c0,k1_c1,k1_c2,k1_c3,k1_c4,k1_c5,k1_c6,k1_c7,k1_c8,k1_c9,k1_c10,k1_c11,k1_c12,k1_c13⟩:= zc9 k1
 have k1_f:=k1.frozen
 obtain⟨bb_c0,bb_c1,bb_c2,bb_c3,bb_c4,bb_c5,bb_c6,bb_c7,bb_c8,bb_c9,bb_c10,bb_c11⟩:= zc8 bb
 have bb_f:=bb.frozen
 clear hX hbw
 go_wp2_with fail
 refine (zlj 10 _).mono ?_
 rintro e w1 ⟨rfl,hw1⟩
 subst hw1
 rw[show (decide ((10:Int)=1∨(10:Int)=6∨(10:Int)=8))=false by decide]
 have HX2:=HX
 go_wp2_with fail
 refine (zmc p pd mo szz nx ta ro six ssub h b sm (fun q=>G q∧q < w.heap.size) (⟨10,ix,sub,tg,la,cr,sz,size,code,data,sq,bl,em,sum⟩:Ms) q A3 m3 c3 _ (zl3 HS0.out HBW.out) h256 hq.out hqr hbl.out hh hq2 hb h2 hh2.out hlt2).mono ?_
 rintro e w5 ⟨As,ns,cs,ds,rfl,h1,h4,h5⟩
 unfold outV
 dsimp only
 clear k1_c0 k1_c1 k1_c2 k1_c3 k1_c4 k1_c5 k1_c6 k1_c7 k1_c8 k1_c9 k1_c10 k1_c11 k1_c12 k1_c13 k1_f
 clear bb_c0 bb_c1 bb_c2 bb_c3 bb_c4 bb_c5 bb_c6 bb_c7 bb_c8 bb_c9 bb_c10 bb_c11 bb_f
 clear k1 bb
 have F:=zme (G:=G) (G':=fun q=>G q∧q < w.heap.size) HX2.out.2.2.2 HX2.out.1 hz HX2.out.out (fun q h=>⟨h.1,by have:=h.2;omega⟩) h1 h4 h5
 have k5:=ziz HX2.out.out h5 (fun e=>hne1 e.symm)
 have HF:=zak F
 clear F h1 h4 h5
 unfold outV outZ at k5
 obtain⟨k5_c0,k5_c1,k5_c2,k5_c3,k5_c4⟩:= zc5 k5
 have k5_f:=k5.frozen
 go_wp2_with fail
 obtain⟨F1,F2⟩:= HF.out
 rw[← HP.out] at F2
 unfold putO at F1 F2
 refine zjd (O:=outZ) rfl rfl rfl F1 ?_
 exact F2
theorem zmi (p pd:Nat) (mo szz nx ta ro six ssub:Int) (b:List UInt8) (sm:Bool) (h:Nat) (G:Nat→Prop) (ix sub:Int) (tg la cr sz:Bool) (size code:Nat) (data:List UInt8) (sq bl em:Int) (sum:Nat) (A3:Option Addr) (m3 c3:Nat) (w:World) (hS:BV_ w G p pd (⟨mo,szz,nx,(h:Int),ta,ro,5,six,ssub,b,sm⟩:BlkS)) (h256:b.length≤1000) (q:Nat) (hq:Hid (sq=(q:Int))) (hqr:(q:Int)≤ ro) (hbl:Hid (bl≠0)) (hh:h≤1000) (hq2:q≤1000) (hb:0≤bl∧bl≤1000) (h2:Nat) (hh2:Hid (h2=h+q)) (hlt2:Hid (h2=btotal b)) (emv:Nat) (hem:Hid (emv=7 * btotal b - b.length)) (sumv:Nat) (hsv:Hid (sumv=if sm=true then sum16L b else 0)) :
 Calls Tryz.prog 45 #[.pointer (some ⟨p,0,none⟩),.agg (msV (⟨10,ix,sub,tg,la,cr,sz,size,code,data,sq,bl,em,sum⟩:Ms) A3 m3 c3)] w (BOutR w G p pd (⟨mo,szz,nx,((h2:Nat):Int),bl,ro,6,six,ssub,b,sm⟩:BlkS) (outM (bendM ((emv:Nat):Int) sumv))):= by
 obtain⟨P,hP⟩:∃ P,P=BOutR w G p pd (⟨mo,szz,nx,((h2:Nat):Int),bl,ro,6,six,ssub,b,sm⟩:BlkS) (outM (bendM ((emv:Nat):Int) sumv)):= ⟨_,rfl⟩
 rw[← hP]
 have HP:=zak hP
 obtain⟨A,n1,c1,hB,_⟩:= id hS
 have hz:=hB.lt
 have hne1:p≠w.heap.size+1:=by omega
 have hne0:w.heap.size≠p:=by omega
 have HX:=zak (zlr (S:=(⟨mo,szz,nx,(h:Int),ta,ro,5,six,ssub,b,sm⟩:BlkS)) (pd:=pd) (A:=A) (n1:=n1) (c1:=c1) (⟨10,ix,sub,tg,la,cr,sz,size,code,data,sq,bl,em,sum⟩:Ms) A3 m3 c3 hB)
 have HB0:=zak (zc1 (zc1 (Below.refl w.heap.size w) (.cells (msV (⟨10,ix,sub,tg,la,cr,sz,size,code,data,sq,bl,em,sum⟩:Ms) A3 m3 c3) 102)) (.cells (outV none 0 0 outZ none 0 0) 100))
 have HS0:=zak hS
 clear hP hS hB
 unfold msV outV outZ at HX HB0
 unfold msV
 go_enter Tryz.func45,Tryz.ntmps45
 go_upto_region 1 with fail
 refine zd8 (P:=fun W=>BX w p pd (KMO w (⟨10,ix,sub,tg,la,cr,sz,size,code,data,sq,bl,em,sum⟩:Ms) A3 m3 c3) (⟨mo,szz,nx,(h:Int),ta,ro,5,six,ssub,b,sm⟩:BlkS) A n1 c1 W∧Below w.heap.size w W) ⟨HX.out,HB0.out⟩ (fun W hW=>?_)
 clear HX HB0
 obtain⟨hX,hbw⟩:= hW
 have HX:=zak hX
 have HBW:=zak hbw
 have k1:=hX.msg
 have bb:=hX.2.1
 have zW:=bb.lt
 have zk1:=k1.lt
 have zo1:=hX.out.lt
 unfold msV at k1
 unfold bsrV at bb
 dsimp only at bb k1
 obtain⟨k1_c0,k1_c1,k1_c2,k1_c3,k1_c4,k1_c5,k1_c6,k1_c7,k1_c8,k1_c9,k1_c10,k1_c11,k1_c12,k1_c13⟩:= zc9 k1
 have k1_f:=k1.frozen
 obtain⟨bb_c0,bb_c1,bb_c2,bb_c3,bb_c4,bb_c5,bb_c6,bb_c7,bb_c8,bb_c9,bb_c10,bb_c11⟩:= zc8 bb
 have bb_f:=bb.frozen
 clear hX hbw
 go_wp2_with fail
 refine (zlj 10 _).mono ?_
 rintro e w1 ⟨rfl,hw1⟩
 subst hw1
 rw[show (decide ((10:Int)=1∨(10:Int)=6∨(10:Int)=8))=false by decide]
 have HX2:=HX
 go_wp2_with fail
 refine (zmd p pd mo szz nx ta ro six ssub h b sm (fun q=>G q∧q < w.heap.size) (⟨10,ix,sub,tg,la,cr,sz,size,code,data,sq,bl,em,sum⟩:Ms) q A3 m3 c3 _ (zl3 HS0.out HBW.out) h256 hq.out hqr hbl.out hh hq2 hb h2 hh2.out hlt2.out emv hem.out sumv hsv).mono ?_
 rintro e w5 ⟨X,As,ns,cs,A5,n5,c5,rfl,h1,h2,h3,h4,h5⟩
 unfold outV outM
 dsimp only
 clear k1_c0 k1_c1 k1_c2 k1_c3 k1_c4 k1_c5 k1_c6 k1_c7 k1_c8 k1_c9 k1_c10 k1_c11 k1_c12 k1_c13 k1_f
 clear bb_c0 bb_c1 bb_c2 bb_c3 bb_c4 bb_c5 bb_c6 bb_c7 bb_c8 bb_c9 bb_c10 bb_c11 bb_f
 clear k1 bb
 have F:=zl2 (G:=G) (G':=(fun q=>G q∧q < w.heap.size)) HX2.out.2.2.2 HX2.out.1 hz HX2.out.out (fun q h=>⟨.inl h.1,by have:=h.2;omega⟩) h1 h2 h3 h4 h5
 have k5:=ziz HX2.out.out h5 (fun e=>hne1 e.symm)
 have HF:=zak F
 clear F h1 h2 h3 h4 h5
 unfold outV outZ at k5
 obtain⟨k5_c0,k5_c1,k5_c2,k5_c3,k5_c4⟩:= zc5 k5
 have k5_f:=k5.frozen
 go_wp2_with fail
 obtain⟨F1,F2⟩:= HF.out
 rw[← HP.out] at F2
 unfold putO at F1 F2
 refine zjd (O:=outM (bendM ((emv:Nat):Int) sumv)) rfl rfl rfl F1 ?_
 exact F2
theorem zmj (p pd:Nat) (mo szz nx ha ta ro six ssub:Int) (b:List UInt8) (sm:Bool) (G:Nat→Prop) (ix sub:Int) (tg la cr sz:Bool) (size code:Nat) (data:List UInt8) (sq bl em:Int) (sum:Nat) (A3:Option Addr) (m3 c3:Nat) (w:World) (hS:BV_ w G p pd (⟨mo,szz,nx,ha,ta,ro,6,six,ssub,b,sm⟩:BlkS)) :
 Calls Tryz.prog 45 #[.pointer (some ⟨p,0,none⟩),.agg (msV (⟨11,ix,sub,tg,la,cr,sz,size,code,data,sq,bl,em,sum⟩:Ms) A3 m3 c3)] w (BOutR w G p pd (blkIdle (⟨mo,szz,nx,ha,ta,ro,6,six,ssub,b,sm⟩:BlkS)) outZ):= by
 obtain⟨P,hP⟩:∃ P,P=BOutR w G p pd (blkIdle (⟨mo,szz,nx,ha,ta,ro,6,six,ssub,b,sm⟩:BlkS)) outZ:=⟨_,rfl⟩
 rw[← hP]
 have HP:=zak hP
 obtain⟨A,n1,c1,hB,_⟩:= id hS
 have hz:=hB.lt
 have hne1:p≠w.heap.size+1:=by omega
 have hne0:w.heap.size≠p:=by omega
 have HX:=zak (zlr (S:=(⟨mo,szz,nx,ha,ta,ro,6,six,ssub,b,sm⟩:BlkS)) (pd:=pd) (A:=A) (n1:=n1) (c1:=c1) (⟨11,ix,sub,tg,la,cr,sz,size,code,data,sq,bl,em,sum⟩:Ms) A3 m3 c3 hB)
 have HB0:=zak (zc1 (zc1 (Below.refl w.heap.size w) (.cells (msV (⟨11,ix,sub,tg,la,cr,sz,size,code,data,sq,bl,em,sum⟩:Ms) A3 m3 c3) 102)) (.cells (outV none 0 0 outZ none 0 0) 100))
 have HS0:=zak hS
 clear hP hS hB
 unfold msV outV outZ at HX HB0
 unfold msV
 go_enter Tryz.func45,Tryz.ntmps45
 go_upto_region 1 with fail
 refine zd8 (P:=fun W=>BX w p pd (KMO w (⟨11,ix,sub,tg,la,cr,sz,size,code,data,sq,bl,em,sum⟩:Ms) A3 m3 c3) (⟨mo,szz,nx,ha,ta,ro,6,six,ssub,b,sm⟩:BlkS) A n1 c1 W∧Below w.heap.size w W) ⟨HX.out,HB0.out⟩ (fun W hW=>?_)
 clear HX HB0
 obtain⟨hX,hbw⟩:= hW
 have HX:=zak hX
 have HBW:=zak hbw
 have k1:=hX.msg
 have bb:=hX.2.1
 have zW:=bb.lt
 have zk1:=k1.lt
 have zo1:=hX.out.lt
 unfold msV at k1
 unfold bsrV at bb
 dsimp only at bb k1
 obtain⟨k1_c0,k1_c1,k1_c2,k1_c3,k1_c4,k1_c5,k1_c6,k1_c7,k1_c8,k1_c9,k1_c10,k1_c11,k1_c12,k1_c13⟩:= zc9 k1
 have k1_f:=k1.frozen
 obtain⟨bb_c0,bb_c1,bb_c2,bb_c3,bb_c4,bb_c5,bb_c6,bb_c7,bb_c8,bb_c9,bb_c10,bb_c11⟩:= zc8 bb
 have bb_f:=bb.frozen
 clear hX hbw
 go_wp2_with fail
 refine (zlj 11 _).mono ?_
 rintro e w1 ⟨rfl,hw1⟩
 subst hw1
 rw[show (decide ((11:Int)=1∨(11:Int)=6∨(11:Int)=8))=false by decide]
 have HX2:=HX
 have XI:=zak (HX.out.sets (S':=blkIdle (⟨mo,szz,nx,ha,ta,ro,6,six,ssub,b,sm⟩:BlkS)) [.int .i64 0] 7 (by simp) rfl)
 simp only[World.setCells] at XI
 go_upto_region 21 with fail
 refine zd8 (P:=BX w p pd (KMO w (⟨11,ix,sub,tg,la,cr,sz,size,code,data,sq,bl,em,sum⟩:Ms) A3 m3 c3) (blkIdle (⟨mo,szz,nx,ha,ta,ro,6,six,ssub,b,sm⟩:BlkS)) A n1 c1) XI.out (fun W2 hW2=>?_)
 clear k1_c0 k1_c1 k1_c2 k1_c3 k1_c4 k1_c5 k1_c6 k1_c7 k1_c8 k1_c9 k1_c10 k1_c11 k1_c12 k1_c13 k1_f
 clear bb_c0 bb_c1 bb_c2 bb_c3 bb_c4 bb_c5 bb_c6 bb_c7 bb_c8 bb_c9 bb_c10 bb_c11 bb_f
 clear XI k1 bb
 have HX3:=zak hW2
 have k2:=hW2.out
 unfold outV outZ at k2
 obtain⟨k2_c0,k2_c1,k2_c2,k2_c3,k2_c4⟩:= zc5 k2
 have k2_f:=k2.frozen
 clear hW2
 go_wp2_with fail
 obtain⟨F1,F2⟩:= zlp (G:=G) HX3.out.out (zln HX3.out.2.1) HX3.out.1 hz
 rw[← HP.out] at F2
 unfold putO outZ at F1 F2
 dsimp only at F1 F2
 refine zjd (O:=⟨[],false,0,0,[]⟩) rfl rfl rfl F1 ?_
 exact F2
end
section
open Go.RowKit
set_option maxRecDepth 100000
set_option maxHeartbeats 4000000
theorem zmk (k:Int) (hk:k=7∨k=8) (w:World):Calls Tryz.prog 133 #[.int .i64 k] w fun e w'=>e= .returned (.tuple #[.int .i64 (if k=7 then 1408 else 1536),.bool true])∧ w=w':=by
 rcases hk with rfl | rfl
 · go_enter Tryz.func133,Tryz.ntmps133
   go_wp2_with fail
   go_ret2
   exact⟨rfl,rfl⟩
 · go_enter Tryz.func133,Tryz.ntmps133
   go_wp2_with fail
   go_ret2
   exact⟨rfl,rfl⟩
theorem zml (n a b:Int) (w:World):Calls Tryz.prog 134 #[.int .i64 n,.int .i64 a,.int .i64 b] w fun e w'=>e= .returned (.bool (decide (a≤n) && decide (n≤b)))∧ w=w':=by
 by_cases h:a≤n
 · have hd:=decide_eq_true h
   go_enter Tryz.func134,Tryz.ntmps134
   go_wp2_with fail
   go_ret
   exact⟨by simp[h],rfl⟩
 · have hd:=decide_eq_false h
   go_enter Tryz.func134,Tryz.ntmps134
   go_wp2_with fail
   go_ret
   exact⟨by simp[h],rfl⟩
theorem zmm (k:Int) (hk:k=7∨k=8) (node:Int) (h:1≤node∧node≤127) (w:World) :
 Calls Tryz.prog 69 #[.agg #[.int .i64 k,.int .i64 0,.int .i64 node]] w fun e w'=>e= .returned (.tuple #[.int .i64 ((if k=7 then 1408 else 1536)+node),.int .i64 0])∧ Below w.heap.size w w':=by
 have q:=zdb w 139 #[.int .i64 k,.int .i64 0,.int .i64 node]
 have hbw:=zc1 (Below.refl w.heap.size w) (.cells #[.int .i64 k,.int .i64 0,.int .i64 node] 139)
 have HB:=zak hbw
 clear hbw
 obtain⟨h1,h2⟩:= h
 rcases hk with rfl | rfl
 all_goals
  obtain⟨q_c0,q_c1,q_c2⟩:= zc4 q
  have q_f:=q.frozen
  go_enter Tryz.func69,Tryz.ntmps69
  go_wp2_with fail
  refine (zmk _ (by simp) _).mono ?_
  rintro e w1 ⟨rfl,rfl⟩
  go_wp2_with fail
  refine (zml _ _ _ _).mono ?_
  rintro e w1 ⟨rfl,rfl⟩
  have hd:(decide ((1:Int)≤ node) && decide (node≤127))=true:=by simp[h1,h2]
  rw[hd]
  go_wp2_with fail
  go_ret2
  refine⟨?_,HB.out⟩
  simp
theorem zmn (k:Int) (hk:k=7∨k=8) (node:Int) (h: ¬ (1≤node∧node≤127)) (w:World) :
 Calls Tryz.prog 69 #[.agg #[.int .i64 k,.int .i64 0,.int .i64 node]] w fun e w'=>e= .returned (.tuple #[.int .i64 0,.int .i64 1])∧ Below w.heap.size w w':=by
 have q:=zdb w 139 #[.int .i64 k,.int .i64 0,.int .i64 node]
 have hbw:=zc1 (Below.refl w.heap.size w) (.cells #[.int .i64 k,.int .i64 0,.int .i64 node] 139)
 have HB:=zak hbw
 have hd:Hid ((decide ((1:Int)≤ node) && decide (node≤127))=false):= zak (by simp only[Bool.and_eq_false_iff,decide_eq_false_iff_not];omega)
 clear hbw h
 rcases hk with rfl | rfl
 all_goals
  obtain⟨q_c0,q_c1,q_c2⟩:= zc4 q
  have q_f:=q.frozen
  go_enter Tryz.func69,Tryz.ntmps69
  go_wp2_with fail
  refine (zmk _ (by simp) _).mono ?_
  rintro e w1 ⟨rfl,rfl⟩
  go_wp2_with fail
  refine (zml _ _ _ _).mono ?_
  rintro e w1 ⟨rfl,rfl⟩
  rw[hd.out]
  go_wp2_with fail
  go_ret2
  exact⟨rfl,HB.out⟩
end
end Go.Proofs.YthdbckbpldlkeaaGreat
