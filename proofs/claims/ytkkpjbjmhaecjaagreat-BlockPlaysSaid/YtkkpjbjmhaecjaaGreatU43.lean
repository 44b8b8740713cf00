/- None -/
import Derived.Test.YtkkpjbjmhaecjaaGreatU42
namespace Go.Proofs.YtkkpjbjmhaecjaaGreat
set_option linter.all false
set_option maxRecDepth 100000
set_option maxHeartbeats 4000000
section
open Go.RowKit
def k22E:Ent:=⟨8192,0,⟨#[116,101,120,116]⟩,9,4,false,false,9,0,0,[]⟩
def k22V:List (List UInt8):=[[]]
def k22d1:List UInt8:=[97,98,99,100,101,102,103]
def k22d2:List UInt8:=[104,105,0,0,0,0,0]
def k22d3:List UInt8:=[97,98,99,100,101,102,103,104,105]
def k22a:BlkS:=⟨9,9,1,0,0,0,1,8192,0,[],true⟩
def k22b:BlkS:=⟨9,9,2,0,0,0,1,8192,0,k22d1,true⟩
def k22c:BlkS:=⟨9,9,1,0,0,0,2,8192,0,[97,98,99,100,101,102,103,104,105,0,0,0,0,0],true⟩
def k22e:BlkS:=⟨9,9,1,0,0,0,3,8192,0,[97,98,99,100,101,102,103,104,105,0,0,0,0,0],true⟩
theorem k22_1:bdownS [k22E] (blkIdle blkZ) (⟨6,8192,0,false,false,true,true,9,0,[],0,0,0,0⟩:Ms)=k22a:=by kernel_rfl
theorem k22_2:bdownO [k22E] (⟨6,8192,0,false,false,true,true,9,0,[],0,0,0,0⟩:Ms)=outM (bokM 8192 0):=by kernel_rfl
theorem k22_3:bpartS (⟨9,9,1,0,0,0,1,8192,0,[],true⟩:BlkS) (⟨21,0,0,false,false,false,false,0,0,k22d1,1,0,0,0⟩:Ms)=k22b:=by kernel_rfl
theorem k22_4:bpartO (⟨9,9,1,0,0,0,1,8192,0,[],true⟩:BlkS) (⟨21,0,0,false,false,false,false,0,0,k22d1,1,0,0,0⟩:Ms)=outZ:=by kernel_rfl
theorem k22_5:bpartS (⟨9,9,2,0,0,0,1,8192,0,k22d1,true⟩:BlkS) (⟨21,0,0,false,true,false,false,0,0,k22d2,2,0,0,0⟩:Ms)=k22c:=by kernel_rfl
theorem k22_6:bpartO (⟨9,9,2,0,0,0,1,8192,0,k22d1,true⟩:BlkS) (⟨21,0,0,false,true,false,false,0,0,k22d2,2,0,0,0⟩:Ms)=outM (ackM 2):=by kernel_rfl
theorem k22_7:bendS (⟨9,9,1,0,0,0,2,8192,0,[97,98,99,100,101,102,103,104,105,0,0,0,0,0],true⟩:BlkS) (⟨7,0,0,false,false,false,false,0,0,[],0,0,5,sum16L k22d3⟩:Ms)=k22e:=by kernel_rfl
theorem k22_8:bendO (⟨9,9,1,0,0,0,2,8192,0,[97,98,99,100,101,102,103,104,105,0,0,0,0,0],true⟩:BlkS) (⟨7,0,0,false,false,false,false,0,0,[],0,0,5,sum16L k22d3⟩:Ms)=⟨[],true,8192,0,k22d3⟩:=by kernel_rfl
theorem k22_n:NewP [k22E] 0 0:= .inr (.inr ⟨by decide,rfl,rfl,fun j hj=>by
 have:j=0:=by simp at hj;exact hj
 subst this
 decide +kernel⟩)
theorem zn3:SortedE [k22E]:=List.pairwise_singleton _ _
def BK (w2:World) (p pd:Nat) (K:Nat→TypeId→Array Value→Prop) (S:BlkS) (W:World):Prop:=
 zbv (fun q=>q=p) w2 W∧BV_ W (fun _=>True) p pd S∧ ∀q t cs,K q t cs→q≠p∧Blk W q t cs
section
variable {w2 W W':World} {p pd:Nat} {K:Nat→TypeId→Array Value→Prop} {S S':BlkS} {O:SegO} {e:Ending}
theorem BK.call {G:Nat→Prop}(h:BK w2 p pd K S W)(hb:BV_ W' G p pd S')(ho:zbv (fun q=>q=p) W W'):BK w2 p pd K S' W':=
 ⟨h.1.trans ho (fun _ _ h=>h),hb.keep (fun _ _ _=>rfl) (Nat.le_refl _) (fun _ _ _=>trivial),fun q t cs hq=>⟨(h.2.2 q t cs hq).1,zhe (h.2.2 q t cs hq).2 ho (h.2.2 q t cs hq).1⟩⟩
theorem BK.step (h:BK w2 p pd K S W)(hb:Below W.heap.size W W'):BK w2 p pd K S W':=
 ⟨h.1.step hb,h.2.1.keep (fun q _ hq=>hb.block q hq) hb.size (fun _ _ _=>trivial),fun q t cs hq=>⟨(h.2.2 q t cs hq).1,(h.2.2 q t cs hq).2.below hb (h.2.2 q t cs hq).2.lt⟩⟩
theorem BK.add (h:BK w2 p pd K S W){x:Nat}{tx:TypeId}{cx:Array Value}(hx:x≠p)(hB:Blk W x tx cx):BK w2 p pd (fun q t cs=>K q t cs∨(q=x∧t=tx∧cs=cx)) S W:=
 ⟨h.1,h.2.1,fun q t cs hq=>by
   rcases hq with hq | ⟨rfl,rfl,rfl⟩
   · exact h.2.2 q t cs hq
   · exact⟨hx,hB⟩⟩
end
theorem zn4 (w:World):Calls Tryz.prog 8 #[] w (TrueB w):=by
 have hE:SlE (w.alloc (.cells (entV k22E none 0 0) 90)) (some ⟨w.heap.size,0,none⟩) [k22E]:=by
  have q2:=Blk.new w 90 (entV k22E none 0 0);intro j E hj;have hj0:j=0:=by
   have:=(List.getElem?_eq_some_iff.1 hj).1
   simp at this;exact this
  subst hj0;injection hj with hj
  subst hj;exact⟨w.heap.size,0,none,0,rfl,⟨q2.cell 0 rfl,q2.cell 1 rfl,q2.cell 2 rfl,q2.cell 3 rfl,q2.cell 4 rfl,q2.cell 5 rfl,q2.cell 6 rfl,q2.cell 7 rfl,q2.cell 8 rfl,q2.cell 9 rfl,q2.cell 10 rfl⟩,by decide,by intro j u hu;simp[k22E] at hu⟩
 have hbw:=za7 (Below.refl w.heap.size w) (.cells (entV k22E none 0 0) 90);have HE:=zak hE;have HBW:=zak hbw;clear hE hbw;unfold entV k22E at HE HBW;go_enter Tryz.func8,Tryz.ntmps8
 go_wp2_with fail
 refine (zny _ 1 1 [k22E] _ rfl HE.out (by intro E h;simp at h;subst h;exact⟨by decide,by decide⟩)).mono ?_;rintro e w1 ⟨v,er,at_,rfl,hnp,_,h0,hb1⟩;obtain⟨rfl,rfl⟩:=zde hnp k22_n;obtain⟨pd,gl,n,cl,Av,cv,ds,es,rfl,hn,hD⟩:=h0 rfl;have hbw1:=za5 hb1 HBW.out;have HD:Hid (DB 100 w1 (fun g=>g < w1.heap.size) pd (some ⟨gl,0,none⟩) n cl Av cv [k22E] k22V ds es):=zak (hD.mono (fun g h _=>h));have H1:Hid (n≤1000):=zak (by rw[hn];decide);clear hD hn h0 hnp HE HBW hb1;go_wp2_with fail
 refine (zij pd _).mono ?_;rintro e w2 ⟨rfl,hB2,hb2,hz2⟩;obtain⟨p,hpp⟩:∃p,p=w1.heap.size:=⟨_,rfl⟩;rw[←hpp] at hB2 ⊢;have HPP:=zak hpp;have HBW2:=zak (za5 hb2 hbw1);have HD2:=zak (HD.out.below hb2);have HS2:Hid (BV_ w2 (fun _=>True) p pd blkZ):=zak ⟨none,0,0,hB2,fun h=>absurd rfl h⟩;have zp2:=hB2.lt;have hwp:w.heap.size≤p:=by rw[hpp];exact hbw1.size
 clear hb2 hz2 hB2 hpp hbw1;go_wp2_with fail
 refine (zik _).mono ?_;rintro e w3 ⟨rfl,rfl⟩;go_wp2_with fail
 refine (zjh (V:=k22V) p blkZ (fun _=>True) 8192 0 false false true true 9 0 [] 0 0 0 0 none 0 0 _ HD2.out zn3 H1.out (by rw[HPP.out];simp) HS2.out (by decide)).mono ?_;rintro e w3 ⟨X3,As3,ns3,cs3,A3,n3,c3,rfl,hm3,hO3,hX3,hS3,ho3⟩;rw[k22_1] at hS3;rw[k22_2] at hm3 hO3 ⊢;obtain⟨g3,Ad3,nd3,cd3,rfl,rfl,rfl,hg3,hM3,hOd3⟩:=zn1 hm3;have z3:=ho3.size;have HK0:Hid (BK w2 p pd (fun _ _ _=>False) k22a w3):=zak ⟨ho3,hS3.keep (fun _ _ _=>rfl) (Nat.le_refl _) (fun _ _ _=>trivial),fun _ _ _ h=>h.elim⟩;have HK1:=zak (((HK0.out.add (show g3≠p by omega) hM3).step (za7 (Below.refl _ _) (.cells (outV (some ⟨g3,0,none⟩) 1 1 (outM (bokM 8192 0)) A3 n3 c3) 93))).add (show w3.heap.size≠p by omega) (Blk.new w3 93 (outV (some ⟨g3,0,none⟩) 1 1 (outM (bokM 8192 0)) A3 n3 c3)))
 clear hm3 hO3 hX3 hS3 ho3 hM3 hOd3 hg3 HK0;unfold outV outM;dsimp only;go_upto_region 6 with fail
 refine zb6 (P:=BK w2 p pd (fun q t cs=>((fun q t cs=>False∨(q=g3∧t=95∧cs=msV (bokM 8192 0) Ad3 nd3 cd3)) q t cs)∨ (q=w3.heap.size∧t=93∧cs=outV (some ⟨g3,0,none⟩) 1 1 (outM (bokM 8192 0)) A3 n3 c3)) k22a) HK1.out (fun W hW=>?_);clear HK1;have HKW:=zak hW;obtain⟨A8,n8,c8,hB8,_⟩:=id hW.2.1;have HB8:=zak hB8;clear hB8 hW;go_wp2_with fail
 refine (zim p pd k22a A8 n8 c8 _ HB8.out).mono ?_;rintro e w8 ⟨rfl,hw8⟩;subst hw8;rw[show (k22a.st == 1)=true from rfl];have kc:=znz W #[.int .u8 97,.int .u8 98,.int .u8 99,.int .u8 100,.int .u8 101,.int .u8 102,.int .u8 103] 7 7;have HKA:=zak (HKW.out.step (za7 (Below.refl _ _) (.cells #[.int .u8 97,.int .u8 98,.int .u8 99,.int .u8 100,.int .u8 101,.int .u8 102,.int .u8 103] 5 (7,8))));have HSA:=zak (zn0 W #[.int .u8 97,.int .u8 98,.int .u8 99,.int .u8 100,.int .u8 101,.int .u8 102,.int .u8 103] 5 (7,8));have zWp:p < W.heap.size:=HB8.out.lt;have HZA:Hid ((W.alloc (.cells #[.int .u8 97,.int .u8 98,.int .u8 99,.int .u8 100,.int .u8 101,.int .u8 102,.int .u8 103] 5 (7,8))).heap.size=W.heap.size+1):=zak (by simp)
 go_wp2_with fail
 have hr:=zji p pd 9 9 1 0 0 0 8192 0 [] true (fun _=>True) 0 0 false false false false 0 0 k22d1 1 0 0 0 (some ⟨W.heap.size,0,none⟩) 7 7 _ HKA.out.2.1 (by decide) (by decide) (by decide) (zak rfl) (by decide) (zak (fun W' h=>zh9 HSA.out (fun ad e=>by injection e with e;subst e;exact h.block _ (by rw[HZA.out];exact Nat.lt_succ_self _) (show W.heap.size≠p by omega))));refine hr.mono ?_;rintro e w5 ⟨X5,As5,ns5,cs5,A5,n5,c5,rfl,hm5,hO5,hX5,hS5,ho5⟩;clear hr kc;rw[k22_3] at hS5;rw[k22_4] at hm5 hO5 ⊢;obtain⟨rfl,rfl,rfl⟩:=zn2 hm5;have HKB2:=zak (HKA.out.call hS5 ho5);have z5:W.heap.size+1≤w5.heap.size:=by have:=ho5.size;rw[HZA.out] at this;exact this
 clear hm5 hO5 hX5 hS5 ho5;unfold outV outZ;dsimp only;have kc2:=znz w5 #[.int .u8 104,.int .u8 105,.int .u8 0,.int .u8 0,.int .u8 0,.int .u8 0,.int .u8 0] 7 7;have HKA2:=zak (HKB2.out.step (za7 (Below.refl _ _) (.cells #[.int .u8 104,.int .u8 105,.int .u8 0,.int .u8 0,.int .u8 0,.int .u8 0,.int .u8 0] 5 (7,8))));have HSA2:=zak (zn0 w5 #[.int .u8 104,.int .u8 105,.int .u8 0,.int .u8 0,.int .u8 0,.int .u8 0,.int .u8 0] 5 (7,8));have HZA2:Hid ((w5.alloc (.cells #[.int .u8 104,.int .u8 105,.int .u8 0,.int .u8 0,.int .u8 0,.int .u8 0,.int .u8 0] 5 (7,8))).heap.size=w5.heap.size+1):=zak (by simp);go_wp2_with fail
 have hr:=zji p pd 9 9 2 0 0 0 8192 0 k22d1 true (fun _=>True) 0 0 false true false false 0 0 k22d2 2 0 0 0 (some ⟨w5.heap.size,0,none⟩) 7 7 _ HKA2.out.2.1 (by decide) (by decide) (by decide) (zak rfl) (by decide) (zak (fun W' h=>zh9 HSA2.out (fun ad e=>by injection e with e;subst e;exact h.block _ (by rw[HZA2.out];exact Nat.lt_succ_self _) (show w5.heap.size≠p by omega))));refine hr.mono ?_;rintro e w7 ⟨X7,As7,ns7,cs7,A7,n7,c7,rfl,hm7,hO7,hX7,hS7,ho7⟩;clear hr kc2;rw[k22_5] at hS7;rw[k22_6] at hm7 hO7 ⊢;obtain⟨g7,Ad7,nd7,cd7,rfl,rfl,rfl,hg7,hM7,hOd7⟩:=zn1 hm7;have z7:w5.heap.size+1≤w7.heap.size:=by have:=ho7.size;rw[HZA2.out] at this;exact this
 have hgp7:g7≠p:=by rw[HZA2.out] at hg7;omega
 have HKC:=zak (HKA2.out.call hS7 ho7);have HKD:=zak (((HKC.out.add hgp7 hM7).step (za7 (Below.refl _ _) (.cells (outV (some ⟨g7,0,none⟩) 1 1 (outM (ackM 2)) A7 n7 c7) 93))).add (show w7.heap.size≠p by omega) (Blk.new w7 93 (outV (some ⟨g7,0,none⟩) 1 1 (outM (ackM 2)) A7 n7 c7)));have zs7:Hid ((w7.alloc (.cells (outV (some ⟨g7,0,none⟩) 1 1 (outM (ackM 2)) A7 n7 c7) 93)).heap.size=w7.heap.size+1):=zak (by simp);clear hm7 hO7 hX7 hS7 ho7 hM7 hOd7 hg7 HKC;unfold outV outM at zs7;unfold outV outM;dsimp only;go_upto_region 9 with fail
 refine zb6 (P:=fun W9=>BK w2 p pd (fun q t cs=>((fun q t cs=>(fun q t cs=>((fun q t cs=>False∨(q=g3∧t=95∧cs=msV (bokM 8192 0) Ad3 nd3 cd3)) q t cs)∨ (q=w3.heap.size∧t=93∧cs=outV (some ⟨g3,0,none⟩) 1 1 (outM (bokM 8192 0)) A3 n3 c3)) q t cs∨(q=g7∧t=95∧cs=msV (ackM 2) Ad7 nd7 cd7)) q t cs)∨ (q=w7.heap.size∧t=93∧cs=outV (some ⟨g7,0,none⟩) 1 1 (outM (ackM 2)) A7 n7 c7)) k22c W9∧W9.heap.size=w7.heap.size+1) ⟨HKD.out,zs7.out⟩ (fun W9 hW9=>?_);clear HKD zs7;obtain⟨hW9,hz9⟩:=hW9;have HKB9:=zak hW9;have HZ9:=zak hz9;have zp9:p < W9.heap.size:=by omega
 clear hW9 hz9;have kc9:=znz W9 #[.int .u8 97,.int .u8 98,.int .u8 99,.int .u8 100,.int .u8 101,.int .u8 102,.int .u8 103,.int .u8 104,.int .u8 105] 9 9;have HKA9:=zak (HKB9.out.step (za7 (Below.refl _ _) (.cells #[.int .u8 97,.int .u8 98,.int .u8 99,.int .u8 100,.int .u8 101,.int .u8 102,.int .u8 103,.int .u8 104,.int .u8 105] 5 (9,10))));have HSA9:=zak (zn0 W9 #[.int .u8 97,.int .u8 98,.int .u8 99,.int .u8 100,.int .u8 101,.int .u8 102,.int .u8 103,.int .u8 104,.int .u8 105] 5 (9,10));have HZA9:Hid ((W9.alloc (.cells #[.int .u8 97,.int .u8 98,.int .u8 99,.int .u8 100,.int .u8 101,.int .u8 102,.int .u8 103,.int .u8 104,.int .u8 105] 5 (9,10))).heap.size=W9.heap.size+1):=zak (by simp)
 go_wp2_with fail
 refine (zjc (some ⟨W9.heap.size,0,none⟩) 9 9 k22d3 _ rfl (by decide) HSA9.out).mono ?_;rintro e w10 ⟨rfl,hb10⟩;have HK10:=zak (HKA9.out.step hb10);have z10:W9.heap.size+1≤w10.heap.size:=by have:=hb10.size;rw[HZA9.out] at this;exact this
 clear hb10 kc9;go_wp2_with fail
 have hr:=zjj p pd 9 9 1 0 0 0 8192 0 [97,98,99,100,101,102,103,104,105,0,0,0,0,0] true (fun _=>True) 0 0 false false false false 0 0 [] 0 0 5 (sum16L k22d3) none 0 0 _ HK10.out.2.1 (by decide) (by decide);refine hr.mono ?_;rintro e w11 ⟨X11,As11,ns11,cs11,A11,n11,c11,rfl,hm11,hO11,hX11,hS11,ho11⟩;clear hr;rw[k22_7] at hS11;rw[k22_8] at hm11 hO11 ⊢;obtain⟨rfl,rfl,rfl⟩:=zn2 hm11;have z11:=ho11.size;have HK11:=zak (((HK10.out.call hS11 ho11).step (za7 (Below.refl _ _) (.cells (outV none 0 0 ⟨[],true,8192,0,k22d3⟩ A11 n11 c11) 93))).add (show w11.heap.size≠p by omega) (Blk.new w11 93 (outV none 0 0 ⟨[],true,8192,0,k22d3⟩ A11 n11 c11)))
 have HO11:=zak (hO11.alloc (.cells (outV none 0 0 ⟨[],true,8192,0,k22d3⟩ A11 n11 c11) 93));clear hm11 hO11 hX11 hS11 ho11;unfold outV;dsimp only;go_upto_region 10 with fail
 refine zb6 (P:=fun W12=>BK w2 p pd (fun q t cs=>(fun q t cs=>((fun q t cs=>(fun q t cs=>((fun q t cs=>False∨(q=g3∧t=95∧cs=msV (bokM 8192 0) Ad3 nd3 cd3)) q t cs)∨ (q=w3.heap.size∧t=93∧cs=outV (some ⟨g3,0,none⟩) 1 1 (outM (bokM 8192 0)) A3 n3 c3)) q t cs∨(q=g7∧t=95∧cs=msV (ackM 2) Ad7 nd7 cd7)) q t cs)∨ (q=w7.heap.size∧t=93∧cs=outV (some ⟨g7,0,none⟩) 1 1 (outM (ackM 2)) A7 n7 c7)) q t cs∨(q=w11.heap.size∧t=93∧cs=outV none 0 0 ⟨[],true,8192,0,k22d3⟩ A11 n11 c11)) k22e W12∧zbs W12 w10.heap.size A11 n11 c11 k22d3) ⟨HK11.out,HO11.out⟩ (fun W12 hW12=>?_);clear HK11 HO11;obtain⟨hK12,hO12⟩:=hW12;obtain⟨A13,n13,c13,hB13,_⟩:=id hK12.2.1
 have HB13:=zak hB13;have HO12:=zak hO12;have HK12:=zak hK12;clear hB13 hO12 hK12;go_wp2_with fail
 refine (zit p pd k22e 0 A13 n13 c13 _ HB13.out).mono ?_;rintro e w13 ⟨_,h13⟩;obtain⟨g13,hg13,rfl,hM13,hB14,ho13⟩:=h13 rfl;rw[if_pos rfl] at hM13;have HK13:=zak (HK12.out.call (G:=fun _=>True) (zi0 hB14) ho13);have hO13:=zhf HO12.out ho13 (fun g h1 _ (e:g=p)=> by omega);have qa:=(HK13.out.2.2 w3.heap.size _ _ (.inl (.inl (.inl (.inr ⟨rfl,rfl,rfl⟩))))).2;have qm:=(HK13.out.2.2 g3 _ _ (.inl (.inl (.inl (.inl (.inr ⟨rfl,rfl,rfl⟩)))))).2;have qc:=(HK13.out.2.2 w7.heap.size _ _ (.inl (.inr ⟨rfl,rfl,rfl⟩))).2;have qn:=(HK13.out.2.2 g7 _ _ (.inl (.inl (.inr ⟨rfl,rfl,rfl⟩)))).2;have qf:=(HK13.out.2.2 w11.heap.size _ _ (.inr ⟨rfl,rfl,rfl⟩)).2
 have s1:(convert 27 9 (.slice A11 n11 c11)).run Tryz.prog w13= .ok (.string ⟨#[97,98,99,100,101,102,103,104,105]⟩) w13:=zbu (w:=w13) c11 hO13.hn hO13.sl;have HBL:=zak (zbw HK13.out.1 HBW2.out (fun i (e:i=p)=> by omega));have HB15:=zak hB14;unfold msV bokM at qm;unfold msV ackM at qn;unfold outV outM at qa qc;unfold outV at qf;unfold msV okM at hM13;obtain⟨jx,jy,jz,jA,jB⟩:=za9 qa;have kj:=qa.frozen;obtain⟨jC,jD,jE,jF,jG,jH,jI,jJ,jK,jL,iI,iJ,iK,iL⟩:=zbd qm;have km:=qm.frozen;obtain⟨jM,jN,jO,jP,jQ⟩:=za9 qc;have kn:=qc.frozen;obtain⟨jR,jS,jT,jU,jV,jW,jX,jY,jZ,j0,iM,iN,iO,iP⟩:=zbd qn;have ko:=qn.frozen
 obtain⟨j3,j7,j8,j9,kb⟩:=za9 qf;have kp:=qf.frozen;obtain⟨gV,gW,gX,gY,gZ,hJ,hU,ia,ib,ic,gN,gO,gP,gQ⟩:=zbd hM13;have iQ:=hM13.frozen;clear h13 ho13 hO13 hB14;go_wp2_with fail
 refine (zil p pd (blkIdle k22e) A13 n13 c13 _ HB15.out).mono ?_;rintro e w14 ⟨rfl,hw14⟩;subst hw14;rw[show ((blkIdle k22e).st != 0)=false from rfl];go_wp2_with fail
 go_ret
 exact (⟨rfl,HBL.out⟩:TrueB w _ _)
end
end Go.Proofs.YtkkpjbjmhaecjaaGreat
