/- None -/
import Derived.Test.YthdbckbpldlkeaaQ49
import Derived.Test.YthdbckbpldlkeaaQ48
namespace Go.Proofs.Ythdbckbpldlkeaa
set_option linter.unusedVariables false
set_option linter.unusedSimpArgs false
set_option linter.unnecessarySimpa false
section
open Go.RowKit Go.Maps
set_option maxRecDepth 100000
set_option maxHeartbeats 8000000
def k24a:CliS:=⟨5,12,4119,0,[30,0],3,0,false,false,false,0,0,[]⟩
def k24b:CliS:=⟨5,0,4119,0,[30,0],3,0,false,false,false,0,0,[]⟩
theorem k24_1:cWriteS (cliZ 5) 4119 0 [30,0] 0=k24a:=by kernel_rfl
theorem k24_2:cWriteL (cliZ 5) 4119 0 [30,0] 0= [⟨1541,false,[43,23,16,0,30,0,0,0]⟩]:= by kernel_rfl
theorem k24_3:cRecvS k24a ⟨1413,false,[96,23,16,0,0,0,0,0]⟩=k24b:=by kernel_rfl
theorem k24_4:cRecvL k24a ⟨1413,false,[96,23,16,0,0,0,0,0]⟩= []:= by kernel_rfl
theorem k24_5:(resM (cKs k24a [96,23,16,0,0,0,0,0]) [96,23,16,0,0,0,0,0]).kind=12:=by kernel_rfl
theorem zoo {w w':World} {A:Option Addr} {xs:List Value} (h:Sl w A xs) (hk:∀ ad,A=some ad→w'.heap[ad.block]? =w.heap[ad.block]?):Sl w' A xs:=by
 intro j u hu
 obtain⟨ad,rfl,hc⟩:= h j u hu
 refine⟨ad,rfl,?_⟩
 rw[← hc]
 unfold World.cell?
 rw[show (ad.add j).block=ad.block by unfold Addr.add;split<;>rfl,hk ad rfl]
theorem zop {w:World} {F:Nat→Prop} {A:Option Addr} {n c:Nat} {f:Frm} {ds:List (Option Addr×Nat)} (h:zfe w F A n c [f] ds):∃ g A' c',A=some ⟨g,0,none⟩∧ n=1∧Sl w (some ⟨g,0,none⟩) [.int .i64 f.id,.bool f.re,.slice A' f.data.length c']∧ zb7 w 0 A' f.data.length c' f.data:=by
 obtain⟨d,hd,hO,_⟩:= h.1.elem (j:=0) (v:=f) rfl
 obtain⟨g,hA,_,hc⟩:= h.1.cells ze9 (j:=0) (v:=f) rfl hd (by omega)
 refine⟨g,d.1,d.2,hA,h.1.hn,?_,hO⟩
 intro j u hu
 refine⟨_,rfl,?_⟩
 have:=hc j u hu
 simp only[Nat.zero_mul,Nat.zero_add] at this
 by_cases hj:j=0
 · subst hj
   simpa [Addr.add] using this
 · simpa [Addr.add,hj] using this
theorem zoq (w:World):Calls Try.prog 6 #[] w (TrueB w):= by
 go_enter Try.func6,Try.ntmps6
 go_wp2_with fail
 refine (zh9 5 _ ⟨by omega,by omega⟩).mono ?_
 rintro e w1 ⟨p,m,rfl,hS1,hb1,hp1,hm1⟩
 have HS1:=zak hS1
 have HB1:=zak hb1
 have hpl:p < w1.heap.size:=by obtain⟨R,hB,_⟩:= hS1;exact hB.lt
 have hml:m < w1.heap.size:=by obtain⟨R,_,hm,_⟩:= hS1;exact hm.lt
 have hq1:=zak (Blk.new w1 5 #[.int .u8 30,.int .u8 0])
 have HS2:Hid (CV_ (w1.alloc (.cells #[.int .u8 30,.int .u8 0] 5)) (fun _=>False) p m (cliZ 5)):= zak (hS1.keep (fun q _ hq=>(zbp (Below.refl _ w1) (.cells #[.int .u8 30,.int .u8 0] 5)).block q hq) (fun _ _ h=>h))
 have HB2:=zak (zbp hb1 (.cells #[.int .u8 30,.int .u8 0] 5))
 have hz2:(w1.alloc (.cells #[.int .u8 30,.int .u8 0] 5)).heap.size=w1.heap.size+1:=by simp
 clear hS1 hb1
 go_wp2_with fail
 refine (zic (cliZ 5) 4119 0 [30,0] (some ⟨w1.heap.size,0,none⟩) 2 2 _ HS2.out ⟨by decide,by decide⟩ rfl ⟨by decide,by decide⟩ (by decide) (fun W' ho=>zoo hq1.out.sl (fun ad e=>by injection e with e;subst e;exact ho.block _ (by rw[hz2];exact Nat.lt_succ_self _) (by rintro (h | h | h);exact absurd h (by simp only;omega);exact absurd h (by simp only;omega);exact h)))).mono ?_
 rintro e w3 ⟨N3,As3,ns3,cs3,ds3,rfl,hO3,hN3,hS3,ho3⟩
 rw[k24_1] at hS3
 rw[k24_2] at hO3
 obtain⟨R3,hC3,_,_⟩:= hS3.cm
 have HB3:=zak (zce ho3 HB2.out (fun i h=>by rcases h with h | h | h;omega;omega;exact h.elim))
 have z3:w1.heap.size+1≤w3.heap.size:=by have:=ho3.size;omega
 have HC3:=zak hC3
 have HS3:=zak hS3
 have HO3:=zak hO3
 have HN3:Hid (w1.heap.size+1≤N3):= zak (by omega)
 clear HS1 HB1 HS2 HB2 hq1 hO3 hS3 ho3 hC3 hN3
 go_wp2_with fail
 refine (zcy _ HC3.out rfl).mono ?_
 rintro e w4 ⟨rfl,hw4⟩
 subst hw4
 rw[show decide (k24a.wk≠0)=true from rfl]
 go_wp2_with fail
 refine (zon _).mono ?_
 rintro e w5 ⟨A5,n5,c5,rfl,hO5,hb5⟩
 have hn5:n5=8:=hO5.hn
 subst hn5
 have hb6:=zbp hb5 (.cells (frV 1413 false A5 8 c5) 34)
 have HS6:=zak (HS3.out.keep (fun q _ hq=>hb6.block q hq) (fun _ _ h=>h))
 have HO6:=zak (hO5.alloc (.cells (frV 1413 false A5 8 c5) 34))
 have HF6:=zak (HO3.out.below hb6)
 have HB6:=zak (zbo hb6 HB3.out)
 have q6:=zbu w5 34 (frV 1413 false A5 8 c5)
 have z6:=hb6.size
 clear hO5 hb5 hb6 HC3 HS3 HO3 HB3
 unfold frV at q6 HS6 HO6 HF6 HB6
 unfold frV
 obtain⟨q6_c0,q6_c1,q6_c2⟩:= zbr q6
 have q6_f:=q6.frozen
 go_wp2_with fail
 refine (zf8 (G:=_) k24a ⟨1413,false,[96,23,16,0,0,0,0,0]⟩ A5 8 c5 _ HS6.out ⟨by decide,by decide⟩ (by decide) rfl HO6.out.le HO6.out.sl (by decide) (by decide) rfl rfl (fun he hk hf W R ks rs A n c h hE hb hn2 hM=>zf2 k24a R _ A n c W h ⟨by decide,by decide⟩ hE hb hn2 rfl (by decide) (by decide) k24_5)).mono ?_
 rintro e w7 ⟨N7,As7,ns7,cs7,ds7,rfl,hO7,hN7,hS7,ho7⟩
 rw[k24_3] at hS7
 rw[k24_4] at hO7
 obtain rfl:ns7=0:=hO7.1.hn
 have hF7:zfe w7 _ _ _ _ _ _:=⟨HF6.out.1.keep (w':=w7) (fun g hg hlt=>ho7.block g hlt (by have:=HN3.out;rintro (h | h | h);omega;omega;exact absurd h.2 (by omega))),HF6.out.2⟩
 have HB7:=zak (zce ho7 HB6.out (fun i h=>by rcases h with h | h | h;omega;omega;have:=h.1;rcases this with h | h;exact h.elim;omega))
 obtain⟨g8,A8,c8,rfl,rfl,hB8,hO8⟩:= zop hF7
 obtain⟨R7,hC7,_,_⟩:= hS7.cm
 have HC7:=zak hC7
 have HB8:=zak hB8
 have HO8:=zak hO8
 clear hO7 hS7 ho7 hF7 hC7 hB8 hO8 HF6 HS6 HO6 HB6 q6
 clear q6_c0 q6_c1 q6_c2 q6_f
 go_wp2_with fail
 refine (zoj g8 cs3 A8 8 c8 [43,23,16,0,30,0,0,0] _ HB8.out rfl (by omega) HO8.out.sl).mono ?_
 rintro e w9 ⟨rfl,hb9⟩
 rw[show strL (54 :: 48 :: 53 :: 35 :: (hexL [43,23,16,0,30,0,0,0] ++ [10]))=⟨#[54,48,53,35,50,98,49,55,49,48,48,48,49,101,48,48,48,48,48,48,10]⟩ by decide]
 have HC9:=zak (HC7.out.step hb9)
 have HB9:=zak (zbo hb9 HB7.out)
 clear hb9 HC7 HB7 HB8 HO8
 go_wp2_with fail
 refine (zia 0 _ (by omega)).mono ?_
 rintro e w10 ⟨rfl,hb10⟩
 have HC10:=zak (HC9.out.step hb10)
 have HB10:=zak (zbo hb10 HB9.out)
 have c35:w10.cell? ⟨p,35,none⟩=some (.int .u32 (0:Nat)):= HC10.out.blk.cell 35 rfl
 clear hb10 HC9 HB9
 go_wp2_with fail
 refine (zcy _ HC10.out rfl).mono ?_
 rintro e w11 ⟨rfl,hw11⟩
 subst hw11
 rw[show decide (k24b.wk≠0)=false from rfl]
 go_wp2_with fail
 refine (zcz 0 _ c35).mono ?_
 rintro e w11 ⟨rfl,hw11⟩
 subst hw11
 go_wp2_with fail
 go_ret
 exact (⟨rfl,HB10.out⟩:TrueB w _ _)
end
section
open Go.RowKit
set_option maxRecDepth 20000
set_option maxHeartbeats 2000000
theorem zor (M:Ms) (h:canB M=true):(laidB M).length=8:=by
 simp only[canB,rangeB,Bool.and_eq_true,decide_eq_true_iff] at h
 have h7:M.data.length≤7:=h.1.1.2.2
 have hsh:=h.1.2
 unfold laidB
 rw[List.length_set]
 have hp:=za8 M
 by_cases h2:formI M.kind=2
 · rw[h2] at hsh ⊢
   simp only[shapeB,if_true,Bool.or_eq_true,Bool.and_eq_true,decide_eq_true_iff] at hsh
   unfold bodL
   rw[if_neg (by decide),if_pos rfl]
   split
   · rw[za7,hp]
   · rw[za9 _ _ _ (by rw[za7,hp];omega),za7,hp]
 · generalize formI M.kind=f at *
   unfold bodL
   rw[if_neg (c:=f=2) h2]
   (repeat' split)<;> first
     | (rw[za9 _ _ _ (by rw[hp];omega),hp])
     | simp[za7,hp]
end
section
open Go.RowKit Go.Maps
set_option maxRecDepth 100000
set_option maxHeartbeats 8000000
section
theorem zos {w:World} {g:Nat} {t:TypeId} {v0 v1 v2 v3 v4 v5 v6 v7 v8:Value} {l:List Value} (h:Blk w g t (v0 :: v1 :: v2 :: v3 :: v4 :: v5 :: v6 :: v7 :: v8 :: l).toArray):w.cell? ⟨g,0,none⟩=some v0∧w.cell? ⟨g,1,none⟩=some v1∧w.cell? ⟨g,2,none⟩=some v2∧w.cell? ⟨g,3,none⟩=some v3∧w.cell? ⟨g,4,none⟩=some v4∧w.cell? ⟨g,5,none⟩=some v5∧w.cell? ⟨g,6,none⟩=some v6∧w.cell? ⟨g,7,none⟩=some v7∧w.cell? ⟨g,8,none⟩=some v8:=⟨h.cell 0 (by simp),h.cell 1 (by simp),h.cell 2 (by simp),h.cell 3 (by simp),h.cell 4 (by simp),h.cell 5 (by simp),h.cell 6 (by simp),h.cell 7 (by simp),h.cell 8 (by simp)⟩
def SmallL (l:List Frm):Prop:= ∀ f ∈ l,f.data.length≤8
theorem zot:SmallL []:= by intro f hf;cases hf
theorem zou (S:CliS) (l:List Ms):SmallL (cSend S l):= by
 intro f hf
 unfold cSend frmL at hf
 rw[List.mem_map] at hf
 obtain⟨M,hM,rfl⟩:= hf
 rw[List.mem_filter] at hM
 exact Nat.le_of_eq (zor M hM.2)
theorem zov (S:CliS) (ix sub mode:Int) (b:List UInt8):SmallL (cWriteL S ix sub b mode):= by
 unfold cWriteL
 split
 · exact zot
 split
 · exact zou _ _
 split
 · exact zou _ _
 · exact zou _ _
theorem zow (S:CliS) (ix sub mode:Int):SmallL (cReadL S ix sub mode):= by
 unfold cReadL
 split
 · exact zot
 split
 · exact zou _ _
 · exact zou _ _
theorem zox (S:CliS):SmallL (cSegL S):= by
 unfold cSegL
 split
 · exact zot
 · exact zou _ _
theorem zoy (S:CliS) (most:Int):SmallL (cRowsL S most):= by
 unfold cRowsL
 split
 · exact zou _ _
 · exact zou _ _
theorem zoz (S:CliS) (M:Ms):SmallL (cStepL S M):= by
 unfold cStepL
 split
 · exact zox _
 split
 · exact zox _
 split
 · split
   · exact zot
   · exact zou _ _
 split
 · unfold cPcL
   split
   · exact zou _ _
   split
   · exact zou _ _
   · exact zot
 split
 · exact zoy _ _
 split
 · exact zoy _ _
 split
 · exact zou _ _
 split
 · unfold cTkL
   split
   · exact zot
   · exact zou _ _
 split
 · unfold cLsL
   split
   · exact zou _ _
   · exact zou _ _
 · exact zot
theorem zo0 (S:CliS) (f:Frm):SmallL (cRecvL S f):= by
 unfold cRecvL
 split
 · exact zot
 split
 · exact zot
 split
 · exact zou _ _
 · exact zoz _ _
def lightK (L:List Op24):Bool:=(L.take 60).all fun o=>decide (o.f.data.length≤100) && decide (o.b.length≤2000)
theorem zo1 {L:List Op24} (h:lightK L=true) {k:Nat} (hk:k < 60) {o:Op24} (ho:L[k]? =some o):o.f.data.length≤100∧o.b.length≤2000:=by
 unfold lightK at h
 rw[List.all_eq_true] at h
 have hm:o ∈ L.take 60:=by
  rw[List.mem_iff_getElem?]
  exact⟨k,by rw[List.getElem?_take,if_pos hk];exact ho⟩
 have:=h o hm
 simpa using this
theorem zo2 {L:List Op24} {k:Nat} (hk:k < 60) {o:Op24} (ho:L[k]? =some o) (hb: ¬ (o.f.data.length≤100∧o.b.length≤2000)):lightK L=false:=by
 cases h:lightK L
 · rfl
 · exact absurd (zo1 h hk ho) hb
theorem zo3 {L:List Op24} {k:Nat} (h:∀ j o,j < k→L[j]? =some o→o.f.data.length≤100∧o.b.length≤2000) (hk:L.length≤k∨60≤k):lightK L=true:=by
 unfold lightK
 rw[List.all_eq_true]
 intro o ho
 obtain⟨j,hj⟩:= List.mem_iff_getElem?.1 ho
 rw[List.getElem?_take] at hj
 split at hj
 · rename_i h6
   have hl:=(List.getElem?_eq_some_iff.1 hj).1
   have:=h j o (by omega) hj
   simpa using this
 · cases hj
theorem zo4 (A:Option Addr) (n c:Nat) (L:List Op24) (w:World) (hn:n=L.length) (hL:SlK w A L) :
 Calls Try.prog 5 #[.slice A n c] w fun e w'=>e= .returned (.bool (lightK L))∧ w=w':=by
 have HN:=zak hn
 have HL:=zak hL
 clear hn hL
 go_enter Try.func5,Try.ntmps5
 go_wp2_with fail
 go_loop [3] (fun v3=> ∃ k:Nat,v3= .int .i64 (k:Nat)∧ k≤n∧k≤60∧Hid (∀ j o,j < k→L[j]? =some o→o.f.data.length≤100∧o.b.length≤2000)) (fun v3=>60 - (intOf v3).toNat)
 case atStart=>exact⟨0,rfl,Nat.zero_le _,Nat.zero_le _,zak (fun j o h=>by omega)⟩
 case round=>
  obtain⟨k,rfl,hk,hk60,HR⟩:= hrel
  by_cases h60:k < 60
  · by_cases hlt:k < n
    · obtain⟨o,ho⟩:∃ o,L[k]? =some o:=⟨L[k]'(by rw[← HN.out];exact hlt),List.getElem?_eq_getElem _⟩
      obtain⟨b,off,Ab,cb,Af,cf,hA,⟨c0,c1,c2,c3,c4,c5,c6,c7,c8⟩,_,_,_,_⟩:= HL.out k o ho
      subst hA
      have HO:=zak ho
      clear ho c0 c1 c2 c3 c5 c6 c8
      by_cases hf:o.f.data.length≤100
      · have hf': ¬ (100:Int) < (o.f.data.length:Int):= by omega
        by_cases hb:o.b.length≤2000
        · have hb': ¬ (2000:Int) < (o.b.length:Int):= by omega
          have HFB:=zak (And.intro hf hb)
          clear hf hb
          go_wp2_with fail
          go_round
          case rel=>
           refine⟨k+1,by go_num,by omega,by omega,zak (fun j q hj hq=>?_)⟩
           by_cases hjk:j < k
           · exact HR.out j q hjk hq
           · obtain rfl:j=k:=by omega
             rw[HO.out] at hq
             injection hq with hq
             subst hq
             exact HFB.out
          case measure=>simp[intOf];omega
        · have hb':(2000:Int) < (o.b.length:Int):= by omega
          have HF:Hid (lightK L=false):= zak (zo2 h60 HO.out (fun h=>hb h.2))
          clear hb hf
          go_wp2_with fail
          go_ret
          exact⟨by rw[HF.out];rfl,rfl⟩
      · have hf':(100:Int) < (o.f.data.length:Int):= by omega
        have HF:Hid (lightK L=false):= zak (zo2 h60 HO.out (fun h=>hf h.1))
        clear hf
        go_wp2_with fail
        go_ret
        exact⟨by rw[HF.out];rfl,rfl⟩
    · have HF:Hid (lightK L=true):= zak (zo3 HR.out (.inl (by have:=HN.out;omega)))
      go_wp2_with fail
      go_ret
      exact⟨by rw[HF.out];rfl,rfl⟩
  · have HF:Hid (lightK L=true):= zak (zo3 HR.out (.inr (by omega)))
    by_cases hlt:k < n
    · go_wp2_with fail
      go_ret
      exact⟨by rw[HF.out];rfl,rfl⟩
    · go_wp2_with fail
      go_ret
      exact⟨by rw[HF.out];rfl,rfl⟩
end
section
variable {w w':World} {G:Nat→Prop} {p m:Nat} {S:CliS}
theorem zo5 (h:CV_ w G p m S):∃ A n c,w.cell? ⟨p,36,none⟩=some (.slice A n c)∧ n=S.data.length∧Sl w A (S.data.map bv):= by
 obtain⟨R,hB,_,_,_,hn,hd⟩:= h
 refine⟨R.A2,R.n2,R.c2,hB.cell 36 rfl,hn,?_⟩
 by_cases h0:S.data= []
 · rw[h0];exact Sl.nil _ _
 · exact (hd h0).1.sl
theorem zo6 (h:CV_ w G p m S):w.cell? ⟨p,35,none⟩=some (.int .u32 (S.code:Nat)):= by
 obtain⟨R,hB,_⟩:= h
 exact hB.cell 35 rfl
end
def zo7 (A:Option Addr) (n c:Nat) (L:List Frm) (ds:List (Option Addr×Nat)) (FA:Nat→Prop) (w0:World) (k:Nat) (w:World):Prop:=
 Own w 0 34 3 A n c (cellsG frF L ds)∧ (n=L.length∧ds.length=L.length∧zfc ds∧ ∀ d ∈ ds,FIn FA d.1)∧ (∀ j f d,k≤j→L[j]? =some f→ds[j]? =some d→zb7 w 0 d.1 f.data.length d.2 f.data)∧ zcd FA w0 w
section
variable {A:Option Addr} {n c:Nat} {L:List Frm} {ds:List (Option Addr×Nat)} {FA:Nat→Prop} {k:Nat} {w0 w w':World}
theorem zo7.at_ (h:zo7 A n c L ds FA w0 k w) {f:Frm} (hE:L[k]? =some f):∃ g d,A=some ⟨g,0,none⟩∧ g < w.heap.size∧ds[k]? =some d∧w.cell? ⟨g,k * 3+2,none⟩=some (.slice d.1 f.data.length d.2)∧ zb7 w 0 d.1 f.data.length d.2 f.data:=by
 obtain⟨h1,⟨hn,hl,_,_⟩,h3,_⟩:= h
 have hk:=(List.getElem?_eq_some_iff.1 hE).1
 have hd:ds[k]? =some (ds[k]'(by rw[hl];exact hk)):= List.getElem?_eq_getElem _
 obtain⟨b,off,hA,hc⟩:= h1.sl.at_ (zch ze9 L ds k 2 f _ _ hE hd rfl)
 obtain⟨g,hg,_,hlt⟩:= h1.at_ (by omega)
 rw[hg] at hA
 injection hA with hA
 injection hA with hA1 hA2
 subst hA1
 subst hA2
 rw[Nat.zero_add] at hc
 exact⟨_,_,hg,hlt,hd,hc,h3 k f _ (Nat.le_refl _) hE hd⟩
theorem zo7.step (h:zo7 A n c L ds FA w0 k w) {f:Frm} {d:Option Addr×Nat} (hE:L[k]? =some f) (hd:ds[k]? =some d) (hg:w.grownBy w' (Value.ownBlock (.slice d.1 f.data.length d.2))):zo7 A n c L ds FA w0 (k+1) w':=by
 obtain⟨h1,⟨hn,hl,hap,hin⟩,h3,h4⟩:= h
 have hO:=h3 k f d (Nat.le_refl _) hE hd
 refine⟨h1.grown hg (zcf h1 hO.own (by decide)),⟨hn,hl,hap,hin⟩,?_,?_⟩
 · intro j D e hj hD he
   have hO2:=h3 j D e (by omega) hD he
   refine⟨hO2.hn,hO2.own.grown hg (fun g hg2 hb=>?_)⟩
   obtain⟨hk1,e1⟩:= List.getElem?_eq_some_iff.1 hd
   obtain⟨hj1,e2⟩:= List.getElem?_eq_some_iff.1 he
   have:=List.pairwise_iff_getElem.1 hap k j hk1 hj1 (by omega)
   rw[e1,e2] at this
   rcases hO.own.shape with ⟨hx,_⟩ | ⟨g',hx,_,_⟩
   · rw[hx] at hb;simp[Value.ownBlock] at hb
   · rw[hx] at hb
     simp[Value.ownBlock] at hb
     subst hb
     exact this _ hx hg2
 · refine h4.trans (zcd.of_grown (F:=FA) hg (fun g hgg=>?_)) (fun _ _ h=>h)
   rcases hO.own.shape with ⟨hx,_⟩ | ⟨g',hx,_,_⟩
   · rw[hx] at hgg;cases hgg
   · rw[hx] at hgg
     simp[Value.ownBlock] at hgg
     subst hgg
     exact hin d (List.mem_of_getElem? hd) _ hx
theorem zo7.start (h:zfe w FA A n c L ds):zo7 A n c L ds FA w 0 w:=by
 refine⟨h.1.own,⟨h.1.hn,h.1.hd,h.2,?_⟩,fun j E d _ hE hd=>(h.1.data j E d hE hd).1,zcd.refl _ _⟩
 intro d hd g hg
 obtain⟨j,hj,rfl⟩:= List.getElem_of_mem hd
 have hjl:j < L.length:=by rw[← h.1.hd];exact hj
 exact (h.1.data j _ _ (List.getElem?_eq_getElem hjl) (List.getElem?_eq_getElem hj)).2 g hg
end
def RNd (w0:World) (p m p2 k:Nat) (v11 v12:Value) (wx:World):Prop:=
 ∃ As ns cs ds Bs nb cb Lf FA G1 G2 S T,v11= .slice As ns cs∧v12= .slice Bs nb cb∧zfe wx FA As ns cs Lf ds∧nb=Lf.length∧zl0 wx Bs Lf∧KM w0 p m p2 G1 G2 S T wx∧
  (∀ g,FA g→w0.heap.size≤g∧g < wx.heap.size∧g≠p∧g≠m∧g≠p2∧ ¬ G1 g∧ ¬ G2 g)∧ SmallL Lf∧zht S T∧zio S (k+1)∧ zip T (k+1)
theorem zf4.only_ {w:World} {G:Nat→Prop} {p m:Nat} {S:CliS} {L:List Frm} {e:Ending} {w':World} (h:zf4 w G p m S L e w'):zcd (fun q=>q=p∨q=m∨G q) w w':=by
 obtain⟨_,_,_,_,_,_,_,_,_,ho⟩:= h
 exact ho
section
variable {w0 W W1 W2 W3:World} {p m p2 k:Nat} {G1 G2 F:Nat→Prop} {S S':CliS} {T T':RCli} {L L':List Frm} {As Bs:Option Addr} {ns cs nb cb N:Nat} {ds es:List (Option Addr×Nat)}
theorem zo8 (hO:zfe W1 (fun g=>N≤g) As ns cs L ds) (hN:W.heap.size≤N) (hW:KM w0 p m p2 G1 G2 S T W) (hz1:W.heap.size≤W1.heap.size)
 (hO2:zfe W2 (fun g=>W1.heap.size≤g) Bs nb cb L' es) (ho:zcd (fun q=>q=p2) W1 W2) (hk2:KM w0 p m p2 (fun g=>(G1 g∨W.heap.size≤g)∧ g < N∧g < W1.heap.size) (fun g=>G2 g∨(W1.heap.size≤g∧g < W2.heap.size)) S' T' W2)
 (ho3:zcd F W2 W3) (hF:∀ q,F q→q < W2.heap.size→q < W.heap.size∧w0.heap.size≤q∧q≠p∧q≠m∧q≠p2∧ ¬ G1 q∧ ¬ G2 q)
 (hL:L=L') (hs:SmallL L) (ha:zht S' T') (hc:zio S' (k+1)) (hr:zip T' (k+1)):RNd w0 p m p2 k (.slice As ns cs) (.slice Bs nb cb) W3:=by
 subst hL
 have hz:=ho.size
 have hz3:=ho3.size
 have hlt:∀ g,N≤g→g < W1.heap.size→w0.heap.size≤g∧g < W3.heap.size∧g≠p∧g≠m∧g≠p2∧ ¬ ((G1 g∨W.heap.size≤g)∧ g < N∧g < W1.heap.size)∧ ¬ (G2 g∨(W1.heap.size≤g∧g < W2.heap.size)):= by
  intro g h1 h2
  have hb0:=hW.bel.size
  obtain⟨a1,a2,a3⟩:= hW.hi
  refine⟨by omega,by omega,by omega,by omega,by omega,by rintro⟨_,h,_⟩;omega,?_⟩
  rintro (h | h)
  · have:=(hW.l2 g h).2;omega
  · omega
 have hO1:zfe W2 (fun g=>N≤g∧g < W1.heap.size) As ns cs L ds:=⟨(hO.1.mono (G:=fun g=>N≤g∧g < W1.heap.size) (fun g h1 h2=>⟨h2,h1⟩)).keep (fun g hg hl=>ho.block g hl (hlt g hg.1 hg.2).2.2.2.2.1),hO.2⟩
 have hO3:zfe W3 (fun g=>N≤g∧g < W1.heap.size) As ns cs L ds:=⟨hO1.1.keep (fun g hg hl=>ho3.block g hl (fun hf=>by have:=(hF g hf hl).1;have:=hg.1;omega)),hO1.2⟩
 have hO4:zfe W3 (fun g=>W1.heap.size≤g) Bs nb cb L es:=⟨hO2.1.keep (fun g hg hl=>ho3.block g hl (fun hf=>by have:=(hF g hf hl).1;have hg':W1.heap.size≤g:=hg;omega)),hO2.2⟩
 refine⟨As,ns,cs,ds,Bs,nb,cb,L,fun g=>N≤g∧g < W1.heap.size,_,_,S',T',rfl,rfl,hO3,hO4.1.hn,zl1 hO4,hk2.far ho3 (fun q hf hq=>?_),fun g hg=>hlt g hg.1 hg.2,hs,ha,hc,hr⟩
 obtain⟨b1,b2,b3,b4,b5,b6,b7⟩:= hF q hf hq
 refine⟨b2,b3,b4,b5,?_,?_⟩
 · rintro⟨h | h,_⟩
   · exact b6 h
   · omega
 · rintro (h | h)
   · exact b7 h
   · omega
end
end
end Go.Proofs.Ythdbckbpldlkeaa
