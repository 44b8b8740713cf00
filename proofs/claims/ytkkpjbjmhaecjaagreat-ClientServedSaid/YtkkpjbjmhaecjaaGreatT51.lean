/- None -/
import Derived.Test.YtkkpjbjmhaecjaaGreatT50
import Derived.RegionCalls
namespace Go.Proofs.YtkkpjbjmhaecjaaGreat
set_option linter.all false
set_option maxRecDepth 100000
set_option maxHeartbeats 16000000
section
open Go.RowKit Go.Maps
def caseV (A:Option Addr) (n c:Nat) (ix sub:Int) (Ab:Option Addr) (nb cb:Nat) (m0 m1:Nat):Array Value:=#[.slice A n c,.int .i64 ix,.int .i64 sub,.slice Ab nb cb,.int .u8 (m0:Nat),.int .u8 (m1:Nat)]
def BeginR (L:List Ent) (ix sub:Int) (b:List UInt8) (w:World) (e:Ending) (w':World):Prop:=
 (e= .returned (.tuple #[.pointer none,.pointer none,.pointer none,.bool false])∧ Below w.heap.size w w')∨
 ∃pc mc p ps pb pd F G1 G2,e= .returned (.tuple #[.pointer (some ⟨pc,0,none⟩),.pointer (some ⟨p,0,none⟩),.pointer (some ⟨pd,0,none⟩),.bool true])∧ TKM w.heap.size pc mc p ps pb pd L F G1 G2 (cliZ 5) ⟨segZ,blkZ,1541,1413,0⟩ (L.map Ent.df) w'∧Below w.heap.size w w'∧PlcOk ix sub∧b.length≤2000
theorem zzq {L:List Ent}{a:Int}(h:NewP L 0 a):SortedE L:=by
 rcases h with ⟨_,h,_⟩ | ⟨_,h,_⟩ | ⟨_,_,_,h⟩
 · omega
 · exact absurd rfl h
 · exact zb8 _ L rfl h
theorem zzr {L:List Ent}{a:Int}(h:NewP L 0 a):∀E ∈ L,rightE E=0:=by
 rcases h with ⟨_,h,_⟩ | ⟨_,h,_⟩ | ⟨_,_,_,h⟩
 · omega
 · exact absurd rfl h
 · intro E hE;obtain⟨k,hk,rfl⟩:=List.getElem_of_mem hE;exact zb7 (List.getElem?_eq_getElem hk) (h k hk)
theorem zzs {w3 w4:World}{pc mc p ps pb pd:Nat}{L:List Ent}{F:Nat→Prop}{X:SdoS}{V:List (List UInt8)}{N:Nat}(hK:SKM N p ps pb pd L F (fun _=>False) V X w3)(hC:CV_ w4 (fun _=>False) pc mc (cliZ 5))(hb:Below w3.heap.size w3 w4)(h1:w3.heap.size≤pc)(h2:w3.heap.size≤mc)(hN:N≤w3.heap.size):TKM N pc mc p ps pb pd L F (fun _=>False) (fun _=>False) (cliZ 5) X V w4:=by
 have hlt:=hK.dv.lt;have hz:=hb.size;have hc:pc < w4.heap.size∧mc < w4.heap.size:=by
  obtain⟨R,hB,hm,_⟩:=hC;exact⟨hB.lt,hm.lt⟩
 exact {
  sk:=hK.step hb
  cv:=hC
  clo:=⟨by omega,by omega⟩
  chi:=hc
  g1:=fun g hg=>hg.elim
  np:=⟨by omega,by omega,by omega,fun hf=>by have:=(hK.lF pc hf).2;omega,id⟩
  nm:=⟨by omega,by omega,by omega,fun hf=>by have:=(hK.lF mc hf).2;omega,id⟩ }
theorem zzt (A:Option Addr)(n c:Nat)(L:List Ent)(ix sub:Int)(Ab:Option Addr)(cb:Nat)(b:List UInt8)(m0 m1:Nat)(w:World)(hn:n=L.length)(hL:SlE w A L) :
 Calls Tryz.prog 26 #[.agg (caseV A n c ix sub Ab b.length cb m0 m1)] w (BeginR L ix sub b w):=by
 unfold caseV;have HN:=zak hn;have HL:=zak hL;obtain⟨nb,hnb⟩:∃nb,nb=b.length:=⟨_,rfl⟩;rw[←hnb];have HNB:=zak hnb;have q:=zdg w 75 #[.slice A n c,.int .i64 ix,.int .i64 sub,.slice Ab nb cb,.int .u8 (m0:Nat),.int .u8 (m1:Nat)];have HB:=zak (zc5 (Below.refl w.heap.size w) (.cells #[.slice A n c,.int .i64 ix,.int .i64 sub,.slice Ab nb cb,.int .u8 (m0:Nat),.int .u8 (m1:Nat)] 75));have HL1:=zak (hL.below (zc5 (Below.refl w.heap.size w) (.cells #[.slice A n c,.int .i64 ix,.int .i64 sub,.slice Ab nb cb,.int .u8 (m0:Nat),.int .u8 (m1:Nat)] 75)));have HQ:=zak q;cases hli:lightL L
 · have HLI:=zak hli;clear hn hL hli hnb;obtain⟨cI,cJ,cK,cS,de,dg⟩:=zda q;have ei:=q.frozen;go_enter Tryz.func26,Tryz.ntmps26
   go_wp2_with fail
   refine (zva A n c L _ HN.out HL1.out).mono ?_;rintro e w1 ⟨rfl,hw1⟩;subst hw1;rw[HLI.out];go_wp2_with fail
   refine bodyPost_ret (v:= .tuple #[.pointer none,.pointer none,.pointer none,.bool false]) (by simp[results,Tryz.results26,go_sem]) rfl ?_;exact .inl ⟨rfl,HB.out⟩
 have HLI:=zak hli;have HFT:=zak (zu8 hli);have HLL:Hid (L.length≤1000):=zak (by have:=zu9 hli;omega);clear hn hL hli hnb;by_cases hbad:2000 < nb∨ix < 0∨65535 < ix∨sub < 0∨255 < sub
 · skip
   obtain⟨cI,cJ,cK,cS,de,dg⟩:=zda q;have ei:=q.frozen;go_enter Tryz.func26,Tryz.ntmps26
   go_wp2_with fail
   refine (zva A n c L _ HN.out HL1.out).mono ?_;rintro e w1 ⟨rfl,hw1⟩;subst hw1;rw[HLI.out];by_cases h1:2000 < nb
   · go_wp2_with fail
     refine bodyPost_ret (v:= .tuple #[.pointer none,.pointer none,.pointer none,.bool false]) (by simp[results,Tryz.results26,go_sem]) rfl ?_;exact .inl ⟨rfl,HB.out⟩
   by_cases h2:ix < 0
   · go_wp2_with fail
     refine bodyPost_ret (v:= .tuple #[.pointer none,.pointer none,.pointer none,.bool false]) (by simp[results,Tryz.results26,go_sem]) rfl ?_;exact .inl ⟨rfl,HB.out⟩
   by_cases h3:65535 < ix
   · go_wp2_with fail
     refine bodyPost_ret (v:= .tuple #[.pointer none,.pointer none,.pointer none,.bool false]) (by simp[results,Tryz.results26,go_sem]) rfl ?_;exact .inl ⟨rfl,HB.out⟩
   by_cases h4:sub < 0
   · go_wp2_with fail
     refine bodyPost_ret (v:= .tuple #[.pointer none,.pointer none,.pointer none,.bool false]) (by simp[results,Tryz.results26,go_sem]) rfl ?_;exact .inl ⟨rfl,HB.out⟩
   have h5:255 < sub:=by omega
   go_wp2_with fail
   refine bodyPost_ret (v:= .tuple #[.pointer none,.pointer none,.pointer none,.bool false]) (by simp[results,Tryz.results26,go_sem]) rfl ?_;exact .inl ⟨rfl,HB.out⟩
 have h1: ¬ 2000 < nb:=fun h=>hbad (.inl h)
 have h2: ¬ix < 0:=fun h=>hbad (.inr (.inl h))
 have h3: ¬ 65535 < ix:=fun h=>hbad (.inr (.inr (.inl h)))
 have h4: ¬sub < 0:=fun h=>hbad (.inr (.inr (.inr (.inl h))))
 have h5: ¬ 255 < sub:=fun h=>hbad (.inr (.inr (.inr (.inr h))))
 have HP:Hid (PlcOk ix sub):=zak ⟨⟨by omega,by omega⟩,by omega,by omega⟩;have HB2:Hid (b.length≤2000):=zak (by rw[←HNB.out];omega);clear hbad;obtain⟨cI,cJ,cK,cS,de,dg⟩:=zda q;have ei:=q.frozen;go_enter Tryz.func26,Tryz.ntmps26
 go_wp2_with fail
 refine (zva A n c L _ HN.out HL1.out).mono ?_;rintro e w1 ⟨rfl,hw1⟩;subst hw1;rw[HLI.out];go_wp2_with fail
 refine (zvo A n c L _ HN.out HL1.out HFT.out).mono ?_;rintro e w2 ⟨v,er,at_,rfl,hnp,g2,g3,hb2⟩;have HBB2:=zak (zc4 hb2 HB.out);by_cases her:er=0
 · subst her;obtain⟨pd,gl,n',cl,Av,cv,ds,es,rfl,hn',hD⟩:=g3 rfl;have HS:Hid (SortedE L):=zak (zzq hnp);have HVP:Hid (ValsP L (L.map Ent.df)):=zak (zvc (zzr hnp));have HD:=zak (hD.mono (G:=fun g=>w.heap.size≤g) (fun g _ h=>Nat.le_trans HB.out.size h));have HN':=zak hn';clear cI cJ cK cS de dg ei;clear g2 g3 hnp hb2 hD hn' h1 h2 h3 h4 h5 q;go_wp2_with fail
   refine (zvn (N:=w.heap.size) HN'.out HD.out HS.out HLL.out HVP.out 5 ⟨by omega,by omega⟩ HBB2.out.size).mono ?_;rintro e w3 ⟨p,ps,pb,rfl,hK,hb3⟩;have HK3:=zak hK;have HB3:=zak (zc4 hb3 HBB2.out);clear hK hb3 HD HBB2 HN';go_wp2_with fail
   refine (zx2 5 _ ⟨by omega,by omega⟩).mono ?_;rintro e w4 ⟨pc,mc,rfl,hC4,hb4,hp4,hm4⟩;have HT:=zak (zzs HK3.out hC4 hb4 hp4 hm4 HB3.out.size);have HB4:=zak (zc4 hb4 HB3.out);clear hC4 hb4 hp4 hm4 HK3 HB3;go_wp2_with fail
   refine bodyPost_ret (v:= .tuple #[.pointer (some ⟨pc,0,none⟩),.pointer (some ⟨p,0,none⟩),.pointer (some ⟨pd,0,none⟩),.bool true]) (by simp[results,Tryz.results26,go_sem]) rfl ?_;exact .inr ⟨pc,mc,p,ps,pb,pd,_,_,_,rfl,HT.out,HB4.out,HP.out,HB2.out⟩
 · have d0:(er != 0)=true:=by simp[her]
   clear her g2 g3 hnp hb2;clear cI cJ cK cS de dg ei;clear h1 h2 h3 h4 h5 q;go_wp2_with fail
   refine bodyPost_ret (v:= .tuple #[.pointer none,.pointer none,.pointer none,.bool false]) (by simp[results,Tryz.results26,go_sem]) rfl ?_;exact .inl ⟨rfl,HBB2.out⟩
end
section
open Go.RowKit Go.Maps
def k24a:CliS:=⟨5,12,4119,0,[30,0],3,0,false,false,false,0,0,[]⟩
def k24b:CliS:=⟨5,0,4119,0,[30,0],3,0,false,false,false,0,0,[]⟩
theorem k24_1:cWriteS (cliZ 5) 4119 0 [30,0] 0=k24a:=by kernel_rfl
theorem k24_2:cWriteL (cliZ 5) 4119 0 [30,0] 0= [⟨1541,false,[43,23,16,0,30,0,0,0]⟩]:=by kernel_rfl
theorem k24_3:cRecvS k24a ⟨1413,false,[96,23,16,0,0,0,0,0]⟩=k24b:=by kernel_rfl
theorem k24_4:cRecvL k24a ⟨1413,false,[96,23,16,0,0,0,0,0]⟩= []:=by kernel_rfl
theorem k24_5:(resM (cKs k24a [96,23,16,0,0,0,0,0]) [96,23,16,0,0,0,0,0]).kind=12:=by kernel_rfl
theorem zzu {w w':World}{A:Option Addr}{xs:List Value}(h:Sl w A xs)(hk:∀ad,A=some ad→w'.heap[ad.block]? =w.heap[ad.block]?):Sl w' A xs:=by
 intro j u hu;obtain⟨ad,rfl,hc⟩:=h j u hu;refine⟨ad,rfl,?_⟩;rw[←hc];unfold World.cell?;rw[show (ad.add j).block=ad.block by unfold Addr.add;split<;>rfl,hk ad rfl]
theorem zzv {w:World}{F:Nat→Prop}{A:Option Addr}{n c:Nat}{f:Frm}{ds:List (Option Addr×Nat)}(h:zg3 w F A n c [f] ds):∃g A' c',A=some ⟨g,0,none⟩∧ n=1∧Sl w (some ⟨g,0,none⟩) [.int .i64 f.id,.bool f.re,.slice A' f.data.length c']∧ zdv w 0 A' f.data.length c' f.data:=by
 obtain⟨d,hd,hO,_⟩:=h.1.elem (j:=0) (v:=f) rfl;obtain⟨g,hA,_,hc⟩:=h.1.cells zgz (j:=0) (v:=f) rfl hd (by omega);refine⟨g,d.1,d.2,hA,h.1.hn,?_,hO⟩;intro j u hu;refine⟨_,rfl,?_⟩
 have:=hc j u hu
 simp only[Nat.zero_mul,Nat.zero_add] at this;by_cases hj:j=0
 · subst hj
   simpa [Addr.add] using this
 · simpa [Addr.add,hj] using this
theorem zzw (w:World):Calls Tryz.prog 27 #[] w (TrueB w):=by
 go_enter Tryz.func27,Tryz.ntmps27
 go_wp2_with fail
 refine (zx2 5 _ ⟨by omega,by omega⟩).mono ?_;rintro e w1 ⟨p,m,rfl,hS1,hb1,hp1,hm1⟩;have HS1:=zak hS1;have HB1:=zak hb1;have hpl:p < w1.heap.size:=by obtain⟨R,hB,_⟩:=hS1;exact hB.lt
 have hml:m < w1.heap.size:=by obtain⟨R,_,hm,_⟩:=hS1;exact hm.lt
 have hq1:=zak (Blk.new w1 5 #[.int .u8 30,.int .u8 0]);have HS2:Hid (CV_ (w1.alloc (.cells #[.int .u8 30,.int .u8 0] 5)) (fun _=>False) p m (cliZ 5)):=zak (hS1.keep (fun q _ hq=>(zc5 (Below.refl _ w1) (.cells #[.int .u8 30,.int .u8 0] 5)).block q hq) (fun _ _ h=>h));have HB2:=zak (zc5 hb1 (.cells #[.int .u8 30,.int .u8 0] 5));have hz2:(w1.alloc (.cells #[.int .u8 30,.int .u8 0] 5)).heap.size=w1.heap.size+1:=by simp
 clear hS1 hb1;go_wp2_with fail
 refine (zx5 (cliZ 5) 4119 0 [30,0] (some ⟨w1.heap.size,0,none⟩) 2 2 _ HS2.out ⟨by decide,by decide⟩ rfl ⟨by decide,by decide⟩ (by decide) (fun W' ho=>zzu hq1.out.sl (fun ad e=>by injection e with e;subst e;exact ho.block _ (by rw[hz2];exact Nat.lt_succ_self _) (by rintro (h | h | h);exact absurd h (by simp only;omega);exact absurd h (by simp only;omega);exact h)))).mono ?_;rintro e w3 ⟨N3,As3,ns3,cs3,ds3,rfl,hO3,hN3,hS3,ho3⟩;rw[k24_1] at hS3;rw[k24_2] at hO3;obtain⟨R3,hC3,_,_⟩:=hS3.cm;have HB3:=zak (zd1 ho3 HB2.out (fun i h=>by rcases h with h | h | h;omega;omega;exact h.elim));have z3:w1.heap.size+1≤w3.heap.size:=by have:=ho3.size;omega
 have HC3:=zak hC3;have HS3:=zak hS3;have HO3:=zak hO3;have HN3:Hid (w1.heap.size+1≤N3):=zak (by omega);clear HS1 HB1 HS2 HB2 hq1 hO3 hS3 ho3 hC3 hN3;go_wp2_with fail
 refine (zeo _ HC3.out rfl).mono ?_;rintro e w4 ⟨rfl,hw4⟩;subst hw4;rw[show decide (k24a.wk≠0)=true from rfl];go_wp2_with fail
 refine (zwa _).mono ?_;rintro e w5 ⟨A5,n5,c5,rfl,hO5,hb5⟩;have hn5:n5=8:=hO5.hn;subst hn5;have hb6:=zc5 hb5 (.cells (frV 1413 false A5 8 c5) 69);have HS6:=zak (HS3.out.keep (fun q _ hq=>hb6.block q hq) (fun _ _ h=>h));have HO6:=zak (hO5.alloc (.cells (frV 1413 false A5 8 c5) 69));have HF6:=zak (HO3.out.below hb6);have HB6:=zak (zc4 hb6 HB3.out);have q6:=zdg w5 69 (frV 1413 false A5 8 c5);have z6:=hb6.size;clear hO5 hb5 hb6 HC3 HS3 HO3 HB3;unfold frV at q6 HS6 HO6 HF6 HB6;unfold frV;obtain⟨fA,fB,fC⟩:=zc8 q6;have i8:=q6.frozen;go_wp2_with fail
 refine (zw8 (G:=_) k24a ⟨1413,false,[96,23,16,0,0,0,0,0]⟩ A5 8 c5 _ HS6.out ⟨by decide,by decide⟩ (by decide) rfl HO6.out.le HO6.out.sl (by decide) (by decide) rfl rfl (fun he hk hf W R ks rs A n c h hE hb hn2 hM=>zw0 k24a R _ A n c W h ⟨by decide,by decide⟩ hE hb hn2 rfl (by decide) (by decide) k24_5)).mono ?_;rintro e w7 ⟨N7,As7,ns7,cs7,ds7,rfl,hO7,hN7,hS7,ho7⟩;rw[k24_3] at hS7;rw[k24_4] at hO7;obtain rfl:ns7=0:=hO7.1.hn;have hF7:zg3 w7 _ _ _ _ _ _:=⟨HF6.out.1.keep (w':=w7) (fun g hg hlt=>ho7.block g hlt (by have:=HN3.out;rintro (h | h | h);omega;omega;exact absurd h.2 (by omega))),HF6.out.2⟩
 have HB7:=zak (zd1 ho7 HB6.out (fun i h=>by rcases h with h | h | h;omega;omega;have:=h.1;rcases this with h | h;exact h.elim;omega));obtain⟨g8,A8,c8,rfl,rfl,hB8,hO8⟩:=zzv hF7;obtain⟨R7,hC7,_,_⟩:=hS7.cm;have HC7:=zak hC7;have HB8:=zak hB8;have HO8:=zak hO8;clear hO7 hS7 ho7 hF7 hC7 hB8 hO8 HF6 HS6 HO6 HB6 q6;clear fA fB fC i8;go_wp2_with fail
 refine (zv6 g8 cs3 A8 8 c8 [43,23,16,0,30,0,0,0] _ HB8.out rfl (by omega) HO8.out.sl).mono ?_;rintro e w9 ⟨rfl,hb9⟩;rw[show strL (54 :: 48 :: 53 :: 35 :: (hexL [43,23,16,0,30,0,0,0] ++ [10]))=⟨#[54,48,53,35,50,98,49,55,49,48,48,48,49,101,48,48,48,48,48,48,10]⟩ by decide];have HC9:=zak (HC7.out.step hb9);have HB9:=zak (zc4 hb9 HB7.out);clear hb9 HC7 HB7 HB8 HO8;go_wp2_with fail
 refine (zx3 0 _ (by omega)).mono ?_;rintro e w10 ⟨rfl,hb10⟩;have HC10:=zak (HC9.out.step hb10);have HB10:=zak (zc4 hb10 HB9.out);have c35:w10.cell? ⟨p,35,none⟩=some (.int .u32 (0:Nat)):=HC10.out.blk.cell 35 rfl;clear hb10 HC9 HB9;go_wp2_with fail
 refine (zeo _ HC10.out rfl).mono ?_;rintro e w11 ⟨rfl,hw11⟩;subst hw11;rw[show decide (k24b.wk≠0)=false from rfl];go_wp2_with fail
 refine (zep 0 _ c35).mono ?_;rintro e w11 ⟨rfl,hw11⟩;subst hw11;go_wp2_with fail
 go_ret
 exact (⟨rfl,HB10.out⟩:TrueB w _ _)
end
section
open Go.RowKit Go.Maps
def CdR (N pc mc p ps pb pd:Nat) (L:List Ent) (w wx:World):Prop:= ∃C X V,TS N pc mc p ps pb pd L C X V wx∧zzn C X∧Below N w wx
theorem zzx (A:Option Addr)(n c:Nat)(L:List Ent)(ix sub:Int)(Ab:Option Addr)(cb:Nat)(b:List UInt8)(m0 m1:Nat)(w:World)(hn:n=L.length)(hL:SlE w A L)(hcb:b.length≤cb)(hsb:Sl w Ab (b.map bv))(h1:m1≤255) :
 Calls Tryz.prog 5 #[.agg #[.slice A n c,.int .i64 ix,.int .i64 sub,.slice Ab b.length cb,.int .u8 (m0:Nat),.int .u8 (m1:Nat)]] w (TrueB w):=by
 have hB:=zc5 (Below.refl w.heap.size w) (.cells #[.slice A n c,.int .i64 ix,.int .i64 sub,.slice Ab b.length cb,.int .u8 (m0:Nat),.int .u8 (m1:Nat)] 75);have hbg:=zzt A n c L ix sub Ab cb b m0 m1 _ hn (hL.below hB);have HSB:=zak (fun W (h:Below w.heap.size w W)=> hsb.below h);have hq:=zdg w 75 #[.slice A n c,.int .i64 ix,.int .i64 sub,.slice Ab b.length cb,.int .u8 (m0:Nat),.int .u8 (m1:Nat)];unfold caseV at hbg;obtain⟨nb,hnb⟩:∃nb,nb=b.length:=⟨_,rfl⟩;rw[←hnb] at hbg hB hq hcb ⊢;obtain⟨wb,hwb⟩:∃wb,wb=w.alloc (.cells #[.slice A n c,.int .i64 ix,.int .i64 sub,.slice Ab nb cb,.int .u8 (m0:Nat),.int .u8 (m1:Nat)] 75):=⟨_,rfl⟩
 rw[←hwb] at hbg hB hq;have hz0:=hq.lt;have HZ0:=zak hz0;have HNB:=zak hnb;have HB:=zak hB;have HBG:=zak hbg;have HWB:=zak hwb;have HQ:=zak hq;have HM:=zak (zzp m1);clear hn hL hsb hnb hB hbg hz0;rw[hwb] at hq;clear hwb;obtain⟨eK,eL,eM,eN,eP,eQ⟩:=zda hq;have iF:=hq.frozen;go_enter Tryz.func5,Tryz.ntmps5
 go_wp2_with fail
 rw[←HWB.out];refine HBG.out.mono ?_;rintro e w2 (⟨rfl,hb2⟩ | ⟨pc,mc,p,ps,pb,pd,F,G1,G2,rfl,hk,hb2,hp,hbl⟩)
 · have HB2:=zak (zc4 hb2 HB.out);clear eK eL eM eN eP eQ iF;clear hb2 hq;go_wp2_with fail
   refine (zzw _).mono ?_;rintro e w3 ⟨rfl,hb3⟩;go_wp2_with fail
   go_ret
   exact (⟨rfl,zc4 hb3 HB2.out⟩:TrueB w _ _)
 · have HT2:Hid (TS wb.heap.size pc mc p ps pb pd L (cliZ 5) ⟨segZ,blkZ,1541,1413,0⟩ (L.map Ent.df) w2):=zak ⟨F,G1,G2,hk⟩;have HB2:=zak hb2;have HP:=zak hp;have HBL:=zak hbl;have q2:=HQ.out.below hb2 HZ0.out;clear eK eL eM eN eP eQ iF;clear hk hb2 hp hbl hq;obtain⟨di,dj,dm,dY,dZ,ea⟩:=zda q2;have el:=q2.frozen;go_wp2_with fail
   obtain⟨F2,G2,hs2⟩:=HT2.out.sk;refine (zvm hs2 ix sub Ab nb cb b HNB.out hcb (by have:=HBL.out;have:=HNB.out;omega) (HSB.out _ (zc4 HB2.out HB.out))).mono ?_;rintro e w3 ⟨rfl,hb3⟩;obtain⟨code,hcode,hcl⟩:=zwj (L:=L) (ix:=ix) (sub:=sub) (b:=b);rw[hcode];have HCO:=zak hcode;have HT3:=zak (HT2.out.step hb3);have HB3:=zak (zc4 hb3 HB2.out);have q3:=q2.below hb3 q2.lt;have HQ3:=zak q3;clear di dj dm dY dZ ea el;clear hs2 hb3 hcode HT2 HB2 q2;have HZ3:Hid (wb.heap.size≤w3.heap.size):=zak HB3.out.size;obtain⟨bq,hbq⟩:∃bq,bq=decide (1≤nb∧nb≤4):=⟨_,rfl⟩;have HBQ:=zak hbq;clear hbq;go_upto_region 7 with fail
   go_cut [47] (fun v47 wx=>v47= .bool bq∧wx=w3)
   case first=>
    obtain⟨eb,ed,ee,ef,eg,eh⟩:=zda q3;have fy:=q3.frozen;by_cases ha:1≤nb
    · by_cases hb:nb≤4
      · go_wp2_with fail
        go_meet
        exact⟨by rw[HBQ.out];simp[ha];omega,rfl⟩
      · go_wp2_with fail
        go_meet
        exact⟨by rw[HBQ.out];simp[ha];omega,rfl⟩
    · go_wp2_with fail
      go_meet
      exact⟨by rw[HBQ.out];simp[ha],rfl⟩
   case rest=>
    obtain⟨rfl,hwx⟩:=hcut;have hwx:=hwx.symm;subst hwx;go_upto_if 47 with fail
    go_cut [] (fun wx=>Hid (CdR wb.heap.size pc mc p ps pb pd L wb wx))
    case first=>
     rcases Bool.eq_false_or_eq_true bq with hb | hb
     · subst hb;have HSH:Hid (1≤nb∧nb≤4):=zak (of_decide_eq_true HBQ.out.symm);obtain⟨eb,ed,ee,ef,eg,eh⟩:=zda q3;have fy:=q3.frozen;go_wp2_with fail
       refine (zze HT3.out.tu ⟨by decide,by decide⟩ ix sub 0 b Ab nb cb HNB.out HBL.out (fun W h=>HSB.out W (zc4 (HB3.out.trans (zzh h HZ3.out)) HB.out)) HZ3.out (fun g h=>Nat.le_trans HZ3.out h)).mono ?_;rintro e w4 ⟨As,ns,cs,rfl,hT4,hb4⟩;have hb4:=zzh hb4 HZ3.out;have HT4:=zak hT4;have HB4:=zak hb4;have hz4:wb.heap.size≤w4.heap.size:=Nat.le_trans HZ3.out hb4.size;have HZ4:=zak hz4;clear eb ed ee ef eg eh fy;clear hT4 hb4 hz4 q3;go_wp2_with fail
       refine (zzg HT4.out (zzb HP.out HBL.out ⟨by decide,by decide⟩) (zy9 _ _ _ _ _) HZ4.out).mono ?_;rintro e w5 ⟨rfl,hT5,hb5⟩;have hen:=zy1 (C:=cliZ 5) (X:=⟨segZ,blkZ,1541,1413,0⟩) (L:=L) (V:=L.map Ent.df) HP.out (b:=b) (by have:=HSH.out;have:=HNB.out;omega) rfl ⟨rfl,rfl⟩ rfl rfl;obtain⟨T,hTq⟩:∃T,T=tkRn L 600 ⟨cWriteS (cliZ 5) ix sub b 0,⟨segZ,blkZ,1541,1413,0⟩,L.map Ent.df,cWriteL (cliZ 5) ix sub b 0⟩:=⟨_,rfl⟩;rw[←hTq] at hen hT5;have HEN:=zak hen;have HT5:=zak hT5;have HB5:=zak (HB3.out.trans (HB4.out.trans (zzh hb5 HZ4.out)));obtain⟨G5,hc5⟩:=hT5.cv;have hc35:=zy4 hc5;rw[hen.2,HCO.out,Int.toNat_natCast] at hc35
       clear hen hT5 hb5 hc5 hTq;go_wp2_with fail
       refine (zep code _ hc35).mono ?_;rintro e w6 ⟨rfl,hw6⟩;subst hw6;have HR:Hid (CdR wb.heap.size pc mc p ps pb pd L wb w5):=zak ⟨T.C,T.X,T.V,HT5.out,HEN.out.1.idle,HB5.out⟩;go_wp2_with fail
       go_meet
       exact HR
     · subst hb;have HR:Hid (CdR wb.heap.size pc mc p ps pb pd L wb w3):=zak ⟨_,_,_,HT3.out,zzk,HB3.out⟩;go_wp2_with fail
       go_meet
       exact HR
    case rest=>
     obtain⟨C,X,V,hT6,hI6,hb6⟩:=hcut.out;have HT6:=zak hT6;have HI6:=zak hI6;have HB6:=zak (hb6.trans (Below.refl _ _));have q6:=HQ.out.below (B:=wb.heap.size) hb6 HZ0.out;have HQ6:=zak q6;clear hcut hT6 hI6 hb6 q3 HT3 HB3 HQ3 HZ3 hcl;obtain⟨fA,fB,fC,i9,ja,jb⟩:=zda q6;have i8:=q6.frozen;go_wp2_with fail
     obtain⟨F6,G6,hs6⟩:=HT6.out.sk;have HGL:Hid ((getB L V ix sub).length≤256):=zak (zzo hs6.hv);refine (zvl hs6 ix sub).mono ?_;rintro e w7 ⟨A7,n7,c7,b7,rfl,hO7,hb7e,hb7⟩;obtain⟨kg,hkg⟩:=Int.eq_ofNat_of_zero_le (zsw L ix sub);rw[hkg];have HKG:=zak hkg;have HE7:Hid (b7=getB L V ix sub):=zak hb7e;have HT7:=zak (HT6.out.tu_step hb7);have HB7:=zak (HB6.out.trans (hb7.mono HB6.out.size));have HO7:=zak (And.intro hO7 (fun g hg=>(hO7.own.fin g hg).2));have hz6:=hb7.size;have HZ6:=zak hz6;have HZ7:Hid (wb.heap.size≤w7.heap.size):=zak HB7.out.size;have q7:=q6.below hb7 q6.lt;clear fA fB fC i9 ja jb i8
     clear hz6 hs6 hkg hb7e hb7 hO7 HT6 HB6 q6 HQ6;obtain⟨jc,jd,je,jf,jg,jh⟩:=zda q7;have kv:=q7.frozen;go_wp2_with fail
     refine (zzf HT7.out HI6.out.w ix sub ((m1:Int) % 3) HZ7.out (fun g h=>⟨Nat.le_trans HZ7.out h,.inr h⟩)).mono ?_;rintro e w8 ⟨As,ns,cs,rfl,hT8,hb8⟩;have HT8:=zak hT8;have HB8:=zak (HB7.out.trans (zzi hb8 HZ7.out));have hz8:wb.heap.size≤w8.heap.size:=Nat.le_trans HZ7.out hb8.size;have HZ8:=zak hz8;have HO8:=zak (zzj HO7.out.1 HO7.out.2 hb8);clear jc jd je jf jg jh kv;clear hT8 hb8 hz8 q7 HT7 HB7;go_wp2_with fail
     refine (zzg HT8.out (zzc HP.out HM.out) (zza _ _ _ _) HZ8.out).mono ?_;rintro e w9 ⟨rfl,hT9,hb9⟩;have hen:=zy3 (L:=L) (V:=V) (X:=X) (C:=C) HP.out HGL.out HM.out HI6.out.nd ⟨HI6.out.nin,HI6.out.nout⟩ HI6.out.sg HI6.out.bk;obtain⟨T,hTq⟩:∃T,T=tkRn L 600 ⟨cReadS C ix sub ((m1:Int) % 3),X,V,cReadL C ix sub ((m1:Int) % 3)⟩:=⟨_,rfl⟩;rw[←hTq] at hen hT9;have HEN:=zak hen;have HB9:=zak (HB8.out.trans (zzi hb9 HZ8.out));have HO9:=zak (zzj HO8.out HO7.out.2 hb9);obtain⟨G9,hc9⟩:=hT9.cv;have HC9:=zak hc9;clear hT9 hb9 hTq HT8 HB8 HO8;obtain⟨R9,hm9,_,_⟩:=hc9.cm;rw[hen.wk] at hm9;have HM9:=zak hm9;clear hm9 hc9 hen
     have HWK:Hid (T.C.wk=0):=zak HEN.out.wk;have HKC:Hid (T.C.code=kg):=zak (by rw[HEN.out.code,HKG.out];rfl);have HDT:Hid (T.C.data=b7):=zak (by rw[HEN.out.data,HE7.out]);have hs2:=fun (W:World) (h:Below w9.heap.size w9 W)=> zdx (w:=W) c7 HO9.out.hn (HO9.out.sl.below h)
     obtain⟨Ad,nd',cd,hcd,hnd,hsd⟩:=zy5 HC9.out;rw[HDT.out] at hnd hsd;have hc35:=zy4 HC9.out;rw[HKC.out] at hc35;have HCD:=zak hcd;have HC35:=zak hc35;have HND:=zak hnd;have HSD:=zak hsd;have hbn:nd'≤1000000:=by
      have h1:=HND.out;have h2:=HE7.out;have h3:=HGL.out;rw[←h2] at h3;omega
     have HBN:=zak hbn;clear hcd hnd hsd hc35 hbn HEN HE7 HO9 HKG HGL;go_upto_region 13 with fail
     refine wp_region_held_drew (S:=(fun w'=>(∀qA:Addr,qA.block < (w9).heap.size→w'.cell? qA=(w9).cell? qA)∧ Below (w9).heap.size (w9) w')) (by kernel_rfl) ?hS1 (fun hHeld=>?rest1)
     case hS1=>exact kSn
     case' rest1=>skip
     refine tkH 0 ?_;try simp only[PqL,Act.put]
     refine kRd 1 (fun K hK=>?_)
     go_simp
     obtain⟨R10,hm10,_,_⟩:=(HC9.out.keep (w':=w9.drew) (fun _ _ _=>rfl) (fun _ _ h=>h)).cm;rw[HWK.out] at hm10;refine (zeo _ hm10 rfl).mono ?_;rintro e w10 ⟨rfl,hw10⟩;subst hw10;rw[show decide ((0:Int)≠ 0)=false from rfl];refine hK.out _ _ ?hS5 (fun hHeld=>?rest5)
     case hS5=>exact kSn
     case' rest5=>(clear hK K;try simp only[PqL,Act.put])
     refine tkH 2 ?_;try simp only[PqL,Act.put]
     refine tkH 3 ?_;try simp only[PqL,Act.put]
     refine tkH 4 ?_;try simp only[PqL,Act.put]
     refine tkH 6 ?_;try simp only[PqL,Act.put]
     refine kRd 5 (fun K hK=>?_)
     go_simp
     refine (zep kg _ (show w9.drew.cell? _=_ from HC35.out)).mono ?_;rintro e w10 ⟨rfl,hw10⟩;subst hw10;refine hK.out _ _ ?hS12 (fun hHeld=>?rest12)
     case hS12=>exact kSn
     case' rest12=>(clear hK K;try simp only[PqL,Act.put])
     refine tkH 7 ?_;try simp only[PqL,Act.put]
     refine tkH 8 ?_;try simp only[PqL,Act.put]
     refine tkH 9 ?_;try simp only[PqL,Act.put]
     refine tkH 10 ?_;try simp only[PqL,Act.put]
     refine tkH 13 ?_;try simp only[PqL,Act.put]
     refine tkH 14 ?_;try simp only[PqL,Act.put]
     refine kRd 11 (fun K hK=>?_)
     go_simp
     refine (zeq Ad nd' cd b7 _ (show w9.drew.cell? _=_ from HCD.out) HND.out HBN.out (show Sl w9.drew Ad (b7.map bv) from HSD.out.below (Below.drew (Below.refl _ _)))).mono ?_;rintro e w10 ⟨A10,c10,rfl,hO10,hb10⟩;have hs1:=zdx (w:=w10) c10 hO10.hn hO10.sl;replace hb10:Below w9.heap.size w9 w10:=⟨hb10.os,hb10.tape,hb10.output,hb10.size,hb10.block⟩;clear hO10;refine hK.out _ _ ?hS21 (fun hHeld=>?rest21)
     case hS21=>exact kSn
     case' rest21=>(clear hK K;try simp only[PqL,Act.put])
     refine kRd 12 (fun K hK=>?_)
     go_simp
     refine hK.out _ _ ?hS24 (fun hHeld=>?rest24)
     case hS24=>exact kSn
     case' rest24=>(clear hK K;try simp only[PqL,Act.put])
     refine tkH 15 ?_;try simp only[PqL,Act.put]
     refine tkH 16 ?_;try simp only[PqL,Act.put]
     refine tkH 17 ?_;try simp only[PqL,Act.put]
     refine kRd 18 (fun K hK=>?_)
     go_simp
     refine (zzw _).mono ?_;rintro e w11 ⟨rfl,hb11⟩;have hb11:Below w9.heap.size w9 w11:=zc4 hb11 hb10;refine hK.out _ _ ?hS30 (fun hHeld=>?rest30)
     case hS30=>exact kSn
     case' rest30=>(clear hK K;try simp only[PqL,Act.put])
     refine tkH 19 ?_;try simp only[PqL,Act.put]
     refine tkH 20 ?_;try simp only[PqL,Act.put]
     refine wpAnyH_done (by kernel_rfl) ?_ _;have hEnd:=hHeld.2
     repeat (clear hHeld)
     have HE:=zak hEnd;clear hEnd hb10 hb11 hs1 hs2;go_wp2_with fail
     go_ret
     exact (⟨rfl,zc4 (HB9.out.trans (HE.out.mono (HB9.out.size))) HB.out⟩:TrueB w _ _)
end
section
section
open Go.RowKit Go.ChangeShapes Go.WideShapes Go.Deep Go.Joins
theorem zzy:Tryz.prog.cellsOf 75=6:=by kernel_rfl
section
variable {H:Type} {enc:TypeId×Value→H} {w:World} {base:Nat} {spare:Nat→Bool} {held:Bool}
theorem zzz {r:Reach}{b0:Nat}{v:Value}{d:DataW H}{p:List MemPlace}(hv:Value.okWide Tryz.prog w r b0 75 v)(h:DataW.Trod enc Tryz.prog w base spare held 75 v d p) :
 ∃(A:Option Addr) (n c:Nat) (L:List Ent) (ix sub:Int) (Ab:Option Addr) (cb:Nat) (b:List UInt8) (m0 m1:Nat),v= .agg #[.slice A n c,.int .i64 ix,.int .i64 sub,.slice Ab b.length cb,.int .u8 (m0:Nat),.int .u8 (m1:Nat)]∧ n=L.length∧n≤c∧SlE w A L∧b.length≤cb∧Sl w Ab (b.map bv)∧ m0≤255∧m1≤255:=by
 obtain⟨cs,rfl,hsz⟩:=okWide_struct Tryz.underlying75 hv;obtain⟨l⟩:=cs
 match l,hsz.trans zzy with
 | [v0,v1,v2,v3,v4,v5],_=>
   obtain⟨fuel,hf⟩:=h;obtain⟨ys,k,_,_,_,hlen,hg⟩:=DataW.trod_struct Tryz.underlying75 hf;have f0:DataW.trod enc Tryz.prog w base spare held k 22 ((([v0,v1,v2,v3,v4,v5]:List Value).drop 0).take (Tryz.prog.cellsOf 22))=ys[0]? :=hg 0 _ rfl;have f1:DataW.trod enc Tryz.prog w base spare held k 3 ((([v0,v1,v2,v3,v4,v5]:List Value).drop 1).take (Tryz.prog.cellsOf 3))=ys[1]? :=hg 1 _ rfl;have f2:DataW.trod enc Tryz.prog w base spare held k 3 ((([v0,v1,v2,v3,v4,v5]:List Value).drop 2).take (Tryz.prog.cellsOf 3))=ys[2]? :=hg 2 _ rfl;have f3:DataW.trod enc Tryz.prog w base spare held k 27 ((([v0,v1,v2,v3,v4,v5]:List Value).drop 3).take (Tryz.prog.cellsOf 27))=ys[3]? :=hg 3 _ rfl
   have f4:DataW.trod enc Tryz.prog w base spare held k 73 ((([v0,v1,v2,v3,v4,v5]:List Value).drop 4).take (Tryz.prog.cellsOf 73))=ys[4]? :=hg 4 _ rfl;have ce:Tryz.prog.cellsOf 22=1:=by kernel_rfl
   have ci:Tryz.prog.cellsOf 3=1:=by kernel_rfl
   have cu:Tryz.prog.cellsOf 27=1:=by kernel_rfl
   have ca:Tryz.prog.cellsOf 73=2:=by kernel_rfl
   have c8:Tryz.prog.cellsOf 5=1:=by kernel_rfl
   rw[ce] at f0;rw[ci] at f1 f2;rw[cu] at f3;rw[ca] at f4;simp only[List.drop_zero,List.take_succ_cons,List.take_zero,List.drop_succ_cons] at f0 f1 f2 f3 f4;have hy:ys.length=5:=hlen;rw[List.getElem?_eq_getElem (show 0 < ys.length by omega)] at f0;rw[List.getElem?_eq_getElem (show 1 < ys.length by omega)] at f1;rw[List.getElem?_eq_getElem (show 2 < ys.length by omega)] at f2;rw[List.getElem?_eq_getElem (show 3 < ys.length by omega)] at f3;rw[List.getElem?_eq_getElem (show 4 < ys.length by omega)] at f4;obtain⟨A,n,c,L,rfl,h1,h2,h3⟩:=zwh f0;obtain⟨x1,e1,_,_⟩:=DataW.trod_int Tryz.underlying3 f1;obtain⟨x2,e2,_,_⟩:=DataW.trod_int Tryz.underlying3 f2
   obtain⟨Ab,cb,b,e3,h4,h5⟩:=zwe f3;obtain⟨zs,k2,_,_,_,hlz,hz⟩:=DataW.trod_array Tryz.underlying73 f4;have g0:=hz 0 (by omega);have g1:=hz 1 (by omega);rw[c8] at g0 g1;simp only[Nat.zero_mul,Nat.one_mul,List.drop_zero,List.take_succ_cons,List.take_zero,List.drop_succ_cons] at g0 g1;rw[List.getElem?_eq_getElem (show 0 < zs.length by omega)] at g0;rw[List.getElem?_eq_getElem (show 1 < zs.length by omega)] at g1;obtain⟨z0,e4,_,w4⟩:=DataW.trod_int Tryz.underlying5 g0;obtain⟨z1,e5,_,w5⟩:=DataW.trod_int Tryz.underlying5 g1;obtain⟨m0,hm0,l0⟩:=zwf w4;obtain⟨m1,hm1,l1⟩:=zwf w5;simp only[List.cons.injEq,and_true] at e1 e2 e4 e5
   subst e1 e2 e3 e4 e5 hm0 hm1;exact⟨A,n,c,L,x1,x2,Ab,cb,b,m0,m1,rfl,h1,h2,h3,h4,h5,l0,l1⟩
end
end
end
section
open Go.RowKit
theorem zz0 (A A2:Option Addr)(n n2 c c2:Nat)(L:List SV)(w:World)(hn:n=L.length)(hn2:n2=L.length)(hc:n≤c)(hc2:n2≤c2)(hb:n≤35184372088)(hL:SlV w A L)(hL2:SlV w A2 L) :
 Calls Tryz.prog 16 #[.slice A n c,.slice A2 n2 c2] w fun e w'=>e= .returned (.bool true)∧ Below w.heap.size w w':=by
 obtain rfl:n=n2:=by omega
 have HN:=zak hn;clear hn hn2;go_enter Tryz.func16,Tryz.ntmps16
 go_wp2_with fail
 go_loopw [5] (fun i wr=> ∃k,k≤n∧i= .int .i64 (k:Nat)∧ Below w.heap.size w wr) (fun i _=>n - (intOf i).toNat)
 case atStart=>exact⟨0,by omega,rfl,Below.refl _ _⟩
 case round=>
  obtain⟨k,hk,rfl,hbr⟩:=hrel;by_cases hlt:k < n
  · obtain⟨v,hv⟩:∃v,L[k]? =some v:=⟨L[k]'(by have:=HN.out;omega),List.getElem?_eq_getElem _⟩;obtain⟨b,off,Aj,cj,rfl,h0,h1,h2,h4,h5⟩:=(hL.below hbr) k v hv;obtain⟨b',off',Aj',cj',rfl,g0,g1,g2,g4,g5⟩:=(hL2.below hbr) k v hv;have HV:=zak hv;clear hv;have k1:=fun nq=>zdx (w:=wr.drewN nq) cj rfl (l:=v.data) (show Sl (wr.drewN nq) Aj (v.data.map bv) from h5)
    have k2:=fun nq=>zdx (w:=wr.drewN nq) cj' rfl (l:=v.data) (show Sl (wr.drewN nq) Aj' (v.data.map bv) from g5)
    obtain⟨i1,i2,i3⟩:=zdl hlt;have hself:(v.ix != v.ix)=false:=by simp
    have hself2:(v.sub != v.sub)=false:=by simp
    go_wp2_with fail
    go_quiet (fail)
    go_wp2_with fail
    go_roundw
    case rel=>exact⟨k+1,by omega,by go_num,zdq hbr _⟩
    case measure=>simp[intOf];omega
  · go_wp2_with fail
    go_ret
    exact⟨rfl,hbr⟩
end
end Go.Proofs.YtkkpjbjmhaecjaaGreat
