/- None -/
import Derived.Test.YtkkpjbjmhaecjaaGreatU10
namespace Go.Proofs.YtkkpjbjmhaecjaaGreat
set_option linter.all false
set_option maxRecDepth 100000
set_option maxHeartbeats 4000000
section
section
open Go.RowKit
section
variable {F:Nat→Prop} {p n cl cv:Nat} {Av:Option Addr} {L:List Ent} {V:List (List UInt8)} {ds es:List (Option Addr×Nat)} {gl:Nat}
def GetR (L:List Ent) (V:List (List UInt8)) (ix sub:Int) (w:World) (e:Ending) (w':World):Prop:=
 ∃A m c b,e= .returned (.tuple #[.slice A m c,.int .u32 (getC L ix sub)])∧ zbs w' w.heap.size A m c b∧b=(if getC L ix sub=0 then valK V (locK L ix sub) else [])∧ Below w.heap.size w w'
theorem zgy (ix sub:Int)(w:World)(hD:DB 100 w F p (some ⟨gl,0,none⟩) n cl Av cv L V ds es)(hs:SortedE L)(hn:n≤1000) :
 Calls Tryz.prog 32 #[.pointer (some ⟨p,0,none⟩),.int .i64 ix,.int .i64 sub] w (GetR L V ix sub w):=by
 have HS:=zak hs;have HD:=zak hD;have HN:=zak hD.ents.hn;have HLV:=zak hD.lenV;clear hs hD;go_enter Tryz.func32,Tryz.ntmps32
 go_wp2_with fail
 refine (zel ix sub _ HD.out HS.out hn).mono ?_;rintro e w1 ⟨rfl,hb1⟩;have HD1:=zak (HD.out.below hb1);by_cases hf:0≤findL L ix sub
 · have hc0:codeL L ix sub=0:=zdd.2 hf;have hk:=zdc hf;have HG:Hid (getC L ix sub=readE (entK L (locK L ix sub)).acc):=zak (by unfold getC;rw[if_pos hc0]);obtain⟨k,hkk⟩:∃k,k=locK L ix sub:=⟨_,rfl⟩;obtain⟨E,hE⟩:∃E,L[k]? =some E:=⟨L[k]'(by rw[hkk];exact hk),List.getElem?_eq_getElem _⟩;obtain⟨v,hv⟩:∃v,V[k]? =some v:=⟨V[k]'(by rw[hkk,HLV.out];exact hk),List.getElem?_eq_getElem _⟩;have hkn:k < n:=by rw[hkk,HN.out];exact hk
   have HE:Hid (getC L ix sub=readE E.acc):=zak (by rw[HG.out,←hkk,zdf hE]);have HV:Hid (valK V (locK L ix sub)=v):=zak (by rw[←hkk,zdg hv]);have HF:=zak hf;rw[hc0,←hkk];clear hc0 hk HG hf hkk;obtain⟨g,d,hA,zg,_,_,_,c0,c1,c2,c3,c4,c5,c6,c7,c8,c9,c10⟩:=HD1.out.ent hE;injection hA with hA
   injection hA with hA
   subst hA;have hBr:=HD1.out.blk;obtain⟨bi,bj⟩:=za8 hBr;have bM:=hBr.frozen;go_wp2_with fail
   refine (zd8 E d.1 E.df.length d.2 _).mono ?_;rintro e w2 ⟨rfl,hb2⟩;have HD2:=zak (HD1.out.below hb2);by_cases hr:readE E.acc=0
   · obtain⟨gv,dv,hAv,_,_,hO,hfit,cv0,_,_⟩:=HD2.out.val hv;subst hAv;rw[hr];have HR:=zak hr;clear hr c0 c1 c2 c3 c4 c5 c6 c7 c8 c9 c10 zg hE hv;clear bi bj bM;have hB2:=HD2.out.blk;obtain⟨bY,bo⟩:=za8 hB2;have cR:=hB2.frozen;have HO:=zak (hO.sl);clear hO;go_wp2_with fail
     refine (zee dv.1 v.length dv.2 v _ rfl hfit HO.out).mono ?_;rintro e w3 ⟨A3,c3,rfl,hO3,hb3⟩;go_wp2_with fail
     go_ret2
     refine⟨A3,v.length,c3,v,by rw[HE.out,HR.out];rfl,hO3.mono (by have:=hb1.size;have:=hb2.size;omega),by rw[HE.out,HR.out,HV.out];rfl,za5 hb3 (za5 hb2 hb1)⟩
   · have hr1:readE E.acc=100728833:=by unfold readE at *;split at hr<;>simp_all
     have HR:=zak hr1;rw[hr1];clear hr hr1;go_wp2_with fail
     go_ret2
     refine⟨none,0,0,[],by rw[HE.out,HR.out];rfl,zbs.nil _ _,by rw[HE.out,HR.out];rfl,za5 hb2 hb1⟩
 · have HC:Hid (getC L ix sub=codeL L ix sub):=zak (by unfold getC;rw[if_neg (fun h=>hf (zdd.1 h))]);have hcc:codeL L ix sub≠0:=fun h=>hf (zdd.1 h)
   have HX:=zak hcc;obtain⟨cc,hce⟩:∃cc,cc=codeL L ix sub:=⟨_,rfl⟩;have hcn: ¬cc=0:=by rw[hce];exact hcc
   rw[←hce];have HE:=zak hce;clear hf hcc hce;go_wp2_with fail
   go_ret2
   refine⟨none,0,0,[],by rw[HC.out,←HE.out];rfl,zbs.nil _ _,by rw[HC.out,if_neg HX.out],hb1⟩
end
end
section
open Go.RowKit
section
variable {F:Nat→Prop} {p n cl cv:Nat} {Av:Option Addr} {L:List Ent} {V:List (List UInt8)} {ds es:List (Option Addr×Nat)} {gl:Nat}
theorem zgz (acc:Int):writeE acc=0∨writeE acc=100728834:=by unfold writeE;split<;>simp
theorem zg0 (ix sub:Int)(any:Bool)(A:Option Addr)(m c:Nat)(b:List UInt8)(w:World)(hD:DB 100 w F p (some ⟨gl,0,none⟩) n cl Av cv L V ds es)(hs:SortedE L)(hn:n≤1000)
 (hm:m=b.length) (hc:m≤c) (hl:m≤35184372088832) (hb:Sl w A (b.map bv)) :
 Calls Tryz.prog 79 #[.pointer (some ⟨p,0,none⟩),.int .i64 ix,.int .i64 sub,.slice A m c,.bool any] w fun e w'=>e= .returned (.tuple #[.int .i64 (locK L ix sub),.int .u32 (mayC L ix sub b any)])∧ Below w.heap.size w w':=by
 have HS:=zak hs;have HD:=zak hD;have HN:=zak hD.ents.hn;have HM:=zak hm;have HB:=zak hb;clear hs hD hm hb;go_enter Tryz.func79,Tryz.ntmps79
 go_wp2_with fail
 refine (zel ix sub _ HD.out HS.out hn).mono ?_;rintro e w1 ⟨rfl,hb1⟩;have HD1:=zak (HD.out.below hb1);have HB1:=zak (HB.out.below hb1);by_cases hf:0≤findL L ix sub
 · have hc0:codeL L ix sub=0:=zdd.2 hf;have hk:=zdc hf;obtain⟨k,hkk⟩:∃k,k=locK L ix sub:=⟨_,rfl⟩;obtain⟨E,hE⟩:∃E,L[k]? =some E:=⟨L[k]'(by rw[hkk];exact hk),List.getElem?_eq_getElem _⟩;have hkn:k < n:=by rw[hkk,HN.out];exact hk
   have HC:Hid (mayC L ix sub b any=if any=false∧writeE E.acc≠0 then writeE E.acc else valC E b):=zak (by unfold mayC;rw[if_pos hc0,←hkk,zdf hE]);rw[hc0,←hkk];have HKK:=zak hkk;clear hc0 hk hf hkk;obtain⟨g,d,hA,zg,_,_,_,c0,c1,c2,c3,c4,c5,c6,c7,c8,c9,c10⟩:=HD1.out.ent hE;injection hA with hA
   injection hA with hA
   subst hA;have hBr:=HD1.out.blk;obtain⟨bi,bj⟩:=za8 hBr;have bM:=hBr.frozen;cases any
   · go_wp2_with fail
     refine (zd9 E d.1 E.df.length d.2 _).mono ?_;rintro e w2 ⟨rfl,hb2⟩;have HD2:=zak (HD1.out.below hb2);clear c0 c1 c2 c3 c4 c5 c6 c7 c8 c9 c10 zg;clear bi bj bM;rcases zgz E.acc with hw | hw
     · have HC2:Hid (mayC L ix sub b false=valC E b):=zak (by rw[HC.out,hw];rfl);rw[hw];clear hw;obtain⟨g,d',hA,zg,hd',_,_,c0,c1,c2,c3,c4,c5,c6,c7,c8,c9,c10⟩:=HD2.out.ent hE;injection hA with hA
       injection hA with hA
       subst hA;have hB2:=HD2.out.blk;obtain⟨bY,bo⟩:=za8 hB2;have cR:=hB2.frozen;clear hE hd';go_wp2_with fail
       refine (zgw E d'.1 E.df.length d'.2 A m c b _ HM.out hc hl (HB1.out.below hb2)).mono ?_;rintro e w3 ⟨rfl,hb3⟩;go_wp2_with fail
       go_ret2
       exact⟨by rw[HC2.out,←HKK.out];rfl,za5 hb3 (za5 hb2 hb1)⟩
     · have HC2:Hid (mayC L ix sub b false=100728834):=zak (by rw[HC.out,hw];rfl);rw[hw];clear hw;go_wp2_with fail
       go_ret2
       exact⟨by rw[HC2.out,←HKK.out];rfl,za5 hb2 hb1⟩
   · have HC2:Hid (mayC L ix sub b true=valC E b):=zak (by rw[HC.out];rfl);go_wp2_with fail
     refine (zgw E d.1 E.df.length d.2 A m c b _ HM.out hc hl HB1.out).mono ?_;rintro e w3 ⟨rfl,hb3⟩;go_wp2_with fail
     go_ret2
     exact⟨by rw[HC2.out,←HKK.out];rfl,za5 hb3 hb1⟩
 · have HC:Hid (mayC L ix sub b any=codeL L ix sub):=zak (by unfold mayC;rw[if_neg (fun h=>hf (zdd.1 h))]);have hcc:codeL L ix sub≠0:=fun h=>hf (zdd.1 h)
   obtain⟨cc,hce⟩:∃cc,cc=codeL L ix sub:=⟨_,rfl⟩;have hcn: ¬cc=0:=by rw[hce];exact hcc
   rw[←hce];have HE:=zak hce;clear hf hcc hce;go_wp2_with fail
   go_ret2
   exact⟨by rw[HC.out,←HE.out];rfl,hb1⟩
theorem zg1 (ix sub:Int)(A:Option Addr)(m c:Nat)(b:List UInt8)(w:World)(hD:DB 100 w F p (some ⟨gl,0,none⟩) n cl Av cv L V ds es)(hs:SortedE L)(hn:n≤1000)
 (hm:m=b.length) (hc:m≤c) (hl:m≤35184372088832) (hb:Sl w A (b.map bv)) :
 Calls Tryz.prog 28 #[.pointer (some ⟨p,0,none⟩),.int .i64 ix,.int .i64 sub,.slice A m c] w fun e w'=>e= .returned (.int .u32 (mayC L ix sub b false))∧ Below w.heap.size w w':=by
 have HC:=zak (zg0 ix sub false A m c b w hD hs hn hm hc hl hb);clear hD hs hn hm hc hl hb;go_enter Tryz.func28,Tryz.ntmps28
 go_wp2_with fail
 refine HC.out.mono ?_;rintro e w1 ⟨rfl,hb1⟩;go_wp2_with fail
 go_ret
 exact⟨rfl,hb1⟩
def PutR (F:Nat→Prop) (p gl n cl:Nat) (Av:Option Addr) (cv:Nat) (L:List Ent) (V:List (List UInt8)) (ds:List (Option Addr×Nat)) (ix sub:Int) (b:List UInt8) (any:Bool) (w:World) (e:Ending) (w':World):Prop:=
 ∃V' es',e= .returned (.int .u32 (mayC L ix sub b any))∧ V'=putV L V ix sub b any∧DB 100 w' (fun g=>F g∨w.heap.size≤g) p (some ⟨gl,0,none⟩) n cl Av cv L V' ds es'∧zbv F w w'
theorem zg2 (ix sub:Int)(any:Bool)(A:Option Addr)(m c:Nat)(b:List UInt8)(w:World)(hD:DB 100 w F p (some ⟨gl,0,none⟩) n cl Av cv L V ds es)(hs:SortedE L)(hn:n≤1000)
 (hm:m=b.length) (hc:m≤c) (hl:m≤35184372088832) (hb:Sl w A (b.map bv)) :
 Calls Tryz.prog 115 #[.pointer (some ⟨p,0,none⟩),.int .i64 ix,.int .i64 sub,.slice A m c,.bool any] w (PutR F p gl n cl Av cv L V ds ix sub b any w):=by
 have HC:=zak (zg0 ix sub any A m c b w hD hs hn hm hc hl hb);have HD:=zak hD;have HM:=zak hm;have HB:=zak hb;have HFK:Hid (mayC L ix sub b any=0→locK L ix sub < n∧V.length=n):=zak (by
  intro h;refine⟨?_,by rw[hD.lenV,hD.ents.hn]⟩;rw[hD.ents.hn];refine zdc (zdd.1 ?_);unfold mayC at h;split at h
  · assumption
  · exact h)
 obtain⟨cc,hce⟩:∃cc,cc=mayC L ix sub b any:=⟨_,rfl⟩;have HE:=zak hce;clear hD hs hm hb hce hc;go_enter Tryz.func115,Tryz.ntmps115
 go_wp2_with fail
 refine HC.out.mono ?_;rintro e w1 ⟨rfl,hb1⟩;have HD1:=zak (HD.out.below hb1);have HB1:=zak (HB.out.below hb1);clear HC;by_cases h0:cc=0
 · have h0':mayC L ix sub b any=0:=by rw[←HE.out];exact h0
   obtain⟨hkn,hvn⟩:=HFK.out h0';have HP:Hid (putV L V ix sub b any=V.set (locK L ix sub) b):=zak (by unfold putV;rw[if_pos h0']);rw[h0'];have H0:=zak h0';obtain⟨k,hkk⟩:∃k,k=locK L ix sub:=⟨_,rfl⟩;rw[←hkk] at hkn HP ⊢;clear h0 h0' hkk HFK;have HFB:=zak hl;clear hl;obtain⟨v,hv⟩:∃v,V[k]? =some v:=⟨V[k]'(by rw[hvn];exact hkn),List.getElem?_eq_getElem _⟩;obtain⟨gv,dv,hAv,zv,_,_,_,cv0,cf0,hFv⟩:=HD1.out.val hv;subst hAv;have hB2:=HD1.out.blk;have zp:=hB2.lt;obtain⟨bY,bo⟩:=za8 hB2;have cR:=hB2.frozen;obtain⟨i1,i2,i3⟩:=zbk hkn;have hne:p≠gv:=fun h=>zby hB2 HD1.out.vals.own (by decide) (by rw[h];rfl)
   clear hv hvn;go_wp2_with fail
   refine wp_region_held_drew (S:=(fun w'=>w'.cell? ⟨p,1,none⟩=some (.slice (some ⟨gv,0,none⟩) n cv)∧ True)) (by kernel_rfl) ?hS1 (fun hHeld=>?rest1)
   case hS1=>((try dsimp only);(exact⟨bo,trivial⟩))
   case' rest1=>skip
   iterate 6 (refine tkN ?_;try simp only[PqL,Act.put])
   refine kRd 6 (fun K hK=>?_)
   go_simp
   refine (zee A m c b _ HM.out HFB.out HB1.out.drew).mono ?_;rintro e w2 ⟨A3,c3,rfl,hO3,hb3⟩;dsimp only;have zp':p < w1.drew.heap.size:=zp;refine hK.out _ _ ?hS10 (fun hHeld=>?rest10)
   case hS10=>((try dsimp only);(exact⟨(Blk.below (w:=w1.drew) hB2 hb3 zp').cell 1 rfl,trivial⟩))
   case' rest10=>(clear hK K;try simp only[PqL,Act.put])
   have zv3:=Nat.lt_of_lt_of_le zv hb3.size;have hf3:w2.frozen? ⟨gv,k,none⟩=false:=(hb3.frozen (p:=⟨gv,k,none⟩) zv).trans cf0;have hc3:w2.cell? ⟨gv,k,none⟩=w1.cell? ⟨gv,k,none⟩:=hb3.cell (p:=⟨gv,k,none⟩) zv;rw[cv0] at hc3;refine tkH 7 ?_;try simp only[PqL,Act.put]
   refine kRd 8 (fun K hK=>?_)
   go_simp
   refine hK.out _ _ ?hS14 (fun hHeld=>?rest14)
   case hS14=>((try dsimp only);(exact⟨((Blk.below (w:=w1.drew) hB2 hb3 zp').far hne _).cell 1 rfl,trivial⟩))
   case' rest14=>(clear hK K;try simp only[PqL,Act.put])
   refine wpAnyH_done (by kernel_rfl) ?_ _;have hEnd:=hHeld.2
   repeat (clear hHeld)
   go_wp2_with fail
   go_ret
   have hb4:Below w1.heap.size w1 w2:=⟨hb3.os,hb3.tape,hb3.output,hb3.size,hb3.block⟩;have HD3:=HD1.out.below (w':=w2) hb4;refine⟨_,_,by rw[H0.out];rfl,HP.out.symm,DB.store (HD3.mono (fun g _ h=> .inl h)) (by decide) hkn (hO3.mono (Nat.zero_le _)) ?_ (by have:=HM.out;have:=HFB.out;unfold fitB;omega),?_⟩
   · exact hO3.own.fin.mono (fun g h=> .inr (by have:=hb1.size;have:=h.1;simp at this;omega))
   · exact ((zbv.of_below hb1).step hb4).trans (zbv.of_set (F:=F) hFv _) (fun _ _ h=>h)
 · have HP:Hid (putV L V ix sub b any=V):=zak (by unfold putV;rw[if_neg (by rw[←HE.out];exact h0)]);rw[←HE.out];clear HFK;go_wp2_with fail
   go_ret
   exact⟨V,es,by rw[←HE.out];rfl,HP.out.symm,HD1.out.mono (fun g _ h=> .inl h),zbv.of_below hb1⟩
theorem zg3 (ix sub:Int)(A:Option Addr)(m c:Nat)(b:List UInt8)(w:World)(hD:DB 100 w F p (some ⟨gl,0,none⟩) n cl Av cv L V ds es)(hs:SortedE L)(hn:n≤1000)
 (hm:m=b.length) (hc:m≤c) (hl:m≤35184372088832) (hb:Sl w A (b.map bv)) :
 Calls Tryz.prog 50 #[.pointer (some ⟨p,0,none⟩),.int .i64 ix,.int .i64 sub,.slice A m c] w (PutR F p gl n cl Av cv L V ds ix sub b false w):=by
 have HC:=zak (zg2 ix sub false A m c b w hD hs hn hm hc hl hb);clear hD hs hn hm hc hl hb;go_enter Tryz.func50,Tryz.ntmps50
 go_wp2_with fail
 refine HC.out.mono ?_;rintro e w1 ⟨V',es',rfl,h2,h3,h4⟩;have H2:=zak h2;have H3:=zak h3;have H4:=zak h4;clear h2 h3 h4;go_wp2_with fail
 go_ret
 exact⟨V',es',rfl,H2.out,H3.out,H4.out⟩
end
end
end
section
open Go.RowKit
def put11 (w:World) (g:Nat) (E:Ent) (A:Option Addr) (n c:Nat):World:=
 ((((((((((w.setCell ⟨g,0,none⟩ (.int .i64 E.ix)).setCell ⟨g,1,none⟩ (.int .i64 E.sub)).setCell ⟨g,2,none⟩ (.string E.nm)).setCell ⟨g,3,none⟩ (.int .i64 E.ty)).setCell ⟨g,4,none⟩ (.int .i64 E.acc)).setCell ⟨g,5,none⟩ (.bool E.mp)).setCell ⟨g,6,none⟩ (.bool E.st)).setCell ⟨g,7,none⟩ (.int .i64 E.mx)).setCell ⟨g,8,none⟩ (.int .i64 E.lo)).setCell ⟨g,9,none⟩ (.int .i64 E.hi)).setCell ⟨g,10,none⟩ (.slice A n c)
theorem zg4 {α:Type}(a0 a1 a2 a3 a4 a5 a6 a7 a8 a9 a10: α)(l:List α)(h:l.length=11) :
 ((((((((((((((((((((((l.set 0 a0).set 1 a1).set 2 a2).set 3 a3).set 4 a4).set 5 a5).set 6 a6).set 7 a7).set 8 a8).set 9 a9).set 10 a10))))))))))))= [a0,a1,a2,a3,a4,a5,a6,a7,a8,a9,a10]:=by
 match l,h with
 | [_,_,_,_,_,_,_,_,_,_,_],_=>rfl
theorem zg5 {w:World}{g:Nat}{t:TypeId}{cs:Array Value}(hB:Blk w g t cs)(hs:cs.size=11)(E:Ent)(A:Option Addr)(n c:Nat):Blk (put11 w g E A n c) g t (entV E A n c):=by
 have h:=((((((((((hB.set_ 0 (.int .i64 E.ix)).set_ 1 (.int .i64 E.sub)).set_ 2 (.string E.nm)).set_ 3 (.int .i64 E.ty)).set_ 4 (.int .i64 E.acc)).set_ 5 (.bool E.mp)).set_ 6 (.bool E.st)).set_ 7 (.int .i64 E.mx)).set_ 8 (.int .i64 E.lo)).set_ 9 (.int .i64 E.hi)).set_ 10 (.slice A n c);obtain⟨l⟩:=cs;simp only[List.setIfInBounds_toArray] at h;rw[zg4 _ _ _ _ _ _ _ _ _ _ _ l (by simpa using hs)] at h;exact h
theorem zg6 (w:World)(g:Nat)(E:Ent)(A:Option Addr)(n c:Nat):zbv (fun k=>k=g) w (put11 w g E A n c):=by
 have st:∀(w':World) (i:Nat) (u:Value),zbv (fun k=>k=g) w w'→zbv (fun k=>k=g) w (w'.setCell ⟨g,i,none⟩ u):=fun w' i u h=>h.trans (zbv.of_set (F:=fun k=>k=g) rfl u) (fun _ _ h=>h)
 unfold put11;exact st _ _ _ (st _ _ _ (st _ _ _ (st _ _ _ (st _ _ _ (st _ _ _ (st _ _ _ (st _ _ _ (st _ _ _ (st _ _ _ (st _ _ _ (zbv.refl _ _)))))))))))
theorem zha:(Tryz.prog.info? 90).map (·.size)=some 11:=by kernel_rfl
theorem zhb (E:Ent)(A:Option Addr)(n c:Nat):(Tryz.prog.info? 90).map (·.size)=some (entV E A n c).size:=zha
theorem zhc {fn:Func}{p:Tmp}(h:fn.results= #[.cell p 90]){a:Act}{w:World}{g:Nat}{E:Ent}{A:Option Addr}{n c:Nat}{R:Ending→World→Prop}(hd:a.defers= [])(hp:a.tmps.getD p undef= .pointer (some ⟨g,0,none⟩))
 (hB:Blk w g 90 (entV E A n c)) (hR:R (.returned (.agg (entV E A n c))) w):bodyPost Tryz.prog fn R .ret a w:=
 bodyPost_ret (results_cell_row h _ _ _ _ _ _ _ hp hB Tryz.underlying90 rfl (zhb E A n c)) hd hR
theorem zhd {fn:Func}{p u:Tmp}(h:fn.results= #[.cell p 90,.tmp u]){a:Act}{w:World}{g:Nat}{E:Ent}{A:Option Addr}{n c:Nat}{R:Ending→World→Prop}(hd:a.defers= [])(hp:a.tmps.getD p undef= .pointer (some ⟨g,0,none⟩))
 (hB:Blk w g 90 (entV E A n c)) (hR:R (.returned (.tuple #[.agg (entV E A n c),a.tmps.getD u undef])) w):bodyPost Tryz.prog fn R .ret a w:=by
 refine bodyPost_ret ?_ hd hR;rw[results_cell_tmp h,hp];simp only[asAddr,Sem.run_pure,Result.andThen_ok];rw[run_loadVar_row w g _ _ _ _ _ hB Tryz.underlying90 rfl (zhb E A n c)]
 rfl
theorem zhe {w w':World}{g:Nat}{t:TypeId}{cs:Array Value}{F:Nat→Prop}(h:Blk w g t cs)(ho:zbv F w w')(hF: ¬F g):Blk w' g t cs:=(ho.block g h.lt hF).trans h
theorem zhf {w w':World}{B n c:Nat}{A:Option Addr}{l:List UInt8}{F:Nat→Prop}(h:zbs w B A n c l)(ho:zbv F w w')(hF:∀g,B≤g→g < w.heap.size→ ¬F g):zbs w' B A n c l:=
 ⟨h.hn,h.own.keep fun g hB hlt _=>ho.block g hlt (hF g hB hlt)⟩
end
section
open Go.RowKit
theorem zhg (E:Ent)(A:Option Addr)(n c:Nat)(w:World)(hn:n=E.df.length)(hl:n≤35184372088832)(hs:Sl w A (E.df.map bv)) :
 Calls Tryz.prog 41 #[.agg (entV E A n c)] w fun e w'=> ∃A' c',e= .returned (.agg (entV E A' n c'))∧ zbs w' w.heap.size A' n c' E.df∧Below w.heap.size w w':=by
 have HN:=zak hn;have HS:=zak hs;clear hn hs;have K0:=zbg w 90 90 (entV E A n c) (entV zeroE none 0 0);have hbw:=za7 (za7 (Below.refl w.heap.size w) (.cells (entV E A n c) 90)) (.cells (entV zeroE none 0 0) 90);have HS1:=zak (HS.out.below hbw)
 have HQ:Hid (∀w1 A1 c1,zbs w1 (w.heap.size+1+1) A1 n c1 E.df→Below w.heap.size w w1→Blk w1 (w.heap.size+1) 90 (entV zeroE none 0 0)→ (Blk (put11 (w1.setCell ⟨w.heap.size,10,none⟩ (.slice A1 n c1)) (w.heap.size+1) E A1 n c1) (w.heap.size+1) 90 (entV E A1 n c1)∧
  zbs (put11 (w1.setCell ⟨w.heap.size,10,none⟩ (.slice A1 n c1)) (w.heap.size+1) E A1 n c1) w.heap.size A1 n c1 E.df∧Below w.heap.size w (put11 (w1.setCell ⟨w.heap.size,10,none⟩ (.slice A1 n c1)) (w.heap.size+1) E A1 n c1))):=zak (by
  intro w1 A1 c1 hO hb hB
  have o1:zbv (fun k=>k=w.heap.size∨k=w.heap.size+1) w1 (put11 (w1.setCell ⟨w.heap.size,10,none⟩ (.slice A1 n c1)) (w.heap.size+1) E A1 n c1):=
   (zbv.of_set (F:=fun k=>k=w.heap.size∨k=w.heap.size+1) (.inl rfl) _).trans (zg6 _ _ _ _ _ _) (fun i _ h=> .inr h)
  refine⟨zg5 (hB.far (p:=⟨w.heap.size,10,none⟩) (by simp) _) rfl E A1 n c1,(zhf hO o1 (fun g h1 _ h2=>by omega)).mono (by omega),hb.trans (o1.below hb.size (fun i h=>by omega))⟩)
 unfold put11 at HQ;have HQ':=zak HQ;clear HQ;unfold entV zeroE at K0 hbw;unfold entV;obtain⟨K1,K2⟩:=K0;go_enter Tryz.func41,Tryz.ntmps41
 go_wp2_with fail
 refine (zee A n c E.df _ HN.out hl HS1.out).mono ?_;rintro e w1 ⟨A1,c1,rfl,hO1,hb1⟩;have q1:=K1.below hb1 K1.lt;have q2:=K2.below hb1 K2.lt;replace hO1:=hO1.mono (B':=w.heap.size+1+1) (by simp);have HO:=zak hO1;have HQ2:=zak q2;have hbw2:=za5 hb1 hbw;have hne:w.heap.size≠w.heap.size+1:=by omega
 clear K1 K2 hO1;obtain⟨bC,bD,bE,bF,bG,bH,bI,bJ,bK,bL,bh⟩:=zbb q1;have cG:=q1.frozen;obtain⟨dM,dN,dO,dP,dQ,dR,dS,dU,dV,dW,de⟩:=zbb q2;have eK:=q2.frozen;go_wp2_with fail
 obtain⟨r1,r2,r3⟩:=HQ'.out.out w1 A1 c1 HO.out hbw2 HQ2.out;exact zhc (E:=E) (A:=A1) (n:=n) (c:=c1) rfl rfl rfl r1 ⟨A1,c1,rfl,r2,r3⟩
theorem zhh (k:Nat)(E:Ent)(w:World)(F:Nat→Prop)(p gl n cl cv:Nat)(Av:Option Addr)(L:List Ent)(V:List (List UInt8))(ds es:List (Option Addr×Nat))
 (hD:DB 100 w F p (some ⟨gl,0,none⟩) n cl Av cv L V ds es) (hE:L[k]? =some E) :
 Calls Tryz.prog 201 #[.pointer (some ⟨p,0,none⟩),.int .i64 k] w fun e w'=> ∃A c,e= .returned (.tuple #[.agg (entV E A E.df.length c),.bool true])∧ zbs w' w.heap.size A E.df.length c E.df∧Below w.heap.size w w':=by
 have hbw:=za7 (Below.refl w.heap.size w) (.cells (entV zeroE none 0 0) 90);have q:=zbf w 90 (entV zeroE none 0 0);have hk:k < n:=by rw[hD.ents.hn];exact (List.getElem?_eq_some_iff.1 hE).1
 have hD1:=hD.below hbw;obtain⟨g,d,hA,zg,_,hO,hfit,c0,c1,c2,c3,c4,c5,c6,c7,c8,c9,c10⟩:=hD1.ent hE;injection hA with hA
 injection hA with hA
 subst hA;have hBr:=hD1.blk;have HO:=zak hO.sl;have hf:E.df.length≤35184372088832:=hfit.1
 have HQ:Hid (∀w1 A1 c1,zbs w1 (w.heap.size+1) A1 E.df.length c1 E.df→Below w.heap.size w w1→Blk w1 w.heap.size 90 (entV zeroE none 0 0)→ (Blk (put11 w1 w.heap.size E A1 E.df.length c1) w.heap.size 90 (entV E A1 E.df.length c1)∧
  zbs (put11 w1 w.heap.size E A1 E.df.length c1) w.heap.size A1 E.df.length c1 E.df∧Below w.heap.size w (put11 w1 w.heap.size E A1 E.df.length c1))):=zak (by
  intro w1 A1 c1 hO hb hB;have o1:=zg6 w1 w.heap.size E A1 E.df.length c1;exact⟨zg5 hB rfl E A1 _ c1,(zhf hO o1 (fun g h1 _ h2=>by omega)).mono (by omega),hb.trans (o1.below hb.size (fun i h=>by omega))⟩)
 unfold put11 at HQ;have HQ':=zak HQ;clear HQ hD hE hO hfit hD1;unfold entV zeroE at q hbw hBr c0 c1 c2 c3 c4 c5 c6 c7 c8 c9 c10 zg;have HB:=zak hBr;obtain⟨bi,bj⟩:=za8 hBr;have bM:=hBr.frozen;go_enter Tryz.func201,Tryz.ntmps201
 go_wp2_with fail
 refine (zeg _ HB.out).mono ?_;rintro e w1 ⟨rfl,rfl⟩;go_wp2_with fail
 refine (zhg E d.1 E.df.length d.2 _ rfl hf HO.out).mono ?_;rintro e w2 ⟨A2,c2',rfl,hO2,hb2⟩;clear c0 c1 c2 c3 c4 c5 c6 c7 c8 c9 c10;clear bi bj bM;have q2:=q.below hb2 q.lt;have HQ2:=zak q2;replace hO2:=hO2.mono (B':=w.heap.size+1) (by simp);have HO2:=zak hO2;have hbw2:=za5 hb2 hbw;unfold entV;clear hO2;obtain⟨dM,dN,dO,dP,dQ,dR,dS,dU,dV,dW,de⟩:=zbb q2;have eK:=q2.frozen;go_wp2_with fail
 obtain⟨r1,r2,r3⟩:=HQ'.out.out w2 A2 c2' HO2.out hbw2 HQ2.out;exact zhd (E:=E) (A:=A2) (n:=E.df.length) (c:=c2') rfl rfl rfl r1 ⟨A2,c2',rfl,r2,r3⟩
end
end Go.Proofs.YtkkpjbjmhaecjaaGreat
