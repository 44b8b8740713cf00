/- None -/
import Derived.Test.YtkkpjbjmhaecjaaGreatU11
import Derived.Deep.DeepCutAuto
namespace Go.Proofs.YtkkpjbjmhaecjaaGreat
set_option linter.all false
set_option maxRecDepth 100000
set_option maxHeartbeats 4000000
section
open Go.RowKit
theorem zhi (ty:TypeId)(A:Option Addr)(n:Nat)(l:List UInt8)(A2:Option Addr)(m c2:Nat)(l2:List UInt8)(w:World)(hn:n=l.length)(h1:Sl w A (l.map bv))(hm:m=l2.length)(h2:Sl w A2 (l2.map bv))(hb:n+m≤140737488355328)(hA:A=none→n=0) :
 ∃A' c' w',(Builtin.append_ #[27,27] ty #[.slice A n n,.slice A2 m c2]).run Tryz.prog w= .ok (.slice A' (n+m) c') w'∧Sl w' A' ((l ++ l2).map bv)∧ n+m≤c'∧Below w.heap.size w w'∧((m=0∧A'=A)∨ (A'=some ⟨w.heap.size,0,none⟩∧ w.heap.size < w'.heap.size)):=by
 obtain⟨i0,hi0,hz0,hz1,hz2⟩:=info_parts zbq;rcases Nat.eq_zero_or_pos m with h0 | h0
 · subst h0;obtain rfl:l2= []:=List.eq_nil_of_length_eq_zero hm.symm;refine⟨A,n,w,?_,by simpa using h1,by omega,Below.refl _ _,.inl ⟨rfl,rfl⟩⟩;have hl:∀(x:Addr),(loadCells x 0).run Tryz.prog w= .ok #[] w:=fun x=>by simpa using run_loadCells_list (P:=Tryz.prog) w x [] (by simp)
   rcases A with _ | a
   · obtain rfl:=hA rfl;cases A2<;>simp[Builtin.append_,run_underlying (P:=Tryz.prog) Tryz.underlying27,sizeOf,typeInfo,hi0,Builtin.lenOf,Builtin.firstCells,hl]
   · cases A2<;>simp[Builtin.append_,run_underlying (P:=Tryz.prog) Tryz.underlying27,sizeOf,typeInfo,hi0,Builtin.lenOf,Builtin.firstCells,hl,storeCells]
 · have hx:∃a2,A2=some a2∧ ∀j u,(l2.map bv)[j]? =some u→w.cell? (a2.add j)=some u:=by
    obtain⟨a2,rfl,_⟩:=h2 0 _ (List.getElem?_eq_getElem (by simp;omega));refine⟨a2,rfl,fun j u hu=>?_⟩;obtain⟨a',e,hc⟩:=h2 j u hu;injection e with e
    subst e;exact hc
   obtain⟨a2,rfl,hnews⟩:=hx;rcases A with _ | a
   · obtain rfl:=hA rfl;obtain rfl:l= []:=List.eq_nil_of_length_eq_zero hn.symm;have hr:=run_append_nil (P:=Tryz.prog) w 27 ty 5 i0 (.int .u8 0) Tryz.underlying27 hi0 hz0 a2 m c2 (l2.map bv) (by simp[hm,hz1]) hnews h0 (by omega) (by rw[hz2];omega);refine⟨some ⟨w.heap.size,0,none⟩,grownCap w m 0 5,_,by simpa using hr,?_,by simpa using grownCap_ge w m 0 _,(Below.refl _ _).drew.alloc (Nat.le_refl _) _,.inr ⟨rfl,by simp⟩⟩;intro j u hu;refine⟨_,rfl,?_⟩;simp only[List.nil_append] at hu;rw[Addr.add_lit,Nat.zero_add];have hj:=(List.getElem?_eq_some_iff.1 hu).1;rw[World.cell?];simp only[heap_alloc_new]
     have hs:(w.drew.alloc (.cells ((l2.map bv).toArray ++ Builtin.zeroCells (Value.int IntKind.u8 0).cells (grownCap w m 0 5 - m)) 5)).heap[w.heap.size]? =some (.cells ((l2.map bv).toArray ++ Builtin.zeroCells (Value.int IntKind.u8 0).cells (grownCap w m 0 5 - m)) 5):=heap_alloc_new w.drew _;rw[hs];simp only[];rw[Array.getElem?_append_left (by simpa using hj)]
     simpa using hu
   · have holds:∀j u,(l.map bv)[j]? =some u→w.cell? (a.add j)=some u:=by
      intro j u hu;obtain⟨a',e,hc⟩:=h1 j u hu;injection e with e
      subst e;exact hc
     have hr:=run_append_grow (P:=Tryz.prog) w 27 ty 5 i0 (.int .u8 0) Tryz.underlying27 hi0 hz0 a n n (l.map bv) (by simp[hn,hz1]) holds a2 m c2 (l2.map bv) (by simp[hm,hz1]) hnews (by omega) (by omega) (by rw[hz2];have:=nextslicecap_le (need:=n+m) (old:=n) (by omega);omega);refine⟨some ⟨w.heap.size,0,none⟩,grownCap w (n+m) n 5,_,hr,?_,grownCap_ge w (n+m) n _,(Below.refl _ _).drew.alloc (Nat.le_refl _) _,.inr ⟨rfl,by simp⟩⟩;intro j u hu;refine⟨_,rfl,?_⟩;rw[Addr.add_lit,Nat.zero_add];have hj:=(List.getElem?_eq_some_iff.1 hu).1;rw[World.cell?];have hs:(w.drew.alloc (.cells ((l.map bv).toArray ++ (l2.map bv).toArray ++ Builtin.zeroCells (Value.int IntKind.u8 0).cells (grownCap w (n+m) n 5 - (n+m))) 5)).heap[w.heap.size]? =some (.cells ((l.map bv).toArray ++ (l2.map bv).toArray ++ Builtin.zeroCells (Value.int IntKind.u8 0).cells (grownCap w (n+m) n 5 - (n+m))) 5):=heap_alloc_new w.drew _
     rw[hs];simp only[];rw[Array.getElem?_append_left (by simpa using hj)]
     simpa using hu
theorem zhj {o:Oper}{a:Act}{K:Act→World→Prop}{Q:Exit→Act→World→Prop}{w:World}(s x:Operand)(ho:o.op= .call { callee:= .builtin .append,args:=#[s,x],argTypes:=#[27,27] })
 (A:Option Addr) (n:Nat) (l:List UInt8) (hs:a.eval s= .slice A n n) (hn:n=l.length) (h1:Sl w A (l.map bv)) (hA:A=none→n=0)
 (A2:Option Addr) (m c2:Nat) (l2:List UInt8) (hx:a.eval x= .slice A2 m c2) (hm:m=l2.length) (h2:Sl w A2 (l2.map bv)) (hb:n+m≤140737488355328)
 (h:∀A' c' w',Sl w' A' ((l ++ l2).map bv)→ n+m≤c'→Below w.heap.size w w'→((m=0∧A'=A)∨ (A'=some ⟨w.heap.size,0,none⟩∧ w.heap.size < w'.heap.size))→ K (a.put o.dst (.slice A' (n+m) c')) w'):Oper.wp Tryz.prog o a w K Q:=by
 obtain⟨A',c',w',hr,h3,h4,h5,h6⟩:=zhi o.type A n l A2 m c2 l2 w hn h1 hm h2 hb hA;unfold Oper.wp execOp;simp only[ho,resolve,invoke,builtin,Sem.run_bind,Sem.run_pure,Result.andThen_ok,List.map_toArray,List.map_cons,List.map_nil,hs,hx,hr];exact h A' c' w' h3 h4 h5 h6
theorem zhk {o:Oper}{a:Act}{K:Act→World→Prop}{Q:Exit→Act→World→Prop}{w:World}(s x:Operand)(ho:o.op= .call { callee:= .builtin .append,args:=#[s,x],argTypes:=#[27,27] })
 (B:Nat) (A:Option Addr) (n c:Nat) (l:List UInt8) (hs:a.eval s= .slice A n c) (hown:zbs w B A n c l)
 (A2:Option Addr) (m c2:Nat) (l2:List UInt8) (hx:a.eval x= .slice A2 m c2) (hm:m=l2.length) (hr:Sl w A2 (l2.map bv)) (hb:n+m≤140737488355328) (hB:B≤w.heap.size) (N:Nat) (hN:n+m=N)
 (h:∀A' c' w',zbs w' B A' N c' (l ++ l2)→ Below B w w'→K (a.put o.dst (.slice A' N c')) w'):Oper.wp Tryz.prog o a w K Q:=by
 subst hN;obtain⟨i0,hi0,hz0,hz1,hz2⟩:=info_parts zbq;obtain⟨A',c',w',hr',h2,h3,h4⟩:=zax (P:=Tryz.prog) w B 27 o.type 5 i0 _ 1 1 Tryz.underlying27 hi0 hz0 hz1 hz2 rfl (by omega) A n c _ hown.own A2 m c2 (l2.map bv) (by simp[hm]) hr (za1 _) (by unfold maxLen;omega) (by omega) hB;unfold Oper.wp execOp;simp only[ho,resolve,invoke,builtin,Sem.run_bind,Sem.run_pure,Result.andThen_ok,List.map_toArray,List.map_cons,List.map_nil,hs,hx,hr'];exact h A' c' w' ⟨by rw[hown.hn,hm];simp,by rw[List.map_append];exact h2⟩ (zaw hown.own hB h3)
theorem zhl (A:Option Addr):A.map (fun x=>x.add 0)=A:=by
 cases A with
 | none=>rfl
 | some a=>
   obtain⟨b,o,s⟩:=a;cases s<;>simp[Addr.add]
theorem zhm (A:Option Addr)(n c k m:Nat)(kk mm:Int)(kd kd':IntKind)(hk:kk=(k:Int))(hm:mm=(m:Int))(hkm:k≤m)(hc:m≤c)(w:World) :
 (Instr.slice 27 (.slice A n c) none (some (.int kd kk)) (some (.int kd' mm))).run Tryz.prog w= .ok (.slice A k m) w:=by
 subst hk;subst hm;obtain⟨i0,hi0,hz0,hz1,hz2⟩:=info_parts zbq;have he:Tryz.prog.elem 27=5:=by simp[Program.elem,Tryz.underlying27]
 have ht':Tryz.prog.underlying 27=some (.slice (Tryz.prog.elem 27)):=by rw[he];exact Tryz.underlying27
 rw[run_slice_hm (P:=Tryz.prog) (w:=w) (t:=27) (a:=A) (len:=n) (cap:=c) ht' kd kd' k m (by omega) (by omega) (by omega)];simp[he,sizeOf,typeInfo,hi0,sliced,zhl]
theorem Sl.take_ {w:World}{A:Option Addr}{xs:List Value}(h:Sl w A xs)(k:Nat):Sl w A (xs.take k):=by
 intro j u hu;rw[List.getElem?_take] at hu;split at hu
 · exact h j u hu
 · cases hu
end
section
section
open Go.RowKit
theorem zhn (E:Ent)(A:Option Addr)(n c:Nat)(w:World):Calls Tryz.prog 151 #[.agg (entV E A n c)] w fun e w'=>e= .returned (.int .i64 (mostE E))∧ Below w.heap.size w w':=by
 obtain⟨ix,sub,nm,ty,acc,mp,st,mx,lo,hi,df⟩:=E;have q:=zbf w 90 (entV ⟨ix,sub,nm,ty,acc,mp,st,mx,lo,hi,df⟩ A n c);have hbw:=za7 (Below.refl w.heap.size w) (.cells (entV ⟨ix,sub,nm,ty,acc,mp,st,mx,lo,hi,df⟩ A n c) 90);unfold entV at *
 go_enter Tryz.func151,Tryz.ntmps151
 go_wp2_with fail
 refine (zge ty _).mono ?_;rintro e w1 ⟨rfl,hb1⟩;have q1:=q.below hb1 q.lt;have hbw1:=za5 hb1 hbw;by_cases hb:0 < tyBits ty
 · have HM:Hid (mostE ⟨ix,sub,nm,ty,acc,mp,st,mx,lo,hi,df⟩=tySize ty):=zak (by unfold mostE;rw[if_pos hb]);obtain⟨bC,bD,bE,bF,bG,bH,bI,bJ,bK,bL,bh⟩:=zbb q1;have cG:=q1.frozen;go_wp2_with fail
   refine (zgf ty _).mono ?_;rintro e w2 ⟨rfl,hb2⟩;go_wp2_with fail
   go_ret
   exact⟨zau HM.out.symm,za5 hb2 hbw1⟩
 · have HM:Hid (mostE ⟨ix,sub,nm,ty,acc,mp,st,mx,lo,hi,df⟩=if mx < 0 then 0 else if 256 < mx then 256 else mx):=zak (by unfold mostE;rw[if_neg hb]);obtain⟨bC,bD,bE,bF,bG,bH,bI,bJ,bK,bL,bh⟩:=zbb q1;have cG:=q1.frozen;go_wp2_with fail
   all_goals
    go_ret
    refine⟨zau ?_,hbw1⟩;rw[HM.out];clear hbw1 hb1 hbw
    (repeat' split)<;> omega
theorem zho (E:Ent)(k:Int)(A:Option Addr)(n c:Nat)(w:World):Calls Tryz.prog 150 #[.agg (entV E A n c),.int .i64 k] w fun e w'=>e= .returned (.int .u32 (fitsC E k))∧ Below w.heap.size w w':=by
 have HM:=zak (fun W=>zhn E A n c W);have HF:Hid (fitsC E k=if mostE E < k then 101122066 else if k < tySize E.ty then 101122067 else 0):=zak rfl;obtain⟨m,hm⟩:∃m,m=mostE E:=⟨_,rfl⟩;rw[←hm] at HM HF;obtain⟨f,hf⟩:∃f,f=fitsC E k:=⟨_,rfl⟩;rw[←hf] at HF ⊢;clear hm hf;obtain⟨ix,sub,nm,ty,acc,mp,st,mx,lo,hi,df⟩:=E;have q:=zbf w 90 (entV ⟨ix,sub,nm,ty,acc,mp,st,mx,lo,hi,df⟩ A n c);have hbw:=za7 (Below.refl w.heap.size w) (.cells (entV ⟨ix,sub,nm,ty,acc,mp,st,mx,lo,hi,df⟩ A n c) 90);unfold entV at *
 go_enter Tryz.func150,Tryz.ntmps150
 go_wp2_with fail
 refine (HM.out _).mono ?_;rintro e w1 ⟨rfl,hb1⟩;have q1:=q.below hb1 q.lt;have hbw1:=za5 hb1 hbw;by_cases h0:m < k
 · have HR:Hid (f=101122066):=zak (by rw[HF.out,if_pos h0]);go_wp2_with fail
   go_ret
   exact⟨zau HR.out.symm,hbw1⟩
 · have HR:Hid (f=if k < tySize ty then 101122067 else 0):=zak (by rw[HF.out,if_neg h0]);obtain⟨bC,bD,bE,bF,bG,bH,bI,bJ,bK,bL,bh⟩:=zbb q1;have cG:=q1.frozen;go_wp2_with fail
   refine (zgf ty _).mono ?_;rintro e w2 ⟨rfl,hb2⟩;have hbw2:=za5 hb2 hbw1;obtain⟨s,hs⟩:∃s,s=tySize ty:=⟨_,rfl⟩;rw[←hs] at HR ⊢;clear hs;by_cases h1:k < s
   · have HR2:Hid (f=101122067):=zak (by rw[HR.out,if_pos h1]);go_wp2_with fail
     go_ret
     exact⟨zau HR2.out.symm,hbw2⟩
   · have HR2:Hid (f=0):=zak (by rw[HR.out,if_neg h1]);go_wp2_with fail
     go_ret
     exact⟨zau HR2.out.symm,hbw2⟩
section
variable {F:Nat→Prop} {p n cl cv:Nat} {Av:Option Addr} {L:List Ent} {V:List (List UInt8)} {ds es:List (Option Addr×Nat)} {gl:Nat}
def SMayR (L:List Ent) (ix sub:Int) (w:World) (e:Ending) (w':World):Prop:=
 ∃E A n c,e= .returned (.tuple #[.agg (entV E A n c),.int .u32 (smayC L ix sub)])∧ (smayC L ix sub=0→E=entK L (locK L ix sub))∧ Below w.heap.size w w'
theorem zhp (ix sub:Int)(w:World)(hD:DB 100 w F p (some ⟨gl,0,none⟩) n cl Av cv L V ds es)(hs:SortedE L)(hn:n≤1000) :
 Calls Tryz.prog 149 #[.pointer (some ⟨p,0,none⟩),.int .i64 ix,.int .i64 sub] w (SMayR L ix sub w):=by
 have HS:=zak hs;have H1:=zak hn;have hbw:=za7 (Below.refl w.heap.size w) (.cells (entV zeroE none 0 0) 90);have q:=zbf w 90 (entV zeroE none 0 0);have HD:=zak (hD.below hbw);have HQ:=zak q;have HP:Hid (∀w1 E A m c,Below w.heap.size w w1→Blk w1 w.heap.size 90 (entV zeroE none 0 0)→ Blk (put11 w1 w.heap.size E A m c) w.heap.size 90 (entV E A m c)∧ Below w.heap.size w (put11 w1 w.heap.size E A m c)):=zak (by
  intro w1 E A m c hb hB;have o1:=zg6 w1 w.heap.size E A m c;exact⟨zg5 hB rfl E A m c,hb.trans (o1.below hb.size (fun i h=>by omega))⟩)
 unfold put11 at HP;have HP':=zak HP;clear hD hs HP;unfold entV zeroE at q hbw;go_enter Tryz.func149,Tryz.ntmps149
 go_wp2_with fail
 refine (zek ix sub _ HD.out HS.out H1.out).mono ?_;rintro e w1 ⟨rfl,hb1⟩;have HD1:=zak (HD.out.below hb1);have hbw1:=za5 hb1 hbw;have HQ1:=zak (HQ.out.below hb1 HQ.out.lt);have q1:=HQ1.out;unfold entV zeroE at q1;obtain⟨bC,bD,bE,bF,bG,bH,bI,bJ,bK,bL,bh⟩:=zbb q1;have cG:=q1.frozen;by_cases hf:0≤findL L ix sub
 · obtain⟨j,hj,hlj,hjl⟩:=zdr hf;obtain⟨E,hE⟩:∃E,L[j]? =some E:=⟨L[j],List.getElem?_eq_getElem _⟩;have hh:hasL L ix sub=true:=by simp[hasL,hf]
   have HC:Hid (smayC L ix sub=writeE E.acc):=zak (by unfold smayC;rw[if_pos (zdd.2 hf),hlj,zdf hE]);have HK:Hid (E=entK L (locK L ix sub)):=zak (by rw[hlj,zdf hE]);rw[hh,hlj];have HE:=zak hE;clear hf hj hlj hh hE;go_wp2_with fail
   refine (zhh j E _ _ p gl n cl cv Av L V ds es HD1.out HE.out).mono ?_;rintro e w2 ⟨A2,c2,rfl,hO2,hb2⟩;clear hO2;have hbw2:=za5 hb2 hbw1;have HQ2:=zak (HQ1.out.below hb2 HQ1.out.lt);have HQ3:=zak (HQ2.out.alloc (.cells (entV E A2 E.df.length c2) 90));have hbw3:=za7 hbw2 (.cells (entV E A2 E.df.length c2) 90);have q3:=zbf w2 90 (entV E A2 E.df.length c2);have HW:=zak (fun W=>zd9 E A2 E.df.length c2 W);obtain⟨wc,hwc⟩:∃wc,wc=writeE E.acc:=⟨_,rfl⟩;rw[←hwc] at HC HW;clear hwc;have HQ3b:=zak HQ3;clear HQ2;unfold entV at HW q3 hbw3 ⊢;clear bC bD bE bF bG bH bI bJ bK bL bh cG;obtain⟨dX,dY,dZ,ea,eb,ec,ed,ee,ef,eg,dy⟩:=zbb q3
   have fh:=q3.frozen;go_wp2_with fail
   refine (HW.out _).mono ?_;rintro e w4 ⟨rfl,hb4⟩;have hbw4:=za5 hb4 hbw3;have HQ4:=zak (HQ3b.out.out.below hb4 HQ3b.out.out.lt);have q4:=q3.below hb4 q3.lt;have r4:=HQ4.out;unfold entV zeroE at r4;clear dX dY dZ ea eb ec ed ee ef eg dy fh;obtain⟨fV,fW,fX,fY,fZ,gc,gd,gf,gg,gh,fi⟩:=zbb q4;have ie:=q4.frozen;obtain⟨eh,ei,ej,ek,el,en,eo,ep,eq,et,dz⟩:=zbb r4;have fj:=r4.frozen;by_cases h0:wc=0
   · subst h0;go_wp2_with fail
     obtain⟨r1,r2⟩:=HP'.out.out _ E A2 E.df.length c2 hbw4 HQ4.out;exact zhd (E:=E) (A:=A2) (n:=E.df.length) (c:=c2) rfl rfl rfl r1 ⟨E,A2,_,c2,by rw[HC.out];rfl,fun _=>HK.out,r2⟩
   · go_wp2_with fail
     obtain⟨r1,r2⟩:=HP'.out.out _ zeroE none 0 0 hbw4 HQ4.out;exact zhd (E:=zeroE) (A:=none) (n:=0) (c:=0) rfl rfl rfl r1 ⟨zeroE,none,0,0,by rw[HC.out];rfl,fun h=>absurd (by rw[←HC.out];exact h) h0,r2⟩
 · have hh:hasL L ix sub=false:=by simp[hasL,hf]
   have hlk:locK L ix sub=0:=by unfold locK;omega
   have hcz:codeL L ix sub≠0:=fun h=>hf (zdd.1 h)
   have HC:Hid (smayC L ix sub=mayC L ix sub [] false):=zak (by unfold smayC mayC;rw[if_neg hcz,if_neg hcz]);have HCZ:Hid (mayC L ix sub [] false≠0):=zak (by unfold mayC;rw[if_neg hcz];exact hcz);rw[hh,hlk];clear hf hh hlk hcz;go_wp2_with fail
   refine (zg1 ix sub none 0 0 [] _ HD1.out HS.out H1.out rfl (by omega) (by omega) (by intro j u hu;simp at hu)).mono ?_;rintro e w2 ⟨rfl,hb2⟩;have hbw2:=za5 hb2 hbw1;have HQ2:=zak (HQ1.out.below hb2 HQ1.out.lt);have r2:=HQ2.out;unfold entV zeroE at r2;clear bC bD bE bF bG bH bI bJ bK bL bh cG;obtain⟨i5,i6,i7,i8,i9,ja,jb,jc,jd,je,ig⟩:=zbb r2;have kh:=r2.frozen;obtain⟨cc,hcc⟩:∃cc,cc=mayC L ix sub [] false:=⟨_,rfl⟩;rw[←hcc] at HC HCZ ⊢;clear hcc;go_wp2_with fail
   obtain⟨r1,r3⟩:=HP'.out.out _ zeroE none 0 0 hbw2 HQ2.out;exact zhd (E:=zeroE) (A:=none) (n:=0) (c:=0) rfl rfl rfl r1 ⟨zeroE,none,0,0,by rw[HC.out];rfl,fun h=>absurd (by rw[←HC.out];exact h) HCZ.out,r3⟩
end
end
section
open Go.RowKit
def outV (As:Option Addr) (ns cs:Nat) (O:SegO) (A:Option Addr) (n c:Nat):Array Value:=#[.slice As ns cs,.bool O.wr,.int .i64 O.ix,.int .i64 O.sub,.slice A n c]
theorem zhq:(Tryz.prog.info? 93).map (·.size)=some 5:=by kernel_rfl
theorem zhr {fn:Func}{p:Tmp}(h:fn.results= #[.cell p 93]){a:Act}{w:World}{g:Nat}{As:Option Addr}{ns cs:Nat}{O:SegO}{A:Option Addr}{n c:Nat}{R:Ending→World→Prop}(hd:a.defers= [])(hp:a.tmps.getD p undef= .pointer (some ⟨g,0,none⟩))
 (hB:Blk w g 93 (outV As ns cs O A n c)) (hR:R (.returned (.agg (outV As ns cs O A n c))) w):bodyPost Tryz.prog fn R .ret a w:=
 bodyPost_ret (results_cell_row h _ _ _ _ _ _ _ hp hB Tryz.underlying93 rfl zhq) hd hR
def putO (w:World) (g:Nat) (As:Option Addr) (ns cs:Nat) (O:SegO) (A:Option Addr) (n c:Nat):World:=((((w.setCell ⟨g,0,none⟩ (.slice As ns cs)).setCell ⟨g,1,none⟩ (.bool O.wr)).setCell ⟨g,2,none⟩ (.int .i64 O.ix)).setCell ⟨g,3,none⟩ (.int .i64 O.sub)).setCell ⟨g,4,none⟩ (.slice A n c)
theorem zhs {w:World}{g:Nat}{As As':Option Addr}{ns cs ns' cs':Nat}{O O':SegO}{A A':Option Addr}{n c n' c':Nat}(h:Blk w g 93 (outV As ns cs O A n c)):Blk (putO w g As' ns' cs' O' A' n' c') g 93 (outV As' ns' cs' O' A' n' c'):=
 ((((h.set_ 0 (.slice As' ns' cs')).set_ 1 (.bool O'.wr)).set_ 2 (.int .i64 O'.ix)).set_ 3 (.int .i64 O'.sub)).set_ 4 (.slice A' n' c')
theorem zht {w:World}{g p:Nat}{t:TypeId}{arr:Array Value}(h:Blk w p t arr)(hne:p≠g)(As:Option Addr)(ns cs:Nat)(O:SegO)(A:Option Addr)(n c:Nat):Blk (putO w g As ns cs O A n c) p t arr:=
 (((((h.far (p:=⟨g,0,none⟩) hne _).far (p:=⟨g,1,none⟩) hne _).far (p:=⟨g,2,none⟩) hne _).far (p:=⟨g,3,none⟩) hne _).far (p:=⟨g,4,none⟩) hne _)
theorem zhu {F:Nat→Prop}{w W:World}{g:Nat}(h:zbv F w W)(hg:w.heap.size≤g)(As:Option Addr)(ns cs:Nat)(O:SegO)(A:Option Addr)(n c:Nat):zbv F w (putO W g As ns cs O A n c):=
 ((((h.setNew hg _).setNew hg _).setNew hg _).setNew hg _).setNew hg _
theorem zhv {w:World}{B g n c:Nat}{A:Option Addr}{l:List UInt8}(h:zbs w B A n c l)(hg:g < B)(As:Option Addr)(ns cs:Nat)(O:SegO)(A2:Option Addr)(n2 c2:Nat):zbs (putO w g As ns cs O A2 n2 c2) B A n c l:=
 ((((h.set_ (p:=⟨g,0,none⟩) hg _).set_ (p:=⟨g,1,none⟩) hg _).set_ (p:=⟨g,2,none⟩) hg _).set_ (p:=⟨g,3,none⟩) hg _).set_ (p:=⟨g,4,none⟩) hg _
end
end
section
section
open Go.RowKit
structure SV where
 ix:Int
 sub:Int
 data:List UInt8
def SlV (w:World) (A:Option Addr) (L:List SV):Prop:= ∀j v,L[j]? =some v→ ∃b off Aj cj,A=some ⟨b,off,none⟩∧ w.cell? ⟨b,off+j * 3,none⟩=some (.int .i64 v.ix)∧ w.cell? ⟨b,off+j * 3+1,none⟩=some (.int .i64 v.sub)∧
 w.cell? ⟨b,off+j * 3+2,none⟩=some (.slice Aj v.data.length cj)∧ v.data.length≤cj∧Sl w Aj (v.data.map bv)
theorem SlV.keep {w w':World}{A:Option Addr}{L:List SV}(h:SlV w A L)(hk:∀p v,w.cell? p=some v→w'.cell? p=some v):SlV w' A L:=by
 intro j v hv;obtain⟨b,off,Aj,cj,e,h1,h2,h3,h4,h5⟩:=h j v hv;exact⟨b,off,Aj,cj,e,hk _ _ h1,hk _ _ h2,hk _ _ h3,h4,h5.keep hk⟩
theorem SlV.below {w w':World}{A:Option Addr}{L:List SV}(h:SlV w A L)(hb:Below w.heap.size w w'):SlV w' A L:=
 h.keep fun _ _ hc=>(hb.cell (zal hc)).trans hc
end
section
open Go.RowKit
end
end
end Go.Proofs.YtkkpjbjmhaecjaaGreat
