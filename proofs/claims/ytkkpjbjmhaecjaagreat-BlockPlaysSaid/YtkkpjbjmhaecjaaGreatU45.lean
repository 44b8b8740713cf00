/- None -/
import Derived.Test.YtkkpjbjmhaecjaaGreatRows
import Derived.ProofKit
import Derived.OpenShut
import Derived.ChangeOld
import Derived.Deep.Slices
import Derived.Deep.Fields
import Derived.Lib.SmallJoins
import Derived.Test.YtkkpjbjmhaecjaaGreatU13
namespace Go.Proofs.YtkkpjbjmhaecjaaGreat
set_option linter.all false
set_option maxRecDepth 20000
section
open Go.RowKit Go.ChangeShapes Go.WideShapes Go.Deep
theorem zoj:Tryz.prog.cellsOf 5=1:=by kernel_rfl
theorem zok (zs:List Int)(k:Nat)(hz:∀n ∈ zs,(Lit.int .u8 n).wf=true):∃l:List UInt8,l.length=(zs.take k).length∧ ∀i,i < l.length→ ∃c,l[i]? =some c∧zs.getD i 0=(c.toNat:Int):=by
 refine⟨(zs.take k).map fun n=>UInt8.ofNat n.toNat,by simp,?_⟩;intro i hi;simp at hi;have hlt:i < zs.length:=by omega
 refine⟨UInt8.ofNat (zs[i]).toNat,?_,?_⟩
 · rw[List.getElem?_map,List.getElem?_take,if_pos (by omega),List.getElem?_eq_getElem hlt];rfl
 · have hw:=hz _ (List.getElem_mem hlt);have hb:0≤zs[i]∧ zs[i]≤ 255:=by simpa [Lit.wf,IntKind.min,IntKind.max,IntKind.signed,IntKind.bits] using hw
   rw[List.getD_eq_getElem?_getD,List.getElem?_eq_getElem hlt];simp only[Option.getD_some,UInt8.toNat_ofNat'];omega
theorem zol {α:Type}(n:Nat)(Q:Nat→α→Prop)(h:∀i,i < n→ ∃a,Q i a):∃L:List α,L.length=n∧ ∀i a,L[i]? =some a→Q i a:=by
 induction n with
 | zero=>exact⟨[],rfl,by intro i a h;simp at h⟩
 | succ n ih=>
   obtain⟨L,hL,hQ⟩:=ih fun i hi=>h i (by omega)
   obtain⟨a,ha⟩:=h n (by omega);refine⟨L ++ [a],by simp[hL],?_⟩;intro i b hb;rcases Nat.lt_or_ge i n with hi | hi
   · rw[List.getElem?_append_left (by omega)] at hb;exact hQ i b hb
   · have:i < (L ++ [a]).length:=(List.getElem?_eq_some_iff.1 hb).1
     simp[hL] at this;obtain rfl:i=n:=by omega
     rw[List.getElem?_append_right (by omega),hL] at hb;simp at hb;subst hb;exact ha
section
variable {H:Type} {enc:TypeId×Value→H} {w:World} {base:Nat} {spare:Nat→Bool} {held:Bool}
theorem zom {fuel:Nat}{v:Value}{x:DataW H×List MemPlace}(h:DataW.trod enc Tryz.prog w base spare held fuel 27 [v]=some x) :
 ∃(A:Option Addr) (c:Nat) (l:List UInt8),v= .slice A l.length c∧l.length≤c∧Sl w A (l.map bv):=by
 rcases open_ints Tryz.underlying27 Tryz.underlying5 zoj h with ⟨hcs,_⟩ | ⟨a,len,cap,zs,hcs,_,hl,hm,hz,_,hcell,hwz⟩
 · simp at hcs;exact⟨none,0,[],hcs,Nat.le_refl _,Sl.nil _ _⟩
 · simp at hcs;obtain⟨l,hll,hg⟩:=zok zs len hwz;have hlz:len≤zs.length:=by rw[hz];split<;>omega
   have hlen:l.length=len:=by rw[hll,List.length_take];omega
   refine⟨some a,cap,l,by rw[hlen];exact hcs,by omega,?_⟩
   · intro j u hu;have hj:j < l.length:=by have:=(List.getElem?_eq_some_iff.1 hu).1;simpa using this
     obtain⟨c,hc,hzc⟩:=hg j hj;refine⟨a,rfl,?_⟩;rw[hcell j (by omega),hzc];rw[List.getElem?_map,hc] at hu
     simpa [bv] using hu
end
end
section
open Go.RowKit Go.ChangeShapes Go.WideShapes Go.Deep Go.Joins
theorem zon:Tryz.prog.cellsOf 90=11:=by kernel_rfl
section
variable {H:Type} {enc:TypeId×Value→H} {w:World} {base:Nat} {spare:Nat→Bool} {held:Bool}
theorem zoo {fuel:Nat}{v:Value}{x:DataW H×List MemPlace}(h:DataW.trod enc Tryz.prog w base spare held fuel 22 [v]=some x) :
 ∃(A:Option Addr) (n c:Nat) (L:List Ent),v= .slice A n c∧n=L.length∧n≤c∧SlE w A L:=by
 rcases open_slice Tryz.underlying22 h with ⟨hcs,_⟩ | ⟨a,len,cap,m,n,D,Pl,hcs,_,hl,hm,hmm,_,hi⟩
 · simp at hcs;exact⟨none,0,0,[],hcs,rfl,Nat.le_refl _,by intro j v hv;simp at hv⟩
 · simp at hcs;have hlm:len≤m:=by rw[hmm];split<;>omega
   obtain⟨L,hL,hQ⟩:=zol len (fun i (E:Ent)=> ∃Aj cj,w.cell? (a.add (i * 11))=some (.int .i64 E.ix)∧ w.cell? ((a.add (i * 11)).add 1)=some (.int .i64 E.sub)∧ w.cell? ((a.add (i * 11)).add 2)=some (.string E.nm)∧ w.cell? ((a.add (i * 11)).add 3)=some (.int .i64 E.ty)∧ w.cell? ((a.add (i * 11)).add 4)=some (.int .i64 E.acc)∧ w.cell? ((a.add (i * 11)).add 5)=some (.bool E.mp)∧ w.cell? ((a.add (i * 11)).add 6)=some (.bool E.st)∧ w.cell? ((a.add (i * 11)).add 7)=some (.int .i64 E.mx)∧ w.cell? ((a.add (i * 11)).add 8)=some (.int .i64 E.lo)∧ w.cell? ((a.add (i * 11)).add 9)=some (.int .i64 E.hi)∧ w.cell? ((a.add (i * 11)).add 10)=some (.slice Aj E.df.length cj)∧ E.df.length≤cj∧Sl w Aj (E.df.map bv)) (by
    intro i hilen;obtain⟨cs',hc,ht⟩:=hi i (by omega);rw[zon] at hc;obtain⟨_,hcl,hat⟩:=World.cells?_some hc;obtain⟨ys,k,_,_,_,_,hf⟩:=DataW.trod_struct Tryz.underlying90 ht
    match cs',hcl with
    | [v0,v1,v2,v3,v4,v5,v6,v7,v8,v9,v10],_=>
      have f0:DataW.trod enc Tryz.prog w base spare held k 3 ((([v0,v1,v2,v3,v4,v5,v6,v7,v8,v9,v10]:List Value).drop 0).take (Tryz.prog.cellsOf 3))=ys[0]? :=hf 0 _ rfl;have f1:DataW.trod enc Tryz.prog w base spare held k 3 ((([v0,v1,v2,v3,v4,v5,v6,v7,v8,v9,v10]:List Value).drop 1).take (Tryz.prog.cellsOf 3))=ys[1]? :=hf 1 _ rfl;have f2:DataW.trod enc Tryz.prog w base spare held k 9 ((([v0,v1,v2,v3,v4,v5,v6,v7,v8,v9,v10]:List Value).drop 2).take (Tryz.prog.cellsOf 9))=ys[2]? :=hf 2 _ rfl;have f3:DataW.trod enc Tryz.prog w base spare held k 3 ((([v0,v1,v2,v3,v4,v5,v6,v7,v8,v9,v10]:List Value).drop 3).take (Tryz.prog.cellsOf 3))=ys[3]? :=hf 3 _ rfl
      have f4:DataW.trod enc Tryz.prog w base spare held k 3 ((([v0,v1,v2,v3,v4,v5,v6,v7,v8,v9,v10]:List Value).drop 4).take (Tryz.prog.cellsOf 3))=ys[4]? :=hf 4 _ rfl;have f5:DataW.trod enc Tryz.prog w base spare held k 4 ((([v0,v1,v2,v3,v4,v5,v6,v7,v8,v9,v10]:List Value).drop 5).take (Tryz.prog.cellsOf 4))=ys[5]? :=hf 5 _ rfl;have f6:DataW.trod enc Tryz.prog w base spare held k 4 ((([v0,v1,v2,v3,v4,v5,v6,v7,v8,v9,v10]:List Value).drop 6).take (Tryz.prog.cellsOf 4))=ys[6]? :=hf 6 _ rfl;have f7:DataW.trod enc Tryz.prog w base spare held k 3 ((([v0,v1,v2,v3,v4,v5,v6,v7,v8,v9,v10]:List Value).drop 7).take (Tryz.prog.cellsOf 3))=ys[7]? :=hf 7 _ rfl
      have f8:DataW.trod enc Tryz.prog w base spare held k 2 ((([v0,v1,v2,v3,v4,v5,v6,v7,v8,v9,v10]:List Value).drop 8).take (Tryz.prog.cellsOf 2))=ys[8]? :=hf 8 _ rfl;have f9:DataW.trod enc Tryz.prog w base spare held k 2 ((([v0,v1,v2,v3,v4,v5,v6,v7,v8,v9,v10]:List Value).drop 9).take (Tryz.prog.cellsOf 2))=ys[9]? :=hf 9 _ rfl;have f10:DataW.trod enc Tryz.prog w base spare held k 27 ((([v0,v1,v2,v3,v4,v5,v6,v7,v8,v9,v10]:List Value).drop 10).take (Tryz.prog.cellsOf 27))=ys[10]? :=hf 10 _ rfl;rw[show Tryz.prog.cellsOf 4=1 by kernel_rfl] at f5 f6;rw[show Tryz.prog.cellsOf 27=1 by kernel_rfl] at f10
      rw[show Tryz.prog.cellsOf 3=1 by kernel_rfl] at f0 f1 f3 f4 f7;rw[show Tryz.prog.cellsOf 2=1 by kernel_rfl] at f8 f9;rw[show Tryz.prog.cellsOf 9=1 by kernel_rfl] at f2;simp only[List.drop_zero,List.take_succ_cons,List.take_zero,List.drop_succ_cons] at f0 f1 f2 f3 f4 f5 f6 f7 f8 f9 f10;have hy:ys.length=11:=by assumption
      rw[List.getElem?_eq_getElem (show 0 < ys.length by omega)] at f0;rw[List.getElem?_eq_getElem (show 1 < ys.length by omega)] at f1;rw[List.getElem?_eq_getElem (show 2 < ys.length by omega)] at f2;rw[List.getElem?_eq_getElem (show 3 < ys.length by omega)] at f3;rw[List.getElem?_eq_getElem (show 4 < ys.length by omega)] at f4;rw[List.getElem?_eq_getElem (show 5 < ys.length by omega)] at f5;rw[List.getElem?_eq_getElem (show 6 < ys.length by omega)] at f6;rw[List.getElem?_eq_getElem (show 7 < ys.length by omega)] at f7;rw[List.getElem?_eq_getElem (show 8 < ys.length by omega)] at f8;rw[List.getElem?_eq_getElem (show 9 < ys.length by omega)] at f9
      rw[List.getElem?_eq_getElem (show 10 < ys.length by omega)] at f10;obtain⟨x0,h0,_,_⟩:=DataW.trod_int Tryz.underlying3 f0;obtain⟨x1,h1,_,_⟩:=DataW.trod_int Tryz.underlying3 f1;obtain⟨x2,h2,_⟩:=DataW.trod_string Tryz.underlying9 f2;obtain⟨x3,h3,_,_⟩:=DataW.trod_int Tryz.underlying3 f3;obtain⟨x4,h4,_,_⟩:=DataW.trod_int Tryz.underlying3 f4;obtain⟨x5,h5,_⟩:=DataW.trod_bool Tryz.underlying4 f5;obtain⟨x6,h6,_⟩:=DataW.trod_bool Tryz.underlying4 f6;obtain⟨x7,h7,_,_⟩:=DataW.trod_int Tryz.underlying3 f7;obtain⟨x8,h8,_,_⟩:=DataW.trod_int Tryz.underlying2 f8;obtain⟨x9,h9,_,_⟩:=DataW.trod_int Tryz.underlying2 f9
      obtain⟨Aj,cj,data,h10,hA1,hA2⟩:=zom f10;simp only[List.cons.injEq,and_true] at h0 h1 h2 h3 h4 h5 h6 h7 h8 h9;subst h0;subst h1;subst h2;subst h3;subst h4;subst h5;subst h6;subst h7;subst h8;subst h9;subst h10;have a0:=hat 0 (by omega);have a1:=hat 1 (by omega);have a2:=hat 2 (by omega);have a3:=hat 3 (by omega);have a4:=hat 4 (by omega);have a5:=hat 5 (by omega);have a6:=hat 6 (by omega);have a7:=hat 7 (by omega);have a8:=hat 8 (by omega);have a9:=hat 9 (by omega);have a10:=hat 10 (by omega);refine⟨⟨x0,x1,x2,x3,x4,x5,x6,x7,x8,x9,data⟩,Aj,cj,?_,a1,a2,a3,a4,a5,a6,a7,a8,a9,a10,hA1,hA2⟩
      simpa [Addr.add] using a0)
   refine⟨some a,len,cap,L,hcs,hL.symm,hl,?_⟩;intro j E hE;obtain⟨Aj,cj,q0,q1,q2,q3,q4,q5,q6,q7,q8,q9,q10,hx1,hx2⟩:=hQ j E hE;rw[zam] at q1 q2 q3 q4 q5 q6 q7 q8 q9 q10;obtain⟨b,off,spot⟩:=a;obtain⟨v0,hv0⟩:∃v0,L[0]? =some v0:=⟨L[0]'(by have:=(List.getElem?_eq_some_iff.1 hE).1;omega),List.getElem?_eq_getElem _⟩;obtain⟨_,_,g0,_⟩:=hQ 0 v0 hv0
   have:spot=none:=by
    have:=World.cell?_spot g0
    simpa [Addr.add] using this
   subst this;exact⟨b,off,Aj,cj,rfl,⟨by simpa [Addr.add_lit] using q0,by simpa [Addr.add_lit,Nat.add_assoc] using q1,by simpa [Addr.add_lit,Nat.add_assoc] using q2,by simpa [Addr.add_lit,Nat.add_assoc] using q3,by simpa [Addr.add_lit,Nat.add_assoc] using q4,by simpa [Addr.add_lit,Nat.add_assoc] using q5,by simpa [Addr.add_lit,Nat.add_assoc] using q6,by simpa [Addr.add_lit,Nat.add_assoc] using q7,by simpa [Addr.add_lit,Nat.add_assoc] using q8,by simpa [Addr.add_lit,Nat.add_assoc] using q9,by simpa [Addr.add_lit,Nat.add_assoc] using q10⟩,hx1,hx2⟩
end
end
end Go.Proofs.YtkkpjbjmhaecjaaGreat
