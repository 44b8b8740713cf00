/- None -/
import Derived.Test.YthdbckbpldlkeaaGreatS49
import Derived.Test.YthdbckbpldlkeaaGreatS48
namespace Go.Proofs.YthdbckbpldlkeaaGreat
set_option linter.unusedVariables false
set_option linter.unusedSimpArgs false
set_option linter.unnecessarySimpa false
section
open Go.RowKit
set_option maxRecDepth 100000
set_option maxHeartbeats 8000000
theorem zsp (A:Option Addr) (n c:Nat) (S:List Op23) (w:World) (hn:n=S.length) (hS:SlQ w A S) :
 Calls Tryz.prog 22 #[.slice A n c] w fun e w'=> ∃ x:Bool,e= .returned (.bool x)∧ w=w'∧(x=true→ ∀ k o,k < 80→S[k]? =some o→o.f.data.length≤100):= by
 have HN:=zak hn
 have HS:=zak hS
 clear hn hS
 go_enter Tryz.func22,Tryz.ntmps22
 go_wp2_with fail
 go_loopw [3] (fun s3 wx=> ∃ k:Nat,s3= .int .i64 (k:Nat)∧ k≤n∧k≤80∧w=wx∧Hid (∀ j o,j < k→S[j]? =some o→o.f.data.length≤100)) (fun s3 _=>n - (intOf s3).toNat)
 case atStart=>exact⟨0,rfl,by omega,by omega,rfl,zak (fun j o h=>by omega)⟩
 case round=>
  obtain⟨k,rfl,hk,hk60,rfl,HK⟩:= hrel
  by_cases hlt:k < n∧k < 80
  · obtain⟨hlt,h60⟩:= hlt
    obtain⟨o,ho⟩:∃ o,S[k]? =some o:=⟨S[k]'(by rw[← HN.out];exact hlt),List.getElem?_eq_getElem _⟩
    obtain⟨b,off,Aj,cj,rfl,⟨c0,c1,c2,c3,c4,c5,c6⟩,_,_,_⟩:= HS.out k o ho
    have z0:=zal c0
    simp only[] at z0
    obtain⟨lb,hlb⟩:∃ lb,lb=o.f.data.length:=⟨_,rfl⟩
    rw[← hlb] at c3
    have HLB:=zak hlb
    have HO:=zak ho
    obtain⟨i1,i2,i3⟩:= zdg hlt
    clear hlb ho
    by_cases hb:100 < lb
    · have hbi:(100:Int) < (lb:Int):= by omega
      go_wp2_with fail
      go_ret
      exact⟨false,rfl,rfl,fun h=>by cases h⟩
    · have hbi: ¬ (100:Int) < (lb:Int):= by omega
      have HK2:Hid (∀ j o,j < k+1→S[j]? =some o→o.f.data.length≤100):= zak (fun j o' hj ho'=>by
       by_cases hjk:j < k
       · exact HK.out j o' hjk ho'
       · have:j=k:=by omega
         subst this
         rw[HO.out] at ho'
         injection ho' with ho'
         rw[← ho',← HLB.out]
         omega)
      go_wp2_with fail
      go_roundw
      case rel=>exact⟨k+1,by go_num,by omega,by omega,by trivial,HK2⟩
      case measure=>simp[intOf];omega
  · have HE:Hid (∀ k' o,k' < 80→S[k']? =some o→o.f.data.length≤100):= zak (fun k' o h1 h2=>HK.out k' o (by have:=(List.getElem?_eq_some_iff.1 h2).1;have:=HN.out;omega) h2)
    have hlt':n≤k∨(k < n∧80≤k):= by omega
    rcases hlt' with h | ⟨h1,h2⟩
    all_goals
     go_wp2_with fail
     go_ret
     exact⟨true,rfl,rfl,fun _=>HE.out⟩
def opQV (o:Op23) (Af:Option Addr) (cf:Nat):Array Value:= #[.int .i64 o.kind,.int .i64 o.f.id,.bool o.f.re,.slice Af o.f.data.length cf,.bool o.own,.int .u32 (o.code:Nat),.int .u8 (o.n:Nat)]
def cameF (o:Op23) (node:Int):Frm:=if o.own=true then ⟨1536+node,false,o.f.data⟩ else o.f
theorem zsq (o:Op23) (node:Int):(cameF o node).data=o.f.data:=by unfold cameF;split<;>rfl
theorem zsr:(Tryz.prog.info? 62).map (·.size)=some 3:=by kernel_rfl
theorem zss {fn:Func} {p:Tmp} (h:fn.results= #[.cell p 62]) {a:Act} {w:World} {g:Nat} {v1 v2 v3:Value} {R:Ending→World→Prop} (hd:a.defers= []) (hp:a.tmps.getD p undef= .pointer (some ⟨g,0,none⟩))
 (hB:Blk w g 62 #[v1,v2,v3]) (hR:R (.returned (.agg #[v1,v2,v3])) w):bodyPost Tryz.prog fn R .ret a w:=
 bodyPost_ret (results_cell_row (P:=Tryz.prog) h a.tmps w g _ #[v1,v2,v3] (0,0) _ hp hB Tryz.underlying62 rfl (show _=some (#[v1,v2,v3]:Array Value).size from zsr)) hd hR
theorem zst (o:Op23) (Af:Option Addr) (cf:Nat) (node:Int) (hnd:1≤node∧node≤127) (w:World) :
 Calls Tryz.prog 26 #[.agg (opQV o Af cf),.int .i64 node] w fun e w'=>e= .returned (.agg #[.int .i64 (cameF o node).id,.bool (cameF o node).re,.slice Af o.f.data.length cf])∧ Below w.heap.size w w':=by
 obtain⟨kind,⟨id,re,data⟩,own,code,n⟩:= o
 unfold opQV cameF
 dsimp only
 have hadd:IntKind.i64.wrap (1536+node)=1536+node:=by unfold IntKind.wrap;simp[IntKind.signed,IntKind.bits];omega
 cases own
 · go_enter Tryz.func26,Tryz.ntmps26
   go_wp2_with fail
   refine zss rfl rfl rfl ((zdc w 64 62 _ #[.int .i64 id,.bool re,.slice Af data.length cf]).2.alloc _) ⟨rfl,?_⟩
   all_goals exact bl
 · go_enter Tryz.func26,Tryz.ntmps26
   go_wp2_with fail
   refine zss rfl rfl rfl ((zdc w 64 62 _ #[.int .i64 (1536+node),.bool false,.slice Af data.length cf]).2.alloc _) ⟨rfl,?_⟩
   all_goals exact bl
end
section
open Go.RowKit Go.ChangeShapes Go.WideShapes Go.Deep Go.Joins
set_option maxRecDepth 20000
theorem zsu:Tryz.prog.cellsOf 97=11:=by kernel_rfl
section
variable {H:Type} {enc:TypeId×Value→H} {w:World} {base:Nat} {spare:Nat→Bool} {held:Bool}
theorem zsv {fuel:Nat} {v:Value} {x:DataW H×List MemPlace} (h:DataW.trod enc Tryz.prog w base spare held fuel 22 [v]=some x) :
 ∃ (A:Option Addr) (n c:Nat) (L:List Ent),v= .slice A n c∧n=L.length∧n≤c∧SlE w A L:=by
 rcases open_slice Tryz.underlying22 h with ⟨hcs,_⟩ | ⟨a,len,cap,m,n,D,Pl,hcs,_,hl,hm,hmm,_,hi⟩
 · simp at hcs
   exact⟨none,0,0,[],hcs,rfl,Nat.le_refl _,by intro j v hv;simp at hv⟩
 · simp at hcs
   have hlm:len≤m:=by rw[hmm];split<;>omega
   obtain⟨L,hL,hQ⟩:= zrm len (fun i (E:Ent)=> ∃ Aj cj,w.cell? (a.add (i * 11))=some (.int .i64 E.ix)∧ w.cell? ((a.add (i * 11)).add 1)=some (.int .i64 E.sub)∧ w.cell? ((a.add (i * 11)).add 2)=some (.string E.nm)∧ w.cell? ((a.add (i * 11)).add 3)=some (.int .i64 E.ty)∧ w.cell? ((a.add (i * 11)).add 4)=some (.int .i64 E.acc)∧ w.cell? ((a.add (i * 11)).add 5)=some (.bool E.mp)∧ w.cell? ((a.add (i * 11)).add 6)=some (.bool E.st)∧ w.cell? ((a.add (i * 11)).add 7)=some (.int .i64 E.mx)∧ w.cell? ((a.add (i * 11)).add 8)=some (.int .i64 E.lo)∧ w.cell? ((a.add (i * 11)).add 9)=some (.int .i64 E.hi)∧ w.cell? ((a.add (i * 11)).add 10)=some (.slice Aj E.df.length cj)∧ E.df.length≤cj∧Sl w Aj (E.df.map bv)) (by
    intro i hilen
    obtain⟨cs',hc,ht⟩:= hi i (by omega)
    rw[zsu] at hc
    obtain⟨_,hcl,hat⟩:= World.cells?_some hc
    obtain⟨ys,k,_,_,_,_,hf⟩:= DataW.trod_struct Tryz.underlying97 ht
    match cs',hcl with
    | [v0,v1,v2,v3,v4,v5,v6,v7,v8,v9,v10],_=>
      have f0:DataW.trod enc Tryz.prog w base spare held k 3 ((([v0,v1,v2,v3,v4,v5,v6,v7,v8,v9,v10]:List Value).drop 0).take (Tryz.prog.cellsOf 3))=ys[0]? :=hf 0 _ rfl
      have f1:DataW.trod enc Tryz.prog w base spare held k 3 ((([v0,v1,v2,v3,v4,v5,v6,v7,v8,v9,v10]:List Value).drop 1).take (Tryz.prog.cellsOf 3))=ys[1]? :=hf 1 _ rfl
      have f2:DataW.trod enc Tryz.prog w base spare held k 9 ((([v0,v1,v2,v3,v4,v5,v6,v7,v8,v9,v10]:List Value).drop 2).take (Tryz.prog.cellsOf 9))=ys[2]? :=hf 2 _ rfl
      have f3:DataW.trod enc Tryz.prog w base spare held k 3 ((([v0,v1,v2,v3,v4,v5,v6,v7,v8,v9,v10]:List Value).drop 3).take (Tryz.prog.cellsOf 3))=ys[3]? :=hf 3 _ rfl
      have f4:DataW.trod enc Tryz.prog w base spare held k 3 ((([v0,v1,v2,v3,v4,v5,v6,v7,v8,v9,v10]:List Value).drop 4).take (Tryz.prog.cellsOf 3))=ys[4]? :=hf 4 _ rfl
      have f5:DataW.trod enc Tryz.prog w base spare held k 4 ((([v0,v1,v2,v3,v4,v5,v6,v7,v8,v9,v10]:List Value).drop 5).take (Tryz.prog.cellsOf 4))=ys[5]? :=hf 5 _ rfl
      have f6:DataW.trod enc Tryz.prog w base spare held k 4 ((([v0,v1,v2,v3,v4,v5,v6,v7,v8,v9,v10]:List Value).drop 6).take (Tryz.prog.cellsOf 4))=ys[6]? :=hf 6 _ rfl
      have f7:DataW.trod enc Tryz.prog w base spare held k 3 ((([v0,v1,v2,v3,v4,v5,v6,v7,v8,v9,v10]:List Value).drop 7).take (Tryz.prog.cellsOf 3))=ys[7]? :=hf 7 _ rfl
      have f8:DataW.trod enc Tryz.prog w base spare held k 2 ((([v0,v1,v2,v3,v4,v5,v6,v7,v8,v9,v10]:List Value).drop 8).take (Tryz.prog.cellsOf 2))=ys[8]? :=hf 8 _ rfl
      have f9:DataW.trod enc Tryz.prog w base spare held k 2 ((([v0,v1,v2,v3,v4,v5,v6,v7,v8,v9,v10]:List Value).drop 9).take (Tryz.prog.cellsOf 2))=ys[9]? :=hf 9 _ rfl
      have f10:DataW.trod enc Tryz.prog w base spare held k 27 ((([v0,v1,v2,v3,v4,v5,v6,v7,v8,v9,v10]:List Value).drop 10).take (Tryz.prog.cellsOf 27))=ys[10]? :=hf 10 _ rfl
      rw[show Tryz.prog.cellsOf 4=1 by kernel_rfl] at f5 f6
      rw[show Tryz.prog.cellsOf 27=1 by kernel_rfl] at f10
      rw[show Tryz.prog.cellsOf 3=1 by kernel_rfl] at f0 f1 f3 f4 f7
      rw[show Tryz.prog.cellsOf 2=1 by kernel_rfl] at f8 f9
      rw[show Tryz.prog.cellsOf 9=1 by kernel_rfl] at f2
      simp only[List.drop_zero,List.take_succ_cons,List.take_zero,List.drop_succ_cons] at f0 f1 f2 f3 f4 f5 f6 f7 f8 f9 f10
      have hy:ys.length=11:=by assumption
      rw[List.getElem?_eq_getElem (show 0 < ys.length by omega)] at f0
      rw[List.getElem?_eq_getElem (show 1 < ys.length by omega)] at f1
      rw[List.getElem?_eq_getElem (show 2 < ys.length by omega)] at f2
      rw[List.getElem?_eq_getElem (show 3 < ys.length by omega)] at f3
      rw[List.getElem?_eq_getElem (show 4 < ys.length by omega)] at f4
      rw[List.getElem?_eq_getElem (show 5 < ys.length by omega)] at f5
      rw[List.getElem?_eq_getElem (show 6 < ys.length by omega)] at f6
      rw[List.getElem?_eq_getElem (show 7 < ys.length by omega)] at f7
      rw[List.getElem?_eq_getElem (show 8 < ys.length by omega)] at f8
      rw[List.getElem?_eq_getElem (show 9 < ys.length by omega)] at f9
      rw[List.getElem?_eq_getElem (show 10 < ys.length by omega)] at f10
      obtain⟨x0,h0,_,_⟩:= DataW.trod_int Tryz.underlying3 f0
      obtain⟨x1,h1,_,_⟩:= DataW.trod_int Tryz.underlying3 f1
      obtain⟨x2,h2,_⟩:= DataW.trod_string Tryz.underlying9 f2
      obtain⟨x3,h3,_,_⟩:= DataW.trod_int Tryz.underlying3 f3
      obtain⟨x4,h4,_,_⟩:= DataW.trod_int Tryz.underlying3 f4
      obtain⟨x5,h5,_⟩:= DataW.trod_bool Tryz.underlying4 f5
      obtain⟨x6,h6,_⟩:= DataW.trod_bool Tryz.underlying4 f6
      obtain⟨x7,h7,_,_⟩:= DataW.trod_int Tryz.underlying3 f7
      obtain⟨x8,h8,_,_⟩:= DataW.trod_int Tryz.underlying2 f8
      obtain⟨x9,h9,_,_⟩:= DataW.trod_int Tryz.underlying2 f9
      obtain⟨Aj,cj,data,h10,hA1,hA2⟩:= zrn f10
      simp only[List.cons.injEq,and_true] at h0 h1 h2 h3 h4 h5 h6 h7 h8 h9
      subst h0
      subst h1
      subst h2
      subst h3
      subst h4
      subst h5
      subst h6
      subst h7
      subst h8
      subst h9
      subst h10
      have a0:=hat 0 (by omega)
      have a1:=hat 1 (by omega)
      have a2:=hat 2 (by omega)
      have a3:=hat 3 (by omega)
      have a4:=hat 4 (by omega)
      have a5:=hat 5 (by omega)
      have a6:=hat 6 (by omega)
      have a7:=hat 7 (by omega)
      have a8:=hat 8 (by omega)
      have a9:=hat 9 (by omega)
      have a10:=hat 10 (by omega)
      refine⟨⟨x0,x1,x2,x3,x4,x5,x6,x7,x8,x9,data⟩,Aj,cj,?_,a1,a2,a3,a4,a5,a6,a7,a8,a9,a10,hA1,hA2⟩
      simpa [Addr.add] using a0)
   refine⟨some a,len,cap,L,hcs,hL.symm,hl,?_⟩
   intro j E hE
   obtain⟨Aj,cj,q0,q1,q2,q3,q4,q5,q6,q7,q8,q9,q10,hx1,hx2⟩:= hQ j E hE
   rw[zam] at q1 q2 q3 q4 q5 q6 q7 q8 q9 q10
   obtain⟨b,off,spot⟩:= a
   obtain⟨v0,hv0⟩:∃ v0,L[0]? =some v0:=⟨L[0]'(by have:=(List.getElem?_eq_some_iff.1 hE).1;omega),List.getElem?_eq_getElem _⟩
   obtain⟨_,_,g0,_⟩:= hQ 0 v0 hv0
   have:spot=none:=by
    have:=World.cell?_spot g0
    simpa [Addr.add] using this
   subst this
   exact⟨b,off,Aj,cj,rfl,⟨by simpa [Addr.add_lit] using q0,by simpa [Addr.add_lit,Nat.add_assoc] using q1,by simpa [Addr.add_lit,Nat.add_assoc] using q2,by simpa [Addr.add_lit,Nat.add_assoc] using q3,by simpa [Addr.add_lit,Nat.add_assoc] using q4,by simpa [Addr.add_lit,Nat.add_assoc] using q5,by simpa [Addr.add_lit,Nat.add_assoc] using q6,by simpa [Addr.add_lit,Nat.add_assoc] using q7,by simpa [Addr.add_lit,Nat.add_assoc] using q8,by simpa [Addr.add_lit,Nat.add_assoc] using q9,by simpa [Addr.add_lit,Nat.add_assoc] using q10⟩,hx1,hx2⟩
end
end
section
open Go.RowKit Go.Maps
set_option maxRecDepth 100000
set_option maxHeartbeats 16000000
theorem zsw {L:List Ent} {a:Int} (h:NewP L 0 a):SortedE L:=by
 rcases h with ⟨_,h,_⟩ | ⟨_,h,_⟩ | ⟨_,_,_,h⟩
 · omega
 · exact absurd rfl h
 · exact zb8 _ L rfl h
theorem zsx {L:List Ent} {a:Int} (h:NewP L 0 a):∀ E ∈ L,rightE E=0:=by
 rcases h with ⟨_,h,_⟩ | ⟨_,h,_⟩ | ⟨_,_,_,h⟩
 · omega
 · exact absurd rfl h
 · intro E hE
   obtain⟨k,hk,rfl⟩:= List.getElem_of_mem hE
   exact zb7 (List.getElem?_eq_getElem hk) (h k hk)
theorem zsy (i o:Int):SdPl ⟨segZ,blkZ,i,o,0⟩:= ⟨zr2,zr2⟩
def LfOk (X:SdoS):Prop:=0≤X.left∧X.left≤50
def SKI (w0:World) (p ps pb pd:Nat) (L:List Ent) (V:List (List UInt8)) (wr:World):Prop:=
 ∃ F G X,SKM w0.heap.size p ps pb pd L F G V X wr∧X.nin=1545∧X.nout=1417∧(SdPl X∧LfOk X)∧ Below w0.heap.size w0 wr
theorem zsz {X:SdoS} (h:LfOk X):LfOk (sdAbS X):= by
 unfold LfOk
 rw[(zoo X).2.2]
 exact h
theorem lf_ds {L:List Ent} {V:List (List UInt8)} {X:SdoS} {M:Ms} (h:LfOk X):LfOk (sdDS L V X M):= by
 unfold sdDS
 (repeat' split)<;> exact h
theorem zs0 {L:List Ent} {V:List (List UInt8)} {X:SdoS} {f:Frm} (h:LfOk X):LfOk (sdRS L V X f):= by
 unfold sdRS
 split
 · split
   · exact zsz (X:={ X with left:=50 }) ⟨by show (0:Int)≤ 50;decide,by show (50:Int)≤ 50;decide⟩
   · exact lf_ds (X:={ X with left:=50 }) ⟨by show (0:Int)≤ 50;decide,by show (50:Int)≤ 50;decide⟩
 · exact h
theorem zs1 {X:SdoS} (hW:SdWf X) (h:LfOk X):LfOk (sdTS X):= by
 unfold sdTS
 split
 · rename_i hb
   have:=hW.lf hb
   split
   · exact⟨by show 0≤X.left - 1;omega,by show X.left - 1≤50;omega⟩
   · exact zsz (X:={ X with left:=X.left - 1 }) ⟨by show 0≤X.left - 1;omega,by show X.left - 1≤50;omega⟩
 · exact h
theorem zs2 {L:List Ent} {V:List (List UInt8)} {X:SdoS} {f:Frm} (hW:SdWf X):(sdRO L V X f).ms.length≤1000:=by
 unfold sdRO
 split
 · split
   · show (sdAbL X _).length≤1000
     rw[zon]
     decide
   · exact zo8 hW.bk (znv _ _)
 · exact Nat.zero_le _
theorem zs3 {L:List Ent} {V:List (List UInt8)} {X:SdoS} {f:Frm} (h:sdReq X f=false):sdRO L V X f=outZ:=by
 unfold sdRO
 rw[if_neg (by rw[h];decide)]
section
variable {N p ps pb pd:Nat} {L:List Ent} {F G Z:Nat→Prop} {V:List (List UInt8)} {X:SdoS} {W W':World}
theorem SKM.far (h:SKM N p ps pb pd L F G V X W) (ho:zdv Z W W') (hZ:∀ q,Z q→q < W.heap.size→q≠p∧q≠ps∧q≠pb∧ ¬ F q∧ ¬ G q):SKM N p ps pb pd L F G V X W':=by
 have hz:=ho.size
 exact { h with
  db:=h.db.keep (fun g hg hl=>ho.block g hl (fun hf=>(hZ g hf hl).2.2.2.1 hg))
  dv:=(h.dv.keep (fun q hq hl=>ho.block q hl (fun hf=>by
   obtain⟨b1,b2,b3,_,b5⟩:= hZ q hf hl
   rcases hq with hq | hq | hq | hq
   · exact b1 hq
   · exact b2 hq
   · exact b3 hq
   · exact b5 hq)) hz).mono (fun q _ hq=>hq.1) h.dv.ng
  lF:=fun g hg=>⟨(h.lF g hg).1,Nat.lt_of_lt_of_le (h.lF g hg).2 hz⟩
  lG:=fun g hg=>⟨Nat.lt_of_lt_of_le (h.lG g hg).1 hz,(h.lG g hg).2⟩ }
end
theorem zs4 {L:List Ent} {ix sub:Int} {b:List UInt8}:∃ k:Nat,mayC L ix sub b false=(k:Int)∧ k≤4294967295:=by
 have h:0≤mayC L ix sub b false∧mayC L ix sub b false≤4294967295:=by
  unfold mayC valC valueE writeE codeL
  (repeat' split)<;> omega
 exact⟨(mayC L ix sub b false).toNat,by omega,by omega⟩
end
end Go.Proofs.YthdbckbpldlkeaaGreat
