/- None -/
import Derived.ChangeSame
import Derived.ChangeVars
import Derived.JoinedOf
import Derived.RowKitTokens
import Derived.LaidLaws
import Derived.LaidHandle
import Derived.Stop.LaidErr
import Derived.Test.YtehabbnohoomjaaGreatDoorP50
namespace Go.Proofs.YtehabbnohoomjaaGreatDoor
set_option linter.unusedVariables false
set_option linter.unusedSimpArgs false
set_option linter.unnecessarySimpa false
section
open Go.RowKit Go.ChangeShapes Go.WideShapes
set_option maxRecDepth 100000
set_option maxHeartbeats 8000000
theorem g_et:Tryz.prog.globalNamed "errors.errorType" =some 0:=by kernel_rfl
theorem g_1:Tryz.prog.globalNamed "wheelhouse/fault.errProtocol" =some 1:=by kernel_rfl
theorem g_2:Tryz.prog.globalNamed "wheelhouse/fault.errAccess" =some 2:=by kernel_rfl
theorem g_3:Tryz.prog.globalNamed "wheelhouse/fault.errSize" =some 3:=by kernel_rfl
theorem g_4:Tryz.prog.globalNamed "wheelhouse/fault.errValue" =some 4:=by kernel_rfl
theorem g_5:Tryz.prog.globalNamed "wheelhouse/fault.errDevice" =some 5:=by kernel_rfl
theorem gt_1:(Tryz.prog.globals[1]?).map (·.type)=some 143:=by kernel_rfl
theorem gt_2:(Tryz.prog.globals[2]?).map (·.type)=some 143:=by kernel_rfl
theorem gt_3:(Tryz.prog.globals[3]?).map (·.type)=some 143:=by kernel_rfl
theorem gt_4:(Tryz.prog.globals[4]?).map (·.type)=some 143:=by kernel_rfl
theorem gt_5:(Tryz.prog.globals[5]?).map (·.type)=some 143:=by kernel_rfl
theorem z1f:(Tryz.prog.cutTypes.find? (·.1 == "internal/reflectlite.rtype")).map (·.2)=some 238:=by kernel_rfl
theorem z1g:((List.range Tryz.prog.types.size).filter fun t=>Tryz.prog.rowNamed t [101,114,114,111,114])= [143]:= by kernel_rfl
theorem z1h: "*" ++ "errors.errorString" = "*errors.errorString" := by decide
theorem z1i (u:TypeId) (h:Tryz.prog.typeName? 3 u=some "*errors.errorString"):u=279:=
 typeName_ptr_named (nm:= "errors.errorString") (by rw[z1h];kernel_rfl) (by kernel_rfl) (by decide) u (by rw[z1h];exact h)
def fiveL:List (String×DataW Unit):= [("wheelhouse/fault.errProtocol",Rows.laid_wheelhouse_fault_errProtocol),("wheelhouse/fault.errAccess",Rows.laid_wheelhouse_fault_errAccess),("wheelhouse/fault.errSize",Rows.laid_wheelhouse_fault_errSize),("wheelhouse/fault.errValue",Rows.laid_wheelhouse_fault_errValue),("wheelhouse/fault.errDevice",Rows.laid_wheelhouse_fault_errDevice)]
def sixL:List (String×DataW Unit):= ("errors.errorType",Rows.laid_errors_errorType) :: fiveL
theorem z1j {W:World} (h:handlesMet Tryz.prog [("errors.errorType",Rows.laid_errors_errorType)] W):W.cell? ⟨0,0,none⟩=some (rty 143):= by
 obtain⟨name,u,ty,e1,e2,e3,e4,e5⟩:= h _ (List.mem_singleton.2 rfl)
 have en:name= [101,114,114,111,114]:= (Option.some.inj e1).symm
 subst en
 obtain rfl:=Option.some.inj (z1f.symm.trans e2)
 have hm:ty ∈ (List.range Tryz.prog.types.size).filter fun t=>Tryz.prog.rowNamed t [101,114,114,111,114]:= List.mem_filter.2 ⟨List.mem_range.2 e3,e4⟩
 rw[z1g] at hm
 obtain rfl:=List.mem_singleton.1 hm
 have hh:typeHandle Tryz.prog 143=hdl 143:=by kernel_rfl
 rw[hh] at e5
 unfold rty
 simpa using World.var?_cell g_et e5 0
theorem z1k {W:World} (h:laidMet Tryz.prog fiveL W):∃ a:Nat→Addr,
 W.cell? ⟨1,0,none⟩=some (.iface 279 (.pointer (some (a 1))))∧
 W.cell? ⟨2,0,none⟩=some (.iface 279 (.pointer (some (a 2))))∧
 W.cell? ⟨3,0,none⟩=some (.iface 279 (.pointer (some (a 3))))∧
 W.cell? ⟨4,0,none⟩=some (.iface 279 (.pointer (some (a 4))))∧
 W.cell? ⟨5,0,none⟩=some (.iface 279 (.pointer (some (a 5))))∧
 (∀ n,1≤n→n≤5→ ∃ c t,W.heap[(a n).block]? =some (.cells c t (0,0)))∧
 (∀ n m,1≤n→n≤5→1≤m→m≤5→n≠m→a n≠a m):= by
 obtain⟨ps,⟨g1,t1,cs1,f1,p1,q1,hg1,ht1,hv1,hd1,⟨g2,t2,cs2,f2,p2,q2,hg2,ht2,hv2,hd2,⟨g3,t3,cs3,f3,p3,q3,hg3,ht3,hv3,hd3,⟨g4,t4,cs4,f4,p4,q4,hg4,ht4,hv4,hd4,⟨g5,t5,cs5,f5,p5,q5,hg5,ht5,hv5,hd5,hq5,e5⟩,e4⟩,e3⟩,e2⟩,e1⟩,hnd,hrows⟩:= h
 obtain rfl:=Option.some.inj (g_1.symm.trans hg1)
 obtain rfl:=Option.some.inj (g_2.symm.trans hg2)
 obtain rfl:=Option.some.inj (g_3.symm.trans hg3)
 obtain rfl:=Option.some.inj (g_4.symm.trans hg4)
 obtain rfl:=Option.some.inj (g_5.symm.trans hg5)
 obtain rfl:=Option.some.inj (gt_1.symm.trans ht1)
 obtain rfl:=Option.some.inj (gt_2.symm.trans ht2)
 obtain rfl:=Option.some.inj (gt_3.symm.trans ht3)
 obtain rfl:=Option.some.inj (gt_4.symm.trans ht4)
 obtain rfl:=Option.some.inj (gt_5.symm.trans ht5)
 have hq5':q5= []:= hq5
 subst hq5'
 subst e5
 subst e4
 subst e3
 subst e2
 subst e1
 obtain⟨l1⟩:= cs1
 obtain⟨l2⟩:= cs2
 obtain⟨l3⟩:= cs3
 obtain⟨l4⟩:= cs4
 obtain⟨l5⟩:= cs5
 have ok1:∀ u v,l1= [.iface u v]→ Value.okWide Tryz.prog W .any 0 u v:=fun u v e=>by
  subst e
  exact (hrows 1 0 (by simp[MemPlace.row])).2 u v (by simpa using World.var?_cell hg1 hv1 0)
 have ok2:∀ u v,l2= [.iface u v]→ Value.okWide Tryz.prog W .any 0 u v:=fun u v e=>by
  subst e
  exact (hrows 2 0 (by simp[MemPlace.row])).2 u v (by simpa using World.var?_cell hg2 hv2 0)
 have ok3:∀ u v,l3= [.iface u v]→ Value.okWide Tryz.prog W .any 0 u v:=fun u v e=>by
  subst e
  exact (hrows 3 0 (by simp[MemPlace.row])).2 u v (by simpa using World.var?_cell hg3 hv3 0)
 have ok4:∀ u v,l4= [.iface u v]→ Value.okWide Tryz.prog W .any 0 u v:=fun u v e=>by
  subst e
  exact (hrows 4 0 (by simp[MemPlace.row])).2 u v (by simpa using World.var?_cell hg4 hv4 0)
 have ok5:∀ u v,l5= [.iface u v]→ Value.okWide Tryz.prog W .any 0 u v:=fun u v e=>by
  subst e
  exact (hrows 5 0 (by simp[MemPlace.row])).2 u v (by simpa using World.var?_cell hg5 hv5 0)
 have cE:Tryz.prog.cellsOf 300=1:=by kernel_rfl
 have cS:Tryz.prog.cellsOf 9=1:=by kernel_rfl
 obtain⟨a1,s1,rfl,-,-,-,rfl⟩:= errorString_of_trod Tryz.underlying143 z1i Tryz.underlying279 Tryz.underlying300 rfl rfl Tryz.underlying9 cE cS hd1 ok1
 obtain⟨a2,s2,rfl,-,-,-,rfl⟩:= errorString_of_trod Tryz.underlying143 z1i Tryz.underlying279 Tryz.underlying300 rfl rfl Tryz.underlying9 cE cS hd2 ok2
 obtain⟨a3,s3,rfl,-,-,-,rfl⟩:= errorString_of_trod Tryz.underlying143 z1i Tryz.underlying279 Tryz.underlying300 rfl rfl Tryz.underlying9 cE cS hd3 ok3
 obtain⟨a4,s4,rfl,-,-,-,rfl⟩:= errorString_of_trod Tryz.underlying143 z1i Tryz.underlying279 Tryz.underlying300 rfl rfl Tryz.underlying9 cE cS hd4 ok4
 obtain⟨a5,s5,rfl,-,-,-,rfl⟩:= errorString_of_trod Tryz.underlying143 z1i Tryz.underlying279 Tryz.underlying300 rfl rfl Tryz.underlying9 cE cS hd5 ok5
 have r1:=(hrows a1.block a1.off (by simp[MemPlace.row])).1
 have r2:=(hrows a2.block a2.off (by simp[MemPlace.row])).1
 have r3:=(hrows a3.block a3.off (by simp[MemPlace.row])).1
 have r4:=(hrows a4.block a4.off (by simp[MemPlace.row])).1
 have r5:=(hrows a5.block a5.off (by simp[MemPlace.row])).1
 have n12:a1≠a2:=by rintro rfl;simp[MemPlace.row] at hnd
 have n13:a1≠a3:=by rintro rfl;simp[MemPlace.row] at hnd
 have n14:a1≠a4:=by rintro rfl;simp[MemPlace.row] at hnd
 have n15:a1≠a5:=by rintro rfl;simp[MemPlace.row] at hnd
 have n23:a2≠a3:=by rintro rfl;simp[MemPlace.row] at hnd
 have n24:a2≠a4:=by rintro rfl;simp[MemPlace.row] at hnd
 have n25:a2≠a5:=by rintro rfl;simp[MemPlace.row] at hnd
 have n34:a3≠a4:=by rintro rfl;simp[MemPlace.row] at hnd
 have n35:a3≠a5:=by rintro rfl;simp[MemPlace.row] at hnd
 have n45:a4≠a5:=by rintro rfl;simp[MemPlace.row] at hnd
 have v1:=World.var?_cell hg1 hv1 0
 have v2:=World.var?_cell hg2 hv2 0
 have v3:=World.var?_cell hg3 hv3 0
 have v4:=World.var?_cell hg4 hv4 0
 have v5:=World.var?_cell hg5 hv5 0
 clear hnd hrows hv1 hv2 hv3 hv4 hv5 hd1 hd2 hd3 hd4 hd5 ok1 ok2 ok3 ok4 ok5
 refine⟨fun n=>if n=1 then a1 else if n=2 then a2 else if n=3 then a3 else if n=4 then a4 else a5,by simpa using v1,by simpa using v2,by simpa using v3,by simpa using v4,by simpa using v5,?_,?_⟩
 · intro n h1 h5
   have:n=1∨n=2∨n=3∨n=4∨n=5:=by omega
   rcases this with rfl | rfl | rfl | rfl | rfl<;>assumption
 · intro n m h1 h5 h1' h5' hne
   have en:n=1∨n=2∨n=3∨n=4∨n=5:=by omega
   have em:m=1∨m=2∨m=3∨m=4∨m=5:=by omega
   rcases en with rfl | rfl | rfl | rfl | rfl<;>rcases em with rfl | rfl | rfl | rfl | rfl<;>first | exact absurd rfl hne | assumption | (apply Ne.symm;assumption)
theorem z1l {W:World} (h:laidMetH Tryz.prog sixL W):∃ a,GV W a W.heap.size:=by
 have h':laidMet Tryz.prog fiveL W∧handlesMet Tryz.prog [("errors.errorType",Rows.laid_errors_errorType)] W:=h
 obtain⟨a,c1,c2,c3,c4,c5,hr,hn⟩:= z1k h'.1
 have ct:=z1j h'.2
 exact⟨a,ct,c1,c2,c3,c4,c5,hr,hn,⟨zal ct,zal c1,zal c2,zal c3,zal c4,zal c5⟩,fun n h1 h5=>by obtain⟨c,t,hc⟩:= hr n h1 h5;exact (Array.getElem?_eq_some_iff.1 hc).1⟩
noncomputable def low:Nat:=(World.holding Tryz.prog default ⟨#[],#[],[]⟩).heap.size
def laySent (g n:Nat) (h:Array Obj):Array Obj:=h.modify g fun
 | .cells _ t frozen=> .cells #[.iface 279 (.pointer (some ⟨n,0,none⟩))] t frozen
 | o=>o
noncomputable def laidWorld (os:Os):World:=
 let w0:=World.holding Tryz.prog os ⟨#[.cells #[.string ⟨#[112,114,111,116,111,99,111,108]⟩] 300,.cells #[.string ⟨#[97,99,99,101,115,115]⟩] 300,.cells #[.string ⟨#[115,105,122,101]⟩] 300,.cells #[.string ⟨#[118,97,108,117,101]⟩] 300,.cells #[.string ⟨#[100,101,118,105,99,101]⟩] 300],#[],[]⟩
 { w0 with heap:=laySent 5 (low+4) (laySent 4 (low+3) (laySent 3 (low+2) (laySent 2 (low+1) (laySent 1 low (w0.heap.modify 0 fun
  | .cells _ t frozen=> .cells #[rty 143] t frozen
  | o=>o))))) }
theorem z1m (os:Os) (args:Array Value):laidMetH Tryz.prog sixL ((laidWorld os).forCall (fun _ _=>0) ⟨#[],args,[]⟩).memory:=
 laidMetH_of_parts (laidMet_of_run' 8 (by kernel_rfl) (by kernel_rfl)) (by kernel_rfl)
end
section
open Go.RowKit
set_option maxRecDepth 20000
set_option maxHeartbeats 8000000
structure JOp where
 kd:Int
 kk:Int
 sz:Nat
 n:Int
 wm:Nat
def SlOp (w:World) (A:Option Addr) (L:List JOp):Prop:= ∀ j v,L[j]? =some v→ ∃ b off,A=some ⟨b,off,none⟩∧ w.cell? ⟨b,off+j * 5,none⟩=some (.int .i64 v.kd)∧ w.cell? ⟨b,off+j * 5+1,none⟩=some (.int .i64 v.kk)∧
 w.cell? ⟨b,off+j * 5+2,none⟩=some (.int .u16 (v.sz:Nat))∧ w.cell? ⟨b,off+j * 5+3,none⟩=some (.int .i64 v.n)∧ w.cell? ⟨b,off+j * 5+4,none⟩=some (.int .u32 (v.wm:Nat))
structure CrashS (S:FS) (k:Nat):Prop where
 fresh:Fresh S k
 off:S.off=false
 most:S.most=1000
 ops:S.ops≤1000 * k
 len:S.wear.length=3
structure LastK (w:World) (g6 hi:Nat) (A:Option Addr) (c:Nat) (r:Int×Nat×List UInt8):Prop where
 blk:Blk w g6 92 (rcV r.1 r.2.1 A r.2.2.length c)
 own:zcd w hi A r.2.2.length c r.2.2
end
section
section
open Go.RowKit Go.ChangeShapes Go.WideShapes Go.Deep Go.Joins
set_option maxRecDepth 20000
section
variable {H:Type} {enc:TypeId×Value→H} {w:World} {base:Nat} {spare:Nat→Bool} {held:Bool}
end
end
section
set_option maxRecDepth 20000
section
open Go.ChangeShapes Go.WideShapes Go.ChangeAt Go.RowKit Go.Deep Go.Joins
variable {H:Type} {enc:TypeId×Value→H} {P:Program} {w:World} {base:Nat} {spare:Nat→Bool} {held:Bool}
end
section
open Go.RowKit Go.ChangeShapes Go.WideShapes Go.Deep Go.Joins
variable {H:Type} {enc:TypeId×Value→H} {w:World} {base:Nat} {spare:Nat→Bool} {held:Bool}
end
end
end
section
open Go.RowKit Go.ChangeShapes Go.WideShapes Go.Deep Go.Joins
set_option maxRecDepth 20000
theorem z1n:Tryz.prog.cellsOf 55=11:=by kernel_rfl
section
variable {H:Type} {enc:TypeId×Value→H} {w:World} {base:Nat} {spare:Nat→Bool} {held:Bool}
theorem z1o {fuel:Nat} {v:Value} {x:DataW H×List MemPlace} (h:DataW.trod enc Tryz.prog w base spare held fuel 22 [v]=some x) :
 ∃ (A:Option Addr) (n c:Nat) (L:List Ent),v= .slice A n c∧n=L.length∧n≤c∧SlE w A L:=by
 rcases open_slice Tryz.underlying22 h with ⟨hcs,_⟩ | ⟨a,len,cap,m,n,D,Pl,hcs,_,hl,hm,hmm,_,hi⟩
 · simp at hcs
   exact⟨none,0,0,[],hcs,rfl,Nat.le_refl _,by intro j v hv;simp at hv⟩
 · simp at hcs
   have hlm:len≤m:=by rw[hmm];split<;>omega
   obtain⟨L,hL,hQ⟩:= z1d len (fun i (E:Ent)=> ∃ Aj cj,w.cell? (a.add (i * 11))=some (.int .i64 E.ix)∧ w.cell? ((a.add (i * 11)).add 1)=some (.int .i64 E.sub)∧ w.cell? ((a.add (i * 11)).add 2)=some (.string E.nm)∧ w.cell? ((a.add (i * 11)).add 3)=some (.int .i64 E.ty)∧ w.cell? ((a.add (i * 11)).add 4)=some (.int .i64 E.acc)∧ w.cell? ((a.add (i * 11)).add 5)=some (.bool E.mp)∧ w.cell? ((a.add (i * 11)).add 6)=some (.bool E.st)∧ w.cell? ((a.add (i * 11)).add 7)=some (.int .i64 E.mx)∧ w.cell? ((a.add (i * 11)).add 8)=some (.int .i64 E.lo)∧ w.cell? ((a.add (i * 11)).add 9)=some (.int .i64 E.hi)∧ w.cell? ((a.add (i * 11)).add 10)=some (.slice Aj E.df.length cj)∧ E.df.length≤cj∧Sl w Aj (E.df.map bv)) (by
    intro i hilen
    obtain⟨cs',hc,ht⟩:= hi i (by omega)
    rw[z1n] at hc
    obtain⟨_,hcl,hat⟩:= World.cells?_some hc
    obtain⟨ys,k,_,_,_,_,hf⟩:= DataW.trod_struct Tryz.underlying55 ht
    match cs',hcl with
    | [v0,v1,v2,v3,v4,v5,v6,v7,v8,v9,v10],_=>
      have f0:DataW.trod enc Tryz.prog w base spare held k 3 ((([v0,v1,v2,v3,v4,v5,v6,v7,v8,v9,v10]:List Value).drop 0).take (Tryz.prog.cellsOf 3))=ys[0]? :=hf 0 _ rfl
      have f1:DataW.trod enc Tryz.prog w base spare held k 3 ((([v0,v1,v2,v3,v4,v5,v6,v7,v8,v9,v10]:List Value).drop 1).take (Tryz.prog.cellsOf 3))=ys[1]? :=hf 1 _ rfl
      have f2:DataW.trod enc Tryz.prog w base spare held k 9 ((([v0,v1,v2,v3,v4,v5,v6,v7,v8,v9,v10]:List Value).drop 2).take (Tryz.prog.cellsOf 9))=ys[2]? :=hf 2 _ rfl
      have f3:DataW.trod enc Tryz.prog w base spare held k 3 ((([v0,v1,v2,v3,v4,v5,v6,v7,v8,v9,v10]:List Value).drop 3).take (Tryz.prog.cellsOf 3))=ys[3]? :=hf 3 _ rfl
      have f4:DataW.trod enc Tryz.prog w base spare held k 3 ((([v0,v1,v2,v3,v4,v5,v6,v7,v8,v9,v10]:List Value).drop 4).take (Tryz.prog.cellsOf 3))=ys[4]? :=hf 4 _ rfl
      have f5:DataW.trod enc Tryz.prog w base spare held k 4 ((([v0,v1,v2,v3,v4,v5,v6,v7,v8,v9,v10]:List Value).drop 5).take (Tryz.prog.cellsOf 4))=ys[5]? :=hf 5 _ rfl
      have f6:DataW.trod enc Tryz.prog w base spare held k 4 ((([v0,v1,v2,v3,v4,v5,v6,v7,v8,v9,v10]:List Value).drop 6).take (Tryz.prog.cellsOf 4))=ys[6]? :=hf 6 _ rfl
      have f7:DataW.trod enc Tryz.prog w base spare held k 3 ((([v0,v1,v2,v3,v4,v5,v6,v7,v8,v9,v10]:List Value).drop 7).take (Tryz.prog.cellsOf 3))=ys[7]? :=hf 7 _ rfl
      have f8:DataW.trod enc Tryz.prog w base spare held k 2 ((([v0,v1,v2,v3,v4,v5,v6,v7,v8,v9,v10]:List Value).drop 8).take (Tryz.prog.cellsOf 2))=ys[8]? :=hf 8 _ rfl
      have f9:DataW.trod enc Tryz.prog w base spare held k 2 ((([v0,v1,v2,v3,v4,v5,v6,v7,v8,v9,v10]:List Value).drop 9).take (Tryz.prog.cellsOf 2))=ys[9]? :=hf 9 _ rfl
      have f10:DataW.trod enc Tryz.prog w base spare held k 23 ((([v0,v1,v2,v3,v4,v5,v6,v7,v8,v9,v10]:List Value).drop 10).take (Tryz.prog.cellsOf 23))=ys[10]? :=hf 10 _ rfl
      rw[show Tryz.prog.cellsOf 4=1 by kernel_rfl] at f5 f6
      rw[show Tryz.prog.cellsOf 23=1 by kernel_rfl] at f10
      rw[show Tryz.prog.cellsOf 3=1 by kernel_rfl] at f0 f1 f3 f4 f7
      rw[show Tryz.prog.cellsOf 2=1 by kernel_rfl] at f8 f9
      rw[show Tryz.prog.cellsOf 9=1 by kernel_rfl] at f2
      simp only[List.drop_zero,List.take_succ_cons,List.take_zero,List.drop_succ_cons] at f0 f1 f2 f3 f4 f5 f6 f7 f8 f9 f10
      have hy:ys.length=11:=by assumption
      rw[List.getElem?_eq_getElem (show 0 < ys.length by omega)] at f0
      rw[List.getElem?_eq_getElem (show 1 < ys.length by omega)] at f1
      rw[List.getElem?_eq_getElem (show 2 < ys.length by omega)] at f2
      rw[List.getElem?_eq_getElem (show 3 < ys.length by omega)] at f3
      rw[List.getElem?_eq_getElem (show 4 < ys.length by omega)] at f4
      rw[List.getElem?_eq_getElem (show 5 < ys.length by omega)] at f5
      rw[List.getElem?_eq_getElem (show 6 < ys.length by omega)] at f6
      rw[List.getElem?_eq_getElem (show 7 < ys.length by omega)] at f7
      rw[List.getElem?_eq_getElem (show 8 < ys.length by omega)] at f8
      rw[List.getElem?_eq_getElem (show 9 < ys.length by omega)] at f9
      rw[List.getElem?_eq_getElem (show 10 < ys.length by omega)] at f10
      obtain⟨x0,h0,_,_⟩:= DataW.trod_int Tryz.underlying3 f0
      obtain⟨x1,h1,_,_⟩:= DataW.trod_int Tryz.underlying3 f1
      obtain⟨x2,h2,_⟩:= DataW.trod_string Tryz.underlying9 f2
      obtain⟨x3,h3,_,_⟩:= DataW.trod_int Tryz.underlying3 f3
      obtain⟨x4,h4,_,_⟩:= DataW.trod_int Tryz.underlying3 f4
      obtain⟨x5,h5,_⟩:= DataW.trod_bool Tryz.underlying4 f5
      obtain⟨x6,h6,_⟩:= DataW.trod_bool Tryz.underlying4 f6
      obtain⟨x7,h7,_,_⟩:= DataW.trod_int Tryz.underlying3 f7
      obtain⟨x8,h8,_,_⟩:= DataW.trod_int Tryz.underlying2 f8
      obtain⟨x9,h9,_,_⟩:= DataW.trod_int Tryz.underlying2 f9
      obtain⟨Aj,cj,data,h10,hA1,hA2⟩:= z1e f10
      simp only[List.cons.injEq,and_true] at h0 h1 h2 h3 h4 h5 h6 h7 h8 h9
      subst h0
      subst h1
      subst h2
      subst h3
      subst h4
      subst h5
      subst h6
      subst h7
      subst h8
      subst h9
      subst h10
      have a0:=hat 0 (by omega)
      have a1:=hat 1 (by omega)
      have a2:=hat 2 (by omega)
      have a3:=hat 3 (by omega)
      have a4:=hat 4 (by omega)
      have a5:=hat 5 (by omega)
      have a6:=hat 6 (by omega)
      have a7:=hat 7 (by omega)
      have a8:=hat 8 (by omega)
      have a9:=hat 9 (by omega)
      have a10:=hat 10 (by omega)
      refine⟨⟨x0,x1,x2,x3,x4,x5,x6,x7,x8,x9,data⟩,Aj,cj,?_,a1,a2,a3,a4,a5,a6,a7,a8,a9,a10,hA1,hA2⟩
      simpa [Addr.add] using a0)
   refine⟨some a,len,cap,L,hcs,hL.symm,hl,?_⟩
   intro j E hE
   obtain⟨Aj,cj,q0,q1,q2,q3,q4,q5,q6,q7,q8,q9,q10,hx1,hx2⟩:= hQ j E hE
   rw[zam] at q1 q2 q3 q4 q5 q6 q7 q8 q9 q10
   obtain⟨b,off,spot⟩:= a
   obtain⟨v0,hv0⟩:∃ v0,L[0]? =some v0:=⟨L[0]'(by have:=(List.getElem?_eq_some_iff.1 hE).1;omega),List.getElem?_eq_getElem _⟩
   obtain⟨_,_,g0,_⟩:= hQ 0 v0 hv0
   have:spot=none:=by
    have:=World.cell?_spot g0
    simpa [Addr.add] using this
   subst this
   exact⟨b,off,Aj,cj,rfl,⟨by simpa [Addr.add_lit] using q0,by simpa [Addr.add_lit,Nat.add_assoc] using q1,by simpa [Addr.add_lit,Nat.add_assoc] using q2,by simpa [Addr.add_lit,Nat.add_assoc] using q3,by simpa [Addr.add_lit,Nat.add_assoc] using q4,by simpa [Addr.add_lit,Nat.add_assoc] using q5,by simpa [Addr.add_lit,Nat.add_assoc] using q6,by simpa [Addr.add_lit,Nat.add_assoc] using q7,by simpa [Addr.add_lit,Nat.add_assoc] using q8,by simpa [Addr.add_lit,Nat.add_assoc] using q9,by simpa [Addr.add_lit,Nat.add_assoc] using q10⟩,hx1,hx2⟩
end
end
section
section
open Go.RowKit Go.ChangeShapes Go.WideShapes Go.Deep
set_option maxRecDepth 20000
section
variable {H:Type} {enc:TypeId×Value→H} {w:World} {base:Nat} {spare:Nat→Bool} {held:Bool}
end
end
section
open Go.RowKit Go.ChangeShapes Go.WideShapes Go.Deep Go.Joins
set_option maxRecDepth 20000
section
variable {H:Type} {enc:TypeId×Value→H} {w:World} {base:Nat} {spare:Nat→Bool} {held:Bool}
end
end
end
section
section
open Go.RowKit Go.ChangeShapes Go.WideShapes Go.Deep Go.Joins
set_option maxRecDepth 20000
theorem z1p {n:Int} (h:(Lit.int .i64 n).wf=true):I64 n:=by
 have hb: -9223372036854775808≤n∧n≤9223372036854775807:=by simpa [Lit.wf,IntKind.min,IntKind.max,IntKind.signed,IntKind.bits] using h
 exact hb
theorem z1q:Tryz.prog.cellsOf 48=6:=by kernel_rfl
section
variable {H:Type} {enc:TypeId×Value→H} {w:World} {base:Nat} {spare:Nat→Bool} {held:Bool}
theorem z1r {fuel:Nat} {v:Value} {x:DataW H×List MemPlace} (h:DataW.trod enc Tryz.prog w base spare held fuel 24 [v]=some x) :
 ∃ (A:Option Addr) (n c:Nat) (L:List SOp),v= .slice A n c∧n=L.length∧n≤c∧SlS w A L∧ ∀ x ∈ L,x.w≤4294967295∧x.n≤9223372036854775807:=by
 rcases open_slice Tryz.underlying24 h with ⟨hcs,_⟩ | ⟨a,len,cap,m,n,D,Pl,hcs,_,hl,hm,hmm,_,hi⟩
 · simp at hcs
   exact⟨none,0,0,[],hcs,rfl,Nat.le_refl _,(by intro j v hv;simp at hv),by simp⟩
 · simp at hcs
   have hlm:len≤m:=by rw[hmm];split<;>omega
   obtain⟨L,hL,hQ⟩:= z1d len (fun i (E:SOp)=> ∃ Aj cj,(w.cell? (a.add (i * 6))=some (.int .i64 E.kind)∧ w.cell? ((a.add (i * 6)).add 1)=some (.int .i64 E.ix)∧ w.cell? ((a.add (i * 6)).add 2)=some (.int .i64 E.sub)∧ w.cell? ((a.add (i * 6)).add 3)=some (.int .i64 E.n)∧ w.cell? ((a.add (i * 6)).add 4)=some (.int .u32 (E.w:Nat))∧ w.cell? ((a.add (i * 6)).add 5)=some (.slice Aj E.b.length cj))∧ E.b.length≤cj∧Sl w Aj (E.b.map bv)∧ E.w≤4294967295∧E.n≤9223372036854775807) (by
    intro i hilen
    obtain⟨cs',hc,ht⟩:= hi i (by omega)
    rw[z1q] at hc
    obtain⟨_,hcl,hat⟩:= World.cells?_some hc
    obtain⟨ys,k,_,_,_,_,hf⟩:= DataW.trod_struct Tryz.underlying48 ht
    match cs',hcl with
    | [v0,v1,v2,v3,v4,v5],_=>
      have f0:DataW.trod enc Tryz.prog w base spare held k 3 ((([v0,v1,v2,v3,v4,v5]:List Value).drop 0).take (Tryz.prog.cellsOf 3))=ys[0]? :=hf 0 _ rfl
      have f1:DataW.trod enc Tryz.prog w base spare held k 3 ((([v0,v1,v2,v3,v4,v5]:List Value).drop 1).take (Tryz.prog.cellsOf 3))=ys[1]? :=hf 1 _ rfl
      have f2:DataW.trod enc Tryz.prog w base spare held k 3 ((([v0,v1,v2,v3,v4,v5]:List Value).drop 2).take (Tryz.prog.cellsOf 3))=ys[2]? :=hf 2 _ rfl
      have f3:DataW.trod enc Tryz.prog w base spare held k 3 ((([v0,v1,v2,v3,v4,v5]:List Value).drop 3).take (Tryz.prog.cellsOf 3))=ys[3]? :=hf 3 _ rfl
      have f4:DataW.trod enc Tryz.prog w base spare held k 45 ((([v0,v1,v2,v3,v4,v5]:List Value).drop 4).take (Tryz.prog.cellsOf 45))=ys[4]? :=hf 4 _ rfl
      have f5:DataW.trod enc Tryz.prog w base spare held k 23 ((([v0,v1,v2,v3,v4,v5]:List Value).drop 5).take (Tryz.prog.cellsOf 23))=ys[5]? :=hf 5 _ rfl
      rw[show Tryz.prog.cellsOf 45=1 by kernel_rfl] at f4
      rw[show Tryz.prog.cellsOf 23=1 by kernel_rfl] at f5
      rw[show Tryz.prog.cellsOf 3=1 by kernel_rfl] at f0 f1 f2 f3
      simp only[List.drop_zero,List.take_succ_cons,List.take_zero,List.drop_succ_cons] at f0 f1 f2 f3 f4 f5
      have hy:ys.length=6:=by assumption
      rw[List.getElem?_eq_getElem (show 0 < ys.length by omega)] at f0
      rw[List.getElem?_eq_getElem (show 1 < ys.length by omega)] at f1
      rw[List.getElem?_eq_getElem (show 2 < ys.length by omega)] at f2
      rw[List.getElem?_eq_getElem (show 3 < ys.length by omega)] at f3
      rw[List.getElem?_eq_getElem (show 4 < ys.length by omega)] at f4
      rw[List.getElem?_eq_getElem (show 5 < ys.length by omega)] at f5
      obtain⟨x0,h0,_,_⟩:= DataW.trod_int Tryz.underlying3 f0
      obtain⟨x1,h1,_,_⟩:= DataW.trod_int Tryz.underlying3 f1
      obtain⟨x2,h2,_,_⟩:= DataW.trod_int Tryz.underlying3 f2
      obtain⟨x3,h3,_,g3⟩:= DataW.trod_int Tryz.underlying3 f3
      have hn3:x3≤9223372036854775807:=(z1p g3).2
      obtain⟨x4,h4,_,g4⟩:= DataW.trod_int Tryz.underlying45 f4
      obtain⟨m4,hm4,e4⟩:= z1c g4
      obtain⟨Aj,cj,data,h5,hcj,hsj⟩:= z1e f5
      simp only[List.cons.injEq,and_true] at h0 h1 h2 h3 h4
      subst h0 h1 h2 h3 h4 h5 e4
      have a0:=hat 0 (by omega)
      have a1:=hat 1 (by omega)
      have a2:=hat 2 (by omega)
      have a3:=hat 3 (by omega)
      have a4:=hat 4 (by omega)
      have a5:=hat 5 (by omega)
      refine⟨⟨x0,x1,x2,x3,m4,data⟩,Aj,cj,⟨?_,a1,a2,a3,a4,a5⟩,hcj,hsj,(by show m4≤_;omega),hn3⟩
      simpa [Addr.add] using a0)
   refine⟨some a,len,cap,L,hcs,hL.symm,hl,?_,?_⟩
   · intro j E hE
     obtain⟨Aj,cj,⟨q0,q1,q2,q3,q4,q5⟩,q6,q7,_⟩:= hQ j E hE
     rw[zam] at q1 q2 q3 q4 q5
     obtain⟨b,off,spot⟩:= a
     obtain⟨v0,hv0⟩:∃ v0,L[0]? =some v0:=⟨L[0]'(by have:=(List.getElem?_eq_some_iff.1 hE).1;omega),List.getElem?_eq_getElem _⟩
     obtain⟨_,_,⟨g0,_⟩,_⟩:= hQ 0 v0 hv0
     have:spot=none:=by
      have:=World.cell?_spot g0
      simpa [Addr.add] using this
     subst this
     exact⟨b,off,Aj,cj,rfl,⟨by simpa [Addr.add_lit] using q0,by simpa [Addr.add_lit,Nat.add_assoc] using q1,by simpa [Addr.add_lit,Nat.add_assoc] using q2,by simpa [Addr.add_lit,Nat.add_assoc] using q3,by simpa [Addr.add_lit,Nat.add_assoc] using q4,by simpa [Addr.add_lit,Nat.add_assoc] using q5⟩,q6,q7⟩
   · intro E hE
     obtain⟨j,hj⟩:= List.mem_iff_getElem?.1 hE
     obtain⟨_,_,_,_,_,h2⟩:= hQ j E hj
     exact h2
end
end
section
set_option maxRecDepth 20000
section
open Go.ChangeShapes Go.WideShapes Go.ChangeAt Go.RowKit Go.Deep Go.Joins
variable {H:Type} {enc:TypeId×Value→H} {P:Program} {w:World} {base:Nat} {spare:Nat→Bool} {held:Bool}
theorem z1s {r:Reach} {b0:Nat} {t:TypeId} {f0 f1 f2 f3:Field} {v:Value} {d:DataW H} {p:List MemPlace} (hs:P.underlying t=some (.struct #[f0,f1,f2,f3])) (hone:oneCellFields P #[f0,f1,f2,f3]=true) (hC:P.cellsOf t=4)
 (hv:Value.okWide P w r b0 t v) (h:DataW.Trod enc P w base spare held t v d p) :
 ∃ (v0 v1 v2 v3:Value) (y0 y1 y2 y3:DataW H×List MemPlace) (n:Nat),v= .agg #[v0,v1,v2,v3]∧ d= .agg [y0.1,y1.1,y2.1,y3.1]∧ p=y0.2 ++ (y1.2 ++ (y2.2 ++ (y3.2)))∧
  DataW.trod enc P w base spare held n f0.type [v0]=some y0∧DataW.trod enc P w base spare held n f1.type [v1]=some y1∧DataW.trod enc P w base spare held n f2.type [v2]=some y2∧DataW.trod enc P w base spare held n f3.type [v3]=some y3:=by
 obtain⟨cs,rfl,hsz⟩:= okWide_struct hs hv
 obtain⟨l⟩:= cs
 match l,hsz.trans hC with
 | [c0,c1,c2,c3],_=>
   obtain⟨fuel,hf⟩:= h
   obtain⟨xs,n,_,hx,_,hlen,hg⟩:= DataW.trod_struct hs hf
   obtain⟨o0,k0⟩:= hone_of hone 0 f0 rfl
   obtain⟨o1,k1⟩:= hone_of hone 1 f1 rfl
   obtain⟨o2,k2⟩:= hone_of hone 2 f2 rfl
   obtain⟨o3,k3⟩:= hone_of hone 3 f3 rfl
   match xs,hlen with
   | [y0,y1,y2,y3],_=>
     simp only[Prod.mk.injEq] at hx
     exact⟨c0,c1,c2,c3,y0,y1,y2,y3,n,rfl,by simpa using hx.1,by simpa using hx.2,by simpa [Value.cells,o0,k0] using hg 0 f0 rfl,by simpa [Value.cells,o1,k1] using hg 1 f1 rfl,by simpa [Value.cells,o2,k2] using hg 2 f2 rfl,by simpa [Value.cells,o3,k3] using hg 3 f3 rfl⟩
end
section
open Go.RowKit Go.ChangeShapes Go.WideShapes Go.Deep Go.Joins
variable {H:Type} {enc:TypeId×Value→H} {w:World} {base:Nat} {spare:Nat→Bool} {held:Bool}
theorem z1t {r:Reach} {b0:Nat} {v:Value} {d:DataW H} {p:List MemPlace} (hv:Value.okWide Tryz.prog w r b0 26 v) (h:DataW.Trod enc Tryz.prog w base spare held 26 v d p) :
 ∃ (A:Option Addr) (n c:Nat) (L:List Ent) (Af:Option Addr) (cf:Nat) (f:List UInt8) (mo:Int) (As:Option Addr) (ns cs:Nat) (S:List SOp),v= .agg #[.slice A n c,.slice Af f.length cf,.int .i64 mo,.slice As ns cs]∧ n=L.length∧n≤c∧SlE w A L∧f.length≤cf∧Sl w Af (f.map bv)∧ ns=S.length∧ns≤cs∧SlS w As S∧ ∀ x ∈ S,x.w≤4294967295∧x.n≤9223372036854775807:=by
 obtain⟨x0,x1,x2,x3,y0,y1,y2,y3,fu,rfl,_,_,g0,g1,g2,g3⟩:= z1s Tryz.underlying26 (by kernel_rfl) (by kernel_rfl) hv h
 obtain⟨A,n,c,L,rfl,h1,h2,h3⟩:= z1o g0
 obtain⟨Af,cf,f,e1,h4,h5⟩:= z1e g1
 obtain⟨mo,e2,_,_⟩:= DataW.trod_int Tryz.underlying3 g2
 obtain⟨As,ns,cs,S,rfl,h6,h7,h8,h9⟩:= z1r g3
 simp only[List.cons.injEq,and_true] at e1 e2
 subst e1 e2
 exact⟨A,n,c,L,Af,cf,f,mo,As,ns,cs,S,rfl,h1,h2,h3,h4,h5,h6,h7,h8,h9⟩
end
end
end
end Go.Proofs.YtehabbnohoomjaaGreatDoor
