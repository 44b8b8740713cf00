/- An entry stored whole into a block of the call's own, and handed back from there. -/
import Derived.Test.YtmnldciobeeleaaDicD
namespace Go.Proofs.Ytmnldciobeeleaa
set_option linter.unusedVariables false
set_option linter.unusedSimpArgs false
set_option linter.unnecessarySimpa false
open Go.RowKit
set_option maxRecDepth 100000
set_option maxHeartbeats 4000000
/-- the cells of block g become the entry -/
def put11 (w : World) (g : Nat) (E : Ent) (A : Option Addr) (n c : Nat) : World :=
  ((((((((((w.setCell ⟨g, 0, none⟩ (.int .i64 E.ix)).setCell ⟨g, 1, none⟩ (.int .i64 E.sub)).setCell ⟨g, 2, none⟩ (.string E.nm)).setCell ⟨g, 3, none⟩ (.int .i64 E.ty)).setCell ⟨g, 4, none⟩ (.int .i64 E.acc)).setCell ⟨g, 5, none⟩ (.bool E.mp)).setCell ⟨g, 6, none⟩ (.bool E.st)).setCell ⟨g, 7, none⟩ (.int .i64 E.mx)).setCell ⟨g, 8, none⟩ (.int .i64 E.lo)).setCell ⟨g, 9, none⟩ (.int .i64 E.hi)).setCell ⟨g, 10, none⟩ (.slice A n c)
theorem list11 {α : Type} (a0 a1 a2 a3 a4 a5 a6 a7 a8 a9 a10 : α) (l : List α) (h : l.length = 11) :
    ((((((((((((((((((((((l.set 0 a0).set 1 a1).set 2 a2).set 3 a3).set 4 a4).set 5 a5).set 6 a6).set 7 a7).set 8 a8).set 9 a9).set 10 a10)))))))))))) = [a0, a1, a2, a3, a4, a5, a6, a7, a8, a9, a10] := by
  match l, h with
  | [_, _, _, _, _, _, _, _, _, _, _], _ => rfl
theorem put11_blk {w : World} {g : Nat} {t : TypeId} {cs : Array Value} (hB : Blk w g t cs) (hs : cs.size = 11) (E : Ent) (A : Option Addr) (n c : Nat) : Blk (put11 w g E A n c) g t (entV E A n c) := by
  have h := ((((((((((hB.set_ 0 (.int .i64 E.ix)).set_ 1 (.int .i64 E.sub)).set_ 2 (.string E.nm)).set_ 3 (.int .i64 E.ty)).set_ 4 (.int .i64 E.acc)).set_ 5 (.bool E.mp)).set_ 6 (.bool E.st)).set_ 7 (.int .i64 E.mx)).set_ 8 (.int .i64 E.lo)).set_ 9 (.int .i64 E.hi)).set_ 10 (.slice A n c)
  obtain ⟨l⟩ := cs
  simp only [List.setIfInBounds_toArray] at h
  rw [list11 _ _ _ _ _ _ _ _ _ _ _ l (by simpa using hs)] at h
  exact h
theorem put11_only (w : World) (g : Nat) (E : Ent) (A : Option Addr) (n c : Nat) : Only (fun k => k = g) w (put11 w g E A n c) := by
  have st : ∀ (w' : World) (i : Nat) (u : Value), Only (fun k => k = g) w w' → Only (fun k => k = g) w (w'.setCell ⟨g, i, none⟩ u) := fun w' i u h => h.trans (Only.of_set (F := fun k => k = g) rfl u) (fun _ _ h => h)
  unfold put11
  exact st _ _ _ (st _ _ _ (st _ _ _ (st _ _ _ (st _ _ _ (st _ _ _ (st _ _ _ (st _ _ _ (st _ _ _ (st _ _ _ (st _ _ _ (Only.refl _ _)))))))))))
theorem ent_size : (Try.prog.info? 56).map (·.size) = some 11 := by kernel_rfl
theorem entV_size (E : Ent) (A : Option Addr) (n c : Nat) : (Try.prog.info? 56).map (·.size) = some (entV E A n c).size := ent_size
/-- an entry's result, whole -/
theorem ret_ent {fn : Func} {p : Tmp} (h : fn.results = #[.cell p 56]) {a : Act} {w : World} {g : Nat} {E : Ent} {A : Option Addr} {n c : Nat} {R : Ending → World → Prop} (hd : a.defers = []) (hp : a.tmps.getD p undef = .pointer (some ⟨g, 0, none⟩))
    (hB : Blk w g 56 (entV E A n c)) (hR : R (.returned (.agg (entV E A n c))) w) : bodyPost Try.prog fn R .ret a w :=
  bodyPost_ret (results_cell_row h _ _ _ _ _ _ _ hp hB Try.underlying56 rfl (entV_size E A n c)) hd hR
theorem ret_ent_tmp {fn : Func} {p u : Tmp} (h : fn.results = #[.cell p 56, .tmp u]) {a : Act} {w : World} {g : Nat} {E : Ent} {A : Option Addr} {n c : Nat} {R : Ending → World → Prop} (hd : a.defers = []) (hp : a.tmps.getD p undef = .pointer (some ⟨g, 0, none⟩))
    (hB : Blk w g 56 (entV E A n c)) (hR : R (.returned (.tuple #[.agg (entV E A n c), a.tmps.getD u undef])) w) : bodyPost Try.prog fn R .ret a w := by
  refine bodyPost_ret ?_ hd hR
  rw [results_cell_tmp h, hp]
  simp only [asAddr, Sem.run_pure, Result.andThen_ok]
  rw [run_loadVar_row w g _ _ _ _ _ hB Try.underlying56 rfl (entV_size E A n c)]
  rfl
/-- an entry's block after a step that touches none of it -/
theorem blk_only {w w' : World} {g : Nat} {t : TypeId} {cs : Array Value} {F : Nat → Prop} (h : Blk w g t cs) (ho : Only F w w') (hF : ¬ F g) : Blk w' g t cs := (ho.block g h.lt hF).trans h
theorem ownB_only {w w' : World} {B n c : Nat} {A : Option Addr} {l : List UInt8} {F : Nat → Prop} (h : OwnB w B A n c l) (ho : Only F w w') (hF : ∀ g, B ≤ g → g < w.heap.size → ¬ F g) : OwnB w' B A n c l :=
  ⟨h.hn, h.own.keep fun g hB hlt _ => ho.block g hlt (hF g hB hlt)⟩
end Go.Proofs.Ytmnldciobeeleaa
