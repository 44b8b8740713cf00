/- Package types: the table of kinds, and what is known of a type. -/
import Derived.Test.YtabgdfbiocoimaaTyp
import Derived.Test.YtabgdfbiocoimaaTyL
namespace Go.Proofs.Ytabgdfbiocoimaa
set_option linter.unusedVariables false
set_option linter.unusedSimpArgs false
set_option linter.unnecessarySimpa false
open Go.RowKit
set_option maxRecDepth 100000
set_option maxHeartbeats 1000000

theorem below_setCells {B : Nat} {a : World} (b : Nat) (hb : B ≤ b) : ∀ (vs : List Value) (o : Nat) {w : World}, Below B a w → Below B a (w.setCells b o vs)
  | [], _, _, h => h
  | v :: r, o, _, h => below_setCells b hb r (o + 1) (h.setCell (p := ⟨b, o, none⟩) hb v)
theorem there_of_blk {w : World} {g n : Nat} {t : TypeId} {cs : Array Value} (hB : Blk w g t cs) (hn : n = cs.size) : w.there g 0 n := by
  intro j hj
  rw [Nat.zero_add]
  exact ⟨by rw [hB.cell j (Array.getElem?_eq_getElem (by omega))]; rfl, hB.frozen j⟩
def tyNm (t : Int) : ByteArray := if t = 1 then ⟨#[98, 111, 111, 108]⟩ else if t = 2 then ⟨#[105, 56]⟩ else if t = 3 then ⟨#[105, 49, 54]⟩ else if t = 4 then ⟨#[105, 51, 50]⟩ else if t = 5 then ⟨#[117, 56]⟩ else if t = 6 then ⟨#[117, 49, 54]⟩ else if t = 7 then ⟨#[117, 51, 50]⟩ else
  if t = 9 then ⟨#[116, 101, 120, 116]⟩ else if t = 10 then ⟨#[98, 121, 116, 101, 115]⟩ else if t = 15 then ⟨#[100, 111, 109, 97, 105, 110]⟩ else if t = 21 then ⟨#[105, 54, 52]⟩ else ⟨#[]⟩
def tyRow (t : Int) : Array Value := #[.string (tyNm t), .int .i64 (tySize t), .int .i64 (tyBits t), .bool (tySigned t)]
def kindArr : Array Value := ((List.range 32).flatMap fun t => (tyRow (t : Nat)).toList).toArray
def KindsR (w : World) (e : Ending) (w' : World) : Prop := e = .returned (.agg kindArr) ∧ Below w.heap.size w w'
theorem kind_info : (Try.prog.info? 132).map (·.size) = some kindArr.size := by kernel_rfl
theorem kind_one : kindArr.all (·.oneCell') = true := by decide +kernel
theorem kind_size : kindArr.size = Try.zeroCells132.size := by decide +kernel
theorem kinds_any (w : World) : Calls Try.prog 114 #[] w (KindsR w) := by
  have hB := blk_one w 132 Try.zeroCells132
  go_enter Try.func114, Try.ntmps114
  go_wp2_with (with_reducible refine wpList_store_mid rfl _ _ _ rfl w.heap.size 0 _ rfl rfl (there_of_blk (blk_one w _ _) ?_) ?_ ?_ ?_)
  all_goals (generalize hX : Array.setIfInBounds _ 87 _ = X; have hk : X = kindArr := (hX.symm.trans (by kernel_rfl)); clear hX; subst hk)
  iterate 3 first | exact kind_size | exact kind_info | exact kind_one
  have hE := hB.all kindArr.toList (by rw [Array.length_toList]; exact kind_size)
  rw [Array.toArray_toList] at hE
  have hS : Below w.heap.size w ((w.alloc (.cells Try.zeroCells132 132)).setCells w.heap.size 0 kindArr.toList) := below_setCells _ (Nat.le_refl _) _ _ (below_alloc (Below.refl _ _) _)
  generalize (w.alloc (.cells Try.zeroCells132 132)).setCells w.heap.size 0 kindArr.toList = W at *
  go_wp2
  refine bodyPost_ret (v := .agg kindArr) (results_cell_row rfl _ _ _ _ _ _ _ rfl hE Try.underlying132 rfl kind_info) rfl ?_
  exact ⟨rfl, hS⟩
end Go.Proofs.Ytabgdfbiocoimaa
