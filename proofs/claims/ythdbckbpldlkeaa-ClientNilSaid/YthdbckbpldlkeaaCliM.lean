/- Package client: the map of what it waits for. -/
import Derived.Test.YthdbckbpldlkeaaCliL
import Derived.Test.YthdbckbpldlkeaaOwnF
import Derived.Maps.OwnSet
import Derived.Deep.Light
namespace Go.Proofs.Ythdbckbpldlkeaa
set_option linter.unusedVariables false
set_option linter.unusedSimpArgs false
set_option linter.unnecessarySimpa false
open Go.RowKit Go.Maps
set_option maxRecDepth 100000
set_option maxHeartbeats 4000000
theorem kInt : Keyed Try.prog 3 := int_keyed Try.underlying3
theorem zeroInt (w : World) : (zeroValue 3).run Try.prog w = .ok (.int .i64 0) w := by kernel_rfl
def wmD (k : Int) : DataW Unit := if k = 0 then .map [] else .map [(.int .i64 k, .lit (.int .i64 1))]
/-- block m is the map of a client that waits for messages of kind k (0: for none) -/
def WM (w : World) (m : Nat) (k : Int) : Prop := w.ownsMap Try.prog 3 (plainElem Try.prog 3) m 1 (wmD k)
theorem wf64 (k : Int) (h : 0 ≤ k ∧ k ≤ 100) : (Lit.int .i64 k).wf = true := WalkArith.wf_i64 (by omega)
theorem own_tight {w : World} {m n : Nat} {D : DataW Unit} (h : w.ownsMap Try.prog 3 (plainElem Try.prog 3) m n D) : w.ownsMap Try.prog 3 (plainElem Try.prog 3) m (Maps.size D) D := by
  obtain ⟨es, clock, hb, F, hs, rfl⟩ := h
  exact ⟨es, clock, hb, F, by simp [Maps.size, length_sorted], rfl⟩
theorem WM.lt {w : World} {m : Nat} {k : Int} (h : WM w m k) : m < w.heap.size := World.ownsMap.lt h
theorem WM.keep {w w' : World} {m : Nat} {k : Int} (h : WM w m k) (hk : w'.heap[m]? = w.heap[m]?) : WM w' m k := by
  obtain ⟨es, clock, hb, r⟩ := h
  exact ⟨es, clock, hk.trans hb, r⟩
theorem WM.blk_ne {w : World} {m g : Nat} {k : Int} {t : TypeId} {cs : Array Value} (h : WM w m k) (hB : Blk w g t cs) : g ≠ m := by
  rintro rfl
  obtain ⟨es, clock, hb, _⟩ := h
  unfold Blk at hB
  rw [hb] at hB
  cases hB
theorem WM.row_ne {w : World} {m B e s n c : Nat} {k : Int} {A : Option Addr} {xs : List Value} (h : WM w m k) (hO : Own w B e s A n c xs) : ∀ g, A = some ⟨g, 0, none⟩ → g ≠ m := by
  rintro g rfl rfl
  obtain ⟨es, clock, hb, _⟩ := h
  rcases hO.2 with ⟨hv, _⟩ | ⟨g2, cap, cur, hv, _, hg, _⟩
  · injection hv with hv; cases hv
  · injection hv with hv; injection hv with hv; injection hv with hv
    subst hv
    rw [hb] at hg
    cases hg
theorem wm_new (w : World) : WM (w.alloc (.map #[] 0)) w.heap.size 0 := (World.ownsMap_made w Try.prog 3 (plainElem Try.prog 3)).mono (Nat.zero_le _)
theorem WM.look {w : World} {m : Nat} {k : Int} (h : WM w m k) (j : Int) (hj : 0 ≤ j ∧ j ≤ 100) (hk : 0 ≤ k ∧ k ≤ 100) : (Instr.lookup 60 (.map (some m)) (.int .i64 j) false).run Try.prog w = .ok (.int .i64 (if k ≠ 0 ∧ k = j then 1 else 0)) w := by
  obtain ⟨c, hrun, hat, _⟩ := World.ownsMap.lookup_int h kInt Try.underlying60 Try.underlying3 (zeroInt w) (keyOf_int_mk Try.underlying3 (wf64 j hj))
  rw [hrun]
  congr 2
  unfold wmD at hat
  split at hat
  · rename_i h0
    rw [if_neg (by simp [h0])]
    injection hat with hat
    injection hat with _ hat
    exact hat.symm
  · rename_i h0
    by_cases e : k = j
    · subst e
      rw [if_pos ⟨h0, rfl⟩]
      simp [DataW.atKey, Lit.sameKey] at hat
      exact hat.symm
    · rw [if_neg (fun hh => e hh.2)]
      simp [DataW.atKey, Lit.sameKey, e] at hat
      exact hat.symm
theorem WM.len {w : World} {m : Nat} {k : Int} (h : WM w m k) (ty : TypeId) : (Builtin.len_ #[60] ty #[.map (some m)]).run Try.prog w = .ok (.int .i64 (if k = 0 then 0 else 1)) w := by
  rw [World.ownsMap.len h Try.underlying60 ty]
  unfold wmD
  split <;> rfl
def dropD (k : Int) (j : Nat) : DataW Unit := if k < j then .map [] else wmD k
theorem dropD_step (k : Int) (j : Nat) (hk : 0 ≤ k) : (dropD k j).del (.int .i64 (j : Nat)) = dropD k (j + 1) := by
  unfold dropD wmD
  by_cases h1 : k < (j : Int)
  · rw [if_pos h1, if_pos (by omega)]; rfl
  · rw [if_neg h1]
    by_cases h0 : k = 0
    · rw [if_pos h0]
      split <;> rfl
    · rw [if_neg h0, DataW.del_eq]
      by_cases e : k = (j : Int)
      · rw [if_pos (by omega)]
        simp [ChangeMaps.delKey, ChangeMaps.notKey, Lit.sameKey, e]
      · rw [if_neg (by omega)]
        simp [ChangeMaps.delKey, ChangeMaps.notKey, Lit.sameKey, e]
end Go.Proofs.Ythdbckbpldlkeaa
