/- Cells of a block stored one behind the other. -/
import Derived.Test.YtimdmhhgomfijaaOwnF
import Derived.Laws.CopyRow
import Derived.Laws.IdiomCopy
namespace Go.Proofs.Ytimdmhhgomfijaa
set_option linter.unusedVariables false
set_option linter.unusedSimpArgs false
set_option linter.unnecessarySimpa false
open Go.RowKit
theorem blk_sets {g : Nat} {t : TypeId} : ∀ (vs : List Value) (o : Nat) {w : World} {l : List Value}, Blk w g t l.toArray → o + vs.length ≤ l.length → Blk (w.setCells g o vs) g t (l.take o ++ vs ++ l.drop (o + vs.length)).toArray
  | [], o, w, l, h, _ => by simpa [World.setCells] using h
  | v :: vs, o, w, l, h, hl => by
    have h1 := h.set_ o v
    simp only [List.setIfInBounds_toArray] at h1
    have h2 := blk_sets vs (o + 1) h1 (by simp at hl ⊢; omega)
    rw [list_seg_step l o v vs (by simp at hl; omega)] at h2
    rw [World.setCells]
    simpa [Nat.add_assoc, Nat.add_comm 1] using h2
theorem only_sets {F : Nat → Prop} {w : World} {g : Nat} (hg : F g) : ∀ (vs : List Value) (o : Nat) {W : World}, Only F w W → Only F w (W.setCells g o vs)
  | [], _, _, h => h
  | v :: vs, o, W, h => by
    rw [World.setCells]
    exact only_sets hg vs (o + 1) (h.trans (Only.of_set (F := F) (p := ⟨g, o, none⟩) hg v) (fun _ _ h => h))
theorem size_sets {g : Nat} : ∀ (vs : List Value) (o : Nat) (W : World), (W.setCells g o vs).heap.size = W.heap.size
  | [], _, _ => rfl
  | v :: vs, o, W => by rw [World.setCells, size_sets vs]; simp [World.setCell]
theorem wp_gen {P : World → Prop} {c : Code} {Q : Exit → Act → World → Prop} {a : Act} {w : World} (h : P w) (k : ∀ W, P W → Code.wp Try.prog c Q a W) : Code.wp Try.prog c Q a w := k w h
theorem Only.set (F : Nat → Prop) {w W : World} (h : Only F w W) {p i : Nat} (hp : F p) (u : Value) : Only F w (W.setCell ⟨p, i, none⟩ u) := h.trans (Only.of_set (F := F) hp u) (fun _ _ h => h)
theorem Only.new {F : Nat → Prop} {w W : World} (h : Only F w W) (o : Obj) : Only F w (W.alloc o) := h.step (below_alloc (Below.refl _ _) o)
theorem Only.drew {F : Nat → Prop} {w W : World} (h : Only F w W) : Only F w W.drew := ⟨h.os, h.tape, h.output, h.size, h.block⟩
theorem Only.setNew {F : Nat → Prop} {w W : World} (h : Only F w W) {g i : Nat} (hg : w.heap.size ≤ g) (u : Value) : Only F w (W.setCell ⟨g, i, none⟩ u) := h.trans (Only.of_set (F := fun k => k = g) rfl u) (fun i hi (e : i = g) => by omega)
end Go.Proofs.Ytimdmhhgomfijaa
