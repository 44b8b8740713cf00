/- The walk of RecordParses. -/
import Derived.Test.YtfddfgonhgidbaaRecK
namespace Go.Proofs.Ytfddfgonhgidbaa
set_option linter.unusedVariables false
set_option linter.unusedSimpArgs false
set_option linter.unnecessarySimpa false
open Go.RowKit
set_option maxRecDepth 20000
set_option maxHeartbeats 1000000
attribute [local go_sem ↓] Go.wp_at_zero Go.wp_at_succ

theorem same_self (k : Int) (m : Nat) (l : List UInt8) : sameR k m l k m l = true := by simp [sameR]
/-- what Spoil leaves of a row of an older block -/
theorem own_spoilt {w w' : World} {B B2 e e2 n n2 c c2 : Nat} {A A2 : Option Addr} {xs ys : List Value} (h : Own w B e 1 A n c xs) (h2 : Own w B2 e2 1 A2 n2 c2 ys) (hg : w.grownBy w' (Value.ownBlock (.slice A2 n2 c2)))
    (hne : ∀ g, A = some ⟨g, 0, none⟩ → g < B2) : Own w' B e 1 A n c xs := by
  refine h.grown hg ?_
  intro g hA he
  have hlt := hne g hA
  rcases h2.shape with ⟨h1, _⟩ | ⟨g2, h1, h3, _⟩
  · rw [h1] at he; simp [Value.ownBlock] at he
  · rw [h1] at he
    simp [Value.ownBlock] at he
    omega
theorem blk_spoilt {w w' : World} {B2 e2 n2 c2 g : Nat} {t : TypeId} {cs : Array Value} {A2 : Option Addr} {ys : List Value} (h : Blk w g t cs) (h2 : Own w B2 e2 1 A2 n2 c2 ys) (hg : w.grownBy w' (Value.ownBlock (.slice A2 n2 c2)))
    (hne : g < B2) : Blk w' g t cs := by
  refine h.grown hg ?_
  intro he
  rcases h2.shape with ⟨h1, _⟩ | ⟨g2, h1, h3, _⟩
  · rw [h1] at he; simp [Value.ownBlock] at he
  · rw [h1] at he
    simp [Value.ownBlock] at he
    omega
theorem below_spoilt {W w w' : World} {N B e n c : Nat} {A : Option Addr} {xs : List Value} (hb : Below N W w) (h : Own w B e 1 A n c xs) (hg : w.grownBy w' (Value.ownBlock (.slice A n c))) (hN : N ≤ B) (hNw : N ≤ w.heap.size) : Below N W w' :=
  hb.grown hg hNw (by
    intro g' hg'
    rcases h.shape with ⟨h1, _⟩ | ⟨g1, h1, h2, _⟩
    · rw [h1] at hg'; simp [Value.ownBlock] at hg'
    · rw [h1] at hg'; simp [Value.ownBlock] at hg'; omega)

end Go.Proofs.Ytfddfgonhgidbaa
