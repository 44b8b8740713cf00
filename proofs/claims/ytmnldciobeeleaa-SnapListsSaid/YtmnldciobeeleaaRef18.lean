/- The reference's snap: Build. -/
import Derived.Test.YtmnldciobeeleaaSnapC
namespace Go.Proofs.Ytmnldciobeeleaa
set_option linter.unusedVariables false
set_option linter.unusedSimpArgs false
set_option linter.unnecessarySimpa false
open Go.RowKit
set_option maxRecDepth 20000
set_option maxHeartbeats 1000000

theorem rsnap_ahead (i s j t : Int) (d d' : Value) (w : World) :
    Calls Try.prog 32 #[.agg #[.int .i64 i, .int .i64 s, d], .agg #[.int .i64 j, .int .i64 t, d']] w
      fun e w' => e = .returned (.bool (aheadB i s j t)) ∧ Below w.heap.size w w' := by
  have fin : ∀ b, b = aheadB i s j t → Ending.returned (.bool b) = .returned (.bool (aheadB i s j t)) := fun b h => by rw [h]
  by_cases h1 : i < j
  · go_enter Try.func32, Try.ntmps32
    go_wp2
    go_ret
    exact ⟨fin _ (by simp [aheadB]; omega), below_alloc (below_alloc (Below.refl _ _) _) _⟩
  · by_cases h2 : i = j
    · subst h2
      go_enter Try.func32, Try.ntmps32
      go_wp2
      go_ret
      exact ⟨fin _ (by simp [aheadB]), below_alloc (below_alloc (Below.refl _ _) _) _⟩
    · have h2' : (i == j) = false := by simpa using h2
      have HF := hide (show false = aheadB i s j t by simp [aheadB]; omega)
      clear h2
      go_enter Try.func32, Try.ntmps32
      go_wp2
      go_ret
      exact ⟨fin _ HF.out, below_alloc (below_alloc (Below.refl _ _) _) _⟩

end Go.Proofs.Ytmnldciobeeleaa
