/- The reference of package fault: rows, find. -/
import Derived.Test.YtkhbcmkcjnnejaaDoorFltK
namespace Go.Proofs.YtkhbcmkcjnnejaaDoor
set_option linter.unusedVariables false
set_option linter.unusedSimpArgs false
set_option linter.unnecessarySimpa false
open Go.RowKit Go.Extern.Stop Go.Stop Go.Extern
set_option maxRecDepth 100000
set_option maxHeartbeats 8000000
def rowC (r : Nat × Nat × List UInt8) : List Value := [.int .u32 (r.1 : Nat), .int .i64 (r.2.1 : Nat), .string (bs r.2.2)]
theorem rf_rows (w : World) : Calls Tryd.prog 43 #[] w fun e w' => ∃ g, e = .returned (.slice (some ⟨g, 0, none⟩) 28 28) ∧ Blk w' g 56 (fT.flatMap rowC).toArray ∧ Below w.heap.size w w' := by
  go_enter Tryd.func43, Tryd.ntmps43
  go_wp2_with fail
  go_ret
  exact ⟨_, rfl, blk_one _ _ _, below_alloc (Below.refl _ _) _⟩
theorem fa_Known (c : Nat) (w : World) (hc : c ≤ 4294967295) : Calls Tryd.prog 19 #[.int .u32 (c : Nat)] w fun e w' => e = .returned (.bool (decide (famN c ≠ 0))) ∧ w = w' := by
  have H := hide (fa_family c w hc)
  obtain ⟨n, hn⟩ : ∃ n, n = famN c := ⟨_, rfl⟩
  rw [← hn] at H ⊢
  clear hn
  go_enter Tryd.func19, Tryd.ntmps19
  go_wp2_with fail
  refine H.out.mono ?_
  rintro e w1 ⟨rfl, rfl⟩
  go_wp2_with fail
  go_ret
  exact ⟨ret_bool (by rw [Bool.eq_iff_iff]; simp), rfl⟩
end Go.Proofs.YtkhbcmkcjnnejaaDoor
