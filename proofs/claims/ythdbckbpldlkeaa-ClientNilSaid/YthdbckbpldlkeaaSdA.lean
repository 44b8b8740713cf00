/- Package sdomsg and its reference: shape, placed, within, only; Same. -/
import Derived.Test.YthdbckbpldlkeaaSeat
import Derived.Test.YthdbckbpldlkeaaSegL
import Derived.RegionTactic
import Derived.ChangeAlike
import Derived.Deep.Light
namespace Go.Proofs.Ythdbckbpldlkeaa
set_option linter.unusedVariables false
set_option linter.unusedSimpArgs false
set_option linter.unnecessarySimpa false
open Go.RowKit
set_option maxRecDepth 100000
set_option maxHeartbeats 2000000

theorem ret_two {k j : IntKind} {a b a' b' : Int} (h1 : a = a') (h2 : b = b') : Ending.returned (.tuple #[.int k a, .int j b]) = .returned (.tuple #[.int k a', .int j b']) := by rw [h1, h2]
theorem sd_shape (k : Int) (w : World) : Calls Try.prog 72 #[.int .i64 k] w fun e w' => e = .returned (.tuple #[.int .i64 (formI k), .int .u8 (firstI k)]) ∧ w = w' := by
  go_enter Try.func72, Try.ntmps72
  go_wp2_with fail
  all_goals
    go_ret2
    refine ⟨ret_two ?_ ?_, rfl⟩
    · go_light
      simp_all [formI]
    · go_light
      simp_all [firstI]
theorem sd_placed (f : Int) (w : World) : Calls Try.prog 76 #[.int .i64 f] w fun e w' => e = .returned (.bool (placedB f)) ∧ w = w' := by
  go_enter Try.func76, Try.ntmps76
  go_wp2_with fail
  all_goals (go_ret; refine ⟨ret_bool ?_, rfl⟩; go_light; simp_all [placedB])
theorem sd_within (n h : Int) (w : World) : Calls Try.prog 87 #[.int .i64 n, .int .i64 h] w fun e w' => e = .returned (.bool (decide (0 ≤ n) && decide (n ≤ h))) ∧ w = w' := by
  go_enter Try.func87, Try.ntmps87
  go_wp2_with fail
  all_goals (go_ret; refine ⟨ret_bool ?_, rfl⟩; go_light; rw [Bool.eq_iff_iff]; simp_all; try omega)
end Go.Proofs.Ythdbckbpldlkeaa
