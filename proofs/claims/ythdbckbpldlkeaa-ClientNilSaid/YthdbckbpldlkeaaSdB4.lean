/- Package sdomsg: only. -/
import Derived.Test.YthdbckbpldlkeaaSdB1
import Derived.Test.YthdbckbpldlkeaaSdB2
import Derived.Test.YthdbckbpldlkeaaSdB3
import Derived.RegionTactic
import Derived.ChangeAlike
import Derived.Deep.Light
namespace Go.Proofs.Ythdbckbpldlkeaa
set_option linter.unusedVariables false
set_option linter.unusedSimpArgs false
set_option linter.unnecessarySimpa false
open Go.RowKit
set_option maxRecDepth 100000
set_option maxHeartbeats 2000000

theorem sd_only (k : Int) (M : Ms) (A : Option Addr) (n c : Nat) (w : World) (hn : n = M.data.length) : Calls Try.prog 89 #[.int .i64 (formI k), .agg (msV M A n c)] w (OnlyR (formI k) M A n c w) := by
  have h := form_range k
  generalize formI k = f at *
  rcases (show f = 0 ∨ f = 1 ∨ f = 2 ∨ f = 3 ∨ f = 4 ∨ f = 5 ∨ f = 6 ∨ f = 7 ∨ f = 8 ∨ f = 9 ∨ f = 10 ∨ f = 11 by omega) with rfl | rfl | rfl | rfl | rfl | rfl | rfl | rfl | rfl | rfl | rfl | rfl
  · exact sd_only0 M A n c w hn
  · exact sd_only1 M A n c w hn
  · exact sd_only2 M A n c w hn
  · exact sd_only3 M A n c w hn
  · exact sd_only4 M A n c w hn
  · exact sd_only5 M A n c w hn
  · exact sd_only6 M A n c w hn
  · exact sd_only7 M A n c w hn
  · exact sd_only8 M A n c w hn
  · exact sd_only9 M A n c w hn
  · exact sd_only10 M A n c w hn
  · exact sd_only11 M A n c w hn
end Go.Proofs.Ythdbckbpldlkeaa
