/- The reference of sdomsg: named. -/
import Derived.Test.YtcncbmlacphclaaRSdN1
import Derived.Test.YtcncbmlacphclaaRSdN2
import Derived.Test.YtcncbmlacphclaaRSdN3
import Derived.Test.YtcncbmlacphclaaRSdN4
import Derived.RegionTactic
import Derived.ChangeAlike
import Derived.Deep.Light
namespace Go.Proofs.Ytcncbmlacphclaa
set_option linter.unusedVariables false
set_option linter.unusedSimpArgs false
set_option linter.unnecessarySimpa false
open Go.RowKit
set_option maxRecDepth 100000
set_option maxHeartbeats 4000000

theorem rsd_named (M : Ms) (A : Option Addr) (n c : Nat) (w : World) (hn : n = M.data.length) (h1 : 1 ≤ M.kind) (h2 : M.kind ≤ 21) : Calls Try.prog 85 #[.agg (msV M A n c)] w (NamedR M.kind M A n c w) := by
  have h : M.kind = 1 ∨ M.kind = 2 ∨ M.kind = 3 ∨ M.kind = 4 ∨ M.kind = 5 ∨ M.kind = 6 ∨ M.kind = 7 ∨ M.kind = 8 ∨ M.kind = 9 ∨ M.kind = 10 ∨ M.kind = 11 ∨ M.kind = 12 ∨ M.kind = 13 ∨ M.kind = 14 ∨ M.kind = 15 ∨ M.kind = 16 ∨ M.kind = 17 ∨ M.kind = 18 ∨ M.kind = 19 ∨ M.kind = 20 ∨ M.kind = 21 := by omega
  rcases h with h | h | h | h | h | h | h | h | h | h | h | h | h | h | h | h | h | h | h | h | h
  · rw [h]; exact rsd_named1 M A n c w hn h
  · rw [h]; exact rsd_named2 M A n c w hn h
  · rw [h]; exact rsd_named3 M A n c w hn h
  · rw [h]; exact rsd_named4 M A n c w hn h
  · rw [h]; exact rsd_named5 M A n c w hn h
  · rw [h]; exact rsd_named6 M A n c w hn h
  · rw [h]; exact rsd_named7 M A n c w hn h
  · rw [h]; exact rsd_named8 M A n c w hn h
  · rw [h]; exact rsd_named9 M A n c w hn h
  · rw [h]; exact rsd_named10 M A n c w hn h
  · rw [h]; exact rsd_named11 M A n c w hn h
  · rw [h]; exact rsd_named12 M A n c w hn h
  · rw [h]; exact rsd_named13 M A n c w hn h
  · rw [h]; exact rsd_named14 M A n c w hn h
  · rw [h]; exact rsd_named15 M A n c w hn h
  · rw [h]; exact rsd_named16 M A n c w hn h
  · rw [h]; exact rsd_named17 M A n c w hn h
  · rw [h]; exact rsd_named18 M A n c w hn h
  · rw [h]; exact rsd_named19 M A n c w hn h
  · rw [h]; exact rsd_named20 M A n c w hn h
  · rw [h]; exact rsd_named21 M A n c w hn h
end Go.Proofs.Ytcncbmlacphclaa
