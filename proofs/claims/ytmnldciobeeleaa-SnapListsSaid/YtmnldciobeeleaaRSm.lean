/- The reference of dictionaries: Same, at two lists of values that are alike. -/
import Derived.Test.YtmnldciobeeleaaSeat
import Derived.Test.YtmnldciobeeleaaSvL
import Derived.RegionTactic
import Derived.Deep.RegionHeld3
import Derived.RegionCalls
import Derived.BigQuiet
import Derived.Deep.QuietTactic
namespace Go.Proofs.Ytmnldciobeeleaa
set_option linter.unusedVariables false
set_option linter.unusedSimpArgs false
set_option linter.unnecessarySimpa false
open Go.RowKit
set_option maxRecDepth 20000
set_option maxHeartbeats 1000000

theorem vals_same (A A2 : Option Addr) (n n2 c c2 : Nat) (L : List SV) (w : World) (hn : n = L.length) (hn2 : n2 = L.length) (hc : n ≤ c) (hc2 : n2 ≤ c2) (hb : n ≤ 35184372088) (hL : SlV w A L) (hL2 : SlV w A2 L) :
    Calls Try.prog 7 #[.slice A n c, .slice A2 n2 c2] w fun e w' => e = .returned (.bool true) ∧ Below w.heap.size w w' := by
  obtain rfl : n = n2 := by omega
  have HN := hide hn
  clear hn hn2
  go_enter Try.func7, Try.ntmps7
  go_wp2_with fail
  go_loopw [5] (fun i wr => ∃ k, k ≤ n ∧ i = .int .i64 (k : Nat) ∧ Below w.heap.size w wr) (fun i _ => n - (intOf i).toNat)
  case atStart => exact ⟨0, by omega, rfl, Below.refl _ _⟩
  case round =>
    obtain ⟨k, hk, rfl, hbr⟩ := hrel
    by_cases hlt : k < n
    · obtain ⟨v, hv⟩ : ∃ v, L[k]? = some v := ⟨L[k]'(by have := HN.out; omega), List.getElem?_eq_getElem _⟩
      obtain ⟨b, off, Aj, cj, rfl, h0, h1, h2, h4, h5⟩ := (hL.below hbr) k v hv
      obtain ⟨b', off', Aj', cj', rfl, g0, g1, g2, g4, g5⟩ := (hL2.below hbr) k v hv
      have HV := hide hv
      clear hv
      have k1 := fun nq => str_b (w := wr.drewN nq) cj rfl (l := v.data) (show Sl (wr.drewN nq) Aj (v.data.map bv) from h5)
      have k2 := fun nq => str_b (w := wr.drewN nq) cj' rfl (l := v.data) (show Sl (wr.drewN nq) Aj' (v.data.map bv) from g5)
      obtain ⟨i1, i2, i3⟩ := idx_at hlt
      have hself : (v.ix != v.ix) = false := by simp
      have hself2 : (v.sub != v.sub) = false := by simp
      go_wp2_with fail
      go_quiet (fail)
      go_wp2_with fail
      go_roundw
      case rel => exact ⟨k + 1, by omega, by go_num, below_drewN hbr _⟩
      case measure => simp [intOf]; omega
    · go_wp2_with fail
      go_ret
      exact ⟨rfl, hbr⟩
end Go.Proofs.Ytmnldciobeeleaa
