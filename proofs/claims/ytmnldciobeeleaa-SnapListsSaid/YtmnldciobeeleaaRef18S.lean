/- The references' Light and Same. -/
import Derived.Test.YtmnldciobeeleaaSeat
import Derived.Test.YtmnldciobeeleaaSvL
import Derived.RegionTactic
namespace Go.Proofs.Ytmnldciobeeleaa
set_option linter.unusedVariables false
set_option linter.unusedSimpArgs false
set_option linter.unnecessarySimpa false
open Go.RowKit
set_option maxRecDepth 20000
set_option maxHeartbeats 1000000

def lightB (L : List SV) : Bool := decide (L.length ≤ 200 ∧ ∀ v ∈ L, v.data.length ≤ 2000)
theorem light_any (A : Option Addr) (n c : Nat) (L : List SV) (w : World) (hn : n = L.length) (hc : n ≤ c) (hL : SlV w A L) :
    Calls Try.prog 4 #[.slice A n c] w fun e w' => e = .returned (.bool (lightB L)) ∧ w = w' := by
  have fin : ∀ b, b = lightB L → Ending.returned (.bool b) = .returned (.bool (lightB L)) := fun b h => by rw [h]
  have HN := hide hn
  clear hn
  by_cases hbig : 200 < n
  · have HF := hide (show false = lightB L by have := HN.out; simp [lightB]; omega)
    go_enter Try.func4, Try.ntmps4
    go_wp2_with fail
    go_ret
    exact ⟨fin _ HF.out, rfl⟩
  · go_enter Try.func4, Try.ntmps4
    go_wp2_with fail
    go_loop [3] (fun i => ∃ k, k ≤ n ∧ i = .int .i64 (k : Nat) ∧ Hid (∀ j v, j < k → L[j]? = some v → v.data.length ≤ 2000)) (fun i => n - (intOf i).toNat)
    case atStart => exact ⟨0, by omega, rfl, hide (by omega)⟩
    case round =>
      obtain ⟨k, hk, rfl, HC⟩ := hrel
      by_cases hlt : k < n
      · obtain ⟨v, hv⟩ : ∃ v, L[k]? = some v := ⟨L[k]'(by have := HN.out; omega), List.getElem?_eq_getElem _⟩
        obtain ⟨b, off, Aj, cj, rfl, h0, h1, h2, h4, h5⟩ := hL k v hv
        have HV := hide hv
        clear hv
        by_cases hm : 2000 < v.data.length
        · go_wp2_with fail
          go_ret
          exact ⟨fin _ (by simp only [lightB]; symm; rw [decide_eq_false_iff_not]; rintro ⟨_, h⟩; have := h _ (List.mem_of_getElem? HV.out); omega), rfl⟩
        · go_wp2_with fail
          go_round
          case rel =>
            refine ⟨k + 1, by omega, by go_num, hide ?_⟩
            intro j u hj hu
            rcases Nat.lt_succ_iff_lt_or_eq.1 hj with h | h
            · exact HC.out j u h hu
            · subst h
              rw [HV.out] at hu
              injection hu with hu
              rw [← hu]
              omega
          case measure => simp [intOf]; omega
      · go_wp2_with fail
        go_ret
        refine ⟨fin _ ?_, rfl⟩
        simp only [lightB]
        symm
        rw [decide_eq_true_eq]
        refine ⟨by have := HN.out; omega, ?_⟩
        intro v hv
        obtain ⟨j, hj, rfl⟩ := List.getElem_of_mem hv
        exact HC.out j _ (by have := HN.out; omega) (List.getElem?_eq_getElem hj)

end Go.Proofs.Ytmnldciobeeleaa
