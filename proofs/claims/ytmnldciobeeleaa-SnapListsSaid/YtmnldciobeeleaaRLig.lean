/- The reference of dictionaries: Light. -/
import Derived.Test.YtmnldciobeeleaaDicW
import Derived.Test.YtmnldciobeeleaaEntL
import Derived.RegionTactic
import Derived.Deep.RegionHeld3
import Derived.Deep.Light
namespace Go.Proofs.Ytmnldciobeeleaa
set_option linter.unusedVariables false
set_option linter.unusedSimpArgs false
set_option linter.unnecessarySimpa false
open Go.RowKit
set_option maxRecDepth 100000
set_option maxHeartbeats 4000000
def lightE (E : Ent) : Bool := decide (E.df.length ≤ 1000) && decide (E.nm.size ≤ 1000)
def lightL (L : List Ent) : Bool := decide (L.length ≤ 200) && L.all lightE
theorem light_fit {L : List Ent} (h : lightL L = true) : ∀ E ∈ L, fitE E := by
  intro E hE
  simp only [lightL, Bool.and_eq_true, List.all_eq_true] at h
  have := h.2 E hE
  simp only [lightE, Bool.and_eq_true, decide_eq_true_eq] at this
  exact ⟨by omega, by omega⟩
theorem light_len {L : List Ent} (h : lightL L = true) : L.length ≤ 200 := by
  simp only [lightL, Bool.and_eq_true, decide_eq_true_eq] at h
  exact h.1
theorem rlight (A : Option Addr) (n c : Nat) (L : List Ent) (w : World) (hn : n = L.length) (hL : SlE w A L) :
    Calls Try.prog 18 #[.slice A n c] w fun e w' => e = .returned (.bool (lightL L)) ∧ w = w' := by
  have HN := hide hn
  have HL := hide hL
  by_cases hbig : 200 < n
  · have HR : Hid (lightL L = false) := hide (by simp [lightL]; omega)
    clear hn hL
    go_enter Try.func18, Try.ntmps18
    go_wp2_with fail
    go_ret
    exact ⟨ret_bool HR.out.symm, rfl⟩
  clear hn hL
  go_enter Try.func18, Try.ntmps18
  go_wp2_with fail
  go_loopw [3] (fun i wr => ∃ k, k ≤ n ∧ i = .int .i64 (k : Nat) ∧ Hid (∀ E ∈ L.take k, lightE E = true) ∧ w = wr) (fun i _ => n - (intOf i).toNat)
  case atStart => exact ⟨0, by omega, rfl, hide (by simp), rfl⟩
  case round =>
    obtain ⟨k, hk, rfl, HA, rfl⟩ := hrel
    by_cases hlt : k < n
    · obtain ⟨E, hE⟩ : ∃ E, L[k]? = some E := ⟨L[k]'(by rw [← HN.out]; exact hlt), List.getElem?_eq_getElem _⟩
      obtain ⟨b, off, Aj, cj, rfl, ⟨c0, c1, c2, c3, c4, c5, c6, c7, c8, c9, c10⟩, hcj, hsj⟩ := HL.out k E hE
      have HT := hide (take_snoc hE)
      have HM := hide (List.mem_of_getElem? hE)
      clear c0 c1 c3 c4 c5 c6 c7 c8 c9 hcj hsj hE
      obtain ⟨m, hm⟩ : ∃ m, m = E.df.length := ⟨_, rfl⟩
      rw [← hm] at c10
      have HMM := hide hm
      clear hm
      by_cases h1 : 1000 < m
      · have HR : Hid (lightL L = false) := hide (by
          have : L.all lightE = false := by rw [List.all_eq_false]; exact ⟨E, HM.out, by simp [lightE, ← HMM.out]; omega⟩
          simp [lightL, this])
        go_wp2_with fail
        go_ret
        exact ⟨ret_bool HR.out.symm, rfl⟩
      by_cases h2 : 1000 < E.nm.size
      · have HR : Hid (lightL L = false) := hide (by
          have : L.all lightE = false := by rw [List.all_eq_false]; exact ⟨E, HM.out, by simp [lightE]; omega⟩
          simp [lightL, this])
        go_wp2_with fail
        go_ret
        exact ⟨ret_bool HR.out.symm, rfl⟩
      · have HR : Hid (∀ D ∈ L.take (k + 1), lightE D = true) := hide (by
          intro D hD
          rw [HT.out, List.mem_append, List.mem_singleton] at hD
          rcases hD with hD | rfl
          · exact HA.out D hD
          · simp [lightE, ← HMM.out]; omega)
        go_wp2_with fail
        go_roundw
        case rel => exact ⟨k + 1, by omega, by go_num, HR, by trivial⟩
        case measure => simp [intOf]; omega
    · have HR : Hid (lightL L = true) := hide (by
        have h1 := HA.out
        rw [List.take_of_length_le (by rw [← HN.out]; omega)] at h1
        simp only [lightL, Bool.and_eq_true, decide_eq_true_eq, List.all_eq_true]
        exact ⟨by rw [← HN.out]; omega, h1⟩)
      go_wp2_with fail
      go_ret
      exact ⟨ret_bool HR.out.symm, rfl⟩
end Go.Proofs.Ytmnldciobeeleaa
