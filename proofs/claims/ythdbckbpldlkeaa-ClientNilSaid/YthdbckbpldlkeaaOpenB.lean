/- What an argument reads as: bytes, as lists. -/
import Derived.Test.YthdbckbpldlkeaaSeat
import Derived.Test.YthdbckbpldlkeaaRows
import Derived.ProofKit
import Derived.OpenShut
import Derived.ChangeOld
import Derived.Deep.Slices
import Derived.Deep.Fields
import Derived.Lib.SmallJoins
namespace Go.Proofs.Ythdbckbpldlkeaa
set_option linter.unusedVariables false
set_option linter.unusedSimpArgs false
set_option linter.unnecessarySimpa false
open Go.RowKit Go.ChangeShapes Go.WideShapes Go.Deep
set_option maxRecDepth 20000

theorem cells_u8 : Try.prog.cellsOf 5 = 1 := by kernel_rfl
theorem ofNums (zs : List Int) (k : Nat) (hz : ∀ n ∈ zs, (Lit.int .u8 n).wf = true) : ∃ l : List UInt8, l.length = (zs.take k).length ∧ ∀ i, i < l.length → ∃ c, l[i]? = some c ∧ zs.getD i 0 = (c.toNat : Int) := by
  refine ⟨(zs.take k).map fun n => UInt8.ofNat n.toNat, by simp, ?_⟩
  intro i hi
  simp at hi
  have hlt : i < zs.length := by omega
  refine ⟨UInt8.ofNat (zs[i]).toNat, ?_, ?_⟩
  · rw [List.getElem?_map, List.getElem?_take, if_pos (by omega), List.getElem?_eq_getElem hlt]; rfl
  · have hw := hz _ (List.getElem_mem hlt)
    have hb : 0 ≤ zs[i] ∧ zs[i] ≤ 255 := by simpa [Lit.wf, IntKind.min, IntKind.max, IntKind.signed, IntKind.bits] using hw
    rw [List.getD_eq_getElem?_getD, List.getElem?_eq_getElem hlt]
    simp only [Option.getD_some, UInt8.toNat_ofNat']
    omega
theorem u32_of_wf {n : Int} (h : (Lit.int .u32 n).wf = true) : ∃ m : Nat, m < 4294967296 ∧ n = (m : Int) := by
  have hb : 0 ≤ n ∧ n ≤ 4294967295 := by simpa [Lit.wf, IntKind.min, IntKind.max, IntKind.signed, IntKind.bits] using h
  exact ⟨n.toNat, by omega, by omega⟩
theorem list_of {α : Type} (n : Nat) (Q : Nat → α → Prop) (h : ∀ i, i < n → ∃ a, Q i a) : ∃ L : List α, L.length = n ∧ ∀ i a, L[i]? = some a → Q i a := by
  induction n with
  | zero => exact ⟨[], rfl, by intro i a h; simp at h⟩
  | succ n ih =>
    obtain ⟨L, hL, hQ⟩ := ih fun i hi => h i (by omega)
    obtain ⟨a, ha⟩ := h n (by omega)
    refine ⟨L ++ [a], by simp [hL], ?_⟩
    intro i b hb
    rcases Nat.lt_or_ge i n with hi | hi
    · rw [List.getElem?_append_left (by omega)] at hb
      exact hQ i b hb
    · have : i < (L ++ [a]).length := (List.getElem?_eq_some_iff.1 hb).1
      simp [hL] at this
      obtain rfl : i = n := by omega
      rw [List.getElem?_append_right (by omega), hL] at hb
      simp at hb
      subst hb
      exact ha
section
variable {H : Type} {enc : TypeId × Value → H} {w : World} {base : Nat} {spare : Nat → Bool} {held : Bool}
theorem open_bytes {fuel : Nat} {v : Value} {x : DataW H × List MemPlace} (h : DataW.trod enc Try.prog w base spare held fuel 32 [v] = some x) :
    ∃ (A : Option Addr) (c : Nat) (l : List UInt8), v = .slice A l.length c ∧ l.length ≤ c ∧ Sl w A (l.map bv) := by
  rcases open_ints Try.underlying32 Try.underlying5 cells_u8 h with ⟨hcs, _⟩ | ⟨a, len, cap, zs, hcs, _, hl, hm, hz, _, hcell, hwz⟩
  · simp at hcs
    exact ⟨none, 0, [], hcs, Nat.le_refl _, Sl.nil _ _⟩
  · simp at hcs
    obtain ⟨l, hll, hg⟩ := ofNums zs len hwz
    have hlz : len ≤ zs.length := by rw [hz]; split <;> omega
    have hlen : l.length = len := by rw [hll, List.length_take]; omega
    refine ⟨some a, cap, l, by rw [hlen]; exact hcs, by omega, ?_⟩
    · intro j u hu
      have hj : j < l.length := by have := (List.getElem?_eq_some_iff.1 hu).1; simpa using this
      obtain ⟨c, hc, hzc⟩ := hg j hj
      refine ⟨a, rfl, ?_⟩
      rw [hcell j (by omega), hzc]
      rw [List.getElem?_map, hc] at hu
      simpa [bv] using hu
end
end Go.Proofs.Ythdbckbpldlkeaa
