/- Numbers of 32 bits, as an argument. -/
import Derived.Test.YtkhbcmkcjnnejaaDoorFltS
import Derived.Test.YtkhbcmkcjnnejaaDoorOpenB
namespace Go.Proofs.YtkhbcmkcjnnejaaDoor
set_option linter.unusedVariables false
set_option linter.unusedSimpArgs false
set_option linter.unnecessarySimpa false
open Go.RowKit Go.ChangeShapes Go.WideShapes Go.Deep
set_option maxRecDepth 20000
theorem cells_u32 : Tryd.prog.cellsOf 23 = 1 := by kernel_rfl
theorem ofNums32 (zs : List Int) (k : Nat) (hz : ∀ n ∈ zs, (Lit.int .u32 n).wf = true) : ∃ l : List Nat, l.length = (zs.take k).length ∧ (∀ x ∈ l, x ≤ 4294967295) ∧ ∀ i, i < l.length → ∃ c, l[i]? = some c ∧ zs.getD i 0 = (c : Int) := by
  have hb : ∀ n ∈ zs, 0 ≤ n ∧ n ≤ 4294967295 := fun n hn => by simpa [Lit.wf, IntKind.min, IntKind.max, IntKind.signed, IntKind.bits] using hz n hn
  refine ⟨(zs.take k).map Int.toNat, by simp, ?_, ?_⟩
  · intro x hx
    obtain ⟨z, hz', rfl⟩ := List.mem_map.1 hx
    have := hb z (List.mem_of_mem_take hz')
    omega
  · intro i hi
    simp at hi
    have hlt : i < zs.length := by omega
    refine ⟨(zs[i]).toNat, ?_, ?_⟩
    · rw [List.getElem?_map, List.getElem?_take, if_pos (by omega), List.getElem?_eq_getElem hlt]; rfl
    · have := hb _ (List.getElem_mem hlt)
      rw [List.getD_eq_getElem?_getD, List.getElem?_eq_getElem hlt]
      simp only [Option.getD_some]
      omega
section
variable {H : Type} {enc : TypeId × Value → H} {w : World} {base : Nat} {spare : Nat → Bool} {held : Bool}
theorem open_u32s {fuel : Nat} {v : Value} {x : DataW H × List MemPlace} (h : DataW.trod enc Tryd.prog w base spare held fuel 22 [v] = some x) :
    ∃ (A : Option Addr) (c : Nat) (l : List Nat), v = .slice A l.length c ∧ l.length ≤ c ∧ Sl w A (l.map cv) ∧ ∀ x ∈ l, x ≤ 4294967295 := by
  rcases open_ints Tryd.underlying22 Tryd.underlying23 cells_u32 h with ⟨hcs, _⟩ | ⟨a, len, cap, zs, hcs, _, hl, hm, hz, _, hcell, hwz⟩
  · simp at hcs
    exact ⟨none, 0, [], hcs, Nat.le_refl _, Sl.nil _ _, by simp⟩
  · simp at hcs
    obtain ⟨l, hll, hb, hg⟩ := ofNums32 zs len hwz
    have hlz : len ≤ zs.length := by rw [hz]; split <;> omega
    have hlen : l.length = len := by rw [hll, List.length_take]; omega
    refine ⟨some a, cap, l, by rw [hlen]; exact hcs, by omega, ?_, hb⟩
    · intro j u hu
      have hj : j < l.length := by have := (List.getElem?_eq_some_iff.1 hu).1; simpa using this
      obtain ⟨c, hc, hzc⟩ := hg j hj
      refine ⟨a, rfl, ?_⟩
      rw [hcell j (by omega), hzc]
      rw [List.getElem?_map, hc] at hu
      simpa [cv] using hu
end
end Go.Proofs.YtkhbcmkcjnnejaaDoor
