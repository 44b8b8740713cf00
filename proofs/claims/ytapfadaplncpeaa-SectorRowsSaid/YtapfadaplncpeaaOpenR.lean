/- What an argument reads as: slices of bytes, as lists. -/
import Derived.Test.YtapfadaplncpeaaRowsW
import Derived.Test.YtapfadaplncpeaaOpenB
namespace Go.Proofs.Ytapfadaplncpeaa
set_option linter.unusedVariables false
set_option linter.unusedSimpArgs false
set_option linter.unnecessarySimpa false
open Go.RowKit Go.ChangeShapes Go.WideShapes Go.Deep
set_option maxRecDepth 20000

section
variable {H : Type} {enc : TypeId × Value → H} {w : World} {base : Nat} {spare : Nat → Bool} {held : Bool}
theorem open_rows {fuel : Nat} {v : Value} {x : DataW H × List MemPlace} (h : DataW.trod enc Try.prog w base spare held fuel 60 [v] = some x) :
    ∃ (A : Option Addr) (n c : Nat) (D : List (List UInt8)), v = .slice A n c ∧ n = D.length ∧ n ≤ c ∧ SlB w A D := by
  rcases open_slice Try.underlying60 h with ⟨hcs, _⟩ | ⟨a, len, cap, m, n, D, Pl, hcs, _, hl, hm, hmm, _, hi⟩
  · simp at hcs
    exact ⟨none, 0, 0, [], hcs, rfl, Nat.le_refl _, by intro j v hv; simp at hv⟩
  · simp at hcs
    have hlm : len ≤ m := by rw [hmm]; split <;> omega
    obtain ⟨L, hL, hQ⟩ := list_of len (fun i (d : List UInt8) => ∃ Aj cj, w.cell? (a.add (i * 1)) = some (.slice Aj d.length cj) ∧ d.length ≤ cj ∧ Sl w Aj (d.map bv)) (by
      intro i hilen
      obtain ⟨cs', hc, ht⟩ := hi i (by omega)
      rw [show Try.prog.cellsOf 23 = 1 by kernel_rfl] at hc
      obtain ⟨_, hcl, hat⟩ := World.cells?_some hc
      match cs', hcl with
      | [v0], _ =>
        obtain ⟨Aj, cj, data, h2, h3, h4⟩ := open_bytes ht
        subst h2
        have a0 := hat 0 (by omega)
        refine ⟨data, Aj, cj, ?_, h3, h4⟩
        simpa [Addr.add] using a0)
    refine ⟨some a, len, cap, L, hcs, hL.symm, hl, ?_⟩
    intro j d hd
    obtain ⟨Aj, cj, h0, h1, h2⟩ := hQ j d hd
    obtain ⟨b, off, spot⟩ := a
    obtain ⟨d0, hd0⟩ : ∃ d0, L[0]? = some d0 := ⟨L[0]'(by have := (List.getElem?_eq_some_iff.1 hd).1; omega), List.getElem?_eq_getElem _⟩
    obtain ⟨_, _, g0, _⟩ := hQ 0 d0 hd0
    have : spot = none := by
      have := World.cell?_spot g0
      simpa [Addr.add] using this
    subst this
    refine ⟨b, off, Aj, cj, rfl, ?_, h1, h2⟩
    rw [Nat.mul_one, Addr.add_lit] at h0
    exact h0
end
end Go.Proofs.Ytapfadaplncpeaa
