/- What an argument reads as: values, as lists. -/
import Derived.Test.YtmnldciobeeleaaOpenB
import Derived.Test.YtmnldciobeeleaaSvL
import Derived.Test.YtmnldciobeeleaaOpenL
namespace Go.Proofs.Ytmnldciobeeleaa
set_option linter.unusedVariables false
set_option linter.unusedSimpArgs false
set_option linter.unnecessarySimpa false
section
open Go.RowKit Go.ChangeShapes Go.WideShapes Go.Deep
set_option maxRecDepth 20000

theorem cells_val : Try.prog.cellsOf 40 = 3 := by kernel_rfl
section
variable {H : Type} {enc : TypeId × Value → H} {w : World} {base : Nat} {spare : Nat → Bool} {held : Bool}
theorem open_vals {fuel : Nat} {v : Value} {x : DataW H × List MemPlace} (h : DataW.trod enc Try.prog w base spare held fuel 23 [v] = some x) :
    ∃ (A : Option Addr) (n c : Nat) (L : List SV), v = .slice A n c ∧ n = L.length ∧ n ≤ c ∧ SlV w A L := by
  rcases open_slice Try.underlying23 h with ⟨hcs, _⟩ | ⟨a, len, cap, m, n, D, Pl, hcs, _, hl, hm, hmm, _, hi⟩
  · simp at hcs
    exact ⟨none, 0, 0, [], hcs, rfl, Nat.le_refl _, by intro j v hv; simp at hv⟩
  · simp at hcs
    have hlm : len ≤ m := by rw [hmm]; split <;> omega
    obtain ⟨L, hL, hQ⟩ := list_of len (fun i (v : SV) => ∃ Aj cj, w.cell? (a.add (i * 3)) = some (.int .i64 v.ix) ∧ w.cell? ((a.add (i * 3)).add 1) = some (.int .i64 v.sub) ∧
        w.cell? ((a.add (i * 3)).add 2) = some (.slice Aj v.data.length cj) ∧ v.data.length ≤ cj ∧ Sl w Aj (v.data.map bv)) (by
      intro i hilen
      obtain ⟨cs', hc, ht⟩ := hi i (by omega)
      rw [cells_val] at hc
      obtain ⟨_, hcl, hat⟩ := World.cells?_some hc
      obtain ⟨ys, k, _, _, _, _, hf⟩ := DataW.trod_struct Try.underlying40 ht
      match cs', hcl with
      | [v0, v1, v2], _ =>
        have f0 : DataW.trod enc Try.prog w base spare held k 3 ((([v0, v1, v2] : List Value).drop 0).take (Try.prog.cellsOf 3)) = ys[0]? := hf 0 _ rfl
        have f1 : DataW.trod enc Try.prog w base spare held k 3 ((([v0, v1, v2] : List Value).drop 1).take (Try.prog.cellsOf 3)) = ys[1]? := hf 1 _ rfl
        have f2 : DataW.trod enc Try.prog w base spare held k 38 ((([v0, v1, v2] : List Value).drop 2).take (Try.prog.cellsOf 38)) = ys[2]? := hf 2 _ rfl
        rw [show Try.prog.cellsOf 3 = 1 by kernel_rfl] at f0 f1
        rw [show Try.prog.cellsOf 38 = 1 by kernel_rfl] at f2
        simp only [List.drop_zero, List.take_succ_cons, List.take_zero, List.drop_succ_cons] at f0 f1 f2
        have hy : ys.length = 3 := by assumption
        rw [List.getElem?_eq_getElem (show 0 < ys.length by omega)] at f0
        rw [List.getElem?_eq_getElem (show 1 < ys.length by omega)] at f1
        rw [List.getElem?_eq_getElem (show 2 < ys.length by omega)] at f2
        obtain ⟨ix, h0, _, _⟩ := DataW.trod_int Try.underlying3 f0
        obtain ⟨sub, h1, _, _⟩ := DataW.trod_int Try.underlying3 f1
        obtain ⟨Aj, cj, data, h2, h3, h4⟩ := open_bytes f2
        simp only [List.cons.injEq, and_true] at h0 h1
        subst h0
        subst h1
        subst h2
        have a0 := hat 0 (by omega)
        have a1 := hat 1 (by omega)
        have a2 := hat 2 (by omega)
        refine ⟨⟨ix, sub, data⟩, Aj, cj, ?_, a1, a2, h3, h4⟩
        simpa [Addr.add] using a0)
    refine ⟨some a, len, cap, L, hcs, hL.symm, hl, ?_⟩
    intro j v hv
    obtain ⟨Aj, cj, h0, h1, h2, h3, h4⟩ := hQ j v hv
    rw [add_add] at h1 h2
    obtain ⟨b, off, spot⟩ := a
    by_cases hj : j = 0
    · subst hj
      have : spot = none := by
        have := World.cell?_spot h0
        simpa [Addr.add] using this
      subst this
      exact ⟨b, off, Aj, cj, rfl, by simpa [Addr.add] using h0, by simpa [Addr.add] using h1, by simpa [Addr.add] using h2, h3, h4⟩
    · obtain ⟨v0, hv0⟩ : ∃ v0, L[0]? = some v0 := ⟨L[0]'(by have := (List.getElem?_eq_some_iff.1 hv).1; omega), List.getElem?_eq_getElem _⟩
      obtain ⟨_, _, g0, _⟩ := hQ 0 v0 hv0
      have : spot = none := by
        have := World.cell?_spot g0
        simpa [Addr.add] using this
      subst this
      exact ⟨b, off, Aj, cj, rfl, by simpa [Addr.add_lit] using h0, by simpa [Addr.add_lit, Nat.add_assoc] using h1, by simpa [Addr.add_lit, Nat.add_assoc] using h2, h3, h4⟩
end
end
section
open Go.RowKit Go.ChangeShapes Go.WideShapes Go.Deep Go.Joins
set_option maxRecDepth 20000
section
variable {H : Type} {enc : TypeId × Value → H} {w : World} {base : Nat} {spare : Nat → Bool} {held : Bool}
theorem open_case {r : Reach} {b0 : Nat} {v : Value} {d : DataW H} {p : List MemPlace} (hv : Value.okWide Try.prog w r b0 25 v) (h : DataW.Trod enc Try.prog w base spare held 25 v d p) :
    ∃ (A : Option Addr) (n c : Nat) (L : List Ent) (A2 : Option Addr) (m c2 : Nat) (X : List SV), v = .agg #[.slice A n c, .slice A2 m c2] ∧ n = L.length ∧ n ≤ c ∧ SlE w A L ∧ m = X.length ∧ m ≤ c2 ∧ SlV w A2 X := by
  obtain ⟨x0, x1, y0, y1, fu, rfl, _, _, g0, g1⟩ := open_agg2 Try.underlying25 (by kernel_rfl) (by kernel_rfl) hv h
  obtain ⟨A, n, c, L, rfl, h1, h2, h3⟩ := open_ents g0
  obtain ⟨A2, m, c2, X, rfl, h4, h5, h6⟩ := open_vals g1
  exact ⟨A, n, c, L, A2, m, c2, X, rfl, h1, h2, h3, h4, h5, h6⟩
end
end
end Go.Proofs.Ytmnldciobeeleaa
