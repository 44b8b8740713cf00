/- What is done to a journal, as an argument. -/
import Derived.Test.YtapfadaplncpeaaJouV
import Derived.Test.YtapfadaplncpeaaOpenB
namespace Go.Proofs.Ytapfadaplncpeaa
set_option linter.unusedVariables false
set_option linter.unusedSimpArgs false
set_option linter.unnecessarySimpa false
open Go.RowKit Go.ChangeShapes Go.WideShapes Go.Deep Go.Joins
set_option maxRecDepth 20000
theorem cells_jop : Try.prog.cellsOf 79 = 5 := by kernel_rfl
theorem u16_of_wf {n : Int} (h : (Lit.int .u16 n).wf = true) : ∃ m : Nat, m ≤ 65535 ∧ n = (m : Int) := by
  have hb : 0 ≤ n ∧ n ≤ 65535 := by simpa [Lit.wf, IntKind.min, IntKind.max, IntKind.signed, IntKind.bits] using h
  exact ⟨n.toNat, by omega, by omega⟩
theorem u8_of_wf {n : Int} (h : (Lit.int .u8 n).wf = true) : ∃ m : Nat, m ≤ 255 ∧ n = (m : Int) := by
  have hb : 0 ≤ n ∧ n ≤ 255 := by simpa [Lit.wf, IntKind.min, IntKind.max, IntKind.signed, IntKind.bits] using h
  exact ⟨n.toNat, by omega, by omega⟩
section
variable {H : Type} {enc : TypeId × Value → H} {w : World} {base : Nat} {spare : Nat → Bool} {held : Bool}
theorem open_jops {fuel : Nat} {v : Value} {x : DataW H × List MemPlace} (h : DataW.trod enc Try.prog w base spare held fuel 93 [v] = some x) :
    ∃ (A : Option Addr) (n c : Nat) (L : List JOp), v = .slice A n c ∧ n = L.length ∧ n ≤ c ∧ SlOp w A L ∧ ∀ x ∈ L, x.sz ≤ 65535 ∧ x.wm ≤ 4294967295 := by
  rcases open_slice Try.underlying93 h with ⟨hcs, _⟩ | ⟨a, len, cap, m, n, D, Pl, hcs, _, hl, hm, hmm, _, hi⟩
  · simp at hcs
    exact ⟨none, 0, 0, [], hcs, rfl, Nat.le_refl _, (by intro j v hv; simp at hv), by simp⟩
  · simp at hcs
    have hlm : len ≤ m := by rw [hmm]; split <;> omega
    obtain ⟨L, hL, hQ⟩ := list_of len (fun i (E : JOp) => w.cell? (a.add (i * 5)) = some (.int .i64 E.kd) ∧ w.cell? ((a.add (i * 5)).add 1) = some (.int .i64 E.kk) ∧ w.cell? ((a.add (i * 5)).add 2) = some (.int .u16 (E.sz : Nat)) ∧ w.cell? ((a.add (i * 5)).add 3) = some (.int .i64 E.n) ∧ w.cell? ((a.add (i * 5)).add 4) = some (.int .u32 (E.wm : Nat)) ∧ E.sz ≤ 65535 ∧ E.wm ≤ 4294967295) (by
      intro i hilen
      obtain ⟨cs', hc, ht⟩ := hi i (by omega)
      rw [cells_jop] at hc
      obtain ⟨_, hcl, hat⟩ := World.cells?_some hc
      obtain ⟨ys, k, _, _, _, _, hf⟩ := DataW.trod_struct Try.underlying79 ht
      match cs', hcl with
      | [v0, v1, v2, v3, v4], _ =>
        have f0 : DataW.trod enc Try.prog w base spare held k 3 ((([v0, v1, v2, v3, v4] : List Value).drop 0).take (Try.prog.cellsOf 3)) = ys[0]? := hf 0 _ rfl
        have f1 : DataW.trod enc Try.prog w base spare held k 3 ((([v0, v1, v2, v3, v4] : List Value).drop 1).take (Try.prog.cellsOf 3)) = ys[1]? := hf 1 _ rfl
        have f2 : DataW.trod enc Try.prog w base spare held k 77 ((([v0, v1, v2, v3, v4] : List Value).drop 2).take (Try.prog.cellsOf 77)) = ys[2]? := hf 2 _ rfl
        have f3 : DataW.trod enc Try.prog w base spare held k 3 ((([v0, v1, v2, v3, v4] : List Value).drop 3).take (Try.prog.cellsOf 3)) = ys[3]? := hf 3 _ rfl
        have f4 : DataW.trod enc Try.prog w base spare held k 38 ((([v0, v1, v2, v3, v4] : List Value).drop 4).take (Try.prog.cellsOf 38)) = ys[4]? := hf 4 _ rfl
        rw [show Try.prog.cellsOf 77 = 1 by kernel_rfl] at f2
        rw [show Try.prog.cellsOf 38 = 1 by kernel_rfl] at f4
        rw [show Try.prog.cellsOf 3 = 1 by kernel_rfl] at f0 f1 f3
        simp only [List.drop_zero, List.take_succ_cons, List.take_zero, List.drop_succ_cons] at f0 f1 f2 f3 f4
        have hy : ys.length = 5 := by assumption
        rw [List.getElem?_eq_getElem (show 0 < ys.length by omega)] at f0
        rw [List.getElem?_eq_getElem (show 1 < ys.length by omega)] at f1
        rw [List.getElem?_eq_getElem (show 2 < ys.length by omega)] at f2
        rw [List.getElem?_eq_getElem (show 3 < ys.length by omega)] at f3
        rw [List.getElem?_eq_getElem (show 4 < ys.length by omega)] at f4
        obtain ⟨x0, h0, _, _⟩ := DataW.trod_int Try.underlying3 f0
        obtain ⟨x1, h1, _, _⟩ := DataW.trod_int Try.underlying3 f1
        obtain ⟨x2, h2, _, g2⟩ := DataW.trod_int Try.underlying77 f2
        obtain ⟨x3, h3, _, _⟩ := DataW.trod_int Try.underlying3 f3
        obtain ⟨x4, h4, _, g4⟩ := DataW.trod_int Try.underlying38 f4
        obtain ⟨m2, hm2, e2⟩ := u16_of_wf g2
        obtain ⟨m4, hm4, e4⟩ := u32_of_wf g4
        simp only [List.cons.injEq, and_true] at h0 h1 h2 h3 h4
        subst h0 h1 h2 h3 h4 e2 e4
        have a0 := hat 0 (by omega)
        have a1 := hat 1 (by omega)
        have a2 := hat 2 (by omega)
        have a3 := hat 3 (by omega)
        have a4 := hat 4 (by omega)
        refine ⟨⟨x0, x1, m2, x3, m4⟩, ?_, a1, a2, a3, a4, hm2, by show m4 ≤ _; omega⟩
        simpa [Addr.add] using a0)
    refine ⟨some a, len, cap, L, hcs, hL.symm, hl, ?_, ?_⟩
    · intro j E hE
      obtain ⟨q0, q1, q2, q3, q4, _, _⟩ := hQ j E hE
      rw [add_add] at q1 q2 q3 q4
      obtain ⟨b, off, spot⟩ := a
      obtain ⟨v0, hv0⟩ : ∃ v0, L[0]? = some v0 := ⟨L[0]'(by have := (List.getElem?_eq_some_iff.1 hE).1; omega), List.getElem?_eq_getElem _⟩
      obtain ⟨g0, _⟩ := hQ 0 v0 hv0
      have : spot = none := by
        have := World.cell?_spot g0
        simpa [Addr.add] using this
      subst this
      exact ⟨b, off, rfl, by simpa [Addr.add_lit] using q0, by simpa [Addr.add_lit, Nat.add_assoc] using q1, by simpa [Addr.add_lit, Nat.add_assoc] using q2, by simpa [Addr.add_lit, Nat.add_assoc] using q3, by simpa [Addr.add_lit, Nat.add_assoc] using q4⟩
    · intro E hE
      obtain ⟨j, hj⟩ := List.mem_iff_getElem?.1 hE
      obtain ⟨_, _, _, _, _, h1, h2⟩ := hQ j E hj
      exact ⟨h1, h2⟩
end
end Go.Proofs.Ytapfadaplncpeaa
