/- What an argument reads as: bytes, and values, as lists. -/
import Derived.Test.YtapfadaplncpeaaSnapW
import Derived.Test.YtapfadaplncpeaaRows
import Derived.ProofKit
import Derived.OpenShut
import Derived.ChangeOld
import Derived.Deep.Slices
import Derived.Deep.Fields
namespace Go.Proofs.Ytapfadaplncpeaa
open Go.RowKit Go.ChangeShapes Go.WideShapes Go.Deep
set_option maxRecDepth 20000

theorem cells_u8 : Try.prog.cellsOf 5 = 1 := by kernel_rfl
theorem cells_val : Try.prog.cellsOf 35 = 3 := by kernel_rfl
theorem ofNums (zs : List Int) (k : Nat) (hz : ∀ n ∈ zs, (Lit.int .u8 n).wf = true) : ∃ l : List UInt8, l.length = (zs.take k).length ∧ ∀ i, i < l.length → ∃ c, l[i]? = some c ∧ zs.getD i 0 = (c.toNat : Int) := by
  refine ⟨(zs.take k).map fun n => UInt8.ofNat n.toNat, by simp, ?_⟩
  intro i hi
  simp at hi
  have hlt : i < zs.length := by omega
  refine ⟨UInt8.ofNat (zs[i]).toNat, ?_, ?_⟩
  · rw [List.getElem?_map, List.getElem?_take, if_pos (by omega), List.getElem?_eq_getElem hlt]; rfl
  · have hw := hz _ (List.getElem_mem hlt)
    have hb : 0 ≤ zs[i] ∧ zs[i] ≤ 255 := by simpa [Lit.wf, IntKind.min, IntKind.max, IntKind.signed, IntKind.bits] using hw
    rw [List.getD_eq_getElem?_getD, List.getElem?_eq_getElem hlt]
    simp only [Option.getD_some, UInt8.toNat_ofNat']
    omega
section
variable {H : Type} {enc : TypeId × Value → H} {w : World} {base : Nat} {spare : Nat → Bool} {held : Bool}
theorem open_bytes {fuel : Nat} {v : Value} {x : DataW H × List MemPlace} (h : DataW.trod enc Try.prog w base spare held fuel 23 [v] = some x) :
    ∃ (A : Option Addr) (c : Nat) (l : List UInt8), v = .slice A l.length c ∧ l.length ≤ c ∧ Sl w A (l.map bv) := by
  rcases open_ints Try.underlying23 Try.underlying5 cells_u8 h with ⟨hcs, _⟩ | ⟨a, len, cap, zs, hcs, _, hl, hm, hz, _, hcell, hwz⟩
  · simp at hcs
    exact ⟨none, 0, [], hcs, Nat.le_refl _, Sl.nil _ _⟩
  · simp at hcs
    obtain ⟨l, hll, hg⟩ := ofNums zs len hwz
    have hlz : len ≤ zs.length := by rw [hz]; split <;> omega
    have hlen : l.length = len := by rw [hll, List.length_take]; omega
    refine ⟨some a, cap, l, by rw [hlen]; exact hcs, by omega, ?_⟩
    · intro j u hu
      have hj : j < l.length := by have := (List.getElem?_eq_some_iff.1 hu).1; simpa using this
      obtain ⟨c, hc, hzc⟩ := hg j hj
      refine ⟨a, rfl, ?_⟩
      rw [hcell j (by omega), hzc]
      rw [List.getElem?_map, hc] at hu
      simpa [bv] using hu
theorem list_of {α : Type} (n : Nat) (Q : Nat → α → Prop) (h : ∀ i, i < n → ∃ a, Q i a) : ∃ L : List α, L.length = n ∧ ∀ i a, L[i]? = some a → Q i a := by
  induction n with
  | zero => exact ⟨[], rfl, by intro i a h; simp at h⟩
  | succ n ih =>
    obtain ⟨L, hL, hQ⟩ := ih fun i hi => h i (by omega)
    obtain ⟨a, ha⟩ := h n (by omega)
    refine ⟨L ++ [a], by simp [hL], ?_⟩
    intro i b hb
    rcases Nat.lt_or_ge i n with hi | hi
    · rw [List.getElem?_append_left (by omega)] at hb
      exact hQ i b hb
    · have : i < (L ++ [a]).length := (List.getElem?_eq_some_iff.1 hb).1
      simp [hL] at this
      obtain rfl : i = n := by omega
      rw [List.getElem?_append_right (by omega), hL] at hb
      simp at hb
      subst hb
      exact ha
theorem open_vals {fuel : Nat} {v : Value} {x : DataW H × List MemPlace} (h : DataW.trod enc Try.prog w base spare held fuel 22 [v] = some x) :
    ∃ (A : Option Addr) (n c : Nat) (L : List SV), v = .slice A n c ∧ n = L.length ∧ n ≤ c ∧ SlV w A L := by
  rcases open_slice Try.underlying22 h with ⟨hcs, _⟩ | ⟨a, len, cap, m, n, D, Pl, hcs, _, hl, hm, hmm, _, hi⟩
  · simp at hcs
    exact ⟨none, 0, 0, [], hcs, rfl, Nat.le_refl _, by intro j v hv; simp at hv⟩
  · simp at hcs
    have hlm : len ≤ m := by rw [hmm]; split <;> omega
    obtain ⟨L, hL, hQ⟩ := list_of len (fun i (v : SV) => ∃ Aj cj, w.cell? (a.add (i * 3)) = some (.int .i64 v.ix) ∧ w.cell? ((a.add (i * 3)).add 1) = some (.int .i64 v.sub) ∧
        w.cell? ((a.add (i * 3)).add 2) = some (.slice Aj v.data.length cj) ∧ v.data.length ≤ cj ∧ Sl w Aj (v.data.map bv)) (by
      intro i hilen
      obtain ⟨cs', hc, ht⟩ := hi i (by omega)
      rw [cells_val] at hc
      obtain ⟨_, hcl, hat⟩ := World.cells?_some hc
      obtain ⟨ys, k, _, _, _, _, hf⟩ := DataW.trod_struct Try.underlying35 ht
      match cs', hcl with
      | [v0, v1, v2], _ =>
        have f0 : DataW.trod enc Try.prog w base spare held k 3 ((([v0, v1, v2] : List Value).drop 0).take (Try.prog.cellsOf 3)) = ys[0]? := hf 0 _ rfl
        have f1 : DataW.trod enc Try.prog w base spare held k 3 ((([v0, v1, v2] : List Value).drop 1).take (Try.prog.cellsOf 3)) = ys[1]? := hf 1 _ rfl
        have f2 : DataW.trod enc Try.prog w base spare held k 23 ((([v0, v1, v2] : List Value).drop 2).take (Try.prog.cellsOf 23)) = ys[2]? := hf 2 _ rfl
        rw [show Try.prog.cellsOf 3 = 1 by kernel_rfl] at f0 f1
        rw [show Try.prog.cellsOf 23 = 1 by kernel_rfl] at f2
        simp only [List.drop_zero, List.take_succ_cons, List.take_zero, List.drop_succ_cons] at f0 f1 f2
        have hy : ys.length = 3 := by assumption
        rw [List.getElem?_eq_getElem (show 0 < ys.length by omega)] at f0
        rw [List.getElem?_eq_getElem (show 1 < ys.length by omega)] at f1
        rw [List.getElem?_eq_getElem (show 2 < ys.length by omega)] at f2
        obtain ⟨ix, h0, _, _⟩ := DataW.trod_int Try.underlying3 f0
        obtain ⟨sub, h1, _, _⟩ := DataW.trod_int Try.underlying3 f1
        obtain ⟨Aj, cj, data, h2, h3, h4⟩ := open_bytes f2
        simp only [List.cons.injEq, and_true] at h0 h1
        subst h0
        subst h1
        subst h2
        have a0 := hat 0 (by omega)
        have a1 := hat 1 (by omega)
        have a2 := hat 2 (by omega)
        refine ⟨⟨ix, sub, data⟩, Aj, cj, ?_, a1, a2, h3, h4⟩
        simpa [Addr.add] using a0)
    refine ⟨some a, len, cap, L, hcs, hL.symm, hl, ?_⟩
    intro j v hv
    obtain ⟨Aj, cj, h0, h1, h2, h3, h4⟩ := hQ j v hv
    rw [add_add] at h1 h2
    obtain ⟨b, off, spot⟩ := a
    by_cases hj : j = 0
    · subst hj
      have : spot = none := by
        have := World.cell?_spot h0
        simpa [Addr.add] using this
      subst this
      exact ⟨b, off, Aj, cj, rfl, by simpa [Addr.add] using h0, by simpa [Addr.add] using h1, by simpa [Addr.add] using h2, h3, h4⟩
    · obtain ⟨v0, hv0⟩ : ∃ v0, L[0]? = some v0 := ⟨L[0]'(by have := (List.getElem?_eq_some_iff.1 hv).1; omega), List.getElem?_eq_getElem _⟩
      obtain ⟨_, _, g0, _⟩ := hQ 0 v0 hv0
      have : spot = none := by
        have := World.cell?_spot g0
        simpa [Addr.add] using this
      subst this
      exact ⟨b, off, Aj, cj, rfl, by simpa [Addr.add_lit] using h0, by simpa [Addr.add_lit, Nat.add_assoc] using h1, by simpa [Addr.add_lit, Nat.add_assoc] using h2, h3, h4⟩
end
end Go.Proofs.Ytapfadaplncpeaa
