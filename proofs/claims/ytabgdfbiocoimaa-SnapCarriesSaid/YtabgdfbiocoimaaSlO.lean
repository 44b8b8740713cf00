/- Things to be done with a dictionary, as a slice reads. No program in sight. -/
import Derived.Test.YtabgdfbiocoimaaBase
namespace Go.Proofs.Ytabgdfbiocoimaa
set_option linter.unusedVariables false
set_option linter.unusedSimpArgs false
set_option linter.unnecessarySimpa false
open Go.RowKit

structure Opr where
  kind : Int
  ix : Int
  sub : Int
  b : List UInt8
def SlO (w : World) (A : Option Addr) (L : List Opr) : Prop := ∀ j o, L[j]? = some o → ∃ b off Aj cj, A = some ⟨b, off, none⟩ ∧ (w.cell? ⟨b, off + j * 4, none⟩ = some (.int .i64 o.kind) ∧ w.cell? ⟨b, off + j * 4 + 1, none⟩ = some (.int .i64 o.ix) ∧
  w.cell? ⟨b, off + j * 4 + 2, none⟩ = some (.int .i64 o.sub) ∧ w.cell? ⟨b, off + j * 4 + 3, none⟩ = some (.slice Aj o.b.length cj)) ∧ o.b.length ≤ cj ∧ Sl w Aj (o.b.map bv)
theorem SlO.below {w w' : World} {A : Option Addr} {L : List Opr} (h : SlO w A L) (hb : Below w.heap.size w w') : SlO w' A L := by
  intro j o ho
  obtain ⟨b, off, Aj, cj, hA, ⟨c0, c1, c2, c3⟩, hc, hs⟩ := h j o ho
  have k : ∀ {p v}, w.cell? p = some v → w'.cell? p = some v := fun hc => (hb.cell (lt_of_cell hc)).trans hc
  exact ⟨b, off, Aj, cj, hA, ⟨k c0, k c1, k c2, k c3⟩, hc, hs.below hb⟩
/-- the cells as they are now, the bytes as they were -/
theorem SlO.two {w w' : World} {A : Option Addr} {L : List Opr} (h : SlO w A L) (hb : Below w.heap.size w w') {j : Nat} {o : Opr} (ho : L[j]? = some o) :
    ∃ b off Aj cj, A = some ⟨b, off, none⟩ ∧ (w'.cell? ⟨b, off + j * 4, none⟩ = some (.int .i64 o.kind) ∧ w'.cell? ⟨b, off + j * 4 + 1, none⟩ = some (.int .i64 o.ix) ∧
    w'.cell? ⟨b, off + j * 4 + 2, none⟩ = some (.int .i64 o.sub) ∧ w'.cell? ⟨b, off + j * 4 + 3, none⟩ = some (.slice Aj o.b.length cj)) ∧ o.b.length ≤ cj ∧ Sl w Aj (o.b.map bv) := by
  obtain ⟨b, off, Aj, cj, hA, ⟨c0, c1, c2, c3⟩, hc, hs⟩ := h j o ho
  have k : ∀ {p v}, w.cell? p = some v → w'.cell? p = some v := fun hc => (hb.cell (lt_of_cell hc)).trans hc
  exact ⟨b, off, Aj, cj, hA, ⟨k c0, k c1, k c2, k c3⟩, hc, hs⟩
end Go.Proofs.Ytabgdfbiocoimaa
