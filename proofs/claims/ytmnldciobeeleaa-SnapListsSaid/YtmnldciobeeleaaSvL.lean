/- Values of a dictionary, as a slice reads. No program in sight. -/
import Derived.Test.YtmnldciobeeleaaBase
namespace Go.Proofs.Ytmnldciobeeleaa
set_option linter.unusedVariables false
set_option linter.unusedSimpArgs false
set_option linter.unnecessarySimpa false
section
open Go.RowKit

/-- a value: its place and its data -/
structure SV where
  ix : Int
  sub : Int
  data : List UInt8
/-- the slice at A reads as the values L -/
def SlV (w : World) (A : Option Addr) (L : List SV) : Prop := ∀ j v, L[j]? = some v → ∃ b off Aj cj, A = some ⟨b, off, none⟩ ∧ w.cell? ⟨b, off + j * 3, none⟩ = some (.int .i64 v.ix) ∧ w.cell? ⟨b, off + j * 3 + 1, none⟩ = some (.int .i64 v.sub) ∧
  w.cell? ⟨b, off + j * 3 + 2, none⟩ = some (.slice Aj v.data.length cj) ∧ v.data.length ≤ cj ∧ Sl w Aj (v.data.map bv)
theorem SlV.keep {w w' : World} {A : Option Addr} {L : List SV} (h : SlV w A L) (hk : ∀ p v, w.cell? p = some v → w'.cell? p = some v) : SlV w' A L := by
  intro j v hv
  obtain ⟨b, off, Aj, cj, e, h1, h2, h3, h4, h5⟩ := h j v hv
  exact ⟨b, off, Aj, cj, e, hk _ _ h1, hk _ _ h2, hk _ _ h3, h4, h5.keep hk⟩
theorem SlV.below {w w' : World} {A : Option Addr} {L : List SV} (h : SlV w A L) (hb : Below w.heap.size w w') : SlV w' A L :=
  h.keep fun _ _ hc => (hb.cell (lt_of_cell hc)).trans hc
def fitsV (L : List SV) : Prop := ∀ v ∈ L, v.data.length ≤ 35184372088832
end
section
open Go.RowKit

structure Opr where
  kind : Int
  ix : Int
  sub : Int
  b : List UInt8
def SlO (w : World) (A : Option Addr) (L : List Opr) : Prop := ∀ j o, L[j]? = some o → ∃ b off Aj cj, A = some ⟨b, off, none⟩ ∧ (w.cell? ⟨b, off + j * 4, none⟩ = some (.int .i64 o.kind) ∧ w.cell? ⟨b, off + j * 4 + 1, none⟩ = some (.int .i64 o.ix) ∧
  w.cell? ⟨b, off + j * 4 + 2, none⟩ = some (.int .i64 o.sub) ∧ w.cell? ⟨b, off + j * 4 + 3, none⟩ = some (.slice Aj o.b.length cj)) ∧ o.b.length ≤ cj ∧ Sl w Aj (o.b.map bv)
theorem SlO.below {w w' : World} {A : Option Addr} {L : List Opr} (h : SlO w A L) (hb : Below w.heap.size w w') : SlO w' A L := by
  intro j o ho
  obtain ⟨b, off, Aj, cj, hA, ⟨c0, c1, c2, c3⟩, hc, hs⟩ := h j o ho
  have k : ∀ {p v}, w.cell? p = some v → w'.cell? p = some v := fun hc => (hb.cell (lt_of_cell hc)).trans hc
  exact ⟨b, off, Aj, cj, hA, ⟨k c0, k c1, k c2, k c3⟩, hc, hs.below hb⟩
/-- the cells as they are now, the bytes as they were -/
theorem SlO.two {w w' : World} {A : Option Addr} {L : List Opr} (h : SlO w A L) (hb : Below w.heap.size w w') {j : Nat} {o : Opr} (ho : L[j]? = some o) :
    ∃ b off Aj cj, A = some ⟨b, off, none⟩ ∧ (w'.cell? ⟨b, off + j * 4, none⟩ = some (.int .i64 o.kind) ∧ w'.cell? ⟨b, off + j * 4 + 1, none⟩ = some (.int .i64 o.ix) ∧
    w'.cell? ⟨b, off + j * 4 + 2, none⟩ = some (.int .i64 o.sub) ∧ w'.cell? ⟨b, off + j * 4 + 3, none⟩ = some (.slice Aj o.b.length cj)) ∧ o.b.length ≤ cj ∧ Sl w Aj (o.b.map bv) := by
  obtain ⟨b, off, Aj, cj, hA, ⟨c0, c1, c2, c3⟩, hc, hs⟩ := h j o ho
  have k : ∀ {p v}, w.cell? p = some v → w'.cell? p = some v := fun hc => (hb.cell (lt_of_cell hc)).trans hc
  exact ⟨b, off, Aj, cj, hA, ⟨k c0, k c1, k c2, k c3⟩, hc, hs⟩
end
end Go.Proofs.Ytmnldciobeeleaa
