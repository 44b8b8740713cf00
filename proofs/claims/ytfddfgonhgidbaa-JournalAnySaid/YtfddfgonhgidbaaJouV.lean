/- The walk of JournalCrashes. -/
import Derived.Test.YtfddfgonhgidbaaJouZ
import Derived.Deep.DeepCutAuto
namespace Go.Proofs.Ytfddfgonhgidbaa
set_option linter.unusedVariables false
set_option linter.unusedSimpArgs false
set_option linter.unnecessarySimpa false
open Go.RowKit
set_option maxRecDepth 20000
set_option maxHeartbeats 8000000

structure JOp where
  kd : Int
  kk : Int
  sz : Nat
  n : Int
  wm : Nat
def SlOp (w : World) (A : Option Addr) (L : List JOp) : Prop := ∀ j v, L[j]? = some v → ∃ b off, A = some ⟨b, off, none⟩ ∧ w.cell? ⟨b, off + j * 5, none⟩ = some (.int .i64 v.kd) ∧ w.cell? ⟨b, off + j * 5 + 1, none⟩ = some (.int .i64 v.kk) ∧
  w.cell? ⟨b, off + j * 5 + 2, none⟩ = some (.int .u16 (v.sz : Nat)) ∧ w.cell? ⟨b, off + j * 5 + 3, none⟩ = some (.int .i64 v.n) ∧ w.cell? ⟨b, off + j * 5 + 4, none⟩ = some (.int .u32 (v.wm : Nat))
theorem SlOp.below {w w' : World} {A : Option Addr} {L : List JOp} (h : SlOp w A L) (hb : Below w.heap.size w w') : SlOp w' A L := by
  intro j v hv
  obtain ⟨b, off, e, h0, h1, h2, h3, h4⟩ := h j v hv
  have hk : ∀ {p : Addr} {u : Value}, w.cell? p = some u → w'.cell? p = some u := fun hc => (hb.cell (lt_of_cell hc)).trans hc
  exact ⟨b, off, e, hk h0, hk h1, hk h2, hk h3, hk h4⟩
structure CrashS (S : FS) (k : Nat) : Prop where
  fresh : Fresh S k
  off : S.off = false
  most : S.most = 1000
  ops : S.ops ≤ 1000 * k
  len : S.wear.length = 3
/-- the last record, as the loop keeps it -/
structure LastK (w : World) (g6 hi : Nat) (A : Option Addr) (c : Nat) (r : Int × Nat × List UInt8) : Prop where
  blk : Blk w g6 39 (rcV r.1 r.2.1 A r.2.2.length c)
  own : OwnB w hi A r.2.2.length c r.2.2
theorem fresh_more {S : FS} {N : Nat} (h : Fresh S N) (hN : ((N + 1 : Nat) : Int) < S.most) (hN2 : N + 1 ≤ 1000000) : Fresh S (N + 1) :=
  ⟨h.len, h.three, fun j hj => Nat.le_succ_of_le (h.wear j hj), hN, Nat.le_succ_of_le h.num, hN2⟩
theorem LastK.keep {w w' : World} {g6 hi : Nat} {A : Option Addr} {c : Nat} {r : Int × Nat × List UInt8} (h : LastK w g6 hi A c r) (hk : ∀ g, (g = g6 ∨ hi ≤ g) → g < w.heap.size → w'.heap[g]? = w.heap[g]?) : LastK w' g6 hi A c r :=
  ⟨(hk g6 (.inl rfl) h.blk.lt).trans h.blk, ⟨h.own.hn, h.own.own.keep (fun g hg hlt _ => hk g (.inr hg) hlt)⟩⟩
end Go.Proofs.Ytfddfgonhgidbaa
