/- A flash in memory; what its functions tell that write nothing. -/
import Derived.Test.YtfddfgonhgidbaaOwnF
import Derived.Test.YtfddfgonhgidbaaJouM
import Derived.BigQuiet
import Derived.Deep.QuietTactic
namespace Go.Proofs.Ytfddfgonhgidbaa
set_option linter.unusedVariables false
set_option linter.unusedSimpArgs false
set_option linter.unnecessarySimpa false
open Go.RowKit
set_option maxRecDepth 20000
set_option maxHeartbeats 2000000

theorem only1 {w : World} {p : Nat} (i : Nat) (v : Value) : Only (fun g => g = p) w (w.setCell ⟨p, i, none⟩ v) := Only.set (fun g => g = p) (Only.refl _ _) rfl v
theorem only2 {w : World} {p : Nat} (i j : Nat) (v u : Value) : Only (fun g => g = p) w ((w.setCell ⟨p, i, none⟩ v).setCell ⟨p, j, none⟩ u) := Only.set (fun g => g = p) (only1 i v) rfl u
def iv (x : Nat) : Value := .int .i64 (x : Nat)
/-- where a flash lies: its struct, its bytes, its wear -/
structure FP where
  p : Nat
  gb : Nat
  gw : Nat
  cb : Nat
  cw : Nat
def FP.F (q : FP) : Nat → Prop := fun g => g = q.p ∨ g = q.gb ∨ g = q.gw
def flC (q : FP) (S : FS) : List Value := [.slice (some ⟨q.gb, 0, none⟩) S.b.length q.cb, .slice (some ⟨q.gw, 0, none⟩) S.wear.length q.cw, .int .i64 S.most, .bool S.off, .int .i64 S.ahead, .int .u32 (S.mask : Nat), .int .i64 (S.ops : Nat)]
/-- numbers that fit -/
structure FitF (S : FS) : Prop where
  len : S.b.length = 1024 * S.wear.length
  wl : 1 ≤ S.wear.length
  wl8 : S.wear.length ≤ 8
  mask : U32 S.mask
  ah1 : -1 ≤ S.ahead
  ah2 : S.ahead ≤ 4611686018427387904
  m1 : 0 ≤ S.most
  m2 : S.most ≤ 9223372036854775807
  w : ∀ x ∈ S.wear, (x : Int) ≤ S.most
structure FD (w : World) (q : FP) (S : FS) : Prop where
  blk : Blk w q.p 73 (flC q S).toArray
  bs : Own w 0 5 1 (some ⟨q.gb, 0, none⟩) S.b.length q.cb (S.b.map bv)
  ws : Own w 0 3 1 (some ⟨q.gw, 0, none⟩) S.wear.length q.cw (S.wear.map iv)
  fit : FitF S
section
variable {w w' : World} {q : FP} {S : FS}
theorem FD.keep (h : FD w q S) (hk : ∀ g, q.F g → g < w.heap.size → w'.heap[g]? = w.heap[g]?) : FD w' q S :=
  ⟨(hk q.p (.inl rfl) h.blk.lt).trans h.blk, h.bs.keep (fun g _ hlt hA => hk g (by injection hA with hA; injection hA with hA; exact .inr (.inl hA.symm)) hlt), h.ws.keep (fun g _ hlt hA => hk g (by injection hA with hA; injection hA with hA; exact .inr (.inr hA.symm)) hlt), h.fit⟩
theorem FD.below (h : FD w q S) (hb : Below w.heap.size w w') : FD w' q S := h.keep fun g _ hlt => hb.block g hlt
theorem FD.only {G : Nat → Prop} (h : FD w q S) (ho : Only G w w') (hG : ∀ g, q.F g → ¬ G g) : FD w' q S := h.keep fun g hg hlt => ho.block g hlt (hG g hg)
theorem FD.gb_lt (h : FD w q S) : q.gb < w.heap.size := by
  have := h.fit.len
  have := h.fit.wl
  obtain ⟨g, hA, _, hlt⟩ := h.bs.at_ (by omega)
  injection hA with hA
  injection hA with hA
  rw [hA]; exact hlt
theorem FD.gw_lt (h : FD w q S) : q.gw < w.heap.size := by
  obtain ⟨g, hA, _, hlt⟩ := h.ws.at_ h.fit.wl
  injection hA with hA
  injection hA with hA
  rw [hA]; exact hlt
theorem FD.pb (h : FD w q S) : q.p ≠ q.gb := by
  intro e
  have := blk_own_ne h.blk h.bs (by decide)
  rw [e] at this
  exact this rfl
theorem FD.pw (h : FD w q S) : q.p ≠ q.gw := by
  intro e
  have := blk_own_ne h.blk h.ws (by decide)
  rw [e] at this
  exact this rfl
theorem FD.bw (h : FD w q S) : q.gb ≠ q.gw := by
  intro e
  have := own_ne' h.bs h.ws (by decide) q.gb rfl
  rw [e] at this
  exact this rfl
theorem FD.lt (h : FD w q S) : ∀ g, q.F g → g < w.heap.size := by
  rintro g (rfl | rfl | rfl)
  · exact h.blk.lt
  · exact h.gb_lt
  · exact h.gw_lt
/-- a byte's cell -/
theorem FD.byte (h : FD w q S) {j : Nat} (hj : j < S.b.length) : w.cell? ⟨q.gb, j, none⟩ = some (.int .u8 ((S.b.getD j 0).toNat : Nat)) ∧ w.frozen? ⟨q.gb, j, none⟩ = false := by
  obtain ⟨g', u, hA', _, _, hu, hc, hf⟩ := h.bs.cell hj
  injection hA' with hA'
  injection hA' with hA'
  subst hA'
  rw [List.getElem?_map, List.getElem?_eq_getElem hj] at hu
  refine ⟨?_, hf⟩
  rw [hc, ← hu, List.getD_eq_getElem?_getD, List.getElem?_eq_getElem hj]
  rfl
theorem FD.wcell (h : FD w q S) {j : Nat} (hj : j < S.wear.length) : w.cell? ⟨q.gw, j, none⟩ = some (.int .i64 ((S.wear.getD j 0 : Nat) : Int)) ∧ w.frozen? ⟨q.gw, j, none⟩ = false := by
  obtain ⟨g', u, hA', _, _, hu, hc, hf⟩ := h.ws.cell hj
  injection hA' with hA'
  injection hA' with hA'
  subst hA'
  rw [List.getElem?_map, List.getElem?_eq_getElem hj] at hu
  refine ⟨?_, hf⟩
  rw [hc, ← hu, List.getD_eq_getElem?_getD, List.getElem?_eq_getElem hj]
  rfl
/-- the struct's cells -/
theorem FD.c (h : FD w q S) : (w.cell? ⟨q.p, 0, none⟩ = some (.slice (some ⟨q.gb, 0, none⟩) S.b.length q.cb) ∧ w.cell? ⟨q.p, 1, none⟩ = some (.slice (some ⟨q.gw, 0, none⟩) S.wear.length q.cw) ∧ w.cell? ⟨q.p, 2, none⟩ = some (.int .i64 S.most) ∧
    w.cell? ⟨q.p, 3, none⟩ = some (.bool S.off) ∧ w.cell? ⟨q.p, 4, none⟩ = some (.int .i64 S.ahead) ∧ w.cell? ⟨q.p, 5, none⟩ = some (.int .u32 (S.mask : Nat)) ∧ w.cell? ⟨q.p, 6, none⟩ = some (.int .i64 (S.ops : Nat))) ∧ ∀ i, w.frozen? ⟨q.p, i, none⟩ = false :=
  ⟨⟨h.blk.cell 0 rfl, h.blk.cell 1 rfl, h.blk.cell 2 rfl, h.blk.cell 3 rfl, h.blk.cell 4 rfl, h.blk.cell 5 rfl, h.blk.cell 6 rfl⟩, h.blk.frozen⟩
/-- the struct is stored anew, bytes and wear stay -/
theorem FD.reblk {S' : FS} (h : FD w q S) (ho : Only (fun g => g = q.p) w w') (hB : Blk w' q.p 73 (flC q S').toArray) (h1 : S'.b = S.b) (h2 : S'.wear = S.wear) (hf : FitF S') : FD w' q S' :=
  ⟨hB, by rw [h1]; exact h.bs.keep (fun g _ hlt hA => ho.block g hlt (by injection hA with hA; injection hA with hA; rw [← hA]; exact fun e => h.pb e.symm)),
    by rw [h2]; exact h.ws.keep (fun g _ hlt hA => ho.block g hlt (by injection hA with hA; injection hA with hA; rw [← hA]; exact fun e => h.pw e.symm)), hf⟩
/-- a byte is stored -/
theorem FD.setB (h : FD w q S) (j : Nat) (x : UInt8) : FD (w.setCell ⟨q.gb, j, none⟩ (.int .u8 (x.toNat : Nat))) q { S with b := S.b.set j x } := by
  have hG : w.grownBy (w.setCell ⟨q.gb, j, none⟩ (.int .u8 (x.toNat : Nat))) (Value.ownBlock (.slice (some ⟨q.gb, 0, none⟩) S.b.length q.cb)) := grown_set (World.grownBy.refl _ _) (.inl rfl) j _
  refine ⟨?_, ?_, h.ws.grown hG (own_ne' h.ws h.bs (by decide)), ⟨by simp only [List.length_set]; exact h.fit.len, h.fit.wl, h.fit.wl8, h.fit.mask, h.fit.ah1, h.fit.ah2, h.fit.m1, h.fit.m2, h.fit.w⟩⟩
  · have := h.blk.grown hG (blk_own_ne h.blk h.bs (by decide))
    have e : flC q { S with b := S.b.set j x } = flC q S := by unfold flC; simp only [List.length_set]
    rw [e]
    exact this
  · have := h.bs.stored j (.int .u8 (x.toNat : Nat))
    simp only [List.length_set, List.map_set]
    exact this
theorem FD.setW (h : FD w q S) (j x : Nat) (hx : (x : Int) ≤ S.most) : FD (w.setCell ⟨q.gw, j, none⟩ (.int .i64 (x : Nat))) q { S with wear := S.wear.set j x } := by
  have hG : w.grownBy (w.setCell ⟨q.gw, j, none⟩ (.int .i64 (x : Nat))) (Value.ownBlock (.slice (some ⟨q.gw, 0, none⟩) S.wear.length q.cw)) := grown_set (World.grownBy.refl _ _) (.inl rfl) j _
  refine ⟨?_, h.bs.grown hG (own_ne' h.bs h.ws (by decide)), ?_, ⟨by simp only [List.length_set]; exact h.fit.len, by simp only [List.length_set]; exact h.fit.wl, by simp only [List.length_set]; exact h.fit.wl8, h.fit.mask, h.fit.ah1, h.fit.ah2, h.fit.m1, h.fit.m2, ?_⟩⟩
  · have := h.blk.grown hG (blk_own_ne h.blk h.ws (by decide))
    have e : flC q { S with wear := S.wear.set j x } = flC q S := by unfold flC; simp only [List.length_set]
    rw [e]
    exact this
  · have := h.ws.stored j (.int .i64 (x : Nat))
    simp only [List.length_set, List.map_set]
    exact this
  · intro y hy
    rcases List.mem_or_eq_of_mem_set hy with hy | rfl
    · exact h.fit.w y hy
    · exact hx
end
end Go.Proofs.Ytfddfgonhgidbaa
