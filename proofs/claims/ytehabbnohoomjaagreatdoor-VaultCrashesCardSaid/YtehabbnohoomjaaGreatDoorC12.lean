/- A flash in memory; what its functions tell that write nothing. -/
import Derived.Test.YtehabbnohoomjaaGreatDoorC03
import Derived.Test.YtehabbnohoomjaaGreatDoorC11
import Derived.BigQuiet
import Derived.Deep.QuietTactic
namespace Go.Proofs.YtehabbnohoomjaaGreatDoor
section
set_option linter.unusedVariables false
set_option linter.unusedSimpArgs false
set_option linter.unnecessarySimpa false
open Go.RowKit
set_option maxRecDepth 20000
set_option maxHeartbeats 2000000

theorem only1 {w : World} {p : Nat} (i : Nat) (v : Value) : Only (fun g => g = p) w (w.setCell ⟨p, i, none⟩ v) := Only.set (fun g => g = p) (Only.refl _ _) rfl v
theorem only2 {w : World} {p : Nat} (i j : Nat) (v u : Value) : Only (fun g => g = p) w ((w.setCell ⟨p, i, none⟩ v).setCell ⟨p, j, none⟩ u) := Only.set (fun g => g = p) (only1 i v) rfl u
def iv (x : Nat) : Value := .int .i64 (x : Nat)
/-- where a flash lies: its struct, its bytes, its wear -/
structure FP where
  p : Nat
  gb : Nat
  gw : Nat
  cb : Nat
  cw : Nat
def FP.F (q : FP) : Nat → Prop := fun g => g = q.p ∨ g = q.gb ∨ g = q.gw
def flC (q : FP) (S : FS) : List Value := [.slice (some ⟨q.gb, 0, none⟩) S.b.length q.cb, .slice (some ⟨q.gw, 0, none⟩) S.wear.length q.cw, .int .i64 S.most, .bool S.off, .int .i64 S.ahead, .int .u32 (S.mask : Nat), .int .i64 (S.ops : Nat)]
/-- numbers that fit -/
structure FitF (S : FS) : Prop where
  len : S.b.length = 1024 * S.wear.length
  wl : 1 ≤ S.wear.length
  wl8 : S.wear.length ≤ 8
  mask : U32 S.mask
  ah1 : -1 ≤ S.ahead
  ah2 : S.ahead ≤ 4611686018427387904
  m1 : 0 ≤ S.most
  m2 : S.most ≤ 9223372036854775807
  w : ∀ x ∈ S.wear, (x : Int) ≤ S.most
structure FD (w : World) (q : FP) (S : FS) : Prop where
  blk : Blk w q.p 117 (flC q S).toArray
  bs : Own w 0 5 1 (some ⟨q.gb, 0, none⟩) S.b.length q.cb (S.b.map bv)
  ws : Own w 0 3 1 (some ⟨q.gw, 0, none⟩) S.wear.length q.cw (S.wear.map iv)
  fit : FitF S
section
variable {w w' : World} {q : FP} {S : FS}
theorem FD.keep (h : FD w q S) (hk : ∀ g, q.F g → g < w.heap.size → w'.heap[g]? = w.heap[g]?) : FD w' q S :=
  ⟨(hk q.p (.inl rfl) h.blk.lt).trans h.blk, h.bs.keep (fun g _ hlt hA => hk g (by injection hA with hA; injection hA with hA; exact .inr (.inl hA.symm)) hlt), h.ws.keep (fun g _ hlt hA => hk g (by injection hA with hA; injection hA with hA; exact .inr (.inr hA.symm)) hlt), h.fit⟩
theorem FD.below (h : FD w q S) (hb : Below w.heap.size w w') : FD w' q S := h.keep fun g _ hlt => hb.block g hlt
theorem FD.only {G : Nat → Prop} (h : FD w q S) (ho : Only G w w') (hG : ∀ g, q.F g → ¬ G g) : FD w' q S := h.keep fun g hg hlt => ho.block g hlt (hG g hg)
theorem FD.gb_lt (h : FD w q S) : q.gb < w.heap.size := by
  have := h.fit.len
  have := h.fit.wl
  obtain ⟨g, hA, _, hlt⟩ := h.bs.at_ (by omega)
  injection hA with hA
  injection hA with hA
  rw [hA]; exact hlt
theorem FD.gw_lt (h : FD w q S) : q.gw < w.heap.size := by
  obtain ⟨g, hA, _, hlt⟩ := h.ws.at_ h.fit.wl
  injection hA with hA
  injection hA with hA
  rw [hA]; exact hlt
theorem FD.pb (h : FD w q S) : q.p ≠ q.gb := by
  intro e
  have := blk_own_ne h.blk h.bs (by decide)
  rw [e] at this
  exact this rfl
theorem FD.pw (h : FD w q S) : q.p ≠ q.gw := by
  intro e
  have := blk_own_ne h.blk h.ws (by decide)
  rw [e] at this
  exact this rfl
theorem FD.lt (h : FD w q S) : ∀ g, q.F g → g < w.heap.size := by
  rintro g (rfl | rfl | rfl)
  · exact h.blk.lt
  · exact h.gb_lt
  · exact h.gw_lt
/-- a byte's cell -/
theorem FD.byte (h : FD w q S) {j : Nat} (hj : j < S.b.length) : w.cell? ⟨q.gb, j, none⟩ = some (.int .u8 ((S.b.getD j 0).toNat : Nat)) ∧ w.frozen? ⟨q.gb, j, none⟩ = false := by
  obtain ⟨g', u, hA', _, _, hu, hc, hf⟩ := h.bs.cell hj
  injection hA' with hA'
  injection hA' with hA'
  subst hA'
  rw [List.getElem?_map, List.getElem?_eq_getElem hj] at hu
  refine ⟨?_, hf⟩
  rw [hc, ← hu, List.getD_eq_getElem?_getD, List.getElem?_eq_getElem hj]
  rfl
theorem FD.wcell (h : FD w q S) {j : Nat} (hj : j < S.wear.length) : w.cell? ⟨q.gw, j, none⟩ = some (.int .i64 ((S.wear.getD j 0 : Nat) : Int)) ∧ w.frozen? ⟨q.gw, j, none⟩ = false := by
  obtain ⟨g', u, hA', _, _, hu, hc, hf⟩ := h.ws.cell hj
  injection hA' with hA'
  injection hA' with hA'
  subst hA'
  rw [List.getElem?_map, List.getElem?_eq_getElem hj] at hu
  refine ⟨?_, hf⟩
  rw [hc, ← hu, List.getD_eq_getElem?_getD, List.getElem?_eq_getElem hj]
  rfl
/-- the struct's cells -/
theorem FD.c (h : FD w q S) : (w.cell? ⟨q.p, 0, none⟩ = some (.slice (some ⟨q.gb, 0, none⟩) S.b.length q.cb) ∧ w.cell? ⟨q.p, 1, none⟩ = some (.slice (some ⟨q.gw, 0, none⟩) S.wear.length q.cw) ∧ w.cell? ⟨q.p, 2, none⟩ = some (.int .i64 S.most) ∧
    w.cell? ⟨q.p, 3, none⟩ = some (.bool S.off) ∧ w.cell? ⟨q.p, 4, none⟩ = some (.int .i64 S.ahead) ∧ w.cell? ⟨q.p, 5, none⟩ = some (.int .u32 (S.mask : Nat)) ∧ w.cell? ⟨q.p, 6, none⟩ = some (.int .i64 (S.ops : Nat))) ∧ ∀ i, w.frozen? ⟨q.p, i, none⟩ = false :=
  ⟨⟨h.blk.cell 0 rfl, h.blk.cell 1 rfl, h.blk.cell 2 rfl, h.blk.cell 3 rfl, h.blk.cell 4 rfl, h.blk.cell 5 rfl, h.blk.cell 6 rfl⟩, h.blk.frozen⟩
/-- the struct is stored anew, bytes and wear stay -/
theorem FD.reblk {S' : FS} (h : FD w q S) (ho : Only (fun g => g = q.p) w w') (hB : Blk w' q.p 117 (flC q S').toArray) (h1 : S'.b = S.b) (h2 : S'.wear = S.wear) (hf : FitF S') : FD w' q S' :=
  ⟨hB, by rw [h1]; exact h.bs.keep (fun g _ hlt hA => ho.block g hlt (by injection hA with hA; injection hA with hA; rw [← hA]; exact fun e => h.pb e.symm)),
    by rw [h2]; exact h.ws.keep (fun g _ hlt hA => ho.block g hlt (by injection hA with hA; injection hA with hA; rw [← hA]; exact fun e => h.pw e.symm)), hf⟩
/-- a byte is stored -/
theorem FD.setB (h : FD w q S) (j : Nat) (x : UInt8) : FD (w.setCell ⟨q.gb, j, none⟩ (.int .u8 (x.toNat : Nat))) q { S with b := S.b.set j x } := by
  have hG : w.grownBy (w.setCell ⟨q.gb, j, none⟩ (.int .u8 (x.toNat : Nat))) (Value.ownBlock (.slice (some ⟨q.gb, 0, none⟩) S.b.length q.cb)) := grown_set (World.grownBy.refl _ _) (.inl rfl) j _
  refine ⟨?_, ?_, h.ws.grown hG (own_ne' h.ws h.bs (by decide)), ⟨by simp only [List.length_set]; exact h.fit.len, h.fit.wl, h.fit.wl8, h.fit.mask, h.fit.ah1, h.fit.ah2, h.fit.m1, h.fit.m2, h.fit.w⟩⟩
  · have := h.blk.grown hG (blk_own_ne h.blk h.bs (by decide))
    have e : flC q { S with b := S.b.set j x } = flC q S := by unfold flC; simp only [List.length_set]
    rw [e]
    exact this
  · have := h.bs.stored j (.int .u8 (x.toNat : Nat))
    simp only [List.length_set, List.map_set]
    exact this
theorem FD.setW (h : FD w q S) (j x : Nat) (hx : (x : Int) ≤ S.most) : FD (w.setCell ⟨q.gw, j, none⟩ (.int .i64 (x : Nat))) q { S with wear := S.wear.set j x } := by
  have hG : w.grownBy (w.setCell ⟨q.gw, j, none⟩ (.int .i64 (x : Nat))) (Value.ownBlock (.slice (some ⟨q.gw, 0, none⟩) S.wear.length q.cw)) := grown_set (World.grownBy.refl _ _) (.inl rfl) j _
  refine ⟨?_, h.bs.grown hG (own_ne' h.bs h.ws (by decide)), ?_, ⟨by simp only [List.length_set]; exact h.fit.len, by simp only [List.length_set]; exact h.fit.wl, by simp only [List.length_set]; exact h.fit.wl8, h.fit.mask, h.fit.ah1, h.fit.ah2, h.fit.m1, h.fit.m2, ?_⟩⟩
  · have := h.blk.grown hG (blk_own_ne h.blk h.ws (by decide))
    have e : flC q { S with wear := S.wear.set j x } = flC q S := by unfold flC; simp only [List.length_set]
    rw [e]
    exact this
  · have := h.ws.stored j (.int .i64 (x : Nat))
    simp only [List.length_set, List.map_set]
    exact this
  · intro y hy
    rcases List.mem_or_eq_of_mem_set hy with hy | rfl
    · exact h.fit.w y hy
    · exact hx
end
end
end Go.Proofs.YtehabbnohoomjaaGreatDoor
namespace Go.Proofs.YtehabbnohoomjaaGreatDoor
section
set_option linter.unusedVariables false
set_option linter.unusedSimpArgs false
set_option linter.unnecessarySimpa false
open Go.RowKit
set_option maxRecDepth 20000
set_option maxHeartbeats 4000000
section
variable (q : FP) (S : FS) (w : World)
theorem fl_there (i : Nat) (hD : FD w q S) : Calls Tryz.prog 220 #[.pointer (some ⟨q.p, 0, none⟩), .int .i64 (i : Nat)] w fun e w' => e = .returned (.bool (decide (i < S.wear.length))) ∧ w = w' := by
  obtain ⟨⟨c0, c1, c2, c3, c4, c5, c6⟩, -⟩ := hD.c
  obtain ⟨N, hN⟩ : ∃ n, n = S.wear.length := ⟨_, rfl⟩
  have h8 := hD.fit.wl8
  rw [← hN] at c1 h8 ⊢
  clear hD hN
  by_cases h : i < N
  · have h' : (i : Int) < (N : Int) := by omega
    go_enter Tryz.func220, Tryz.ntmps220
    go_wp2_with fail
    go_ret
    exact ⟨ret_bool (by simp [h]), rfl⟩
  · have h' : ¬ (i : Int) < (N : Int) := by omega
    go_enter Tryz.func220, Tryz.ntmps220
    go_wp2_with fail
    go_ret
    exact ⟨ret_bool (by simp [h]), rfl⟩
theorem fl_Worn (i : Nat) (hD : FD w q S) (hi : i < S.wear.length) : Calls Tryz.prog 210 #[.pointer (some ⟨q.p, 0, none⟩), .int .i64 (i : Nat)] w fun e w' => e = .returned (.int .i64 ((S.wear.getD i 0 : Nat) : Int)) ∧ w = w' := by
  have HT := hide (fl_there q S w i hD)
  rw [show decide (i < S.wear.length) = true by simp [hi]] at HT
  obtain ⟨⟨c0, c1, c2, c3, c4, c5, c6⟩, -⟩ := hD.c
  obtain ⟨cw, -⟩ := hD.wcell hi
  obtain ⟨N, hN⟩ : ∃ n, n = S.wear.length := ⟨_, rfl⟩
  obtain ⟨x, hx⟩ : ∃ x, x = S.wear.getD i 0 := ⟨_, rfl⟩
  rw [← hN] at c1 hi
  rw [← hx] at cw ⊢
  have i2 : (i : Int) < (N : Int) := by omega
  clear hD hN hx
  go_enter Tryz.func210, Tryz.ntmps210
  go_wp2_with fail
  refine HT.out.mono ?_
  rintro e w1 ⟨rfl, rfl⟩
  go_wp2_with fail
  go_ret
  exact ⟨rfl, rfl⟩
theorem fl_Left (i : Nat) (hD : FD w q S) (hi : i < S.wear.length) : Calls Tryz.prog 211 #[.pointer (some ⟨q.p, 0, none⟩), .int .i64 (i : Nat)] w fun e w' => e = .returned (.int .i64 (S.most - ((S.wear.getD i 0 : Nat) : Int))) ∧ Below w.heap.size w w' := by
  have HT := hide (fl_there q S w i hD)
  rw [show decide (i < S.wear.length) = true by simp [hi]] at HT
  obtain ⟨⟨c0, c1, c2, c3, c4, c5, c6⟩, -⟩ := hD.c
  obtain ⟨cw, -⟩ := hD.wcell hi
  obtain ⟨N, hN⟩ : ∃ n, n = S.wear.length := ⟨_, rfl⟩
  have hle : ((S.wear.getD i 0 : Nat) : Int) ≤ S.most := hD.fit.w _ (by rw [List.getD_eq_getElem?_getD, List.getElem?_eq_getElem hi]; exact List.getElem_mem _)
  obtain ⟨x, hx⟩ : ∃ x, x = S.wear.getD i 0 := ⟨_, rfl⟩
  obtain ⟨M, hM⟩ : ∃ x, x = S.most := ⟨_, rfl⟩
  have m2 := hD.fit.m2
  rw [← hN] at c1 hi
  rw [← hM] at c2 hle m2 ⊢
  rw [← hx] at cw hle ⊢
  have i2 : (i : Int) < (N : Int) := by omega
  clear hD hN hx hM
  go_enter Tryz.func211, Tryz.ntmps211
  go_wp2_with fail
  refine HT.out.mono ?_
  rintro e w1 ⟨rfl, rfl⟩
  go_wp2_with fail
  go_quiet (fail)
  go_wp2_with fail
  go_ret
  exact ⟨rfl, below_drewN (Below.refl _ _) _⟩
theorem fl_Sectors (hD : FD w q S) : Calls Tryz.prog 79 #[.pointer (some ⟨q.p, 0, none⟩)] w fun e w' => e = .returned (.int .i64 ((S.wear.length : Nat) : Int)) ∧ w = w' := by
  obtain ⟨⟨c0, c1, c2, c3, c4, c5, c6⟩, -⟩ := hD.c
  clear hD
  go_enter Tryz.func79, Tryz.ntmps79
  go_wp2_with fail
  go_ret
  exact ⟨rfl, rfl⟩
theorem fl_On (hD : FD w q S) : Calls Tryz.prog 78 #[.pointer (some ⟨q.p, 0, none⟩)] w fun e w' => e = .returned (.bool (!S.off)) ∧ w = w' := by
  obtain ⟨⟨c0, c1, c2, c3, c4, c5, c6⟩, -⟩ := hD.c
  obtain ⟨off, ho⟩ : ∃ x, x = S.off := ⟨_, rfl⟩
  rw [← ho] at c3 ⊢
  clear hD ho
  go_enter Tryz.func78, Tryz.ntmps78
  go_wp2_with fail
  go_ret
  exact ⟨rfl, rfl⟩
theorem fl_Cut (n m : Nat) (hD : FD w q S) (hn : n ≤ 4611686018427387904) (hm : U32 m) : Calls Tryz.prog 28 #[.pointer (some ⟨q.p, 0, none⟩), .int .i64 (n : Nat), .int .u32 (m : Nat)] w fun e w' => e = .returned (.int .i64 0) ∧ FD w' q { S with ahead := (n : Nat), mask := m } ∧ Only (fun g => g = q.p) w w' := by
  obtain ⟨⟨c0, c1, c2, c3, c4, c5, c6⟩, hfz⟩ := hD.c
  have f4 := hfz 4
  have f5 := hfz 5
  have HD := hide hD
  have HM := hide hm
  clear hD hfz hm
  go_enter Tryz.func28, Tryz.ntmps28
  go_wp2_with fail
  go_ret
  have hF := HD.out.fit
  exact ⟨rfl, FD.reblk HD.out (only2 _ _ _ _) (by
    have h1 := HD.out.blk.set_ 4 (.int .i64 (n : Nat))
    rw [List.setIfInBounds_toArray] at h1
    have h2 := h1.set_ 5 (.int .u32 (m : Nat))
    rw [List.setIfInBounds_toArray] at h2
    exact h2) rfl rfl ⟨hF.len, hF.wl, hF.wl8, HM.out, by simp only []; omega, by simp only []; omega, hF.m1, hF.m2, hF.w⟩, Only.set _ (only1 _ _) rfl _⟩
theorem fl_Start (hD : FD w q S) : Calls Tryz.prog 29 #[.pointer (some ⟨q.p, 0, none⟩)] w fun e w' => e = .returned (.tuple #[]) ∧ FD w' q { S with off := false } ∧ Only (fun g => g = q.p) w w' := by
  obtain ⟨⟨c0, c1, c2, c3, c4, c5, c6⟩, hfz⟩ := hD.c
  have f3 := hfz 3
  have HD := hide hD
  clear hD hfz
  go_enter Tryz.func29, Tryz.ntmps29
  go_wp2_with fail
  go_end0
  have hF := HD.out.fit
  exact ⟨rfl, FD.reblk HD.out (only1 _ _) (by
    have h1 := HD.out.blk.set_ 3 (.bool false)
    rw [List.setIfInBounds_toArray] at h1
    exact h1) rfl rfl ⟨hF.len, hF.wl, hF.wl8, hF.mask, hF.ah1, hF.ah2, hF.m1, hF.m2, hF.w⟩, only1 _ _⟩
end
end
end Go.Proofs.YtehabbnohoomjaaGreatDoor
namespace Go.Proofs.YtehabbnohoomjaaGreatDoor
section
set_option linter.unusedVariables false
set_option linter.unusedSimpArgs false
set_option linter.unnecessarySimpa false
open Go.RowKit
set_option maxRecDepth 20000
set_option maxHeartbeats 2000000

theorem put_snoc {l A : List UInt8} {k : Nat} (x : UInt8) (h : k + A.length < l.length) : (put l k A).set (k + A.length) x = put l k (A ++ [x]) := by
  rw [set_put _ (by rw [put_len (by omega)]; omega), put_put (by simp; omega)]
theorem fit_of {S S' : FS} (h : FitF S) (h1 : S'.b.length = S.b.length) (h2 : S'.wear = S.wear) (h3 : S'.mask = S.mask) (h4 : S'.most = S.most) (h5 : S'.ahead = S.ahead ∨ S'.ahead = decA S.ahead ∨ S'.ahead = -1) : FitF S' := by
  refine ⟨by rw [h1, h2]; exact h.len, by rw [h2]; exact h.wl, by rw [h2]; exact h.wl8, by rw [h3]; exact h.mask, ?_, ?_, by rw [h4]; exact h.m1, by rw [h4]; exact h.m2, by rw [h2, h4]; exact h.w⟩
  · have := h.ah1
    rcases h5 with h5 | h5 | h5 <;> rw [h5]
    · exact this
    · unfold decA; split <;> omega
    · omega
  · have := h.ah2
    rcases h5 with h5 | h5 | h5 <;> rw [h5]
    · exact this
    · unfold decA; split <;> omega
    · omega
theorem fl_fill (q : FP) (S : FS) (i n : Nat) (w : World) (hD : FD w q S) (hi : i < S.wear.length) (hn : n ≤ 1024) :
    Calls Tryz.prog 213 #[.pointer (some ⟨q.p, 0, none⟩), .int .i64 (i : Nat), .int .i64 (n : Nat)] w fun e w' => e = .returned (.tuple #[]) ∧ FD w' q { S with b := put S.b (1024 * i) (List.replicate n 255) } ∧ Only (fun g => g = q.gb) w w' := by
  have HD := hide hD
  have h8 := hD.fit.wl8
  have HL := hide hD.fit.len
  have HI := hide hi
  clear hD
  have hi8 : i ≤ 7 := by omega
  clear hi h8
  obtain ⟨fr, hfr⟩ : ∃ fr, fr = 1024 * i := ⟨_, rfl⟩
  have hfi : ((i : Int) * 1024) = ((fr : Nat) : Int) := by omega
  have hf7 : fr ≤ 7168 := by omega
  have HFR := hide hfr
  clear hfr
  go_enter Tryz.func213, Tryz.ntmps213
  go_wp2_with fail
  go_loopw [7] (fun j wr => ∃ k, k ≤ n ∧ j = .int .i64 ((fr : Int) + (k : Int)) ∧ Hid (FD wr q { S with b := put S.b fr (List.replicate k 255) }) ∧ Hid (Only (fun g => g = q.gb) w wr)) (fun j _ => fr + n - (intOf j).toNat)
  case atStart => exact ⟨0, by omega, by simp, hide (by rw [List.replicate_zero, put_nil]; exact HD.out), hide (Only.refl _ _)⟩
  case round =>
    obtain ⟨k, hk, rfl, HDr, HOr⟩ := hrel
    by_cases hlt : k < n
    · have hpl : (put S.b fr (List.replicate k 255)).length = S.b.length := put_len (by have := HL.out; have := HI.out; have := HFR.out; simp; omega)
      have hb := HDr.out.byte (j := fr + k) (by simp only []; rw [hpl]; have := HL.out; have := HI.out; have := HFR.out; omega)
      have hlen : fr + k < S.b.length := by have := HL.out; have := HI.out; have := HFR.out; omega
      obtain ⟨⟨c0, -⟩, -⟩ := HDr.out.c
      simp only [] at c0
      rw [hpl] at c0
      have f0 := hb.2
      have i1 : ((fr : Int) + (k : Int)).toNat = fr + k := by omega
      have i2 : (0 : Int) ≤ (fr : Int) + (k : Int) := by omega
      have i3 : (fr : Int) + (k : Int) < (S.b.length : Int) := by omega
      have b0 := hb.1
      have HLT := hide hlen
      clear hpl hb hlen
      go_wp2_with fail
      have hset := HDr.out.setB (fr + k) 255
      have he : (put S.b fr (List.replicate k 255)).set (fr + k) 255 = put S.b fr (List.replicate (k + 1) 255) := by
        have := put_snoc (l := S.b) (A := List.replicate k 255) (k := fr) 255 (by rw [List.length_replicate]; exact HLT.out)
        rw [List.length_replicate] at this
        rw [this, List.replicate_succ']
      simp only [] at hset
      rw [he] at hset
      have HDn := hide hset
      have HOn := hide (HOr.out.set _ (p := q.gb) (i := fr + k) rfl (.int .u8 255))
      go_roundw
      case rel => exact ⟨k + 1, by omega, by go_num, HDn, HOn⟩
      case measure => simp [intOf]; omega
    · obtain rfl : k = n := by omega
      go_wp2_with fail
      go_end0
      exact ⟨rfl, by rw [← HFR.out]; exact HDr.out, HOr.out⟩
theorem fl_erase (q : FP) (S : FS) (i : Nat) (w : World) (hD : FD w q S) (hi : i < S.wear.length) :
    Calls Tryz.prog 193 #[.pointer (some ⟨q.p, 0, none⟩), .int .i64 (i : Nat)] w fun e w' => e = .returned (.tuple #[]) ∧ FD w' q { S with b := put S.b (1024 * i) (List.replicate 1024 255) } ∧ Only (fun g => g = q.gb) w w' := by
  have H0 := fl_fill q S i 1024 w hD hi (Nat.le_refl _)
  generalize ({ S with b := put S.b (1024 * i) (List.replicate 1024 255) } : FS) = S' at H0 ⊢
  have H := hide H0
  clear H0
  go_enter Tryz.func193, Tryz.ntmps193
  go_wp2_with fail
  refine H.out.mono ?_
  rintro e w1 ⟨rfl, h1, h2⟩
  have HH := hide (And.intro h1 h2)
  clear h1 h2
  go_wp2_with fail
  go_end0
  exact ⟨rfl, HH.out⟩
theorem fl_begin (q : FP) (S : FS) (i : Nat) (w : World) (hD : FD w q S) (hi : i < S.wear.length) :
    Calls Tryz.prog 194 #[.pointer (some ⟨q.p, 0, none⟩), .int .i64 (i : Nat)] w fun e w' => e = .returned (.tuple #[]) ∧ FD w' q { S with b := put S.b (1024 * i) (List.replicate (S.mask % 1025) 255) } ∧ Only (fun g => g = q.gb) w w' := by
  have H0 := fl_fill q S i (S.mask % 1025) w hD hi (by omega)
  generalize ({ S with b := put S.b (1024 * i) (List.replicate (S.mask % 1025) 255) } : FS) = S' at H0 ⊢
  have H := hide H0
  clear H0
  have hm := hD.fit.mask
  obtain ⟨⟨-, -, -, -, -, c5, -⟩, -⟩ := hD.c
  obtain ⟨m, hmm⟩ : ∃ m, m = S.mask := ⟨_, rfl⟩
  rw [← hmm] at c5 hm
  rw [← hmm] at H
  have hm' : m ≤ 4294967295 := by unfold U32 at hm; omega
  clear hmm hm hD
  go_enter Tryz.func194, Tryz.ntmps194
  go_wp2_with fail
  have e1 : ((m : Int) % 1025) = ((m % 1025 : Nat) : Int) := by omega
  try rw [e1]
  clear e1
  refine H.out.mono ?_
  rintro e w1 ⟨rfl, h1, h2⟩
  have HH := hide (And.intro h1 h2)
  clear h1 h2
  go_wp2_with fail
  go_end0
  exact ⟨rfl, HH.out⟩
end
end Go.Proofs.YtehabbnohoomjaaGreatDoor
