/- The reference's flash in memory. -/
import Derived.Test.YtfddfgonhgidbaaFlaG
import Derived.Test.YtfddfgonhgidbaaJouD
import Derived.Test.YtfddfgonhgidbaaHeldT
namespace Go.Proofs.Ytfddfgonhgidbaa
set_option linter.unusedVariables false
set_option linter.unusedSimpArgs false
set_option linter.unnecessarySimpa false
section
open Go.RowKit
set_option maxRecDepth 20000
set_option maxHeartbeats 2000000
structure RF (w : World) (q : FP) (S : FS) : Prop where
  blk : Blk w q.p 75 (flC q S).toArray
  bs : Own w 0 5 1 (some ⟨q.gb, 0, none⟩) S.b.length q.cb (S.b.map bv)
  ws : Own w 0 3 1 (some ⟨q.gw, 0, none⟩) S.wear.length q.cw (S.wear.map iv)
  fit : FitF S
section
variable {w w' : World} {q : FP} {S : FS}
theorem RF.keep (h : RF w q S) (hk : ∀ g, q.F g → g < w.heap.size → w'.heap[g]? = w.heap[g]?) : RF w' q S :=
  ⟨(hk q.p (.inl rfl) h.blk.lt).trans h.blk, h.bs.keep (fun g _ hlt hA => hk g (by injection hA with hA; injection hA with hA; exact .inr (.inl hA.symm)) hlt), h.ws.keep (fun g _ hlt hA => hk g (by injection hA with hA; injection hA with hA; exact .inr (.inr hA.symm)) hlt), h.fit⟩
theorem RF.below (h : RF w q S) (hb : Below w.heap.size w w') : RF w' q S := h.keep fun g _ hlt => hb.block g hlt
theorem RF.only {G : Nat → Prop} (h : RF w q S) (ho : Only G w w') (hG : ∀ g, q.F g → ¬ G g) : RF w' q S := h.keep fun g hg hlt => ho.block g hlt (hG g hg)
theorem RF.gb_lt (h : RF w q S) : q.gb < w.heap.size := by
  have := h.fit.len
  have := h.fit.wl
  obtain ⟨g, hA, _, hlt⟩ := h.bs.at_ (by omega)
  injection hA with hA
  injection hA with hA
  rw [hA]; exact hlt
theorem RF.gw_lt (h : RF w q S) : q.gw < w.heap.size := by
  obtain ⟨g, hA, _, hlt⟩ := h.ws.at_ h.fit.wl
  injection hA with hA
  injection hA with hA
  rw [hA]; exact hlt
theorem RF.pb (h : RF w q S) : q.p ≠ q.gb := by
  intro e
  have := blk_own_ne h.blk h.bs (by decide)
  rw [e] at this
  exact this rfl
theorem RF.pw (h : RF w q S) : q.p ≠ q.gw := by
  intro e
  have := blk_own_ne h.blk h.ws (by decide)
  rw [e] at this
  exact this rfl
theorem RF.bw (h : RF w q S) : q.gb ≠ q.gw := by
  intro e
  have := own_ne' h.bs h.ws (by decide) q.gb rfl
  rw [e] at this
  exact this rfl
theorem RF.lt (h : RF w q S) : ∀ g, q.F g → g < w.heap.size := by
  rintro g (rfl | rfl | rfl)
  · exact h.blk.lt
  · exact h.gb_lt
  · exact h.gw_lt
/-- a byte's cell -/
theorem RF.byte (h : RF w q S) {j : Nat} (hj : j < S.b.length) : w.cell? ⟨q.gb, j, none⟩ = some (.int .u8 ((S.b.getD j 0).toNat : Nat)) ∧ w.frozen? ⟨q.gb, j, none⟩ = false := by
  obtain ⟨g', u, hA', _, _, hu, hc, hf⟩ := h.bs.cell hj
  injection hA' with hA'
  injection hA' with hA'
  subst hA'
  rw [List.getElem?_map, List.getElem?_eq_getElem hj] at hu
  refine ⟨?_, hf⟩
  rw [hc, ← hu, List.getD_eq_getElem?_getD, List.getElem?_eq_getElem hj]
  rfl
theorem RF.wcell (h : RF w q S) {j : Nat} (hj : j < S.wear.length) : w.cell? ⟨q.gw, j, none⟩ = some (.int .i64 ((S.wear.getD j 0 : Nat) : Int)) ∧ w.frozen? ⟨q.gw, j, none⟩ = false := by
  obtain ⟨g', u, hA', _, _, hu, hc, hf⟩ := h.ws.cell hj
  injection hA' with hA'
  injection hA' with hA'
  subst hA'
  rw [List.getElem?_map, List.getElem?_eq_getElem hj] at hu
  refine ⟨?_, hf⟩
  rw [hc, ← hu, List.getD_eq_getElem?_getD, List.getElem?_eq_getElem hj]
  rfl
/-- the struct's cells -/
theorem RF.c (h : RF w q S) : (w.cell? ⟨q.p, 0, none⟩ = some (.slice (some ⟨q.gb, 0, none⟩) S.b.length q.cb) ∧ w.cell? ⟨q.p, 1, none⟩ = some (.slice (some ⟨q.gw, 0, none⟩) S.wear.length q.cw) ∧ w.cell? ⟨q.p, 2, none⟩ = some (.int .i64 S.most) ∧
    w.cell? ⟨q.p, 3, none⟩ = some (.bool S.off) ∧ w.cell? ⟨q.p, 4, none⟩ = some (.int .i64 S.ahead) ∧ w.cell? ⟨q.p, 5, none⟩ = some (.int .u32 (S.mask : Nat)) ∧ w.cell? ⟨q.p, 6, none⟩ = some (.int .i64 (S.ops : Nat))) ∧ ∀ i, w.frozen? ⟨q.p, i, none⟩ = false :=
  ⟨⟨h.blk.cell 0 rfl, h.blk.cell 1 rfl, h.blk.cell 2 rfl, h.blk.cell 3 rfl, h.blk.cell 4 rfl, h.blk.cell 5 rfl, h.blk.cell 6 rfl⟩, h.blk.frozen⟩
/-- the struct is stored anew, bytes and wear stay -/
theorem RF.reblk {S' : FS} (h : RF w q S) (ho : Only (fun g => g = q.p) w w') (hB : Blk w' q.p 75 (flC q S').toArray) (h1 : S'.b = S.b) (h2 : S'.wear = S.wear) (hf : FitF S') : RF w' q S' :=
  ⟨hB, by rw [h1]; exact h.bs.keep (fun g _ hlt hA => ho.block g hlt (by injection hA with hA; injection hA with hA; rw [← hA]; exact fun e => h.pb e.symm)),
    by rw [h2]; exact h.ws.keep (fun g _ hlt hA => ho.block g hlt (by injection hA with hA; injection hA with hA; rw [← hA]; exact fun e => h.pw e.symm)), hf⟩
/-- a byte is stored -/
theorem RF.setB (h : RF w q S) (j : Nat) (x : UInt8) : RF (w.setCell ⟨q.gb, j, none⟩ (.int .u8 (x.toNat : Nat))) q { S with b := S.b.set j x } := by
  have hG : w.grownBy (w.setCell ⟨q.gb, j, none⟩ (.int .u8 (x.toNat : Nat))) (Value.ownBlock (.slice (some ⟨q.gb, 0, none⟩) S.b.length q.cb)) := grown_set (World.grownBy.refl _ _) (.inl rfl) j _
  refine ⟨?_, ?_, h.ws.grown hG (own_ne' h.ws h.bs (by decide)), ⟨by simp only [List.length_set]; exact h.fit.len, h.fit.wl, h.fit.wl8, h.fit.mask, h.fit.ah1, h.fit.ah2, h.fit.m1, h.fit.m2, h.fit.w⟩⟩
  · have := h.blk.grown hG (blk_own_ne h.blk h.bs (by decide))
    have e : flC q { S with b := S.b.set j x } = flC q S := by unfold flC; simp only [List.length_set]
    rw [e]
    exact this
  · have := h.bs.stored j (.int .u8 (x.toNat : Nat))
    simp only [List.length_set, List.map_set]
    exact this
theorem RF.setW (h : RF w q S) (j x : Nat) (hx : (x : Int) ≤ S.most) : RF (w.setCell ⟨q.gw, j, none⟩ (.int .i64 (x : Nat))) q { S with wear := S.wear.set j x } := by
  have hG : w.grownBy (w.setCell ⟨q.gw, j, none⟩ (.int .i64 (x : Nat))) (Value.ownBlock (.slice (some ⟨q.gw, 0, none⟩) S.wear.length q.cw)) := grown_set (World.grownBy.refl _ _) (.inl rfl) j _
  refine ⟨?_, h.bs.grown hG (own_ne' h.bs h.ws (by decide)), ?_, ⟨by simp only [List.length_set]; exact h.fit.len, by simp only [List.length_set]; exact h.fit.wl, by simp only [List.length_set]; exact h.fit.wl8, h.fit.mask, h.fit.ah1, h.fit.ah2, h.fit.m1, h.fit.m2, ?_⟩⟩
  · have := h.blk.grown hG (blk_own_ne h.blk h.ws (by decide))
    have e : flC q { S with wear := S.wear.set j x } = flC q S := by unfold flC; simp only [List.length_set]
    rw [e]
    exact this
  · have := h.ws.stored j (.int .i64 (x : Nat))
    simp only [List.length_set, List.map_set]
    exact this
  · intro y hy
    rcases List.mem_or_eq_of_mem_set hy with hy | rfl
    · exact h.fit.w y hy
    · exact hx
end
end
section
open Go.RowKit
set_option maxRecDepth 20000
set_option maxHeartbeats 4000000

/-- as it was, but for bytes, wear and count; the power is on, no cut is planned -/
structure Live (S S' : FS) (k : Nat) : Prop where
  len : S'.b.length = S.b.length
  wl : S'.wear.length = S.wear.length
  most : S'.most = S.most
  off : S'.off = false
  ah : S'.ahead = -1
  ops : S'.ops ≤ S.ops + k
theorem rfl_torn (q : FP) (S : FS) (w : World) (hD : RF w q S) (ha : S.ahead = -1) (hops : S.ops < 4611686018427387904) :
    Calls Try.prog 87 #[.pointer (some ⟨q.p, 0, none⟩)] w fun e w' => e = .returned (.bool false) ∧ RF w' q { S with ops := S.ops + 1 } ∧ Only (fun g => g = q.p) w w' := by
  have HD := hide hD
  have HF : Hid (FitF { S with ops := S.ops + 1 }) := hide ⟨hD.fit.len, hD.fit.wl, hD.fit.wl8, hD.fit.mask, hD.fit.ah1, hD.fit.ah2, hD.fit.m1, hD.fit.m2, hD.fit.w⟩
  obtain ⟨⟨-, -, -, -, c4, -, c6⟩, hfr⟩ := hD.c
  have f6 := hfr 6
  rw [ha] at c4
  have HE := hide (show ∀ o : Nat, o = S.ops → (flC q S).set 6 (.int .i64 ((o : Int) + 1)) = flC q { S with ops := S.ops + 1 } from fun o ho => by subst ho; simp [flC])
  obtain ⟨o, ho⟩ : ∃ o, o = S.ops := ⟨_, rfl⟩
  have HO := hide ho
  rw [← ho] at c6 hops
  clear hD ha ho hfr
  go_enter Try.func87, Try.ntmps87
  go_wp2_with fail
  go_ret
  have h1 := blk_setL HD.out.blk 6 (.int .i64 ((o : Int) + 1))
  rw [HE.out o HO.out] at h1
  exact ⟨rfl, HD.out.reblk (only1 _ _) h1 rfl rfl HF.out, only1 _ _⟩
theorem u8_of (z : Int) (h0 : 0 ≤ z) (h1 : z < 256) : ∃ y : UInt8, z = (y.toNat : Nat) := ⟨UInt8.ofNat z.toNat, by rw [UInt8.toNat_ofNat']; omega⟩
theorem rfl_one (q : FP) (S : FS) (at_ : Nat) (x : UInt8) (w : World) (hD : RF w q S) (ha : S.ahead = -1) (hk : at_ < S.b.length) (hops : S.ops < 4611686018427387904) :
    Calls Try.prog 88 #[.pointer (some ⟨q.p, 0, none⟩), .int .i64 (at_ : Nat), .int .u8 (x.toNat : Nat)] w fun e w' => e = .returned (.int .i64 0) ∧ (∃ y, RF w' q { S with b := S.b.set at_ y, ops := S.ops + 1 }) ∧ Only q.F w w' := by
  have HT := hide (rfl_torn q S w hD ha hops)
  obtain ⟨S1, hS1⟩ : ∃ S1, S1 = { S with ops := S.ops + 1 } := ⟨_, rfl⟩
  have HS1 := hide hS1
  rw [← hS1] at HT
  have hk1 : at_ < S1.b.length := by rw [hS1]; exact hk
  have hx := x.toNat_lt
  obtain ⟨xn, hxn⟩ : ∃ n, n = x.toNat := ⟨_, rfl⟩
  rw [← hxn] at hx ⊢
  have h8 : S1.b.length ≤ 8192 := by rw [hS1]; have := hD.fit.len; have := hD.fit.wl8; simp only []; omega
  obtain ⟨bl, hbl⟩ : ∃ n, n = S1.b.length := ⟨_, rfl⟩
  have HBL := hide hbl
  rw [← hbl] at hk1 h8
  clear hD ha hk hops hS1 hxn hbl
  go_enter Try.func88, Try.ntmps88
  go_wp2_with fail
  refine HT.out.mono ?_
  rintro e w1 ⟨rfl, hF1, hO1⟩
  have HF1 := hide hF1
  have HO1 := hide hO1
  obtain ⟨⟨c0, -⟩, -⟩ := hF1.c
  rw [← HBL.out] at c0
  obtain ⟨cb, fb⟩ := hF1.byte (j := at_) (by rw [← HBL.out]; exact hk1)
  obtain ⟨y0, hy0⟩ : ∃ y, y = S1.b.getD at_ 0 := ⟨_, rfl⟩
  rw [← hy0] at cb
  have hy := y0.toNat_lt
  obtain ⟨z0, hz0⟩ : ∃ n : Int, n = (y0.toNat : Nat) := ⟨_, rfl⟩
  rw [← hz0] at cb
  have hz1 : 0 ≤ z0 := by omega
  have hz2 : z0 < 256 := by omega
  obtain ⟨i1, i2, i3⟩ := idx_at hk1
  clear hF1 hO1 hy0 hz0 hy
  go_wp2_with fail
  go_loop [8, 9, 10, 11] (fun n p i _ => ∃ (k : Nat) (z : Int), k ≤ 8 ∧ i = .int .i64 (k : Nat) ∧ p = .int .u8 (((2 ^ k % 256 : Nat)) : Int) ∧ n = .int .u8 z ∧ 0 ≤ z ∧ z < 256) (fun _ _ i _ => 8 - (intOf i).toNat)
  case atStart => exact ⟨0, z0, by omega, rfl, rfl, rfl, hz1, hz2⟩
  case round =>
    obtain ⟨k, z, hk, rfl, rfl, rfl, h0, h1⟩ := hrel
    by_cases hlt : k < 8
    · have hx1 : (0 : Int) ≤ (xn : Int) := by omega
      have hx2 : (xn : Int) < 256 := by omega
      rcases (show k = 0 ∨ k = 1 ∨ k = 2 ∨ k = 3 ∨ k = 4 ∨ k = 5 ∨ k = 6 ∨ k = 7 by omega) with rfl | rfl | rfl | rfl | rfl | rfl | rfl | rfl
      · simp only [Nat.reducePow, Nat.reduceMod]
        go_wp2_with fail
        all_goals
          go_round
          case rel => exact ⟨1, _, by omega, by go_num, by rfl, rfl, by omega, by omega⟩
          case measure => simp [intOf]
      · simp only [Nat.reducePow, Nat.reduceMod]
        go_wp2_with fail
        all_goals
          go_round
          case rel => exact ⟨2, _, by omega, by go_num, by rfl, rfl, by omega, by omega⟩
          case measure => simp [intOf]
      · simp only [Nat.reducePow, Nat.reduceMod]
        go_wp2_with fail
        all_goals
          go_round
          case rel => exact ⟨3, _, by omega, by go_num, by rfl, rfl, by omega, by omega⟩
          case measure => simp [intOf]
      · simp only [Nat.reducePow, Nat.reduceMod]
        go_wp2_with fail
        all_goals
          go_round
          case rel => exact ⟨4, _, by omega, by go_num, by rfl, rfl, by omega, by omega⟩
          case measure => simp [intOf]
      · simp only [Nat.reducePow, Nat.reduceMod]
        go_wp2_with fail
        all_goals
          go_round
          case rel => exact ⟨5, _, by omega, by go_num, by rfl, rfl, by omega, by omega⟩
          case measure => simp [intOf]
      · simp only [Nat.reducePow, Nat.reduceMod]
        go_wp2_with fail
        all_goals
          go_round
          case rel => exact ⟨6, _, by omega, by go_num, by rfl, rfl, by omega, by omega⟩
          case measure => simp [intOf]
      · simp only [Nat.reducePow, Nat.reduceMod]
        go_wp2_with fail
        all_goals
          go_round
          case rel => exact ⟨7, _, by omega, by go_num, by rfl, rfl, by omega, by omega⟩
          case measure => simp [intOf]
      · simp only [Nat.reducePow, Nat.reduceMod]
        go_wp2_with fail
        all_goals
          go_round
          case rel => exact ⟨8, _, by omega, by go_num, by rfl, rfl, by omega, by omega⟩
          case measure => simp [intOf]
    · obtain rfl : k = 8 := by omega
      obtain ⟨y, rfl⟩ := u8_of z h0 h1
      go_wp2_with fail
      go_ret
      refine ⟨rfl, ⟨y, ?_⟩, (HO1.out.mono (fun _ _ h => .inl h)).set _ (.inr (.inl rfl)) _⟩
      have h2 := HF1.out.setB at_ y
      rw [HS1.out] at h2
      exact h2
/-- one sector's bytes made ones -/
theorem rfl_Erase (q : FP) (S : FS) (i : Nat) (w : World) (hD : RF w q S) (ha : S.ahead = -1) (hoff : S.off = false) (hi : i < S.wear.length) (hops : S.ops < 4611686018427387904) (hw : ((S.wear.getD i 0 : Nat) : Int) < S.most) :
    Calls Try.prog 43 #[.pointer (some ⟨q.p, 0, none⟩), .int .i64 (i : Nat)] w fun e w' => e = .returned (.int .i64 0) ∧ (∃ S', RF w' q S' ∧ Live S S' 1) ∧ Only q.F w w' := by
  have HD := hide hD
  have h8 := hD.fit.wl8
  have hlen := hD.fit.len
  have hm2 := hD.fit.m2
  have hsw : ∀ W, RF W q S → _ := fun W h => RF.setW h i (S.wear.getD i 0 + 1) (by omega)
  obtain ⟨S1, hS1⟩ : ∃ S1, S1 = { S with wear := S.wear.set i (S.wear.getD i 0 + 1) } := ⟨_, rfl⟩
  rw [← hS1] at hsw
  have hcl : ∀ W, RF W q S → (W.cell? ⟨q.p, 1, none⟩ = some (.slice (some ⟨q.gw, 0, none⟩) S.wear.length q.cw) ∧ W.cell? ⟨q.p, 2, none⟩ = some (.int .i64 S.most)) ∧ W.cell? ⟨q.gw, i, none⟩ = some (.int .i64 ((S.wear.getD i 0 : Nat) : Int)) ∧ W.frozen? ⟨q.gw, i, none⟩ = false := fun W h => ⟨⟨h.c.1.2.1, h.c.1.2.2.1⟩, h.wcell hi⟩
  obtain ⟨x, hx⟩ : ∃ x, x = S.wear.getD i 0 := ⟨_, rfl⟩
  rw [← hx] at hsw hw hcl
  have hTO : ∀ W, RF W q S1 → _ := fun W h => rfl_torn q S1 W h (by rw [hS1]; exact ha) (by rw [hS1]; exact hops)
  obtain ⟨S2, hS2⟩ : ∃ S2, S2 = { S1 with ops := S1.ops + 1 } := ⟨_, rfl⟩
  rw [← hS2] at hTO
  have HTO := hide hTO
  have hbl : S2.b.length = S.b.length := by rw [hS2, hS1]
  have hlive : ∀ B : List UInt8, B.length = S2.b.length → Live S { S2 with b := B } 1 := fun B hB => ⟨by simp only []; rw [hB, hbl], by rw [hS2, hS1]; simp, by rw [hS2, hS1], by rw [hS2, hS1]; exact hoff, by rw [hS2, hS1]; exact ha, by rw [hS2, hS1]; exact Nat.le_refl _⟩
  have HLV := hide hlive
  have c3 := hD.c.1.2.2.2.1
  have c1 := (hcl w hD).1.1
  have c2 := (hcl w hD).1.2
  have cw := (hcl w hD).2.1
  rw [hoff] at c3
  obtain ⟨nw, hnw⟩ : ∃ n, n = S.wear.length := ⟨_, rfl⟩
  rw [← hnw] at c1 hi h8 hlen hcl
  obtain ⟨most, hmo⟩ : ∃ m, m = S.most := ⟨_, rfl⟩
  rw [← hmo] at c2 hw hm2 hcl
  obtain ⟨bl, hbl2⟩ : ∃ n, n = S2.b.length := ⟨_, rfl⟩
  have HBL := hide hbl2
  have HBW : Hid (bl = 1024 * nw) := hide (by rw [hbl2, hbl, hlen])
  have HSW := hide hsw
  have HCL := hide hcl
  obtain ⟨i1, i2, i3⟩ := idx_at hi
  clear hD hsw hS1 hTO hS2 hlive hx hbl hoff ha hnw hmo hbl2 hlen hops hcl
  go_enter Try.func43, Try.ntmps43
  go_wp2_with fail
  go_quiet (fail)
  go_wp2_with fail
  refine wp_gen (P := fun W => RF W q S ∧ Below w.heap.size w W) ⟨HD.out.below (by repeat' (first | with_reducible assumption | with_reducible exact Below.refl _ _ | with_reducible apply below_alloc | with_reducible apply below_drew1 | with_reducible apply below_drewN | (with_reducible apply below_step; with_reducible assumption) | (with_reducible apply below_sg2; (first | exact Nat.le_refl _ | (simp; done) | omega)))), by repeat' (first | with_reducible assumption | with_reducible exact Below.refl _ _ | with_reducible apply below_alloc | with_reducible apply below_drew1 | with_reducible apply below_drewN | (with_reducible apply below_step; with_reducible assumption) | (with_reducible apply below_sg2; (first | exact Nat.le_refl _ | (simp; done) | omega)))⟩ ?_
  rintro W ⟨hW, hbW⟩
  obtain ⟨⟨d1, d2⟩, dw, fw⟩ := HCL.out W hW
  have HS1 := hide (HSW.out _ (hW.below (below_drew1 (Below.refl W.heap.size W))))
  rw [show (((x + 1 : Nat) : Int)) = (x : Int) + 1 by omega] at HS1
  have HBW0 := hide hbW
  clear c1 c2 cw c3 hbW hW
  refine wp_region_T (fun w' => w'.cell? ⟨q.p, 1, none⟩ = some (.slice (some ⟨q.gw, 0, none⟩) nw q.cw) ∧ w'.cell? ⟨q.gw, i, none⟩ = some (.int .i64 (x : Nat))) [0, 1, 2, 3, 4, 5, 6, 7, 8, 9, 10, 11, 12, 13] (by kernel_rfl) ?hS1 (fun hHeld => ?rest1)
  case hS1 => ((try dsimp only); exact ⟨d1, dw⟩)
  case' rest1 => skip
  refine wpAnyT_take (by kernel_rfl) (by kernel_rfl) (i := 0) (oi := _) (v := ?v2) rfl (by kernel_rfl) (by kernel_rfl) (by kernel_rfl) (fun _ _ _ h => h) (Or.inl ⟨by rfl, ?hy2⟩) (by assumption) ?rest2
  case hy2 => ((intro w hSw; (try dsimp only at hSw); go_simp) <;> with_reducible rfl)
  case' rest2 => try simp only [List.getElem_toArray, List.getElem_cons_zero, List.getElem_cons_succ, Act.put, List.setIfInBounds_toArray, List.set_cons_zero, List.set_cons_succ]
  refine wpAnyT_take (by kernel_rfl) (by kernel_rfl) (i := 1) (oi := _) (v := ?v3) rfl (by kernel_rfl) (by kernel_rfl) (by kernel_rfl) (fun _ _ _ h => h) (Or.inl ⟨by rfl, ?hy3⟩) (by assumption) ?rest3
  case hy3 => ((intro w hSw; (try dsimp only at hSw); go_simp) <;> with_reducible rfl)
  case' rest3 => try simp only [List.getElem_toArray, List.getElem_cons_zero, List.getElem_cons_succ, Act.put, List.setIfInBounds_toArray, List.set_cons_zero, List.set_cons_succ]
  refine wpAnyT_take (by kernel_rfl) (by kernel_rfl) (i := 2) (oi := _) (v := ?v4) rfl (by kernel_rfl) (by kernel_rfl) (by kernel_rfl) (fun _ _ _ h => h) (Or.inl ⟨by rfl, ?hy4⟩) (by assumption) ?rest4
  case hy4 => ((intro w hSw; (try dsimp only at hSw); go_simp) <;> with_reducible rfl)
  case' rest4 => try simp only [List.getElem_toArray, List.getElem_cons_zero, List.getElem_cons_succ, Act.put, List.setIfInBounds_toArray, List.set_cons_zero, List.set_cons_succ]
  refine wpAnyT_take (by kernel_rfl) (by kernel_rfl) (i := 3) (oi := _) (v := ?v5) rfl (by kernel_rfl) (by kernel_rfl) (by kernel_rfl) (fun _ _ _ h => h) (Or.inl ⟨by rfl, ?hy5⟩) (by assumption) ?rest5
  case hy5 => ((intro w hSw; (try dsimp only at hSw); go_simp) <;> with_reducible rfl)
  case' rest5 => try simp only [List.getElem_toArray, List.getElem_cons_zero, List.getElem_cons_succ, Act.put, List.setIfInBounds_toArray, List.set_cons_zero, List.set_cons_succ]
  refine wpAnyT_take (by kernel_rfl) (by kernel_rfl) (i := 4) (oi := _) (v := ?v6) rfl (by kernel_rfl) (by kernel_rfl) (by kernel_rfl) (fun _ _ _ h => h) (Or.inl ⟨by rfl, ?hy6⟩) (by assumption) ?rest6
  case hy6 => ((intro w hSw; (try dsimp only at hSw); go_simp) <;> with_reducible rfl)
  case' rest6 => try simp only [List.getElem_toArray, List.getElem_cons_zero, List.getElem_cons_succ, Act.put, List.setIfInBounds_toArray, List.set_cons_zero, List.set_cons_succ]
  refine wpAnyT_take (by kernel_rfl) (by kernel_rfl) (i := 5) (oi := _) (v := ?v7) rfl (by kernel_rfl) (by kernel_rfl) (by kernel_rfl) (fun _ _ _ h => h) (Or.inl ⟨by rfl, ?hy7⟩) (by assumption) ?rest7
  case hy7 => ((intro w hSw; (try dsimp only at hSw); go_simp) <;> with_reducible rfl)
  case' rest7 => try simp only [List.getElem_toArray, List.getElem_cons_zero, List.getElem_cons_succ, Act.put, List.setIfInBounds_toArray, List.set_cons_zero, List.set_cons_succ]
  refine wpAnyT_take (by kernel_rfl) (by kernel_rfl) (i := 6) (oi := _) (v := ?v8) rfl (by kernel_rfl) (by kernel_rfl) (by kernel_rfl) (fun _ _ _ h => h) (Or.inl ⟨by rfl, ?hy8⟩) (by assumption) ?rest8
  case hy8 => ((intro w hSw; (try dsimp only at hSw); go_simp) <;> with_reducible rfl)
  case' rest8 => try simp only [List.getElem_toArray, List.getElem_cons_zero, List.getElem_cons_succ, Act.put, List.setIfInBounds_toArray, List.set_cons_zero, List.set_cons_succ]
  refine wpAnyT_take (by kernel_rfl) (by kernel_rfl) (i := 7) (oi := _) (v := ?v9) rfl (by kernel_rfl) (by kernel_rfl) (by kernel_rfl) (fun _ _ _ h => h) (Or.inl ⟨by rfl, ?hy9⟩) (by assumption) ?rest9
  case hy9 => ((intro w hSw; (try dsimp only at hSw); go_simp) <;> with_reducible rfl)
  case' rest9 => try simp only [List.getElem_toArray, List.getElem_cons_zero, List.getElem_cons_succ, Act.put, List.setIfInBounds_toArray, List.set_cons_zero, List.set_cons_succ]
  refine wpAnyT_take (by kernel_rfl) (by kernel_rfl) (i := 8) (oi := _) (v := ?v10) rfl (by kernel_rfl) (by kernel_rfl) (by kernel_rfl) (fun _ _ _ h => h) (Or.inl ⟨by rfl, ?hy10⟩) (by assumption) ?rest10
  case hy10 => ((intro w hSw; (try dsimp only at hSw); go_simp) <;> with_reducible rfl)
  case' rest10 => try simp only [List.getElem_toArray, List.getElem_cons_zero, List.getElem_cons_succ, Act.put, List.setIfInBounds_toArray, List.set_cons_zero, List.set_cons_succ]
  refine wpAnyT_take (by kernel_rfl) (by kernel_rfl) (i := 9) (oi := _) (v := ?v11) rfl (by kernel_rfl) (by kernel_rfl) (by kernel_rfl) (fun _ _ _ h => h) (Or.inl ⟨by rfl, ?hy11⟩) (by assumption) ?rest11
  case hy11 => ((intro w hSw; (try dsimp only at hSw); go_simp) <;> with_reducible rfl)
  case' rest11 => try simp only [List.getElem_toArray, List.getElem_cons_zero, List.getElem_cons_succ, Act.put, List.setIfInBounds_toArray, List.set_cons_zero, List.set_cons_succ]
  refine wpAnyT_take (by kernel_rfl) (by kernel_rfl) (i := 10) (oi := _) (v := ?v12) rfl (by kernel_rfl) (by kernel_rfl) (by kernel_rfl) (fun _ _ _ h => h) (Or.inl ⟨by rfl, ?hy12⟩) (by assumption) ?rest12
  case hy12 => ((intro w hSw; (try dsimp only at hSw); go_simp) <;> with_reducible rfl)
  case' rest12 => try simp only [List.getElem_toArray, List.getElem_cons_zero, List.getElem_cons_succ, Act.put, List.setIfInBounds_toArray, List.set_cons_zero, List.set_cons_succ]
  refine wpAnyT_take (by kernel_rfl) (by kernel_rfl) (i := 11) (oi := _) (v := ?v13) rfl (by kernel_rfl) (by kernel_rfl) (by kernel_rfl) (fun _ _ _ h => h) (Or.inl ⟨by rfl, ?hy13⟩) (by assumption) ?rest13
  case hy13 => ((intro w hSw; (try dsimp only at hSw); go_simp) <;> with_reducible rfl)
  case' rest13 => try simp only [List.getElem_toArray, List.getElem_cons_zero, List.getElem_cons_succ, Act.put, List.setIfInBounds_toArray, List.set_cons_zero, List.set_cons_succ]
  refine wpAnyT_take (by kernel_rfl) (by kernel_rfl) (i := 12) (oi := _) (v := ?v14) rfl (by kernel_rfl) (by kernel_rfl) (by kernel_rfl) (fun _ _ _ h => h) (Or.inl ⟨by rfl, ?hy14⟩) (by assumption) ?rest14
  case hy14 => ((intro w hSw; (try dsimp only at hSw); go_simp) <;> with_reducible rfl)
  case' rest14 => try simp only [List.getElem_toArray, List.getElem_cons_zero, List.getElem_cons_succ, Act.put, List.setIfInBounds_toArray, List.set_cons_zero, List.set_cons_succ]
  refine wpAnyT_take (by kernel_rfl) (by kernel_rfl) (i := 13) (oi := _) (v := ?v15) rfl (by kernel_rfl) (by kernel_rfl) (by kernel_rfl) (fun _ _ _ h => h) (Or.inl ⟨by rfl, ?hy15⟩) (by assumption) ?rest15
  case hy15 => ((intro w hSw; (try dsimp only at hSw); go_simp) <;> with_reducible rfl)
  case' rest15 => try simp only [List.getElem_toArray, List.getElem_cons_zero, List.getElem_cons_succ, Act.put, List.setIfInBounds_toArray, List.set_cons_zero, List.set_cons_succ]
  refine wpAnyT_late (i := 14) (o := _) rfl (by kernel_rfl) (by kernel_rfl) (fun K hK => ?_)
  go_simp
  refine hK.out _ _ ?rest17
  case' rest17 => (clear hK K; try simp only [List.getElem_toArray, List.getElem_cons_zero, List.getElem_cons_succ, Act.put, List.setIfInBounds_toArray, List.set_cons_zero, List.set_cons_succ])
  refine wpAnyT_done (by kernel_rfl) ?_ _
  repeat (clear hHeld)
  go_wp2_with fail
  refine (HTO.out _ HS1.out).mono ?_
  rintro e w1 ⟨rfl, hF1, hO1⟩
  have HF1 := hide hF1
  have HO1 : Hid (Only q.F w w1) := hide (((Only.of_below (F := q.F) (below_drew1 HBW0.out)).set _ (p := q.gw) (.inr (.inr rfl)) _).trans hO1 (fun _ _ h => .inl h))
  clear hF1 hO1 d1 d2 dw fw HS1 HBW0
  go_wp2_with fail
  go_loopw [7] (fun j wr => ∃ (k : Nat) (B : List UInt8), k ≤ 1024 ∧ j = .int .i64 (k : Nat) ∧ Hid (B.length = bl) ∧ Hid (RF wr q { S2 with b := B }) ∧ Hid (Only q.F w wr)) (fun j _ => 1024 - (intOf j).toNat)
  case atStart => exact ⟨0, S2.b, by omega, rfl, hide HBL.out.symm, HF1, HO1⟩
  case round =>
    obtain ⟨k, B, hk, rfl, HB, HFr, HOr⟩ := hrel
    by_cases hlt : k < 1024
    · obtain ⟨⟨c0, -⟩, -⟩ := HFr.out.c
      simp only [] at c0
      rw [HB.out] at c0
      obtain ⟨fr, hfr⟩ : ∃ fr, fr = i * 1024 + k := ⟨_, rfl⟩
      have hfl : fr < bl := by have := HBW.out; omega
      obtain ⟨cb, fb⟩ := HFr.out.byte (j := fr) (by simp only []; rw [HB.out]; exact hfl)
      have e1 : (i : Int) * 1024 + (k : Int) = (fr : Int) := by omega
      obtain ⟨j1, j2, j3⟩ := idx_at hfl
      have HFN : Hid (RF (wr.setCell ⟨q.gb, fr, none⟩ (.int .u8 255)) q { S2 with b := B.set fr 255 }) := hide (HFr.out.setB fr 255)
      have HON := hide (HOr.out.set _ (p := q.gb) (i := fr) (.inr (.inl rfl)) (.int .u8 255))
      have HBN : Hid ((B.set fr 255).length = bl) := hide (by rw [List.length_set]; exact HB.out)
      clear hfr
      go_wp2_with fail
      go_roundw
      case rel => exact ⟨k + 1, B.set fr 255, by omega, by go_num, HBN, HFN, HON⟩
      case measure => simp [intOf]; omega
    · obtain rfl : k = 1024 := by omega
      go_wp2_with fail
      go_ret
      exact ⟨rfl, ⟨_, HFr.out, HLV.out B (by rw [HB.out, HBL.out])⟩, HOr.out⟩
theorem Live.refl {S : FS} (ha : S.ahead = -1) (hoff : S.off = false) : Live S S 0 := ⟨rfl, rfl, rfl, hoff, ha, Nat.le_refl _⟩
theorem rfl_Program (q : FP) (S : FS) (k : Nat) (A : Option Addr) (n c : Nat) (l : List UInt8) (w : World) (hD : RF w q S) (hn : n = l.length) (ha : S.ahead = -1) (hoff : S.off = false) (hfit : k + n ≤ S.b.length) (hsrc : ∀ W, Only q.F w W → Sl W A (l.map bv)) (hops : S.ops + n < 4611686018427387904) :
    Calls Try.prog 44 #[.pointer (some ⟨q.p, 0, none⟩), .int .i64 (k : Nat), .slice A n c] w fun e w' => e = .returned (.int .i64 0) ∧ (∃ S', RF w' q S' ∧ Live S S' n) ∧ Only q.F w w' := by
  have HD := hide hD
  have HSRC := hide hsrc
  have HN := hide hn
  have HA := hide (And.intro ha hoff)
  obtain ⟨⟨c0, -, -, c3, -⟩, -⟩ := hD.c
  rw [hoff] at c3
  have h8 := hD.fit.wl8
  have hlen := hD.fit.len
  obtain ⟨bl, hbl⟩ : ∃ n, n = S.b.length := ⟨_, rfl⟩
  have HBL := hide hbl
  have hbl2 : bl ≤ 8192 := by omega
  rw [← hbl] at c0 hfit
  have HOPS := hide hops
  have u1 : decide ((k : Int) < 0) = false := by simp
  have u2 : decide (bl < k) = false := by simp; omega
  have u3 : decide ((bl : Int) < (k : Int)) = false := by simp; omega
  have u4 : decide ((bl : Int) - (k : Int) < (n : Int)) = false := by simp; omega
  clear hD hsrc hn ha hoff hbl h8 hlen hops
  go_enter Try.func44, Try.ntmps44
  go_wp2_with fail
  go_loopw [6, 7, 8] (fun _ j _ wr => ∃ (mm : Nat) (S' : FS), mm ≤ n ∧ j = .int .i64 (mm : Nat) ∧ Hid (Live S S' mm) ∧ Hid (RF wr q S') ∧ Hid (Only q.F w wr)) (fun _ j _ _ => n - (intOf j).toNat)
  case atStart => exact ⟨0, S, by omega, rfl, hide (Live.refl HA.out.1 HA.out.2), HD, hide (Only.refl _ _)⟩
  case round =>
    obtain ⟨mm, S', hm, rfl, HL, HFr, HOr⟩ := hrel
    by_cases hlt : mm < n
    · obtain ⟨ad, rfl, hcell⟩ := (HSRC.out wr HOr.out).byte (j := mm) (by rw [← HN.out]; exact hlt)
      have HON := hide (rfl_one q S' (k + mm) (l[mm]'(by rw [← HN.out]; exact hlt)) wr HFr.out HL.out.ah (by rw [HL.out.len, ← HBL.out]; omega) (by have := HL.out.ops; have := HOPS.out; omega))
      obtain ⟨x, hx⟩ : ∃ x, x = l[mm]'(by rw [← HN.out]; exact hlt) := ⟨_, rfl⟩
      rw [← hx] at hcell HON
      obtain ⟨j1, j2, j3⟩ := idx_at hlt
      rw [show (((k + mm : Nat)) : Int) = (k : Int) + (mm : Int) by omega] at HON
      clear hx
      go_wp2_with fail
      refine HON.out.mono ?_
      rintro e w2 ⟨rfl, ⟨y, hF2⟩, hO2⟩
      have HF2 := hide hF2
      have HO2 := hide (HOr.out.trans hO2 (fun _ _ h => h))
      have HL2 : Hid (Live S { S' with b := S'.b.set (k + mm) y, ops := S'.ops + 1 } (mm + 1)) := hide ⟨by simp only [List.length_set]; exact HL.out.len, HL.out.wl, HL.out.most, HL.out.off, HL.out.ah, by have := HL.out.ops; simp only []; omega⟩
      clear hF2 hO2
      go_wp2_with fail
      go_roundw
      case rel => exact ⟨mm + 1, _, by omega, by go_num, HL2, HF2, HO2⟩
      case measure => simp [intOf]; omega
    · obtain rfl : mm = n := by omega
      go_wp2_with fail
      go_ret
      exact ⟨rfl, ⟨S', HFr.out, HL.out⟩, HOr.out⟩
theorem rfl_Left (q : FP) (S : FS) (i : Nat) (w : World) (hD : RF w q S) (hi : i < S.wear.length) :
    Calls Try.prog 85 #[.pointer (some ⟨q.p, 0, none⟩), .int .i64 (i : Nat)] w fun e w' => e = .returned (.int .i64 (S.most - ((S.wear.getD i 0 : Nat) : Int))) ∧ Below w.heap.size w w' := by
  obtain ⟨⟨-, c1, c2, -⟩, -⟩ := hD.c
  obtain ⟨cw, -⟩ := hD.wcell hi
  have hm1 := hD.fit.m1
  have hm2 := hD.fit.m2
  have h8 := hD.fit.wl8
  have hwm : ((S.wear.getD i 0 : Nat) : Int) ≤ S.most := by
    refine hD.fit.w _ ?_
    rw [List.getD_eq_getElem?_getD, List.getElem?_eq_getElem hi]
    exact List.getElem_mem hi
  obtain ⟨x, hx⟩ : ∃ x, x = S.wear.getD i 0 := ⟨_, rfl⟩
  rw [← hx] at cw hwm ⊢
  obtain ⟨most, hmo⟩ : ∃ m, m = S.most := ⟨_, rfl⟩
  rw [← hmo] at c2 hm1 hm2 hwm ⊢
  obtain ⟨nw, hnw⟩ : ∃ m, m = S.wear.length := ⟨_, rfl⟩
  rw [← hnw] at c1 hi h8
  obtain ⟨j1, j2, j3⟩ := idx_at hi
  clear hD hx hmo hnw
  go_enter Try.func85, Try.ntmps85
  go_wp2_with fail
  go_quiet (fail)
  go_wp2_with fail
  go_ret
  exact ⟨rfl, by repeat' (first | with_reducible assumption | with_reducible exact Below.refl _ _ | with_reducible apply below_alloc | with_reducible apply below_drew1 | with_reducible apply below_drewN | (with_reducible apply below_step; with_reducible assumption) | (with_reducible apply below_sg2; (first | exact Nat.le_refl _ | (simp; done) | omega)))⟩
end
section
open Go.RowKit
set_option maxRecDepth 20000
set_option maxHeartbeats 4000000

theorem rfl_Of_no (A : Option Addr) (n c : Nat) (w : World) (hno : n = 0 ∨ n % 1024 ≠ 0 ∨ 8192 < n) (hb : n ≤ 100000) :
    Calls Try.prog 7 #[.slice A n c, .int .i64 5] w fun e w' => ∃ p, e = .returned (.tuple #[.pointer p, .bool false]) ∧ Below w.heap.size w w' := by
  have hb0 := below_alloc (Below.refl w.heap.size w) (.cells #[.slice none 0 0, .slice none 0 0, .int .i64 0, .bool false, .int .i64 (-1), .int .u32 0, .int .i64 0] 75)
  have HB := hide hb0
  clear hb0
  by_cases h0 : n = 0
  · have e1 : ((n : Int) == 0) = true := by simp; omega
    clear hno h0
    go_enter Try.func7, Try.ntmps7
    go_wp2_with fail
    go_ret2
    exact ⟨_, rfl, HB.out⟩
  have e1 : ((n : Int) == 0) = false := by simp; omega
  obtain ⟨m, hm⟩ : ∃ m, m = n % 1024 := ⟨_, rfl⟩
  have e2 : ((n : Int) % 1024) = (m : Int) := by omega
  rw [← hm] at hno
  clear hm
  by_cases h1 : m = 0
  · have hbig : (8192 : Int) < (n : Int) := by omega
    subst h1
    clear hno h0
    go_enter Try.func7, Try.ntmps7
    go_wp2_with fail
    go_ret2
    exact ⟨_, rfl, HB.out⟩
  · have e3 : ((m : Int) == 0) = false := by simp; omega
    have e4 : ((m : Int) != 0) = true := by simp; omega
    clear hno h0 h1
    go_enter Try.func7, Try.ntmps7
    go_wp2_with fail
    go_ret2
    exact ⟨_, rfl, HB.out⟩
theorem rmkF {w : World} {g gw cb cw k p : Nat} {l : List UInt8} {m : Int} (hB : Blk w p 75 #[.slice (some ⟨g, 0, none⟩) l.length cb, .slice (some ⟨gw, 0, none⟩) k cw, .int .i64 m, .bool false, .int .i64 (-1), .int .u32 0, .int .i64 0])
    (hb : Own w 0 5 1 (some ⟨g, 0, none⟩) l.length cb (l.map bv)) (hw : Own w 0 3 1 (some ⟨gw, 0, none⟩) k cw ((List.replicate k 0).map iv)) (hf : FitF (ofF l k m)) : RF w ⟨p, g, gw, cb, cw⟩ (ofF l k m) := by
  refine ⟨?_, hb, ?_, hf⟩
  · have e : (flC ⟨p, g, gw, cb, cw⟩ (ofF l k m)).toArray = #[.slice (some ⟨g, 0, none⟩) l.length cb, .slice (some ⟨gw, 0, none⟩) k cw, .int .i64 m, .bool false, .int .i64 (-1), .int .u32 0, .int .i64 0] := by simp [flC, ofF]
    rw [e]
    exact hB
  · simp only [ofF, List.length_replicate]
    exact hw
theorem rfl_Of (A : Option Addr) (n c : Nat) (l : List UInt8) (k : Nat) (w : World) (hn : n = l.length) (hk : n = 1024 * k) (h1 : 1 ≤ k) (h8 : k ≤ 8) (hs : Sl w A (l.map bv)) :
    Calls Try.prog 7 #[.slice A n c, .int .i64 5] w fun e w' => ∃ q : FP, e = .returned (.tuple #[.pointer (some ⟨q.p, 0, none⟩), .bool true]) ∧ RF w' q (ofF l k 5) ∧ (∀ g, q.F g → w.heap.size ≤ g) ∧ Below w.heap.size w w' := by
  have HN := hide hn
  have HS := hide hs
  have HF := hide (ofF_fit (l := l) (m := 5) (by omega) h1 h8 (by decide) (by decide))
  have e1 : ((n : Int) / 1024) = ((k : Nat) : Int) := by omega
  have e2 : ((n : Int) % 1024) = 0 := by omega
  have hn0 : 0 < n := by omega
  have hnb : n ≤ 8192 := by omega
  have hne : ((n : Int) == 0) = false := by simp; omega
  have q0 := blk_one w 75 #[.slice none 0 0, .slice none 0 0, .int .i64 5, .bool false, .int .i64 (-1), .int .u32 0, .int .i64 0]
  have hb0 := below_alloc (Below.refl w.heap.size w) (.cells #[.slice none 0 0, .slice none 0 0, .int .i64 5, .bool false, .int .i64 (-1), .int .u32 0, .int .i64 0] 75)
  have HQ := hide q0
  have HB0 := hide hb0
  obtain ⟨q0_c0, q0_c1, q0_c2, q0_c3, q0_c4, q0_c5, q0_c6⟩ := cel7 q0
  have q0_f := q0.frozen
  clear hn hs hk q0 hb0
  go_enter Try.func7, Try.ntmps7
  go_wp2_with (at_builtin; refine app_b _ rfl _ _ rfl (w.heap.size + 1) none 0 0 [] rfl (OwnB.nil _ _) A n c l rfl HN.out (HS.out.alloc _) (by omega) (by simp) n (by omega) ?_; intro A3 c3 w3 hO3 _ _ hb3; have q3f := (HQ.out.below hb3 (by omega)).frozen 0; have q3c := (HQ.out.below hb3 (by omega)).cell 0 (u := .slice none 0 0) rfl; have HH3 := hide (And.intro hO3 hb3); clear hO3 hb3)
  obtain ⟨hO3, hb3⟩ := HH3.out
  rw [List.nil_append] at hO3
  obtain ⟨gb, rfl, hg1, hg2⟩ := hO3.own.at_ hn0
  have HO3 := hide hO3
  have HB3 := hide (below_set (HB0.out.trans (hb3.mono (by omega))) (p := ⟨w.heap.size, 0, none⟩) (Nat.le_refl _) (.slice (some ⟨gb, 0, none⟩) n c3))
  have HQ3 := hide (blk_setL (l := [.slice none 0 0, .slice none 0 0, .int .i64 5, .bool false, .int .i64 (-1), .int .u32 0, .int .i64 0]) (HQ.out.below hb3 (by omega)) 0 (.slice (some ⟨gb, 0, none⟩) n c3))
  have HO4 : Hid (OwnB (w3.setCell ⟨w.heap.size, 0, none⟩ (.slice (some ⟨gb, 0, none⟩) n c3)) (w.heap.size + 1) (some ⟨gb, 0, none⟩) n c3 l) := hide (hO3.set_ (by simp) _)
  clear hO3 hb3 HH3 q3f q3c q0_c0 q0_c1 q0_c2 q0_c3 q0_c4 q0_c5 q0_c6 q0_f HO3
  simp only [List.set_cons_zero] at HQ3
  go_loopw [7] (fun i wr => ∃ j A4 c4, j ≤ k ∧ i = .int .i64 (j : Nat) ∧ Hid (Blk wr w.heap.size 75 #[.slice (some ⟨gb, 0, none⟩) n c3, .slice A4 j c4, .int .i64 5, .bool false, .int .i64 (-1), .int .u32 0, .int .i64 0]) ∧
    Hid (OwnB wr (w.heap.size + 1) (some ⟨gb, 0, none⟩) n c3 l) ∧ Hid (Own wr (w.heap.size + 1) 3 1 A4 j c4 ((List.replicate j 0).map iv)) ∧ Hid (Below w.heap.size w wr)) (fun i _ => k - (intOf i).toNat)
  case atStart => exact ⟨0, none, 0, by omega, rfl, HQ3, HO4, hide (Own.nil _ _ _ _), HB3⟩
  case round =>
    obtain ⟨j, A4, c4, hj, rfl, HBr, HOr, HWr, HBB⟩ := hrel
    have qr := HBr.out
    have zr := qr.lt
    obtain ⟨qr_c0, qr_c1, qr_c2, qr_c3, qr_c4, qr_c5, qr_c6⟩ := cel7 qr
    have qr_f := qr.frozen
    by_cases hlt : j < k
    · have HZ : Hid (((List.replicate (j + 1) 0).map iv) = ((List.replicate j 0).map iv) ++ [.int .i64 0]) := hide (by rw [List.replicate_succ', List.map_append]; rfl)
      clear qr
      go_wp2_with (at_builtin; refine app_i _ rfl _ _ rfl (w.heap.size + 1) A4 j c4 _ rfl (HWr.out.alloc _) _ 1 0 rfl (Sl.one _ _ _) (by omega) (by simp; omega) ?_; intro A5 c5 w5 hO5 hg5 hr5 hb5; have q5f := ((HBr.out.alloc (.cells #[.int .i64 0] 3)).below hb5 (by omega)).frozen 1; have q5c := ((HBr.out.alloc (.cells #[.int .i64 0] 3)).below hb5 (by omega)).cell 1 (u := .slice A4 j c4) rfl; have HH5 := hide (And.intro hO5 (And.intro hg5 hb5)); clear hO5 hg5 hb5)
      obtain ⟨hO5, hg5, hb5⟩ := HH5.out
      have hB5 := blk_setL (l := [.slice (some ⟨gb, 0, none⟩) n c3, .slice A4 j c4, .int .i64 5, .bool false, .int .i64 (-1), .int .u32 0, .int .i64 0]) ((HBr.out.alloc (.cells #[.int .i64 0] 3)).below hb5 (by omega)) 1 (.slice A5 (j + 1) c5)
      have hob : OwnB w5 (w.heap.size + 1) (some ⟨gb, 0, none⟩) n c3 l := ⟨HOr.out.hn, (HOr.out.own.alloc (.cells #[.int .i64 0] 3)).grown hg5 (own_ne' (HOr.out.own.alloc (.cells #[.int .i64 0] 3)) (HWr.out.alloc (.cells #[.int .i64 0] 3)) (by decide))⟩
      have HB5 := hide hB5
      have HOB := hide (hob.set_ (p := ⟨w.heap.size, 1, none⟩) (by simp) (.slice A5 (j + 1) c5))
      have HW5 : Hid (Own (w5.setCell ⟨w.heap.size, 1, none⟩ (.slice A5 (j + 1) c5)) (w.heap.size + 1) 3 1 A5 (j + 1) c5 ((List.replicate (j + 1) 0).map iv)) := hide (by rw [HZ.out]; exact hO5.set_ (by simp) _)
      have HBN := hide (below_set ((below_alloc HBB.out (.cells #[.int .i64 0] 3)).trans (hb5.mono (by omega))) (p := ⟨w.heap.size, 1, none⟩) (Nat.le_refl _) (.slice A5 (j + 1) c5))
      go_roundw
      case rel => exact ⟨j + 1, A5, c5, by omega, by go_num, HB5, HOB, HW5, HBN⟩
      case measure => simp [intOf]; omega
    · obtain rfl : j = k := by omega
      clear qr
      obtain ⟨gw, rfl, hgw, _⟩ := HWr.out.at_ h1
      go_wp2_with fail
      go_ret2
      have hn := HN.out
      subst hn
      refine ⟨⟨w.heap.size, gb, gw, c3, c4⟩, rfl, rmkF HBr.out (HOr.out.own.mono (Nat.zero_le _)) (HWr.out.mono (Nat.zero_le _)) HF.out, ?_, HBB.out⟩
      rintro g (rfl | rfl | rfl)
      · exact Nat.le_refl _
      · exact Nat.le_trans (Nat.le_succ _) hg1
      · exact Nat.le_trans (Nat.le_succ _) hgw
end
end Go.Proofs.Ytfddfgonhgidbaa
