/- The reference of entries: Lent. -/
import Derived.Test.YtabgdfbiocoimaaRDicA
import Derived.Test.YtabgdfbiocoimaaDicR
namespace Go.Proofs.Ytabgdfbiocoimaa
set_option linter.unusedVariables false
set_option linter.unusedSimpArgs false
set_option linter.unnecessarySimpa false
open Go.RowKit
set_option maxRecDepth 100000
set_option maxHeartbeats 4000000
theorem rent_lent (E : Ent) (A : Option Addr) (n c : Nat) (w : World) (hn : n = E.df.length) (hl : n ≤ 35184372088832) (hs : Sl w A (E.df.map bv)) :
    Calls Try.prog 65 #[.agg (entV E A n c)] w fun e w' => ∃ A' c', e = .returned (.agg (entV E A' n c')) ∧ OwnB w' w.heap.size A' n c' E.df ∧ Below w.heap.size w w' := by
  have HN := hide hn
  have HS := hide hs
  clear hn hs
  have K0 := blk_two w 39 39 (entV E A n c) (entV zeroE none 0 0)
  have hbw := below_alloc (below_alloc (Below.refl w.heap.size w) (.cells (entV E A n c) 39)) (.cells (entV zeroE none 0 0) 39)
  have HS1 := hide (HS.out.below hbw)
  have HQ : Hid (∀ w1 A1 c1, OwnB w1 (w.heap.size + 1 + 1) A1 n c1 E.df → Below w.heap.size w w1 → Blk w1 (w.heap.size + 1) 39 (entV zeroE none 0 0) → (Blk (put11 (w1.setCell ⟨w.heap.size, 10, none⟩ (.slice A1 n c1)) (w.heap.size + 1) E A1 n c1) (w.heap.size + 1) 39 (entV E A1 n c1) ∧
      OwnB (put11 (w1.setCell ⟨w.heap.size, 10, none⟩ (.slice A1 n c1)) (w.heap.size + 1) E A1 n c1) w.heap.size A1 n c1 E.df ∧ Below w.heap.size w (put11 (w1.setCell ⟨w.heap.size, 10, none⟩ (.slice A1 n c1)) (w.heap.size + 1) E A1 n c1))) := hide (by
    intro w1 A1 c1 hO hb hB
    have o1 : Only (fun k => k = w.heap.size ∨ k = w.heap.size + 1) w1 (put11 (w1.setCell ⟨w.heap.size, 10, none⟩ (.slice A1 n c1)) (w.heap.size + 1) E A1 n c1) :=
      (Only.of_set (F := fun k => k = w.heap.size ∨ k = w.heap.size + 1) (.inl rfl) _).trans (put11_only _ _ _ _ _ _) (fun i _ h => .inr h)
    refine ⟨put11_blk (hB.far (p := ⟨w.heap.size, 10, none⟩) (by simp) _) rfl E A1 n c1, (ownB_only hO o1 (fun g h1 _ h2 => by omega)).mono (by omega), hb.trans (o1.below hb.size (fun i h => by omega))⟩)
  unfold put11 at HQ
  have HQ' := hide HQ
  clear HQ
  unfold entV zeroE at K0 hbw
  unfold entV
  obtain ⟨K1, K2⟩ := K0
  have hne : w.heap.size ≠ w.heap.size + 1 := by omega
  have kc10 := K1.cell 10 rfl
  have hz : (((w.alloc (.cells #[.int .i64 E.ix, .int .i64 E.sub, .string E.nm, .int .i64 E.ty, .int .i64 E.acc, .bool E.mp, .bool E.st, .int .i64 E.mx, .int .i64 E.lo, .int .i64 E.hi, .slice A n c] 39)).alloc (.cells #[.int .i64 0, .int .i64 0, .string ⟨#[]⟩, .int .i64 0, .int .i64 0, .bool false, .bool false, .int .i64 0, .int .i64 0, .int .i64 0, .slice none 0 0] 39)).heap.size) = w.heap.size + 1 + 1 := by simp
  have HZ := hide hz
  clear hz
  go_enter Try.func65, Try.ntmps65
  go_wp2_with (at_builtin; refine app_b _ rfl _ _ rfl (w.heap.size + 1 + 1) _ _ _ _ rfl (OwnB.nil _ _) _ _ _ E.df rfl HN.out HS1.out (by omega) (by rw [HZ.out]; exact Nat.le_refl _) n (by omega) ?_; intro A1 c1 w1 hO1 _ _ hb1; have HO := hide hO1; have q1 := K1.below hb1 (by omega); have q2 := K2.below hb1 (by omega); have HQ2 := hide q2; have hbw2 := below_step' hb1 (by omega) hbw; clear hO1; have f10 := q1.frozen 10; have g0 := q2.frozen 0; have g1 := q2.frozen 1; have g2 := q2.frozen 2; have g3 := q2.frozen 3; have g4 := q2.frozen 4; have g5 := q2.frozen 5; have g6 := q2.frozen 6; have g7 := q2.frozen 7; have g8 := q2.frozen 8; have g9 := q2.frozen 9; have g10 := q2.frozen 10; have e0 := q2.cell 0 rfl; have e1 := q2.cell 1 rfl; have e2 := q2.cell 2 rfl; have e3 := q2.cell 3 rfl; have e4 := q2.cell 4 rfl; have e5 := q2.cell 5 rfl; have e6 := q2.cell 6 rfl; have e7 := q2.cell 7 rfl; have e8 := q2.cell 8 rfl; have e9 := q2.cell 9 rfl; have e10 := q2.cell 10 rfl; have d0 := q1.cell 0 rfl; have d1 := q1.cell 1 rfl; have d2 := q1.cell 2 rfl; have d3 := q1.cell 3 rfl; have d4 := q1.cell 4 rfl; have d5 := q1.cell 5 rfl; have d6 := q1.cell 6 rfl; have d7 := q1.cell 7 rfl; have d8 := q1.cell 8 rfl; have d9 := q1.cell 9 rfl; have d10 := q1.cell 10 rfl)
  obtain ⟨r1, r2, r3⟩ := HQ'.out.out _ _ _ HO.out hbw2 HQ2.out
  exact ret_ent (E := E) rfl rfl rfl r1 ⟨_, _, rfl, r2, r3⟩
end Go.Proofs.Ytabgdfbiocoimaa
