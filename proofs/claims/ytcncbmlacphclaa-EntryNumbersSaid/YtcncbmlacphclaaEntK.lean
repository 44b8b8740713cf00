/- The laws' own known() and light() for entries. -/
import Derived.Test.YtcncbmlacphclaaEntC
import Derived.Test.YtcncbmlacphclaaEntB
namespace Go.Proofs.Ytcncbmlacphclaa
set_option linter.unusedVariables false
set_option linter.unusedSimpArgs false
set_option linter.unnecessarySimpa false
open Go.RowKit
set_option maxRecDepth 100000
set_option maxHeartbeats 2000000

def lightB (E : Ent) (n : Nat) : Bool := decide (n ≤ 2000) && decide (E.nm.size ≤ 2000)
theorem light_any (E : Ent) (A : Option Addr) (n c : Nat) (w : World) : Calls Try.prog 12 #[.agg (entV E A n c)] w fun e w' => e = .returned (.bool (lightB E n)) ∧ Below w.heap.size w w' := by
  obtain ⟨ix, sub, nm, ty, acc, mp, st, mx, lo, hi, df⟩ := E
  unfold entV
  go_enter Try.func12, Try.ntmps12
  go_wp2_with fail
  all_goals (go_ret; exact ⟨ret_bool (by rw [Bool.eq_iff_iff]; simp_all [lightB]; try omega), below_alloc (Below.refl _ _) _⟩)
def kE1 : Ent := ⟨4119, 0, ⟨#[98, 101, 97, 116]⟩, 6, 4, false, false, 0, 0, 1000, [232, 3]⟩
def kE2 : Ent := ⟨4119, 0, ⟨#[66, 101, 97, 116]⟩, 6, 4, false, false, 0, 0, 1000, [232, 3]⟩
theorem kE_right : rightE kE1 = 0 ∧ rightE kE2 = 14 ∧ valueE kE1.ty kE1.mx kE1.lo kE1.hi [233, 3] = 101253169 ∧ valueE kE1.ty kE1.mx kE1.lo kE1.hi [1] = 101122067 ∧ groupE kE1.ix = 2 ∧ nameB ⟨#[97, 95, 49]⟩ = true := by decide +kernel
theorem known_14 (w : World) : Calls Try.prog 13 #[] w fun e w' => e = .returned (.bool true) ∧ Below w.heap.size w w' := by
  obtain ⟨r1, r2, r3, r4, r5, r6⟩ := kE_right
  have R1 := hide r1
  have R2 := hide r2
  have R3 := hide r3
  have R4 := hide r4
  have R5 := hide r5
  have R6 := hide r6
  clear r1 r2 r3 r4 r5 r6
  go_enter Try.func13, Try.ntmps13
  go_wp2_with fail
  obtain ⟨H, hH⟩ : ∃ H, H = w.heap.size := ⟨_, rfl⟩
  have q := blk_three w 5 24 24 #[.int .u8 232, .int .u8 3] (entV kE1 (some ⟨w.heap.size, 0, none⟩) 2 2) (entV kE2 (some ⟨w.heap.size, 0, none⟩) 2 2)
  have hbw := below_alloc (below_alloc (below_alloc (Below.refl w.heap.size w) (.cells #[.int .u8 232, .int .u8 3] 5)) (.cells (entV kE1 (some ⟨w.heap.size, 0, none⟩) 2 2) 24)) (.cells (entV kE2 (some ⟨w.heap.size, 0, none⟩) 2 2) 24)
  obtain ⟨q0, q1, q2⟩ := q
  have hs0 := q0.sl
  refine (ent_right kE1 (some ⟨w.heap.size, 0, none⟩) 2 2 _ rfl (by decide) (by decide) (by decide) hs0).mono ?_
  rintro e w1 ⟨rfl, hb1⟩
  rw [R1.out]
  replace q0 := q0.below hb1 q0.lt
  replace q1 := q1.below hb1 q1.lt
  replace q2 := q2.below hb1 q2.lt
  replace hbw := below_step hb1 hbw
  have hz : w.heap.size + 1 + 1 < w1.heap.size := q2.lt
  clear hs0 hb1
  simp only [entV, kE1, kE2] at q1 q2
  have q2_c0 := q2.cell 0 rfl
  have q2_f0 := q2.frozen 0
  have q2_c1 := q2.cell 1 rfl
  have q2_f1 := q2.frozen 1
  have q2_c2 := q2.cell 2 rfl
  have q2_f2 := q2.frozen 2
  have q2_c3 := q2.cell 3 rfl
  have q2_f3 := q2.frozen 3
  have q2_c4 := q2.cell 4 rfl
  have q2_f4 := q2.frozen 4
  have q2_c5 := q2.cell 5 rfl
  have q2_f5 := q2.frozen 5
  have q2_c6 := q2.cell 6 rfl
  have q2_f6 := q2.frozen 6
  have q2_c7 := q2.cell 7 rfl
  have q2_f7 := q2.frozen 7
  have q2_c8 := q2.cell 8 rfl
  have q2_f8 := q2.frozen 8
  have q2_c9 := q2.cell 9 rfl
  have q2_f9 := q2.frozen 9
  have q2_c10 := q2.cell 10 rfl
  have q2_f10 := q2.frozen 10
  go_wp2_with fail
  clear q2_c0 q2_f0 q2_c1 q2_f1 q2_c2 q2_f2 q2_c3 q2_f3 q2_c4 q2_f4 q2_c5 q2_f5 q2_c6 q2_f6 q2_c7 q2_f7 q2_c8 q2_f8 q2_c9 q2_f9 q2_c10 q2_f10
  have hs0 := q0.sl
  refine (ent_right kE2 (some ⟨w.heap.size, 0, none⟩) 2 2 _ rfl (by decide) (by decide) (by decide) hs0).mono ?_
  rintro e w2 ⟨rfl, hb2⟩
  rw [R2.out]
  replace q0 := q0.below hb2 q0.lt
  replace q1 := q1.below hb2 q1.lt
  replace hbw := below_step hb2 hbw
  clear q2 hs0 hz
  have q1_c0 := q1.cell 0 rfl
  have q1_f0 := q1.frozen 0
  have q1_c1 := q1.cell 1 rfl
  have q1_f1 := q1.frozen 1
  have q1_c2 := q1.cell 2 rfl
  have q1_f2 := q1.frozen 2
  have q1_c3 := q1.cell 3 rfl
  have q1_f3 := q1.frozen 3
  have q1_c4 := q1.cell 4 rfl
  have q1_f4 := q1.frozen 4
  have q1_c5 := q1.cell 5 rfl
  have q1_f5 := q1.frozen 5
  have q1_c6 := q1.cell 6 rfl
  have q1_f6 := q1.frozen 6
  have q1_c7 := q1.cell 7 rfl
  have q1_f7 := q1.frozen 7
  have q1_c8 := q1.cell 8 rfl
  have q1_f8 := q1.frozen 8
  have q1_c9 := q1.cell 9 rfl
  have q1_f9 := q1.frozen 9
  have q1_c10 := q1.cell 10 rfl
  have q1_f10 := q1.frozen 10
  go_wp2_with fail
  clear q1_c0 q1_f0 q1_c1 q1_f1 q1_c2 q1_f2 q1_c3 q1_f3 q1_c4 q1_f4 q1_c5 q1_f5 q1_c6 q1_f6 q1_c7 q1_f7 q1_c8 q1_f8 q1_c9 q1_f9 q1_c10 q1_f10
  replace q0 := q0.alloc (.cells #[.int .u8 233, .int .u8 3] 5)
  replace q1 := q1.alloc (.cells #[.int .u8 233, .int .u8 3] 5)
  replace hbw := below_alloc hbw (.cells #[.int .u8 233, .int .u8 3] 5)
  have hs0 := (blk_one w2 5 #[.int .u8 233, .int .u8 3]).sl
  refine (ent_value kE1 (some ⟨w.heap.size, 0, none⟩) 2 2 _ 2 2 [233, 3] _ rfl (by decide) (by decide) hs0).mono ?_
  rintro e w3 ⟨rfl, hb3⟩
  rw [R3.out]
  replace q0 := q0.below hb3 q0.lt
  replace q1 := q1.below hb3 q1.lt
  replace hbw := below_step hb3 hbw
  clear hs0
  have q1_c0 := q1.cell 0 rfl
  have q1_f0 := q1.frozen 0
  have q1_c1 := q1.cell 1 rfl
  have q1_f1 := q1.frozen 1
  have q1_c2 := q1.cell 2 rfl
  have q1_f2 := q1.frozen 2
  have q1_c3 := q1.cell 3 rfl
  have q1_f3 := q1.frozen 3
  have q1_c4 := q1.cell 4 rfl
  have q1_f4 := q1.frozen 4
  have q1_c5 := q1.cell 5 rfl
  have q1_f5 := q1.frozen 5
  have q1_c6 := q1.cell 6 rfl
  have q1_f6 := q1.frozen 6
  have q1_c7 := q1.cell 7 rfl
  have q1_f7 := q1.frozen 7
  have q1_c8 := q1.cell 8 rfl
  have q1_f8 := q1.frozen 8
  have q1_c9 := q1.cell 9 rfl
  have q1_f9 := q1.frozen 9
  have q1_c10 := q1.cell 10 rfl
  have q1_f10 := q1.frozen 10
  go_wp2_with fail
  clear q1_c0 q1_f0 q1_c1 q1_f1 q1_c2 q1_f2 q1_c3 q1_f3 q1_c4 q1_f4 q1_c5 q1_f5 q1_c6 q1_f6 q1_c7 q1_f7 q1_c8 q1_f8 q1_c9 q1_f9 q1_c10 q1_f10
  replace q0 := q0.alloc (.cells #[.int .u8 1] 5)
  replace q1 := q1.alloc (.cells #[.int .u8 1] 5)
  replace hbw := below_alloc hbw (.cells #[.int .u8 1] 5)
  have hs0 := (blk_one w3 5 #[.int .u8 1]).sl
  refine (ent_value kE1 (some ⟨w.heap.size, 0, none⟩) 2 2 _ 1 1 [1] _ rfl (by decide) (by decide) hs0).mono ?_
  rintro e w4 ⟨rfl, hb4⟩
  rw [R4.out]
  replace q1 := q1.below hb4 q1.lt
  replace hbw := below_step hb4 hbw
  clear hs0
  have q1_c0 := q1.cell 0 rfl
  have q1_f0 := q1.frozen 0
  have q1_c1 := q1.cell 1 rfl
  have q1_f1 := q1.frozen 1
  have q1_c2 := q1.cell 2 rfl
  have q1_f2 := q1.frozen 2
  have q1_c3 := q1.cell 3 rfl
  have q1_f3 := q1.frozen 3
  have q1_c4 := q1.cell 4 rfl
  have q1_f4 := q1.frozen 4
  have q1_c5 := q1.cell 5 rfl
  have q1_f5 := q1.frozen 5
  have q1_c6 := q1.cell 6 rfl
  have q1_f6 := q1.frozen 6
  have q1_c7 := q1.cell 7 rfl
  have q1_f7 := q1.frozen 7
  have q1_c8 := q1.cell 8 rfl
  have q1_f8 := q1.frozen 8
  have q1_c9 := q1.cell 9 rfl
  have q1_f9 := q1.frozen 9
  have q1_c10 := q1.cell 10 rfl
  have q1_f10 := q1.frozen 10
  go_wp2_with fail
  clear q1_c0 q1_f0 q1_c1 q1_f1 q1_c2 q1_f2 q1_c3 q1_f3 q1_c4 q1_f4 q1_c5 q1_f5 q1_c6 q1_f6 q1_c7 q1_f7 q1_c8 q1_f8 q1_c9 q1_f9 q1_c10 q1_f10
  refine (ent_group kE1 (some ⟨w.heap.size, 0, none⟩) 2 2 _).mono ?_
  rintro e w5 ⟨rfl, hb5⟩
  rw [R5.out]
  replace hbw := below_step hb5 hbw
  go_wp2_with fail
  refine (ent_name ⟨#[97, 95, 49]⟩ _ (by decide)).mono ?_
  rintro e w6 ⟨rfl, rfl⟩
  rw [R6.out]
  go_wp2_with fail
  go_ret
  exact ⟨rfl, hbw⟩
end Go.Proofs.Ytcncbmlacphclaa
