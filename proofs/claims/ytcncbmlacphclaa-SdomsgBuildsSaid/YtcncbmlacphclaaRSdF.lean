/- The reference of sdomsg: Build. -/
import Derived.Test.YtcncbmlacphclaaRSdC
import Derived.Test.YtcncbmlacphclaaRSdE
import Derived.Test.YtcncbmlacphclaaSdF
namespace Go.Proofs.Ytcncbmlacphclaa
set_option linter.unusedVariables false
set_option linter.unusedSimpArgs false
set_option linter.unnecessarySimpa false
open Go.RowKit
set_option maxRecDepth 100000
set_option maxHeartbeats 2000000

theorem rsd_laidM (M : Ms) (A : Option Addr) (n c : Nat) (w : World) (hn : n = M.data.length) (hs : Sl w A (M.data.map bv)) (hcan : canB M = true) (hu1 : M.size ≤ 4294967295) (hu2 : M.code ≤ 4294967295) (hu3 : M.sum ≤ 65535) :
    Calls Try.prog 68 #[.agg (msV M A n c)] w (LaidR w (laidB M)) := by
  have hrg : rangeB M = true ∧ shapeB (formI M.kind) M = true ∧ formI M.kind ≠ 0 := by
    have := hcan
    simp only [canB, Bool.and_eq_true, decide_eq_true_iff] at this
    exact ⟨this.1.1.2, this.1.2, this.1.1.1⟩
  obtain ⟨hr1, hsh, hf0⟩ := hrg
  have k1 : 1 ≤ M.kind ∧ M.kind ≤ 21 := by
    refine ⟨?_, ?_⟩
    · rcases Int.lt_or_le M.kind 1 with h | h
      · exact absurd (form_zero _ (.inl h)) hf0
      · exact h
    · rcases Int.lt_or_le 21 M.kind with h | h
      · exact absurd (form_zero _ (.inr h)) hf0
      · exact h
  have h4 : M.kind = 2 ∨ M.kind = 14 → M.data.length ≤ 4 := by
    intro h
    rw [show formI M.kind = 2 by rcases h with h | h <;> rw [h] <;> rfl] at hsh
    simp only [shapeB, if_true, Bool.or_eq_true, Bool.and_eq_true, decide_eq_true_iff] at hsh
    omega
  obtain ⟨kind, ix, sub, tg, la, cr, sz, size, code, data, sq, bl, em, sum⟩ := M
  simp only [rangeB, Bool.and_eq_true, decide_eq_true_iff] at hr1 k1 h4 hu1 hu2 hu3 hn hs
  obtain ⟨⟨⟨⟨⟨⟨a1, a2⟩, b1, b2⟩, c1, c2⟩, d1, d2⟩, e1, e2⟩, hd7⟩ := hr1
  obtain ⟨ix, rfl⟩ := Int.eq_ofNat_of_zero_le a1
  obtain ⟨sub, rfl⟩ := Int.eq_ofNat_of_zero_le b1
  obtain ⟨sq, rfl⟩ := Int.eq_ofNat_of_zero_le c1
  obtain ⟨bl, rfl⟩ := Int.eq_ofNat_of_zero_le d1
  obtain ⟨em, rfl⟩ := Int.eq_ofNat_of_zero_le e1
  rw [← rlaid_eq kind ix sub sq bl em size code sum tg la cr sz data k1.1 k1.2 (by omega) (by omega) (by omega) h4, ← hn]
  exact rsd_laid kind ix sub sq bl em size code sum n c tg la cr sz A data w k1.1 k1.2 hu1 hu2 hu3 (by omega) (by omega) (by omega) (by omega) (by omega) hn (by omega) (by omega) hs
theorem rsd_build (M : Ms) (A : Option Addr) (n c : Nat) (w : World) (hn : n = M.data.length) (hs : Sl w A (M.data.map bv)) (hu1 : M.size ≤ 4294967295) (hu2 : M.code ≤ 4294967295) (hu3 : M.sum ≤ 65535) :
    Calls Try.prog 33 #[.agg (msV M A n c)] w (BuildM M w) := by
  have q0 := blk_one w 43 (msV M A n c)
  have hs1 := hs.alloc (.cells (msV M A n c) 43)
  have HC := hide (fun W h => rsd_can M A n c W hn h)
  have HL := hide (fun W h hcan => rsd_laidM M A n c W hn h hcan hu1 hu2 hu3)
  have hbw := below_alloc (Below.refl w.heap.size w) (.cells (msV M A n c) 43)
  have HE : Hid (∀ e w', (∃ A' n' c', e = .returned (.tuple #[.slice A' n' c', .int .i64 (if canB M = true then 0 else 1)]) ∧ OwnB w' w.heap.size A' n' c' (if canB M = true then laidB M else []) ∧ Below w.heap.size w w') → BuildM M w e w') := hide (fun e w' h => h)
  obtain ⟨P, hP⟩ : ∃ P, P = BuildM M w := ⟨_, rfl⟩
  rw [← hP] at HE ⊢
  obtain ⟨L, hL⟩ : ∃ L, L = laidB M := ⟨_, rfl⟩
  rw [← hL] at HL HE
  obtain ⟨cn, hcn⟩ : ∃ cn, cn = canB M := ⟨_, rfl⟩
  rw [← hcn] at HC HE HL
  clear hP hL hcn hn hs
  obtain ⟨kind, ix, sub, tg, la, cr, sz, size, code, data, sq, bl, em, sum⟩ := M
  simp only [msV] at *
  go_enter Try.func33, Try.ntmps33
  have lq := q0.lt
  go_wp2_with fail
  generalize w.alloc (.cells #[.int .i64 kind, .int .i64 ix, .int .i64 sub, .bool tg, .bool la, .bool cr, .bool sz, .int .u32 (size : Nat), .int .u32 (code : Nat), .slice A n c, .int .i64 sq, .int .i64 bl, .int .i64 em, .int .u16 (sum : Nat)] 43) = W at *
  refine (HC.out W hs1).mono ?_
  rintro e w2 ⟨rfl, hb2⟩
  have q2 := q0.below hb2 lq
  have hs2 := hs1.below hb2
  replace hbw := below_step hb2 hbw
  have q2_c0 := q2.cell 0 rfl
  have q2_f0 := q2.frozen 0
  have q2_c1 := q2.cell 1 rfl
  have q2_f1 := q2.frozen 1
  have q2_c2 := q2.cell 2 rfl
  have q2_f2 := q2.frozen 2
  have q2_c3 := q2.cell 3 rfl
  have q2_f3 := q2.frozen 3
  have q2_c4 := q2.cell 4 rfl
  have q2_f4 := q2.frozen 4
  have q2_c5 := q2.cell 5 rfl
  have q2_f5 := q2.frozen 5
  have q2_c6 := q2.cell 6 rfl
  have q2_f6 := q2.frozen 6
  have q2_c7 := q2.cell 7 rfl
  have q2_f7 := q2.frozen 7
  have q2_c8 := q2.cell 8 rfl
  have q2_f8 := q2.frozen 8
  have q2_c9 := q2.cell 9 rfl
  have q2_f9 := q2.frozen 9
  have q2_c10 := q2.cell 10 rfl
  have q2_f10 := q2.frozen 10
  have q2_c11 := q2.cell 11 rfl
  have q2_f11 := q2.frozen 11
  have q2_c12 := q2.cell 12 rfl
  have q2_f12 := q2.frozen 12
  have q2_c13 := q2.cell 13 rfl
  have q2_f13 := q2.frozen 13
  clear q0 hs1
  cases cn
  · go_wp2_with fail
    exact HE.out _ _ ⟨none, 0, 0, rfl, OwnB.nil _ _, hbw⟩
  · go_wp2_with fail
    refine (HL.out w2 hs2 (by first | exact rfl | trivial)).mono ?_
    rintro e w3 ⟨g, rfl, hO3, hb3⟩
    go_wp2_with fail
    exact HE.out _ _ ⟨_, 8, 8, rfl, hO3.mono hbw.size, below_step hb3 hbw⟩
end Go.Proofs.Ytcncbmlacphclaa
