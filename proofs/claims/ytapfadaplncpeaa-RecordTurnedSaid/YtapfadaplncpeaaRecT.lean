/- The walk of RecordTurned. -/
import Derived.Test.YtapfadaplncpeaaRecS
import Derived.Test.YtapfadaplncpeaaTurn
namespace Go.Proofs.Ytapfadaplncpeaa
set_option linter.unusedVariables false
set_option linter.unusedSimpArgs false
set_option linter.unnecessarySimpa false
open Go.RowKit
set_option maxRecDepth 20000
set_option maxHeartbeats 1000000
attribute [local go_sem ↓] Go.wp_at_zero Go.wp_at_succ

theorem burst_bit (b i : Nat) (hb : U32 b) : bits BinOp.and IntKind.u32 ((b : Int) / 2 ^ i) 1 = (((b.testBit i).toNat : Nat) : Int) := by
  have e : ((b : Int) / 2 ^ i) = ((b / 2 ^ i : Nat) : Int) := by push_cast; rfl
  have h2 : b / 2 ^ i ≤ b := Nat.div_le_self _ _
  unfold U32 at hb
  rw [e, show (1 : Int) = ((1 : Nat) : Int) from rfl, u32_and_nat _ 1 (by omega) (by decide), Nat.and_one_is_mod, bit_toNat]

theorem turn_byte (y : UInt8) (j : Nat) (hj : j < 8) : bits BinOp.xor IntKind.u8 (y.toNat : Int) ((2 : Int) ^ j % 256) = (((y ^^^ UInt8.ofNat (2 ^ j)).toNat : Nat) : Int) := by
  have h2 : 2 ^ j < 256 := Nat.lt_of_lt_of_le (Nat.pow_lt_pow_right (a := 2) (by omega) hj) (by decide)
  have e : ((2 : Int) ^ j % 256) = ((2 ^ j : Nat) : Int) := by
    have : ((2 : Int) ^ j) = ((2 ^ j : Nat) : Int) := by push_cast; rfl
    rw [this]; exact Int.emod_eq_of_lt (Int.natCast_nonneg _) (by exact_mod_cast h2)
  rw [e, u8_xor_nat _ _ y.toNat_lt h2, UInt8.toNat_xor, UInt8.toNat_ofNat']
  congr 2
  omega
theorem tb_set (xs : List UInt8) (Q j t : Nat) (y : UInt8) (hj : j < 8) (hy : xs[Q]? = some y) : tb (xs.set Q (y ^^^ UInt8.ofNat (2 ^ j))) t = (tb xs t ^^ decide (t = 8 * Q + j)) := by
  have hQ := (List.getElem?_eq_some_iff.1 hy).1
  have h2 : 2 ^ j < 256 := Nat.lt_of_lt_of_le (Nat.pow_lt_pow_right (a := 2) (by omega) hj) (by decide)
  unfold tb
  rw [List.getD_eq_getElem?_getD, List.getD_eq_getElem?_getD, List.getElem?_set]
  by_cases h : Q = t / 8
  · rw [if_pos h, if_pos hQ, ← h, hy]
    simp only [Option.getD_some, UInt8.toNat_xor, UInt8.toNat_ofNat']
    rw [Nat.mod_eq_of_lt h2, Nat.testBit_xor, Nat.testBit_two_pow]
    congr 1
    rw [Bool.eq_iff_iff]
    simp only [decide_eq_true_eq]
    omega
  · rw [if_neg h]
    have : decide (t = 8 * Q + j) = false := by simp; omega
    rw [this]; simp
theorem patB_succ (b k i n j : Nat) : patB b k (i + 1) n j = (patB b k i n j ^^ (decide (j = k + i) && (decide (j < n) && b.testBit i))) := by
  unfold patB
  by_cases h : j = k + i
  · subst h
    rw [show k + i - k = i by omega]
    have h1 : decide (k ≤ k + i ∧ k + i < k + i ∧ k + i < n) = false := by simp
    have h2 : decide (k ≤ k + i ∧ k + i < k + (i + 1) ∧ k + i < n) = decide (k + i < n) := by rw [Bool.eq_iff_iff]; simp <;> omega
    rw [h1, h2]; simp
  · have h1 : decide (j = k + i) = false := by simp [h]
    have h2 : decide (k ≤ j ∧ j < k + (i + 1) ∧ j < n) = decide (k ≤ j ∧ j < k + i ∧ j < n) := by rw [Bool.eq_iff_iff]; simp <;> omega
    rw [h1, h2]; simp

theorem recordTurned_walk (A : Option Addr) (k0 : Int) (m n c : Nat) (l : List UInt8) (at_ : Int) (burst : Nat) (w : World) (hn : n = l.length) (hc : n ≤ c) (hs : Sl w A (l.map bv)) (hu : U32 m) (hub : U32 burst) :
    Calls Try.prog 9 #[.agg #[.int .i64 k0, .int .u32 (m : Nat), .slice A n c], .int .i64 at_, .int .u32 (burst : Nat)] w (TrueB w) := by
  have hbb := below_alloc (Below.refl w.heap.size w) (.cells #[.int .i64 k0, .int .u32 (m : Nat), .slice A n c] 40)
  by_cases hbig : 3000 < n
  · clear hn
    go_enter Try.func9, Try.ntmps9
    go_wp2_with fail
    refine (known_07 _).mono ?_
    rintro e w1 ⟨rfl, hb1⟩
    go_wp2_with fail
    go_ret
    exact (⟨rfl, below_step hb1 hbb⟩ : TrueB w _ _)
  have hn3 : n ≤ 3000 := by omega
  have kb := blk_one w 40 #[.int .i64 k0, .int .u32 (m : Nat), .slice A n c]
  obtain ⟨er, her⟩ : ∃ er, er = rightR k0 m n := ⟨_, rfl⟩
  have HB := hide (fun W (h : Sl W A (l.map bv)) => rec_build A k0 m n c l W hn h hu)
  rw [← her] at HB
  by_cases h0 : er = 0
  case neg =>
    have h0' : (er != 0) = true := by simpa using h0
    clear hn her h0
    go_enter Try.func9, Try.ntmps9
    go_wp2_with fail
    refine (HB.out _ (hs.alloc _)).mono ?_
    rintro e w1 ⟨A1, n1, c1, rfl, hO1, hb1⟩
    go_wp2_with fail
    refine (known_07 _).mono ?_
    rintro e w3 ⟨rfl, hb3⟩
    go_wp2_with fail
    go_ret
    exact (⟨rfl, below_step hb3 (below_step hb1 hbb)⟩ : TrueB w _ _)
  case pos =>
    subst h0
    have hr : rightR k0 m l.length = 0 := by rw [← hn]; exact her.symm
    obtain ⟨k1, k2, k3, k4, k5⟩ := right_ok k0 m l.length hr
    obtain ⟨k0, rfl⟩ := Int.eq_ofNat_of_zero_le (show 0 ≤ k0 by omega)
    have HRR := hide hr
    have HBL := hide (build_parse_rec [] [] l k0 m hr hu).2
    have HN := hide hn
    clear hn her hr k1 k2 k3 k4 k5
    go_enter Try.func9, Try.ntmps9
    go_wp2_with fail
    refine (HB.out _ (hs.alloc _)).mono ?_
    rintro e w1 ⟨A1, n1, c1, rfl, hO1, hb1⟩
    have hn1 : n1 = n + 13 := by rw [hO1.hn, HBL.out, HN.out]
    have HN1 := hide hO1.hn
    subst hn1
    have kb1 := kb.below hb1 (by simp)
    have hbw1 := below_step hb1 hbb
    have q2 := kb1.cell 2 rfl
    have hc1 := hO1.le
    go_wp2_with fail
    refine (count_any at_ _ w1 (by omega) (by omega)).mono ?_
    rintro e w2 ⟨rfl, rfl⟩
    obtain ⟨q, hq⟩ : ∃ q : Nat, at_ % (8 * ((n : Int) + 13 - 1) - 64) = q := ⟨(at_ % (8 * ((n : Int) + 13 - 1) - 64)).toNat, (Int.toNat_of_nonneg (Int.emod_nonneg _ (by omega))).symm⟩
    have hq2 : q < 8 * n + 32 := by
      have := Int.emod_lt_of_pos at_ (b := 8 * ((n : Int) + 13 - 1) - 64) (by omega)
      omega
    rw [hq]
    clear hq q2
    go_wp2_with fail
    go_loopw [11, 12] (fun tv iv wr => ∃ i xs, i ≤ 32 ∧ 64 + q + i ≤ 8 * (n + 12) ∧ iv = .int .i64 (i : Nat) ∧ tv = .bool (turnedB burst (64 + q) (8 * (n + 12)) i) ∧ OwnB wr w.heap.size A1 (n + 13) c1 xs ∧
        Hid (∀ j, j < 8 * (n + 13) → tb xs j = (tb (recB k0 m l) j ^^ patB burst (64 + q) i (8 * (n + 12)) j)) ∧ Below w.heap.size w wr) (fun _ iv _ => 32 - (intOf iv).toNat)
    case atStart =>
      refine ⟨0, recB k0 m l, by omega, by omega, rfl, rfl, hO1.mono (by simp), hide ?_, hbw1⟩
      intro j hj
      have : patB burst (64 + q) 0 (8 * (n + 12)) j = false := by simp [patB]; intro a b; omega
      rw [this]; simp
    case round =>
      obtain ⟨i, xs, hi, hki, rfl, rfl, hO, HX, hbr⟩ := hrel
      by_cases hlt : i < 32 ∧ 64 + q + i < 8 * (n + 12)
      · obtain ⟨hl1, hl2⟩ := hlt
        obtain ⟨g, u, rfl, hg1, hg2, hu1, hcell, hfr⟩ := hO.own.cell (k := (64 + q + i) / 8) (by omega)
        have hxl : xs.length = n + 13 := hO.hn.symm
        obtain ⟨y, hy⟩ : ∃ y, xs[(64 + q + i) / 8]? = some y := ⟨xs[(64 + q + i) / 8]'(by omega), List.getElem?_eq_getElem _⟩
        have hu2 : u = .int .u8 y.toNat := by
          rw [List.getElem?_map, hy] at hu1
          injection hu1 with hu1
          exact hu1.symm
        subst hu2
        have HY := hide hy
        have hb0 := burst_bit burst i hub
        cases hbt : burst.testBit i with
        | true =>
          rw [hbt] at hb0
          have HBT := hide hbt
          clear hbt hu1 hy
          have hj8 : (64 + q + i) % 8 < 8 := by omega
          have HT8 := hide (turn_byte y _ hj8)
          have hst := hO.own.stored ((64 + q + i) / 8) (.int .u8 ((y ^^^ UInt8.ofNat (2 ^ ((64 + q + i) % 8))).toNat : Nat))
          rw [set_bv, ← HT8.out] at hst
          have HST := hide hst
          clear hst hj8
          go_wp2_with fail
          go_roundw
          case measure => simp [intOf]; omega
          case rel =>
            refine ⟨i + 1, xs.set ((64 + q + i) / 8) (y ^^^ UInt8.ofNat (2 ^ ((64 + q + i) % 8))), by omega, by omega, by go_num, ?_, ⟨by rw [List.length_set]; exact hO.hn, HST.out⟩, hide ?_, hbr.setCell (p := ⟨g, _, none⟩) (by simpa using hg1) _⟩
            · simp only [turnedB, HBT.out]
              have : decide (64 + q + i < 8 * (n + 12)) = true := by simp; omega
              rw [this]; simp
            · intro j hj
              rw [tb_set xs _ _ j y (by omega) HY.out, HX.out j hj, patB_succ, HBT.out]
              have e1 : decide (j = 8 * ((64 + q + i) / 8) + (64 + q + i) % 8) = decide (j = 64 + q + i) := by rw [Bool.eq_iff_iff]; simp <;> omega
              rw [e1]
              by_cases hje : j = 64 + q + i
              · subst hje
                have : decide (64 + q + i < 8 * (n + 12)) = true := by simp; omega
                rw [this]; simp
              · have : decide (j = 64 + q + i) = false := by simp [hje]
                rw [this]; simp
        | false =>
          rw [hbt] at hb0
          have HBT := hide hbt
          clear hbt hu1 hy
          go_wp2_with fail
          go_roundw
          case measure => simp [intOf]; omega
          case rel =>
            refine ⟨i + 1, xs, by omega, by omega, by go_num, ?_, hO, hide ?_, hbr⟩
            · simp only [turnedB, HBT.out]
              simp
            · intro j hj
              rw [HX.out j hj, patB_succ, HBT.out]
              simp
      · have hxl : xs.length = n + 13 := hO.hn.symm
        have HP := hide (turned_parse k0 m l xs burst (64 + q) i HRR.out hu (by rw [hxl, HN.out]) hi (by omega) (by have := HN.out; omega) (fun j hj => by have := HN.out; subst this; exact HX.out j hj))
        have HN2 := hide hO.hn
        have kz : w.heap.size ≤ wr.heap.size := hbr.size
        by_cases ht : turnedB burst (64 + q) (8 * (n + 12)) i = true
        · have HP2 := hide (show recParse xs 0 = ⟨0, 0, [], 0, 5⟩ by rw [HP.out, ← HN.out, if_pos ht])
          clear hxl
          go_wp2_with fail
          all_goals
            refine (rec_parse A1 (n + 13) c1 0 xs wr _ HP2.out.symm HN2.out hc1 (by omega) hO.sl).mono ?_
            rintro e w3 ⟨A3, n3, c3, rfl, hO3, hb3⟩
            simp only [] at hO3 ⊢
            go_wp2_with fail
            refine (known_07 _).mono ?_
            rintro e w4 ⟨rfl, hb4⟩
            go_wp2_with fail
            go_ret
            exact (⟨rfl, below_step hb4 (below_alloc (below_step hb3 hbr) _)⟩ : TrueB w _ _)
        · have ht : turnedB burst (64 + q) (8 * (n + 12)) i = false := by simpa using ht
          have HP2 := hide (show recParse xs 0 = ⟨k0, m, l, (n : Int) + 13, 0⟩ by rw [HP.out, ← HN.out, if_neg (by rw [ht]; decide)])
          clear hxl
          go_wp2_with fail
          all_goals
            refine (rec_parse A1 (n + 13) c1 0 xs wr _ HP2.out.symm HN2.out hc1 (by omega) hO.sl).mono ?_
            rintro e w3 ⟨A3, n3, c3, rfl, hO3, hb3⟩
            simp only [] at hO3 ⊢
            go_wp2_with fail
            refine (known_07 _).mono ?_
            rintro e w4 ⟨rfl, hb4⟩
            go_wp2_with fail
            go_ret
            exact (⟨rfl, below_step hb4 (below_alloc (below_step hb3 hbr) _)⟩ : TrueB w _ _)
end Go.Proofs.Ytapfadaplncpeaa
