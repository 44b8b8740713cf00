/- The reference of sdomsg: read (printed by wip/tools/gen_rread.py). -/
import Derived.Test.YtcncbmlacphclaaSdH
import Derived.Test.YtcncbmlacphclaaRSdN5
import Derived.Test.YtcncbmlacphclaaRef01
import Derived.RegionTactic
import Derived.Deep.RegionHeld3
import Derived.Deep.DeepCutAuto
import Derived.Deep.CutBlock
import Derived.Deep.Light
namespace Go.Proofs.Ytcncbmlacphclaa
set_option linter.unusedVariables false
set_option linter.unusedSimpArgs false
set_option linter.unnecessarySimpa false
open Go.RowKit
set_option maxRecDepth 100000
set_option maxHeartbeats 4000000

theorem rsd_get (A : Option Addr) (n c : Nat) (l : List UInt8) (at_ wd : Int) (w : World) (hn : n = l.length) (hc : n ≤ c) (hl : n ≤ 4611686018427387904) (h0 : 0 ≤ at_) (h1 : at_ + wd ≤ n) (h2 : 1 ≤ wd) (h8 : wd ≤ 4) (hs : Sl w A (l.map bv)) :
    Calls Try.prog 98 #[.slice A n c, .int .i64 at_, .int .i64 wd] w fun e w' => e = .returned (.int .i64 (leN ((l.drop at_.toNat).take wd.toNat))) ∧ w = w' := by
  have HG := hide (rget_ok A n c l at_ wd w hn hc hl h0 h1 h2 (by omega) hs)
  have hb : leN ((l.drop at_.toNat).take wd.toNat) ≤ 4294967295 := by
    have h := leN_lt ((l.drop at_.toNat).take wd.toNat)
    have hp : 256 ^ ((l.drop at_.toNat).take wd.toNat).length ≤ 256 ^ 4 := Nat.pow_le_pow_right (by omega) (Nat.le_trans (List.length_take_le _ _) (by omega))
    have : (256 : Nat) ^ 4 = 4294967296 := by decide
    omega
  generalize leN ((l.drop at_.toNat).take wd.toNat) = x at *
  have HX : Hid (IntKind.i64.wrap (x : Int) = (x : Int)) := hide (wrap_small (by omega)).1
  clear hn hc hl h0 h1 h2 h8 hs
  go_enter Try.func98, Try.ntmps98
  go_wp2_with fail
  refine HG.out.mono ?_
  rintro e w1 ⟨rfl, rfl⟩
  go_wp2_with fail
  go_ret
  exact ⟨by first | rfl | rw [HX.out], rfl⟩
theorem tm_bit (x k : Nat) (h : x < 256) : ((IntKind.i64.wrap ((x : Int) / (k : Int))).tmod 2 == 1) = decide (x / k % 2 = 1) := by
  have h1 : IntKind.i64.wrap ((x : Int) / (k : Int)) = ((x / k : Nat) : Int) := by
    rw [show ((x : Int) / (k : Int)) = ((x / k : Nat) : Int) by push_cast; rfl]
    have := Nat.div_le_self x k
    exact (wrap_small (by omega)).1
  rw [h1, Int.tmod_eq_emod_of_nonneg (Int.natCast_nonneg _), Bool.eq_iff_iff]
  generalize x / k = y
  simp
  omega
theorem raw_eq (k : Int) (b0 b1 b2 b3 b4 b5 b6 b7 : UInt8) : (#[.int .i64 k, .int .i64 ((leN [b1, b2] : Nat) : Int), .int .i64 (IntKind.i64.wrap (b3.toNat : Int)), .bool ((IntKind.i64.wrap ((b0.toNat : Int) / 16)).tmod 2 == 1), .bool ((b0.toNat : Int).tmod 2 == 1), .bool ((IntKind.i64.wrap ((b0.toNat : Int) / 4)).tmod 2 == 1), .bool false, .int .u32 (IntKind.u32.wrap ((leN [b4, b5, b6, b7] : Nat) : Int)), .int .u32 (IntKind.u32.wrap ((leN [b4, b5, b6, b7] : Nat) : Int)), .slice none 0 0, .int .i64 (IntKind.i64.wrap (b1.toNat : Int)), .int .i64 (IntKind.i64.wrap (b2.toNat : Int)), .int .i64 ((IntKind.i64.wrap ((b0.toNat : Int) / 4)).tmod 8), .int .u16 (IntKind.u16.wrap ((leN [b1, b2] : Nat) : Int))] : Array Value) = msV ⟨k, (leN [b1, b2] : Nat), (b3.toNat : Int), decide (b0.toNat / 16 % 2 = 1), decide (b0.toNat % 2 = 1), decide (b0.toNat / 4 % 2 = 1), false, leN [b4, b5, b6, b7], leN [b4, b5, b6, b7], [], (b1.toNat : Int), (b2.toNat : Int), (b0.toNat : Int) / 4 % 8, leN [b1, b2]⟩ none 0 0 := by
  have hb0 := b0.toNat_lt
  have hb1 := b1.toNat_lt
  have hb2 := b2.toNat_lt
  have hb3 := b3.toNat_lt
  have e1 := tm_bit b0.toNat 16 hb0
  have e2 := tm_bit b0.toNat 4 hb0
  have e3 : ((b0.toNat : Int).tmod 2 == 1) = decide (b0.toNat % 2 = 1) := by
    rw [Int.tmod_eq_emod_of_nonneg (by omega), Bool.eq_iff_iff]
    simp
    omega
  have e4 : (IntKind.i64.wrap ((b0.toNat : Int) / 4)).tmod 8 = (b0.toNat : Int) / 4 % 8 := by
    rw [IntWalk.i64_in _ (by omega), Int.tmod_eq_emod_of_nonneg (by omega)]
  have x4 : IntKind.u32.wrap ((leN [b4, b5, b6, b7] : Nat) : Int) = ((leN [b4, b5, b6, b7] : Nat) : Int) := (wrap_small (by have := leN_lt [b4, b5, b6, b7]; simp only [List.length_cons, List.length_nil] at this; omega)).2.1
  have x2 : IntKind.u16.wrap ((leN [b1, b2] : Nat) : Int) = ((leN [b1, b2] : Nat) : Int) := by have := leN_lt [b1, b2]; simp only [List.length_cons, List.length_nil] at this; rw [IntKind.wrap_u16]; omega
  have x1 : IntKind.i64.wrap (b1.toNat : Int) = b1.toNat := (wrap_small (by omega)).1
  have x3 : IntKind.i64.wrap (b2.toNat : Int) = b2.toNat := (wrap_small (by omega)).1
  have x5 : IntKind.i64.wrap (b3.toNat : Int) = b3.toNat := (wrap_small (by omega)).1
  rw [show ((16 : Nat) : Int) = 16 from rfl] at e1
  rw [show ((4 : Nat) : Int) = 4 from rfl] at e2
  rw [e1, e2, e3, e4, x4, x2, x1, x3, x5]
  rfl
def RGuessC (k : Int) (b0 b1 b2 b3 b4 b5 b6 b7 : UInt8) (W : World) (p : Value) (wx : World) : Prop :=
  p = .pointer (some ⟨W.heap.size, 0, none⟩) ∧ Blk wx W.heap.size 43 (msV ⟨k, (leN [b1, b2] : Nat), (b3.toNat : Int), decide (b0.toNat / 16 % 2 = 1), decide (b0.toNat % 2 = 1), decide (b0.toNat / 4 % 2 = 1), false, leN [b4, b5, b6, b7], leN [b4, b5, b6, b7], [], (b1.toNat : Int), (b2.toNat : Int), (b0.toNat : Int) / 4 % 8, leN [b1, b2]⟩ none 0 0) ∧ Below W.heap.size W wx
theorem rg_2y (b0 b1 b2 b3 b4 b5 b6 b7 : UInt8) (h2 : b0.toNat / 2 % 2 = 1) : guessM 2 [b0, b1, b2, b3, b4, b5, b6, b7] = onlyM 2 ⟨2, (leN [b1, b2] : Nat), (b3.toNat : Int), decide (b0.toNat / 16 % 2 = 1), decide (b0.toNat % 2 = 1), decide (b0.toNat / 4 % 2 = 1), decide (b0.toNat % 2 = 1), leN [b4, b5, b6, b7], leN [b4, b5, b6, b7], ([b0, b1, b2, b3, b4, b5, b6, b7].drop 4).take (4 - b0.toNat / 4 % 4), (b1.toNat : Int), (b2.toNat : Int), (b0.toNat : Int) / 4 % 8, leN [b1, b2]⟩ := by
  have hb0 := b0.toNat_lt
  skip
  skip
  skip
  simp [guessM, preM, formI, byt, datF, datN, onlyM, placedB, dataB, h2]
theorem rg_2n (b0 b1 b2 b3 b4 b5 b6 b7 : UInt8) (h2 : ¬ b0.toNat / 2 % 2 = 1) : guessM 2 [b0, b1, b2, b3, b4, b5, b6, b7] = onlyM 2 ⟨2, (leN [b1, b2] : Nat), (b3.toNat : Int), decide (b0.toNat / 16 % 2 = 1), decide (b0.toNat % 2 = 1), decide (b0.toNat / 4 % 2 = 1), decide (b0.toNat % 2 = 1), leN [b4, b5, b6, b7], leN [b4, b5, b6, b7], [], (b1.toNat : Int), (b2.toNat : Int), (b0.toNat : Int) / 4 % 8, leN [b1, b2]⟩ := by
  have hb0 := b0.toNat_lt
  skip
  skip
  skip
  simp [guessM, preM, formI, byt, datF, datN, onlyM, placedB, dataB, h2]
theorem rg_14y (b0 b1 b2 b3 b4 b5 b6 b7 : UInt8) (h2 : b0.toNat / 2 % 2 = 1) : guessM 14 [b0, b1, b2, b3, b4, b5, b6, b7] = onlyM 2 ⟨14, (leN [b1, b2] : Nat), (b3.toNat : Int), decide (b0.toNat / 16 % 2 = 1), decide (b0.toNat % 2 = 1), decide (b0.toNat / 4 % 2 = 1), decide (b0.toNat % 2 = 1), leN [b4, b5, b6, b7], leN [b4, b5, b6, b7], ([b0, b1, b2, b3, b4, b5, b6, b7].drop 4).take (4 - b0.toNat / 4 % 4), (b1.toNat : Int), (b2.toNat : Int), (b0.toNat : Int) / 4 % 8, leN [b1, b2]⟩ := by
  have hb0 := b0.toNat_lt
  skip
  skip
  skip
  simp [guessM, preM, formI, byt, datF, datN, onlyM, placedB, dataB, h2]
theorem rg_14n (b0 b1 b2 b3 b4 b5 b6 b7 : UInt8) (h2 : ¬ b0.toNat / 2 % 2 = 1) : guessM 14 [b0, b1, b2, b3, b4, b5, b6, b7] = onlyM 2 ⟨14, (leN [b1, b2] : Nat), (b3.toNat : Int), decide (b0.toNat / 16 % 2 = 1), decide (b0.toNat % 2 = 1), decide (b0.toNat / 4 % 2 = 1), decide (b0.toNat % 2 = 1), leN [b4, b5, b6, b7], leN [b4, b5, b6, b7], [], (b1.toNat : Int), (b2.toNat : Int), (b0.toNat : Int) / 4 % 8, leN [b1, b2]⟩ := by
  have hb0 := b0.toNat_lt
  skip
  skip
  skip
  simp [guessM, preM, formI, byt, datF, datN, onlyM, placedB, dataB, h2]
theorem rg_3y (b0 b1 b2 b3 b4 b5 b6 b7 : UInt8) (h2 : 0 < 7 - b0.toNat / 2 % 8) : guessM 3 [b0, b1, b2, b3, b4, b5, b6, b7] = onlyM 3 ⟨3, (leN [b1, b2] : Nat), (b3.toNat : Int), decide (b0.toNat / 16 % 2 = 1), decide (b0.toNat % 2 = 1), decide (b0.toNat / 4 % 2 = 1), false, leN [b4, b5, b6, b7], leN [b4, b5, b6, b7], ([b0, b1, b2, b3, b4, b5, b6, b7].drop 1).take (7 - b0.toNat / 2 % 8), (b1.toNat : Int), (b2.toNat : Int), (b0.toNat : Int) / 4 % 8, leN [b1, b2]⟩ := by
  have hb0 := b0.toNat_lt
  skip
  skip
  skip
  simp [guessM, preM, formI, byt, datF, datN, onlyM, placedB, dataB]
theorem rg_3n (b0 b1 b2 b3 b4 b5 b6 b7 : UInt8) (h2 : ¬ 0 < 7 - b0.toNat / 2 % 8) : guessM 3 [b0, b1, b2, b3, b4, b5, b6, b7] = onlyM 3 ⟨3, (leN [b1, b2] : Nat), (b3.toNat : Int), decide (b0.toNat / 16 % 2 = 1), decide (b0.toNat % 2 = 1), decide (b0.toNat / 4 % 2 = 1), false, leN [b4, b5, b6, b7], leN [b4, b5, b6, b7], [], (b1.toNat : Int), (b2.toNat : Int), (b0.toNat : Int) / 4 % 8, leN [b1, b2]⟩ := by
  have hb0 := b0.toNat_lt
  skip
  skip
  have h3 : 7 - b0.toNat / 2 % 8 = 0 := by omega
  simp [guessM, preM, formI, byt, datF, datN, onlyM, placedB, dataB, h3]
theorem rg_15y (b0 b1 b2 b3 b4 b5 b6 b7 : UInt8) (h2 : 0 < 7 - b0.toNat / 2 % 8) : guessM 15 [b0, b1, b2, b3, b4, b5, b6, b7] = onlyM 3 ⟨15, (leN [b1, b2] : Nat), (b3.toNat : Int), decide (b0.toNat / 16 % 2 = 1), decide (b0.toNat % 2 = 1), decide (b0.toNat / 4 % 2 = 1), false, leN [b4, b5, b6, b7], leN [b4, b5, b6, b7], ([b0, b1, b2, b3, b4, b5, b6, b7].drop 1).take (7 - b0.toNat / 2 % 8), (b1.toNat : Int), (b2.toNat : Int), (b0.toNat : Int) / 4 % 8, leN [b1, b2]⟩ := by
  have hb0 := b0.toNat_lt
  skip
  skip
  skip
  simp [guessM, preM, formI, byt, datF, datN, onlyM, placedB, dataB]
theorem rg_15n (b0 b1 b2 b3 b4 b5 b6 b7 : UInt8) (h2 : ¬ 0 < 7 - b0.toNat / 2 % 8) : guessM 15 [b0, b1, b2, b3, b4, b5, b6, b7] = onlyM 3 ⟨15, (leN [b1, b2] : Nat), (b3.toNat : Int), decide (b0.toNat / 16 % 2 = 1), decide (b0.toNat % 2 = 1), decide (b0.toNat / 4 % 2 = 1), false, leN [b4, b5, b6, b7], leN [b4, b5, b6, b7], [], (b1.toNat : Int), (b2.toNat : Int), (b0.toNat : Int) / 4 % 8, leN [b1, b2]⟩ := by
  have hb0 := b0.toNat_lt
  skip
  skip
  have h3 : 7 - b0.toNat / 2 % 8 = 0 := by omega
  simp [guessM, preM, formI, byt, datF, datN, onlyM, placedB, dataB, h3]
theorem rg_6 (b0 b1 b2 b3 b4 b5 b6 b7 : UInt8)  : guessM 6 [b0, b1, b2, b3, b4, b5, b6, b7] = onlyM 6 ⟨6, (leN [b1, b2] : Nat), (b3.toNat : Int), decide (b0.toNat / 16 % 2 = 1), decide (b0.toNat % 2 = 1), decide (b0.toNat / 4 % 2 = 1), decide (b0.toNat / 2 % 2 = 1), leN [b4, b5, b6, b7], leN [b4, b5, b6, b7], [], (b1.toNat : Int), (b2.toNat : Int), (b0.toNat : Int) / 4 % 8, leN [b1, b2]⟩ := by
  have hb0 := b0.toNat_lt
  skip
  skip
  skip
  simp [guessM, preM, formI, byt, datF, datN, onlyM, placedB, dataB]
theorem rg_19 (b0 b1 b2 b3 b4 b5 b6 b7 : UInt8)  : guessM 19 [b0, b1, b2, b3, b4, b5, b6, b7] = onlyM 6 ⟨19, (leN [b1, b2] : Nat), (b3.toNat : Int), decide (b0.toNat / 16 % 2 = 1), decide (b0.toNat % 2 = 1), decide (b0.toNat / 4 % 2 = 1), decide (b0.toNat / 2 % 2 = 1), leN [b4, b5, b6, b7], leN [b4, b5, b6, b7], [], (b1.toNat : Int), (b2.toNat : Int), (b0.toNat : Int) / 4 % 8, leN [b1, b2]⟩ := by
  have hb0 := b0.toNat_lt
  skip
  skip
  skip
  simp [guessM, preM, formI, byt, datF, datN, onlyM, placedB, dataB]
theorem rg_8 (b0 b1 b2 b3 b4 b5 b6 b7 : UInt8)  : guessM 8 [b0, b1, b2, b3, b4, b5, b6, b7] = onlyM 8 ⟨8, (leN [b1, b2] : Nat), (b3.toNat : Int), decide (b0.toNat / 16 % 2 = 1), decide (b0.toNat % 2 = 1), decide (b0.toNat / 4 % 2 = 1), false, leN [b4, b5, b6, b7], leN [b4, b5, b6, b7], [], (b1.toNat : Int), (b4.toNat : Int), (b0.toNat : Int) / 4 % 8, leN [b1, b2]⟩ := by
  have hb0 := b0.toNat_lt
  skip
  skip
  skip
  simp [guessM, preM, formI, byt, datF, datN, onlyM, placedB, dataB]
theorem rg_16 (b0 b1 b2 b3 b4 b5 b6 b7 : UInt8)  : guessM 16 [b0, b1, b2, b3, b4, b5, b6, b7] = onlyM 8 ⟨16, (leN [b1, b2] : Nat), (b3.toNat : Int), decide (b0.toNat / 16 % 2 = 1), decide (b0.toNat % 2 = 1), decide (b0.toNat / 4 % 2 = 1), false, leN [b4, b5, b6, b7], leN [b4, b5, b6, b7], [], (b1.toNat : Int), (b4.toNat : Int), (b0.toNat : Int) / 4 % 8, leN [b1, b2]⟩ := by
  have hb0 := b0.toNat_lt
  skip
  skip
  skip
  simp [guessM, preM, formI, byt, datF, datN, onlyM, placedB, dataB]
theorem rg_21 (b0 b1 b2 b3 b4 b5 b6 b7 : UInt8)  : guessM 21 [b0, b1, b2, b3, b4, b5, b6, b7] = onlyM 11 ⟨21, (leN [b1, b2] : Nat), (b3.toNat : Int), decide (b0.toNat / 16 % 2 = 1), decide ((128 : Int) ≤ (b0.toNat : Int)), decide (b0.toNat / 4 % 2 = 1), false, leN [b4, b5, b6, b7], leN [b4, b5, b6, b7], ([b0, b1, b2, b3, b4, b5, b6, b7].drop 1).take 7, ((b0.toNat : Int) % 128), (b2.toNat : Int), (b0.toNat : Int) / 4 % 8, leN [b1, b2]⟩ := by
  have hb0 := b0.toNat_lt
  have h9 : decide ((128 : Int) ≤ (b0.toNat : Int)) = decide (128 ≤ b0.toNat) := by rw [Bool.eq_iff_iff]; simp; omega
  rw [h9]
  skip
  simp [guessM, preM, formI, byt, datF, datN, onlyM, placedB, dataB]
end Go.Proofs.Ytcncbmlacphclaa
