/- Package sum32, and its reference: On. -/
import Derived.Test.YtfddfgonhgidbaaOct
import Derived.Test.YtfddfgonhgidbaaCrc
namespace Go.Proofs.Ytfddfgonhgidbaa
set_option linter.unusedVariables false
set_option linter.unusedSimpArgs false
set_option linter.unnecessarySimpa false
open Go.RowKit
set_option maxRecDepth 20000
set_option maxHeartbeats 1000000

theorem take_bits (r b : Nat) (hb : b < 2) (hr : U32 r) :
    bits BinOp.xor IntKind.u32 (↑r / 2) (bits BinOp.and IntKind.u32 3988292384 (-bits BinOp.xor IntKind.u32 (bits BinOp.and IntKind.u32 (↑r) 1) ↑b % 4294967296)) = ((crcBit r b : Nat) : Int) := by
  have hr' : r < 4294967296 := hr
  have e1 : bits BinOp.and IntKind.u32 (↑r) 1 = ((r % 2 : Nat) : Int) := by
    rw [show (1 : Int) = ((1 : Nat) : Int) from rfl, u32_and_nat r 1 hr' (by decide), Nat.and_one_is_mod]
  have e2 : ((r : Int) / 2) = ((r / 2 : Nat) : Int) := by push_cast; rfl
  rw [e1, u32_xor_nat _ _ (by omega) (by omega), e2]
  unfold crcBit
  split
  · rename_i h
    rw [h, Nat.xor_self]
    have : bits BinOp.and IntKind.u32 3988292384 (-((0 : Nat) : Int) % 4294967296) = 0 := by decide
    rw [this, show (0 : Int) = ((0 : Nat) : Int) from rfl, u32_xor_nat _ _ (by omega) (by decide), Nat.xor_zero]
  · rename_i h
    have : r % 2 ^^^ b = 1 := by
      have h2 : r % 2 < 2 := Nat.mod_lt _ (by decide)
      generalize r % 2 = q at *
      have : (q = 0 ∨ q = 1) ∧ (b = 0 ∨ b = 1) := by omega
      rcases this with ⟨rfl | rfl, rfl | rfl⟩ <;> first | rfl | exact absurd rfl h
    rw [this]
    have : bits BinOp.and IntKind.u32 3988292384 (-((1 : Nat) : Int) % 4294967296) = ((poly : Nat) : Int) := by decide
    rw [this, u32_xor_nat _ _ (by omega) (by decide)]

theorem take_any (b r g N : Nat) (w0 w : World) (hb : b < 2) (hr : U32 r) (hB : Blk w g 24 #[.int .u32 (r : Nat)]) (hbel : Below N w0 w) (hN : N ≤ g) :
    Calls Try.prog 156 #[.int .u32 (b : Nat), .pointer (some ⟨g, 0, none⟩)] w fun e w' => e = .returned (.tuple #[]) ∧ Blk w' g 24 #[.int .u32 (crcBit r b : Nat)] ∧ Below N w0 w' := by
  have c0 := hB.cell 0 rfl
  have f0 := hB.frozen 0
  go_enter Try.func156, Try.ntmps156
  go_wp2_with fail
  go_end0
  exact ⟨rfl, by rw [take_bits r b hb hr]; exact (hB.set_ 0 _).set_ 0 _, below_set (below_set hbel hN _) hN _⟩

theorem xor_max (s : Nat) (h : U32 s) : bits BinOp.xor IntKind.u32 IntKind.u32.max (s : Int) = ((4294967295 - s : Nat) : Int) := by
  have h' : s < 4294967296 := h
  rw [show IntKind.u32.max = ((4294967295 : Nat) : Int) from rfl, u32_xor_nat _ _ (by decide) h']
  congr 1
  have e : (BitVec.ofNat 32 4294967295 ^^^ BitVec.ofNat 32 s).toNat = (~~~ BitVec.ofNat 32 s).toNat := by
    rw [show BitVec.ofNat 32 4294967295 = BitVec.allOnes 32 from rfl, BitVec.allOnes_xor]
  rw [BitVec.toNat_xor, BitVec.toNat_not, BitVec.toNat_ofNat, BitVec.toNat_ofNat, Nat.mod_eq_of_lt (by decide), Nat.mod_eq_of_lt h'] at e
  rw [e]
theorem bit_of (c j : Nat) (hc : c < 256) : bits BinOp.and IntKind.u32 ((c : Int) / 2 ^ j) 1 = ((c / 2 ^ j % 2 : Nat) : Int) := by
  have e : ((c : Int) / 2 ^ j) = ((c / 2 ^ j : Nat) : Int) := by push_cast; rfl
  have h2 : c / 2 ^ j ≤ c := Nat.div_le_self _ _
  rw [e, show (1 : Int) = ((1 : Nat) : Int) from rfl, u32_and_nat _ 1 (by omega) (by decide), Nat.and_one_is_mod]
theorem sum_on (A : Option Addr) (n c s : Nat) (l : List UInt8) (w : World) (hn : n = l.length) (hl : n ≤ 35184372088832) (hu : U32 s) (hs : Sl w A (l.map bv)) :
    Calls Try.prog 135 #[.int .u32 (s : Nat), .slice A n c] w fun e w' => e = .returned (.int .u32 (crcOn s l : Nat)) ∧ Below w.heap.size w w' := by
  have HN := hide hn
  clear hn
  go_enter Try.func135, Try.ntmps135
  go_wp2_with fail
  go_loopw [8, 9, 15] (fun _ _ i wr => ∃ k, k ≤ n ∧ i = .int .i64 (k : Nat) ∧ Blk wr w.heap.size 24 #[.int .u32 (crcL (4294967295 - s) (l.take k) : Nat)] ∧ Below w.heap.size w wr) (fun _ _ i _ => n - (intOf i).toNat)
  case atStart =>
    rw [xor_max s hu]
    exact ⟨0, by omega, rfl, blk_one _ _ _, below_alloc (Below.refl _ _) _⟩
  case round =>
    obtain ⟨k, hk, rfl, hB, hbr⟩ := hrel
    by_cases hlt : k < n
    · obtain ⟨ad, rfl, hcell⟩ := (hs.below hbr).byte (j := k) (by have := HN.out; omega)
      obtain ⟨b, hb⟩ : ∃ b, b = (l[k]'(by have := HN.out; omega)).toNat := ⟨_, rfl⟩
      have lb : b < 256 := by rw [hb]; exact UInt8.toNat_lt _
      rw [← hb] at hcell
      have HK := hide (show crcL (4294967295 - s) (l.take (k + 1)) = crcBits (crcL (4294967295 - s) (l.take k)) b 8 by rw [crcL_take_succ _ _ _ (by have := HN.out; omega), hb])
      have hrl := crcL_lt (U32.comp s) (l.take k)
      obtain ⟨r, hr⟩ : ∃ r, r = crcL (4294967295 - s) (l.take k) := ⟨_, rfl⟩
      rw [← hr] at HK hB hrl
      clear hb hr
      go_wp2_with fail
      go_loopw [9, 19] (fun _ i wr => ∃ j, j ≤ 8 ∧ i = .int .i64 (j : Nat) ∧ Blk wr w.heap.size 24 #[.int .u32 (crcBits r b j : Nat)] ∧ Below w.heap.size w wr) (fun _ i _ => 8 - (intOf i).toNat)
      case atStart => exact ⟨0, by omega, rfl, hB, hbr⟩
      case round =>
        clear hbr hB hcell
        obtain ⟨j, hj, rfl, hB, hbr⟩ := hrel
        by_cases hj8 : j < 8
        · go_wp2_with fail
          rw [bit_of b j lb]
          refine (take_any (b / 2 ^ j % 2) (crcBits r b j) w.heap.size w.heap.size w _ (by omega) (crcBits_lt hrl _ _) hB hbr (Nat.le_refl _)).mono ?_
          rintro e w1 ⟨rfl, hB1, hb1⟩
          go_wp2_with fail
          go_roundw
          case rel => exact ⟨j + 1, by omega, by go_num, hB1, hb1⟩
          case measure => simp [intOf]; omega
        · obtain rfl : j = 8 := by omega
          go_wp2_with fail
          go_roundw
          case rel => exact ⟨k + 1, by omega, by go_num, by rw [HK.out]; exact hB, hbr⟩
          case measure => simp [intOf]; omega
    · obtain rfl : k = n := by omega
      have c0 := hB.cell 0 rfl
      have HT := hide (show l.take k = l from List.take_of_length_le (by have := HN.out; omega))
      have hcu := xor_max _ (crcL_lt (U32.comp s) (l.take k))
      go_wp2_with fail
      go_ret
      exact ⟨by rw [HT.out]; rfl, hbr⟩

theorem sum_sum (A : Option Addr) (n c : Nat) (l : List UInt8) (w : World) (hn : n = l.length) (hl : n ≤ 35184372088832) (hs : Sl w A (l.map bv)) :
    Calls Try.prog 109 #[.slice A n c] w fun e w' => e = .returned (.int .u32 (crcOn 0 l : Nat)) ∧ Below w.heap.size w w' := by
  have h := sum_on A n c 0 l w hn hl (by unfold U32; omega) hs
  rw [show (((0 : Nat)) : Int) = 0 from rfl] at h
  have HH := hide h
  clear h hn
  go_enter Try.func109, Try.ntmps109
  go_wp2_with fail
  refine HH.out.mono ?_
  rintro e w1 ⟨rfl, hb1⟩
  go_wp2_with fail
  go_ret
  exact ⟨rfl, hb1⟩
end Go.Proofs.Ytfddfgonhgidbaa
