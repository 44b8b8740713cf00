/- Package octet and its reference: numbers with a sign, as the types want them. -/
import Derived.Test.YtabgdfbiocoimaaRef01
import Derived.Test.YtabgdfbiocoimaaEntL
namespace Go.Proofs.Ytabgdfbiocoimaa
set_option linter.unusedVariables false
set_option linter.unusedSimpArgs false
set_option linter.unnecessarySimpa false
open Go.RowKit
set_option maxRecDepth 100000
set_option maxHeartbeats 1000000

theorem extend_8' (n : Nat) (h : n < 18446744073709551616) : wrap64 (n : Int) = sgnN 8 n := by
  unfold wrap64; simp [sgnN]; split <;> omega
theorem extend_8 (n : Nat) (h : n < 18446744073709551616) : wrap64 (IntKind.u64.wrap (n : Int)) = sgnN 8 n := by
  unfold wrap64; rw [IntKind.wrap_u64]; simp [sgnN]; split <;> omega
theorem oct_ext1 (n : Nat) (w : World) (h : n < 256) : Calls Try.prog 123 #[.int .u64 n, .int .i64 8] w fun e w' => e = .returned (.int .i64 (sgnN 1 n)) ∧ w = w' := by
  have H := hide h
  clear h
  go_enter Try.func123, Try.ntmps123
  go_wp2_with fail
  go_ret
  exact ⟨ret_int (by exact extend_1 n H.out), rfl⟩
theorem oct_ext2 (n : Nat) (w : World) (h : n < 65536) : Calls Try.prog 123 #[.int .u64 n, .int .i64 16] w fun e w' => e = .returned (.int .i64 (sgnN 2 n)) ∧ w = w' := by
  have H := hide h
  clear h
  go_enter Try.func123, Try.ntmps123
  go_wp2_with fail
  go_ret
  exact ⟨ret_int (by exact extend_2 n H.out), rfl⟩
theorem oct_ext4 (n : Nat) (w : World) (h : n < 4294967296) : Calls Try.prog 123 #[.int .u64 n, .int .i64 32] w fun e w' => e = .returned (.int .i64 (sgnN 4 n)) ∧ w = w' := by
  have H := hide h
  clear h
  go_enter Try.func123, Try.ntmps123
  go_wp2_with fail
  go_ret
  exact ⟨ret_int (by exact extend_4 n H.out), rfl⟩
theorem oct_ext8 (n : Nat) (w : World) (h : U64 n) : Calls Try.prog 123 #[.int .u64 n, .int .i64 64] w fun e w' => e = .returned (.int .i64 (sgnN 8 n)) ∧ w = w' := by
  have H := hide h
  clear h
  go_enter Try.func123, Try.ntmps123
  go_wp2_with fail
  go_ret
  refine ⟨ret_int (extend_8 n H.out), rfl⟩
theorem oct_ext (wd : Int) (n : Nat) (w : World) (hw : Wd wd) (h : n < 256 ^ wd.toNat) : Calls Try.prog 123 #[.int .u64 n, .int .i64 (8 * wd)] w fun e w' => e = .returned (.int .i64 (sgnN wd n)) ∧ w = w' := by
  rcases hw with rfl | rfl | rfl | rfl
  · exact oct_ext1 n w (by simpa using h)
  · exact oct_ext2 n w (by simpa using h)
  · exact oct_ext4 n w (by simpa using h)
  · exact oct_ext8 n w (by simpa [U64] using h)
/-- the number with a sign that just these bytes say -/
theorem oct_getint (A : Option Addr) (n c : Nat) (l : List UInt8) (wd : Int) (w : World) (hw : Wd wd) (hn : n = l.length) (hwn : wd = (n : Int)) (hc : n ≤ c) (hs : Sl w A (l.map bv)) :
    Calls Try.prog 115 #[.slice A n c, .int .i64 0, .int .i64 wd] w fun e w' => e = .returned (.tuple #[.int .i64 (sgnN wd (leN l)), .int .i64 0]) ∧ w = w' := by
  have h8 : 1 ≤ wd ∧ wd ≤ 8 := by rcases hw with rfl | rfl | rfl | rfl <;> omega
  obtain ⟨h1, h8⟩ := h8
  have HW := hide hw
  have hlt := leN_lt l
  rw [← hn, show n = wd.toNat by omega] at hlt
  have HG := hide (get_ok' A n c l 0 wd w hn hc (by omega) (by omega) (by omega) h1 h8 hs)
  have HE := hide (show (l.drop (Int.toNat 0)).take wd.toNat = l by rw [List.take_of_length_le (by simp; omega)]; rfl)
  have HL := hide hlt
  clear hw hlt hn hwn hs
  go_enter Try.func115, Try.ntmps115
  go_wp2_with fail
  refine HG.out.mono ?_
  rintro e w1 ⟨rfl, rfl⟩
  rw [HE.out]
  go_wp2_with fail
  refine (oct_ext wd (leN l) _ HW.out HL.out).mono ?_
  rintro e w1 ⟨rfl, rfl⟩
  go_wp2_with fail
  go_ret2
  exact ⟨rfl, rfl⟩
/-! the reference -/
def hfN (wd : Int) : Int := if wd = 1 then 128 else if wd = 2 then 32768 else 2147483648
theorem two_ok (k : Nat) (h : k ≤ 61) : (2 : Int) ^ k ≤ 2305843009213693952 := by
  have h1 : (2 : Nat) ^ k ≤ 2305843009213693952 := Nat.le_trans (Nat.pow_le_pow_right (by omega) h) (by decide)
  have h2 : (2 : Int) ^ k = ((2 ^ k : Nat) : Int) := by push_cast; rfl
  rw [h2]
  omega
theorem rhalf (wd : Int) (w : World) (h1 : 1 ≤ wd) (h4 : wd ≤ 4) : Calls Try.prog 124 #[.int .i64 wd] w fun e w' => e = .returned (.int .i64 (2 ^ (8 * wd - 1).toNat)) ∧ w = w' := by
  go_enter Try.func124, Try.ntmps124
  go_wp2_with fail
  go_loop [3, 4] (fun n i => ∃ k : Nat, k ≤ 8 * wd - 1 ∧ i = .int .i64 k ∧ n = .int .i64 (2 ^ k)) (fun _ i => (8 * wd - 1).toNat - (intOf i).toNat)
  case atStart => exact ⟨0, by omega, rfl, rfl⟩
  case round =>
    obtain ⟨k, hk, rfl, rfl⟩ := hrel
    have hp := two_ok k (by omega)
    have hq : (0 : Int) < 2 ^ k := Int.pow_pos (by omega)
    have HP : Hid ((2 : Int) * 2 ^ k = 2 ^ (k + 1)) := hide (by rw [Int.pow_succ, Int.mul_comm])
    have HK : Hid ((2 : Int) ^ k = 2 ^ k) := hide rfl
    obtain ⟨p, hp'⟩ : ∃ p, p = (2 : Int) ^ k := ⟨_, rfl⟩
    rw [← hp'] at hp hq HP ⊢
    replace HK := hide hp'
    clear hp'
    by_cases hlt : (k : Int) < 8 * wd - 1
    · go_wp2_with fail
      go_round
      case rel => exact ⟨k + 1, by omega, by go_num, by rw [HP.out]⟩
      case measure => simp [intOf]; omega
    · go_wp2_with fail
      go_ret
      have : k = (8 * wd - 1).toNat := by omega
      subst this
      refine ⟨ret_int ?_, rfl⟩
      rw [HK.out]
      congr 1
      omega
theorem half_is (wd : Int) (h : wd = 1 ∨ wd = 2 ∨ wd = 4) : (2 : Int) ^ (8 * wd - 1).toNat = hfN wd ∧ 1 ≤ hfN wd ∧ hfN wd ≤ 2147483648 := by
  rcases h with rfl | rfl | rfl <;> exact ⟨rfl, by decide, by decide⟩
theorem sgn_small {wd : Int} (h : wd = 1 ∨ wd = 2 ∨ wd = 4) (n : Nat) : sgnN wd n = if (n : Int) < hfN wd then (n : Int) else (n : Int) - hfN wd - hfN wd := by
  rcases h with rfl | rfl | rfl <;> simp [sgnN, hfN] <;> (repeat' split) <;> omega
theorem rgetint (A : Option Addr) (n c : Nat) (l : List UInt8) (wd : Int) (w : World) (hw : Wd wd) (hn : n = l.length) (hwn : wd = (n : Int)) (hc : n ≤ c) (hs : Sl w A (l.map bv)) :
    Calls Try.prog 121 #[.slice A n c, .int .i64 0, .int .i64 wd] w fun e w' => e = .returned (.tuple #[.int .i64 (sgnN wd (leN l)), .int .i64 0]) ∧ w = w' := by
  have h8 : 1 ≤ wd ∧ wd ≤ 8 := by rcases hw with rfl | rfl | rfl | rfl <;> omega
  obtain ⟨h1, h8⟩ := h8
  have hlt := leN_lt l
  rw [← hn, show n = wd.toNat by omega] at hlt
  have HG := hide (rget_ok A n c l 0 wd w hn hc (by omega) (by omega) (by omega) h1 h8 hs)
  have HE := hide (show (l.drop (Int.toNat 0)).take wd.toNat = l by rw [List.take_of_length_le (by simp; omega)]; rfl)
  have HL := hide hlt
  rcases hw with hw | hw | hw | hw
  case inr.inr.inr =>
    subst hw
    have HU := hide (extend_8' (leN l) (by have := HL.out; simpa using this))
    clear hlt hn hwn hs
    go_enter Try.func121, Try.ntmps121
    go_wp2_with fail
    refine HG.out.mono ?_
    rintro e w1 ⟨rfl, rfl⟩
    rw [HE.out]
    go_wp2_with fail
    go_ret2
    exact ⟨by rw [← HU.out]; rfl, rfl⟩
  all_goals
    have h124 : wd = 1 ∨ wd = 2 ∨ wd = 4 := by omega
    have h4 : wd ≤ 4 := by omega
    have hne : (wd == 8) = false := by simp; omega
    obtain ⟨hf0, hf1, hf2⟩ := half_is wd h124
    have HH := hide (fun W => rhalf wd W h1 h4)
    rw [hf0] at HH
    have HS := hide (sgn_small h124 (leN l))
    have hx : leN l < 4294967296 := by
      have := HL.out
      have h3 : 256 ^ wd.toNat ≤ 256 ^ 4 := Nat.pow_le_pow_right (by omega) (by omega)
      have h4 : (256 : Nat) ^ 4 = 4294967296 := by decide
      omega
    clear hlt hn hwn hs hf0 h124 hw
    generalize hfN wd = hv at *
    have HX : Hid (leN l = leN l) := hide rfl
    obtain ⟨x, hxx⟩ : ∃ x, leN l = x := ⟨_, rfl⟩
    rw [hxx] at HL HS hx ⊢
    replace HX := hide hxx
    clear hxx
    have hwr : IntKind.u64.wrap hv = hv := by rw [IntKind.wrap_u64]; omega
    go_enter Try.func121, Try.ntmps121
    go_wp2_with fail
    refine HG.out.mono ?_
    rintro e w1 ⟨rfl, rfl⟩
    rw [HE.out, HX.out]
    go_wp2_with fail
    refine (HH.out _).mono ?_
    rintro e w1 ⟨rfl, rfl⟩
    by_cases hcmp : (x : Int) < hv
    · go_wp2_with fail
      go_ret2
      exact ⟨by rw [HS.out, if_pos hcmp]; rfl, rfl⟩
    · go_wp2_with fail
      refine (HH.out _).mono ?_
      rintro e w1 ⟨rfl, rfl⟩
      go_wp2_with fail
      refine (HH.out _).mono ?_
      rintro e w1 ⟨rfl, rfl⟩
      go_wp2_with fail
      go_ret2
      exact ⟨by rw [HS.out, if_neg (by omega)]; rfl, rfl⟩
end Go.Proofs.Ytabgdfbiocoimaa
