/- Packages octet and types: PutInt, Encode. -/
import Derived.Test.YtcncbmlacphclaaTyp4
import Derived.Test.YtcncbmlacphclaaEntL
namespace Go.Proofs.Ytcncbmlacphclaa
set_option linter.unusedVariables false
set_option linter.unusedSimpArgs false
set_option linter.unnecessarySimpa false
open Go.RowKit
set_option maxRecDepth 100000
set_option maxHeartbeats 2000000

theorem and_mod (n k m : Nat) (h : U64 n) (hm : m + 1 = 2 ^ k) (h64 : m < 18446744073709551616) : bits BinOp.and IntKind.u64 (n : Int) (m : Int) = ((n % 2 ^ k : Nat) : Int) := by
  rw [u64_and_nat n m h h64]
  have : m = 2 ^ k - 1 := by omega
  rw [this, Nat.and_two_pow_sub_one_eq_mod]
theorem mask8 (n : Nat) (w : World) (h : U64 n) : Calls Try.prog 94 #[.int .u64 (n : Nat), .int .i64 8] w fun e w' => e = .returned (.int .u64 ((n % 256 : Nat) : Int)) ∧ w = w' := by
  have H := hide (and_mod n 8 255 h (by decide) (by decide))
  clear h
  go_enter Try.func94, Try.ntmps94
  go_wp2_with fail
  go_ret
  exact ⟨ret_int H.out, rfl⟩
theorem mask16 (n : Nat) (w : World) (h : U64 n) : Calls Try.prog 94 #[.int .u64 (n : Nat), .int .i64 16] w fun e w' => e = .returned (.int .u64 ((n % 65536 : Nat) : Int)) ∧ w = w' := by
  have H := hide (and_mod n 16 65535 h (by decide) (by decide))
  clear h
  go_enter Try.func94, Try.ntmps94
  go_wp2_with fail
  go_ret
  exact ⟨ret_int H.out, rfl⟩
theorem mask32 (n : Nat) (w : World) (h : U64 n) : Calls Try.prog 94 #[.int .u64 (n : Nat), .int .i64 32] w fun e w' => e = .returned (.int .u64 ((n % 4294967296 : Nat) : Int)) ∧ w = w' := by
  have H := hide (and_mod n 32 4294967295 h (by decide) (by decide))
  clear h
  go_enter Try.func94, Try.ntmps94
  go_wp2_with fail
  go_ret
  exact ⟨ret_int H.out, rfl⟩
theorem mask64 (n : Nat) (w : World) (h : U64 n) : Calls Try.prog 94 #[.int .u64 (n : Nat), .int .i64 64] w fun e w' => e = .returned (.int .u64 (n : Nat)) ∧ w = w' := by
  have H := hide h
  clear h
  go_enter Try.func94, Try.ntmps94
  go_wp2_with fail
  go_ret
  exact ⟨rfl, rfl⟩
/-- a number's lowest bytes, as a natural number -/
def lowN (wd : Int) (n : Int) : Nat := (n % ((256 ^ wd.toNat : Nat) : Int)).toNat
/-- a number with a sign, in a width -/
def SgFits (wd : Int) (n : Int) : Prop := wd = 1 ∧ -128 ≤ n ∧ n ≤ 127 ∨ wd = 2 ∧ -32768 ≤ n ∧ n ≤ 32767 ∨ wd = 4 ∧ -2147483648 ≤ n ∧ n ≤ 2147483647 ∨ wd = 8 ∧ I64 n
theorem uwrap_nat (n : Int) : ∃ m : Nat, IntKind.u64.wrap n = (m : Int) ∧ U64 m ∧ (m : Int) = n % 18446744073709551616 := by
  refine ⟨(n % 18446744073709551616).toNat, ?_, ?_, ?_⟩
  · rw [IntKind.wrap_u64]; omega
  · unfold U64; omega
  · omega
theorem low_lt {wd : Int} (h : Wd wd) (n : Int) : lowN wd n < 256 ^ wd.toNat := by
  have hp : 0 < 256 ^ wd.toNat := Nat.pow_pos (by omega)
  unfold lowN
  have h1 := Int.emod_nonneg n (b := ((256 ^ wd.toNat : Nat) : Int)) (by omega)
  have h2 := Int.emod_lt_of_pos n (b := ((256 ^ wd.toNat : Nat) : Int)) (by omega)
  omega
theorem low_is (n : Int) : lowN 1 n = (n % 256).toNat ∧ lowN 2 n = (n % 65536).toNat ∧ lowN 4 n = (n % 4294967296).toNat ∧ lowN 8 n = (n % 18446744073709551616).toNat := ⟨rfl, rfl, rfl, rfl⟩
theorem sgn_low {wd n : Int} (h : SgFits wd n) : sgnN wd (lowN wd n) = n := by
  obtain ⟨h1, h2, h4, h8⟩ := low_is n
  rcases h with ⟨rfl, a, b⟩ | ⟨rfl, a, b⟩ | ⟨rfl, a, b⟩ | ⟨rfl, a⟩
  · rw [h1]; simp [sgnN]; split <;> omega
  · rw [h2]; simp [sgnN]; split <;> omega
  · rw [h4]; simp [sgnN]; split <;> omega
  · unfold I64 at a; rw [h8]; simp [sgnN]; split <;> omega
theorem mask_low {wd n : Int} (h : SgFits wd n) (m : Nat) (hm : (m : Int) = n % 18446744073709551616) (hu : U64 m) (W : World) :
    Calls Try.prog 94 #[.int .u64 (m : Nat), .int .i64 (8 * wd)] W fun e w' => e = .returned (.int .u64 (lowN wd n : Nat)) ∧ W = w' := by
  obtain ⟨h1, h2, h4, h8⟩ := low_is n
  rcases h with ⟨rfl, a, b⟩ | ⟨rfl, a, b⟩ | ⟨rfl, a, b⟩ | ⟨rfl, a⟩
  · have := mask8 m W hu
    rw [show m % 256 = lowN 1 n by rw [h1]; omega] at this
    exact this
  · have := mask16 m W hu
    rw [show m % 65536 = lowN 2 n by rw [h2]; omega] at this
    exact this
  · have := mask32 m W hu
    rw [show m % 4294967296 = lowN 4 n by rw [h4]; omega] at this
    exact this
  · have := mask64 m W hu
    rw [show (m : Int) = (lowN 8 n : Nat) by rw [h8]; omega] at this
    rw [show (m : Int) = (lowN 8 n : Nat) by rw [h8]; omega]
    exact this
theorem oct_putint (wd n : Int) (w : World) (h : SgFits wd n) :
    Calls Try.prog 75 #[.slice none 0 0, .int .i64 wd, .int .i64 n] w fun e w' => ∃ A' n' c', e = .returned (.tuple #[.slice A' n' c', .int .i64 0]) ∧
      OwnB w' w.heap.size A' n' c' (leB wd.toNat (lowN wd n)) ∧ Below w.heap.size w w' := by
  obtain ⟨m, hm, hu, hmn⟩ := uwrap_nat n
  have hw : Wd wd := by rcases h with ⟨h, _⟩ | ⟨h, _⟩ | ⟨h, _⟩ | ⟨h, _⟩ <;> unfold Wd <;> omega
  have h8 : 1 ≤ wd ∧ wd ≤ 8 := by rcases hw with h | h | h | h <;> omega
  obtain ⟨w1, w8⟩ := h8
  have HM := hide (fun W => mask_low h m hmn hu W)
  have HE := hide (fun W => oct_ext wd (lowN wd n) W hw (low_lt hw n))
  have hsg := sgn_low h
  rw [hsg] at HE
  have HP := hide (fun W => put_ok' none 0 0 [] wd (lowN wd n) W rfl w1 w8 (low_lt hw n) (by omega) (Sl.nil _ _))
  have HMM := hide hm
  clear h hm hu hmn hw hsg
  generalize lowN wd n = x at *
  go_enter Try.func75, Try.ntmps75
  go_wp2_with fail
  refine (there_yes _ _ w1 w8).mono ?_
  rintro e w2 ⟨rfl, rfl⟩
  go_wp2_with fail
  rw [HMM.out]
  refine (HM.out _).mono ?_
  rintro e w2 ⟨rfl, rfl⟩
  go_wp2_with fail
  refine (HE.out _).mono ?_
  rintro e w2 ⟨rfl, rfl⟩
  go_wp2_with fail
  refine (HP.out _).mono ?_
  rintro e w2 ⟨A', n', c', rfl, hO, hb⟩
  go_wp2_with fail
  go_ret2
  exact ⟨_, _, _, rfl, hO, hb⟩
end Go.Proofs.Ytcncbmlacphclaa
