/- Package octet: Get and Put. -/
import Derived.Test.YtimdmhhgomfijaaSeat
namespace Go.Proofs.Ytimdmhhgomfijaa
set_option linter.unusedVariables false
set_option linter.unusedSimpArgs false
set_option linter.unnecessarySimpa false
open Go.RowKit

theorem there_any (n : Int) (w : World) : Calls Try.prog 93 #[.int .i64 n] w fun e w' => e = .returned (.bool (decide (1 ≤ n) && decide (n ≤ 8))) ∧ w = w' := by
  by_cases h1 : 1 ≤ n
  · by_cases h2 : n ≤ 8
    · go_enter Try.func93, Try.ntmps93
      go_wp2
      go_ret
      exact ⟨by simp [h1, h2], rfl⟩
    · go_enter Try.func93, Try.ntmps93
      go_wp2
      go_ret
      exact ⟨by simp [h1, h2], rfl⟩
  · go_enter Try.func93, Try.ntmps93
    go_wp2
    go_ret
    exact ⟨by simp; omega, rfl⟩

set_option maxHeartbeats 400000 in
theorem get_ok (A : Option Addr) (cap : Nat) (l : List UInt8) (at_ wd : Int) (w : World)
    (hl : l.length ≤ cap) (hcap : l.length ≤ 4611686018427387904) (ha0 : 0 ≤ at_) (ha : at_ + wd ≤ l.length) (h1 : 1 ≤ wd) (h8 : wd ≤ 8) (hc : Sl w A (l.map bv)) :
    Calls Try.prog 91 #[.slice A l.length cap, .int .i64 at_, .int .i64 wd] w fun e w' =>
      e = .returned (.tuple #[.int .u64 (leN ((l.drop at_.toNat).take wd.toNat)), .int .i64 0]) ∧ w = w' := by
  have g1 : (decide (1 ≤ (wd : Int)) && decide ((wd : Int) ≤ 8)) = true := by simp; omega
  go_enter Try.func91, Try.ntmps91
  go_wp2_with (go_at_call 93; refine (there_any _ _).mono ?_; rintro e w' ⟨rfl, rfl⟩)
  go_loop [8, 9, 32] (fun n _ i => ∃ k : Nat, k ≤ wd ∧ i = .int .i64 k ∧ n = .int .u64 (leN ((l.drop at_.toNat).take k))) (fun _ _ i => wd.toNat - (intOf i).toNat)
  case atStart => exact ⟨0, by omega, rfl, rfl⟩
  case round =>
    obtain ⟨k, hk, rfl, rfl⟩ := hrel
    by_cases hlt : (k : Int) < wd
    · obtain ⟨ad, rfl, hcell⟩ := hc.byte (j := at_.toNat + k) (by omega)
      have e1 : (at_ + k).toNat = at_.toNat + k := by omega
      go_wp2_with fail
      go_round
      case rel =>
        have hd : k < (l.drop at_.toNat).length := by simp; omega
        have hlt' := leN_lt ((l.drop at_.toNat).take k)
        rw [List.length_take, Nat.min_eq_left (Nat.le_of_lt hd)] at hlt'
        refine ⟨k + 1, by omega, by go_num, ?_⟩
        rw [or_step _ _ _ hlt' (UInt8.toNat_lt _) (by omega), leN_take_succ _ _ hd]
        simp
      case measure => simp [intOf]; omega
    · go_wp2
      go_ret2
      have : k = wd.toNat := by omega
      subst this
      exact ⟨rfl, rfl⟩

theorem there_yes (n : Int) (w : World) (h1 : 1 ≤ n) (h2 : n ≤ 8) : Calls Try.prog 93 #[.int .i64 n] w fun e w' => e = .returned (.bool true) ∧ w = w' :=
  (there_any n w).mono fun _ _ ⟨he, hw⟩ => ⟨by rw [he]; simp [h1, h2], hw⟩
theorem there_no (n : Int) (w : World) (h : n < 1 ∨ 8 < n) : Calls Try.prog 93 #[.int .i64 n] w fun e w' => e = .returned (.bool false) ∧ w = w' :=
  (there_any n w).mono fun _ _ ⟨he, hw⟩ => ⟨by rw [he]; simp; omega, hw⟩

theorem two_pow (wd : Int) : (2 : Int) ^ (8 * wd).toNat = ((256 ^ wd.toNat : Nat) : Int) := by
  have : (8 * wd).toNat = 8 * wd.toNat := by omega
  rw [this, ← pow256_two]
  push_cast
  rfl

/-- the byte that Put lays at place k: the walk's spelling -/
theorem put_byte (x k : Nat) : Value.int IntKind.u8 ((x : Int) / 2 ^ (8 * k) % 256) = bv (UInt8.ofNat (x / 256 ^ k)) := by
  have : ((x : Int) / 2 ^ (8 * k)) = ((x / 256 ^ k : Nat) : Int) := by
    rw [← pow256_two]; push_cast; rfl
  rw [this]
  simp only [bv, UInt8.toNat_ofNat']
  congr 1

theorem get_ok' (A : Option Addr) (n cap : Nat) (l : List UInt8) (at_ wd : Int) (w : World) (hn : n = l.length)
    (hl : n ≤ cap) (hcap : n ≤ 4611686018427387904) (ha0 : 0 ≤ at_) (ha : at_ + wd ≤ n) (h1 : 1 ≤ wd) (h8 : wd ≤ 8) (hc : Sl w A (l.map bv)) :
    Calls Try.prog 91 #[.slice A n cap, .int .i64 at_, .int .i64 wd] w fun e w' =>
      e = .returned (.tuple #[.int .u64 (leN ((l.drop at_.toNat).take wd.toNat)), .int .i64 0]) ∧ w = w' := by
  subst hn
  exact get_ok A cap l at_ wd w hl hcap ha0 ha h1 h8 hc
end Go.Proofs.Ytimdmhhgomfijaa
