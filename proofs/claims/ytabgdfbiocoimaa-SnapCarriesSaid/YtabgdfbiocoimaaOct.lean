/- Package octet: Get and Put. -/
import Derived.Test.YtabgdfbiocoimaaSeat
namespace Go.Proofs.Ytabgdfbiocoimaa
set_option linter.unusedVariables false
set_option linter.unusedSimpArgs false
set_option linter.unnecessarySimpa false
open Go.RowKit

theorem there_any (n : Int) (w : World) : Calls Try.prog 119 #[.int .i64 n] w fun e w' => e = .returned (.bool (decide (1 ≤ n) && decide (n ≤ 8))) ∧ w = w' := by
  by_cases h1 : 1 ≤ n
  · by_cases h2 : n ≤ 8
    · go_enter Try.func119, Try.ntmps119
      go_wp2
      go_ret
      exact ⟨by simp [h1, h2], rfl⟩
    · go_enter Try.func119, Try.ntmps119
      go_wp2
      go_ret
      exact ⟨by simp [h1, h2], rfl⟩
  · go_enter Try.func119, Try.ntmps119
    go_wp2
    go_ret
    exact ⟨by simp; omega, rfl⟩

set_option maxHeartbeats 400000 in
theorem get_ok (A : Option Addr) (cap : Nat) (l : List UInt8) (at_ wd : Int) (w : World)
    (hl : l.length ≤ cap) (hcap : l.length ≤ 4611686018427387904) (ha0 : 0 ≤ at_) (ha : at_ + wd ≤ l.length) (h1 : 1 ≤ wd) (h8 : wd ≤ 8) (hc : Sl w A (l.map bv)) :
    Calls Try.prog 116 #[.slice A l.length cap, .int .i64 at_, .int .i64 wd] w fun e w' =>
      e = .returned (.tuple #[.int .u64 (leN ((l.drop at_.toNat).take wd.toNat)), .int .i64 0]) ∧ w = w' := by
  have g1 : (decide (1 ≤ (wd : Int)) && decide ((wd : Int) ≤ 8)) = true := by simp; omega
  go_enter Try.func116, Try.ntmps116
  go_wp2_with (go_at_call 119; refine (there_any _ _).mono ?_; rintro e w' ⟨rfl, rfl⟩)
  go_loop [8, 9, 32] (fun n _ i => ∃ k : Nat, k ≤ wd ∧ i = .int .i64 k ∧ n = .int .u64 (leN ((l.drop at_.toNat).take k))) (fun _ _ i => wd.toNat - (intOf i).toNat)
  case atStart => exact ⟨0, by omega, rfl, rfl⟩
  case round =>
    obtain ⟨k, hk, rfl, rfl⟩ := hrel
    by_cases hlt : (k : Int) < wd
    · obtain ⟨ad, rfl, hcell⟩ := hc.byte (j := at_.toNat + k) (by omega)
      have e1 : (at_ + k).toNat = at_.toNat + k := by omega
      go_wp2_with fail
      go_round
      case rel =>
        have hd : k < (l.drop at_.toNat).length := by simp; omega
        have hlt' := leN_lt ((l.drop at_.toNat).take k)
        rw [List.length_take, Nat.min_eq_left (Nat.le_of_lt hd)] at hlt'
        refine ⟨k + 1, by omega, by go_num, ?_⟩
        rw [or_step _ _ _ hlt' (UInt8.toNat_lt _) (by omega), leN_take_succ _ _ hd]
        simp
      case measure => simp [intOf]; omega
    · go_wp2
      go_ret2
      have : k = wd.toNat := by omega
      subst this
      exact ⟨rfl, rfl⟩

theorem there_yes (n : Int) (w : World) (h1 : 1 ≤ n) (h2 : n ≤ 8) : Calls Try.prog 119 #[.int .i64 n] w fun e w' => e = .returned (.bool true) ∧ w = w' :=
  (there_any n w).mono fun _ _ ⟨he, hw⟩ => ⟨by rw [he]; simp [h1, h2], hw⟩
theorem there_no (n : Int) (w : World) (h : n < 1 ∨ 8 < n) : Calls Try.prog 119 #[.int .i64 n] w fun e w' => e = .returned (.bool false) ∧ w = w' :=
  (there_any n w).mono fun _ _ ⟨he, hw⟩ => ⟨by rw [he]; simp; omega, hw⟩

theorem put_arg (A : Option Addr) (n c : Nat) (wd : Int) (x : Int) (w : World) (h : wd < 1 ∨ 8 < wd) :
    Calls Try.prog 105 #[.slice A n c, .int .i64 wd, .int .u64 x] w fun e w' => e = .returned (.tuple #[.slice none 0 0, .int .i64 1]) ∧ w = w' := by
  go_enter Try.func105, Try.ntmps105
  go_wp2_with (go_at_call 119; refine (there_no _ _ h).mono ?_; rintro e w' ⟨rfl, rfl⟩)
  go_ret2
  exact ⟨rfl, rfl⟩

theorem two_pow (wd : Int) : (2 : Int) ^ (8 * wd).toNat = ((256 ^ wd.toNat : Nat) : Int) := by
  have : (8 * wd).toNat = 8 * wd.toNat := by omega
  rw [this, ← pow256_two]
  push_cast
  rfl

set_option maxRecDepth 20000 in
theorem put_range (A : Option Addr) (n c : Nat) (wd : Int) (x : Nat) (w : World) (h1 : 1 ≤ wd) (h8 : wd < 8) (h : 256 ^ wd.toNat ≤ x) :
    Calls Try.prog 105 #[.slice A n c, .int .i64 wd, .int .u64 x] w fun e w' => e = .returned (.tuple #[.slice none 0 0, .int .i64 9]) ∧ w = w' := by
  have ht : ((x : Int) / 2 ^ (8 * wd).toNat != 0) = true := by
    rw [two_pow]
    have : x / 256 ^ wd.toNat ≠ 0 := by
      rw [Ne, Nat.div_eq_zero_iff]
      have := Nat.pow_pos (n := wd.toNat) (show 0 < 256 by omega)
      omega
    simp only [bne_iff_ne, ne_eq]
    exact_mod_cast this
  clear h
  go_enter Try.func105, Try.ntmps105
  go_wp2_with (go_at_call 119; refine (there_yes _ _ h1 (by omega)).mono ?_; rintro e w' ⟨rfl, rfl⟩)
  go_ret2
  exact ⟨rfl, rfl⟩

/-- the byte that Put lays at place k: the walk's spelling -/
theorem put_byte (x k : Nat) : Value.int IntKind.u8 ((x : Int) / 2 ^ (8 * k) % 256) = bv (UInt8.ofNat (x / 256 ^ k)) := by
  have : ((x : Int) / 2 ^ (8 * k)) = ((x / 256 ^ k : Nat) : Int) := by
    rw [← pow256_two]; push_cast; rfl
  rw [this]
  simp only [bv, UInt8.toNat_ofNat']
  congr 1

set_option maxRecDepth 20000 in
set_option maxHeartbeats 400000 in
theorem put_ok (A : Option Addr) (c : Nat) (l : List UInt8) (wd : Int) (x : Nat) (w : World) (h1 : 1 ≤ wd) (h8 : wd ≤ 8) (hx : x < 256 ^ wd.toNat) (hl : l.length ≤ 35184372088832)
    (hs : Sl w A (l.map bv)) :
    Calls Try.prog 105 #[.slice A l.length c, .int .i64 wd, .int .u64 x] w fun e w' => ∃ A' n' c', e = .returned (.tuple #[.slice A' n' c', .int .i64 0]) ∧
      OwnB w' w.heap.size A' n' c' (l ++ leB wd.toNat x) ∧ Below w.heap.size w w' := by
  have ht : wd < 8 → ((x : Int) / 2 ^ (8 * wd).toNat != 0) = false := by
    intro _
    rw [two_pow]
    have : x / 256 ^ wd.toNat = 0 := Nat.div_eq_of_lt hx
    simp only [bne_eq_false_iff_eq]
    exact_mod_cast this
  clear hx
  go_enter Try.func105, Try.ntmps105
  go_wp2_with (first
    | (go_at_call 119; refine (there_yes _ _ h1 (by omega)).mono ?_; rintro e w' ⟨rfl, rfl⟩)
    | (at_make; refine mk_b _ rfl _ _ rfl _ _ _ _ l.length (l.length + wd.toNat) rfl rfl rfl (by omega) (by omega) (by omega) w.heap.size rfl ?_; intro w1 hown1 _ hb1)
    | (with_reducible refine cpy_b _ rfl (.tmp 32) (.tmp 33) rfl w.heap.size _ _ _ rfl hown1 _ _ _ l rfl rfl (hs.below hb1) hb1.size (l ++ leB 0 x) (by simp [leB]) ?_; intro w2 hO2 _ hb2))
  all_goals
    have hb := hb1.trans hb2
    clear hown1 hb1 hb2 ht
    go_loopw [8, 9, 36] (fun v _ i wr => ∃ k n A c, k ≤ wd.toNat ∧ i = .int .i64 (k : Nat) ∧ v = .slice A n c ∧ OwnB wr w.heap.size A n c (l ++ leB k x) ∧ Below w.heap.size w wr) (fun _ _ i _ => wd.toNat - (intOf i).toNat)
    case atStart => exact ⟨0, _, _, _, by omega, rfl, rfl, hO2, hb⟩
    case round =>
      obtain ⟨k, n, A, c, hk, rfl, rfl, hO, hbr⟩ := hrel
      clear hO2 hb
      have hn' : n ≤ 35184372088840 := by rw [hO.hn]; simp [leB_length]; omega
      by_cases hlt : (k : Int) < wd
      · go_wp2_with (first
          | (at_builtin; refine app_b _ rfl (.tmp 39) (.tmp 46) rfl w.heap.size _ _ _ _ rfl (hO.alloc _) _ _ _ [UInt8.ofNat (x / 256 ^ k)] rfl rfl (by rw [put_byte]; exact Sl.one _ _ _) (by omega) (by have := hbr.size; simp; omega) (n + 1) rfl ?_; intro A3 c3 w3 hown3 _ _ hb3))
        go_roundw
        case rel => exact ⟨k + 1, _, _, _, by omega, by go_num, rfl, by rw [leB_snoc, ← List.append_assoc]; exact hown3, (hbr.alloc hbr.size _).trans hb3⟩
        case measure => simp [intOf]; omega
      · go_wp2
        go_ret2
        have hk2 : k = wd.toNat := by omega
        subst hk2
        exact ⟨_, _, _, rfl, hO, hbr⟩
theorem put_ok' (A : Option Addr) (n c : Nat) (l : List UInt8) (wd : Int) (x : Nat) (w : World) (hn : n = l.length) (h1 : 1 ≤ wd) (h8 : wd ≤ 8) (hx : x < 256 ^ wd.toNat) (hl : n ≤ 35184372088832)
    (hs : Sl w A (l.map bv)) :
    Calls Try.prog 105 #[.slice A n c, .int .i64 wd, .int .u64 x] w fun e w' => ∃ A' n' c', e = .returned (.tuple #[.slice A' n' c', .int .i64 0]) ∧
      OwnB w' w.heap.size A' n' c' (l ++ leB wd.toNat x) ∧ Below w.heap.size w w' := by
  subst hn
  exact put_ok A c l wd x w h1 h8 hx hl hs
theorem get_ok' (A : Option Addr) (n cap : Nat) (l : List UInt8) (at_ wd : Int) (w : World) (hn : n = l.length)
    (hl : n ≤ cap) (hcap : n ≤ 4611686018427387904) (ha0 : 0 ≤ at_) (ha : at_ + wd ≤ n) (h1 : 1 ≤ wd) (h8 : wd ≤ 8) (hc : Sl w A (l.map bv)) :
    Calls Try.prog 116 #[.slice A n cap, .int .i64 at_, .int .i64 wd] w fun e w' =>
      e = .returned (.tuple #[.int .u64 (leN ((l.drop at_.toNat).take wd.toNat)), .int .i64 0]) ∧ w = w' := by
  subst hn
  exact get_ok A cap l at_ wd w hl hcap ha0 ha h1 h8 hc
end Go.Proofs.Ytabgdfbiocoimaa
