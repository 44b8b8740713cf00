/- Package entry: Name, flags, limits, Readable, Writable, Group, Before. -/
import Derived.Test.YtmnldciobeeleaaTyp2
import Derived.Test.YtmnldciobeeleaaEntL
import Derived.Laws.Closers25b
namespace Go.Proofs.Ytmnldciobeeleaa
set_option linter.unusedVariables false
set_option linter.unusedSimpArgs false
set_option linter.unnecessarySimpa false
open Go.RowKit
set_option maxRecDepth 100000
set_option maxHeartbeats 2000000

theorem ent_letter (c : Nat) (w : World) : Calls Try.prog 69 #[.int .u8 (c : Nat)] w fun e w' => e = .returned (.bool (letterB c)) ∧ w = w' := by
  go_enter Try.func69, Try.ntmps69
  go_wp2_with fail
  all_goals
    go_ret
    exact ⟨ret_bool (by rw [Bool.eq_iff_iff]; simp_all [letterB]; try omega), rfl⟩
theorem ent_inner (c : Nat) (w : World) : Calls Try.prog 70 #[.int .u8 (c : Nat)] w fun e w' => e = .returned (.bool (innerB c)) ∧ w = w' := by
  cases hl : letterB c
  all_goals
    have HL := hide hl
    clear hl
    go_enter Try.func70, Try.ntmps70
    go_wp2_with fail
    refine (ent_letter c _).mono ?_
    rintro e w1 ⟨rfl, rfl⟩
    rw [HL.out]
    go_wp2_with fail
    all_goals
      go_ret
      exact ⟨ret_bool (by have := HL.out; rw [Bool.eq_iff_iff]; simp_all [innerB]; try omega), rfl⟩
theorem nil_size (s : ByteArray) (h : s.size = 0) : s.toList = [] := by
  rw [toList_nil_iff_emptyBytes]
  obtain ⟨⟨l⟩⟩ := s
  have : l.length = 0 := h
  rw [List.eq_nil_of_length_eq_zero this]
  rfl
theorem some_size (s : ByteArray) (h : 0 < s.size) : ¬ s.toList = [] := by
  rw [toList_nil_iff_emptyBytes]
  rintro rfl
  exact absurd h (by decide)
theorem ent_name (s : ByteArray) (w : World) (hsz : s.size ≤ 9223372036854775807) : Calls Try.prog 54 #[.string s] w fun e w' => e = .returned (.bool (nameB s)) ∧ w = w' := by
  by_cases h0 : s.size = 0
  · have HR : Hid (nameB s = false) := hide (by simp [nameB, h0])
    have hnil := nil_size s h0
    clear h0
    go_enter Try.func54, Try.ntmps54
    go_wp2_with fail
    go_ret
    exact ⟨ret_bool HR.out.symm, rfl⟩
  have hp : 0 < s.size := by omega
  have hnn := some_size s hp
  have hne : s.toList.isEmpty = false := by simpa using hnn
  by_cases h16 : 16 < s.size
  · have HR : Hid (nameB s = false) := hide (by simp [nameB]; intro _ h; omega)
    clear h0
    go_enter Try.func54, Try.ntmps54
    go_wp2_with fail
    go_ret
    exact ⟨ret_bool HR.out.symm, rfl⟩
  have h16' : s.size ≤ 16 := by omega
  cases hl : letterB (s[0]).toNat
  · have HR : Hid (nameB s = false) := hide (by simp only [nameB, head_at s hp, hl]; simp)
    have HL := hide hl
    clear h0 hl h16
    go_enter Try.func54, Try.ntmps54
    go_wp2_with fail
    refine (ent_letter _ _).mono ?_
    rintro e w1 ⟨rfl, rfl⟩
    rw [HL.out]
    go_wp2_with fail
    go_ret
    exact ⟨ret_bool HR.out.symm, rfl⟩
  · have HR : Hid ((∀ k (hk : k < s.size), innerB (s[k]).toNat = true) → nameB s = true) := hide (by intro h; simp only [nameB, head_at s hp, hl, all_yes s h]; simp [h0, h16'])
    have HL := hide hl
    clear h0 hl h16
    go_enter Try.func54, Try.ntmps54
    go_wp2_with fail
    refine (ent_letter _ _).mono ?_
    rintro e w1 ⟨rfl, rfl⟩
    rw [HL.out]
    go_wp2_with fail
    go_loop [3, 19] (fun _ i => ∃ k : Nat, k ≤ s.size ∧ i = .int .i64 k ∧ Hid (∀ j (hj : j < s.size), j < k → innerB (s[j]).toNat = true)) (fun _ i => s.size - (intOf i).toNat)
    case atStart => exact ⟨0, by omega, rfl, hide (by intro j _ h; omega)⟩
    case round =>
      obtain ⟨k, hk, rfl, HA⟩ := hrel
      by_cases hlt : k < s.size
      · cases hi : innerB (s[k]).toNat
        · have HI := hide hi
          clear hi
          go_wp2_with fail
          refine (ent_inner _ _).mono ?_
          rintro e w1 ⟨rfl, rfl⟩
          rw [HI.out]
          go_wp2_with fail
          go_ret
          exact ⟨ret_bool (name_no s k hlt HI.out).symm, rfl⟩
        · have HI := hide hi
          clear hi
          go_wp2_with fail
          refine (ent_inner _ _).mono ?_
          rintro e w1 ⟨rfl, rfl⟩
          rw [HI.out]
          go_wp2_with fail
          go_round
          case rel =>
            refine ⟨k + 1, by omega, by go_num, hide ?_⟩
            intro j hj hjk
            by_cases e : j = k
            · subst e; exact HI.out
            · exact HA.out j hj (by omega)
          case measure => simp [intOf]; omega
      · go_wp2_with fail
        go_ret
        exact ⟨ret_bool (HR.out (fun j hj => HA.out j hj (by omega))).symm, rfl⟩
theorem ent_flags (E : Ent) (A : Option Addr) (n c : Nat) (w : World) : Calls Try.prog 56 #[.agg (entV E A n c)] w fun e w' => e = .returned (.bool (flagsB E.acc E.st E.mp)) ∧ Below w.heap.size w w' := by
  obtain ⟨ix, sub, nm, ty, acc, mp, st, mx, lo, hi, df⟩ := E
  unfold entV
  go_enter Try.func56, Try.ntmps56
  go_wp2_with fail
  all_goals (go_ret; exact ⟨ret_bool (by simp_all [flagsB]), below_alloc (Below.refl _ _) _⟩)
theorem ent_numbered (E : Ent) (A : Option Addr) (n c : Nat) (w : World) : Calls Try.prog 57 #[.agg (entV E A n c), .int .i64 (tyLow E.ty), .int .i64 (tyHigh E.ty)] w fun e w' => e = .returned (.bool (numberedB E.ty E.mx E.lo E.hi)) ∧ Below w.heap.size w w' := by
  obtain ⟨ix, sub, nm, ty, acc, mp, st, mx, lo, hi, df⟩ := E
  unfold entV
  go_enter Try.func57, Try.ntmps57
  go_wp2_with fail
  all_goals (go_ret; exact ⟨ret_bool (by rw [Bool.eq_iff_iff]; simp_all [numberedB]; try omega), below_alloc (Below.refl _ _) _⟩)
theorem ent_sized (E : Ent) (A : Option Addr) (n c : Nat) (w : World) : Calls Try.prog 58 #[.agg (entV E A n c)] w fun e w' => e = .returned (.bool (sizedB E.mp E.mx E.lo E.hi)) ∧ Below w.heap.size w w' := by
  obtain ⟨ix, sub, nm, ty, acc, mp, st, mx, lo, hi, df⟩ := E
  unfold entV
  go_enter Try.func58, Try.ntmps58
  go_wp2_with fail
  all_goals (go_ret; exact ⟨ret_bool (by rw [Bool.eq_iff_iff]; simp_all [sizedB]; try omega), below_alloc (Below.refl _ _) _⟩)
end Go.Proofs.Ytmnldciobeeleaa
