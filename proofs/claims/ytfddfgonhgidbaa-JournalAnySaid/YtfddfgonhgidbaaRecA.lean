/- Packages record and its reference: Right, fits, Blank, Same. -/
import Derived.Test.YtfddfgonhgidbaaSum
namespace Go.Proofs.Ytfddfgonhgidbaa
set_option linter.unusedVariables false
set_option linter.unusedSimpArgs false
set_option linter.unnecessarySimpa false
open Go.RowKit
set_option maxRecDepth 20000
set_option maxHeartbeats 1000000

def rightR (kind : Int) (num len : Nat) : Int :=
  if num = 0 then 1 else if kind = 2 ∧ len = 0 then 0 else if kind ≠ 1 then 1 else if 960 < len then 3 else 0
def fitsR (kind : Int) (num : Nat) (n : Int) : Bool := decide (0 < num ∧ (kind = 2 ∧ n = 0 ∨ kind = 1 ∧ n ≤ 960))
theorem int_lt_of (a b : Nat) (h : ¬ a < b) : (b : Int) ≤ a := by omega

theorem rec_right (A : Option Addr) (kind : Int) (num n c : Nat) (w : World) :
    Calls Try.prog 68 #[.agg #[.int .i64 kind, .int .u32 (num : Nat), .slice A n c]] w fun e w' => e = .returned (.int .i64 (rightR kind num n)) ∧ Below w.heap.size w w' := by
  go_enter Try.func68, Try.ntmps68
  go_wp2_with fail
  all_goals
    go_ret
    exact ⟨ret_int (by simp_all [rightR]; try omega), below_alloc (Below.refl _ _) _⟩
theorem rright (A : Option Addr) (kind : Int) (num n c : Nat) (w : World) :
    Calls Try.prog 80 #[.agg #[.int .i64 kind, .int .u32 (num : Nat), .slice A n c]] w fun e w' => e = .returned (.int .i64 (rightR kind num n)) ∧ Below w.heap.size w w' := by
  go_enter Try.func80, Try.ntmps80
  go_wp2_with fail
  all_goals
    go_ret
    exact ⟨ret_int (by simp_all [rightR]; try omega), below_alloc (Below.refl _ _) _⟩
theorem rec_fits (A : Option Addr) (kind : Int) (num n c : Nat) (m : Int) (w : World) :
    Calls Try.prog 141 #[.agg #[.int .i64 kind, .int .u32 (num : Nat), .slice A n c], .int .i64 m] w fun e w' => e = .returned (.bool (fitsR kind num m)) ∧ Below w.heap.size w w' := by
  go_enter Try.func141, Try.ntmps141
  go_wp2_with fail
  all_goals
    go_ret
    exact ⟨ret_bool (by rw [Bool.eq_iff_iff]; simp_all [fitsR]; try omega), below_alloc (Below.refl _ _) _⟩

def blankB (l : List UInt8) : Bool := l.all (· == 255)
theorem blank_no (l : List UInt8) (k : Nat) (h : k < l.length) (hb : (l[k]).toNat ≠ 255) : blankB l = false := by
  simp only [blankB, List.all_eq_false]
  exact ⟨l[k], List.getElem_mem h, by intro h'; simp at h'; rw [h'] at hb; exact hb rfl⟩
theorem blank_yes (l : List UInt8) (h : ∀ k (hk : k < l.length), (l[k]).toNat = 255) : blankB l = true := by
  simp only [blankB, List.all_eq_true]
  intro x hx
  obtain ⟨k, hk, rfl⟩ := List.getElem_of_mem hx
  simp
  exact UInt8.toNat.inj (h k hk)
theorem rec_blank (A : Option Addr) (n c : Nat) (l : List UInt8) (w : World) (hn : n = l.length) (hl : n ≤ 35184372088832) (hs : Sl w A (l.map bv)) :
    Calls Try.prog 118 #[.slice A n c] w fun e w' => e = .returned (.bool (blankB l)) ∧ w = w' := by
  have HN := hide hn
  clear hn
  go_enter Try.func118, Try.ntmps118
  go_wp2_with fail
  go_loop [4, 7] (fun _ i => ∃ k : Nat, k ≤ n ∧ i = .int .i64 k ∧ Hid (∀ j (hj : j < l.length), j < k → (l[j]).toNat = 255)) (fun _ i => n - (intOf i).toNat)
  case atStart => exact ⟨0, by omega, rfl, hide (by intro j _ h; omega)⟩
  case round =>
    obtain ⟨k, hk, rfl, HA⟩ := hrel
    by_cases hlt : k < n
    · obtain ⟨ad, rfl, hcell⟩ := hs.byte (j := k) (by have := HN.out; omega)
      obtain ⟨b, hb⟩ : ∃ b, b = (l[k]'(by have := HN.out; omega)).toNat := ⟨_, rfl⟩
      rw [← hb] at hcell
      have HB := hide hb
      clear hb
      go_wp2_with fail
      · go_ret
        exact ⟨ret_bool (blank_no l k (by have := HN.out; omega) (by rw [← HB.out]; simp_all; omega)).symm, rfl⟩
      · go_round
        case rel =>
          refine ⟨k + 1, by omega, by go_num, hide ?_⟩
          intro j hj hjk
          by_cases e : j = k
          · subst e; rw [← HB.out]; simp_all; omega
          · exact HA.out j hj (by omega)
        case measure => simp [intOf]; omega
    · go_wp2_with fail
      go_ret
      exact ⟨ret_bool (blank_yes l (fun j hj => HA.out j hj (by have := HN.out; omega))).symm, rfl⟩
theorem rblank (A : Option Addr) (n c : Nat) (l : List UInt8) (w : World) (hn : n = l.length) (hl : n ≤ 35184372088832) (hs : Sl w A (l.map bv)) :
    Calls Try.prog 139 #[.slice A n c] w fun e w' => e = .returned (.bool (blankB l)) ∧ w = w' := by
  have HN := hide hn
  clear hn
  go_enter Try.func139, Try.ntmps139
  go_wp2_with fail
  go_loop [3] (fun i => ∃ k : Nat, k ≤ n ∧ i = .int .i64 k ∧ Hid (∀ j (hj : j < l.length), j < k → (l[j]).toNat = 255)) (fun i => n - (intOf i).toNat)
  case atStart => exact ⟨0, by omega, rfl, hide (by intro j _ h; omega)⟩
  case round =>
    obtain ⟨k, hk, rfl, HA⟩ := hrel
    by_cases hlt : k < n
    · obtain ⟨ad, rfl, hcell⟩ := hs.byte (j := k) (by have := HN.out; omega)
      obtain ⟨b, hb⟩ : ∃ b, b = (l[k]'(by have := HN.out; omega)).toNat := ⟨_, rfl⟩
      rw [← hb] at hcell
      have HB := hide hb
      clear hb
      go_wp2_with fail
      · go_ret
        exact ⟨ret_bool (blank_no l k (by have := HN.out; omega) (by rw [← HB.out]; simp_all; omega)).symm, rfl⟩
      · go_round
        case rel =>
          refine ⟨k + 1, by omega, by go_num, hide ?_⟩
          intro j hj hjk
          by_cases e : j = k
          · subst e; rw [← HB.out]; simp_all; omega
          · exact HA.out j hj (by omega)
        case measure => simp [intOf]; omega
    · go_wp2_with fail
      go_ret
      exact ⟨ret_bool (blank_yes l (fun j hj => HA.out j hj (by have := HN.out; omega))).symm, rfl⟩

def sameR (k1 : Int) (m1 : Nat) (l1 : List UInt8) (k2 : Int) (m2 : Nat) (l2 : List UInt8) : Bool := decide (k1 = k2 ∧ m1 = m2 ∧ l1 = l2)
theorem rsame (A1 A2 : Option Addr) (k1 k2 : Int) (m1 m2 n1 c1 n2 c2 : Nat) (l1 l2 : List UInt8) (w : World) (hn1 : n1 = l1.length) (hn2 : n2 = l2.length) (h1 : Sl w A1 (l1.map bv)) (h2 : Sl w A2 (l2.map bv)) :
    Calls Try.prog 15 #[.agg #[.int .i64 k1, .int .u32 (m1 : Nat), .slice A1 n1 c1], .agg #[.int .i64 k2, .int .u32 (m2 : Nat), .slice A2 n2 c2]] w fun e w' => e = .returned (.bool (sameR k1 m1 l1 k2 m2 l2)) ∧ Below w.heap.size w w' := by
  by_cases hk : k1 = k2
  · subst hk
    by_cases hm : m1 = m2
    · subst hm
      have t1 := str_b c1 hn1 ((h1.alloc (.cells #[.int .i64 k1, .int .u32 (m1 : Nat), .slice A1 n1 c1] 39)).alloc (.cells #[.int .i64 k1, .int .u32 (m1 : Nat), .slice A2 n2 c2] 39))
      have t2 := str_b c2 hn2 ((h2.alloc (.cells #[.int .i64 k1, .int .u32 (m1 : Nat), .slice A1 n1 c1] 39)).alloc (.cells #[.int .i64 k1, .int .u32 (m1 : Nat), .slice A2 n2 c2] 39))
      clear hn1 hn2 h1 h2
      go_enter Try.func15, Try.ntmps15
      go_wp2_with fail
      go_ret
      exact ⟨ret_bool (by rw [Bool.eq_iff_iff]; simp [sameR]), below_alloc (below_alloc (Below.refl _ _) _) _⟩
    · have hm' : ((m1 : Int) == m2) = false := by simp; omega
      go_enter Try.func15, Try.ntmps15
      go_wp2_with fail
      go_ret
      exact ⟨ret_bool (by simp [sameR, hm]), below_alloc (below_alloc (Below.refl _ _) _) _⟩
  · have hk' : (k1 == k2) = false := by simpa using hk
    go_enter Try.func15, Try.ntmps15
    go_wp2_with fail
    go_ret
    exact ⟨ret_bool (by simp [sameR, hk]), below_alloc (below_alloc (Below.refl _ _) _) _⟩
end Go.Proofs.Ytfddfgonhgidbaa
