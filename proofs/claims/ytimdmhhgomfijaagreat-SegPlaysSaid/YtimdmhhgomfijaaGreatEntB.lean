/- Packages entry and its reference: Readable, Writable, Group, Before. -/
import Derived.Test.YtimdmhhgomfijaaGreatSeat
import Derived.Test.YtimdmhhgomfijaaGreatEntL
namespace Go.Proofs.YtimdmhhgomfijaaGreat
set_option linter.unusedVariables false
set_option linter.unusedSimpArgs false
set_option linter.unnecessarySimpa false
open Go.RowKit
set_option maxRecDepth 100000
set_option maxHeartbeats 2000000

theorem ent_readable (E : Ent) (A : Option Addr) (n c : Nat) (w : World) : Calls Tryz.prog 134 #[.agg (entV E A n c)] w fun e w' => e = .returned (.int .u32 (readE E.acc)) ∧ Below w.heap.size w w' := by
  obtain ⟨ix, sub, nm, ty, acc, mp, st, mx, lo, hi, df⟩ := E
  unfold entV
  go_enter Tryz.func134, Tryz.ntmps134
  go_wp2_with fail
  all_goals (go_ret; exact ⟨ret_int (by simp_all [readE]; try omega), below_alloc (Below.refl _ _) _⟩)
theorem ent_writable (E : Ent) (A : Option Addr) (n c : Nat) (w : World) : Calls Tryz.prog 131 #[.agg (entV E A n c)] w fun e w' => e = .returned (.int .u32 (writeE E.acc)) ∧ Below w.heap.size w w' := by
  obtain ⟨ix, sub, nm, ty, acc, mp, st, mx, lo, hi, df⟩ := E
  unfold entV
  go_enter Tryz.func131, Tryz.ntmps131
  go_wp2_with fail
  all_goals (go_ret; exact ⟨ret_int (by simp_all [writeE]; try omega), below_alloc (Below.refl _ _) _⟩)
theorem rent_readable (E : Ent) (A : Option Addr) (n c : Nat) (w : World) : Calls Tryz.prog 141 #[.agg (entV E A n c)] w fun e w' => e = .returned (.int .u32 (readE E.acc)) ∧ Below w.heap.size w w' := by
  obtain ⟨ix, sub, nm, ty, acc, mp, st, mx, lo, hi, df⟩ := E
  unfold entV
  go_enter Tryz.func141, Tryz.ntmps141
  go_wp2_with fail
  all_goals (go_ret; exact ⟨ret_int (by simp_all [readE]; try omega), below_alloc (Below.refl _ _) _⟩)
theorem rent_writable (E : Ent) (A : Option Addr) (n c : Nat) (w : World) : Calls Tryz.prog 121 #[.agg (entV E A n c)] w fun e w' => e = .returned (.int .u32 (writeE E.acc)) ∧ Below w.heap.size w w' := by
  obtain ⟨ix, sub, nm, ty, acc, mp, st, mx, lo, hi, df⟩ := E
  unfold entV
  go_enter Tryz.func121, Tryz.ntmps121
  go_wp2_with fail
  all_goals (go_ret; exact ⟨ret_int (by simp_all [writeE]; try omega), below_alloc (Below.refl _ _) _⟩)
theorem group_div (ix : Int) : groupE ix = if ix / 4096 = 1 then 2 else if ix / 4096 = 2 ∨ ix / 4096 = 3 ∨ ix / 4096 = 4 ∨ ix / 4096 = 5 then 4 else if ix / 4096 = 6 ∨ ix / 4096 = 7 ∨ ix / 4096 = 8 ∨ ix / 4096 = 9 then 3 else 1 := by
  unfold groupE
  (repeat' split) <;> omega
theorem tdiv_neg (ix : Int) (h : ix ≤ 0) : Int.tdiv ix 4096 = -((-ix) / 4096) := by
  have h1 := Int.neg_tdiv (a := -ix) (b := 4096)
  rw [Int.neg_neg] at h1
  rw [h1, Int.tdiv_eq_ediv_of_nonneg (a := -ix) (by omega)]
theorem group_tdiv (ix : Int) (h : I64 ix) : wrap64 (Int.tdiv ix 4096) = Int.tdiv ix 4096 ∧ groupE ix = if Int.tdiv ix 4096 = 1 then 2 else if 6 ≤ Int.tdiv ix 4096 ∧ Int.tdiv ix 4096 ≤ 9 then 3 else if 2 ≤ Int.tdiv ix 4096 ∧ Int.tdiv ix 4096 ≤ 5 then 4 else 1 := by
  unfold I64 at h
  rcases Int.le_total 0 ix with h0 | h0
  · rw [Int.tdiv_eq_ediv_of_nonneg h0]
    refine ⟨by unfold wrap64; omega, ?_⟩
    unfold groupE; (repeat' split) <;> omega
  · rw [tdiv_neg ix h0]
    refine ⟨by unfold wrap64; omega, ?_⟩
    unfold groupE; (repeat' split) <;> omega
theorem ent_before (E F : Ent) (A B : Option Addr) (n c m d : Nat) (w : World) : Calls Tryz.prog 26 #[.agg (entV E A n c), .agg (entV F B m d)] w fun e w' => e = .returned (.bool (beforeB E.ix E.sub F.ix F.sub)) ∧ Below w.heap.size w w' := by
  obtain ⟨ix, sub, nm, ty, acc, mp, st, mx, lo, hi, df⟩ := E
  obtain ⟨ix', sub', nm', ty', acc', mp', st', mx', lo', hi', df'⟩ := F
  unfold entV
  go_enter Tryz.func26, Tryz.ntmps26
  go_wp2_with fail
  all_goals (go_ret; exact ⟨ret_bool (by rw [Bool.eq_iff_iff]; simp_all [beforeB]; try omega), below_alloc (below_alloc (Below.refl _ _) _) _⟩)
theorem rent_before (E F : Ent) (A B : Option Addr) (n c m d : Nat) (w : World) : Calls Tryz.prog 30 #[.agg (entV E A n c), .agg (entV F B m d)] w fun e w' => e = .returned (.bool (beforeB E.ix E.sub F.ix F.sub)) ∧ Below w.heap.size w w' := by
  obtain ⟨ix, sub, nm, ty, acc, mp, st, mx, lo, hi, df⟩ := E
  obtain ⟨ix', sub', nm', ty', acc', mp', st', mx', lo', hi', df'⟩ := F
  unfold entV
  go_enter Tryz.func30, Tryz.ntmps30
  go_wp2_with fail
  all_goals (go_ret; exact ⟨ret_bool (by rw [Bool.eq_iff_iff]; simp_all [beforeB]; try omega), below_alloc (below_alloc (Below.refl _ _) _) _⟩)
end Go.Proofs.YtimdmhhgomfijaaGreat
