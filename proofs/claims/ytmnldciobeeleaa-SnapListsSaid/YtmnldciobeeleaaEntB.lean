/- Packages entry and its reference: Readable, Writable, Group, Before. -/
import Derived.Test.YtmnldciobeeleaaSeat
import Derived.Test.YtmnldciobeeleaaEntL
namespace Go.Proofs.Ytmnldciobeeleaa
set_option linter.unusedVariables false
set_option linter.unusedSimpArgs false
set_option linter.unnecessarySimpa false
open Go.RowKit
set_option maxRecDepth 100000
set_option maxHeartbeats 2000000

theorem ent_writable (E : Ent) (A : Option Addr) (n c : Nat) (w : World) : Calls Try.prog 77 #[.agg (entV E A n c)] w fun e w' => e = .returned (.int .u32 (writeE E.acc)) ∧ Below w.heap.size w w' := by
  obtain ⟨ix, sub, nm, ty, acc, mp, st, mx, lo, hi, df⟩ := E
  unfold entV
  go_enter Try.func77, Try.ntmps77
  go_wp2_with fail
  all_goals (go_ret; exact ⟨ret_int (by simp_all [writeE]; try omega), below_alloc (Below.refl _ _) _⟩)
theorem group_div (ix : Int) : groupE ix = if ix / 4096 = 1 then 2 else if ix / 4096 = 2 ∨ ix / 4096 = 3 ∨ ix / 4096 = 4 ∨ ix / 4096 = 5 then 4 else if ix / 4096 = 6 ∨ ix / 4096 = 7 ∨ ix / 4096 = 8 ∨ ix / 4096 = 9 then 3 else 1 := by
  unfold groupE
  (repeat' split) <;> omega
theorem ent_group (E : Ent) (A : Option Addr) (n c : Nat) (w : World) : Calls Try.prog 49 #[.agg (entV E A n c)] w fun e w' => e = .returned (.int .i64 (groupE E.ix)) ∧ Below w.heap.size w w' := by
  obtain ⟨ix, sub, nm, ty, acc, mp, st, mx, lo, hi, df⟩ := E
  unfold entV
  have HG := hide (group_div ix)
  go_enter Try.func49, Try.ntmps49
  go_wp2_with fail
  all_goals (go_ret; refine ⟨ret_int ?_, below_alloc (Below.refl _ _) _⟩; show _ = groupE ix; rw [HG.out]; clear HG; (repeat' split) <;> first | rfl | omega | (simp_all; done))
theorem tdiv_neg (ix : Int) (h : ix ≤ 0) : Int.tdiv ix 4096 = -((-ix) / 4096) := by
  have h1 := Int.neg_tdiv (a := -ix) (b := 4096)
  rw [Int.neg_neg] at h1
  rw [h1, Int.tdiv_eq_ediv_of_nonneg (a := -ix) (by omega)]
theorem group_tdiv (ix : Int) (h : I64 ix) : wrap64 (Int.tdiv ix 4096) = Int.tdiv ix 4096 ∧ groupE ix = if Int.tdiv ix 4096 = 1 then 2 else if 6 ≤ Int.tdiv ix 4096 ∧ Int.tdiv ix 4096 ≤ 9 then 3 else if 2 ≤ Int.tdiv ix 4096 ∧ Int.tdiv ix 4096 ≤ 5 then 4 else 1 := by
  unfold I64 at h
  rcases Int.le_total 0 ix with h0 | h0
  · rw [Int.tdiv_eq_ediv_of_nonneg h0]
    refine ⟨by unfold wrap64; omega, ?_⟩
    unfold groupE; (repeat' split) <;> omega
  · rw [tdiv_neg ix h0]
    refine ⟨by unfold wrap64; omega, ?_⟩
    unfold groupE; (repeat' split) <;> omega
theorem rent_group (E : Ent) (A : Option Addr) (n c : Nat) (w : World) (hi64 : I64 E.ix) : Calls Try.prog 50 #[.agg (entV E A n c)] w fun e w' => e = .returned (.int .i64 (groupE E.ix)) ∧ Below w.heap.size w w' := by
  obtain ⟨ix, sub, nm, ty, acc, mp, st, mx, lo, hi, df⟩ := E
  unfold entV
  have HG := hide (group_tdiv ix hi64).2
  have hw := (group_tdiv ix hi64).1
  clear hi64
  go_enter Try.func50, Try.ntmps50
  go_wp2_with fail
  all_goals (go_ret; refine ⟨ret_int ?_, below_alloc (Below.refl _ _) _⟩; show _ = groupE ix; rw [HG.out]; clear HG hw; simp_all; try omega)
theorem ent_before (E F : Ent) (A B : Option Addr) (n c m d : Nat) (w : World) : Calls Try.prog 38 #[.agg (entV E A n c), .agg (entV F B m d)] w fun e w' => e = .returned (.bool (beforeB E.ix E.sub F.ix F.sub)) ∧ Below w.heap.size w w' := by
  obtain ⟨ix, sub, nm, ty, acc, mp, st, mx, lo, hi, df⟩ := E
  obtain ⟨ix', sub', nm', ty', acc', mp', st', mx', lo', hi', df'⟩ := F
  unfold entV
  go_enter Try.func38, Try.ntmps38
  go_wp2_with fail
  all_goals (go_ret; exact ⟨ret_bool (by rw [Bool.eq_iff_iff]; simp_all [beforeB]; try omega), below_alloc (below_alloc (Below.refl _ _) _) _⟩)
theorem rent_before (E F : Ent) (A B : Option Addr) (n c m d : Nat) (w : World) : Calls Try.prog 42 #[.agg (entV E A n c), .agg (entV F B m d)] w fun e w' => e = .returned (.bool (beforeB E.ix E.sub F.ix F.sub)) ∧ Below w.heap.size w w' := by
  obtain ⟨ix, sub, nm, ty, acc, mp, st, mx, lo, hi, df⟩ := E
  obtain ⟨ix', sub', nm', ty', acc', mp', st', mx', lo', hi', df'⟩ := F
  unfold entV
  go_enter Try.func42, Try.ntmps42
  go_wp2_with fail
  all_goals (go_ret; exact ⟨ret_bool (by rw [Bool.eq_iff_iff]; simp_all [beforeB]; try omega), below_alloc (below_alloc (Below.refl _ _) _) _⟩)
end Go.Proofs.Ytmnldciobeeleaa
