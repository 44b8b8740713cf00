/- Package sdomsg: only, forms 0 to 4. -/
import Derived.Test.YthdbckbpldlkeaaSdB
import Derived.RegionTactic
import Derived.ChangeAlike
import Derived.Deep.Light
namespace Go.Proofs.Ythdbckbpldlkeaa
set_option linter.unusedVariables false
set_option linter.unusedSimpArgs false
set_option linter.unnecessarySimpa false
open Go.RowKit
set_option maxRecDepth 100000
set_option maxHeartbeats 2000000

theorem sd_only0 (M : Ms) (A : Option Addr) (n c : Nat) (w : World) (hn : n = M.data.length) : Calls Try.prog 89 #[.int .i64 0, .agg (msV M A n c)] w (OnlyR 0 M A n c w) := by
  obtain ⟨kind, ix, sub, tg, la, cr, sz, size, code, data, sq, bl, em, sum⟩ := M
  simp only [msV] at *
  clear hn
  go_enter Try.func89, Try.ntmps89
  go_wp2_with fail
  refine (sd_placed 0 _).mono ?_
  rintro e w1 ⟨rfl, rfl⟩
  go_wp2_with fail
  refine bodyPost_ret (v := .agg (msV (onlyM 0 ⟨kind, ix, sub, tg, la, cr, sz, size, code, data, sq, bl, em, sum⟩) none 0 0)) (by simp [results, Try.results89, go_sem, msV, onlyM, placedB, dataB]) rfl ⟨rfl, (by repeat' (first | with_reducible assumption | with_reducible exact Below.refl _ _ | with_reducible apply below_alloc | with_reducible apply below_drew1 | with_reducible apply below_drewN | (with_reducible apply below_step; with_reducible assumption) | (with_reducible apply below_sg2; (first | exact Nat.le_refl _ | (simp; done) | omega))))⟩
theorem sd_only1 (M : Ms) (A : Option Addr) (n c : Nat) (w : World) (hn : n = M.data.length) : Calls Try.prog 89 #[.int .i64 1, .agg (msV M A n c)] w (OnlyR 1 M A n c w) := by
  obtain ⟨kind, ix, sub, tg, la, cr, sz, size, code, data, sq, bl, em, sum⟩ := M
  simp only [msV] at *
  clear hn
  go_enter Try.func89, Try.ntmps89
  go_wp2_with fail
  refine (sd_placed 1 _).mono ?_
  rintro e w1 ⟨rfl, rfl⟩
  go_wp2_with fail
  go_region
  all_goals go_wp2_with fail
  refine bodyPost_ret (v := .agg (msV (onlyM 1 ⟨kind, ix, sub, tg, la, cr, sz, size, code, data, sq, bl, em, sum⟩) none 0 0)) (by simp [results, Try.results89, go_sem, msV, onlyM, placedB, dataB]) rfl ⟨rfl, (by repeat' (first | with_reducible assumption | with_reducible exact Below.refl _ _ | with_reducible apply below_alloc | with_reducible apply below_drew1 | with_reducible apply below_drewN | (with_reducible apply below_step; with_reducible assumption) | (with_reducible apply below_sg2; (first | exact Nat.le_refl _ | (simp; done) | omega))))⟩
theorem sd_only2 (M : Ms) (A : Option Addr) (n c : Nat) (w : World) (hn : n = M.data.length) : Calls Try.prog 89 #[.int .i64 2, .agg (msV M A n c)] w (OnlyR 2 M A n c w) := by
  obtain ⟨kind, ix, sub, tg, la, cr, sz, size, code, data, sq, bl, em, sum⟩ := M
  simp only [msV] at *
  have HN := hide hn
  rcases (show (n = 0 ∧ data = []) ∨ (n ≠ 0 ∧ data ≠ []) by rcases data with _ | ⟨a, l⟩ <;> simp at hn ⊢ <;> omega) with ⟨rfl, rfl⟩ | ⟨h0, hd⟩
  · cases sz
    all_goals
      clear hn
      go_enter Try.func89, Try.ntmps89
      go_wp2_with fail
      refine (sd_placed 2 _).mono ?_
      rintro e w1 ⟨rfl, rfl⟩
      go_wp2_with fail
      go_region
      all_goals go_wp2_with fail
      go_region
      all_goals go_wp2_with fail
      refine bodyPost_ret (v := .agg (msV (onlyM 2 ⟨kind, ix, sub, tg, la, _, _, size, code, [], sq, bl, em, sum⟩) A 0 c)) (by simp [results, Try.results89, go_sem, msV, onlyM, placedB, dataB]) rfl ⟨rfl, (by repeat' (first | with_reducible assumption | with_reducible exact Below.refl _ _ | with_reducible apply below_alloc | with_reducible apply below_drew1 | with_reducible apply below_drewN | (with_reducible apply below_step; with_reducible assumption) | (with_reducible apply below_sg2; (first | exact Nat.le_refl _ | (simp; done) | omega))))⟩
  · have h0' : ((n : Int) == 0) = false := by simpa using h0
    have HD := hide hd
    clear hn h0 hd
    go_enter Try.func89, Try.ntmps89
    go_wp2_with fail
    refine (sd_placed 2 _).mono ?_
    rintro e w1 ⟨rfl, rfl⟩
    go_wp2_with fail
    go_region
    all_goals go_wp2_with fail
    go_region
    all_goals go_wp2_with fail
    refine bodyPost_ret (v := .agg (msV (onlyM 2 ⟨kind, ix, sub, tg, la, cr, sz, size, code, data, sq, bl, em, sum⟩) A n c)) (by have := HD.out; simp [results, Try.results89, go_sem, msV, onlyM, placedB, dataB, this]) rfl ⟨rfl, (by repeat' (first | with_reducible assumption | with_reducible exact Below.refl _ _ | with_reducible apply below_alloc | with_reducible apply below_drew1 | with_reducible apply below_drewN | (with_reducible apply below_step; with_reducible assumption) | (with_reducible apply below_sg2; (first | exact Nat.le_refl _ | (simp; done) | omega))))⟩
theorem sd_only3 (M : Ms) (A : Option Addr) (n c : Nat) (w : World) (hn : n = M.data.length) : Calls Try.prog 89 #[.int .i64 3, .agg (msV M A n c)] w (OnlyR 3 M A n c w) := by
  obtain ⟨kind, ix, sub, tg, la, cr, sz, size, code, data, sq, bl, em, sum⟩ := M
  simp only [msV] at *
  clear hn
  go_enter Try.func89, Try.ntmps89
  go_wp2_with fail
  refine (sd_placed 3 _).mono ?_
  rintro e w1 ⟨rfl, rfl⟩
  go_wp2_with fail
  go_region
  all_goals go_wp2_with fail
  refine bodyPost_ret (v := .agg (msV (onlyM 3 ⟨kind, ix, sub, tg, la, cr, sz, size, code, data, sq, bl, em, sum⟩) A n c)) (by simp [results, Try.results89, go_sem, msV, onlyM, placedB, dataB]) rfl ⟨rfl, (by repeat' (first | with_reducible assumption | with_reducible exact Below.refl _ _ | with_reducible apply below_alloc | with_reducible apply below_drew1 | with_reducible apply below_drewN | (with_reducible apply below_step; with_reducible assumption) | (with_reducible apply below_sg2; (first | exact Nat.le_refl _ | (simp; done) | omega))))⟩
theorem sd_only4 (M : Ms) (A : Option Addr) (n c : Nat) (w : World) (hn : n = M.data.length) : Calls Try.prog 89 #[.int .i64 4, .agg (msV M A n c)] w (OnlyR 4 M A n c w) := by
  obtain ⟨kind, ix, sub, tg, la, cr, sz, size, code, data, sq, bl, em, sum⟩ := M
  simp only [msV] at *
  clear hn
  go_enter Try.func89, Try.ntmps89
  go_wp2_with fail
  refine (sd_placed 4 _).mono ?_
  rintro e w1 ⟨rfl, rfl⟩
  go_wp2_with fail
  go_region
  all_goals go_wp2_with fail
  refine bodyPost_ret (v := .agg (msV (onlyM 4 ⟨kind, ix, sub, tg, la, cr, sz, size, code, data, sq, bl, em, sum⟩) none 0 0)) (by simp [results, Try.results89, go_sem, msV, onlyM, placedB, dataB]) rfl ⟨rfl, (by repeat' (first | with_reducible assumption | with_reducible exact Below.refl _ _ | with_reducible apply below_alloc | with_reducible apply below_drew1 | with_reducible apply below_drewN | (with_reducible apply below_step; with_reducible assumption) | (with_reducible apply below_sg2; (first | exact Nat.le_refl _ | (simp; done) | omega))))⟩
end Go.Proofs.Ythdbckbpldlkeaa
