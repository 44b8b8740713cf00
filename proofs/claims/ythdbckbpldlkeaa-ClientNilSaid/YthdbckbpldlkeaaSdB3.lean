/- Package sdomsg: only, forms 9 to 11. -/
import Derived.Test.YthdbckbpldlkeaaSdB
import Derived.RegionTactic
import Derived.ChangeAlike
import Derived.Deep.Light
namespace Go.Proofs.Ythdbckbpldlkeaa
set_option linter.unusedVariables false
set_option linter.unusedSimpArgs false
set_option linter.unnecessarySimpa false
open Go.RowKit
set_option maxRecDepth 100000
set_option maxHeartbeats 2000000

theorem sd_only9 (M : Ms) (A : Option Addr) (n c : Nat) (w : World) (hn : n = M.data.length) : Calls Try.prog 89 #[.int .i64 9, .agg (msV M A n c)] w (OnlyR 9 M A n c w) := by
  obtain ⟨kind, ix, sub, tg, la, cr, sz, size, code, data, sq, bl, em, sum⟩ := M
  simp only [msV] at *
  clear hn
  go_enter Try.func89, Try.ntmps89
  go_wp2_with fail
  refine (sd_placed 9 _).mono ?_
  rintro e w1 ⟨rfl, rfl⟩
  go_wp2_with fail
  go_region
  all_goals go_wp2_with fail
  refine bodyPost_ret (v := .agg (msV (onlyM 9 ⟨kind, ix, sub, tg, la, cr, sz, size, code, data, sq, bl, em, sum⟩) none 0 0)) (by simp [results, Try.results89, go_sem, msV, onlyM, placedB, dataB]) rfl ⟨rfl, (by repeat' (first | with_reducible assumption | with_reducible exact Below.refl _ _ | with_reducible apply below_alloc | with_reducible apply below_drew1 | with_reducible apply below_drewN | (with_reducible apply below_step; with_reducible assumption) | (with_reducible apply below_sg2; (first | exact Nat.le_refl _ | (simp; done) | omega))))⟩
theorem sd_only10 (M : Ms) (A : Option Addr) (n c : Nat) (w : World) (hn : n = M.data.length) : Calls Try.prog 89 #[.int .i64 10, .agg (msV M A n c)] w (OnlyR 10 M A n c w) := by
  obtain ⟨kind, ix, sub, tg, la, cr, sz, size, code, data, sq, bl, em, sum⟩ := M
  simp only [msV] at *
  clear hn
  go_enter Try.func89, Try.ntmps89
  go_wp2_with fail
  refine (sd_placed 10 _).mono ?_
  rintro e w1 ⟨rfl, rfl⟩
  go_wp2_with fail
  refine bodyPost_ret (v := .agg (msV (onlyM 10 ⟨kind, ix, sub, tg, la, cr, sz, size, code, data, sq, bl, em, sum⟩) none 0 0)) (by simp [results, Try.results89, go_sem, msV, onlyM, placedB, dataB]) rfl ⟨rfl, (by repeat' (first | with_reducible assumption | with_reducible exact Below.refl _ _ | with_reducible apply below_alloc | with_reducible apply below_drew1 | with_reducible apply below_drewN | (with_reducible apply below_step; with_reducible assumption) | (with_reducible apply below_sg2; (first | exact Nat.le_refl _ | (simp; done) | omega))))⟩
theorem sd_only11 (M : Ms) (A : Option Addr) (n c : Nat) (w : World) (hn : n = M.data.length) : Calls Try.prog 89 #[.int .i64 11, .agg (msV M A n c)] w (OnlyR 11 M A n c w) := by
  obtain ⟨kind, ix, sub, tg, la, cr, sz, size, code, data, sq, bl, em, sum⟩ := M
  simp only [msV] at *
  clear hn
  go_enter Try.func89, Try.ntmps89
  go_wp2_with fail
  refine (sd_placed 11 _).mono ?_
  rintro e w1 ⟨rfl, rfl⟩
  go_wp2_with fail
  go_region
  all_goals go_wp2_with fail
  refine bodyPost_ret (v := .agg (msV (onlyM 11 ⟨kind, ix, sub, tg, la, cr, sz, size, code, data, sq, bl, em, sum⟩) A n c)) (by simp [results, Try.results89, go_sem, msV, onlyM, placedB, dataB]) rfl ⟨rfl, (by repeat' (first | with_reducible assumption | with_reducible exact Below.refl _ _ | with_reducible apply below_alloc | with_reducible apply below_drew1 | with_reducible apply below_drewN | (with_reducible apply below_step; with_reducible assumption) | (with_reducible apply below_sg2; (first | exact Nat.le_refl _ | (simp; done) | omega))))⟩
end Go.Proofs.Ythdbckbpldlkeaa
