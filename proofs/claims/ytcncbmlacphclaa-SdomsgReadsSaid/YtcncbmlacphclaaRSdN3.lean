/- The reference of sdomsg: named, some kinds. -/
import Derived.Test.YtcncbmlacphclaaRSdN
import Derived.RegionTactic
import Derived.ChangeAlike
import Derived.Deep.Light
namespace Go.Proofs.Ytcncbmlacphclaa
set_option linter.unusedVariables false
set_option linter.unusedSimpArgs false
set_option linter.unnecessarySimpa false
open Go.RowKit
set_option maxRecDepth 100000
set_option maxHeartbeats 4000000

theorem rsd_named6 (M : Ms) (A : Option Addr) (n c : Nat) (w : World) (hn : n = M.data.length) (hk : M.kind = 6) : Calls Try.prog 85 #[.agg (msV M A n c)] w (NamedR 6 M A n c w) := by
  obtain ⟨kind, ix, sub, tg, la, cr, sz, size, code, data, sq, bl, em, sum⟩ := M
  obtain rfl : kind = 6 := hk
  simp only [msV] at *
  clear hn
  cases sz
  all_goals
    go_enter Try.func85, Try.ntmps85
    go_wp2_with fail
    refine bodyPost_ret (v := .agg (msV (onlyM (formI 6) ⟨6, ix, sub, tg, la, cr, _, size, code, data, sq, bl, em, sum⟩) none 0 0)) (by simp [results, Try.results85, go_sem, msV, onlyM, placedB, dataB, formI]) rfl ⟨rfl, (by repeat' (first | with_reducible assumption | with_reducible exact Below.refl _ _ | with_reducible apply below_alloc | with_reducible apply below_drew1 | with_reducible apply below_drewN | (with_reducible apply below_step; with_reducible assumption) | (with_reducible apply below_sg2; (first | exact Nat.le_refl _ | (simp; done) | omega))))⟩
theorem rsd_named19 (M : Ms) (A : Option Addr) (n c : Nat) (w : World) (hn : n = M.data.length) (hk : M.kind = 19) : Calls Try.prog 85 #[.agg (msV M A n c)] w (NamedR 19 M A n c w) := by
  obtain ⟨kind, ix, sub, tg, la, cr, sz, size, code, data, sq, bl, em, sum⟩ := M
  obtain rfl : kind = 19 := hk
  simp only [msV] at *
  clear hn
  cases sz
  all_goals
    go_enter Try.func85, Try.ntmps85
    go_wp2_with fail
    refine bodyPost_ret (v := .agg (msV (onlyM (formI 19) ⟨19, ix, sub, tg, la, cr, _, size, code, data, sq, bl, em, sum⟩) none 0 0)) (by simp [results, Try.results85, go_sem, msV, onlyM, placedB, dataB, formI]) rfl ⟨rfl, (by repeat' (first | with_reducible assumption | with_reducible exact Below.refl _ _ | with_reducible apply below_alloc | with_reducible apply below_drew1 | with_reducible apply below_drewN | (with_reducible apply below_step; with_reducible assumption) | (with_reducible apply below_sg2; (first | exact Nat.le_refl _ | (simp; done) | omega))))⟩
theorem rsd_named7 (M : Ms) (A : Option Addr) (n c : Nat) (w : World) (hn : n = M.data.length) (hk : M.kind = 7) : Calls Try.prog 85 #[.agg (msV M A n c)] w (NamedR 7 M A n c w) := by
  obtain ⟨kind, ix, sub, tg, la, cr, sz, size, code, data, sq, bl, em, sum⟩ := M
  obtain rfl : kind = 7 := hk
  simp only [msV] at *
  clear hn
  go_enter Try.func85, Try.ntmps85
  go_wp2_with fail
  refine bodyPost_ret (v := .agg (msV (onlyM (formI 7) ⟨7, ix, sub, tg, la, cr, sz, size, code, data, sq, bl, em, sum⟩) none 0 0)) (by simp [results, Try.results85, go_sem, msV, onlyM, placedB, dataB, formI]) rfl ⟨rfl, (by repeat' (first | with_reducible assumption | with_reducible exact Below.refl _ _ | with_reducible apply below_alloc | with_reducible apply below_drew1 | with_reducible apply below_drewN | (with_reducible apply below_step; with_reducible assumption) | (with_reducible apply below_sg2; (first | exact Nat.le_refl _ | (simp; done) | omega))))⟩
theorem rsd_named20 (M : Ms) (A : Option Addr) (n c : Nat) (w : World) (hn : n = M.data.length) (hk : M.kind = 20) : Calls Try.prog 85 #[.agg (msV M A n c)] w (NamedR 20 M A n c w) := by
  obtain ⟨kind, ix, sub, tg, la, cr, sz, size, code, data, sq, bl, em, sum⟩ := M
  obtain rfl : kind = 20 := hk
  simp only [msV] at *
  clear hn
  go_enter Try.func85, Try.ntmps85
  go_wp2_with fail
  refine bodyPost_ret (v := .agg (msV (onlyM (formI 20) ⟨20, ix, sub, tg, la, cr, sz, size, code, data, sq, bl, em, sum⟩) none 0 0)) (by simp [results, Try.results85, go_sem, msV, onlyM, placedB, dataB, formI]) rfl ⟨rfl, (by repeat' (first | with_reducible assumption | with_reducible exact Below.refl _ _ | with_reducible apply below_alloc | with_reducible apply below_drew1 | with_reducible apply below_drewN | (with_reducible apply below_step; with_reducible assumption) | (with_reducible apply below_sg2; (first | exact Nat.le_refl _ | (simp; done) | omega))))⟩
theorem rsd_named8 (M : Ms) (A : Option Addr) (n c : Nat) (w : World) (hn : n = M.data.length) (hk : M.kind = 8) : Calls Try.prog 85 #[.agg (msV M A n c)] w (NamedR 8 M A n c w) := by
  obtain ⟨kind, ix, sub, tg, la, cr, sz, size, code, data, sq, bl, em, sum⟩ := M
  obtain rfl : kind = 8 := hk
  simp only [msV] at *
  clear hn
  go_enter Try.func85, Try.ntmps85
  go_wp2_with fail
  refine bodyPost_ret (v := .agg (msV (onlyM (formI 8) ⟨8, ix, sub, tg, la, cr, sz, size, code, data, sq, bl, em, sum⟩) none 0 0)) (by simp [results, Try.results85, go_sem, msV, onlyM, placedB, dataB, formI]) rfl ⟨rfl, (by repeat' (first | with_reducible assumption | with_reducible exact Below.refl _ _ | with_reducible apply below_alloc | with_reducible apply below_drew1 | with_reducible apply below_drewN | (with_reducible apply below_step; with_reducible assumption) | (with_reducible apply below_sg2; (first | exact Nat.le_refl _ | (simp; done) | omega))))⟩
end Go.Proofs.Ytcncbmlacphclaa
