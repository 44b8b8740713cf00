/- The reference of sdomsg: named, some kinds. -/
import Derived.Test.YtcncbmlacphclaaRSdN
import Derived.RegionTactic
import Derived.ChangeAlike
import Derived.Deep.Light
namespace Go.Proofs.Ytcncbmlacphclaa
set_option linter.unusedVariables false
set_option linter.unusedSimpArgs false
set_option linter.unnecessarySimpa false
open Go.RowKit
set_option maxRecDepth 100000
set_option maxHeartbeats 4000000

theorem rsd_named15 (M : Ms) (A : Option Addr) (n c : Nat) (w : World) (hn : n = M.data.length) (hk : M.kind = 15) : Calls Try.prog 85 #[.agg (msV M A n c)] w (NamedR 15 M A n c w) := by
  obtain ⟨kind, ix, sub, tg, la, cr, sz, size, code, data, sq, bl, em, sum⟩ := M
  obtain rfl : kind = 15 := hk
  simp only [msV] at *
  clear hn
  go_enter Try.func85, Try.ntmps85
  go_wp2_with fail
  refine bodyPost_ret (v := .agg (msV (onlyM (formI 15) ⟨15, ix, sub, tg, la, cr, sz, size, code, data, sq, bl, em, sum⟩) A n c)) (by simp [results, Try.results85, go_sem, msV, onlyM, placedB, dataB, formI]) rfl ⟨rfl, (by repeat' (first | with_reducible assumption | with_reducible exact Below.refl _ _ | with_reducible apply below_alloc | with_reducible apply below_drew1 | with_reducible apply below_drewN | (with_reducible apply below_step; with_reducible assumption) | (with_reducible apply below_sg2; (first | exact Nat.le_refl _ | (simp; done) | omega))))⟩
theorem rsd_named4 (M : Ms) (A : Option Addr) (n c : Nat) (w : World) (hn : n = M.data.length) (hk : M.kind = 4) : Calls Try.prog 85 #[.agg (msV M A n c)] w (NamedR 4 M A n c w) := by
  obtain ⟨kind, ix, sub, tg, la, cr, sz, size, code, data, sq, bl, em, sum⟩ := M
  obtain rfl : kind = 4 := hk
  simp only [msV] at *
  clear hn
  go_enter Try.func85, Try.ntmps85
  go_wp2_with fail
  refine bodyPost_ret (v := .agg (msV (onlyM (formI 4) ⟨4, ix, sub, tg, la, cr, sz, size, code, data, sq, bl, em, sum⟩) none 0 0)) (by simp [results, Try.results85, go_sem, msV, onlyM, placedB, dataB, formI]) rfl ⟨rfl, (by repeat' (first | with_reducible assumption | with_reducible exact Below.refl _ _ | with_reducible apply below_alloc | with_reducible apply below_drew1 | with_reducible apply below_drewN | (with_reducible apply below_step; with_reducible assumption) | (with_reducible apply below_sg2; (first | exact Nat.le_refl _ | (simp; done) | omega))))⟩
theorem rsd_named12 (M : Ms) (A : Option Addr) (n c : Nat) (w : World) (hn : n = M.data.length) (hk : M.kind = 12) : Calls Try.prog 85 #[.agg (msV M A n c)] w (NamedR 12 M A n c w) := by
  obtain ⟨kind, ix, sub, tg, la, cr, sz, size, code, data, sq, bl, em, sum⟩ := M
  obtain rfl : kind = 12 := hk
  simp only [msV] at *
  clear hn
  go_enter Try.func85, Try.ntmps85
  go_wp2_with fail
  refine bodyPost_ret (v := .agg (msV (onlyM (formI 12) ⟨12, ix, sub, tg, la, cr, sz, size, code, data, sq, bl, em, sum⟩) none 0 0)) (by simp [results, Try.results85, go_sem, msV, onlyM, placedB, dataB, formI]) rfl ⟨rfl, (by repeat' (first | with_reducible assumption | with_reducible exact Below.refl _ _ | with_reducible apply below_alloc | with_reducible apply below_drew1 | with_reducible apply below_drewN | (with_reducible apply below_step; with_reducible assumption) | (with_reducible apply below_sg2; (first | exact Nat.le_refl _ | (simp; done) | omega))))⟩
theorem rsd_named5 (M : Ms) (A : Option Addr) (n c : Nat) (w : World) (hn : n = M.data.length) (hk : M.kind = 5) : Calls Try.prog 85 #[.agg (msV M A n c)] w (NamedR 5 M A n c w) := by
  obtain ⟨kind, ix, sub, tg, la, cr, sz, size, code, data, sq, bl, em, sum⟩ := M
  obtain rfl : kind = 5 := hk
  simp only [msV] at *
  clear hn
  go_enter Try.func85, Try.ntmps85
  go_wp2_with fail
  refine bodyPost_ret (v := .agg (msV (onlyM (formI 5) ⟨5, ix, sub, tg, la, cr, sz, size, code, data, sq, bl, em, sum⟩) none 0 0)) (by simp [results, Try.results85, go_sem, msV, onlyM, placedB, dataB, formI]) rfl ⟨rfl, (by repeat' (first | with_reducible assumption | with_reducible exact Below.refl _ _ | with_reducible apply below_alloc | with_reducible apply below_drew1 | with_reducible apply below_drewN | (with_reducible apply below_step; with_reducible assumption) | (with_reducible apply below_sg2; (first | exact Nat.le_refl _ | (simp; done) | omega))))⟩
theorem rsd_named13 (M : Ms) (A : Option Addr) (n c : Nat) (w : World) (hn : n = M.data.length) (hk : M.kind = 13) : Calls Try.prog 85 #[.agg (msV M A n c)] w (NamedR 13 M A n c w) := by
  obtain ⟨kind, ix, sub, tg, la, cr, sz, size, code, data, sq, bl, em, sum⟩ := M
  obtain rfl : kind = 13 := hk
  simp only [msV] at *
  clear hn
  go_enter Try.func85, Try.ntmps85
  go_wp2_with fail
  refine bodyPost_ret (v := .agg (msV (onlyM (formI 13) ⟨13, ix, sub, tg, la, cr, sz, size, code, data, sq, bl, em, sum⟩) none 0 0)) (by simp [results, Try.results85, go_sem, msV, onlyM, placedB, dataB, formI]) rfl ⟨rfl, (by repeat' (first | with_reducible assumption | with_reducible exact Below.refl _ _ | with_reducible apply below_alloc | with_reducible apply below_drew1 | with_reducible apply below_drewN | (with_reducible apply below_step; with_reducible assumption) | (with_reducible apply below_sg2; (first | exact Nat.le_refl _ | (simp; done) | omega))))⟩
end Go.Proofs.Ytcncbmlacphclaa
