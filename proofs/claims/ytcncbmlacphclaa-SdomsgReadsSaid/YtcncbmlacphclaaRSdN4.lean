/- The reference of sdomsg: named, some kinds. -/
import Derived.Test.YtcncbmlacphclaaRSdN
import Derived.RegionTactic
import Derived.ChangeAlike
import Derived.Deep.Light
namespace Go.Proofs.Ytcncbmlacphclaa
set_option linter.unusedVariables false
set_option linter.unusedSimpArgs false
set_option linter.unnecessarySimpa false
open Go.RowKit
set_option maxRecDepth 100000
set_option maxHeartbeats 4000000

theorem rsd_named16 (M : Ms) (A : Option Addr) (n c : Nat) (w : World) (hn : n = M.data.length) (hk : M.kind = 16) : Calls Try.prog 85 #[.agg (msV M A n c)] w (NamedR 16 M A n c w) := by
  obtain ⟨kind, ix, sub, tg, la, cr, sz, size, code, data, sq, bl, em, sum⟩ := M
  obtain rfl : kind = 16 := hk
  simp only [msV] at *
  clear hn
  go_enter Try.func85, Try.ntmps85
  go_wp2_with fail
  refine bodyPost_ret (v := .agg (msV (onlyM (formI 16) ⟨16, ix, sub, tg, la, cr, sz, size, code, data, sq, bl, em, sum⟩) none 0 0)) (by simp [results, Try.results85, go_sem, msV, onlyM, placedB, dataB, formI]) rfl ⟨rfl, (by repeat' (first | with_reducible assumption | with_reducible exact Below.refl _ _ | with_reducible apply below_alloc | with_reducible apply below_drew1 | with_reducible apply below_drewN | (with_reducible apply below_step; with_reducible assumption) | (with_reducible apply below_sg2; (first | exact Nat.le_refl _ | (simp; done) | omega))))⟩
theorem rsd_named10 (M : Ms) (A : Option Addr) (n c : Nat) (w : World) (hn : n = M.data.length) (hk : M.kind = 10) : Calls Try.prog 85 #[.agg (msV M A n c)] w (NamedR 10 M A n c w) := by
  obtain ⟨kind, ix, sub, tg, la, cr, sz, size, code, data, sq, bl, em, sum⟩ := M
  obtain rfl : kind = 10 := hk
  simp only [msV] at *
  clear hn
  go_enter Try.func85, Try.ntmps85
  go_wp2_with fail
  refine bodyPost_ret (v := .agg (msV (onlyM (formI 10) ⟨10, ix, sub, tg, la, cr, sz, size, code, data, sq, bl, em, sum⟩) none 0 0)) (by simp [results, Try.results85, go_sem, msV, onlyM, placedB, dataB, formI]) rfl ⟨rfl, (by repeat' (first | with_reducible assumption | with_reducible exact Below.refl _ _ | with_reducible apply below_alloc | with_reducible apply below_drew1 | with_reducible apply below_drewN | (with_reducible apply below_step; with_reducible assumption) | (with_reducible apply below_sg2; (first | exact Nat.le_refl _ | (simp; done) | omega))))⟩
theorem rsd_named17 (M : Ms) (A : Option Addr) (n c : Nat) (w : World) (hn : n = M.data.length) (hk : M.kind = 17) : Calls Try.prog 85 #[.agg (msV M A n c)] w (NamedR 17 M A n c w) := by
  obtain ⟨kind, ix, sub, tg, la, cr, sz, size, code, data, sq, bl, em, sum⟩ := M
  obtain rfl : kind = 17 := hk
  simp only [msV] at *
  clear hn
  go_enter Try.func85, Try.ntmps85
  go_wp2_with fail
  refine bodyPost_ret (v := .agg (msV (onlyM (formI 17) ⟨17, ix, sub, tg, la, cr, sz, size, code, data, sq, bl, em, sum⟩) none 0 0)) (by simp [results, Try.results85, go_sem, msV, onlyM, placedB, dataB, formI]) rfl ⟨rfl, (by repeat' (first | with_reducible assumption | with_reducible exact Below.refl _ _ | with_reducible apply below_alloc | with_reducible apply below_drew1 | with_reducible apply below_drewN | (with_reducible apply below_step; with_reducible assumption) | (with_reducible apply below_sg2; (first | exact Nat.le_refl _ | (simp; done) | omega))))⟩
theorem rsd_named9 (M : Ms) (A : Option Addr) (n c : Nat) (w : World) (hn : n = M.data.length) (hk : M.kind = 9) : Calls Try.prog 85 #[.agg (msV M A n c)] w (NamedR 9 M A n c w) := by
  obtain ⟨kind, ix, sub, tg, la, cr, sz, size, code, data, sq, bl, em, sum⟩ := M
  obtain rfl : kind = 9 := hk
  simp only [msV] at *
  clear hn
  go_enter Try.func85, Try.ntmps85
  go_wp2_with fail
  refine bodyPost_ret (v := .agg (msV (onlyM (formI 9) ⟨9, ix, sub, tg, la, cr, sz, size, code, data, sq, bl, em, sum⟩) none 0 0)) (by simp [results, Try.results85, go_sem, msV, onlyM, placedB, dataB, formI]) rfl ⟨rfl, (by repeat' (first | with_reducible assumption | with_reducible exact Below.refl _ _ | with_reducible apply below_alloc | with_reducible apply below_drew1 | with_reducible apply below_drewN | (with_reducible apply below_step; with_reducible assumption) | (with_reducible apply below_sg2; (first | exact Nat.le_refl _ | (simp; done) | omega))))⟩
theorem rsd_named11 (M : Ms) (A : Option Addr) (n c : Nat) (w : World) (hn : n = M.data.length) (hk : M.kind = 11) : Calls Try.prog 85 #[.agg (msV M A n c)] w (NamedR 11 M A n c w) := by
  obtain ⟨kind, ix, sub, tg, la, cr, sz, size, code, data, sq, bl, em, sum⟩ := M
  obtain rfl : kind = 11 := hk
  simp only [msV] at *
  clear hn
  go_enter Try.func85, Try.ntmps85
  go_wp2_with fail
  refine bodyPost_ret (v := .agg (msV (onlyM (formI 11) ⟨11, ix, sub, tg, la, cr, sz, size, code, data, sq, bl, em, sum⟩) none 0 0)) (by simp [results, Try.results85, go_sem, msV, onlyM, placedB, dataB, formI]) rfl ⟨rfl, (by repeat' (first | with_reducible assumption | with_reducible exact Below.refl _ _ | with_reducible apply below_alloc | with_reducible apply below_drew1 | with_reducible apply below_drewN | (with_reducible apply below_step; with_reducible assumption) | (with_reducible apply below_sg2; (first | exact Nat.le_refl _ | (simp; done) | omega))))⟩
theorem rsd_named18 (M : Ms) (A : Option Addr) (n c : Nat) (w : World) (hn : n = M.data.length) (hk : M.kind = 18) : Calls Try.prog 85 #[.agg (msV M A n c)] w (NamedR 18 M A n c w) := by
  obtain ⟨kind, ix, sub, tg, la, cr, sz, size, code, data, sq, bl, em, sum⟩ := M
  obtain rfl : kind = 18 := hk
  simp only [msV] at *
  clear hn
  go_enter Try.func85, Try.ntmps85
  go_wp2_with fail
  refine bodyPost_ret (v := .agg (msV (onlyM (formI 18) ⟨18, ix, sub, tg, la, cr, sz, size, code, data, sq, bl, em, sum⟩) none 0 0)) (by simp [results, Try.results85, go_sem, msV, onlyM, placedB, dataB, formI]) rfl ⟨rfl, (by repeat' (first | with_reducible assumption | with_reducible exact Below.refl _ _ | with_reducible apply below_alloc | with_reducible apply below_drew1 | with_reducible apply below_drewN | (with_reducible apply below_step; with_reducible assumption) | (with_reducible apply below_sg2; (first | exact Nat.le_refl _ | (simp; done) | omega))))⟩
theorem rsd_named21 (M : Ms) (A : Option Addr) (n c : Nat) (w : World) (hn : n = M.data.length) (hk : M.kind = 21) : Calls Try.prog 85 #[.agg (msV M A n c)] w (NamedR 21 M A n c w) := by
  obtain ⟨kind, ix, sub, tg, la, cr, sz, size, code, data, sq, bl, em, sum⟩ := M
  obtain rfl : kind = 21 := hk
  simp only [msV] at *
  clear hn
  go_enter Try.func85, Try.ntmps85
  go_wp2_with fail
  refine bodyPost_ret (v := .agg (msV (onlyM (formI 21) ⟨21, ix, sub, tg, la, cr, sz, size, code, data, sq, bl, em, sum⟩) A n c)) (by simp [results, Try.results85, go_sem, msV, onlyM, placedB, dataB, formI]) rfl ⟨rfl, (by repeat' (first | with_reducible assumption | with_reducible exact Below.refl _ _ | with_reducible apply below_alloc | with_reducible apply below_drew1 | with_reducible apply below_drewN | (with_reducible apply below_step; with_reducible assumption) | (with_reducible apply below_sg2; (first | exact Nat.le_refl _ | (simp; done) | omega))))⟩
end Go.Proofs.Ytcncbmlacphclaa
