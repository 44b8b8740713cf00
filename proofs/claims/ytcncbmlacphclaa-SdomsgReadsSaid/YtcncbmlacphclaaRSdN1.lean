/- The reference of sdomsg: named, some kinds. -/
import Derived.Test.YtcncbmlacphclaaRSdN
import Derived.RegionTactic
import Derived.ChangeAlike
import Derived.Deep.Light
namespace Go.Proofs.Ytcncbmlacphclaa
set_option linter.unusedVariables false
set_option linter.unusedSimpArgs false
set_option linter.unnecessarySimpa false
open Go.RowKit
set_option maxRecDepth 100000
set_option maxHeartbeats 4000000

theorem rsd_named1 (M : Ms) (A : Option Addr) (n c : Nat) (w : World) (hn : n = M.data.length) (hk : M.kind = 1) : Calls Try.prog 85 #[.agg (msV M A n c)] w (NamedR 1 M A n c w) := by
  obtain ⟨kind, ix, sub, tg, la, cr, sz, size, code, data, sq, bl, em, sum⟩ := M
  obtain rfl : kind = 1 := hk
  simp only [msV] at *
  clear hn
  go_enter Try.func85, Try.ntmps85
  go_wp2_with fail
  refine bodyPost_ret (v := .agg (msV (onlyM (formI 1) ⟨1, ix, sub, tg, la, cr, sz, size, code, data, sq, bl, em, sum⟩) none 0 0)) (by simp [results, Try.results85, go_sem, msV, onlyM, placedB, dataB, formI]) rfl ⟨rfl, (by repeat' (first | with_reducible assumption | with_reducible exact Below.refl _ _ | with_reducible apply below_alloc | with_reducible apply below_drew1 | with_reducible apply below_drewN | (with_reducible apply below_step; with_reducible assumption) | (with_reducible apply below_sg2; (first | exact Nat.le_refl _ | (simp; done) | omega))))⟩
theorem rsd_named2 (M : Ms) (A : Option Addr) (n c : Nat) (w : World) (hn : n = M.data.length) (hk : M.kind = 2) : Calls Try.prog 85 #[.agg (msV M A n c)] w (NamedR 2 M A n c w) := by
  obtain ⟨kind, ix, sub, tg, la, cr, sz, size, code, data, sq, bl, em, sum⟩ := M
  obtain rfl : kind = 2 := hk
  simp only [msV] at *
  have HN := hide hn
  rcases (show (n = 0 ∧ data = []) ∨ (n ≠ 0 ∧ data ≠ []) by rcases data with _ | ⟨a, l⟩ <;> simp at hn ⊢ <;> omega) with ⟨rfl, rfl⟩ | ⟨h0, hd⟩
  · cases sz
    all_goals
      clear hn
      go_enter Try.func85, Try.ntmps85
      go_wp2_with fail
      refine bodyPost_ret (v := .agg (msV (onlyM (formI 2) ⟨2, ix, sub, tg, la, cr, _, size, code, [], sq, bl, em, sum⟩) A 0 c)) (by simp [results, Try.results85, go_sem, msV, onlyM, placedB, dataB, formI]) rfl ⟨rfl, (by repeat' (first | with_reducible assumption | with_reducible exact Below.refl _ _ | with_reducible apply below_alloc | with_reducible apply below_drew1 | with_reducible apply below_drewN | (with_reducible apply below_step; with_reducible assumption) | (with_reducible apply below_sg2; (first | exact Nat.le_refl _ | (simp; done) | omega))))⟩
  · have h0' : ((n : Int) == 0) = false := by simpa using h0
    have HD := hide hd
    clear hn h0 hd
    cases sz
    all_goals
      go_enter Try.func85, Try.ntmps85
      go_wp2_with fail
      refine bodyPost_ret (v := .agg (msV (onlyM (formI 2) ⟨2, ix, sub, tg, la, cr, _, size, code, data, sq, bl, em, sum⟩) A n c)) (by simp [results, Try.results85, go_sem, msV, onlyM, placedB, dataB, formI, HD.out]) rfl ⟨rfl, (by repeat' (first | with_reducible assumption | with_reducible exact Below.refl _ _ | with_reducible apply below_alloc | with_reducible apply below_drew1 | with_reducible apply below_drewN | (with_reducible apply below_step; with_reducible assumption) | (with_reducible apply below_sg2; (first | exact Nat.le_refl _ | (simp; done) | omega))))⟩
theorem rsd_named14 (M : Ms) (A : Option Addr) (n c : Nat) (w : World) (hn : n = M.data.length) (hk : M.kind = 14) : Calls Try.prog 85 #[.agg (msV M A n c)] w (NamedR 14 M A n c w) := by
  obtain ⟨kind, ix, sub, tg, la, cr, sz, size, code, data, sq, bl, em, sum⟩ := M
  obtain rfl : kind = 14 := hk
  simp only [msV] at *
  have HN := hide hn
  rcases (show (n = 0 ∧ data = []) ∨ (n ≠ 0 ∧ data ≠ []) by rcases data with _ | ⟨a, l⟩ <;> simp at hn ⊢ <;> omega) with ⟨rfl, rfl⟩ | ⟨h0, hd⟩
  · cases sz
    all_goals
      clear hn
      go_enter Try.func85, Try.ntmps85
      go_wp2_with fail
      refine bodyPost_ret (v := .agg (msV (onlyM (formI 14) ⟨14, ix, sub, tg, la, cr, _, size, code, [], sq, bl, em, sum⟩) A 0 c)) (by simp [results, Try.results85, go_sem, msV, onlyM, placedB, dataB, formI]) rfl ⟨rfl, (by repeat' (first | with_reducible assumption | with_reducible exact Below.refl _ _ | with_reducible apply below_alloc | with_reducible apply below_drew1 | with_reducible apply below_drewN | (with_reducible apply below_step; with_reducible assumption) | (with_reducible apply below_sg2; (first | exact Nat.le_refl _ | (simp; done) | omega))))⟩
  · have h0' : ((n : Int) == 0) = false := by simpa using h0
    have HD := hide hd
    clear hn h0 hd
    cases sz
    all_goals
      go_enter Try.func85, Try.ntmps85
      go_wp2_with fail
      refine bodyPost_ret (v := .agg (msV (onlyM (formI 14) ⟨14, ix, sub, tg, la, cr, _, size, code, data, sq, bl, em, sum⟩) A n c)) (by simp [results, Try.results85, go_sem, msV, onlyM, placedB, dataB, formI, HD.out]) rfl ⟨rfl, (by repeat' (first | with_reducible assumption | with_reducible exact Below.refl _ _ | with_reducible apply below_alloc | with_reducible apply below_drew1 | with_reducible apply below_drewN | (with_reducible apply below_step; with_reducible assumption) | (with_reducible apply below_sg2; (first | exact Nat.le_refl _ | (simp; done) | omega))))⟩
theorem rsd_named3 (M : Ms) (A : Option Addr) (n c : Nat) (w : World) (hn : n = M.data.length) (hk : M.kind = 3) : Calls Try.prog 85 #[.agg (msV M A n c)] w (NamedR 3 M A n c w) := by
  obtain ⟨kind, ix, sub, tg, la, cr, sz, size, code, data, sq, bl, em, sum⟩ := M
  obtain rfl : kind = 3 := hk
  simp only [msV] at *
  clear hn
  go_enter Try.func85, Try.ntmps85
  go_wp2_with fail
  refine bodyPost_ret (v := .agg (msV (onlyM (formI 3) ⟨3, ix, sub, tg, la, cr, sz, size, code, data, sq, bl, em, sum⟩) A n c)) (by simp [results, Try.results85, go_sem, msV, onlyM, placedB, dataB, formI]) rfl ⟨rfl, (by repeat' (first | with_reducible assumption | with_reducible exact Below.refl _ _ | with_reducible apply below_alloc | with_reducible apply below_drew1 | with_reducible apply below_drewN | (with_reducible apply below_step; with_reducible assumption) | (with_reducible apply below_sg2; (first | exact Nat.le_refl _ | (simp; done) | omega))))⟩
end Go.Proofs.Ytcncbmlacphclaa
