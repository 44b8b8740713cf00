/- Package flash: what it tells, Cut, Start. -/
import Derived.Test.YtapfadaplncpeaaFlaA
namespace Go.Proofs.Ytapfadaplncpeaa
set_option linter.unusedVariables false
set_option linter.unusedSimpArgs false
set_option linter.unnecessarySimpa false
open Go.RowKit
set_option maxRecDepth 20000
set_option maxHeartbeats 4000000
section
variable (q : FP) (S : FS) (w : World)
theorem fl_there (i : Nat) (hD : FD w q S) : Calls Try.prog 94 #[.pointer (some ⟨q.p, 0, none⟩), .int .i64 (i : Nat)] w fun e w' => e = .returned (.bool (decide (i < S.wear.length))) ∧ w = w' := by
  obtain ⟨⟨c0, c1, c2, c3, c4, c5, c6⟩, -⟩ := hD.c
  obtain ⟨N, hN⟩ : ∃ n, n = S.wear.length := ⟨_, rfl⟩
  have h8 := hD.fit.wl8
  rw [← hN] at c1 h8 ⊢
  clear hD hN
  by_cases h : i < N
  · have h' : (i : Int) < (N : Int) := by omega
    go_enter Try.func94, Try.ntmps94
    go_wp2_with fail
    go_ret
    exact ⟨ret_bool (by simp [h]), rfl⟩
  · have h' : ¬ (i : Int) < (N : Int) := by omega
    go_enter Try.func94, Try.ntmps94
    go_wp2_with fail
    go_ret
    exact ⟨ret_bool (by simp [h]), rfl⟩
theorem fl_Worn (i : Nat) (hD : FD w q S) (hi : i < S.wear.length) : Calls Try.prog 56 #[.pointer (some ⟨q.p, 0, none⟩), .int .i64 (i : Nat)] w fun e w' => e = .returned (.int .i64 ((S.wear.getD i 0 : Nat) : Int)) ∧ w = w' := by
  have HT := hide (fl_there q S w i hD)
  rw [show decide (i < S.wear.length) = true by simp [hi]] at HT
  obtain ⟨⟨c0, c1, c2, c3, c4, c5, c6⟩, -⟩ := hD.c
  obtain ⟨cw, -⟩ := hD.wcell hi
  obtain ⟨N, hN⟩ : ∃ n, n = S.wear.length := ⟨_, rfl⟩
  obtain ⟨x, hx⟩ : ∃ x, x = S.wear.getD i 0 := ⟨_, rfl⟩
  rw [← hN] at c1 hi
  rw [← hx] at cw ⊢
  have i2 : (i : Int) < (N : Int) := by omega
  clear hD hN hx
  go_enter Try.func56, Try.ntmps56
  go_wp2_with fail
  refine HT.out.mono ?_
  rintro e w1 ⟨rfl, rfl⟩
  go_wp2_with fail
  go_ret
  exact ⟨rfl, rfl⟩
theorem fl_Left (i : Nat) (hD : FD w q S) (hi : i < S.wear.length) : Calls Try.prog 124 #[.pointer (some ⟨q.p, 0, none⟩), .int .i64 (i : Nat)] w fun e w' => e = .returned (.int .i64 (S.most - ((S.wear.getD i 0 : Nat) : Int))) ∧ Below w.heap.size w w' := by
  have HT := hide (fl_there q S w i hD)
  rw [show decide (i < S.wear.length) = true by simp [hi]] at HT
  obtain ⟨⟨c0, c1, c2, c3, c4, c5, c6⟩, -⟩ := hD.c
  obtain ⟨cw, -⟩ := hD.wcell hi
  obtain ⟨N, hN⟩ : ∃ n, n = S.wear.length := ⟨_, rfl⟩
  have hle : ((S.wear.getD i 0 : Nat) : Int) ≤ S.most := hD.fit.w _ (by rw [List.getD_eq_getElem?_getD, List.getElem?_eq_getElem hi]; exact List.getElem_mem _)
  obtain ⟨x, hx⟩ : ∃ x, x = S.wear.getD i 0 := ⟨_, rfl⟩
  obtain ⟨M, hM⟩ : ∃ x, x = S.most := ⟨_, rfl⟩
  have m2 := hD.fit.m2
  rw [← hN] at c1 hi
  rw [← hM] at c2 hle m2 ⊢
  rw [← hx] at cw hle ⊢
  have i2 : (i : Int) < (N : Int) := by omega
  clear hD hN hx hM
  go_enter Try.func124, Try.ntmps124
  go_wp2_with fail
  refine HT.out.mono ?_
  rintro e w1 ⟨rfl, rfl⟩
  go_wp2_with fail
  go_quiet (fail)
  go_wp2_with fail
  go_ret
  exact ⟨rfl, below_drewN (Below.refl _ _) _⟩
theorem fl_Sectors (hD : FD w q S) : Calls Try.prog 80 #[.pointer (some ⟨q.p, 0, none⟩)] w fun e w' => e = .returned (.int .i64 ((S.wear.length : Nat) : Int)) ∧ w = w' := by
  obtain ⟨⟨c0, c1, c2, c3, c4, c5, c6⟩, -⟩ := hD.c
  clear hD
  go_enter Try.func80, Try.ntmps80
  go_wp2_with fail
  go_ret
  exact ⟨rfl, rfl⟩
theorem fl_On (hD : FD w q S) : Calls Try.prog 58 #[.pointer (some ⟨q.p, 0, none⟩)] w fun e w' => e = .returned (.bool (!S.off)) ∧ w = w' := by
  obtain ⟨⟨c0, c1, c2, c3, c4, c5, c6⟩, -⟩ := hD.c
  obtain ⟨off, ho⟩ : ∃ x, x = S.off := ⟨_, rfl⟩
  rw [← ho] at c3 ⊢
  clear hD ho
  go_enter Try.func58, Try.ntmps58
  go_wp2_with fail
  go_ret
  exact ⟨rfl, rfl⟩
theorem fl_Ops (hD : FD w q S) : Calls Try.prog 55 #[.pointer (some ⟨q.p, 0, none⟩)] w fun e w' => e = .returned (.int .i64 ((S.ops : Nat) : Int)) ∧ w = w' := by
  obtain ⟨⟨c0, c1, c2, c3, c4, c5, c6⟩, -⟩ := hD.c
  clear hD
  go_enter Try.func55, Try.ntmps55
  go_wp2_with fail
  go_ret
  exact ⟨rfl, rfl⟩
theorem fl_Cut (n m : Nat) (hD : FD w q S) (hn : n ≤ 4611686018427387904) (hm : U32 m) : Calls Try.prog 57 #[.pointer (some ⟨q.p, 0, none⟩), .int .i64 (n : Nat), .int .u32 (m : Nat)] w fun e w' => e = .returned (.int .i64 0) ∧ FD w' q { S with ahead := (n : Nat), mask := m } ∧ Only (fun g => g = q.p) w w' := by
  obtain ⟨⟨c0, c1, c2, c3, c4, c5, c6⟩, hfz⟩ := hD.c
  have f4 := hfz 4
  have f5 := hfz 5
  have HD := hide hD
  have HM := hide hm
  clear hD hfz hm
  go_enter Try.func57, Try.ntmps57
  go_wp2_with fail
  go_ret
  have hF := HD.out.fit
  exact ⟨rfl, FD.reblk HD.out (only2 _ _ _ _) (by
    have h1 := HD.out.blk.set_ 4 (.int .i64 (n : Nat))
    rw [List.setIfInBounds_toArray] at h1
    have h2 := h1.set_ 5 (.int .u32 (m : Nat))
    rw [List.setIfInBounds_toArray] at h2
    exact h2) rfl rfl ⟨hF.len, hF.wl, hF.wl8, HM.out, by simp only []; omega, by simp only []; omega, hF.m1, hF.m2, hF.w⟩, Only.set _ (only1 _ _) rfl _⟩
theorem fl_Start (hD : FD w q S) : Calls Try.prog 59 #[.pointer (some ⟨q.p, 0, none⟩)] w fun e w' => e = .returned (.tuple #[]) ∧ FD w' q { S with off := false } ∧ Only (fun g => g = q.p) w w' := by
  obtain ⟨⟨c0, c1, c2, c3, c4, c5, c6⟩, hfz⟩ := hD.c
  have f3 := hfz 3
  have HD := hide hD
  clear hD hfz
  go_enter Try.func59, Try.ntmps59
  go_wp2_with fail
  go_end0
  have hF := HD.out.fit
  exact ⟨rfl, FD.reblk HD.out (only1 _ _) (by
    have h1 := HD.out.blk.set_ 3 (.bool false)
    rw [List.setIfInBounds_toArray] at h1
    exact h1) rfl rfl ⟨hF.len, hF.wl, hF.wl8, hF.mask, hF.ah1, hF.ah2, hF.m1, hF.m2, hF.w⟩, only1 _ _⟩
theorem fl_Bytes (hD : FD w q S) : Calls Try.prog 89 #[.pointer (some ⟨q.p, 0, none⟩)] w fun e w' => ∃ A c, e = .returned (.slice A S.b.length c) ∧ OwnB w' w.heap.size A S.b.length c S.b ∧ Below w.heap.size w w' := by
  obtain ⟨⟨c0, c1, c2, c3, c4, c5, c6⟩, -⟩ := hD.c
  have hl : S.b.length ≤ 8192 := by have := hD.fit.len; have := hD.fit.wl8; omega
  have HS := hide hD.bs.sl
  obtain ⟨L, hL⟩ : ∃ L, L = S.b := ⟨_, rfl⟩
  rw [← hL] at c0 hl HS ⊢
  obtain ⟨N, hN⟩ : ∃ N, N = L.length := ⟨_, rfl⟩
  have HN := hide hN
  rw [← hN] at c0 hl ⊢
  clear hD hL hN
  go_enter Try.func89, Try.ntmps89
  go_wp2_with (at_builtin; refine app_b _ rfl _ _ rfl w.heap.size none 0 0 [] rfl (OwnB.nil _ _) (some ⟨q.gb, 0, none⟩) N q.cb L (by rfl) HN.out HS.out (by omega) (Nat.le_refl _) N (by omega) ?_; intro A3 c3' w3 hown3 _ _ hb3)
  go_ret
  exact ⟨_, _, rfl, by simpa using hown3, hb3⟩
end
end Go.Proofs.Ytapfadaplncpeaa
