/- Package flash: what it tells, Cut, Start. -/
import Derived.Test.YtfddfgonhgidbaaFlaA
namespace Go.Proofs.Ytfddfgonhgidbaa
set_option linter.unusedVariables false
set_option linter.unusedSimpArgs false
set_option linter.unnecessarySimpa false
open Go.RowKit
set_option maxRecDepth 20000
set_option maxHeartbeats 4000000
section
variable (q : FP) (S : FS) (w : World)
theorem fl_there (i : Nat) (hD : FD w q S) : Calls Try.prog 67 #[.pointer (some ⟨q.p, 0, none⟩), .int .i64 (i : Nat)] w fun e w' => e = .returned (.bool (decide (i < S.wear.length))) ∧ w = w' := by
  obtain ⟨⟨c0, c1, c2, c3, c4, c5, c6⟩, -⟩ := hD.c
  obtain ⟨N, hN⟩ : ∃ n, n = S.wear.length := ⟨_, rfl⟩
  have h8 := hD.fit.wl8
  rw [← hN] at c1 h8 ⊢
  clear hD hN
  by_cases h : i < N
  · have h' : (i : Int) < (N : Int) := by omega
    go_enter Try.func67, Try.ntmps67
    go_wp2_with fail
    go_ret
    exact ⟨ret_bool (by simp [h]), rfl⟩
  · have h' : ¬ (i : Int) < (N : Int) := by omega
    go_enter Try.func67, Try.ntmps67
    go_wp2_with fail
    go_ret
    exact ⟨ret_bool (by simp [h]), rfl⟩
theorem fl_Worn (i : Nat) (hD : FD w q S) (hi : i < S.wear.length) : Calls Try.prog 34 #[.pointer (some ⟨q.p, 0, none⟩), .int .i64 (i : Nat)] w fun e w' => e = .returned (.int .i64 ((S.wear.getD i 0 : Nat) : Int)) ∧ w = w' := by
  have HT := hide (fl_there q S w i hD)
  rw [show decide (i < S.wear.length) = true by simp [hi]] at HT
  obtain ⟨⟨c0, c1, c2, c3, c4, c5, c6⟩, -⟩ := hD.c
  obtain ⟨cw, -⟩ := hD.wcell hi
  obtain ⟨N, hN⟩ : ∃ n, n = S.wear.length := ⟨_, rfl⟩
  obtain ⟨x, hx⟩ : ∃ x, x = S.wear.getD i 0 := ⟨_, rfl⟩
  rw [← hN] at c1 hi
  rw [← hx] at cw ⊢
  have i2 : (i : Int) < (N : Int) := by omega
  clear hD hN hx
  go_enter Try.func34, Try.ntmps34
  go_wp2_with fail
  refine HT.out.mono ?_
  rintro e w1 ⟨rfl, rfl⟩
  go_wp2_with fail
  go_ret
  exact ⟨rfl, rfl⟩
theorem fl_Left (i : Nat) (hD : FD w q S) (hi : i < S.wear.length) : Calls Try.prog 110 #[.pointer (some ⟨q.p, 0, none⟩), .int .i64 (i : Nat)] w fun e w' => e = .returned (.int .i64 (S.most - ((S.wear.getD i 0 : Nat) : Int))) ∧ Below w.heap.size w w' := by
  have HT := hide (fl_there q S w i hD)
  rw [show decide (i < S.wear.length) = true by simp [hi]] at HT
  obtain ⟨⟨c0, c1, c2, c3, c4, c5, c6⟩, -⟩ := hD.c
  obtain ⟨cw, -⟩ := hD.wcell hi
  obtain ⟨N, hN⟩ : ∃ n, n = S.wear.length := ⟨_, rfl⟩
  have hle : ((S.wear.getD i 0 : Nat) : Int) ≤ S.most := hD.fit.w _ (by rw [List.getD_eq_getElem?_getD, List.getElem?_eq_getElem hi]; exact List.getElem_mem _)
  obtain ⟨x, hx⟩ : ∃ x, x = S.wear.getD i 0 := ⟨_, rfl⟩
  obtain ⟨M, hM⟩ : ∃ x, x = S.most := ⟨_, rfl⟩
  have m2 := hD.fit.m2
  rw [← hN] at c1 hi
  rw [← hM] at c2 hle m2 ⊢
  rw [← hx] at cw hle ⊢
  have i2 : (i : Int) < (N : Int) := by omega
  clear hD hN hx hM
  go_enter Try.func110, Try.ntmps110
  go_wp2_with fail
  refine HT.out.mono ?_
  rintro e w1 ⟨rfl, rfl⟩
  go_wp2_with fail
  go_quiet (fail)
  go_wp2_with fail
  go_ret
  exact ⟨rfl, below_drewN (Below.refl _ _) _⟩
theorem fl_Sectors (hD : FD w q S) : Calls Try.prog 46 #[.pointer (some ⟨q.p, 0, none⟩)] w fun e w' => e = .returned (.int .i64 ((S.wear.length : Nat) : Int)) ∧ w = w' := by
  obtain ⟨⟨c0, c1, c2, c3, c4, c5, c6⟩, -⟩ := hD.c
  clear hD
  go_enter Try.func46, Try.ntmps46
  go_wp2_with fail
  go_ret
  exact ⟨rfl, rfl⟩
theorem fl_On (hD : FD w q S) : Calls Try.prog 33 #[.pointer (some ⟨q.p, 0, none⟩)] w fun e w' => e = .returned (.bool (!S.off)) ∧ w = w' := by
  obtain ⟨⟨c0, c1, c2, c3, c4, c5, c6⟩, -⟩ := hD.c
  obtain ⟨off, ho⟩ : ∃ x, x = S.off := ⟨_, rfl⟩
  rw [← ho] at c3 ⊢
  clear hD ho
  go_enter Try.func33, Try.ntmps33
  go_wp2_with fail
  go_ret
  exact ⟨rfl, rfl⟩
theorem fl_Bytes (hD : FD w q S) : Calls Try.prog 32 #[.pointer (some ⟨q.p, 0, none⟩)] w fun e w' => ∃ A c, e = .returned (.slice A S.b.length c) ∧ OwnB w' w.heap.size A S.b.length c S.b ∧ Below w.heap.size w w' := by
  obtain ⟨⟨c0, c1, c2, c3, c4, c5, c6⟩, -⟩ := hD.c
  have hl : S.b.length ≤ 8192 := by have := hD.fit.len; have := hD.fit.wl8; omega
  have HS := hide hD.bs.sl
  obtain ⟨L, hL⟩ : ∃ L, L = S.b := ⟨_, rfl⟩
  rw [← hL] at c0 hl HS ⊢
  obtain ⟨N, hN⟩ : ∃ N, N = L.length := ⟨_, rfl⟩
  have HN := hide hN
  rw [← hN] at c0 hl ⊢
  clear hD hL hN
  go_enter Try.func32, Try.ntmps32
  go_wp2_with (at_builtin; refine app_b _ rfl _ _ rfl w.heap.size none 0 0 [] rfl (OwnB.nil _ _) (some ⟨q.gb, 0, none⟩) N q.cb L (by rfl) HN.out HS.out (by omega) (Nat.le_refl _) N (by omega) ?_; intro A3 c3' w3 hown3 _ _ hb3)
  go_ret
  exact ⟨_, _, rfl, by simpa using hown3, hb3⟩
end
end Go.Proofs.Ytfddfgonhgidbaa
