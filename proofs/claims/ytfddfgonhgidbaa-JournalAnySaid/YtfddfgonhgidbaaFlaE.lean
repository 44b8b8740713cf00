/- Package flash: Program, Read, and what it tells. -/
import Derived.Test.YtfddfgonhgidbaaFlaD
namespace Go.Proofs.Ytfddfgonhgidbaa
set_option linter.unusedVariables false
set_option linter.unusedSimpArgs false
set_option linter.unnecessarySimpa false
open Go.RowKit
set_option maxRecDepth 20000
set_option maxHeartbeats 4000000

theorem progF_do (S : FS) (k : Nat) (x : UInt8) (bs : List UInt8) : progF S k (x :: bs) = if S.ahead = 0 then doP S k x else progF (doP S k x).1 (k + 1) bs := by
  rw [progF]
  unfold doP
  split <;> rfl
theorem doP_len (S : FS) (k : Nat) (x : UInt8) : (doP S k x).1.b.length = S.b.length ∧ (doP S k x).1.ops ≤ S.ops + 1 := by
  unfold doP
  split <;> simp
theorem doP_er (S : FS) (k : Nat) (x : UInt8) : (S.ahead = 0 → (doP S k x).2 = 7) ∧ (S.ahead ≠ 0 → (doP S k x).2 = 0) := by
  unfold doP
  constructor
  · intro h; rw [if_pos h]
  · intro h; rw [if_neg h]
theorem roomE_ok {S : FS} {k n : Nat} (hoff : S.off = false) (h : k + n ≤ S.b.length) : roomE S k n = 0 := by
  unfold roomE
  rw [hoff, if_neg (by decide), if_neg (by omega)]
theorem fl_Program (q : FP) (S : FS) (k : Nat) (A : Option Addr) (n c : Nat) (l : List UInt8) (w : World) (hD : FD w q S) (hn : n = l.length) (hoff : S.off = false) (hfit : k + n ≤ S.b.length) (hsrc : ∀ W, Only q.F w W → Sl W A (l.map bv)) (hops : S.ops + n < 4611686018427387904) :
    Calls Try.prog 40 #[.pointer (some ⟨q.p, 0, none⟩), .int .i64 (k : Nat), .slice A n c] w (DoR q (progF S k l) w) := by
  have HD := hide hD
  have h8 := hD.fit.wl8
  have hL := hD.fit.len
  have hk8 : k + n ≤ 8192 := by omega
  have HFIT := hide hfit
  have HSRC := hide hsrc
  have HN := hide hn
  have HOPS := hide hops
  have HR := hide (fl_room q S k n w hD (by omega) (by omega))
  rw [roomE_ok hoff hfit] at HR
  obtain ⟨R, hR⟩ : ∃ R, R = progF S k l := ⟨_, rfl⟩
  have HRR := hide hR
  rw [← hR]
  clear hD h8 hL hfit hsrc hn hops hR hoff
  go_enter Try.func40, Try.ntmps40
  go_wp2_with fail
  refine HR.out.mono ?_
  rintro e w1 ⟨rfl, rfl⟩
  go_wp2_with fail
  go_loopw [8, 9, 10, 11, 22] (fun _ _ _ _ i wr => ∃ j S', j ≤ n ∧ i = .int .i64 (j : Nat) ∧ Hid (FD wr q S') ∧ Hid (Only q.F w wr) ∧ Hid (R = progF S' (k + j) (l.drop j) ∧ S'.ops ≤ S.ops + j ∧ S'.b.length = S.b.length)) (fun _ _ _ _ i _ => n - (intOf i).toNat)
  case atStart => exact ⟨0, S, by omega, rfl, HD, hide (Only.refl _ _), hide ⟨by rw [List.drop_zero]; exact HRR.out, Nat.le_refl _, rfl⟩⟩
  case round =>
    obtain ⟨j, S', hj, rfl, HDr, HOr, HP⟩ := hrel
    by_cases hlt : j < n
    · obtain ⟨x, hx⟩ : ∃ x, x = l[j]'(by rw [← HN.out]; exact hlt) := ⟨_, rfl⟩
      obtain ⟨b, off, hA, cx⟩ := (HSRC.out wr HOr.out).byte_ (j := j) (by rw [← HN.out]; exact hlt)
      rw [← hx] at cx
      subst hA
      have HX := hide (show l.drop j = x :: l.drop (j + 1) by rw [hx]; exact List.drop_eq_getElem_cons _)
      obtain ⟨i1, i2, i3⟩ := idx_at hlt
      have zb := lt_of_cell cx
      simp only [] at zb
      have q0 := blk_one wr 139 #[.pointer (some ⟨q.p, 0, none⟩), .int .u8 (x.toNat : Nat)]
      have hb1 := below_alloc (Below.refl wr.heap.size wr) (.cells #[.pointer (some ⟨q.p, 0, none⟩), .int .u8 (x.toNat : Nat)] 139)
      have HB1 := hide hb1
      have HC := hide (do_prog q S' (k + j) x _ (HDr.out.below hb1) (by rw [HP.out.2.2]; have := HFIT.out; omega) (by have := HP.out.2.1; have := HOPS.out; omega))
      obtain ⟨D, hD⟩ : ∃ D, D = doP S' (k + j) x := ⟨_, rfl⟩
      rw [← hD] at HC
      obtain ⟨D1, D2⟩ := D
      have HDD := hide hD
      clear hx hD hb1
      obtain ⟨q0_c0, q0_c1⟩ := cel2 q0
      have q0_f := q0.frozen
      clear q0
      by_cases h0 : S'.ahead = 0
      · have h7 : D2 = 7 := by have := (doP_er S' (k + j) x).1 h0; rw [← HDD.out] at this; exact this
        subst h7
        have HRE : Hid (R = (D1, 7)) := hide (by rw [HP.out.1, HX.out, progF_do, if_pos h0, ← HDD.out])
        clear h0
        go_wp2_with fail
        refine HC.out.mono ?_
        rintro e w2 ⟨rfl, h1, h2⟩
        have HH := hide (And.intro h1 h2)
        clear h1 h2
        go_wp2_with fail
        go_ret
        exact (⟨by rw [HRE.out], by rw [HRE.out]; exact HH.out.1, (HOr.out.step HB1.out).trans HH.out.2 (fun _ _ h => h)⟩ : DoR q R w _ _)
      · have h7 : D2 = 0 := by have := (doP_er S' (k + j) x).2 h0; rw [← HDD.out] at this; exact this
        subst h7
        have HRE : Hid (R = progF D1 (k + (j + 1)) (l.drop (j + 1))) := hide (by rw [HP.out.1, HX.out, progF_do, if_neg h0, ← HDD.out]; rfl)
        have HL1 : Hid (D1.ops ≤ S.ops + (j + 1) ∧ D1.b.length = S.b.length) := hide (by
          have h1 := doP_len S' (k + j) x
          rw [← HDD.out] at h1
          simp only [] at h1
          have := HP.out.2
          omega)
        clear h0
        go_wp2_with fail
        refine HC.out.mono ?_
        rintro e w2 ⟨rfl, h1, h2⟩
        have HH := hide (And.intro h1 h2)
        clear h1 h2
        go_wp2_with fail
        have HO2 := hide ((HOr.out.step HB1.out).trans HH.out.2 (fun _ _ h => h))
        have HD2 := hide HH.out.1
        go_roundw
        case rel => exact ⟨j + 1, D1, by omega, by go_num, HD2, HO2, hide ⟨HRE.out, HL1.out⟩⟩
        case measure => simp [intOf]; omega
    · have hjn : j = n := by omega
      have HRE : Hid (R = (S', 0)) := hide (by rw [HP.out.1, List.drop_eq_nil_of_le (by rw [hjn, HN.out]; exact Nat.le_refl _), progF])
      go_wp2_with fail
      go_ret
      exact (⟨by rw [HRE.out], by rw [HRE.out]; exact HDr.out, HOr.out⟩ : DoR q R w _ _)
theorem fl_Read (q : FP) (S : FS) (k n : Nat) (w : World) (hD : FD w q S) (hoff : S.off = false) (hfit : k + n ≤ S.b.length) :
    Calls Try.prog 29 #[.pointer (some ⟨q.p, 0, none⟩), .int .i64 (k : Nat), .int .i64 (n : Nat)] w fun e w' => ∃ A c, e = .returned (.tuple #[.slice A n c, .int .i64 0]) ∧ OwnB w' w.heap.size A n c ((S.b.drop k).take n) ∧ Below w.heap.size w w' := by
  have h8 := hD.fit.wl8
  have hL := hD.fit.len
  have hk8 : k + n ≤ 8192 := by omega
  have HR := hide (fl_room q S k n w hD (by omega) (by omega))
  rw [roomE_ok hoff hfit] at HR
  obtain ⟨⟨c0, -⟩, -⟩ := hD.c
  have hcb := hD.bs.le
  have hsl : Sl w (cutA (some ⟨q.gb, 0, none⟩) q.cb k 1) (((S.b.drop k).take n).map bv) := by
    have h1 := (hD.bs.sl.cut1 (k := k) (c := q.cb) (by rw [List.length_map]; exact hcb)).take n
    rw [← List.map_drop, ← List.map_take] at h1
    exact h1
  have hln : n = ((S.b.drop k).take n).length := by simp; omega
  obtain ⟨L, hLL⟩ : ∃ L, L = (S.b.drop k).take n := ⟨_, rfl⟩
  rw [← hLL] at hsl hln ⊢
  obtain ⟨N, hN⟩ : ∃ N, N = S.b.length := ⟨_, rfl⟩
  rw [← hN] at c0 hfit hcb
  have hcut := cut2_b (some ⟨q.gb, 0, none⟩) N q.cb k (k + n) (k : Nat) ((k : Int) + (n : Int)) .i64 .i64 rfl (by omega) (by omega) (by omega) w
  rw [show k + n - k = n by omega] at hcut
  have HS := hide hsl
  have HLN := hide hln
  clear hD h8 hL hoff hLL hN hsl hln
  go_enter Try.func29, Try.ntmps29
  go_wp2_with fail
  refine HR.out.mono ?_
  rintro e w1 ⟨rfl, rfl⟩
  go_wp2_with (at_builtin; refine app_b _ rfl _ _ rfl w.heap.size none 0 0 [] rfl (OwnB.nil _ _) (cutA (some ⟨q.gb, 0, none⟩) q.cb k 1) n (q.cb - k) L (by rfl) HLN.out HS.out (by omega) (Nat.le_refl _) n (by omega) ?_; intro A3 c3 w3 hown3 _ _ hb3)
  go_ret2
  exact ⟨_, _, rfl, by simpa using hown3, hb3⟩
end Go.Proofs.Ytfddfgonhgidbaa
