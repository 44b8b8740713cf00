/- Law 9: data; what an Append without a cut brings. -/
import Derived.Test.YtfddfgonhgidbaaJouW
namespace Go.Proofs.Ytfddfgonhgidbaa
set_option linter.unusedVariables false
set_option linter.unusedSimpArgs false
set_option linter.unnecessarySimpa false
open Go.RowKit
set_option maxRecDepth 20000
set_option maxHeartbeats 8000000

theorem xor_any (a b : Nat) : ∃ c : UInt8, bits BinOp.xor IntKind.u8 (IntKind.u8.wrap (a : Int)) (IntKind.u8.wrap (b : Int)) = ((c.toNat : Nat) : Int) := by
  refine ⟨UInt8.ofNat a ^^^ UInt8.ofNat b, ?_⟩
  have h1 : IntKind.u8.wrap (a : Int) = ((a % 256 : Nat) : Int) := by rw [IntKind.wrap_u8]; omega
  have h2 : IntKind.u8.wrap (b : Int) = ((b % 256 : Nat) : Int) := by rw [IntKind.wrap_u8]; omega
  rw [h1, h2, u8_xor_nat _ _ (by omega) (by omega), UInt8.toNat_xor, UInt8.toNat_ofNat', UInt8.toNat_ofNat']
def DataR (n : Nat) (w : World) (e : Ending) (w' : World) : Prop := ∃ A c l, e = .returned (.slice A n c) ∧ n = l.length ∧ OwnB w' w.heap.size A n c l ∧ Below w.heap.size w w'
theorem law_data (k0 k1 n0 : Int) (sz wm i : Nat) (w : World) (hsz : sz ≤ 65535) (hwm : wm ≤ 4294967295) (hi : i ≤ 1000) :
    Calls Try.prog 11 #[.agg #[.int .i64 k0, .int .i64 k1, .int .u16 (sz : Nat), .int .i64 n0, .int .u32 (wm : Nat)], .int .i64 (i : Nat)] w (DataR (sz % 1001) w) := by
  have q0 := blk_one w 26 #[.int .i64 k0, .int .i64 k1, .int .u16 (sz : Nat), .int .i64 n0, .int .u32 (wm : Nat)]
  have hb0 := below_alloc (Below.refl w.heap.size w) (.cells #[.int .i64 k0, .int .i64 k1, .int .u16 (sz : Nat), .int .i64 n0, .int .u32 (wm : Nat)] 26)
  obtain ⟨N, hN⟩ : ∃ N, N = sz % 1001 := ⟨_, rfl⟩
  have hN1 : N ≤ 1000 := by omega
  have e1 : ((sz : Int) % 1001) = ((N : Nat) : Int) := by omega
  have HQ := hide q0
  have HB0 := hide hb0
  rw [← hN]
  clear q0 hb0 hN
  go_enter Try.func11, Try.ntmps11
  go_wp2_with fail
  go_loopw [5, 6] (fun v j wr => ∃ k A c l, k ≤ N ∧ j = .int .i64 (k : Nat) ∧ v = .slice A k c ∧ Hid (OwnB wr (w.heap.size + 1) A k c l) ∧ Hid (Below (w.heap.size + 1) (w.alloc (.cells #[.int .i64 k0, .int .i64 k1, .int .u16 (sz : Nat), .int .i64 n0, .int .u32 (wm : Nat)] 26)) wr)) (fun _ j _ => N - (intOf j).toNat)
  case atStart => exact ⟨0, none, 0, [], by omega, rfl, rfl, hide (OwnB.nil _ _), hide (Below.refl _ _)⟩
  case round =>
    obtain ⟨k, A, c, l, hk, rfl, rfl, HO, HBr⟩ := hrel
    have qr := HQ.out.below HBr.out (by omega)
    obtain ⟨qr_c0, qr_c1, qr_c2, qr_c3, qr_c4⟩ := cel5 qr
    have qr_f := qr.frozen
    have hzr := HBr.out.size
    simp only [World.size_alloc] at hzr
    clear qr
    by_cases hlt : k < N
    · obtain ⟨z, hz⟩ := xor_any (k + i) wm
      have e2 : (((k + i : Nat) : Nat) : Int) = (k : Int) + (i : Int) := by omega
      rw [e2, IntKind.wrap_u8, IntKind.wrap_u8] at hz
      clear e2
      go_wp2_with (at_builtin; refine app_b _ rfl _ _ rfl (w.heap.size + 1) A k c l rfl (HO.out.alloc _) _ 1 _ [z] rfl rfl (Sl.one _ _ _) (by omega) (by simp; omega) (k + 1) (by omega) ?_; intro A3 c3 w3 hO3 _ _ hb3)
      have HO3 := hide hO3
      have HB3 := hide ((HBr.out.alloc (by omega) (.cells #[bv z] 5)).trans hb3)
      go_roundw
      case rel => exact ⟨k + 1, A3, c3, _, by omega, by go_num, rfl, HO3, HB3⟩
      case measure => simp [intOf]; omega
    · obtain rfl : k = N := by omega
      go_wp2_with fail
      go_ret
      exact (⟨A, c, l, rfl, HO.out.hn, HO.out.mono (by omega), HB0.out.trans (HBr.out.mono (by omega))⟩ : DataR _ w _ _)
/-- an Append without a cut -/
theorem work_step {S : FS} {k : Nat} {d : List UInt8} (hf : Fresh S k) (hoff : S.off = false) (ha : S.ahead < 0) (hk : ((k + 1 : Nat) : Int) < S.most) (hk2 : k + 1 ≤ 1000000) (hd : d.length ≤ 960) :
    ∃ S' b, appJ (openJ S) S 1 d = (openJ S', S', 0) ∧ Fresh S' (k + 1) ∧ S'.off = false ∧ S'.ahead = S.ahead ∧ S'.most = S.most ∧ recJ (openJ S') = (1, numJ (openJ S) + 1, d) ∧ (openJ S').has = true ∧ numJ (openJ S') = numJ (openJ S) + 1 ∧
      S'.ops = S.ops + d.length + 13 + b ∧ b ≤ 1 ∧ S'.wear.sum = S.wear.sum + b ∧ S'.wear.length = S.wear.length := by
  have hr : rightR 1 (numJ (openJ S) + 1) d.length = 0 := by
    unfold rightR
    rw [if_neg (by omega), if_neg (by omega), if_neg (by decide), if_neg (by omega)]
  obtain ⟨⟨J1, S1, e⟩, hap⟩ : ∃ r, r = appJ (openJ S) S 1 d := ⟨_, rfl⟩
  obtain ⟨i, y, er, hs⟩ := fresh_app hf hoff hr hap.symm
  rcases hs.ends with ⟨he, h2, h3, h4, h5, h6⟩ | ⟨_, h, _⟩
  · subst he
    have hJ1 := step_open hs
    have hr2 : newL (looksF S1) = (i, true) ∧ recS S1 = (1, numJ (openJ S) + 1, d) := by
      rcases step_rec hs with h | ⟨h, _⟩
      · exact h
      · exact absurd rfl h
    refine ⟨S1, er.toNat, by rw [← hap, hJ1], fresh_step hf hs hk hk2, h2, h6 ha, hs.kept.most, ?_, ?_, ?_, h5, ?_, wear_sum hs, hs.kept.wear⟩
    · have h7 : recJ (openJ S1) = recS S1 := by unfold recJ recS lastJ openJ; rfl
      rw [h7, hr2.2]
    · unfold openJ; rw [hr2.1]
    · rw [← recS_num, hr2.2]
    · cases er <;> decide
  · omega
theorem sum_four {l : List Nat} (h : l.length = 4) : l.getD 0 0 + l.getD 1 0 + l.getD 2 0 + l.getD 3 0 = l.sum := by
  match l, h with
  | [a, b, c, d], _ => simp; omega
end Go.Proofs.Ytfddfgonhgidbaa
