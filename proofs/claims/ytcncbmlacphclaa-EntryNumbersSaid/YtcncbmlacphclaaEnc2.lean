/- Package types: Encode; and what it says back. -/
import Derived.Test.YtcncbmlacphclaaEnc
namespace Go.Proofs.Ytcncbmlacphclaa
set_option linter.unusedVariables false
set_option linter.unusedSimpArgs false
set_option linter.unnecessarySimpa false
open Go.RowKit
set_option maxRecDepth 100000
set_option maxHeartbeats 2000000

theorem sg_fits {t n : Int} (h : tyBits t ≠ 0) (hs : tySigned t = true) (h1 : tyLow t ≤ n) (h2 : n ≤ tyHigh t) : SgFits (tySize t) n := by
  rcases ty_num_cases t h with rfl | rfl | rfl | rfl | rfl | rfl | rfl | rfl
  · cases hs
  · exact .inl ⟨rfl, h1, h2⟩
  · exact .inr (.inl ⟨rfl, h1, h2⟩)
  · exact .inr (.inr (.inl ⟨rfl, h1, h2⟩))
  · cases hs
  · cases hs
  · cases hs
  · exact .inr (.inr (.inr ⟨rfl, h1, h2⟩))
theorem un_fits {t n : Int} (h : tyBits t ≠ 0) (hs : tySigned t = false) (h1 : tyLow t ≤ n) (h2 : n ≤ tyHigh t) : 0 ≤ n ∧ n ≤ 4294967295 ∧ n.toNat < 256 ^ (tySize t).toNat ∧ lowN (tySize t) n = n.toNat ∧ (t = 1 → n ≤ 1) := by
  rcases ty_num_cases t h with rfl | rfl | rfl | rfl | rfl | rfl | rfl | rfl
  case inr.inl => cases hs
  case inr.inr.inl => cases hs
  case inr.inr.inr.inl => cases hs
  case inr.inr.inr.inr.inr.inr.inr => cases hs
  · have a : 0 ≤ n := h1
    have b : n ≤ 1 := h2
    obtain ⟨e1, _⟩ := low_is n
    refine ⟨a, by omega, ?_, ?_, fun _ => b⟩
    · show n.toNat < 256 ^ 1; omega
    · show lowN 1 n = _; rw [e1]; omega
  · have a : 0 ≤ n := h1
    have b : n ≤ 255 := h2
    obtain ⟨e1, _⟩ := low_is n
    refine ⟨a, by omega, ?_, ?_, fun h => absurd h (by decide)⟩
    · show n.toNat < 256 ^ 1; omega
    · show lowN 1 n = _; rw [e1]; omega
  · have a : 0 ≤ n := h1
    have b : n ≤ 65535 := h2
    obtain ⟨_, e1, _⟩ := low_is n
    refine ⟨a, by omega, ?_, ?_, fun h => absurd h (by decide)⟩
    · show n.toNat < 256 ^ 2; omega
    · show lowN 2 n = _; rw [e1]; omega
  · have a : 0 ≤ n := h1
    have b : n ≤ 4294967295 := h2
    obtain ⟨_, _, e1, _⟩ := low_is n
    refine ⟨a, by omega, ?_, ?_, fun h => absurd h (by decide)⟩
    · show n.toNat < 256 ^ 4; omega
    · show lowN 4 n = _; rw [e1]; omega
def encB (t n : Int) : List UInt8 := leB (tySize t).toNat (lowN (tySize t) n)
theorem enc_len (t n : Int) (h : tyBits t ≠ 0) : ((encB t n).length : Int) = tySize t := by
  have := ty_wd h
  unfold encB
  rw [leB_length]
  rcases this with h | h | h | h <;> rw [h] <;> rfl
/-- what was laid down says the number back -/
theorem enc_dec {t n : Int} (h : tyBits t ≠ 0) (h1 : tyLow t ≤ n) (h2 : n ≤ tyHigh t) : decV t (encB t n) = n ∧ decE t (encB t n) = 0 := by
  have hl := enc_len t n h
  have hle : leN (encB t n) = lowN (tySize t) n := by
    unfold encB
    rw [leN_leB]
    exact Nat.mod_eq_of_lt (low_lt (ty_wd h) n)
  by_cases hs : tySigned t = true
  · obtain ⟨e1, e2⟩ := dec_sgn (encB t n) h hl.symm hs
    rw [e1, e2, hle, sgn_low (sg_fits h hs h1 h2)]
    exact ⟨rfl, rfl⟩
  · have hs' : tySigned t = false := by simpa using hs
    obtain ⟨e1, e2⟩ := dec_uns (encB t n) h hl.symm hs'
    obtain ⟨a, b, c, d, e⟩ := un_fits h hs' h1 h2
    have : ¬ (t = 1 ∧ 1 < leN (encB t n)) := by
      rintro ⟨h, h'⟩
      have := e h
      rw [hle, d] at h'
      omega
    rw [e1, e2, if_neg this, if_neg this, hle, d]
    exact ⟨by omega, rfl⟩
theorem ty_enc_no (t n : Int) (w : World) (h : tyBits t ≠ 0) (hn : n < tyLow t ∨ tyHigh t < n) :
    Calls Try.prog 47 #[.int .i64 t, .int .i64 n] w fun e w' => e = .returned (.tuple #[.slice none 0 0, .int .i64 9]) ∧ Below w.heap.size w w' := by
  have HB : Hid (tyNum t = true) := hide (by simp [tyNum, h])
  clear h
  rcases (show n < tyLow t ∨ (tyLow t ≤ n ∧ tyHigh t < n) by omega) with h | ⟨h1, h2⟩
  all_goals
    clear hn
    go_enter Try.func47, Try.ntmps47
    go_wp2_with fail
    refine (ty_limits t _).mono ?_
    rintro e w1 ⟨rfl, hb1⟩
    rw [HB.out]
    go_wp2_with fail
    go_ret2
    exact ⟨rfl, hb1⟩
theorem ty_enc_ok (t n : Int) (w : World) (h : tyBits t ≠ 0) (h1 : tyLow t ≤ n) (h2 : n ≤ tyHigh t) :
    Calls Try.prog 47 #[.int .i64 t, .int .i64 n] w fun e w' => ∃ A' n' c', e = .returned (.tuple #[.slice A' n' c', .int .i64 0]) ∧
      OwnB w' w.heap.size A' n' c' (encB t n) ∧ Below w.heap.size w w' := by
  have HB : Hid (tyNum t = true) := hide (by simp [tyNum, h])
  cases hs : tySigned t
  · obtain ⟨a, b, c, d, _⟩ := un_fits h hs h1 h2
    have HE : Hid (encB t n = leB (tySize t).toNat n.toNat) := hide (by unfold encB; rw [d])
    have h8 : 1 ≤ tySize t ∧ tySize t ≤ 8 := by rcases ty_wd h with h | h | h | h <;> omega
    have HP := hide (fun W => put_ok' none 0 0 [] (tySize t) n.toNat W rfl h8.1 h8.2 c (by omega) (Sl.nil _ _))
    have HU : Hid (IntKind.u64.wrap n = (n.toNat : Int)) := hide (by rw [IntKind.wrap_u64]; omega)
    have HS := hide hs
    clear hs h a b c d h8
    go_enter Try.func47, Try.ntmps47
    go_wp2_with fail
    refine (ty_limits t _).mono ?_
    rintro e w1 ⟨rfl, hb1⟩
    rw [HB.out]
    go_wp2_with fail
    refine (ty_signed t _).mono ?_
    rintro e w2 ⟨rfl, hb2⟩
    rw [HS.out]
    go_wp2_with fail
    refine (ty_size t _).mono ?_
    rintro e w3 ⟨rfl, hb3⟩
    go_wp2_with fail
    first | rw [HU.out] | skip
    refine (HP.out _).mono ?_
    rintro e w4 ⟨A', n', c', rfl, hO, hb4⟩
    go_wp2_with fail
    go_ret2
    rw [HE.out]
    have hbw := below_step hb3 (below_step hb2 hb1)
    refine ⟨_, _, _, rfl, ⟨hO.hn, hO.own.mono hbw.size⟩, below_step hb4 hbw⟩
  · have HP := hide (fun W => oct_putint (tySize t) n W (sg_fits h hs h1 h2))
    have HS := hide hs
    clear hs h
    go_enter Try.func47, Try.ntmps47
    go_wp2_with fail
    refine (ty_limits t _).mono ?_
    rintro e w1 ⟨rfl, hb1⟩
    rw [HB.out]
    go_wp2_with fail
    refine (ty_signed t _).mono ?_
    rintro e w2 ⟨rfl, hb2⟩
    rw [HS.out]
    go_wp2_with fail
    refine (ty_size t _).mono ?_
    rintro e w3 ⟨rfl, hb3⟩
    go_wp2_with fail
    refine (HP.out _).mono ?_
    rintro e w4 ⟨A', n', c', rfl, hO, hb4⟩
    go_wp2_with fail
    go_ret2
    have hbw := below_step hb3 (below_step hb2 hb1)
    refine ⟨_, _, _, rfl, ⟨hO.hn, hO.own.mono hbw.size⟩, below_step hb4 hbw⟩
end Go.Proofs.Ytcncbmlacphclaa
