/- The reference of types: Known, Size, Bits, Signed, Limits, Decode, Check. -/
import Derived.Test.YtabgdfbiocoimaaOctI
namespace Go.Proofs.Ytabgdfbiocoimaa
set_option linter.unusedVariables false
set_option linter.unusedSimpArgs false
set_option linter.unnecessarySimpa false
open Go.RowKit
set_option maxRecDepth 100000
set_option maxHeartbeats 2000000

def SameV (v : Value) (w : World) (e : Ending) (w' : World) : Prop := e = .returned v ∧ w = w'
theorem rty_known (t : Int) (w : World) : Calls Try.prog 99 #[.int .i64 t] w (SameV (.bool (tyKnown t)) w) := by
  have hnm : Calls Try.prog 118 #[.int .i64 t] w fun e w' => ∃ s : ByteArray, (e = .returned (.string s) ∧ w = w') ∧ Hid (if tyKnown t = true then ¬ s.toList = [] else s = ⟨#[]⟩) := by
    go_enter Try.func118, Try.ntmps118
    go_wp2_with fail
    all_goals (go_ret; exact ⟨_, ⟨rfl, rfl⟩, hide (by simp_all [tyKnown])⟩)
  cases hk : tyKnown t
  · have HN := hide hnm
    rw [hk] at HN
    clear hk hnm
    go_enter Try.func99, Try.ntmps99
    go_wp2_with fail
    refine HN.out.mono ?_
    rintro e w1 ⟨s, ⟨rfl, rfl⟩, HS⟩
    obtain rfl := HS.out
    go_wp2_with fail
    go_ret
    exact ⟨rfl, rfl⟩
  · have HN := hide hnm
    rw [hk] at HN
    clear hk hnm
    go_enter Try.func99, Try.ntmps99
    go_wp2_with fail
    refine HN.out.mono ?_
    rintro e w1 ⟨s, ⟨rfl, rfl⟩, HS⟩
    have hs : ¬ s.toList = [] := by have := HS.out; simpa using this
    have hs2 : s.toList.isEmpty = false := by simpa using hs
    go_wp2_with fail
    go_ret
    exact ⟨rfl, rfl⟩
theorem rty_size (t : Int) (w : World) : Calls Try.prog 120 #[.int .i64 t] w (SameV (.int .i64 (tySize t)) w) := by
  go_enter Try.func120, Try.ntmps120
  go_wp2_with fail
  all_goals (go_ret; exact ⟨ret_int (by simp_all [tySize]), rfl⟩)
theorem rty_signed (t : Int) (w : World) : Calls Try.prog 117 #[.int .i64 t] w (SameV (.bool (tySigned t)) w) := by
  go_enter Try.func117, Try.ntmps117
  go_wp2_with fail
  all_goals (go_ret; exact ⟨ret_bool (by rw [Bool.eq_iff_iff]; simp_all [tySigned]; try omega), rfl⟩)
theorem rty_bits (t : Int) (w : World) : Calls Try.prog 108 #[.int .i64 t] w (SameV (.int .i64 (tyBits t)) w) := by
  have hz : 0 ≤ tySize t ∧ tySize t ≤ 8 := by unfold tySize; (repeat' split) <;> omega
  obtain ⟨hz1, hz2⟩ := hz
  by_cases h : t = 1
  · subst h
    go_enter Try.func108, Try.ntmps108
    go_wp2_with fail
    go_ret
    exact ⟨rfl, rfl⟩
  · have HB : Hid (tyBits t = 8 * tySize t) := hide (by simp [tyBits, h])
    have h' : (t == 1) = false := by simpa using h
    clear h
    go_enter Try.func108, Try.ntmps108
    go_wp2_with fail
    refine (rty_size t _).mono ?_
    rintro e w1 ⟨rfl, rfl⟩
    go_wp2_with fail
    go_ret
    exact ⟨ret_int HB.out.symm, rfl⟩
theorem high_of (t : Int) (h : tyBits t ≠ 0) : tyHigh t = 2 ^ ((if tySigned t = true then tyBits t - 1 else tyBits t).toNat) - 1 ∧ tyLow t = if tySigned t = true then -tyHigh t - 1 else 0 := by
  rcases ty_num_cases t h with rfl | rfl | rfl | rfl | rfl | rfl | rfl | rfl <;> exact ⟨by decide, rfl⟩
theorem two_le (k : Nat) (h : k ≤ 63) : (2 : Int) ^ k ≤ 9223372036854775808 := by
  have h1 : (2 : Nat) ^ k ≤ 9223372036854775808 := Nat.le_trans (Nat.pow_le_pow_right (by omega) h) (by decide)
  have h2 : (2 : Int) ^ k = ((2 ^ k : Nat) : Int) := by push_cast; rfl
  rw [h2]
  omega
theorem high_step (p : Int) (h0 : 0 ≤ p) (h : 2 * p + 2 ≤ 9223372036854775808) : wrap64 (wrap64 (2 * p) + 1) = 2 * p + 1 := by unfold wrap64; omega
/-- what the loop lays up, as it is known to the walk -/
def hiN (k : Nat) : Int := 2 ^ k - 1
theorem hiN_step (k : Nat) (h : k + 1 ≤ 63) : wrap64 (wrap64 (2 * hiN k) + 1) = hiN (k + 1) := by
  have h1 := two_le (k + 1) h
  have h2 : (0 : Int) < 2 ^ k := Int.pow_pos (by omega)
  have h3 : (2 : Int) ^ (k + 1) = 2 * 2 ^ k := by rw [Int.pow_succ, Int.mul_comm]
  rw [high_step _ (by unfold hiN; omega) (by unfold hiN; omega)]
  unfold hiN
  omega
def RLimR (t : Int) (w : World) (e : Ending) (w' : World) : Prop := e = .returned (.tuple #[.int .i64 (tyLow t), .int .i64 (tyHigh t), .bool (tyNum t)]) ∧ w = w'
theorem ret_lim {a b a' b' : Int} {c : Bool} (h1 : a = a') (h2 : b = b') : Ending.returned (.tuple #[.int .i64 a, .int .i64 b, .bool c]) = .returned (.tuple #[.int .i64 a', .int .i64 b', .bool c]) := by rw [h1, h2]
theorem rlim_zero {t : Int} (h : tyBits t = 0) : tyLow t = 0 ∧ tyHigh t = 0 ∧ tyNum t = false := by
  have : tyNum t = false := by simp [tyNum, h]
  rcases ty_cases t with rfl | rfl | rfl | rfl | rfl | rfl | rfl | rfl | rfl | rfl | rfl | hn
  iterate 7 exact absurd h (by decide)
  iterate 3 exact ⟨rfl, rfl, this⟩
  · exact absurd h (by decide)
  · exact ⟨(ty_none hn).2.2.2.2.2, (ty_none hn).2.2.2.2.1, this⟩
theorem rty_limits (t : Int) (w : World) : Calls Try.prog 97 #[.int .i64 t] w (RLimR t w) := by
  by_cases h : tyBits t = 0
  · have HL := hide (rlim_zero h)
    have h' : (tyBits t == 0) = true := by simpa using h
    clear h
    go_enter Try.func97, Try.ntmps97
    go_wp2_with fail
    refine (rty_bits t _).mono ?_
    rintro e w1 ⟨rfl, rfl⟩
    go_wp2_with fail
    go_ret3
    obtain ⟨h1, h2, h3⟩ := HL.out
    exact ⟨by rw [h1, h2, h3]; rfl, rfl⟩
  · obtain ⟨hh, hl⟩ := high_of t h
    have HN : Hid (tyNum t = true) := hide (by simp [tyNum, h])
    have hb : 1 ≤ tyBits t ∧ tyBits t ≤ 64 ∧ (tySigned t = false → tyBits t ≤ 32) := by
      rcases ty_num_cases t h with rfl | rfl | rfl | rfl | rfl | rfl | rfl | rfl <;> exact ⟨by decide, by decide, by decide⟩
    obtain ⟨hb1, hb2, hb3⟩ := hb
    have h' : (tyBits t == 0) = false := by simpa using h
    clear h
    cases hs : tySigned t
    · rw [hs] at hh hl hb3
      have hb4 := hb3 rfl
      have HH := hide hh
      have HL := hide hl
      have HS := hide hs
      clear hh hl hs hb3
      go_enter Try.func97, Try.ntmps97
      go_wp2_with fail
      refine (rty_bits t _).mono ?_
      rintro e w1 ⟨rfl, rfl⟩
      go_wp2_with fail
      refine (rty_signed t _).mono ?_
      rintro e w1 ⟨rfl, rfl⟩
      rw [HS.out]
      go_wp2_with fail
      go_loop [6, 7] (fun n i => ∃ k : Nat, k ≤ tyBits t ∧ i = .int .i64 k ∧ n = .int .i64 (hiN k)) (fun _ i => (tyBits t).toNat - (intOf i).toNat)
      case atStart => exact ⟨0, by omega, rfl, rfl⟩
      case round =>
        obtain ⟨k, hk, rfl, rfl⟩ := hrel
        by_cases hlt : (k : Int) < tyBits t
        · have HP := hide (hiN_step k (by omega))
          go_wp2_with fail
          go_round
          case rel => exact ⟨k + 1, by omega, by go_num, by rw [HP.out]⟩
          case measure => simp [intOf]; omega
        · go_wp2_with fail
          refine (rty_signed t _).mono ?_
          rintro e w1 ⟨rfl, rfl⟩
          rw [HS.out]
          go_wp2_with fail
          go_ret3
          have : k = (tyBits t).toNat := by omega
          subst this
          exact ⟨by rw [HL.out, HH.out, HN.out]; rfl, rfl⟩
    · rw [hs] at hh hl
      have HH := hide hh
      have HL := hide hl
      have HS := hide hs
      clear hh hl hs hb3
      go_enter Try.func97, Try.ntmps97
      go_wp2_with fail
      refine (rty_bits t _).mono ?_
      rintro e w1 ⟨rfl, rfl⟩
      go_wp2_with fail
      refine (rty_signed t _).mono ?_
      rintro e w1 ⟨rfl, rfl⟩
      rw [HS.out]
      go_wp2_with fail
      go_loop [6, 7] (fun n i => ∃ k : Nat, k ≤ tyBits t - 1 ∧ i = .int .i64 k ∧ n = .int .i64 (hiN k)) (fun _ i => (tyBits t - 1).toNat - (intOf i).toNat)
      case atStart => exact ⟨0, by omega, rfl, rfl⟩
      case round =>
        obtain ⟨k, hk, rfl, rfl⟩ := hrel
        by_cases hlt : (k : Int) < tyBits t - 1
        · have HP := hide (hiN_step k (by omega))
          go_wp2_with fail
          go_round
          case rel => exact ⟨k + 1, by omega, by go_num, by rw [HP.out]⟩
          case measure => simp [intOf]; omega
        · have hk2 : (k : Int) = tyBits t - 1 := by omega
          have HW : Hid (wrap64 (-hiN k) = -hiN k ∧ wrap64 (-hiN k - 1) = -hiN k - 1) := hide (by
            have h1 := two_le k (by omega)
            have h2 : (0 : Int) < 2 ^ k := Int.pow_pos (by omega)
            unfold hiN wrap64
            omega)
          have HK := hide hk2
          obtain ⟨hw1, hw2⟩ := HW.out
          clear hk2
          go_wp2_with fail
          refine (rty_signed t _).mono ?_
          rintro e w1 ⟨rfl, rfl⟩
          rw [HS.out]
          go_wp2_with fail
          go_ret3
          have : k = (tyBits t - 1).toNat := by have := HK.out; omega
          subst this
          refine ⟨?_, rfl⟩
          rw [HL.out, HH.out, HN.out]
          simp only [if_true]
          exact ret_lim hw2 rfl
def RDecR (t : Int) (l : List UInt8) (w : World) (e : Ending) (w' : World) : Prop := e = .returned (.tuple #[.int .i64 (decV t l), .int .i64 (decE t l)]) ∧ w = w'
set_option maxHeartbeats 4000000 in
theorem rty_decode (t : Int) (A : Option Addr) (n c : Nat) (l : List UInt8) (w : World) (hn : n = l.length) (hc : n ≤ c) (hl : n ≤ 35184372088832) (hs : Sl w A (l.map bv)) :
    Calls Try.prog 109 #[.int .i64 t, .slice A n c] w (RDecR t l w) := by
  have HB := fun W => rty_bits t W
  have HZ := fun W => rty_size t W
  have HG := fun W => rty_signed t W
  by_cases h : tyBits t = 0
  · have HL := hide (dec_none l h)
    have h' : (tyBits t == 0) = true := by simpa using h
    clear h HB HZ HG
    go_enter Try.func109, Try.ntmps109
    go_wp2_with fail
    refine (rty_bits t _).mono ?_
    rintro e w1 ⟨rfl, rfl⟩
    go_wp2_with fail
    go_ret2
    obtain ⟨h1, h2⟩ := HL.out
    exact ⟨by rw [h1, h2]; rfl, rfl⟩
  clear HB HZ HG
  have h' : (tyBits t == 0) = false := by simpa using h
  by_cases h1 : (n : Int) < tySize t
  · have HL := hide (dec_short l h (by omega))
    clear h
    go_enter Try.func109, Try.ntmps109
    go_wp2_with fail
    refine (rty_bits t _).mono ?_
    rintro e w1 ⟨rfl, rfl⟩
    go_wp2_with fail
    refine (rty_size t _).mono ?_
    rintro e w1 ⟨rfl, rfl⟩
    go_wp2_with fail
    go_ret2
    obtain ⟨h1, h2⟩ := HL.out
    exact ⟨by rw [h1, h2]; rfl, rfl⟩
  by_cases h2 : tySize t < (n : Int)
  · have HL := hide (dec_big l h (by omega))
    clear h
    go_enter Try.func109, Try.ntmps109
    go_wp2_with fail
    refine (rty_bits t _).mono ?_
    rintro e w1 ⟨rfl, rfl⟩
    go_wp2_with fail
    refine (rty_size t _).mono ?_
    rintro e w1 ⟨rfl, rfl⟩
    go_wp2_with fail
    refine (rty_size t _).mono ?_
    rintro e w1 ⟨rfl, rfl⟩
    go_wp2_with fail
    go_ret2
    obtain ⟨h1, h2⟩ := HL.out
    exact ⟨by rw [h1, h2]; rfl, rfl⟩
  have h3 : tySize t = (n : Int) := by omega
  have HW := hide (ty_wd h)
  have hx := leN_lt l
  rw [← hn] at hx
  by_cases hg : tySigned t = true
  · have HL := hide (dec_sgn l h (by omega) hg)
    have HN := hide hn
    have H3 := hide h3
    have HS := hide hg
    clear h hn h3 hx hg
    go_enter Try.func109, Try.ntmps109
    go_wp2_with fail
    refine (rty_bits t _).mono ?_
    rintro e w1 ⟨rfl, rfl⟩
    go_wp2_with fail
    refine (rty_size t _).mono ?_
    rintro e w1 ⟨rfl, rfl⟩
    go_wp2_with fail
    refine (rty_size t _).mono ?_
    rintro e w1 ⟨rfl, rfl⟩
    go_wp2_with fail
    refine (rty_signed t _).mono ?_
    rintro e w1 ⟨rfl, rfl⟩
    rw [HS.out]
    go_wp2_with fail
    refine (rty_size t _).mono ?_
    rintro e w1 ⟨rfl, rfl⟩
    go_wp2_with fail
    refine (rgetint A n c l (tySize t) _ HW.out HN.out H3.out hc hs).mono ?_
    rintro e w2 ⟨rfl, rfl⟩
    go_wp2_with fail
    go_ret2
    obtain ⟨h1, h2⟩ := HL.out
    exact ⟨by rw [h1, h2]; rfl, rfl⟩
  · have hg' : tySigned t = false := by simpa using hg
    have HL := hide (dec_uns l h (by omega) hg')
    have hu := ty_uns h hg'
    have h8 : 1 ≤ tySize t ∧ tySize t ≤ 8 := by rcases HW.out with hw | hw | hw | hw <;> omega
    have HG := hide (rget_ok A n c l 0 (tySize t) w hn hc (by omega) (by omega) (by omega) h8.1 h8.2 hs)
    have HE := hide (show (l.drop (Int.toNat 0)).take (tySize t).toNat = l by rw [List.take_of_length_le (by simp; omega)]; rfl)
    have hx' : leN l ≤ 4294967295 := by
      have h4 : tySize t ≤ 4 := by rcases hu with rfl | rfl | rfl | rfl <;> decide
      have : 256 ^ n ≤ 256 ^ 4 := Nat.pow_le_pow_right (by omega) (by omega)
      have h5 : (256 : Nat) ^ 4 = 4294967296 := by decide
      omega
    have HS := hide hg'
    obtain ⟨x, hxx⟩ : ∃ x, leN l = x := ⟨_, rfl⟩
    rw [hxx] at HL hx'
    have HX := hide hxx
    have HD : Hid (t = 1 ∨ t ≠ 1) := hide (by omega)
    have H3 := hide h3
    clear hxx h hn h8 HW hg hg' hx hu h3
    rcases HD.out with h1t | h1t
    case inl =>
      have H1 := hide h1t
      have h1' : (t == 1) = true := by simpa using h1t
      clear h1t
      by_cases hx1 : 1 < x
      all_goals
        have HX1 := hide hx1
        go_enter Try.func109, Try.ntmps109
        go_wp2_with fail
        refine (rty_bits _ _).mono ?_
        rintro e w1 ⟨rfl, rfl⟩
        go_wp2_with fail
        refine (rty_size _ _).mono ?_
        rintro e w1 ⟨rfl, rfl⟩
        go_wp2_with fail
        refine (rty_size _ _).mono ?_
        rintro e w1 ⟨rfl, rfl⟩
        go_wp2_with fail
        refine (rty_signed _ _).mono ?_
        rintro e w1 ⟨rfl, rfl⟩
        rw [HS.out]
        go_wp2_with fail
        refine (rty_size _ _).mono ?_
        rintro e w1 ⟨rfl, rfl⟩
        go_wp2_with fail
        refine HG.out.mono ?_
        rintro e w2 ⟨rfl, rfl⟩
        rw [HE.out, HX.out]
        go_wp2_with fail
        go_ret2
        obtain ⟨h1, h2⟩ := HL.out
        show _ ∧ _
        rw [h1, h2]
      · rw [if_pos ⟨H1.out, HX1.out⟩, if_pos ⟨H1.out, HX1.out⟩]
        exact ⟨rfl, rfl⟩
      · rw [if_neg (fun h => HX1.out h.2), if_neg (fun h => HX1.out h.2)]
        exact ⟨rfl, rfl⟩
    case inr =>
      have H1 := hide h1t
      have h1' : (t == 1) = false := by simpa using h1t
      clear h1t
      go_enter Try.func109, Try.ntmps109
      go_wp2_with fail
      refine (rty_bits _ _).mono ?_
      rintro e w1 ⟨rfl, rfl⟩
      go_wp2_with fail
      refine (rty_size _ _).mono ?_
      rintro e w1 ⟨rfl, rfl⟩
      go_wp2_with fail
      refine (rty_size _ _).mono ?_
      rintro e w1 ⟨rfl, rfl⟩
      go_wp2_with fail
      refine (rty_signed _ _).mono ?_
      rintro e w1 ⟨rfl, rfl⟩
      rw [HS.out]
      go_wp2_with fail
      refine (rty_size _ _).mono ?_
      rintro e w1 ⟨rfl, rfl⟩
      go_wp2_with fail
      refine HG.out.mono ?_
      rintro e w2 ⟨rfl, rfl⟩
      rw [HE.out, HX.out]
      go_wp2_with fail
      go_ret2
      obtain ⟨h1, h2⟩ := HL.out
      show _ ∧ _
      rw [h1, h2, if_neg (fun h => H1.out h.1), if_neg (fun h => H1.out h.1)]
      exact ⟨rfl, rfl⟩
theorem rty_check (t mx : Int) (A : Option Addr) (n c : Nat) (l : List UInt8) (w : World) (hn : n = l.length) (hc : n ≤ c) (hl : n ≤ 35184372088832) (hs : Sl w A (l.map bv)) :
    Calls Try.prog 110 #[.int .i64 t, .int .i64 mx, .slice A n c] w (SameV (.int .i64 (checkE t mx l)) w) := by
  by_cases hk : tyKnown t = false
  · have HC := hide (show checkE t mx l = 15 by simp [checkE, hk])
    have HK := hide hk
    clear hk hn
    go_enter Try.func110, Try.ntmps110
    go_wp2_with fail
    refine (rty_known t _).mono ?_
    rintro e w1 ⟨rfl, rfl⟩
    rw [HK.out]
    go_wp2_with fail
    go_ret
    exact ⟨ret_int HC.out.symm, rfl⟩
  have hk' : tyKnown t = true := by simpa using hk
  have HK := hide hk'
  by_cases hb : 0 < tyBits t
  · have HC := hide (show checkE t mx l = decE t l by simp [checkE, hk', hb])
    have HD := hide (rty_decode t A n c l w hn hc hl hs)
    clear hk hk' hn
    go_enter Try.func110, Try.ntmps110
    go_wp2_with fail
    refine (rty_known t _).mono ?_
    rintro e w1 ⟨rfl, rfl⟩
    rw [HK.out]
    go_wp2_with fail
    refine (rty_bits t _).mono ?_
    rintro e w1 ⟨rfl, rfl⟩
    go_wp2_with fail
    refine HD.out.mono ?_
    rintro e w2 ⟨rfl, rfl⟩
    go_wp2_with fail
    go_ret
    exact ⟨ret_int HC.out.symm, rfl⟩
  have HC := hide (show checkE t mx l = if mx < (l.length : Int) ∨ 256 < l.length then 3 else if t = 9 ∧ printB l = false then 4 else 0 by simp [checkE, hk', hb])
  have HN := hide hn
  clear hk hk' hn
  by_cases hbig : mx < (n : Int) ∨ 256 < n
  · have HB := hide hbig
    clear hbig
    go_enter Try.func110, Try.ntmps110
    go_wp2_with fail
    refine (rty_known t _).mono ?_
    rintro e w1 ⟨rfl, rfl⟩
    rw [HK.out]
    go_wp2_with fail
    refine (rty_bits t _).mono ?_
    rintro e w1 ⟨rfl, rfl⟩
    have hbig := HB.out
    rcases hbig with hbig | hbig
    · go_wp2_with fail
      go_ret
      refine ⟨ret_int ?_, rfl⟩
      rw [HC.out, if_pos (by have := HN.out; have := HB.out; omega)]
    · have hbig' : (256 : Int) < (n : Int) := by omega
      go_wp2_with fail
      all_goals
        go_ret
        refine ⟨ret_int ?_, rfl⟩
        rw [HC.out, if_pos (by have := HN.out; have := HB.out; omega)]
  · have hn1 : (n : Int) ≤ mx := by omega
    have hn2 : (n : Int) ≤ 256 := by omega
    have HNB : Hid (¬ (mx < (l.length : Int) ∨ 256 < l.length)) := hide (by have := HN.out; omega)
    clear hbig
    go_enter Try.func110, Try.ntmps110
    go_wp2_with fail
    refine (rty_known t _).mono ?_
    rintro e w1 ⟨rfl, rfl⟩
    rw [HK.out]
    go_wp2_with fail
    refine (rty_bits t _).mono ?_
    rintro e w1 ⟨rfl, rfl⟩
    go_wp2_with fail
    go_loop [9] (fun i => ∃ k : Nat, k ≤ n ∧ i = .int .i64 k ∧ Hid (t = 9 → ∀ j (hj : j < l.length), j < k → 32 ≤ (l[j]).toNat ∧ (l[j]).toNat ≤ 126)) (fun i => n - (intOf i).toNat)
    case atStart => exact ⟨0, by omega, rfl, hide (by intro _ j _ h; omega)⟩
    case round =>
      obtain ⟨k, hk, rfl, HA⟩ := hrel
      by_cases hlt : k < n
      · obtain ⟨b, off, rfl, hcell⟩ := hs.byte_ (j := k) (by have := HN.out; omega)
        obtain ⟨x, hx⟩ : ∃ x, x = (l[k]'(by have := HN.out; omega)).toNat := ⟨_, rfl⟩
        rw [← hx] at hcell
        have HX := hide hx
        clear hx
        have H9 : Hid (t = 9 ∨ t ≠ 9) := hide (by omega)
        rcases H9.out with h9 | h9
        · have h9' : (t == 9) = true := by simpa using h9
          have HT := hide h9
          clear h9
          by_cases hp : 32 ≤ x ∧ x ≤ 126
          · obtain ⟨hp1, hp2⟩ := hp
            go_wp2_with fail
            go_round
            case rel =>
              refine ⟨k + 1, by omega, by go_num, hide ?_⟩
              intro ht j hj hjk
              by_cases e : j = k
              · subst e; rw [← HX.out]; exact ⟨hp1, hp2⟩
              · exact HA.out ht j hj (by omega)
            case measure => simp [intOf]; omega
          · have HP := hide hp
            rcases (show x < 32 ∨ (32 ≤ x ∧ 126 < x) by omega) with hp1 | ⟨hp1, hp2⟩
            all_goals
              clear hp
              go_wp2_with fail
              go_ret
              refine ⟨ret_int ?_, rfl⟩
              rw [HC.out, if_neg HNB.out, if_pos ⟨HT.out, print_no l k (by have := HN.out; omega) (by rw [← HX.out]; exact HP.out)⟩]
        · have h9' : (t == 9) = false := by simpa using h9
          clear h9
          go_wp2_with fail
          go_round
          case rel =>
            refine ⟨k + 1, by omega, by go_num, hide ?_⟩
            intro ht
            exact absurd ht (by simpa using h9')
          case measure => simp [intOf]; omega
      · go_wp2_with fail
        go_ret
        refine ⟨ret_int ?_, rfl⟩
        rw [HC.out, if_neg HNB.out, if_neg ?_]
        rintro ⟨h9, hp⟩
        rw [print_yes l (fun j hj => HA.out h9 j hj (by have := HN.out; omega))] at hp
        cases hp
end Go.Proofs.Ytabgdfbiocoimaa
