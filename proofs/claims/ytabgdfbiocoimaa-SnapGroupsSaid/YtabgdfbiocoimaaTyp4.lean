/- Package types: Decode, printed, Check. -/
import Derived.Test.YtabgdfbiocoimaaTyp3
import Derived.Test.YtabgdfbiocoimaaOctI
namespace Go.Proofs.Ytabgdfbiocoimaa
set_option linter.unusedVariables false
set_option linter.unusedSimpArgs false
set_option linter.unnecessarySimpa false
open Go.RowKit
set_option maxRecDepth 100000
set_option maxHeartbeats 2000000

def DecR (t : Int) (l : List UInt8) (w : World) (e : Ending) (w' : World) : Prop := e = .returned (.tuple #[.int .i64 (decV t l), .int .i64 (decE t l)]) ∧ Below w.heap.size w w'
theorem shr1 (x : Nat) (h : x < 256) : ((x : Int) / 2 != 0) = decide (1 < x) := by
  rw [Bool.eq_iff_iff]; simp; omega
theorem ty_decode (t : Int) (A : Option Addr) (n c : Nat) (l : List UInt8) (w : World) (hn : n = l.length) (hc : n ≤ c) (hl : n ≤ 35184372088832) (hs : Sl w A (l.map bv)) :
    Calls Try.prog 95 #[.int .i64 t, .slice A n c] w (DecR t l w) := by
  by_cases h : tyBits t = 0
  · have HL := hide (dec_none l h)
    have h' : (tyBits t == 0) = true := by simpa using h
    clear h
    go_enter Try.func95, Try.ntmps95
    go_wp2_with fail
    refine (ty_of t _).mono ?_
    rintro e w1 ⟨rfl, hb1⟩
    go_wp2_with fail
    go_ret2
    obtain ⟨h1, h2⟩ := HL.out
    exact ⟨by rw [h1, h2]; rfl, (by repeat' (first | with_reducible assumption | with_reducible exact Below.refl _ _ | with_reducible apply below_alloc | with_reducible apply below_drew1 | with_reducible apply below_drewN | (with_reducible apply below_step; with_reducible assumption) | (with_reducible apply below_sg2; (first | exact Nat.le_refl _ | (simp; done) | omega))))⟩
  have h' : (tyBits t == 0) = false := by simpa using h
  by_cases h1 : (n : Int) < tySize t
  · have HL := hide (dec_short l h (by omega))
    clear h
    go_enter Try.func95, Try.ntmps95
    go_wp2_with fail
    refine (ty_of t _).mono ?_
    rintro e w1 ⟨rfl, hb1⟩
    go_wp2_with fail
    go_ret2
    obtain ⟨h1, h2⟩ := HL.out
    exact ⟨by rw [h1, h2]; rfl, (by repeat' (first | with_reducible assumption | with_reducible exact Below.refl _ _ | with_reducible apply below_alloc | with_reducible apply below_drew1 | with_reducible apply below_drewN | (with_reducible apply below_step; with_reducible assumption) | (with_reducible apply below_sg2; (first | exact Nat.le_refl _ | (simp; done) | omega))))⟩
  by_cases h2 : tySize t < (n : Int)
  · have HL := hide (dec_big l h (by omega))
    clear h
    go_enter Try.func95, Try.ntmps95
    go_wp2_with fail
    refine (ty_of t _).mono ?_
    rintro e w1 ⟨rfl, hb1⟩
    go_wp2_with fail
    go_ret2
    obtain ⟨h1, h2⟩ := HL.out
    exact ⟨by rw [h1, h2]; rfl, (by repeat' (first | with_reducible assumption | with_reducible exact Below.refl _ _ | with_reducible apply below_alloc | with_reducible apply below_drew1 | with_reducible apply below_drewN | (with_reducible apply below_step; with_reducible assumption) | (with_reducible apply below_sg2; (first | exact Nat.le_refl _ | (simp; done) | omega))))⟩
  have h3 : tySize t = (n : Int) := by omega
  have HW := hide (ty_wd h)
  have hx := leN_lt l
  rw [← hn] at hx
  by_cases hg : tySigned t = true
  · have HL := hide (dec_sgn l h (by omega) hg)
    have HN := hide hn
    have H3 := hide h3
    clear h hn h3 hx
    go_enter Try.func95, Try.ntmps95
    go_wp2_with fail
    refine (ty_of t _).mono ?_
    rintro e w1 ⟨rfl, hb1⟩
    go_wp2_with fail
    refine (oct_getint A n c l (tySize t) _ HW.out HN.out H3.out hc ((hs.below hb1).alloc _)).mono ?_
    rintro e w2 ⟨rfl, rfl⟩
    go_wp2_with fail
    go_ret2
    obtain ⟨h1, h2⟩ := HL.out
    exact ⟨by rw [h1, h2]; rfl, (by repeat' (first | with_reducible assumption | with_reducible exact Below.refl _ _ | with_reducible apply below_alloc | with_reducible apply below_drew1 | with_reducible apply below_drewN | (with_reducible apply below_step; with_reducible assumption) | (with_reducible apply below_sg2; (first | exact Nat.le_refl _ | (simp; done) | omega))))⟩
  · have hg' : tySigned t = false := by simpa using hg
    have HL := hide (dec_uns l h (by omega) hg')
    have hu := ty_uns h hg'
    have h8 : 1 ≤ tySize t ∧ tySize t ≤ 8 := by rcases HW.out with hw | hw | hw | hw <;> omega
    have HG := hide (fun W (h : Sl W A (l.map bv)) => get_ok' A n c l 0 (tySize t) W hn hc (by omega) (by omega) (by omega) h8.1 h8.2 h)
    have HE := hide (show (l.drop (Int.toNat 0)).take (tySize t).toNat = l by rw [List.take_of_length_le (by simp; omega)]; rfl)
    have hx4 : n = (tySize t).toNat := by omega
    rw [hx4] at hx
    clear h hn hx4 h8 HW hg hg' h' h1 h2
    obtain ⟨x, hxx⟩ : ∃ x, leN l = x := ⟨_, rfl⟩
    rw [hxx] at HL hx
    have HX := hide hxx
    clear hxx
    rcases hu with rfl | rfl | rfl | rfl
    all_goals
      simp only [tv_s1, tv_s5, tv_s6, tv_s7, tv_b1, tv_b5, tv_b6, tv_b7, tv_g1, tv_g5, tv_g6, tv_g7] at HG HE h3 hx
      rcases (show n = 1 ∨ n = 2 ∨ n = 4 by omega) with rfl | rfl | rfl <;> first | (exfalso; revert h3; decide) | skip
    all_goals
      clear h3
      simp only [p1, p2, p4] at hx
      have hx' : x ≤ 4294967295 := by omega
      have HX2 := hide hx
      clear hx
      go_enter Try.func95, Try.ntmps95
      go_wp2_with fail
      refine (ty_of _ _).mono ?_
      rintro e w1 ⟨rfl, hb1⟩
      simp only [tv_s1, tv_s5, tv_s6, tv_s7, tv_b1, tv_b5, tv_b6, tv_b7, tv_g1, tv_g5, tv_g6, tv_g7]
      have hs1 := (hs.below hb1).alloc
      go_wp2_with fail
      refine (HG.out _ (hs1 _)).mono ?_
      rintro e w2 ⟨rfl, rfl⟩
      rw [HE.out, HX.out]
      clear hs1
      go_wp2_with fail
      all_goals
        go_ret2
        obtain ⟨h1, h2⟩ := HL.out
        have := HX2.out
        first
          | (refine ⟨by rw [h1, h2, if_neg (by omega), if_neg (by omega)]; rfl, (by repeat' (first | with_reducible assumption | with_reducible exact Below.refl _ _ | with_reducible apply below_alloc | with_reducible apply below_drew1 | with_reducible apply below_drewN | (with_reducible apply below_step; with_reducible assumption) | (with_reducible apply below_sg2; (first | exact Nat.le_refl _ | (simp; done) | omega))))⟩; done)
          | (refine ⟨by rw [h1, h2, if_pos (by simp at *; omega), if_pos (by simp at *; omega)]; rfl, (by repeat' (first | with_reducible assumption | with_reducible exact Below.refl _ _ | with_reducible apply below_alloc | with_reducible apply below_drew1 | with_reducible apply below_drewN | (with_reducible apply below_step; with_reducible assumption) | (with_reducible apply below_sg2; (first | exact Nat.le_refl _ | (simp; done) | omega))))⟩; done)
          | (refine ⟨by rw [h1, h2, if_neg (by simp at *; omega), if_neg (by simp at *; omega)]; rfl, (by repeat' (first | with_reducible assumption | with_reducible exact Below.refl _ _ | with_reducible apply below_alloc | with_reducible apply below_drew1 | with_reducible apply below_drewN | (with_reducible apply below_step; with_reducible assumption) | (with_reducible apply below_sg2; (first | exact Nat.le_refl _ | (simp; done) | omega))))⟩; done)
theorem ty_printed (A : Option Addr) (n c : Nat) (l : List UInt8) (w : World) (hn : n = l.length) (hl : n ≤ 35184372088832) (hs : Sl w A (l.map bv)) :
    Calls Try.prog 96 #[.slice A n c] w fun e w' => e = .returned (.bool (printB l)) ∧ w = w' := by
  have HN := hide hn
  clear hn
  go_enter Try.func96, Try.ntmps96
  go_wp2_with fail
  go_loop [4, 7] (fun _ i => ∃ k : Nat, k ≤ n ∧ i = .int .i64 k ∧ Hid (∀ j (hj : j < l.length), j < k → 32 ≤ (l[j]).toNat ∧ (l[j]).toNat ≤ 126)) (fun _ i => n - (intOf i).toNat)
  case atStart => exact ⟨0, by omega, rfl, hide (by intro j _ h; omega)⟩
  case round =>
    obtain ⟨k, hk, rfl, HA⟩ := hrel
    by_cases hlt : k < n
    · obtain ⟨ad, rfl, hcell⟩ := hs.byte (j := k) (by have := HN.out; omega)
      obtain ⟨b, hb⟩ : ∃ b, b = (l[k]'(by have := HN.out; omega)).toNat := ⟨_, rfl⟩
      rw [← hb] at hcell
      have HB := hide hb
      clear hb
      by_cases hp : 32 ≤ b ∧ b ≤ 126
      · obtain ⟨hp1, hp2⟩ := hp
        go_wp2_with fail
        go_round
        case rel =>
          refine ⟨k + 1, by omega, by go_num, hide ?_⟩
          intro j hj hjk
          by_cases e : j = k
          · subst e; rw [← HB.out]; exact ⟨hp1, hp2⟩
          · exact HA.out j hj (by omega)
        case measure => simp [intOf]; omega
      · have HP := hide hp
        rcases (show b < 32 ∨ (32 ≤ b ∧ 126 < b) by omega) with hp1 | ⟨hp1, hp2⟩
        all_goals
          clear hp
          go_wp2_with fail
          go_ret
          exact ⟨ret_bool (print_no l k (by have := HN.out; omega) (by rw [← HB.out]; exact HP.out)).symm, rfl⟩
    · go_wp2_with fail
      go_ret
      exact ⟨ret_bool (print_yes l (fun j hj => HA.out j hj (by have := HN.out; omega))).symm, rfl⟩
def CheckR (t mx : Int) (l : List UInt8) (w : World) (e : Ending) (w' : World) : Prop := e = .returned (.int .i64 (checkE t mx l)) ∧ Below w.heap.size w w'
theorem ty_check (t mx : Int) (A : Option Addr) (n c : Nat) (l : List UInt8) (w : World) (hn : n = l.length) (hc : n ≤ c) (hl : n ≤ 35184372088832) (hs : Sl w A (l.map bv)) :
    Calls Try.prog 64 #[.int .i64 t, .int .i64 mx, .slice A n c] w (CheckR t mx l w) := by
  have H := hide (known_of_cmp (t := t))
  by_cases hk : tyKnown t = false
  · have HC := hide (show checkE t mx l = 15 by simp [checkE, hk])
    have hz : (tyNm t).toList = [] ∧ tySize t = 0 ∧ tyBits t = 0 ∧ tySigned t = false := by
      have h1 : (tyNm t).toList = [] := by
        refine Classical.byContradiction fun h => ?_
        have := H.out.1 h
        rw [hk] at this
        cases this
      obtain ⟨h2, h3, h4, _⟩ := H.out.2 h1
      exact ⟨h1, h2, h3, h4⟩
    obtain ⟨z1, z2, z3, z4⟩ := hz
    clear hk
    go_enter Try.func64, Try.ntmps64
    go_wp2_with fail
    refine (ty_of t _).mono ?_
    rintro e w1 ⟨rfl, hb1⟩
    go_wp2_with fail
    go_ret
    exact ⟨ret_int HC.out.symm, (by repeat' (first | with_reducible assumption | with_reducible exact Below.refl _ _ | with_reducible apply below_alloc | with_reducible apply below_drew1 | with_reducible apply below_drewN | (with_reducible apply below_step; with_reducible assumption) | (with_reducible apply below_sg2; (first | exact Nat.le_refl _ | (simp; done) | omega))))⟩
  have hk' : tyKnown t = true := by simpa using hk
  have hz : ¬ (tyNm t).toList = [] := by
    intro h
    have := (H.out.2 h).2.2.2
    rw [hk'] at this
    cases this
  by_cases hb : 0 < tyBits t
  · have HC := hide (show checkE t mx l = decE t l by simp [checkE, hk', hb])
    clear hk hk'
    go_enter Try.func64, Try.ntmps64
    go_wp2_with fail
    refine (ty_of t _).mono ?_
    rintro e w1 ⟨rfl, hb1⟩
    have HD := hide (ty_decode t A n c l (w1.alloc (.cells #[.string (tyNm t), .int .i64 (tySize t), .int .i64 (tyBits t), .bool (tySigned t)] 118)) hn hc hl ((hs.below hb1).alloc _))
    clear hn
    go_wp2_with fail
    refine HD.out.mono ?_
    rintro e w2 ⟨rfl, hb2⟩
    go_wp2_with fail
    go_ret
    exact ⟨ret_int HC.out.symm, (by repeat' (first | with_reducible assumption | with_reducible exact Below.refl _ _ | with_reducible apply below_alloc | with_reducible apply below_drew1 | with_reducible apply below_drewN | (with_reducible apply below_step; with_reducible assumption) | (with_reducible apply below_sg2; (first | exact Nat.le_refl _ | (simp; done) | omega))))⟩
  have HC := hide (show checkE t mx l = if mx < (l.length : Int) ∨ 256 < l.length then 3 else if t = 9 ∧ printB l = false then 4 else 0 by simp [checkE, hk', hb])
  have HN := hide hn
  clear hk hk' hn
  by_cases hbig : mx < (n : Int) ∨ 256 < n
  · have HB := hide hbig
    by_cases hq : 256 < mx
    all_goals
      first | (have hq2 : (256 : Int) < (n : Int) := by omega) | (have hq2 : mx < (n : Int) := by omega)
      clear hbig
      go_enter Try.func64, Try.ntmps64
      go_wp2_with fail
      refine (ty_of t _).mono ?_
      rintro e w1 ⟨rfl, hb1⟩
      go_wp2_with fail
      go_ret
      refine ⟨ret_int ?_, (by repeat' (first | with_reducible assumption | with_reducible exact Below.refl _ _ | with_reducible apply below_alloc | with_reducible apply below_drew1 | with_reducible apply below_drewN | (with_reducible apply below_step; with_reducible assumption) | (with_reducible apply below_sg2; (first | exact Nat.le_refl _ | (simp; done) | omega))))⟩
      rw [HC.out, if_pos (by have := HN.out; have := HB.out; omega)]
  · have hn1 : (n : Int) ≤ mx := by omega
    have hn2 : (n : Int) ≤ 256 := by omega
    have HNB : Hid (¬ (mx < (l.length : Int) ∨ 256 < l.length)) := hide (by have := HN.out; omega)
    clear hbig
    by_cases h9 : t = 9
    · subst h9
      cases hpr : printB l
      all_goals
        have HP := hide hpr
        clear hpr
        by_cases hq : 256 < mx
        all_goals
          go_enter Try.func64, Try.ntmps64
          go_wp2_with fail
          refine (ty_of _ _).mono ?_
          rintro e w1 ⟨rfl, hb1⟩
          go_wp2_with fail
          refine (ty_printed A n c l _ HN.out hl ((hs.below hb1).alloc _)).mono ?_
          rintro e w2 ⟨rfl, rfl⟩
          rw [HP.out]
          go_wp2_with fail
          go_ret
          refine ⟨ret_int ?_, (by repeat' (first | with_reducible assumption | with_reducible exact Below.refl _ _ | with_reducible apply below_alloc | with_reducible apply below_drew1 | with_reducible apply below_drewN | (with_reducible apply below_step; with_reducible assumption) | (with_reducible apply below_sg2; (first | exact Nat.le_refl _ | (simp; done) | omega))))⟩
          rw [HC.out, if_neg HNB.out, HP.out]
          rfl
    · have H9 : Hid (t ≠ 9) := hide h9
      have h9' : (t == 9) = false := by simpa using h9
      clear h9
      by_cases hq : 256 < mx
      all_goals
        go_enter Try.func64, Try.ntmps64
        go_wp2_with fail
        refine (ty_of _ _).mono ?_
        rintro e w1 ⟨rfl, hb1⟩
        go_wp2_with fail
        go_ret
        refine ⟨ret_int ?_, (by repeat' (first | with_reducible assumption | with_reducible exact Below.refl _ _ | with_reducible apply below_alloc | with_reducible apply below_drew1 | with_reducible apply below_drewN | (with_reducible apply below_step; with_reducible assumption) | (with_reducible apply below_sg2; (first | exact Nat.le_refl _ | (simp; done) | omega))))⟩
        rw [HC.out, if_neg HNB.out, if_neg (fun h => H9.out h.1)]
end Go.Proofs.Ytabgdfbiocoimaa
