/- The reference of entries: Name, Value, Right. -/
import Derived.Test.YtabgdfbiocoimaaRTy
import Derived.Test.YtabgdfbiocoimaaEntL
import Derived.Laws.Closers25b
namespace Go.Proofs.Ytabgdfbiocoimaa
set_option linter.unusedVariables false
set_option linter.unusedSimpArgs false
set_option linter.unnecessarySimpa false
open Go.RowKit
set_option maxRecDepth 100000
set_option maxHeartbeats 2000000

theorem rname (s : ByteArray) (w : World) (hsz : s.size ≤ 4611686018427387904) : Calls Try.prog 98 #[.string s] w (SameV (.bool (nameB s)) w) := by
  by_cases h0 : s.size = 0
  · have HR : Hid (nameB s = false) := hide (by simp [nameB, h0])
    have h0' : (s.size : Int) < 1 := by omega
    clear h0
    go_enter Try.func98, Try.ntmps98
    go_wp2_with fail
    go_ret
    exact ⟨ret_bool HR.out.symm, rfl⟩
  have hp : 0 < s.size := by omega
  have hp' : (1 : Int) ≤ s.size := by omega
  by_cases h16 : 16 < s.size
  · have HR : Hid (nameB s = false) := hide (by simp [nameB]; intro _ h; omega)
    clear h0
    go_enter Try.func98, Try.ntmps98
    go_wp2_with fail
    go_ret
    exact ⟨ret_bool HR.out.symm, rfl⟩
  have h16' : s.size ≤ 16 := by omega
  cases hl : letterB (s[0]).toNat
  · have HR : Hid (nameB s = false) := hide (by simp only [nameB, head_at s hp, hl]; simp)
    have hl2 : (s[0]).toNat < 97 ∨ (97 ≤ (s[0]).toNat ∧ 122 < (s[0]).toNat) := by simp [letterB] at hl; omega
    clear h0 hl h16
    rcases hl2 with hl2 | ⟨hl2, hl3⟩
    all_goals
      go_enter Try.func98, Try.ntmps98
      go_wp2_with fail
      go_ret
      exact ⟨ret_bool HR.out.symm, rfl⟩
  · have HR : Hid ((∀ k (hk : k < s.size), innerB (s[k]).toNat = true) → nameB s = true) := hide (by intro h; simp only [nameB, head_at s hp, hl, all_yes s h]; simp [h0, h16'])
    have hl2 : 97 ≤ (s[0]).toNat ∧ (s[0]).toNat ≤ 122 := by simpa [letterB] using hl
    obtain ⟨hl3, hl4⟩ := hl2
    clear h0 hl h16
    go_enter Try.func98, Try.ntmps98
    go_wp2_with fail
    go_loop [3, 4] (fun i _ => ∃ k : Nat, k ≤ s.size ∧ i = .int .i64 k ∧ Hid (∀ j (hj : j < s.size), j < k → innerB (s[j]).toNat = true)) (fun i _ => s.size - (intOf i).toNat)
    case atStart => exact ⟨0, by omega, rfl, hide (by intro j _ h; omega)⟩
    case round =>
      obtain ⟨k, hk, rfl, HA⟩ := hrel
      by_cases hlt : k < s.size
      · obtain ⟨x, hx⟩ : ∃ x, x = (s[k]).toNat := ⟨_, rfl⟩
        cases hi : innerB x
        · have HI : Hid (nameB s = false) := hide (name_no s k hlt (by rw [← hx]; exact hi))
          have hx2 : ¬ (97 ≤ (s[k]).toNat ∧ (s[k]).toNat ≤ 122) ∧ ¬ (48 ≤ (s[k]).toNat ∧ (s[k]).toNat ≤ 57) ∧ (s[k]).toNat ≠ 95 := by
            rw [← hx]
            simp only [innerB, letterB, Bool.or_eq_false_iff, Bool.and_eq_false_iff, decide_eq_false_iff_not] at hi
            omega
          have HX := hide hx2
          clear hi hx hx2
          go_wp2_with fail
          all_goals first
            | (go_ret; exact ⟨ret_bool HI.out.symm, rfl⟩)
            | (exfalso; have := HX.out; simp at *; omega)
        · have HI : Hid (innerB (s[k]).toNat = true) := hide (by rw [← hx]; exact hi)
          have hx2 : (97 ≤ (s[k]).toNat ∧ (s[k]).toNat ≤ 122) ∨ (48 ≤ (s[k]).toNat ∧ (s[k]).toNat ≤ 57) ∨ (s[k]).toNat = 95 := by
            rw [← hx]
            simp only [innerB, letterB, Bool.or_eq_true, Bool.and_eq_true, decide_eq_true_iff] at hi
            omega
          have HX := hide hx2
          clear hi hx hx2
          go_wp2_with fail
          all_goals first
            | (go_round
               case rel =>
                 refine ⟨k + 1, by omega, by go_num, hide ?_⟩
                 intro j hj hjk
                 by_cases e : j = k
                 · subst e; exact HI.out
                 · exact HA.out j hj (by omega)
               case measure => simp [intOf]; omega)
            | (exfalso; have := HX.out; simp at *; omega)
      · go_wp2_with fail
        go_ret
        exact ⟨ret_bool (HR.out (fun j hj => HA.out j hj (by omega))).symm, rfl⟩
def RValR (E : Ent) (l : List UInt8) (w : World) (e : Ending) (w' : World) : Prop := e = .returned (.int .u32 (valueE E.ty E.mx E.lo E.hi l)) ∧ Below w.heap.size w w'
theorem rent_value (E : Ent) (A0 : Option Addr) (n0 c0 : Nat) (A : Option Addr) (n c : Nat) (l : List UInt8) (w : World) (hn : n = l.length) (hc : n ≤ c) (hl : n ≤ 35184372088832) (hs : Sl w A (l.map bv)) :
    Calls Try.prog 81 #[.agg (entV E A0 n0 c0), .slice A n c] w (RValR E l w) := by
  obtain ⟨ix, sub, nm, ty, acc, mp, st, mx, lo, hi, df⟩ := E
  have hs1 := hs.alloc (.cells (entV ⟨ix, sub, nm, ty, acc, mp, st, mx, lo, hi, df⟩ A0 n0 c0) 39)
  have HN := hide hn
  unfold entV at *
  clear hn
  cases hk : tyKnown ty
  · have HV : Hid (valueE ty mx lo hi l = 100925511) := hide (by simp [valueE, hk])
    have HK := hide hk
    clear hk
    go_enter Try.func81, Try.ntmps81
    go_wp2_with fail
    refine (rty_known ty _).mono ?_
    rintro e w1 ⟨rfl, rfl⟩
    rw [HK.out]
    go_wp2_with fail
    go_ret
    exact ⟨ret_int HV.out.symm, (by repeat' (first | with_reducible assumption | with_reducible exact Below.refl _ _ | with_reducible apply below_alloc | with_reducible apply below_drew1 | with_reducible apply below_drewN | (with_reducible apply below_step; with_reducible assumption) | (with_reducible apply below_sg2; (first | exact Nat.le_refl _ | (simp; done) | omega))))⟩
  by_cases hb : 0 < tyBits ty
  · obtain ⟨v, hv⟩ : ∃ v, v = decV ty l := ⟨_, rfl⟩
    obtain ⟨er, he⟩ : ∃ er, er = decE ty l := ⟨_, rfl⟩
    have HV : Hid (valueE ty mx lo hi l = if er = 2 then 101122067 else if er = 3 then 101122066 else if er ≠ 0 then 101253168 else if v < lo then 101253170 else if hi < v then 101253169 else 0) := hide (by rw [hv, he]; simp [valueE, hk, hb])
    have HK := hide hk
    have HE := hide (And.intro hv he)
    clear hk hv he
    go_enter Try.func81, Try.ntmps81
    go_wp2_with fail
    refine (rty_known ty _).mono ?_
    rintro e w1 ⟨rfl, rfl⟩
    rw [HK.out]
    go_wp2_with fail
    refine (rty_bits ty _).mono ?_
    rintro e w1 ⟨rfl, rfl⟩
    go_wp2_with fail
    refine (rty_decode ty A n c l _ HN.out hc hl hs1).mono ?_
    rintro e w1 ⟨rfl, rfl⟩
    rw [← HE.out.1, ← HE.out.2]
    go_wp2_with fail
    all_goals
      go_ret
      refine ⟨ret_int ?_, (by repeat' (first | with_reducible assumption | with_reducible exact Below.refl _ _ | with_reducible apply below_alloc | with_reducible apply below_drew1 | with_reducible apply below_drewN | (with_reducible apply below_step; with_reducible assumption) | (with_reducible apply below_sg2; (first | exact Nat.le_refl _ | (simp; done) | omega))))⟩
      show _ = valueE ty mx lo hi l
      rw [HV.out]
      clear HV HE
      simp_all
    all_goals omega
  · obtain ⟨er, he⟩ : ∃ er, er = checkE ty mx l := ⟨_, rfl⟩
    have HV : Hid (valueE ty mx lo hi l = if er = 3 then 101122066 else if er = 4 then 101253168 else 0) := hide (by rw [he]; simp [valueE, hk, hb])
    have HK := hide hk
    have HE := hide he
    clear hk he
    go_enter Try.func81, Try.ntmps81
    go_wp2_with fail
    refine (rty_known ty _).mono ?_
    rintro e w1 ⟨rfl, rfl⟩
    rw [HK.out]
    go_wp2_with fail
    refine (rty_bits ty _).mono ?_
    rintro e w1 ⟨rfl, rfl⟩
    go_wp2_with fail
    refine (rty_check ty mx A n c l _ HN.out hc hl hs1).mono ?_
    rintro e w1 ⟨rfl, rfl⟩
    rw [← HE.out]
    go_wp2_with fail
    all_goals
      go_ret
      refine ⟨ret_int ?_, (by repeat' (first | with_reducible assumption | with_reducible exact Below.refl _ _ | with_reducible apply below_alloc | with_reducible apply below_drew1 | with_reducible apply below_drewN | (with_reducible apply below_step; with_reducible assumption) | (with_reducible apply below_sg2; (first | exact Nat.le_refl _ | (simp; done) | omega))))⟩
      show _ = valueE ty mx lo hi l
      rw [HV.out]
      clear HV HE
      simp_all
theorem right_ref (E : Ent) (v : Int) (hv : valueE E.ty E.mx E.lo E.hi E.df = v) : rightE E = if E.ix < 1 ∨ 65535 < E.ix ∨ E.sub < 0 ∨ 255 < E.sub then 9 else if nameB E.nm = false then 14 else if tyKnown E.ty = false then 15 else if E.acc < 1 ∨ 4 < E.acc then 1 else
    if tyNum E.ty = true ∧ (E.mx ≠ 0 ∨ E.lo < tyLow E.ty ∨ tyHigh E.ty < E.hi ∨ E.hi < E.lo) then 1 else if tyNum E.ty = false ∧ (E.lo ≠ 0 ∨ E.hi ≠ 0 ∨ E.mx < 1 ∨ 256 < E.mx ∨ E.mp = true) then 1 else
    if E.st = true ∧ E.acc < 3 then 1 else if E.mp = true ∧ E.acc = 1 then 1 else if v ≠ 0 then 4 else 0 := by
  subst hv
  obtain ⟨ix, sub, nm, ty, acc, mp, st, mx, lo, hi, df⟩ := E
  unfold rightE placeB flagsB limitsB numberedB sizedB
  generalize valueE _ _ _ _ _ = v
  generalize tyLow ty = a
  generalize tyHigh ty = b
  simp only []
  by_cases h1 : ix < 1 ∨ 65535 < ix ∨ sub < 0 ∨ 255 < sub
  · rw [if_pos (by simp; omega), if_pos h1]
  rw [if_neg (by simp; omega), if_neg h1]
  cases nameB nm
  · rfl
  cases tyKnown ty
  · rfl
  cases tyNum ty <;> cases mp <;> cases st <;> simp <;> (repeat' split) <;> first | rfl | omega | (simp_all; done) | (simp_all; omega)
end Go.Proofs.Ytabgdfbiocoimaa
