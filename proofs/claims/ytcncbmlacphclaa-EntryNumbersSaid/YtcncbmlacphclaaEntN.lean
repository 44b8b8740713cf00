/- The walk of EntryNumbers. -/
import Derived.Test.YtcncbmlacphclaaEntK
import Derived.Test.YtcncbmlacphclaaEnc2
namespace Go.Proofs.Ytcncbmlacphclaa
set_option linter.unusedVariables false
set_option linter.unusedSimpArgs false
set_option linter.unnecessarySimpa false
open Go.RowKit
set_option maxRecDepth 100000
set_option maxHeartbeats 8000000

theorem right_zero {E : Ent} (h : rightE E = 0) (hn : tyNum E.ty = true) : E.lo ≤ E.hi ∧ tyLow E.ty ≤ E.lo ∧ E.hi ≤ tyHigh E.ty := by
  unfold rightE at h
  cases hl : limitsB E.ty E.mp E.mx E.lo E.hi
  · rw [hl] at h
    exfalso
    revert h
    repeat' split
    all_goals simp_all
  · rw [limitsB, if_pos hn] at hl
    simp [numberedB] at hl
    omega
theorem value_zero {t mx lo hi : Int} {l : List UInt8} (hn : tyBits t ≠ 0) (h : valueE t mx lo hi l = 0) : decE t l = 0 ∧ lo ≤ decV t l ∧ decV t l ≤ hi ∧ (l.length : Int) = tySize t := by
  have hb := (bits_nn t).1
  rw [value_num (by omega)] at h
  unfold NumV at h
  have he : decE t l = 0 := by
    rcases dec_vals t l with e | e | e | e | e <;> rw [e] at h ⊢ <;> simp at h
  rw [he] at h
  simp at h
  refine ⟨he, ?_, ?_, ?_⟩
  · rcases Int.lt_or_le (decV t l) lo with h1 | h1
    · rw [if_pos h1] at h; simp at h
    · exact h1
  · rcases Int.lt_or_le (decV t l) lo with h1 | h1
    · rw [if_pos h1] at h; simp at h
    · rw [if_neg (by omega)] at h
      rcases Int.lt_or_le hi (decV t l) with h2 | h2
      · rw [if_pos h2] at h; simp at h
      · exact h2
  · by_cases h1 : (l.length : Int) < tySize t
    · rw [(dec_short l hn h1).2] at he; cases he
    · by_cases h2 : tySize t < (l.length : Int)
      · rw [(dec_big l hn h2).2] at he; cases he
      · omega
theorem value_enc {t mx lo hi n : Int} (hn : tyBits t ≠ 0) (h1 : tyLow t ≤ n) (h2 : n ≤ tyHigh t) : valueE t mx lo hi (encB t n) = if n < lo then 101253170 else if hi < n then 101253169 else 0 := by
  have hb := (bits_nn t).1
  obtain ⟨e1, e2⟩ := enc_dec hn h1 h2
  rw [value_num (by omega)]
  unfold NumV
  rw [e1, e2]
  rfl
theorem entryNumbers_walk (E : Ent) (A A2 : Option Addr) (n c m d : Nat) (x : Int) (l : List UInt8) (w : World) (hn : n = E.df.length) (hc : n ≤ c) (hs : Sl w A (E.df.map bv)) (hm : m = l.length) (hd : m ≤ d) (hs2 : Sl w A2 (l.map bv)) :
    Calls Try.prog 11 #[.agg (entV E A n c), .int .i64 x, .slice A2 m d] w (TrueB w) := by
  have q0 := blk_one w 24 (entV E A n c)
  have hbw := below_alloc (Below.refl w.heap.size w) (.cells (entV E A n c) 24)
  have L1 := hide (fun W => light_any E A n c W)
  have K1 := hide (fun (W : World) h2 h3 h4 => ent_right E A n c W hn hc h2 h3 h4)
  have K2 := hide (fun (B : Option Addr) (k j : Nat) (y : List UInt8) (W : World) h1 h2 h3 h4 => ent_value E A n c B k j y W h1 h2 h3 h4)
  have HM := hide hm
  obtain ⟨b1, e1⟩ : ∃ b, b = lightB E n := ⟨_, rfl⟩
  have H1 := hide e1
  rw [← e1] at L1
  obtain ⟨v, hv⟩ : ∃ v, v = rightE E := ⟨_, rfl⟩
  have HR := hide hv
  unfold RightR at K1
  rw [← hv] at K1
  unfold ValR at K2
  clear e1 hn hm hv
  obtain ⟨ix, sub, nm, ty, acc, mp, st, mx, lo, hi, df⟩ := E
  simp only [entV] at *
  go_enter Try.func11, Try.ntmps11
  go_wp2_with fail
  refine (L1.out _).mono ?_
  rintro e w1 ⟨rfl, hb1⟩
  replace q0 := q0.below hb1 q0.lt
  replace hbw := below_step hb1 hbw
  clear hb1
  cases b1
  · go_wp2_with fail
    refine (known_14 _).mono ?_
    rintro e w2 ⟨rfl, hb2⟩
    go_wp2_with fail
    go_ret
    exact (⟨rfl, below_step hb2 hbw⟩ : TrueB w _ _)
  by_cases hbig : 2000 < m
  · go_wp2_with fail
    refine (known_14 _).mono ?_
    rintro e w2 ⟨rfl, hb2⟩
    go_wp2_with fail
    go_ret
    exact (⟨rfl, below_step hb2 hbw⟩ : TrueB w _ _)
  have hm2 : m ≤ 2000 := by omega
  have hlt : n ≤ 2000 ∧ nm.size ≤ 2000 := by have := H1.out; simpa [lightB] using this.symm
  obtain ⟨hn2, hnm2⟩ := hlt
  clear hbig
  have q0_c0 := q0.cell 0 rfl
  have q0_f0 := q0.frozen 0
  have q0_c1 := q0.cell 1 rfl
  have q0_f1 := q0.frozen 1
  have q0_c2 := q0.cell 2 rfl
  have q0_f2 := q0.frozen 2
  have q0_c3 := q0.cell 3 rfl
  have q0_f3 := q0.frozen 3
  have q0_c4 := q0.cell 4 rfl
  have q0_f4 := q0.frozen 4
  have q0_c5 := q0.cell 5 rfl
  have q0_f5 := q0.frozen 5
  have q0_c6 := q0.cell 6 rfl
  have q0_f6 := q0.frozen 6
  have q0_c7 := q0.cell 7 rfl
  have q0_f7 := q0.frozen 7
  have q0_c8 := q0.cell 8 rfl
  have q0_f8 := q0.frozen 8
  have q0_c9 := q0.cell 9 rfl
  have q0_f9 := q0.frozen 9
  have q0_c10 := q0.cell 10 rfl
  have q0_f10 := q0.frozen 10
  go_wp2_with fail
  refine (ty_limits ty _).mono ?_
  rintro e w2 ⟨rfl, hb2⟩
  clear q0_c0 q0_f0 q0_c1 q0_f1 q0_c2 q0_f2 q0_c3 q0_f3 q0_c4 q0_f4 q0_c5 q0_f5 q0_c6 q0_f6 q0_c7 q0_f7 q0_c8 q0_f8 q0_c9 q0_f9 q0_c10 q0_f10
  replace q0 := q0.below hb2 q0.lt
  replace hbw := below_step hb2 hbw
  clear hb2
  have q0_c0 := q0.cell 0 rfl
  have q0_f0 := q0.frozen 0
  have q0_c1 := q0.cell 1 rfl
  have q0_f1 := q0.frozen 1
  have q0_c2 := q0.cell 2 rfl
  have q0_f2 := q0.frozen 2
  have q0_c3 := q0.cell 3 rfl
  have q0_f3 := q0.frozen 3
  have q0_c4 := q0.cell 4 rfl
  have q0_f4 := q0.frozen 4
  have q0_c5 := q0.cell 5 rfl
  have q0_f5 := q0.frozen 5
  have q0_c6 := q0.cell 6 rfl
  have q0_f6 := q0.frozen 6
  have q0_c7 := q0.cell 7 rfl
  have q0_f7 := q0.frozen 7
  have q0_c8 := q0.cell 8 rfl
  have q0_f8 := q0.frozen 8
  have q0_c9 := q0.cell 9 rfl
  have q0_f9 := q0.frozen 9
  have q0_c10 := q0.cell 10 rfl
  have q0_f10 := q0.frozen 10
  cases htn : tyNum ty
  · clear htn
    go_wp2_with fail
    refine (known_14 _).mono ?_
    rintro e w2 ⟨rfl, hb2⟩
    go_wp2_with fail
    go_ret
    exact (⟨rfl, below_step hb2 hbw⟩ : TrueB w _ _)
  have HTN := hide htn
  clear htn
  go_wp2_with fail
  refine (K1.out _ (by omega) (by omega) (hs.below hbw)).mono ?_
  rintro e w3 ⟨rfl, hb3⟩
  clear q0_c0 q0_f0 q0_c1 q0_f1 q0_c2 q0_f2 q0_c3 q0_f3 q0_c4 q0_f4 q0_c5 q0_f5 q0_c6 q0_f6 q0_c7 q0_f7 q0_c8 q0_f8 q0_c9 q0_f9 q0_c10 q0_f10
  replace q0 := q0.below hb3 q0.lt
  replace hbw := below_step hb3 hbw
  clear hb3
  have q0_c0 := q0.cell 0 rfl
  have q0_f0 := q0.frozen 0
  have q0_c1 := q0.cell 1 rfl
  have q0_f1 := q0.frozen 1
  have q0_c2 := q0.cell 2 rfl
  have q0_f2 := q0.frozen 2
  have q0_c3 := q0.cell 3 rfl
  have q0_f3 := q0.frozen 3
  have q0_c4 := q0.cell 4 rfl
  have q0_f4 := q0.frozen 4
  have q0_c5 := q0.cell 5 rfl
  have q0_f5 := q0.frozen 5
  have q0_c6 := q0.cell 6 rfl
  have q0_f6 := q0.frozen 6
  have q0_c7 := q0.cell 7 rfl
  have q0_f7 := q0.frozen 7
  have q0_c8 := q0.cell 8 rfl
  have q0_f8 := q0.frozen 8
  have q0_c9 := q0.cell 9 rfl
  have q0_f9 := q0.frozen 9
  have q0_c10 := q0.cell 10 rfl
  have q0_f10 := q0.frozen 10
  by_cases hv0 : v = 0
  case neg =>
    have hv1 : (v != 0) = true := by simpa using hv0
    clear hv0
    go_wp2_with fail
    refine (known_14 _).mono ?_
    rintro e w2 ⟨rfl, hb2⟩
    go_wp2_with fail
    go_ret
    exact (⟨rfl, below_step hb2 hbw⟩ : TrueB w _ _)
  subst hv0
  obtain ⟨r1, r2, r3⟩ := right_zero HR.out.symm HTN.out
  simp only [] at r1 r2 r3
  have HTB : Hid (tyBits ty ≠ 0) := hide (by have := HTN.out; simpa [tyNum] using this)
  go_wp2_with fail
  refine (K2.out _ _ _ l _ HM.out hd (by omega) (hs2.below hbw)).mono ?_
  rintro e w4 ⟨rfl, hb4⟩
  clear q0_c0 q0_f0 q0_c1 q0_f1 q0_c2 q0_f2 q0_c3 q0_f3 q0_c4 q0_f4 q0_c5 q0_f5 q0_c6 q0_f6 q0_c7 q0_f7 q0_c8 q0_f8 q0_c9 q0_f9 q0_c10 q0_f10
  replace q0 := q0.below hb4 q0.lt
  replace hbw := below_step hb4 hbw
  clear hb4
  have q0_c0 := q0.cell 0 rfl
  have q0_f0 := q0.frozen 0
  have q0_c1 := q0.cell 1 rfl
  have q0_f1 := q0.frozen 1
  have q0_c2 := q0.cell 2 rfl
  have q0_f2 := q0.frozen 2
  have q0_c3 := q0.cell 3 rfl
  have q0_f3 := q0.frozen 3
  have q0_c4 := q0.cell 4 rfl
  have q0_f4 := q0.frozen 4
  have q0_c5 := q0.cell 5 rfl
  have q0_f5 := q0.frozen 5
  have q0_c6 := q0.cell 6 rfl
  have q0_f6 := q0.frozen 6
  have q0_c7 := q0.cell 7 rfl
  have q0_f7 := q0.frozen 7
  have q0_c8 := q0.cell 8 rfl
  have q0_f8 := q0.frozen 8
  have q0_c9 := q0.cell 9 rfl
  have q0_f9 := q0.frozen 9
  have q0_c10 := q0.cell 10 rfl
  have q0_f10 := q0.frozen 10
  simp only []
  obtain ⟨v1, hv1⟩ : ∃ v, valueE ty mx lo hi l = v := ⟨_, rfl⟩
  rw [hv1]
  have HV1 := hide hv1
  clear hv1
  have HGO : Hid (v1 = 0 ∨ v1 ≠ 0) := hide (by omega)
  rcases HGO.out with h0 | h0
  · have HZ := hide (value_zero HTB.out (HV1.out.trans h0))
    subst h0
    obtain ⟨mv, hmv⟩ : ∃ y, decV ty l = y := ⟨_, rfl⟩
    have hz := HZ.out
    rw [hmv] at hz
    obtain ⟨z1, z2, z3, z4⟩ := hz
    have HZ1 := hide (And.intro z1 hmv)
    have zs : ((m : Int) != tySize ty) = false := by rw [← z4, HM.out]; simp
    have zs2 : ((m : Int) == tySize ty) = true := by rw [← z4, HM.out]; simp
    clear z1 z4 hmv HZ
    go_wp2_with fail
    refine (ty_decode ty _ _ _ l _ HM.out hd (by omega) (hs2.below hbw)).mono ?_
    rintro e w5 ⟨rfl, hb5⟩
    rw [HZ1.out.1, HZ1.out.2]
    clear q0_c0 q0_f0 q0_c1 q0_f1 q0_c2 q0_f2 q0_c3 q0_f3 q0_c4 q0_f4 q0_c5 q0_f5 q0_c6 q0_f6 q0_c7 q0_f7 q0_c8 q0_f8 q0_c9 q0_f9 q0_c10 q0_f10
    replace q0 := q0.below hb5 q0.lt
    replace hbw := below_step hb5 hbw
    clear hb5
    have q0_c0 := q0.cell 0 rfl
    have q0_f0 := q0.frozen 0
    have q0_c1 := q0.cell 1 rfl
    have q0_f1 := q0.frozen 1
    have q0_c2 := q0.cell 2 rfl
    have q0_f2 := q0.frozen 2
    have q0_c3 := q0.cell 3 rfl
    have q0_f3 := q0.frozen 3
    have q0_c4 := q0.cell 4 rfl
    have q0_f4 := q0.frozen 4
    have q0_c5 := q0.cell 5 rfl
    have q0_f5 := q0.frozen 5
    have q0_c6 := q0.cell 6 rfl
    have q0_f6 := q0.frozen 6
    have q0_c7 := q0.cell 7 rfl
    have q0_f7 := q0.frozen 7
    have q0_c8 := q0.cell 8 rfl
    have q0_f8 := q0.frozen 8
    have q0_c9 := q0.cell 9 rfl
    have q0_f9 := q0.frozen 9
    have q0_c10 := q0.cell 10 rfl
    have q0_f10 := q0.frozen 10
    go_wp2_with fail
    refine (ty_size ty _).mono ?_
    rintro e w6 ⟨rfl, hb6⟩
    clear q0_c0 q0_f0 q0_c1 q0_f1 q0_c2 q0_f2 q0_c3 q0_f3 q0_c4 q0_f4 q0_c5 q0_f5 q0_c6 q0_f6 q0_c7 q0_f7 q0_c8 q0_f8 q0_c9 q0_f9 q0_c10 q0_f10
    replace q0 := q0.below hb6 q0.lt
    replace hbw := below_step hb6 hbw
    clear hb6
    have q0_c0 := q0.cell 0 rfl
    have q0_f0 := q0.frozen 0
    have q0_c1 := q0.cell 1 rfl
    have q0_f1 := q0.frozen 1
    have q0_c2 := q0.cell 2 rfl
    have q0_f2 := q0.frozen 2
    have q0_c3 := q0.cell 3 rfl
    have q0_f3 := q0.frozen 3
    have q0_c4 := q0.cell 4 rfl
    have q0_f4 := q0.frozen 4
    have q0_c5 := q0.cell 5 rfl
    have q0_f5 := q0.frozen 5
    have q0_c6 := q0.cell 6 rfl
    have q0_f6 := q0.frozen 6
    have q0_c7 := q0.cell 7 rfl
    have q0_f7 := q0.frozen 7
    have q0_c8 := q0.cell 8 rfl
    have q0_f8 := q0.frozen 8
    have q0_c9 := q0.cell 9 rfl
    have q0_f9 := q0.frozen 9
    have q0_c10 := q0.cell 10 rfl
    have q0_f10 := q0.frozen 10
    go_wp2_with fail
    by_cases hrg : tyLow ty ≤ x ∧ x ≤ tyHigh ty
    case neg =>
      refine (ty_enc_no ty x _ HTB.out (by omega)).mono ?_
      rintro e w7 ⟨rfl, hb7⟩
      replace hbw := below_step hb7 hbw
      clear hrg
      go_wp2_with fail
      refine (known_14 _).mono ?_
      rintro e w8 ⟨rfl, hb8⟩
      go_wp2_with fail
      go_ret
      exact (⟨rfl, below_step hb8 hbw⟩ : TrueB w _ _)
    have HVE := hide (value_enc (mx := mx) (lo := lo) (hi := hi) HTB.out hrg.1 hrg.2)
    have HL := hide (enc_len ty x HTB.out)
    refine (ty_enc_ok ty x _ HTB.out hrg.1 hrg.2).mono ?_
    rintro e w7 ⟨A7, n7, c7, rfl, hO7, hb7⟩
    have HN7 := hide hO7.hn
    have hle7 := hO7.le
    have hn7 : n7 ≤ 8 := by
      have h8 : tySize ty ≤ 8 := by rcases ty_wd HTB.out with h | h | h | h <;> omega
      have := HL.out
      have := HN7.out
      omega
    clear q0_c0 q0_f0 q0_c1 q0_f1 q0_c2 q0_f2 q0_c3 q0_f3 q0_c4 q0_f4 q0_c5 q0_f5 q0_c6 q0_f6 q0_c7 q0_f7 q0_c8 q0_f8 q0_c9 q0_f9 q0_c10 q0_f10
    replace q0 := q0.below hb7 q0.lt
    replace hbw := below_step hb7 hbw
    clear hb7 hrg
    have q0_c0 := q0.cell 0 rfl
    have q0_f0 := q0.frozen 0
    have q0_c1 := q0.cell 1 rfl
    have q0_f1 := q0.frozen 1
    have q0_c2 := q0.cell 2 rfl
    have q0_f2 := q0.frozen 2
    have q0_c3 := q0.cell 3 rfl
    have q0_f3 := q0.frozen 3
    have q0_c4 := q0.cell 4 rfl
    have q0_f4 := q0.frozen 4
    have q0_c5 := q0.cell 5 rfl
    have q0_f5 := q0.frozen 5
    have q0_c6 := q0.cell 6 rfl
    have q0_f6 := q0.frozen 6
    have q0_c7 := q0.cell 7 rfl
    have q0_f7 := q0.frozen 7
    have q0_c8 := q0.cell 8 rfl
    have q0_f8 := q0.frozen 8
    have q0_c9 := q0.cell 9 rfl
    have q0_f9 := q0.frozen 9
    have q0_c10 := q0.cell 10 rfl
    have q0_f10 := q0.frozen 10
    go_wp2_with fail
    refine (K2.out _ _ _ (encB ty x) _ HN7.out hle7 (by omega) hO7.sl).mono ?_
    rintro e w8 ⟨rfl, hb8⟩
    simp only []
    rw [HVE.out]
    clear q0_c0 q0_f0 q0_c1 q0_f1 q0_c2 q0_f2 q0_c3 q0_f3 q0_c4 q0_f4 q0_c5 q0_f5 q0_c6 q0_f6 q0_c7 q0_f7 q0_c8 q0_f8 q0_c9 q0_f9 q0_c10 q0_f10
    replace q0 := q0.below hb8 q0.lt
    replace hbw := below_step hb8 hbw
    clear hb8
    have q0_c0 := q0.cell 0 rfl
    have q0_f0 := q0.frozen 0
    have q0_c1 := q0.cell 1 rfl
    have q0_f1 := q0.frozen 1
    have q0_c2 := q0.cell 2 rfl
    have q0_f2 := q0.frozen 2
    have q0_c3 := q0.cell 3 rfl
    have q0_f3 := q0.frozen 3
    have q0_c4 := q0.cell 4 rfl
    have q0_f4 := q0.frozen 4
    have q0_c5 := q0.cell 5 rfl
    have q0_f5 := q0.frozen 5
    have q0_c6 := q0.cell 6 rfl
    have q0_f6 := q0.frozen 6
    have q0_c7 := q0.cell 7 rfl
    have q0_f7 := q0.frozen 7
    have q0_c8 := q0.cell 8 rfl
    have q0_f8 := q0.frozen 8
    have q0_c9 := q0.cell 9 rfl
    have q0_f9 := q0.frozen 9
    have q0_c10 := q0.cell 10 rfl
    have q0_f10 := q0.frozen 10
    rcases (show x < lo ∨ (lo ≤ x ∧ hi < x) ∨ (lo ≤ x ∧ x ≤ hi) by omega) with c1 | ⟨c1, c2⟩ | ⟨c1, c2⟩
    · rw [if_pos c1]
      have c2 : x ≤ hi := by omega
      go_wp2_with fail
      refine (known_14 _).mono ?_
      rintro e w9 ⟨rfl, hb9⟩
      go_wp2_with fail
      go_ret
      exact (⟨rfl, below_step hb9 hbw⟩ : TrueB w _ _)
    · rw [if_neg (by omega), if_pos c2]
      go_wp2_with fail
      refine (known_14 _).mono ?_
      rintro e w9 ⟨rfl, hb9⟩
      go_wp2_with fail
      go_ret
      exact (⟨rfl, below_step hb9 hbw⟩ : TrueB w _ _)
    · rw [if_neg (by omega), if_neg (by omega)]
      go_wp2_with fail
      refine (known_14 _).mono ?_
      rintro e w9 ⟨rfl, hb9⟩
      go_wp2_with fail
      go_ret
      exact (⟨rfl, below_step hb9 hbw⟩ : TrueB w _ _)
  · have h1 : (v1 == 0) = false := by simpa using h0
    clear h0
    go_wp2_with fail
    by_cases hrg : tyLow ty ≤ x ∧ x ≤ tyHigh ty
    case neg =>
      refine (ty_enc_no ty x _ HTB.out (by omega)).mono ?_
      rintro e w7 ⟨rfl, hb7⟩
      replace hbw := below_step hb7 hbw
      clear hrg
      go_wp2_with fail
      refine (known_14 _).mono ?_
      rintro e w8 ⟨rfl, hb8⟩
      go_wp2_with fail
      go_ret
      exact (⟨rfl, below_step hb8 hbw⟩ : TrueB w _ _)
    have HVE := hide (value_enc (mx := mx) (lo := lo) (hi := hi) HTB.out hrg.1 hrg.2)
    have HL := hide (enc_len ty x HTB.out)
    refine (ty_enc_ok ty x _ HTB.out hrg.1 hrg.2).mono ?_
    rintro e w7 ⟨A7, n7, c7, rfl, hO7, hb7⟩
    have HN7 := hide hO7.hn
    have hle7 := hO7.le
    have hn7 : n7 ≤ 8 := by
      have h8 : tySize ty ≤ 8 := by rcases ty_wd HTB.out with h | h | h | h <;> omega
      have := HL.out
      have := HN7.out
      omega
    clear q0_c0 q0_f0 q0_c1 q0_f1 q0_c2 q0_f2 q0_c3 q0_f3 q0_c4 q0_f4 q0_c5 q0_f5 q0_c6 q0_f6 q0_c7 q0_f7 q0_c8 q0_f8 q0_c9 q0_f9 q0_c10 q0_f10
    replace q0 := q0.below hb7 q0.lt
    replace hbw := below_step hb7 hbw
    clear hb7 hrg
    have q0_c0 := q0.cell 0 rfl
    have q0_f0 := q0.frozen 0
    have q0_c1 := q0.cell 1 rfl
    have q0_f1 := q0.frozen 1
    have q0_c2 := q0.cell 2 rfl
    have q0_f2 := q0.frozen 2
    have q0_c3 := q0.cell 3 rfl
    have q0_f3 := q0.frozen 3
    have q0_c4 := q0.cell 4 rfl
    have q0_f4 := q0.frozen 4
    have q0_c5 := q0.cell 5 rfl
    have q0_f5 := q0.frozen 5
    have q0_c6 := q0.cell 6 rfl
    have q0_f6 := q0.frozen 6
    have q0_c7 := q0.cell 7 rfl
    have q0_f7 := q0.frozen 7
    have q0_c8 := q0.cell 8 rfl
    have q0_f8 := q0.frozen 8
    have q0_c9 := q0.cell 9 rfl
    have q0_f9 := q0.frozen 9
    have q0_c10 := q0.cell 10 rfl
    have q0_f10 := q0.frozen 10
    go_wp2_with fail
    refine (K2.out _ _ _ (encB ty x) _ HN7.out hle7 (by omega) hO7.sl).mono ?_
    rintro e w8 ⟨rfl, hb8⟩
    simp only []
    rw [HVE.out]
    clear q0_c0 q0_f0 q0_c1 q0_f1 q0_c2 q0_f2 q0_c3 q0_f3 q0_c4 q0_f4 q0_c5 q0_f5 q0_c6 q0_f6 q0_c7 q0_f7 q0_c8 q0_f8 q0_c9 q0_f9 q0_c10 q0_f10
    replace q0 := q0.below hb8 q0.lt
    replace hbw := below_step hb8 hbw
    clear hb8
    have q0_c0 := q0.cell 0 rfl
    have q0_f0 := q0.frozen 0
    have q0_c1 := q0.cell 1 rfl
    have q0_f1 := q0.frozen 1
    have q0_c2 := q0.cell 2 rfl
    have q0_f2 := q0.frozen 2
    have q0_c3 := q0.cell 3 rfl
    have q0_f3 := q0.frozen 3
    have q0_c4 := q0.cell 4 rfl
    have q0_f4 := q0.frozen 4
    have q0_c5 := q0.cell 5 rfl
    have q0_f5 := q0.frozen 5
    have q0_c6 := q0.cell 6 rfl
    have q0_f6 := q0.frozen 6
    have q0_c7 := q0.cell 7 rfl
    have q0_f7 := q0.frozen 7
    have q0_c8 := q0.cell 8 rfl
    have q0_f8 := q0.frozen 8
    have q0_c9 := q0.cell 9 rfl
    have q0_f9 := q0.frozen 9
    have q0_c10 := q0.cell 10 rfl
    have q0_f10 := q0.frozen 10
    rcases (show x < lo ∨ (lo ≤ x ∧ hi < x) ∨ (lo ≤ x ∧ x ≤ hi) by omega) with c1 | ⟨c1, c2⟩ | ⟨c1, c2⟩
    · rw [if_pos c1]
      have c2 : x ≤ hi := by omega
      go_wp2_with fail
      refine (known_14 _).mono ?_
      rintro e w9 ⟨rfl, hb9⟩
      go_wp2_with fail
      go_ret
      exact (⟨rfl, below_step hb9 hbw⟩ : TrueB w _ _)
    · rw [if_neg (by omega), if_pos c2]
      go_wp2_with fail
      refine (known_14 _).mono ?_
      rintro e w9 ⟨rfl, hb9⟩
      go_wp2_with fail
      go_ret
      exact (⟨rfl, below_step hb9 hbw⟩ : TrueB w _ _)
    · rw [if_neg (by omega), if_neg (by omega)]
      go_wp2_with fail
      refine (known_14 _).mono ?_
      rintro e w9 ⟨rfl, hb9⟩
      go_wp2_with fail
      go_ret
      exact (⟨rfl, below_step hb9 hbw⟩ : TrueB w _ _)
end Go.Proofs.Ytcncbmlacphclaa
