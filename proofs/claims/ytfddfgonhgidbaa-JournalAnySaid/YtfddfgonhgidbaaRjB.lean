/- The reference of package sector: Newest, Room, at, Next. -/
import Derived.Test.YtfddfgonhgidbaaSecD
import Derived.Test.YtfddfgonhgidbaaJouM
namespace Go.Proofs.Ytfddfgonhgidbaa
set_option linter.unusedVariables false
set_option linter.unusedSimpArgs false
set_option linter.unnecessarySimpa false
open Go.RowKit
set_option maxRecDepth 20000
set_option maxHeartbeats 4000000
attribute [local go_sem ↓] Go.wp_at_zero Go.wp_at_succ

def bestI (r : Nat × Bool) : Int := if r.2 = true then (r.1 : Int) else -1
theorem rsec_newest (A : Option Addr) (n c : Nat) (L : List KV) (w : World) (hn : n = L.length) (hl : n ≤ 35184372088) (hL : SlK w A L) :
    Calls Try.prog 89 #[.slice A n c] w fun e w' => e = .returned (.tuple #[.int .i64 ((newestS L n).1 : Nat), .bool (newestS L n).2]) ∧ Below w.heap.size w w' := by
  have HN := hide hn
  clear hn
  have hz := (fun (i : Nat) (h : (newestS L i).2 = false) => show (newestS L i).1 = 0 from by
    induction i with
    | zero => rfl
    | succ i ih =>
      unfold newestS at h ⊢
      split
      · rename_i hh; rw [if_pos hh] at h; cases h
      · rename_i hh; rw [if_neg hh] at h; exact ih h)
  go_enter Try.func89, Try.ntmps89
  go_wp2_with fail
  go_loopw [4, 5] (fun b i wr => ∃ k, k ≤ n ∧ i = .int .i64 (k : Nat) ∧ b = .int .i64 (bestI (newestS L k)) ∧ Below w.heap.size w wr) (fun _ i _ => n - (intOf i).toNat)
  case atStart => exact ⟨0, by omega, rfl, rfl, Below.refl _ _⟩
  case round =>
    obtain ⟨k, hk, rfl, rfl, hbr⟩ := hrel
    obtain ⟨at_, hat⟩ : ∃ a, a = (newestS L k).1 := ⟨_, rfl⟩
    obtain ⟨hs, hhs⟩ : ∃ h, h = (newestS L k).2 := ⟨_, rfl⟩
    have hlta := newestS_lt L k
    have hzk := hz k
    rw [show newestS L k = (at_, hs) from Prod.ext hat.symm hhs.symm] at hlta hzk ⊢
    by_cases hlt : k < n
    · obtain ⟨v, hv⟩ : ∃ v, L[k]? = some v := ⟨L[k]'(by have := HN.out; omega), List.getElem?_eq_getElem _⟩
      have hgk : L.getD k default = v := by rw [List.getD_eq_getElem?_getD, hv]; rfl
      obtain ⟨b, off, rfl, c0, c1, c2, c3, c4, c5⟩ := (hL.below hbr) k v hv
      have HS : newestS L (k + 1) = if (decide (0 < v.cnt) && (!hs || decide ((L.getD at_ default).m < v.m))) = true then (k, true) else (at_, hs) := by
        rw [newestS, hgk, ← hat, ← hhs]
        split
        · rfl
        · rw [hat, hhs]
      obtain ⟨i1, i2, i3⟩ := idx_at hlt
      by_cases h0 : 0 < v.cnt
      case neg =>
        have hd0 : decide (0 < v.cnt) = false := by simpa using h0
        have HS2 := hide (show newestS L (k + 1) = (at_, hs) by rw [HS, hd0]; rfl)
        have HV := hide hv
        clear HS hgk hv hat hhs h0 hlta hz hzk
        go_wp2_with fail
        go_quiet (fail)
        go_wp2_with fail
        go_roundw
        case rel => exact ⟨k + 1, by omega, by go_num, by rw [HS2.out], by repeat' (first | with_reducible assumption | with_reducible exact Below.refl _ _ | with_reducible apply below_alloc | with_reducible apply below_drew1 | with_reducible apply below_drewN | (with_reducible apply below_step; with_reducible assumption) | (with_reducible apply below_sg2; (first | exact Nat.le_refl _ | (simp; done) | omega)))⟩
        case measure => simp [intOf]; omega
      have hd0 : decide (0 < v.cnt) = true := by simpa using h0
      cases hs with
      | false =>
        have HS2 := hide (show newestS L (k + 1) = (k, true) by rw [HS, hd0]; rfl)
        have hb : bestI (at_, false) = -1 := rfl
        rw [hb]
        clear HS hgk hv hat hhs h0 hlta hb hz hzk
        go_wp2_with fail
        go_quiet (fail)
        go_wp2_with fail
        go_roundw
        case rel => exact ⟨k + 1, by omega, by go_num, by rw [HS2.out]; rfl, by repeat' (first | with_reducible assumption | with_reducible exact Below.refl _ _ | with_reducible apply below_alloc | with_reducible apply below_drew1 | with_reducible apply below_drewN | (with_reducible apply below_step; with_reducible assumption) | (with_reducible apply below_sg2; (first | exact Nat.le_refl _ | (simp; done) | omega)))⟩
        case measure => simp [intOf]; omega
      | true =>
        have hak := hlta rfl
        have hb : bestI (at_, true) = (at_ : Nat) := rfl
        rw [hb]
        obtain ⟨u, hu⟩ : ∃ u, L[at_]? = some u := ⟨L[at_]'(by have := HN.out; omega), List.getElem?_eq_getElem _⟩
        have hga : L.getD at_ default = u := by rw [List.getD_eq_getElem?_getD, hu]; rfl
        obtain ⟨b2, off2, hA2, e0, e1, e2, e3, e4, e5⟩ := (hL.below hbr) at_ u hu
        injection hA2 with hA2
        injection hA2 with q1 q2
        subst q1
        subst q2
        have i1 : (0 : Int) ≤ (at_ : Int) := by omega
        have i2 : (at_ : Int) < (n : Int) := by omega
        have i3 : at_ < n := by omega
        by_cases hm : u.m < v.m
        · have hm' : decide ((u.m : Int) < (v.m : Int)) = true := by simp; omega
          have hm'' : decide (u.m < v.m) = true := by simp; omega
          have HS2 := hide (show newestS L (k + 1) = (k, true) by rw [HS, hd0, hga, hm'']; rfl)
          clear HS hgk hga hv hu hat hhs h0 hlta hm hb hz hzk
          go_wp2_with fail
          go_quiet (fail)
          go_wp2_with fail
          go_roundw
          case rel => exact ⟨k + 1, by omega, by go_num, by rw [HS2.out]; rfl, by repeat' (first | with_reducible assumption | with_reducible exact Below.refl _ _ | with_reducible apply below_alloc | with_reducible apply below_drew1 | with_reducible apply below_drewN | (with_reducible apply below_step; with_reducible assumption) | (with_reducible apply below_sg2; (first | exact Nat.le_refl _ | (simp; done) | omega)))⟩
          case measure => simp [intOf]; omega
        · have hm' : decide ((u.m : Int) < (v.m : Int)) = false := by simp; omega
          have hm'' : decide (u.m < v.m) = false := by simp; omega
          have HS2 := hide (show newestS L (k + 1) = (at_, true) by rw [HS, hd0, hga, hm'']; rfl)
          clear HS hgk hga hv hu hat hhs h0 hlta hm hz hzk
          go_wp2_with fail
          go_quiet (fail)
          go_wp2_with fail
          go_roundw
          case rel => exact ⟨k + 1, by omega, by go_num, by rw [HS2.out, hb], by repeat' (first | with_reducible assumption | with_reducible exact Below.refl _ _ | with_reducible apply below_alloc | with_reducible apply below_drew1 | with_reducible apply below_drewN | (with_reducible apply below_step; with_reducible assumption) | (with_reducible apply below_sg2; (first | exact Nat.le_refl _ | (simp; done) | omega)))⟩
          case measure => simp [intOf]; omega
    · obtain rfl : k = n := by omega
      have HA := hide (And.intro hat hhs)
      cases hs with
      | false =>
        obtain rfl := hzk rfl
        have hb : bestI (0, false) = -1 := rfl
        rw [hb]
        clear hat hhs hlta hz hzk hb
        go_wp2_with fail
        go_ret2
        exact ⟨by rw [← HA.out.1, ← HA.out.2]; rfl, hbr⟩
      | true =>
        have hb : bestI (at_, true) = (at_ : Nat) := rfl
        rw [hb]
        clear hat hhs hlta hz hzk hb
        go_wp2_with fail
        go_ret2
        exact ⟨by rw [← HA.out.1, ← HA.out.2]; rfl, hbr⟩
theorem rsec_room (k : Int) (m : Nat) (sa : Option Addr) (sn sc : Nat) (cnt en : Int) (cl : Bool) (d : Int) (w : World) (h1 : -4611686018427387904 ≤ d) (h2 : d ≤ 4611686018427387904) :
    Calls Try.prog 84 #[.agg #[.int .i64 k, .int .u32 (m : Nat), .slice sa sn sc, .int .i64 cnt, .int .i64 en, .bool cl], .int .i64 d] w fun e w' => e = .returned (.bool (cl && decide (0 ≤ d ∧ d ≤ 960 ∧ 0 ≤ en ∧ en ≤ 1011 - d))) ∧ Below w.heap.size w w' := by
  have hb := below_alloc (Below.refl w.heap.size w) (.cells #[.int .i64 k, .int .u32 (m : Nat), .slice sa sn sc, .int .i64 cnt, .int .i64 en, .bool cl] 144)
  have HB := hide hb
  clear hb
  cases cl
  · go_enter Try.func84, Try.ntmps84
    go_wp2_with fail
    go_ret
    exact ⟨rfl, HB.out⟩
  by_cases d1 : 0 ≤ d
  case neg =>
    have e1 : decide (0 ≤ d) = false := by simpa using d1
    have hr : decide (0 ≤ d ∧ d ≤ 960 ∧ 0 ≤ en ∧ en ≤ 1011 - d) = false := by simp; omega
    have HR := hide hr
    clear hr d1
    go_enter Try.func84, Try.ntmps84
    go_wp2_with fail
    go_ret
    exact ⟨ret_bool (by rw [HR.out]; rfl), HB.out⟩
  by_cases d2 : d ≤ 960
  case neg =>
    have e1 : decide (d ≤ 960) = false := by simpa using d2
    have hr : decide (0 ≤ d ∧ d ≤ 960 ∧ 0 ≤ en ∧ en ≤ 1011 - d) = false := by simp; omega
    have HR := hide hr
    clear hr d2
    go_enter Try.func84, Try.ntmps84
    go_wp2_with fail
    go_ret
    exact ⟨ret_bool (by rw [HR.out]; rfl), HB.out⟩
  by_cases d3 : 0 ≤ en
  case neg =>
    have e1 : decide (0 ≤ en) = false := by simpa using d3
    have hr : decide (0 ≤ d ∧ d ≤ 960 ∧ 0 ≤ en ∧ en ≤ 1011 - d) = false := by simp; omega
    have HR := hide hr
    clear hr d3
    go_enter Try.func84, Try.ntmps84
    go_wp2_with fail
    go_ret
    exact ⟨ret_bool (by rw [HR.out]; rfl), HB.out⟩
  by_cases d4 : en ≤ 1024
  case neg =>
    have e1 : decide (en ≤ 1024) = false := by simpa using d4
    have hr : decide (0 ≤ d ∧ d ≤ 960 ∧ 0 ≤ en ∧ en ≤ 1011 - d) = false := by simp; omega
    have HR := hide hr
    clear hr d4
    go_enter Try.func84, Try.ntmps84
    go_wp2_with fail
    go_ret
    exact ⟨ret_bool (by rw [HR.out]; rfl), HB.out⟩
  have hr : decide (0 ≤ d ∧ d ≤ 960 ∧ 0 ≤ en ∧ en ≤ 1011 - d) = decide (d + 13 ≤ 1024 - en) := by rw [Bool.eq_iff_iff]; simp; omega
  have HR := hide hr
  clear hr
  go_enter Try.func84, Try.ntmps84
  go_wp2_with fail
  go_ret
  exact ⟨ret_bool (by rw [HR.out]; rfl), HB.out⟩
theorem rsec_at (A : Option Addr) (n c i : Nat) (xs : List Int) (w : World) (hn : n = xs.length) (hl : n ≤ 35184372088) (hs : Sl w A (xs.map (Value.int .i64))) :
    Calls Try.prog 116 #[.slice A n c, .int .i64 (i : Nat)] w fun e w' => e = .returned (.int .i64 (xs.getD i 0)) ∧ w = w' := by
  by_cases hi : n ≤ i
  · have HX := hide (show xs.getD i 0 = 0 by rw [List.getD_eq_getElem?_getD, List.getElem?_eq_none (by omega)]; rfl)
    clear hn
    go_enter Try.func116, Try.ntmps116
    go_wp2_with fail
    go_ret
    exact ⟨ret_int HX.out.symm, rfl⟩
  · obtain ⟨b, off, rfl, hc⟩ := hs.at_ (j := i) (u := .int .i64 (xs[i]'(by omega))) (by rw [List.getElem?_map, List.getElem?_eq_getElem (by omega)]; rfl)
    have HX := hide (show xs.getD i 0 = xs[i]'(by omega) by rw [List.getD_eq_getElem?_getD, List.getElem?_eq_getElem (by omega)]; rfl)
    obtain ⟨x, hx⟩ : ∃ x, x = xs[i]'(by omega) := ⟨_, rfl⟩
    rw [← hx] at hc HX
    clear hn hx
    have hlt : i < n := by omega
    go_enter Try.func116, Try.ntmps116
    go_wp2_with fail
    go_ret
    exact ⟨ret_int HX.out.symm, rfl⟩
theorem rsec_next (A A1 A2 : Option Addr) (n c n1 c1 n2 c2 : Nat) (L : List KV) (wear left : List Int) (w : World) (hn : n = L.length) (hl : n ≤ 35184372088) (hL : SlK w A L)
    (hn1 : n1 = wear.length) (hl1 : n1 ≤ 35184372088) (hs1 : Sl w A1 (wear.map (Value.int .i64))) (hn2 : n2 = left.length) (hl2 : n2 ≤ 35184372088) (hs2 : Sl w A2 (left.map (Value.int .i64))) :
    Calls Try.prog 86 #[.slice A n c, .slice A1 n1 c1, .slice A2 n2 c2] w fun e w' =>
      e = .returned (.tuple #[.int .i64 ((nextS L wear left (newestS L n) n).1 : Nat), .bool (nextS L wear left (newestS L n) n).2]) ∧ Below w.heap.size w w' := by
  obtain ⟨nw, hnw⟩ : ∃ nw, nw = newestS L n := ⟨_, rfl⟩
  have HW := hide (fun i W (h : Below w.heap.size w W) => rsec_at A1 n1 c1 i wear W hn1 hl1 (hs1.below h))
  have HT := hide (fun i W (h : Below w.heap.size w W) => rsec_at A2 n2 c2 i left W hn2 hl2 (hs2.below h))
  have HNW := hide (rsec_newest A n c L w hn hl hL)
  rw [← hnw] at HNW ⊢
  obtain ⟨na, nh⟩ := nw
  have HN := hide hn
  clear hn hnw hn1 hn2
  go_enter Try.func86, Try.ntmps86
  go_wp2_with fail
  refine HNW.out.mono ?_
  rintro e w1 ⟨rfl, hb1⟩
  simp only []
  go_wp2_with fail
  go_loopw [10, 11, 12] (fun b i _ wr => ∃ k, k ≤ n ∧ i = .int .i64 (k : Nat) ∧ b = .int .i64 (bestI (nextS L wear left (na, nh) k)) ∧ Below w.heap.size w wr) (fun _ i _ _ => n - (intOf i).toNat)
  case atStart => exact ⟨0, by omega, rfl, rfl, hb1⟩
  case round =>
    obtain ⟨k, hk, rfl, rfl, hbr⟩ := hrel
    obtain ⟨at_, hat⟩ : ∃ a, a = (nextS L wear left (na, nh) k).1 := ⟨_, rfl⟩
    obtain ⟨hs, hhs⟩ : ∃ h, h = (nextS L wear left (na, nh) k).2 := ⟨_, rfl⟩
    have hpair : nextS L wear left (na, nh) k = (at_, hs) := Prod.ext hat.symm hhs.symm
    rw [hpair]
    by_cases hlt : k < n
    · obtain ⟨v, hv⟩ : ∃ v, L[k]? = some v := ⟨L[k]'(by have := HN.out; omega), List.getElem?_eq_getElem _⟩
      have hgk : L.getD k default = v := by rw [List.getD_eq_getElem?_getD, hv]; rfl
      obtain ⟨b, off, rfl, c0, c1', c2', c3, c4, c5⟩ := (hL.below hbr) k v hv
      obtain ⟨lk, hlk⟩ : ∃ x, x = left.getD k 0 := ⟨_, rfl⟩
      obtain ⟨wk, hwk⟩ : ∃ x, x = wear.getD k 0 := ⟨_, rfl⟩
      obtain ⟨wa, hwa⟩ : ∃ x, x = wear.getD at_ 0 := ⟨_, rfl⟩
      have HLK := hide (HT.out k)
      have HWK := hide (HW.out k)
      have HWA := hide (HW.out at_)
      rw [← hlk] at HLK
      rw [← hwk] at HWK
      rw [← hwa] at HWA
      have HS := hide (show nextS L wear left (na, nh) (k + 1) = if ((nh && decide (k = na)) || ((decide (v.cnt ≠ 0) || !v.cl) && decide (lk ≤ 0))) = true then (at_, hs) else if (!hs || decide (wk < wa)) = true then (k, true) else (at_, hs) by
        rw [nextS, skipB, hgk, hpair, ← hlk, ← hwk, ← hwa])
      have hnak : ((k : Int) == (na : Int)) = decide (k = na) := by rw [Bool.eq_iff_iff]; simp; omega
      obtain ⟨i1, i2, i3⟩ := idx_at hlt
      clear hgk hv hat hhs hlk hwk hwa hpair
      have hcn : (v.cnt == 0) = !decide (v.cnt ≠ 0) := by rw [Bool.eq_iff_iff]; simp
      have hlk0 : decide (0 < lk) = !decide (lk ≤ 0) := by rw [Bool.eq_iff_iff]; simp
      obtain ⟨vk, vm, vsa, vsn, vsc, vcnt, ven, vcl⟩ := v
      simp only [] at *
      have hd1 : decide (k = na) = true ∨ decide (k = na) = false := by cases decide (k = na) <;> simp
      have hd2 : decide (vcnt ≠ 0) = true ∨ decide (vcnt ≠ 0) = false := by cases decide (vcnt ≠ 0) <;> simp
      have hd3 : decide (lk ≤ 0) = true ∨ decide (lk ≤ 0) = false := by cases decide (lk ≤ 0) <;> simp
      have hd4 : decide (wk < wa) = true ∨ decide (wk < wa) = false := by cases decide (wk < wa) <;> simp
      rcases hd1 with hd1 | hd1 <;> rcases hd2 with hd2 | hd2 <;> rcases hd3 with hd3 | hd3 <;> rcases hd4 with hd4 | hd4 <;> cases nh <;> cases vcl <;> cases hs
      all_goals
        rw [hd1] at HS hnak
        rw [hd2] at HS hcn
        rw [hd3] at HS hlk0
        rw [hd4] at HS
        simp only [Bool.false_and, Bool.true_and, Bool.or_false, Bool.or_true, Bool.false_or, Bool.true_or, Bool.not_true, Bool.not_false, if_true, if_false, Bool.false_eq_true] at HS hcn hlk0
        have hbF : bestI (at_, false) = -1 := rfl
        have hbT : bestI (at_, true) = (at_ : Nat) := rfl
        try rw [hbF]
        try rw [hbT]
        clear hd1 hd2 hd3 hbF hbT
        go_wp2_with (first
          | (go_at_call 116; (with_reducible refine (HLK.out _ hbr).mono ?_); rintro e w2 ⟨rfl, rfl⟩)
          | (go_at_call 116; (with_reducible refine (HWK.out _ hbr).mono ?_); rintro e w2 ⟨rfl, rfl⟩)
          | (go_at_call 116; (with_reducible refine (HWA.out _ hbr).mono ?_); rintro e w2 ⟨rfl, rfl⟩))
        go_roundw
        case rel => exact ⟨k + 1, by omega, by go_num, by rw [HS.out]; rfl, hbr⟩
        case measure => simp [intOf]; omega
    · obtain rfl : k = n := by omega
      have HA := hide (show nextS L wear left (na, nh) k = (at_, hs) from hpair)
      have hz := ((nextS_spec L wear left (na, nh) k).2)
      rw [hpair] at hz
      cases hs with
      | false =>
        obtain rfl := (hz rfl).1
        have hb : bestI (0, false) = -1 := rfl
        rw [hb]
        clear hat hhs hpair hz hb
        go_wp2_with fail
        go_ret2
        exact ⟨by rw [HA.out]; rfl, hbr⟩
      | true =>
        have hb : bestI (at_, true) = (at_ : Nat) := rfl
        rw [hb]
        clear hat hhs hpair hz hb
        go_wp2_with fail
        go_ret2
        exact ⟨by rw [HA.out]; rfl, hbr⟩
end Go.Proofs.Ytfddfgonhgidbaa
