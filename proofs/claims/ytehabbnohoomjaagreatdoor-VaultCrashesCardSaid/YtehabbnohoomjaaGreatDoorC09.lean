/- Package sector: Newest, Next, pick, Room. -/
import Derived.Test.YtehabbnohoomjaaGreatDoorC08
namespace Go.Proofs.YtehabbnohoomjaaGreatDoor
section
set_option linter.unusedVariables false
set_option linter.unusedSimpArgs false
set_option linter.unnecessarySimpa false
open Go.RowKit
set_option maxRecDepth 20000
set_option maxHeartbeats 2000000
attribute [local go_sem ↓] Go.wp_at_zero Go.wp_at_succ

/-- a look as a value: its data's slice is any value of one cell -/
structure KV where
  k : Int
  m : Nat
  sa : Option Addr
  sn : Nat
  sc : Nat
  cnt : Int
  en : Int
  cl : Bool
instance : Inhabited KV := ⟨⟨0, 0, none, 0, 0, 0, 0, false⟩⟩
def SlK (w : World) (A : Option Addr) (L : List KV) : Prop := ∀ j v, L[j]? = some v → ∃ b off, A = some ⟨b, off, none⟩ ∧ w.cell? ⟨b, off + j * 6, none⟩ = some (.int .i64 v.k) ∧ w.cell? ⟨b, off + j * 6 + 1, none⟩ = some (.int .u32 (v.m : Nat)) ∧
  w.cell? ⟨b, off + j * 6 + 2, none⟩ = some (.slice v.sa v.sn v.sc) ∧ w.cell? ⟨b, off + j * 6 + 3, none⟩ = some (.int .i64 v.cnt) ∧ w.cell? ⟨b, off + j * 6 + 4, none⟩ = some (.int .i64 v.en) ∧ w.cell? ⟨b, off + j * 6 + 5, none⟩ = some (.bool v.cl)
theorem SlK.below {w w' : World} {A : Option Addr} {L : List KV} (h : SlK w A L) (hb : Below w.heap.size w w') : SlK w' A L := by
  intro j v hv
  obtain ⟨b, off, e, h0, h1, h2, h3, h4, h5⟩ := h j v hv
  have hk : ∀ {p : Addr} {u : Value}, w.cell? p = some u → w'.cell? p = some u := fun hc => (hb.cell (lt_of_cell hc)).trans hc
  exact ⟨b, off, e, hk h0, hk h1, hk h2, hk h3, hk h4, hk h5⟩
def newestS (L : List KV) : Nat → Nat × Bool
  | 0 => (0, false)
  | i + 1 => if (decide (0 < (L.getD i default).cnt) && (!(newestS L i).2 || decide ((L.getD (newestS L i).1 default).m < (L.getD i default).m))) = true then (i, true) else newestS L i
theorem newestS_lt (L : List KV) (i : Nat) (h : (newestS L i).2 = true) : (newestS L i).1 < i := by
  induction i with
  | zero => cases h
  | succ i ih =>
    unfold newestS at h ⊢
    split
    · simp
    · rename_i hh
      rw [if_neg hh] at h
      have := ih h
      omega

theorem sec_newest (A : Option Addr) (n c : Nat) (L : List KV) (w : World) (hn : n = L.length) (hl : n ≤ 35184372088) (hL : SlK w A L) :
    Calls Tryz.prog 81 #[.slice A n c] w fun e w' => e = .returned (.tuple #[.int .i64 ((newestS L n).1 : Nat), .bool (newestS L n).2]) ∧ Below w.heap.size w w' := by
  have HN := hide hn
  clear hn
  go_enter Tryz.func81, Tryz.ntmps81
  go_wp2_with fail
  go_loopw [4, 5, 6, 7, 10] (fun a h _ _ i wr => ∃ k, k ≤ n ∧ i = .int .i64 (k : Nat) ∧ a = .int .i64 ((newestS L k).1 : Nat) ∧ h = .bool (newestS L k).2 ∧ Below w.heap.size w wr) (fun _ _ _ _ i _ => n - (intOf i).toNat)
  case atStart => exact ⟨0, by omega, rfl, rfl, rfl, Below.refl _ _⟩
  case round =>
    obtain ⟨k, hk, rfl, rfl, rfl, hbr⟩ := hrel
    obtain ⟨at_, hat⟩ : ∃ a, a = (newestS L k).1 := ⟨_, rfl⟩
    obtain ⟨hs, hhs⟩ : ∃ h, h = (newestS L k).2 := ⟨_, rfl⟩
    have hlta := newestS_lt L k
    rw [← hat, ← hhs] at hlta ⊢
    by_cases hlt : k < n
    · obtain ⟨v, hv⟩ : ∃ v, L[k]? = some v := ⟨L[k]'(by have := HN.out; omega), List.getElem?_eq_getElem _⟩
      have hgk : L.getD k default = v := by rw [List.getD_eq_getElem?_getD, hv]; rfl
      obtain ⟨b, off, rfl, c0, c1, c2, c3, c4, c5⟩ := (hL.below hbr) k v hv
      have kx := blk_one wr 131 #[.int .i64 v.k, .int .u32 (v.m : Nat), .slice v.sa v.sn v.sc, .int .i64 v.cnt, .int .i64 v.en, .bool v.cl]
      have HS : newestS L (k + 1) = if (decide (0 < v.cnt) && (!hs || decide ((L.getD at_ default).m < v.m))) = true then (k, true) else (at_, hs) := by
        rw [newestS, hgk, ← hat, ← hhs]
        split
        · rfl
        · rw [hat, hhs]
      have zb := lt_of_cell c0
      simp only [] at zb
      by_cases h0 : 0 < v.cnt
      case neg =>
        have hd0 : decide (0 < v.cnt) = false := by simpa using h0
        have HS2 := hide (show newestS L (k + 1) = (at_, hs) by rw [HS, hd0]; rfl)
        have HV := hide hv
        clear HS hgk hv hat hhs h0 hlta
        go_wp2_with fail
        go_quiet (fail)
        go_wp2_with fail
        go_roundw
        case rel => exact ⟨k + 1, by omega, by go_num, by rw [HS2.out], by rw [HS2.out], by repeat' (first | with_reducible assumption | with_reducible exact Below.refl _ _ | with_reducible apply below_alloc | with_reducible apply below_drew1 | with_reducible apply below_drewN | (with_reducible apply below_step; with_reducible assumption) | (with_reducible apply below_sg2; (first | exact Nat.le_refl _ | (simp; done) | omega)))⟩
        case measure => simp [intOf]; omega
      have hd0 : decide (0 < v.cnt) = true := by simpa using h0
      cases hs with
      | false =>
        have HS2 := hide (show newestS L (k + 1) = (k, true) by rw [HS, hd0]; rfl)
        clear HS hgk hv hat hhs h0 hlta
        go_wp2_with fail
        go_quiet (fail)
        go_wp2_with fail
        go_roundw
        case rel => exact ⟨k + 1, by omega, by go_num, by rw [HS2.out], by rw [HS2.out], by repeat' (first | with_reducible assumption | with_reducible exact Below.refl _ _ | with_reducible apply below_alloc | with_reducible apply below_drew1 | with_reducible apply below_drewN | (with_reducible apply below_step; with_reducible assumption) | (with_reducible apply below_sg2; (first | exact Nat.le_refl _ | (simp; done) | omega)))⟩
        case measure => simp [intOf]; omega
      | true =>
        have hak := hlta rfl
        obtain ⟨u, hu⟩ : ∃ u, L[at_]? = some u := ⟨L[at_]'(by have := HN.out; omega), List.getElem?_eq_getElem _⟩
        have hga : L.getD at_ default = u := by rw [List.getD_eq_getElem?_getD, hu]; rfl
        obtain ⟨b2, off2, hA2, e0, e1, e2, e3, e4, e5⟩ := (hL.below hbr) at_ u hu
        injection hA2 with hA2
        injection hA2 with q1 q2
        subst q1
        subst q2
        have i1 : (0 : Int) ≤ (at_ : Int) := by omega
        have i2 : (at_ : Int) < (n : Int) := by omega
        have i3 : at_ < n := by omega
        by_cases hm : u.m < v.m
        · have hm' : decide ((u.m : Int) < (v.m : Int)) = true := by simp; omega
          have hm'' : decide (u.m < v.m) = true := by simp; omega
          have HS2 := hide (show newestS L (k + 1) = (k, true) by rw [HS, hd0, hga, hm'']; rfl)
          clear HS hgk hga hv hu hat hhs h0 hlta hm
          go_wp2_with fail
          go_quiet (fail)
          go_wp2_with fail
          go_roundw
          case rel => exact ⟨k + 1, by omega, by go_num, by rw [HS2.out], by rw [HS2.out], by repeat' (first | with_reducible assumption | with_reducible exact Below.refl _ _ | with_reducible apply below_alloc | with_reducible apply below_drew1 | with_reducible apply below_drewN | (with_reducible apply below_step; with_reducible assumption) | (with_reducible apply below_sg2; (first | exact Nat.le_refl _ | (simp; done) | omega)))⟩
          case measure => simp [intOf]; omega
        · have hm' : decide ((u.m : Int) < (v.m : Int)) = false := by simp; omega
          have hm'' : decide (u.m < v.m) = false := by simp; omega
          have HS2 := hide (show newestS L (k + 1) = (at_, true) by rw [HS, hd0, hga, hm'']; rfl)
          clear HS hgk hga hv hu hat hhs h0 hlta hm
          go_wp2_with fail
          go_quiet (fail)
          go_wp2_with fail
          go_roundw
          case rel => exact ⟨k + 1, by omega, by go_num, by rw [HS2.out], by rw [HS2.out], by repeat' (first | with_reducible assumption | with_reducible exact Below.refl _ _ | with_reducible apply below_alloc | with_reducible apply below_drew1 | with_reducible apply below_drewN | (with_reducible apply below_step; with_reducible assumption) | (with_reducible apply below_sg2; (first | exact Nat.le_refl _ | (simp; done) | omega)))⟩
          case measure => simp [intOf]; omega
    · obtain rfl : k = n := by omega
      have HA := hide (And.intro hat hhs)
      clear hat hhs hlta
      go_wp2_with fail
      go_ret2
      exact ⟨by rw [← HA.out.1, ← HA.out.2]; rfl, hbr⟩

theorem sec_pick (A : Option Addr) (n c i : Nat) (xs : List Int) (w : World) (hn : n = xs.length) (hl : n ≤ 35184372088) (hs : Sl w A (xs.map (Value.int .i64))) :
    Calls Tryz.prog 212 #[.slice A n c, .int .i64 (i : Nat)] w fun e w' => e = .returned (.int .i64 (xs.getD i 0)) ∧ w = w' := by
  by_cases hi : n ≤ i
  · have HX := hide (show xs.getD i 0 = 0 by rw [List.getD_eq_getElem?_getD, List.getElem?_eq_none (by omega)]; rfl)
    clear hn
    go_enter Tryz.func212, Tryz.ntmps212
    go_wp2_with fail
    go_ret
    exact ⟨ret_int HX.out.symm, rfl⟩
  · obtain ⟨b, off, rfl, hc⟩ := hs.at_ (j := i) (u := .int .i64 (xs[i]'(by omega))) (by rw [List.getElem?_map, List.getElem?_eq_getElem (by omega)]; rfl)
    have HX := hide (show xs.getD i 0 = xs[i]'(by omega) by rw [List.getD_eq_getElem?_getD, List.getElem?_eq_getElem (by omega)]; rfl)
    obtain ⟨x, hx⟩ : ∃ x, x = xs[i]'(by omega) := ⟨_, rfl⟩
    rw [← hx] at hc HX
    clear hn hx
    have hlt : i < n := by omega
    go_enter Tryz.func212, Tryz.ntmps212
    go_wp2_with fail
    go_ret
    exact ⟨ret_int HX.out.symm, rfl⟩
theorem sec_room (k : Int) (m : Nat) (sa : Option Addr) (sn sc : Nat) (cnt en : Int) (cl : Bool) (d : Int) (w : World) (h1 : -4611686018427387904 ≤ d) (h2 : d ≤ 4611686018427387904) :
    Calls Tryz.prog 189 #[.agg #[.int .i64 k, .int .u32 (m : Nat), .slice sa sn sc, .int .i64 cnt, .int .i64 en, .bool cl], .int .i64 d] w fun e w' => e = .returned (.bool (cl && decide (0 ≤ d ∧ d ≤ 960 ∧ 0 ≤ en ∧ en ≤ 1011 - d))) ∧ Below w.heap.size w w' := by
  cases cl
  all_goals
    go_enter Tryz.func189, Tryz.ntmps189
    go_wp2_with fail
    all_goals
      go_ret
      exact ⟨ret_bool (by rw [Bool.eq_iff_iff]; simp_all; try omega), below_alloc (Below.refl _ _) _⟩
end
end Go.Proofs.YtehabbnohoomjaaGreatDoor
namespace Go.Proofs.YtehabbnohoomjaaGreatDoor
section
set_option linter.unusedVariables false
set_option linter.unusedSimpArgs false
set_option linter.unnecessarySimpa false
open Go.RowKit
set_option maxRecDepth 20000
set_option maxHeartbeats 4000000
attribute [local go_sem ↓] Go.wp_at_zero Go.wp_at_succ

def skipB (L : List KV) (left : List Int) (nw : Nat × Bool) (i : Nat) : Bool :=
  (nw.2 && decide (i = nw.1)) || ((decide ((L.getD i default).cnt ≠ 0) || !(L.getD i default).cl) && decide (left.getD i 0 ≤ 0))
def nextS (L : List KV) (wear left : List Int) (nw : Nat × Bool) : Nat → Nat × Bool
  | 0 => (0, false)
  | i + 1 => if skipB L left nw i = true then nextS L wear left nw i else
    if (!(nextS L wear left nw i).2 || decide (wear.getD i 0 < wear.getD (nextS L wear left nw i).1 0)) = true then (i, true) else nextS L wear left nw i

theorem sec_next (A A1 A2 : Option Addr) (n c n1 c1 n2 c2 : Nat) (L : List KV) (wear left : List Int) (w : World) (hn : n = L.length) (hl : n ≤ 35184372088) (hL : SlK w A L)
    (hn1 : n1 = wear.length) (hl1 : n1 ≤ 35184372088) (hs1 : Sl w A1 (wear.map (Value.int .i64))) (hn2 : n2 = left.length) (hl2 : n2 ≤ 35184372088) (hs2 : Sl w A2 (left.map (Value.int .i64))) :
    Calls Tryz.prog 191 #[.slice A n c, .slice A1 n1 c1, .slice A2 n2 c2] w fun e w' =>
      e = .returned (.tuple #[.int .i64 ((nextS L wear left (newestS L n) n).1 : Nat), .bool (nextS L wear left (newestS L n) n).2]) ∧ Below w.heap.size w w' := by
  obtain ⟨nw, hnw⟩ : ∃ nw, nw = newestS L n := ⟨_, rfl⟩
  have HW := hide (fun i W (h : Below w.heap.size w W) => sec_pick A1 n1 c1 i wear W hn1 hl1 (hs1.below h))
  have HT := hide (fun i W (h : Below w.heap.size w W) => sec_pick A2 n2 c2 i left W hn2 hl2 (hs2.below h))
  have HNW := hide (sec_newest A n c L w hn hl hL)
  rw [← hnw] at HNW ⊢
  obtain ⟨na, nh⟩ := nw
  have HN := hide hn
  clear hn hnw hn1 hn2
  go_enter Tryz.func191, Tryz.ntmps191
  go_wp2_with fail
  refine HNW.out.mono ?_
  rintro e w1 ⟨rfl, hb1⟩
  simp only []
  go_wp2_with fail
  go_loopw [10, 11, 12, 13, 14, 22, 35, 49] (fun a h _ _ _ i _ _ wr => ∃ k, k ≤ n ∧ i = .int .i64 (k : Nat) ∧ a = .int .i64 ((nextS L wear left (na, nh) k).1 : Nat) ∧ h = .bool (nextS L wear left (na, nh) k).2 ∧ Below w.heap.size w wr) (fun _ _ _ _ _ i _ _ _ => n - (intOf i).toNat)
  case atStart => exact ⟨0, by omega, rfl, rfl, rfl, hb1⟩
  case round =>
    obtain ⟨k, hk, rfl, rfl, rfl, hbr⟩ := hrel
    obtain ⟨at_, hat⟩ : ∃ a, a = (nextS L wear left (na, nh) k).1 := ⟨_, rfl⟩
    obtain ⟨hs, hhs⟩ : ∃ h, h = (nextS L wear left (na, nh) k).2 := ⟨_, rfl⟩
    rw [← hat, ← hhs]
    by_cases hlt : k < n
    · obtain ⟨v, hv⟩ : ∃ v, L[k]? = some v := ⟨L[k]'(by have := HN.out; omega), List.getElem?_eq_getElem _⟩
      have hgk : L.getD k default = v := by rw [List.getD_eq_getElem?_getD, hv]; rfl
      obtain ⟨b, off, rfl, c0, c1', c2', c3, c4, c5⟩ := (hL.below hbr) k v hv
      have kx := blk_one wr 131 #[.int .i64 v.k, .int .u32 (v.m : Nat), .slice v.sa v.sn v.sc, .int .i64 v.cnt, .int .i64 v.en, .bool v.cl]
      have hbx := below_alloc hbr (.cells #[.int .i64 v.k, .int .u32 (v.m : Nat), .slice v.sa v.sn v.sc, .int .i64 v.cnt, .int .i64 v.en, .bool v.cl] 131)
      obtain ⟨lk, hlk⟩ : ∃ x, x = left.getD k 0 := ⟨_, rfl⟩
      obtain ⟨wk, hwk⟩ : ∃ x, x = wear.getD k 0 := ⟨_, rfl⟩
      obtain ⟨wa, hwa⟩ : ∃ x, x = wear.getD at_ 0 := ⟨_, rfl⟩
      have HLK := hide (HT.out k)
      have HWK := hide (HW.out k)
      have HWA := hide (HW.out at_)
      rw [← hlk] at HLK
      rw [← hwk] at HWK
      rw [← hwa] at HWA
      have HS := hide (show nextS L wear left (na, nh) (k + 1) = if ((nh && decide (k = na)) || ((decide (v.cnt ≠ 0) || !v.cl) && decide (lk ≤ 0))) = true then (at_, hs) else if (!hs || decide (wk < wa)) = true then (k, true) else (at_, hs) by
        rw [nextS, skipB, hgk, ← hat, ← hhs, ← hlk, ← hwk, ← hwa]
        rw [show nextS L wear left (na, nh) k = (at_, hs) by rw [hat, hhs]])
      have hnak : ((k : Int) == (na : Int)) = decide (k = na) := by rw [Bool.eq_iff_iff]; simp; omega
      have zb := lt_of_cell c0
      simp only [] at zb
      clear hgk hv hat hhs hlk hwk hwa
      have hcn : (v.cnt != 0) = decide (v.cnt ≠ 0) := by rw [Bool.eq_iff_iff]; simp
      obtain ⟨vk, vm, vsa, vsn, vsc, vcnt, ven, vcl⟩ := v
      simp only [] at *
      have hd1 : decide (k = na) = true ∨ decide (k = na) = false := by cases decide (k = na) <;> simp
      have hd2 : decide (vcnt ≠ 0) = true ∨ decide (vcnt ≠ 0) = false := by cases decide (vcnt ≠ 0) <;> simp
      have hd3 : decide (lk ≤ 0) = true ∨ decide (lk ≤ 0) = false := by cases decide (lk ≤ 0) <;> simp
      have hd4 : decide (wk < wa) = true ∨ decide (wk < wa) = false := by cases decide (wk < wa) <;> simp
      rcases hd1 with hd1 | hd1 <;> rcases hd2 with hd2 | hd2 <;> rcases hd3 with hd3 | hd3 <;> rcases hd4 with hd4 | hd4 <;> cases nh <;> cases vcl <;> cases hs
      all_goals
        rw [hd1] at HS hnak
        rw [hd2] at HS hcn
        rw [hd3, hd4] at HS
        simp only [Bool.false_and, Bool.true_and, Bool.or_false, Bool.or_true, Bool.false_or, Bool.true_or, Bool.not_true, Bool.not_false, if_true, if_false, Bool.false_eq_true] at HS
        clear hd1 hd2
        go_wp2_with (first
          | (go_at_call 212; (with_reducible refine (HLK.out _ hbx).mono ?_); rintro e w2 ⟨rfl, rfl⟩)
          | (go_at_call 212; (with_reducible refine (HWK.out _ hbx).mono ?_); rintro e w2 ⟨rfl, rfl⟩)
          | (go_at_call 212; (with_reducible refine (HWA.out _ hbx).mono ?_); rintro e w2 ⟨rfl, rfl⟩))
        go_roundw
        case rel => exact ⟨k + 1, by omega, by go_num, by rw [HS.out], by rw [HS.out], hbx⟩
        case measure => simp [intOf]; omega
    · obtain rfl : k = n := by omega
      have HA := hide (And.intro hat hhs)
      clear hat hhs
      go_wp2_with fail
      go_ret2
      exact ⟨by rw [← HA.out.1, ← HA.out.2]; rfl, hbr⟩
end
end Go.Proofs.YtehabbnohoomjaaGreatDoor
