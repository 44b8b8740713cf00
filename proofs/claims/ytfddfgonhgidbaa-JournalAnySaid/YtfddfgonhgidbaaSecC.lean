/- Package sector: Newest, Next, pick, Room. -/
import Derived.Test.YtfddfgonhgidbaaSecA
namespace Go.Proofs.Ytfddfgonhgidbaa
set_option linter.unusedVariables false
set_option linter.unusedSimpArgs false
set_option linter.unnecessarySimpa false
open Go.RowKit
set_option maxRecDepth 20000
set_option maxHeartbeats 2000000
attribute [local go_sem ↓] Go.wp_at_zero Go.wp_at_succ

/-- a look as a value: its data's slice is any value of one cell -/
structure KV where
  k : Int
  m : Nat
  sa : Option Addr
  sn : Nat
  sc : Nat
  cnt : Int
  en : Int
  cl : Bool
instance : Inhabited KV := ⟨⟨0, 0, none, 0, 0, 0, 0, false⟩⟩
def SlK (w : World) (A : Option Addr) (L : List KV) : Prop := ∀ j v, L[j]? = some v → ∃ b off, A = some ⟨b, off, none⟩ ∧ w.cell? ⟨b, off + j * 6, none⟩ = some (.int .i64 v.k) ∧ w.cell? ⟨b, off + j * 6 + 1, none⟩ = some (.int .u32 (v.m : Nat)) ∧
  w.cell? ⟨b, off + j * 6 + 2, none⟩ = some (.slice v.sa v.sn v.sc) ∧ w.cell? ⟨b, off + j * 6 + 3, none⟩ = some (.int .i64 v.cnt) ∧ w.cell? ⟨b, off + j * 6 + 4, none⟩ = some (.int .i64 v.en) ∧ w.cell? ⟨b, off + j * 6 + 5, none⟩ = some (.bool v.cl)
theorem SlK.below {w w' : World} {A : Option Addr} {L : List KV} (h : SlK w A L) (hb : Below w.heap.size w w') : SlK w' A L := by
  intro j v hv
  obtain ⟨b, off, e, h0, h1, h2, h3, h4, h5⟩ := h j v hv
  have hk : ∀ {p : Addr} {u : Value}, w.cell? p = some u → w'.cell? p = some u := fun hc => (hb.cell (lt_of_cell hc)).trans hc
  exact ⟨b, off, e, hk h0, hk h1, hk h2, hk h3, hk h4, hk h5⟩
def newestS (L : List KV) : Nat → Nat × Bool
  | 0 => (0, false)
  | i + 1 => if (decide (0 < (L.getD i default).cnt) && (!(newestS L i).2 || decide ((L.getD (newestS L i).1 default).m < (L.getD i default).m))) = true then (i, true) else newestS L i
theorem newestS_lt (L : List KV) (i : Nat) (h : (newestS L i).2 = true) : (newestS L i).1 < i := by
  induction i with
  | zero => cases h
  | succ i ih =>
    unfold newestS at h ⊢
    split
    · simp
    · rename_i hh
      rw [if_neg hh] at h
      have := ih h
      omega

theorem sec_newest (A : Option Addr) (n c : Nat) (L : List KV) (w : World) (hn : n = L.length) (hl : n ≤ 35184372088) (hL : SlK w A L) :
    Calls Try.prog 48 #[.slice A n c] w fun e w' => e = .returned (.tuple #[.int .i64 ((newestS L n).1 : Nat), .bool (newestS L n).2]) ∧ Below w.heap.size w w' := by
  have HN := hide hn
  clear hn
  go_enter Try.func48, Try.ntmps48
  go_wp2_with fail
  go_loopw [4, 5, 6, 7, 10] (fun a h _ _ i wr => ∃ k, k ≤ n ∧ i = .int .i64 (k : Nat) ∧ a = .int .i64 ((newestS L k).1 : Nat) ∧ h = .bool (newestS L k).2 ∧ Below w.heap.size w wr) (fun _ _ _ _ i _ => n - (intOf i).toNat)
  case atStart => exact ⟨0, by omega, rfl, rfl, rfl, Below.refl _ _⟩
  case round =>
    obtain ⟨k, hk, rfl, rfl, rfl, hbr⟩ := hrel
    obtain ⟨at_, hat⟩ : ∃ a, a = (newestS L k).1 := ⟨_, rfl⟩
    obtain ⟨hs, hhs⟩ : ∃ h, h = (newestS L k).2 := ⟨_, rfl⟩
    have hlta := newestS_lt L k
    rw [← hat, ← hhs] at hlta ⊢
    by_cases hlt : k < n
    · obtain ⟨v, hv⟩ : ∃ v, L[k]? = some v := ⟨L[k]'(by have := HN.out; omega), List.getElem?_eq_getElem _⟩
      have hgk : L.getD k default = v := by rw [List.getD_eq_getElem?_getD, hv]; rfl
      obtain ⟨b, off, rfl, c0, c1, c2, c3, c4, c5⟩ := (hL.below hbr) k v hv
      have kx := blk_one wr 88 #[.int .i64 v.k, .int .u32 (v.m : Nat), .slice v.sa v.sn v.sc, .int .i64 v.cnt, .int .i64 v.en, .bool v.cl]
      have HS : newestS L (k + 1) = if (decide (0 < v.cnt) && (!hs || decide ((L.getD at_ default).m < v.m))) = true then (k, true) else (at_, hs) := by
        rw [newestS, hgk, ← hat, ← hhs]
        split
        · rfl
        · rw [hat, hhs]
      have zb := lt_of_cell c0
      simp only [] at zb
      by_cases h0 : 0 < v.cnt
      case neg =>
        have hd0 : decide (0 < v.cnt) = false := by simpa using h0
        have HS2 := hide (show newestS L (k + 1) = (at_, hs) by rw [HS, hd0]; rfl)
        have HV := hide hv
        clear HS hgk hv hat hhs h0 hlta
        go_wp2_with fail
        go_quiet (fail)
        go_wp2_with fail
        go_roundw
        case rel => exact ⟨k + 1, by omega, by go_num, by rw [HS2.out], by rw [HS2.out], by repeat' (first | with_reducible assumption | with_reducible exact Below.refl _ _ | with_reducible apply below_alloc | with_reducible apply below_drew1 | with_reducible apply below_drewN | (with_reducible apply below_step; with_reducible assumption) | (with_reducible apply below_sg2; (first | exact Nat.le_refl _ | (simp; done) | omega)))⟩
        case measure => simp [intOf]; omega
      have hd0 : decide (0 < v.cnt) = true := by simpa using h0
      cases hs with
      | false =>
        have HS2 := hide (show newestS L (k + 1) = (k, true) by rw [HS, hd0]; rfl)
        clear HS hgk hv hat hhs h0 hlta
        go_wp2_with fail
        go_quiet (fail)
        go_wp2_with fail
        go_roundw
        case rel => exact ⟨k + 1, by omega, by go_num, by rw [HS2.out], by rw [HS2.out], by repeat' (first | with_reducible assumption | with_reducible exact Below.refl _ _ | with_reducible apply below_alloc | with_reducible apply below_drew1 | with_reducible apply below_drewN | (with_reducible apply below_step; with_reducible assumption) | (with_reducible apply below_sg2; (first | exact Nat.le_refl _ | (simp; done) | omega)))⟩
        case measure => simp [intOf]; omega
      | true =>
        have hak := hlta rfl
        obtain ⟨u, hu⟩ : ∃ u, L[at_]? = some u := ⟨L[at_]'(by have := HN.out; omega), List.getElem?_eq_getElem _⟩
        have hga : L.getD at_ default = u := by rw [List.getD_eq_getElem?_getD, hu]; rfl
        obtain ⟨b2, off2, hA2, e0, e1, e2, e3, e4, e5⟩ := (hL.below hbr) at_ u hu
        injection hA2 with hA2
        injection hA2 with q1 q2
        subst q1
        subst q2
        have i1 : (0 : Int) ≤ (at_ : Int) := by omega
        have i2 : (at_ : Int) < (n : Int) := by omega
        have i3 : at_ < n := by omega
        by_cases hm : u.m < v.m
        · have hm' : decide ((u.m : Int) < (v.m : Int)) = true := by simp; omega
          have hm'' : decide (u.m < v.m) = true := by simp; omega
          have HS2 := hide (show newestS L (k + 1) = (k, true) by rw [HS, hd0, hga, hm'']; rfl)
          clear HS hgk hga hv hu hat hhs h0 hlta hm
          go_wp2_with fail
          go_quiet (fail)
          go_wp2_with fail
          go_roundw
          case rel => exact ⟨k + 1, by omega, by go_num, by rw [HS2.out], by rw [HS2.out], by repeat' (first | with_reducible assumption | with_reducible exact Below.refl _ _ | with_reducible apply below_alloc | with_reducible apply below_drew1 | with_reducible apply below_drewN | (with_reducible apply below_step; with_reducible assumption) | (with_reducible apply below_sg2; (first | exact Nat.le_refl _ | (simp; done) | omega)))⟩
          case measure => simp [intOf]; omega
        · have hm' : decide ((u.m : Int) < (v.m : Int)) = false := by simp; omega
          have hm'' : decide (u.m < v.m) = false := by simp; omega
          have HS2 := hide (show newestS L (k + 1) = (at_, true) by rw [HS, hd0, hga, hm'']; rfl)
          clear HS hgk hga hv hu hat hhs h0 hlta hm
          go_wp2_with fail
          go_quiet (fail)
          go_wp2_with fail
          go_roundw
          case rel => exact ⟨k + 1, by omega, by go_num, by rw [HS2.out], by rw [HS2.out], by repeat' (first | with_reducible assumption | with_reducible exact Below.refl _ _ | with_reducible apply below_alloc | with_reducible apply below_drew1 | with_reducible apply below_drewN | (with_reducible apply below_step; with_reducible assumption) | (with_reducible apply below_sg2; (first | exact Nat.le_refl _ | (simp; done) | omega)))⟩
          case measure => simp [intOf]; omega
    · obtain rfl : k = n := by omega
      have HA := hide (And.intro hat hhs)
      clear hat hhs hlta
      go_wp2_with fail
      go_ret2
      exact ⟨by rw [← HA.out.1, ← HA.out.2]; rfl, hbr⟩

theorem sec_pick (A : Option Addr) (n c i : Nat) (xs : List Int) (w : World) (hn : n = xs.length) (hl : n ≤ 35184372088) (hs : Sl w A (xs.map (Value.int .i64))) :
    Calls Try.prog 111 #[.slice A n c, .int .i64 (i : Nat)] w fun e w' => e = .returned (.int .i64 (xs.getD i 0)) ∧ w = w' := by
  by_cases hi : n ≤ i
  · have HX := hide (show xs.getD i 0 = 0 by rw [List.getD_eq_getElem?_getD, List.getElem?_eq_none (by omega)]; rfl)
    clear hn
    go_enter Try.func111, Try.ntmps111
    go_wp2_with fail
    go_ret
    exact ⟨ret_int HX.out.symm, rfl⟩
  · obtain ⟨b, off, rfl, hc⟩ := hs.at_ (j := i) (u := .int .i64 (xs[i]'(by omega))) (by rw [List.getElem?_map, List.getElem?_eq_getElem (by omega)]; rfl)
    have HX := hide (show xs.getD i 0 = xs[i]'(by omega) by rw [List.getD_eq_getElem?_getD, List.getElem?_eq_getElem (by omega)]; rfl)
    obtain ⟨x, hx⟩ : ∃ x, x = xs[i]'(by omega) := ⟨_, rfl⟩
    rw [← hx] at hc HX
    clear hn hx
    have hlt : i < n := by omega
    go_enter Try.func111, Try.ntmps111
    go_wp2_with fail
    go_ret
    exact ⟨ret_int HX.out.symm, rfl⟩
theorem sec_room (k : Int) (m : Nat) (sa : Option Addr) (sn sc : Nat) (cnt en : Int) (cl : Bool) (d : Int) (w : World) (h1 : -4611686018427387904 ≤ d) (h2 : d ≤ 4611686018427387904) :
    Calls Try.prog 72 #[.agg #[.int .i64 k, .int .u32 (m : Nat), .slice sa sn sc, .int .i64 cnt, .int .i64 en, .bool cl], .int .i64 d] w fun e w' => e = .returned (.bool (cl && decide (0 ≤ d ∧ d ≤ 960 ∧ 0 ≤ en ∧ en ≤ 1011 - d))) ∧ Below w.heap.size w w' := by
  cases cl
  all_goals
    go_enter Try.func72, Try.ntmps72
    go_wp2_with fail
    all_goals
      go_ret
      exact ⟨ret_bool (by rw [Bool.eq_iff_iff]; simp_all; try omega), below_alloc (Below.refl _ _) _⟩
end Go.Proofs.Ytfddfgonhgidbaa
