/- Package sector: Next. -/
import Derived.Test.YtfddfgonhgidbaaSecC
namespace Go.Proofs.Ytfddfgonhgidbaa
set_option linter.unusedVariables false
set_option linter.unusedSimpArgs false
set_option linter.unnecessarySimpa false
open Go.RowKit
set_option maxRecDepth 20000
set_option maxHeartbeats 4000000
attribute [local go_sem ↓] Go.wp_at_zero Go.wp_at_succ

def skipB (L : List KV) (left : List Int) (nw : Nat × Bool) (i : Nat) : Bool :=
  (nw.2 && decide (i = nw.1)) || ((decide ((L.getD i default).cnt ≠ 0) || !(L.getD i default).cl) && decide (left.getD i 0 ≤ 0))
def nextS (L : List KV) (wear left : List Int) (nw : Nat × Bool) : Nat → Nat × Bool
  | 0 => (0, false)
  | i + 1 => if skipB L left nw i = true then nextS L wear left nw i else
    if (!(nextS L wear left nw i).2 || decide (wear.getD i 0 < wear.getD (nextS L wear left nw i).1 0)) = true then (i, true) else nextS L wear left nw i

theorem sec_next (A A1 A2 : Option Addr) (n c n1 c1 n2 c2 : Nat) (L : List KV) (wear left : List Int) (w : World) (hn : n = L.length) (hl : n ≤ 35184372088) (hL : SlK w A L)
    (hn1 : n1 = wear.length) (hl1 : n1 ≤ 35184372088) (hs1 : Sl w A1 (wear.map (Value.int .i64))) (hn2 : n2 = left.length) (hl2 : n2 ≤ 35184372088) (hs2 : Sl w A2 (left.map (Value.int .i64))) :
    Calls Try.prog 74 #[.slice A n c, .slice A1 n1 c1, .slice A2 n2 c2] w fun e w' =>
      e = .returned (.tuple #[.int .i64 ((nextS L wear left (newestS L n) n).1 : Nat), .bool (nextS L wear left (newestS L n) n).2]) ∧ Below w.heap.size w w' := by
  obtain ⟨nw, hnw⟩ : ∃ nw, nw = newestS L n := ⟨_, rfl⟩
  have HW := hide (fun i W (h : Below w.heap.size w W) => sec_pick A1 n1 c1 i wear W hn1 hl1 (hs1.below h))
  have HT := hide (fun i W (h : Below w.heap.size w W) => sec_pick A2 n2 c2 i left W hn2 hl2 (hs2.below h))
  have HNW := hide (sec_newest A n c L w hn hl hL)
  rw [← hnw] at HNW ⊢
  obtain ⟨na, nh⟩ := nw
  have HN := hide hn
  clear hn hnw hn1 hn2
  go_enter Try.func74, Try.ntmps74
  go_wp2_with fail
  refine HNW.out.mono ?_
  rintro e w1 ⟨rfl, hb1⟩
  simp only []
  go_wp2_with fail
  go_loopw [10, 11, 12, 13, 14, 22, 35, 49] (fun a h _ _ _ i _ _ wr => ∃ k, k ≤ n ∧ i = .int .i64 (k : Nat) ∧ a = .int .i64 ((nextS L wear left (na, nh) k).1 : Nat) ∧ h = .bool (nextS L wear left (na, nh) k).2 ∧ Below w.heap.size w wr) (fun _ _ _ _ _ i _ _ _ => n - (intOf i).toNat)
  case atStart => exact ⟨0, by omega, rfl, rfl, rfl, hb1⟩
  case round =>
    obtain ⟨k, hk, rfl, rfl, rfl, hbr⟩ := hrel
    obtain ⟨at_, hat⟩ : ∃ a, a = (nextS L wear left (na, nh) k).1 := ⟨_, rfl⟩
    obtain ⟨hs, hhs⟩ : ∃ h, h = (nextS L wear left (na, nh) k).2 := ⟨_, rfl⟩
    rw [← hat, ← hhs]
    by_cases hlt : k < n
    · obtain ⟨v, hv⟩ : ∃ v, L[k]? = some v := ⟨L[k]'(by have := HN.out; omega), List.getElem?_eq_getElem _⟩
      have hgk : L.getD k default = v := by rw [List.getD_eq_getElem?_getD, hv]; rfl
      obtain ⟨b, off, rfl, c0, c1', c2', c3, c4, c5⟩ := (hL.below hbr) k v hv
      have kx := blk_one wr 88 #[.int .i64 v.k, .int .u32 (v.m : Nat), .slice v.sa v.sn v.sc, .int .i64 v.cnt, .int .i64 v.en, .bool v.cl]
      have hbx := below_alloc hbr (.cells #[.int .i64 v.k, .int .u32 (v.m : Nat), .slice v.sa v.sn v.sc, .int .i64 v.cnt, .int .i64 v.en, .bool v.cl] 88)
      obtain ⟨lk, hlk⟩ : ∃ x, x = left.getD k 0 := ⟨_, rfl⟩
      obtain ⟨wk, hwk⟩ : ∃ x, x = wear.getD k 0 := ⟨_, rfl⟩
      obtain ⟨wa, hwa⟩ : ∃ x, x = wear.getD at_ 0 := ⟨_, rfl⟩
      have HLK := hide (HT.out k)
      have HWK := hide (HW.out k)
      have HWA := hide (HW.out at_)
      rw [← hlk] at HLK
      rw [← hwk] at HWK
      rw [← hwa] at HWA
      have HS := hide (show nextS L wear left (na, nh) (k + 1) = if ((nh && decide (k = na)) || ((decide (v.cnt ≠ 0) || !v.cl) && decide (lk ≤ 0))) = true then (at_, hs) else if (!hs || decide (wk < wa)) = true then (k, true) else (at_, hs) by
        rw [nextS, skipB, hgk, ← hat, ← hhs, ← hlk, ← hwk, ← hwa]
        rw [show nextS L wear left (na, nh) k = (at_, hs) by rw [hat, hhs]])
      have hnak : ((k : Int) == (na : Int)) = decide (k = na) := by rw [Bool.eq_iff_iff]; simp; omega
      have zb := lt_of_cell c0
      simp only [] at zb
      clear hgk hv hat hhs hlk hwk hwa
      have hcn : (v.cnt != 0) = decide (v.cnt ≠ 0) := by rw [Bool.eq_iff_iff]; simp
      obtain ⟨vk, vm, vsa, vsn, vsc, vcnt, ven, vcl⟩ := v
      simp only [] at *
      have hd1 : decide (k = na) = true ∨ decide (k = na) = false := by cases decide (k = na) <;> simp
      have hd2 : decide (vcnt ≠ 0) = true ∨ decide (vcnt ≠ 0) = false := by cases decide (vcnt ≠ 0) <;> simp
      have hd3 : decide (lk ≤ 0) = true ∨ decide (lk ≤ 0) = false := by cases decide (lk ≤ 0) <;> simp
      have hd4 : decide (wk < wa) = true ∨ decide (wk < wa) = false := by cases decide (wk < wa) <;> simp
      rcases hd1 with hd1 | hd1 <;> rcases hd2 with hd2 | hd2 <;> rcases hd3 with hd3 | hd3 <;> rcases hd4 with hd4 | hd4 <;> cases nh <;> cases vcl <;> cases hs
      all_goals
        rw [hd1] at HS hnak
        rw [hd2] at HS hcn
        rw [hd3, hd4] at HS
        simp only [Bool.false_and, Bool.true_and, Bool.or_false, Bool.or_true, Bool.false_or, Bool.true_or, Bool.not_true, Bool.not_false, if_true, if_false, Bool.false_eq_true] at HS
        clear hd1 hd2
        go_wp2_with (first
          | (go_at_call 111; (with_reducible refine (HLK.out _ hbx).mono ?_); rintro e w2 ⟨rfl, rfl⟩)
          | (go_at_call 111; (with_reducible refine (HWK.out _ hbx).mono ?_); rintro e w2 ⟨rfl, rfl⟩)
          | (go_at_call 111; (with_reducible refine (HWA.out _ hbx).mono ?_); rintro e w2 ⟨rfl, rfl⟩))
        go_roundw
        case rel => exact ⟨k + 1, by omega, by go_num, by rw [HS.out], by rw [HS.out], hbx⟩
        case measure => simp [intOf]; omega
    · obtain rfl : k = n := by omega
      have HA := hide (And.intro hat hhs)
      clear hat hhs
      go_wp2_with fail
      go_ret2
      exact ⟨by rw [← HA.out.1, ← HA.out.2]; rfl, hbr⟩
end Go.Proofs.Ytfddfgonhgidbaa
