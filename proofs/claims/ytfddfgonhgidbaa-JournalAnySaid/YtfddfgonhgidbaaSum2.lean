/- The reference's sum, and what is sealed with a sum. -/
import Derived.Test.YtfddfgonhgidbaaSum
import Derived.Test.YtfddfgonhgidbaaOct
import Derived.Deep.RegionHeld3
import Derived.Deep.RegionWith
import Derived.Deep.DrawnRows
import Derived.BigQuiet
import Derived.Deep.QuietTactic
namespace Go.Proofs.Ytfddfgonhgidbaa
set_option linter.unusedVariables false
set_option linter.unusedSimpArgs false
set_option linter.unnecessarySimpa false
open Go.RowKit
set_option maxRecDepth 20000
set_option maxHeartbeats 1000000
attribute [local go_sem ↓] Go.wp_at_zero Go.wp_at_succ

theorem i64_xor_nat (a b : Nat) (ha : a < 4294967296) (hb : b < 4294967296) : bits .xor .i64 (a : Int) (b : Int) = ((a ^^^ b : Nat) : Int) := by
  have hx : a ^^^ b < 2 ^ 32 := Nat.xor_lt_two_pow (by omega) (by omega)
  show IntKind.i64.wrap ((BitVec.ofInt 64 (a : Int) ^^^ BitVec.ofInt 64 (b : Int)).toNat : Int) = _
  rw [BitVec.toNat_xor, ofInt_u64 a (by omega), ofInt_u64 b (by omega)]
  exact IntWalk.i64_in _ (by omega)
theorem xor_poly (a : Nat) (ha : U32 a) : bits .xor .i64 (a : Int) 3988292384 = ((a ^^^ poly : Nat) : Int) := by
  rw [show (3988292384 : Int) = ((poly : Nat) : Int) from rfl]
  exact i64_xor_nat a poly ha poly_lt
theorem comp_int (s : Nat) (h : U32 s) : (4294967295 : Int) - s = ((4294967295 - s : Nat) : Int) := by unfold U32 at h; omega
theorem crcBit_eq (r b : Nat) (h : r % 2 = b) : crcBit r b = r / 2 := by rw [crcBit, if_pos h]
theorem crcBit_ne (r b : Nat) (h : ¬ r % 2 = b) : crcBit r b = (r / 2) ^^^ poly := by rw [crcBit, if_neg h]

theorem rsum_on (A : Option Addr) (n c s : Nat) (l : List UInt8) (w : World) (hn : n = l.length) (hl : n ≤ 35184372088832) (hu : U32 s) (hs : Sl w A (l.map bv)) :
    Calls Try.prog 137 #[.int .u32 (s : Nat), .slice A n c] w fun e w' => e = .returned (.int .u32 (crcOn s l : Nat)) ∧ w = w' := by
  have HN := hide hn
  have HC := hide (comp_int s hu)
  have hu' : s ≤ 4294967295 := by unfold U32 at hu; omega
  clear hn
  go_enter Try.func137, Try.ntmps137
  go_wp2_with fail
  go_loop [5, 6, 7, 8, 9] (fun r i _ _ _ => ∃ k : Nat, k ≤ n ∧ i = .int .i64 (k : Nat) ∧ r = .int .i64 (crcL (4294967295 - s) (l.take k) : Nat)) (fun _ i _ _ _ => n - (intOf i).toNat)
  case atStart => exact ⟨0, by omega, rfl, by rw [HC.out]; rfl⟩
  case round =>
    obtain ⟨k, hk, rfl, rfl⟩ := hrel
    have hrl := crcL_lt (U32.comp s) (l.take k)
    obtain ⟨r, hr⟩ : ∃ r, r = crcL (4294967295 - s) (l.take k) := ⟨_, rfl⟩
    rw [← hr] at hrl ⊢
    have HR := hide hr
    clear hr
    by_cases hlt : k < n
    · obtain ⟨ad, rfl, hcell⟩ := hs.byte (j := k) (by have := HN.out; omega)
      obtain ⟨b, hb⟩ : ∃ b, b = (l[k]'(by have := HN.out; omega)).toNat := ⟨_, rfl⟩
      have lb : b < 256 := by rw [hb]; exact UInt8.toNat_lt _
      rw [← hb] at hcell
      have HK := hide (show crcL (4294967295 - s) (l.take (k + 1)) = crcBits r b 8 by rw [crcL_take_succ _ _ _ (by have := HN.out; omega), hb, HR.out])
      clear hb
      go_wp2_with fail
      go_loop [5, 7, 8, 9] (fun x y i _ => ∃ j : Nat, j ≤ 8 ∧ i = .int .i64 (j : Nat) ∧ x = .int .i64 (crcBits r b j : Nat) ∧ y = .int .i64 (b / 2 ^ j : Nat)) (fun _ _ i _ => 8 - (intOf i).toNat)
      case atStart => exact ⟨0, by omega, rfl, rfl, by simp⟩
      case round =>
        clear hcell
        obtain ⟨j, hj, rfl, rfl, rfl⟩ := hrel
        have hxl := crcBits_lt hrl b j
        have hyl : b / 2 ^ j ≤ b := Nat.div_le_self _ _
        have HS := hide (show crcBits r b (j + 1) = crcBit (crcBits r b j) (b / 2 ^ j % 2) from rfl)
        have HY := hide (show b / 2 ^ (j + 1) = b / 2 ^ j / 2 by rw [Nat.pow_succ, Nat.div_div_eq_div_mul])
        obtain ⟨x, hx⟩ : ∃ x, x = crcBits r b j := ⟨_, rfl⟩
        obtain ⟨y, hy⟩ : ∃ y, y = b / 2 ^ j := ⟨_, rfl⟩
        rw [← hx] at hxl HS ⊢
        rw [← hy] at hyl HS HY ⊢
        have HX := hide hx
        clear hx hy
        have hxp := xor_poly _ hxl.half
        have hxl' : x ≤ 4294967295 := by unfold U32 at hxl; omega
        by_cases hj8 : j < 8
        · by_cases hp : x % 2 = y % 2
          · have hp' : ((x : Int) % 2 != (y : Int) % 2) = false := by simp; omega
            have HP := hide hp
            clear hp
            go_wp2_with fail
            go_round
            case rel => exact ⟨j + 1, by omega, by go_num, by rw [HS.out, crcBit_eq _ _ HP.out]; go_num, by rw [HY.out]; go_num⟩
            case measure => simp [intOf]; omega
          · have hp' : ((x : Int) % 2 != (y : Int) % 2) = true := by simp; omega
            have HP := hide hp
            clear hp
            go_wp2_with fail
            go_round
            case rel => exact ⟨j + 1, by omega, by go_num, by rw [HS.out, crcBit_ne _ _ HP.out, ← hxp]; rfl, by rw [HY.out]; go_num⟩
            case measure => simp [intOf]; omega
        · obtain rfl : j = 8 := by omega
          go_wp2_with fail
          go_round
          case rel => exact ⟨k + 1, by omega, by go_num, by rw [HK.out, HX.out]⟩
          case measure => simp [intOf]; omega
    · obtain rfl : k = n := by omega
      have HT := hide (show l.take k = l from List.take_of_length_le (by have := HN.out; omega))
      have hrl' : r ≤ 4294967295 := by unfold U32 at hrl; omega
      go_wp2_with fail
      go_ret
      exact ⟨ret_int (by rw [crcOn, ← HT.out, ← HR.out]; omega), rfl⟩

theorem rsum_sum (A : Option Addr) (n c : Nat) (l : List UInt8) (w : World) (hn : n = l.length) (hl : n ≤ 35184372088832) (hs : Sl w A (l.map bv)) :
    Calls Try.prog 114 #[.slice A n c] w fun e w' => e = .returned (.int .u32 (crcOn 0 l : Nat)) ∧ w = w' := by
  have h := rsum_on A n c 0 l w hn hl (by unfold U32; omega) hs
  rw [show (((0 : Nat)) : Int) = 0 from rfl] at h
  have HH := hide h
  clear h hn
  go_enter Try.func114, Try.ntmps114
  go_wp2_with fail
  refine HH.out.mono ?_
  rintro e w1 ⟨rfl, rfl⟩
  go_wp2_with fail
  go_ret
  exact ⟨rfl, rfl⟩

def sealL (l : List UInt8) : List UInt8 := l ++ leB 4 (crcOn 0 l)
theorem sealL_length (l : List UInt8) : (sealL l).length = l.length + 4 := by simp [sealL, leB_length]
theorem crc_p4 (l : List UInt8) : crcOn 0 l < 256 ^ (Int.toNat 4) := by have := crcOn_lt 0 l; unfold U32 at this; exact this

theorem sum_seal (A : Option Addr) (n c : Nat) (l : List UInt8) (w : World) (hn : n = l.length) (hl : n ≤ 35184372088832) (hs : Sl w A (l.map bv)) :
    Calls Try.prog 71 #[.slice A n c] w fun e w' => ∃ A' n' c', e = .returned (.slice A' n' c') ∧ OwnB w' w.heap.size A' n' c' (sealL l) ∧ Below w.heap.size w w' := by
  obtain ⟨s, hse⟩ : ∃ s, s = crcOn 0 l := ⟨_, rfl⟩
  have hs4 : s ≤ 4294967295 := by have := crcOn_lt 0 l; unfold U32 at this; omega
  have HS := hide (sum_sum A n c l w hn hl hs)
  have HP := hide (show ∀ W, Sl W A (l.map bv) → _ from fun W h => put_ok' A n c l 4 s W hn (by omega) (by omega) (by rw [hse]; exact crc_p4 l) hl h)
  have HE := hide (show sealL l = l ++ leB (Int.toNat 4) s by rw [hse]; rfl)
  rw [← hse] at HS
  clear hn hse
  go_enter Try.func71, Try.ntmps71
  go_wp2_with fail
  refine HS.out.mono ?_
  rintro e w1 ⟨rfl, hb1⟩
  go_wp2_with fail
  refine (HP.out _ (hs.below hb1)).mono ?_
  rintro e w2 ⟨A2, n2, c2, rfl, hO2, hb2⟩
  go_wp2_with fail
  go_ret
  exact ⟨_, _, _, rfl, by rw [HE.out]; exact hO2.mono hb1.size, below_step hb2 hb1⟩
theorem rsum_seal (A : Option Addr) (n c : Nat) (l : List UInt8) (w : World) (hn : n = l.length) (hl : n ≤ 35184372088832) (hs : Sl w A (l.map bv)) :
    Calls Try.prog 82 #[.slice A n c] w fun e w' => ∃ A' n' c', e = .returned (.slice A' n' c') ∧ OwnB w' w.heap.size A' n' c' (sealL l) ∧ Below w.heap.size w w' := by
  obtain ⟨s, hse⟩ : ∃ s, s = crcOn 0 l := ⟨_, rfl⟩
  have hs4 : s ≤ 4294967295 := by have := crcOn_lt 0 l; unfold U32 at this; omega
  have HS := hide (rsum_sum A n c l w hn hl hs)
  have HP := hide (show ∀ W, Sl W A (l.map bv) → _ from fun W h => rput_ok A n c l 4 s W (.small hs4) (by omega) (by omega) (by rw [hse]; exact crc_p4 l) hn hl h)
  have HE := hide (show sealL l = l ++ leB (Int.toNat 4) s by rw [hse]; rfl)
  rw [← hse] at HS
  clear hn hse
  go_enter Try.func82, Try.ntmps82
  go_wp2_with fail
  refine HS.out.mono ?_
  rintro e w1 ⟨rfl, rfl⟩
  go_wp2_with fail
  refine (HP.out _ hs).mono ?_
  rintro e w2 ⟨A2, n2, c2, rfl, hO2, hb2⟩
  go_wp2_with fail
  go_ret
  exact ⟨_, _, _, rfl, by rw [HE.out]; exact hO2, hb2⟩

/-- what Open says of bytes that were sealed -/
def openE (l : List UInt8) : Int := if l.length < 4 then 2 else if leN (l.drop (l.length - 4)) = crcOn 0 (l.take (l.length - 4)) then 0 else 5
theorem openE_yes (l : List UInt8) (n : Nat) (hn : n = l.length) (h : 4 ≤ n) (he : leN ((l.drop (n - 4)).take 4) = crcOn 0 (l.take (n - 4))) : openE l = 0 := by
  subst hn
  rw [List.take_of_length_le (by simp; omega)] at he
  rw [openE, if_neg (by omega), if_pos he]
theorem openE_no (l : List UInt8) (n : Nat) (hn : n = l.length) (h : 4 ≤ n) (he : ¬ leN ((l.drop (n - 4)).take 4) = crcOn 0 (l.take (n - 4))) : openE l = 5 := by
  subst hn
  rw [List.take_of_length_le (by simp; omega)] at he
  rw [openE, if_neg (by omega), if_neg he]
theorem seal_eq (l : List UInt8) (n : Nat) (hn : n = l.length) (h : 4 ≤ n) : sealL (l.take (n - 4)) = l ↔ leN ((l.drop (n - 4)).take 4) = crcOn 0 (l.take (n - 4)) := by
  subst hn
  rw [List.take_of_length_le (l := l.drop _) (by simp; omega)]
  have hd : (l.drop (l.length - 4)).length = 4 := by simp; omega
  constructor
  · intro he
    have : l.take (l.length - 4) ++ leB 4 (crcOn 0 (l.take (l.length - 4))) = l.take (l.length - 4) ++ l.drop (l.length - 4) := by
      rw [List.take_append_drop]; exact he
    have h2 := List.append_cancel_left this
    rw [← h2, leN_leB]
    exact Nat.mod_eq_of_lt (crcOn_lt _ _)
  · intro he
    have h3 := leB_leN (l.drop (l.length - 4))
    rw [hd, he] at h3
    rw [sealL, h3, List.take_append_drop]

def OpenD (l d : List UInt8) : Prop := openE l = 0 → d = l.take (l.length - 4)
theorem openD_no (l d : List UInt8) (h : openE l ≠ 0) : OpenD l d := fun h' => absurd h' h
theorem openD_yes (l : List UInt8) (n : Nat) (h : n = l.length) : OpenD l (l.take (n - 4)) := fun _ => by rw [h]
theorem sum_open (A : Option Addr) (n c : Nat) (l : List UInt8) (w : World) (hn : n = l.length) (hc : n ≤ c) (hl : n ≤ 35184372088832) (hs : Sl w A (l.map bv)) :
    Calls Try.prog 142 #[.slice A n c] w fun e w' => ∃ A' n' c' d, e = .returned (.tuple #[.slice A' n' c', .int .i64 (openE l)]) ∧ OwnB w' w.heap.size A' n' c' d ∧ OpenD l d ∧ Below w.heap.size w w' := by
  by_cases h4 : n < 4
  · have HE := hide (show openE l = 2 by rw [openE, if_pos (by omega)])
    clear hn
    go_enter Try.func142, Try.ntmps142
    go_wp2_with fail
    go_ret2
    exact ⟨none, 0, 0, [], by rw [HE.out]; rfl, OwnB.nil _ _, openD_no _ _ (by rw [HE.out]; decide), Below.refl _ _⟩
  · have hi : (4 : Int) ≤ n := by omega
    have e1 : ((n : Int) - 4).toNat = n - 4 := by omega
    obtain ⟨x, hx⟩ : ∃ x, x = leN ((l.drop (n - 4)).take 4) := ⟨_, rfl⟩
    obtain ⟨s, hse⟩ : ∃ s, s = crcOn 0 (l.take (n - 4)) := ⟨_, rfl⟩
    have lx : x ≤ 4294967295 := by
      have := leN_lt ((l.drop (n - 4)).take 4)
      have h2 : ((l.drop (n - 4)).take 4).length = 4 := by simp; omega
      rw [h2] at this
      have h3 : (256 : Nat) ^ 4 = 4294967296 := by decide
      omega
    have HG := hide (show _ from get_ok' A n c l (n - 4) 4 w hn hc (by omega) (by omega) (by omega) (by omega) (by omega) hs)
    rw [e1] at HG
    rw [show Int.toNat 4 = 4 from rfl, ← hx] at HG
    have HS := hide (show _ from sum_sum A (n - 4) c (l.take (n - 4)) w (by simp; omega) (by omega) (by rw [List.map_take]; exact hs.take _))
    rw [← hse] at HS
    have ls : s ≤ 4294967295 := by have := crcOn_lt 0 (l.take (n - 4)); unfold U32 at this; omega
    by_cases he : x = s
    · have HE := hide (openE_yes l n hn (by omega) (by rw [← hx, ← hse]; exact he))
      have HL := hide (show (l.take (n - 4)).length = n - 4 by simp; omega)
      have hst : Sl w A ((l.take (n - 4)).map bv) := by rw [List.map_take]; exact hs.take _
      have he' : ((x : Int) != (s : Int)) = false := by simp; omega
      have HNN := hide hn.symm
      clear hn hx hse he hs
      go_enter Try.func142, Try.ntmps142
      go_wp2_with fail
      refine HG.out.mono ?_
      rintro e w1 ⟨rfl, rfl⟩
      go_wp2_with fail
      refine HS.out.mono ?_
      rintro e w1 ⟨rfl, hb1⟩
      go_wp2_with (at_builtin; refine app_b _ rfl (.const (.slice none 0 0)) (.tmp 27) rfl w.heap.size _ _ _ _ rfl (OwnB.nil _ _) _ _ _ (l.take (n - 4)) rfl HL.out.symm (hst.below hb1) (by omega) hb1.size (n - 4) (by omega) ?_; intro A3 c3 w3 hown3 _ _ hb3)
      go_ret2
      exact ⟨A3, n - 4, c3, _, by rw [HE.out]; rfl, hown3, openD_yes _ _ HNN.out.symm, hb1.trans hb3⟩
    · have HE := hide (openE_no l n hn (by omega) (by rw [← hx, ← hse]; exact he))
      have he' : ((x : Int) != (s : Int)) = true := by simp; omega
      clear hn hx hse he
      go_enter Try.func142, Try.ntmps142
      go_wp2_with fail
      refine HG.out.mono ?_
      rintro e w1 ⟨rfl, rfl⟩
      go_wp2_with fail
      refine HS.out.mono ?_
      rintro e w1 ⟨rfl, hb1⟩
      go_wp2_with fail
      go_ret2
      exact ⟨none, 0, 0, [], by rw [HE.out]; rfl, OwnB.nil _ _, openD_no _ _ (by rw [HE.out]; decide), hb1⟩

theorem rsum_open (A : Option Addr) (n c : Nat) (l : List UInt8) (w : World) (hn : n = l.length) (hc : n ≤ c) (hl : n ≤ 35184372088832) (hs : Sl w A (l.map bv)) :
    Calls Try.prog 157 #[.slice A n c] w fun e w' => ∃ A' n' c' d, e = .returned (.tuple #[.slice A' n' c', .int .i64 (openE l)]) ∧ OwnB w' w.heap.size A' n' c' d ∧ OpenD l d ∧ Below w.heap.size w w' := by
  by_cases h4 : n < 4
  · have HE := hide (show openE l = 2 by rw [openE, if_pos (by omega)])
    clear hn
    go_enter Try.func157, Try.ntmps157
    go_wp2_with fail
    go_ret2
    exact ⟨none, 0, 0, [], by rw [HE.out]; rfl, OwnB.nil _ _, openD_no _ _ (by rw [HE.out]; decide), Below.refl _ _⟩
  · have hi : (4 : Int) ≤ n := by omega
    have e1 : ((n : Int) - 4).toNat = n - 4 := by omega
    have e2 : IntKind.i64.wrap ((n : Int) - 4) = (n : Int) - 4 := IntWalk.i64_in _ (by omega)
    have e3 : (0 : Int) ≤ (n : Int) - 4 := by omega
    have e4 : (n : Int) - 4 ≤ (c : Int) := by omega
    have HS := hide (show ∀ W, Sl W A ((l.take (n - 4)).map bv) → _ from fun W h => rsum_seal A (n - 4) c (l.take (n - 4)) W (by simp; omega) (by omega) h)
    have HC := fun (W : World) (h : Below w.heap.size w W) => str_b (w := W) c hn (hs.below h)
    have hst : Sl w A ((l.take (n - 4)).map bv) := by rw [List.map_take]; exact hs.take _
    have hcut := fun W => cut2_b A n c 0 (n - 4) 0 ((n : Int) - 4) .i64 .i64 rfl (by omega) (by omega) (by omega) W
    have HL := hide (show (l.take (n - 4)).length = n - 4 by simp; omega)
    by_cases he : sealL (l.take (n - 4)) = l
    · have HE := hide (openE_yes l n hn (by omega) ((seal_eq l n hn (by omega)).1 he))
      have hq : (sealL (l.take (n - 4)) == l) = true := by simpa using he
      have HNN := hide hn
      clear hn he
      go_enter Try.func157, Try.ntmps157
      go_wp2_with fail
      have hr0 := Below.refl w.heap.size w
      have hr1 := below_drew1 hr0
      go_region_with (first
        | (go_at_call 82; (with_reducible refine (HS.out _ (hst.below (by repeat' (first | with_reducible assumption | with_reducible exact Below.refl _ _ | with_reducible apply below_alloc | with_reducible apply below_drew1 | with_reducible apply below_drewN | (with_reducible apply below_step; with_reducible assumption) | (with_reducible apply below_sg2; (first | exact Nat.le_refl _ | (simp; done) | omega)))))).mono ?_); rintro e w1 ⟨A1, n1, c1, rfl, hO1, hb1⟩; have t1 := str_b c1 hO1.hn hO1.sl; have hbw : Below w.heap.size w w1 := (by repeat' (first | with_reducible assumption | with_reducible exact Below.refl _ _ | with_reducible apply below_alloc | with_reducible apply below_drew1 | with_reducible apply below_drewN | (with_reducible apply below_step; with_reducible assumption) | (with_reducible apply below_sg2; (first | exact Nat.le_refl _ | (simp; done) | omega)))); have t2 := HC w1 hbw; dsimp only))
      all_goals
        go_wp2_with (at_builtin; refine app_b _ rfl (.tmp 20) (.tmp 23) rfl w.heap.size _ _ _ _ rfl (OwnB.nil _ _) _ _ _ (l.take (n - 4)) rfl HL.out.symm (hst.below hbw) (by omega) hbw.size (n - 4) (by omega) ?_; intro A3 c3 w3 hown3 _ _ hb3)
        go_ret2
        exact ⟨A3, n - 4, c3, _, by rw [HE.out]; rfl, hown3, openD_yes _ _ HNN.out, hbw.trans hb3⟩
    · have HE := hide (openE_no l n hn (by omega) (fun h => he ((seal_eq l n hn (by omega)).2 h)))
      have hq : (sealL (l.take (n - 4)) == l) = false := by simpa using he
      clear hn he
      go_enter Try.func157, Try.ntmps157
      go_wp2_with fail
      have hr0 := Below.refl w.heap.size w
      have hr1 := below_drew1 hr0
      go_region_with (first
        | (go_at_call 82; (with_reducible refine (HS.out _ (hst.below (by repeat' (first | with_reducible assumption | with_reducible exact Below.refl _ _ | with_reducible apply below_alloc | with_reducible apply below_drew1 | with_reducible apply below_drewN | (with_reducible apply below_step; with_reducible assumption) | (with_reducible apply below_sg2; (first | exact Nat.le_refl _ | (simp; done) | omega)))))).mono ?_); rintro e w1 ⟨A1, n1, c1, rfl, hO1, hb1⟩; have t1 := str_b c1 hO1.hn hO1.sl; have hbw : Below w.heap.size w w1 := (by repeat' (first | with_reducible assumption | with_reducible exact Below.refl _ _ | with_reducible apply below_alloc | with_reducible apply below_drew1 | with_reducible apply below_drewN | (with_reducible apply below_step; with_reducible assumption) | (with_reducible apply below_sg2; (first | exact Nat.le_refl _ | (simp; done) | omega)))); have t2 := HC w1 hbw; dsimp only))
      all_goals
        go_wp2_with fail
        go_ret2
        exact ⟨none, 0, 0, [], by rw [HE.out]; rfl, OwnB.nil _ _, openD_no _ _ (by rw [HE.out]; decide), hbw⟩
end Go.Proofs.Ytfddfgonhgidbaa
