/- Packages record and its reference: Right, fits, Blank, Same. -/
import Derived.Test.YtehabbnohoomjaaGreatDoorC04
import Derived.Test.YtehabbnohoomjaaGreatDoorC01
import Derived.Lib.SlBytesConst
namespace Go.Proofs.YtehabbnohoomjaaGreatDoor
section
set_option linter.unusedVariables false
set_option linter.unusedSimpArgs false
set_option linter.unnecessarySimpa false
open Go.RowKit
set_option maxRecDepth 20000
set_option maxHeartbeats 1000000

def rightR (kind : Int) (num len : Nat) : Int :=
  if num = 0 then 1 else if kind = 2 ∧ len = 0 then 0 else if kind ≠ 1 then 1 else if 960 < len then 3 else 0
def fitsR (kind : Int) (num : Nat) (n : Int) : Bool := decide (0 < num ∧ (kind = 2 ∧ n = 0 ∨ kind = 1 ∧ n ≤ 960))
theorem rec_right (A : Option Addr) (kind : Int) (num n c : Nat) (w : World) :
    Calls Tryz.prog 186 #[.agg #[.int .i64 kind, .int .u32 (num : Nat), .slice A n c]] w fun e w' => e = .returned (.int .i64 (rightR kind num n)) ∧ Below w.heap.size w w' := by
  go_enter Tryz.func186, Tryz.ntmps186
  go_wp2_with fail
  all_goals
    go_ret
    exact ⟨ret_int (by simp_all [rightR]; try omega), below_alloc (Below.refl _ _) _⟩
theorem rec_fits (A : Option Addr) (kind : Int) (num n c : Nat) (m : Int) (w : World) :
    Calls Tryz.prog 178 #[.agg #[.int .i64 kind, .int .u32 (num : Nat), .slice A n c], .int .i64 m] w fun e w' => e = .returned (.bool (fitsR kind num m)) ∧ Below w.heap.size w w' := by
  go_enter Tryz.func178, Tryz.ntmps178
  go_wp2_with fail
  all_goals
    go_ret
    exact ⟨ret_bool (by rw [Bool.eq_iff_iff]; simp_all [fitsR]; try omega), below_alloc (Below.refl _ _) _⟩

def blankB (l : List UInt8) : Bool := l.all (· == 255)
theorem blank_no (l : List UInt8) (k : Nat) (h : k < l.length) (hb : (l[k]).toNat ≠ 255) : blankB l = false := by
  simp only [blankB, List.all_eq_false]
  exact ⟨l[k], List.getElem_mem h, by intro h'; simp at h'; rw [h'] at hb; exact hb rfl⟩
theorem blank_yes (l : List UInt8) (h : ∀ k (hk : k < l.length), (l[k]).toNat = 255) : blankB l = true := by
  simp only [blankB, List.all_eq_true]
  intro x hx
  obtain ⟨k, hk, rfl⟩ := List.getElem_of_mem hx
  simp
  exact UInt8.toNat.inj (h k hk)
theorem rec_blank (A : Option Addr) (n c : Nat) (l : List UInt8) (w : World) (hn : n = l.length) (hl : n ≤ 35184372088832) (hs : Sl w A (l.map bv)) :
    Calls Tryz.prog 149 #[.slice A n c] w fun e w' => e = .returned (.bool (blankB l)) ∧ w = w' := by
  have HN := hide hn
  clear hn
  go_enter Tryz.func149, Tryz.ntmps149
  go_wp2_with fail
  go_loop [4, 7] (fun _ i => ∃ k : Nat, k ≤ n ∧ i = .int .i64 k ∧ Hid (∀ j (hj : j < l.length), j < k → (l[j]).toNat = 255)) (fun _ i => n - (intOf i).toNat)
  case atStart => exact ⟨0, by omega, rfl, hide (by intro j _ h; omega)⟩
  case round =>
    obtain ⟨k, hk, rfl, HA⟩ := hrel
    by_cases hlt : k < n
    · obtain ⟨ad, rfl, hcell⟩ := hs.byte (j := k) (by have := HN.out; omega)
      obtain ⟨b, hb⟩ : ∃ b, b = (l[k]'(by have := HN.out; omega)).toNat := ⟨_, rfl⟩
      rw [← hb] at hcell
      have HB := hide hb
      clear hb
      go_wp2_with fail
      · go_ret
        exact ⟨ret_bool (blank_no l k (by have := HN.out; omega) (by rw [← HB.out]; simp_all; omega)).symm, rfl⟩
      · go_round
        case rel =>
          refine ⟨k + 1, by omega, by go_num, hide ?_⟩
          intro j hj hjk
          by_cases e : j = k
          · subst e; rw [← HB.out]; simp_all; omega
          · exact HA.out j hj (by omega)
        case measure => simp [intOf]; omega
    · go_wp2_with fail
      go_ret
      exact ⟨ret_bool (blank_yes l (fun j hj => HA.out j hj (by have := HN.out; omega))).symm, rfl⟩
def sameR (k1 : Int) (m1 : Nat) (l1 : List UInt8) (k2 : Int) (m2 : Nat) (l2 : List UInt8) : Bool := decide (k1 = k2 ∧ m1 = m2 ∧ l1 = l2)
end
end Go.Proofs.YtehabbnohoomjaaGreatDoor
namespace Go.Proofs.YtehabbnohoomjaaGreatDoor
section
set_option linter.unusedVariables false
set_option linter.unusedSimpArgs false
set_option linter.unnecessarySimpa false
open Go.RowKit
set_option maxRecDepth 20000
set_option maxHeartbeats 1000000
attribute [local go_sem ↓] Go.wp_at_zero Go.wp_at_succ

def recH (kind num : Nat) (n : Nat) : List UInt8 := [87] ++ leB 1 kind ++ leB 4 num ++ leB 2 n
def recB (kind : Int) (num : Nat) (l : List UInt8) : List UInt8 :=
  if rightR kind num l.length = 0 then sealL (recH kind.toNat num l.length ++ l) ++ [0] else []
theorem recB_no (kind : Int) (num n : Nat) (l : List UInt8) (hn : n = l.length) (h : rightR kind num n ≠ 0) : recB kind num l = [] := by subst hn; rw [recB, if_neg h]
theorem recB_yes (kind num n : Nat) (l : List UInt8) (hn : n = l.length) (h : rightR kind num n = 0) : recB kind num l = sealL (recH kind num n ++ l) ++ [0] := by subst hn; rw [recB, if_pos h]; rfl
theorem right_ok (kind : Int) (num n : Nat) (h : rightR kind num n = 0) : 1 ≤ kind ∧ kind ≤ 2 ∧ n ≤ 960 ∧ num ≠ 0 ∧ (kind = 2 → n = 0) := by
  unfold rightR at h
  split at h
  · cases h
  · split at h
    · rename_i h2; exact ⟨by omega, by omega, by omega, by assumption, by omega⟩
    · split at h
      · cases h
      · split at h
        · cases h
        · exact ⟨by omega, by omega, by omega, by assumption, by omega⟩
theorem recH_length (kind num n : Nat) : (recH kind num n).length = 8 := by simp [recH, leB_length]

theorem bput_any (A : Option Addr) (n c g x : Nat) (wd : Int) (l : List UInt8) (w : World) (hB : Blk w g 23 #[.slice A n c]) (hn : n = l.length) (hl : n ≤ 100) (hs : Sl w A (l.map bv)) (h1 : 1 ≤ wd) (h8 : wd ≤ 8) (hx : x < 256 ^ wd.toNat) :
    Calls Tryz.prog 187 #[.int .i64 wd, .int .u64 (x : Nat), .pointer (some ⟨g, 0, none⟩)] w fun e w' => ∃ A' n' c', e = .returned (.tuple #[]) ∧ Blk w' g 23 #[.slice A' n' c'] ∧ OwnB w' w.heap.size A' n' c' (l ++ leB wd.toNat x) ∧ Below g w w' := by
  have c0 := hB.cell 0 rfl
  have hg := hB.lt
  have HP := hide (put_ok' A n c l wd x w hn h1 h8 hx (by omega) hs)
  clear hn hx
  go_enter Tryz.func187, Tryz.ntmps187
  go_wp2_with fail
  refine HP.out.mono ?_
  rintro e w1 ⟨A1, n1, c1, rfl, hO1, hb1⟩
  have hB1 := hB.below hb1 hg
  have c1' := hB1.cell 0 rfl
  have f1 := hB1.frozen 0
  go_wp2_with fail
  go_end0
  exact ⟨A1, n1, c1, rfl, hB1.set_ 0 _, hO1.set_ (p := ⟨g, 0, none⟩) hg _, below_set (hb1.mono (Nat.le_of_lt hg)) (p := ⟨g, 0, none⟩) (Nat.le_refl _) _⟩

theorem rec_build (A : Option Addr) (kind : Int) (num n c : Nat) (l : List UInt8) (w : World) (hn : n = l.length) (hs : Sl w A (l.map bv)) (hu : U32 num) :
    Calls Tryz.prog 164 #[.agg #[.int .i64 kind, .int .u32 (num : Nat), .slice A n c]] w fun e w' => ∃ A' n' c', e = .returned (.tuple #[.slice A' n' c', .int .i64 (rightR kind num n)]) ∧ OwnB w' w.heap.size A' n' c' (recB kind num l) ∧ Below w.heap.size w w' := by
  obtain ⟨er, her⟩ : ∃ er, er = rightR kind num n := ⟨_, rfl⟩
  have HR := hide (fun W => rec_right A kind num n c W)
  rw [← her] at HR ⊢
  by_cases h0 : er = 0
  · obtain ⟨k1, k2, k3, k4, k5⟩ := right_ok kind num n (by rw [← her]; exact h0)
    obtain ⟨k, rfl⟩ := Int.eq_ofNat_of_zero_le (show 0 ≤ kind by omega)
    have HB := hide (recB_yes k num n l hn (by rw [← her]; exact h0))
    subst h0
    have hu' : num ≤ 4294967295 := by unfold U32 at hu; omega
    have HN := hide hn
    clear hn her k4 k5
    go_enter Tryz.func164, Tryz.ntmps164
    go_wp2_with fail
    refine (HR.out _).mono ?_
    rintro e w1 ⟨rfl, hb1⟩
    have hbx := (blk_one _ _ _).below hb1 (by simp)
    have b0 := hbx.cell 0 rfl
    have b1 := hbx.cell 1 rfl
    have b2 := hbx.cell 2 rfl
    have z0 := hbx.lt
    have hbw1 := below_step hb1 (below_alloc (Below.refl w.heap.size w) _)
    have hk := blk_two w1 5 23 #[.int .u8 87] #[.slice (some ⟨w1.heap.size, 0, none⟩) 1 1]
    have hbw2 := below_alloc (below_alloc hbw1 (.cells #[.int .u8 87] 5)) (.cells #[.slice (some ⟨w1.heap.size, 0, none⟩) 1 1] 23)
    have hbx2 := (hbx.alloc (.cells #[.int .u8 87] 5)).alloc (.cells #[.slice (some ⟨w1.heap.size, 0, none⟩) 1 1] 23)
    have HK := hide hk
    clear hk
    go_wp2_with fail
    refine (bput_any _ 1 1 _ k 1 [87] _ HK.out.2 rfl (by decide) (by exact HK.out.1.sl) (by omega) (by omega) (by rw [p1]; omega)).mono ?_
    rintro e w2 ⟨A2, n2, c2, rfl, hB2, hO2, hb2⟩
    have hbx3 := hbx2.below hb2 (by omega)
    have l2 : n2 ≤ 100 := by rw [hO2.hn]; simp [leB_length]
    have hbw3 := hbw2.trans (hb2.mono (by omega))
    have z2 := hB2.lt
    have d1 := hbx3.cell 1 rfl
    clear b0 b1 b2 hbx hbx2
    go_wp2_with fail
    refine (bput_any _ _ _ _ num 4 _ _ hB2 hO2.hn l2 hO2.sl (by omega) (by omega) (by rw [p4]; omega)).mono ?_
    rintro e w3 ⟨A3, n3, c3, rfl, hB3, hO3, hb3⟩
    have hbx4 := hbx3.below hb3 (by omega)
    have l3 : n3 ≤ 100 := by rw [hO3.hn]; simp [leB_length]
    have hbw4 := hbw3.trans (hb3.mono (by omega))
    have d2 := hbx4.cell 2 rfl
    clear d1 hbx3
    go_wp2_with fail
    refine (bput_any _ _ _ _ n 2 _ _ hB3 hO3.hn l3 hO3.sl (by omega) (by omega) (by rw [p2]; omega)).mono ?_
    rintro e w4 ⟨A4, n4, c4, rfl, hB4, hO4, hb4⟩
    have hbx5 := hbx4.below hb4 (by omega)
    have l4 : n4 ≤ 100 := by rw [hO4.hn]; simp [leB_length]
    have hbw5 := hbw4.trans (hb4.mono (by omega))
    have d3 := hbx5.cell 2 rfl
    have d4 := hB4.cell 0 rfl
    have hs5 := hs.below hbw5
    have z3 : w.heap.size ≤ w3.heap.size := hbw4.size
    clear d2 hbx4
    go_wp2_with (at_builtin; refine app_b _ rfl (.tmp 30) (.tmp 32) rfl w.heap.size _ _ _ _ rfl (hO4.mono z3) _ _ _ l rfl HN.out hs5 (by omega) hbw5.size (n4 + n) (by omega) ?_; intro A6 c6 w6 hown6 _ _ hb6)
    have hbw6 := hbw5.trans hb6
    refine (sum_seal A6 _ c6 _ w6 hown6.hn (by omega) hown6.sl).mono ?_
    rintro e w7 ⟨A7, n7, c7, rfl, hO7, hb7⟩
    have hbw7 := below_step hb7 hbw6
    have l7 : n7 ≤ 1100 := by rw [hO7.hn, sealL_length, ← hown6.hn]; omega
    go_wp2_with (at_builtin; refine app_b _ rfl (.tmp 34) (.tmp 35) rfl w.heap.size _ _ _ _ rfl ((hO7.mono hbw6.size).alloc _) _ _ _ [0] rfl rfl (Sl.one _ _ _) (by omega) (below_alloc hbw7 _).size (n7 + 1) rfl ?_; intro A8 c8 w8 hown8 _ _ hb8)
    go_ret2
    exact ⟨A8, n7 + 1, c8, rfl, by rw [HB.out]; exact hown8, (below_alloc hbw7 _).trans hb8⟩
  · have h0' : (er != 0) = true := by simpa using h0
    have HB := hide (recB_no kind num n l hn (by rw [← her]; exact h0))
    clear hn her h0
    go_enter Tryz.func164, Tryz.ntmps164
    go_wp2_with fail
    refine (HR.out _).mono ?_
    rintro e w1 ⟨rfl, hb1⟩
    go_wp2_with fail
    go_ret2
    exact ⟨none, 0, 0, rfl, by rw [HB.out]; exact OwnB.nil _ _, below_step hb1 (below_alloc (Below.refl w.heap.size w) _)⟩
end
end Go.Proofs.YtehabbnohoomjaaGreatDoor
namespace Go.Proofs.YtehabbnohoomjaaGreatDoor
section
set_option linter.unusedVariables false
set_option linter.unusedSimpArgs false
set_option linter.unnecessarySimpa false
open Go.RowKit
set_option maxRecDepth 20000
set_option maxHeartbeats 1000000
attribute [local go_sem ↓] Go.wp_at_zero Go.wp_at_succ
end
end Go.Proofs.YtehabbnohoomjaaGreatDoor
namespace Go.Proofs.YtehabbnohoomjaaGreatDoor
section
set_option linter.unusedVariables false
set_option linter.unusedSimpArgs false
set_option linter.unnecessarySimpa false
open Go.RowKit
set_option maxRecDepth 20000
set_option maxHeartbeats 1000000
attribute [local go_sem ↓] Go.wp_at_zero Go.wp_at_succ

theorem front1 (A : Option Addr) (n c gb ga : Nat) (at_ wd : Int) (l : List UInt8) (x : Nat) (w : World) (hB : Blk w gb 23 #[.slice A n c]) (hA : Blk w ga 3 #[.int .i64 at_])
    (hn : n = l.length) (hc : n ≤ c) (hl : n ≤ 35184372088832) (hs : Sl w A (l.map bv)) (h0 : 0 ≤ at_) (at2 : Int) (h2 : at_ + wd = at2) (h1 : 1 ≤ wd) (h8 : wd ≤ 8) (ha : at_ + wd ≤ n) (hx : x = leN ((l.drop at_.toNat).take wd.toNat)) :
    Calls Tryz.prog 207 #[.int .i64 wd, .pointer (some ⟨gb, 0, none⟩), .pointer (some ⟨ga, 0, none⟩)] w fun e w' => e = .returned (.int .u64 (x : Nat)) ∧ Blk w' ga 3 #[.int .i64 at2] ∧ w.grownBy w' (some ga) := by
  have HG := hide (get_ok' A n c l at_ wd w hn hc (by omega) h0 ha h1 h8 hs)
  rw [← hx] at HG
  have b0 := hB.cell 0 rfl
  have a0 := hA.cell 0 rfl
  have f0 := hA.frozen 0
  have zb := hB.lt
  have za := hA.lt
  have HH2 := hide h2
  clear hn hx h2
  go_enter Tryz.func207, Tryz.ntmps207
  go_wp2_with fail
  refine HG.out.mono ?_
  rintro e w1 ⟨rfl, rfl⟩
  go_wp2_with fail
  go_ret
  have h2 := HH2.out
  subst h2
  exact ⟨rfl, hA.set_ 0 _, grown_set (World.grownBy.refl _ _) (.inl rfl) _ _⟩

theorem rec_front (A : Option Addr) (n c : Nat) (l : List UInt8) (w : World) (x1 x2 x3 : Nat) (hn : n = l.length) (hc : n ≤ c) (hl : n ≤ 35184372088832) (h13 : 13 ≤ n) (hs : Sl w A (l.map bv))
    (hx1 : x1 = leN ((l.drop 1).take 1)) (hx2 : x2 = leN ((l.drop 2).take 4)) (hx3 : x3 = leN ((l.drop 6).take 2)) (l1 : x1 ≤ 255) (l2 : x2 ≤ 4294967295) (l3 : x3 ≤ 65535) :
    Calls Tryz.prog 177 #[.slice A n c] w fun e w' => e = .returned (.tuple #[.agg #[.int .i64 (x1 : Nat), .int .u32 (x2 : Nat), .slice none 0 0], .int .i64 (x3 : Nat)]) ∧ Below w.heap.size w w' := by
  have hk := blk_three w 23 92 3 #[.slice A n c] #[.int .i64 0, .int .u32 0, .slice none 0 0] #[.int .i64 1]
  have hs3 := ((hs.alloc (.cells #[.slice A n c] 23)).alloc (.cells #[.int .i64 0, .int .u32 0, .slice none 0 0] 92)).alloc (.cells #[.int .i64 1] 3)
  have hb3 := below_alloc (below_alloc (below_alloc (Below.refl w.heap.size w) (.cells #[.slice A n c] 23)) (.cells #[.int .i64 0, .int .u32 0, .slice none 0 0] 92)) (.cells #[.int .i64 1] 3)
  have HF1 := hide (front1 A n c w.heap.size (w.heap.size + 1 + 1) 1 1 l x1 _ hk.1 hk.2.2 hn hc hl hs3 (by omega) 2 rfl (by omega) (by omega) (by omega) hx1)
  have HK := hide hk
  have HN := hide hn
  have HX := hide (And.intro hx2 hx3)
  clear hk hn hx1 hx2 hx3
  go_enter Tryz.func177, Tryz.ntmps177
  go_wp2_with fail
  refine HF1.out.mono ?_
  rintro e w1 ⟨rfl, hA1, hg1⟩
  have hB1 := HK.out.1.grown hg1 (by intro h; injection h with h; omega)
  have hR1 := HK.out.2.1.grown hg1 (by intro h; injection h with h; omega)
  have hbw1 := hb3.grown hg1 (by simp; omega) (fun k hk => by injection hk with hk; omega)
  have hs1 := hs.below hbw1
  have z1 := hA1.lt
  go_wp2_with fail
  refine (front1 A n c w.heap.size (w.heap.size + 1 + 1) 2 4 l x2 w1 hB1 hA1 HN.out hc hl hs1 (by omega) 6 rfl (by omega) (by omega) (by omega) HX.out.1).mono ?_
  rintro e w2 ⟨rfl, hA2, hg2⟩
  have hB2 := hB1.grown hg2 (by intro h; injection h with h; omega)
  have hR2 := hR1.grown hg2 (by intro h; injection h with h; omega)
  have hbw2 := hbw1.grown hg2 (by omega) (fun k hk => by injection hk with hk; omega)
  have z2 := hA2.lt
  have hX3 := blk_one w2 92 #[.int .i64 (x1 : Nat), .int .u32 (x2 : Nat), .slice none 0 0]
  have hB3 := hB2.alloc (.cells #[.int .i64 (x1 : Nat), .int .u32 (x2 : Nat), .slice none 0 0] 92)
  have hR3 := hR2.alloc (.cells #[.int .i64 (x1 : Nat), .int .u32 (x2 : Nat), .slice none 0 0] 92)
  have hA3 := hA2.alloc (.cells #[.int .i64 (x1 : Nat), .int .u32 (x2 : Nat), .slice none 0 0] 92)
  have hbw3 := below_alloc hbw2 (.cells #[.int .i64 (x1 : Nat), .int .u32 (x2 : Nat), .slice none 0 0] 92)
  have HF3 := hide (fun W (hB : Blk W w.heap.size 23 #[.slice A n c]) (hA : Blk W (w.heap.size + 1 + 1) 3 #[.int .i64 6]) (hb : Below w.heap.size w W) =>
    front1 A n c w.heap.size (w.heap.size + 1 + 1) 6 2 l x3 W hB hA HN.out hc hl (hs.below hb) (by omega) 8 rfl (by omega) (by omega) (by omega) HX.out.2)
  have zz : w2.heap.size < (w2.alloc (.cells #[.int .i64 (x1 : Nat), .int .u32 (x2 : Nat), .slice none 0 0] 92)).heap.size := hX3.lt
  have i3 : IntKind.i64.wrap (x3 : Int) = x3 := IntWalk.i64_in _ (by omega)
  have HH := hide (And.intro hX3 (And.intro hB3 (And.intro hR3 (And.intro hA3 hbw3))))
  clear hX3 hB3 hR3 hA3 hB1 hR1 hA1 hg1 hs1 hB2 hR2 hA2 hg2 hs3 HF1
  go_wp2_with fail
  generalize w2.alloc (.cells #[.int .i64 (x1 : Nat), .int .u32 (x2 : Nat), .slice none 0 0] 92) = W at *
  generalize w2.heap.size = g at *
  obtain ⟨hX, hB, hR, hA, hb⟩ := HH.out
  clear HH
  have r0 := hR.cell 0 rfl
  have r1 := hR.cell 1 rfl
  have r2 := hR.cell 2 rfl
  have f0 := hR.frozen 0
  have f1 := hR.frozen 1
  have f2 := hR.frozen 2
  refine wp_region_held_drew (S := (fun w' => w'.cell? ⟨g, 0, none⟩ = some (.int .i64 (x1 : Nat)) ∧ w'.cell? ⟨g, 1, none⟩ = some (.int .u32 (x2 : Nat)) ∧ w'.cell? ⟨g, 2, none⟩ = some (.slice none 0 0))) (by kernel_rfl) ?hS1 (fun hHeld => ?rest1)
  case hS1 => ((try dsimp only); (exact ⟨hX.cell 0 rfl, hX.cell 1 rfl, hX.cell 2 rfl⟩))
  case' rest1 => skip
  refine tkH 0 ?_
  try simp only [PqL, Act.put]
  refine tkH 1 ?_
  try simp only [PqL, Act.put]
  refine wpAnyH_ready (rs := [2]) (by kernel_rfl) (by simp) ?_
  refine AllReadyH.cons (o := _) rfl (fun K hK => ?_) AllReadyH.nil
  go_simp
  refine (HF3.out _ hB.drew hA.drew hb.drew).mono ?_
  rintro e w3 ⟨rfl, hA3, hg3⟩
  have hX3 := hX.drew.grown hg3 (by intro h; injection h with h; omega)
  have hR3 := hR.drew.grown hg3 (by intro h; injection h with h; omega)
  have hb3' := hb.drew.grown hg3 (by simp; omega) (fun k hk => by injection hk with hk; omega)
  have q0 := hR3.cell 0 rfl
  have q1 := hR3.cell 1 rfl
  have q2 := hR3.cell 2 rfl
  have e0 := hR3.frozen 0
  have e1 := hR3.frozen 1
  have e2 := hR3.frozen 2
  dsimp only
  refine hK.out _ _ ?hS6 (fun hHeld => ?rest6)
  case hS6 => ((try dsimp only); (exact ⟨hX3.cell 0 rfl, hX3.cell 1 rfl, hX3.cell 2 rfl⟩))
  case' rest6 => (clear hK K; try simp only [PqL, Act.put])
  refine tkH 3 ?_
  try simp only [PqL, Act.put]
  refine wpAnyH_ready (rs := [4]) (by kernel_rfl) (by simp) ?_
  refine AllReadyH.cons (o := _) rfl (fun K hK => ?_) AllReadyH.nil
  go_simp
  refine hK.out _ _ ?hS10 (fun hHeld => ?rest10)
  case hS10 => ((try dsimp only); (exact ⟨((((hX3.far (by simp; omega) _).far (by simp; omega) _).far (by simp; omega) _)).cell 0 rfl, ((((hX3.far (by simp; omega) _).far (by simp; omega) _).far (by simp; omega) _)).cell 1 rfl, ((((hX3.far (by simp; omega) _).far (by simp; omega) _).far (by simp; omega) _)).cell 2 rfl⟩))
  case' rest10 => (clear hK K; try simp only [PqL, Act.put])
  refine wpAnyH_ready (rs := [5]) (by kernel_rfl) (by simp) ?_
  refine AllReadyH.cons (o := _) rfl (fun K hK => ?_) AllReadyH.nil
  go_simp
  refine hK.out _ _ ?hS13 (fun hHeld => ?rest13)
  case hS13 => ((try dsimp only); (assumption))
  case' rest13 => (clear hK K; try simp only [PqL, Act.put])
  refine wpAnyH_done (by kernel_rfl) ?_ _
  have hRf := ((hR3.set_ 0 (.int .i64 (x1 : Nat))).set_ 1 (.int .u32 (x2 : Nat))).set_ 2 (.slice none 0 0)
  have hbf := ((hb3'.setCell (p := ⟨w.heap.size + 1, 0, none⟩) (by simp) (.int .i64 (x1 : Nat))).setCell (p := ⟨w.heap.size + 1, 1, none⟩) (by simp) (.int .u32 (x2 : Nat))).setCell (p := ⟨w.heap.size + 1, 2, none⟩) (by simp) (.slice none 0 0)
  have d0 := hRf.cell 0 rfl
  have d1 := hRf.cell 1 rfl
  have d2 := hRf.cell 2 rfl
  clear q0 q1 q2 e0 e1 e2
  repeat (clear hHeld)
  generalize ((w3.setCell ⟨w.heap.size + 1, 0, none⟩ (.int .i64 (x1 : Nat))).setCell ⟨w.heap.size + 1, 1, none⟩ (.int .u32 (x2 : Nat))).setCell ⟨w.heap.size + 1, 2, none⟩ (.slice none 0 0) = W4 at *
  go_wp2_with fail
  refine bodyPost_ret (v := .tuple #[.agg #[.int .i64 (x1 : Nat), .int .u32 (x2 : Nat), .slice none 0 0], .int .i64 (x3 : Nat)]) (by simp [results, Tryz.results177, go_sem, d0, d1, d2]) rfl ⟨rfl, hbf⟩
end
end Go.Proofs.YtehabbnohoomjaaGreatDoor
