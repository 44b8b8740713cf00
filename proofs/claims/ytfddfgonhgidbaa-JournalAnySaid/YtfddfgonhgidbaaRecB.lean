/- Packages record and its reference: Build. -/
import Derived.Test.YtfddfgonhgidbaaSum2
import Derived.Test.YtfddfgonhgidbaaRecA
namespace Go.Proofs.Ytfddfgonhgidbaa
set_option linter.unusedVariables false
set_option linter.unusedSimpArgs false
set_option linter.unnecessarySimpa false
open Go.RowKit
set_option maxRecDepth 20000
set_option maxHeartbeats 1000000
attribute [local go_sem ↓] Go.wp_at_zero Go.wp_at_succ

def recH (kind num : Nat) (n : Nat) : List UInt8 := [87] ++ leB 1 kind ++ leB 4 num ++ leB 2 n
def recB (kind : Int) (num : Nat) (l : List UInt8) : List UInt8 :=
  if rightR kind num l.length = 0 then sealL (recH kind.toNat num l.length ++ l) ++ [0] else []
theorem recB_no (kind : Int) (num n : Nat) (l : List UInt8) (hn : n = l.length) (h : rightR kind num n ≠ 0) : recB kind num l = [] := by subst hn; rw [recB, if_neg h]
theorem recB_yes (kind num n : Nat) (l : List UInt8) (hn : n = l.length) (h : rightR kind num n = 0) : recB kind num l = sealL (recH kind num n ++ l) ++ [0] := by subst hn; rw [recB, if_pos h]; rfl
theorem right_ok (kind : Int) (num n : Nat) (h : rightR kind num n = 0) : 1 ≤ kind ∧ kind ≤ 2 ∧ n ≤ 960 ∧ num ≠ 0 ∧ (kind = 2 → n = 0) := by
  unfold rightR at h
  split at h
  · cases h
  · split at h
    · rename_i h2; exact ⟨by omega, by omega, by omega, by assumption, by omega⟩
    · split at h
      · cases h
      · split at h
        · cases h
        · exact ⟨by omega, by omega, by omega, by assumption, by omega⟩
theorem recH_length (kind num n : Nat) : (recH kind num n).length = 8 := by simp [recH, leB_length]

theorem bput_any (A : Option Addr) (n c g x : Nat) (wd : Int) (l : List UInt8) (w : World) (hB : Blk w g 22 #[.slice A n c]) (hn : n = l.length) (hl : n ≤ 100) (hs : Sl w A (l.map bv)) (h1 : 1 ≤ wd) (h8 : wd ≤ 8) (hx : x < 256 ^ wd.toNat) :
    Calls Try.prog 69 #[.int .i64 wd, .int .u64 (x : Nat), .pointer (some ⟨g, 0, none⟩)] w fun e w' => ∃ A' n' c', e = .returned (.tuple #[]) ∧ Blk w' g 22 #[.slice A' n' c'] ∧ OwnB w' w.heap.size A' n' c' (l ++ leB wd.toNat x) ∧ Below g w w' := by
  have c0 := hB.cell 0 rfl
  have hg := hB.lt
  have HP := hide (put_ok' A n c l wd x w hn h1 h8 hx (by omega) hs)
  clear hn hx
  go_enter Try.func69, Try.ntmps69
  go_wp2_with fail
  refine HP.out.mono ?_
  rintro e w1 ⟨A1, n1, c1, rfl, hO1, hb1⟩
  have hB1 := hB.below hb1 hg
  have c1' := hB1.cell 0 rfl
  have f1 := hB1.frozen 0
  go_wp2_with fail
  go_end0
  exact ⟨A1, n1, c1, rfl, hB1.set_ 0 _, hO1.set_ (p := ⟨g, 0, none⟩) hg _, below_set (hb1.mono (Nat.le_of_lt hg)) (p := ⟨g, 0, none⟩) (Nat.le_refl _) _⟩

theorem rec_build (A : Option Addr) (kind : Int) (num n c : Nat) (l : List UInt8) (w : World) (hn : n = l.length) (hs : Sl w A (l.map bv)) (hu : U32 num) :
    Calls Try.prog 37 #[.agg #[.int .i64 kind, .int .u32 (num : Nat), .slice A n c]] w fun e w' => ∃ A' n' c', e = .returned (.tuple #[.slice A' n' c', .int .i64 (rightR kind num n)]) ∧ OwnB w' w.heap.size A' n' c' (recB kind num l) ∧ Below w.heap.size w w' := by
  obtain ⟨er, her⟩ : ∃ er, er = rightR kind num n := ⟨_, rfl⟩
  have HR := hide (fun W => rec_right A kind num n c W)
  rw [← her] at HR ⊢
  by_cases h0 : er = 0
  · obtain ⟨k1, k2, k3, k4, k5⟩ := right_ok kind num n (by rw [← her]; exact h0)
    obtain ⟨k, rfl⟩ := Int.eq_ofNat_of_zero_le (show 0 ≤ kind by omega)
    have HB := hide (recB_yes k num n l hn (by rw [← her]; exact h0))
    subst h0
    have hu' : num ≤ 4294967295 := by unfold U32 at hu; omega
    have HN := hide hn
    clear hn her k4 k5
    go_enter Try.func37, Try.ntmps37
    go_wp2_with fail
    refine (HR.out _).mono ?_
    rintro e w1 ⟨rfl, hb1⟩
    have hbx := (blk_one _ _ _).below hb1 (by simp)
    have b0 := hbx.cell 0 rfl
    have b1 := hbx.cell 1 rfl
    have b2 := hbx.cell 2 rfl
    have z0 := hbx.lt
    have hbw1 := below_step hb1 (below_alloc (Below.refl w.heap.size w) _)
    have hk := blk_two w1 5 22 #[.int .u8 87] #[.slice (some ⟨w1.heap.size, 0, none⟩) 1 1]
    have hbw2 := below_alloc (below_alloc hbw1 (.cells #[.int .u8 87] 5)) (.cells #[.slice (some ⟨w1.heap.size, 0, none⟩) 1 1] 22)
    have hbx2 := (hbx.alloc (.cells #[.int .u8 87] 5)).alloc (.cells #[.slice (some ⟨w1.heap.size, 0, none⟩) 1 1] 22)
    have HK := hide hk
    clear hk
    go_wp2_with fail
    refine (bput_any _ 1 1 _ k 1 [87] _ HK.out.2 rfl (by decide) (by exact HK.out.1.sl) (by omega) (by omega) (by rw [p1]; omega)).mono ?_
    rintro e w2 ⟨A2, n2, c2, rfl, hB2, hO2, hb2⟩
    have hbx3 := hbx2.below hb2 (by omega)
    have l2 : n2 ≤ 100 := by rw [hO2.hn]; simp [leB_length]
    have hbw3 := hbw2.trans (hb2.mono (by omega))
    have z2 := hB2.lt
    have d1 := hbx3.cell 1 rfl
    clear b0 b1 b2 hbx hbx2
    go_wp2_with fail
    refine (bput_any _ _ _ _ num 4 _ _ hB2 hO2.hn l2 hO2.sl (by omega) (by omega) (by rw [p4]; omega)).mono ?_
    rintro e w3 ⟨A3, n3, c3, rfl, hB3, hO3, hb3⟩
    have hbx4 := hbx3.below hb3 (by omega)
    have l3 : n3 ≤ 100 := by rw [hO3.hn]; simp [leB_length]
    have hbw4 := hbw3.trans (hb3.mono (by omega))
    have d2 := hbx4.cell 2 rfl
    clear d1 hbx3
    go_wp2_with fail
    refine (bput_any _ _ _ _ n 2 _ _ hB3 hO3.hn l3 hO3.sl (by omega) (by omega) (by rw [p2]; omega)).mono ?_
    rintro e w4 ⟨A4, n4, c4, rfl, hB4, hO4, hb4⟩
    have hbx5 := hbx4.below hb4 (by omega)
    have l4 : n4 ≤ 100 := by rw [hO4.hn]; simp [leB_length]
    have hbw5 := hbw4.trans (hb4.mono (by omega))
    have d3 := hbx5.cell 2 rfl
    have d4 := hB4.cell 0 rfl
    have hs5 := hs.below hbw5
    have z3 : w.heap.size ≤ w3.heap.size := hbw4.size
    clear d2 hbx4
    go_wp2_with (at_builtin; refine app_b _ rfl (.tmp 30) (.tmp 32) rfl w.heap.size _ _ _ _ rfl (hO4.mono z3) _ _ _ l rfl HN.out hs5 (by omega) hbw5.size (n4 + n) (by omega) ?_; intro A6 c6 w6 hown6 _ _ hb6)
    have hbw6 := hbw5.trans hb6
    refine (sum_seal A6 _ c6 _ w6 hown6.hn (by omega) hown6.sl).mono ?_
    rintro e w7 ⟨A7, n7, c7, rfl, hO7, hb7⟩
    have hbw7 := below_step hb7 hbw6
    have l7 : n7 ≤ 1100 := by rw [hO7.hn, sealL_length, ← hown6.hn]; omega
    go_wp2_with (at_builtin; refine app_b _ rfl (.tmp 34) (.tmp 35) rfl w.heap.size _ _ _ _ rfl ((hO7.mono hbw6.size).alloc _) _ _ _ [0] rfl rfl (Sl.one _ _ _) (by omega) (below_alloc hbw7 _).size (n7 + 1) rfl ?_; intro A8 c8 w8 hown8 _ _ hb8)
    go_ret2
    exact ⟨A8, n7 + 1, c8, rfl, by rw [HB.out]; exact hown8, (below_alloc hbw7 _).trans hb8⟩
  · have h0' : (er != 0) = true := by simpa using h0
    have HB := hide (recB_no kind num n l hn (by rw [← her]; exact h0))
    clear hn her h0
    go_enter Try.func37, Try.ntmps37
    go_wp2_with fail
    refine (HR.out _).mono ?_
    rintro e w1 ⟨rfl, hb1⟩
    go_wp2_with fail
    go_ret2
    exact ⟨none, 0, 0, rfl, by rw [HB.out]; exact OwnB.nil _ _, below_step hb1 (below_alloc (Below.refl w.heap.size w) _)⟩
end Go.Proofs.Ytfddfgonhgidbaa
