/- The walk of RecordBack. -/
import Derived.Test.YtapfadaplncpeaaRecR
namespace Go.Proofs.Ytapfadaplncpeaa
set_option linter.unusedVariables false
set_option linter.unusedSimpArgs false
set_option linter.unnecessarySimpa false
open Go.RowKit
set_option maxRecDepth 20000
set_option maxHeartbeats 1000000
attribute [local go_sem ↓] Go.wp_at_zero Go.wp_at_succ

theorem set_last (a c l : List UInt8) (k : Int) (m : Nat) (j : Nat) (z : UInt8) (h : rightR k m l.length = 0) (hj : j = a.length + l.length + 12) :
    (a ++ recB k m l ++ c).set j z = a ++ (sealL (recH k.toNat m l.length ++ l) ++ z :: c) := by
  obtain ⟨k1, k2, k3, k4, k5⟩ := right_ok k m l.length h
  obtain ⟨k, rfl⟩ := Int.eq_ofNat_of_zero_le (show 0 ≤ k by omega)
  have hs : (sealL (recH k m l.length ++ l)).length = l.length + 12 := by rw [sealL_length, List.length_append, recH_length]; omega
  rw [recB_yes k m l.length l rfl h, Int.toNat_natCast, List.append_assoc, List.append_assoc, List.set_append_right _ _ (by omega), List.set_append_right _ _ (by omega)]
  rw [show j - a.length - (sealL (recH k m l.length ++ l)).length = 0 by omega]
  rfl
theorem set_bv (l : List UInt8) (j : Nat) (z : UInt8) : (l.map bv).set j (.int .u8 z.toNat) = (l.set j z).map bv := by
  rw [List.map_set]; rfl

theorem recordBack_walk (A A2 A3 : Option Addr) (k : Int) (m na ca n c nc cc : Nat) (a l cl : List UInt8) (w : World) (hna : na = a.length) (hn : n = l.length) (hnc : nc = cl.length) (hca : na ≤ ca) (hc : n ≤ c) (hcc : nc ≤ cc)
    (hsa : Sl w A (a.map bv)) (hs : Sl w A2 (l.map bv)) (hsc : Sl w A3 (cl.map bv)) (hu : U32 m) :
    Calls Try.prog 7 #[.slice A na ca, .agg #[.int .i64 k, .int .u32 (m : Nat), .slice A2 n c], .slice A3 nc cc] w (TrueB w) := by
  have hbb := below_alloc (Below.refl w.heap.size w) (.cells #[.int .i64 k, .int .u32 (m : Nat), .slice A2 n c] 40)
  by_cases hbig : 3000 < na ∨ 3000 < n ∨ 3000 < nc
  · clear hna hn hnc
    by_cases h1 : 3000 < na
    · go_enter Try.func7, Try.ntmps7
      go_wp2_with fail
      refine (known_07 _).mono ?_
      rintro e w1 ⟨rfl, hb1⟩
      go_wp2_with fail
      go_ret
      exact (⟨rfl, below_step hb1 hbb⟩ : TrueB w _ _)
    by_cases h2 : 3000 < n
    · go_enter Try.func7, Try.ntmps7
      go_wp2_with fail
      refine (known_07 _).mono ?_
      rintro e w1 ⟨rfl, hb1⟩
      go_wp2_with fail
      go_ret
      exact (⟨rfl, below_step hb1 hbb⟩ : TrueB w _ _)
    have h3 : 3000 < nc := by omega
    clear hbig
    go_enter Try.func7, Try.ntmps7
    go_wp2_with fail
    refine (known_07 _).mono ?_
    rintro e w1 ⟨rfl, hb1⟩
    go_wp2_with fail
    go_ret
    exact (⟨rfl, below_step hb1 hbb⟩ : TrueB w _ _)
  have ha1 : na ≤ 3000 := by omega
  have ha2 : n ≤ 3000 := by omega
  have ha3 : nc ≤ 3000 := by omega
  clear hbig
  have kb := blk_one w 40 #[.int .i64 k, .int .u32 (m : Nat), .slice A2 n c]
  obtain ⟨er, her⟩ : ∃ er, er = rightR k m n := ⟨_, rfl⟩
  have HR := hide (fun W => rec_right A2 k m n c W)
  have HB := hide (fun W (h : Sl W A2 (l.map bv)) => rec_build A2 k m n c l W hn h hu)
  rw [← her] at HR HB
  by_cases h0 : er = 0
  case neg =>
    have h0' : (er != 0) = true := by simpa using h0
    have HE := hide (recB_no k m n l hn (by rw [← her]; exact h0))
    clear hn her h0 hna hnc
    go_enter Try.func7, Try.ntmps7
    go_wp2_with fail
    refine (HB.out _ (hs.alloc _)).mono ?_
    rintro e w1 ⟨A1, n1, c1, rfl, hO1, hb1⟩
    rw [HE.out] at hO1
    obtain rfl : n1 = 0 := hO1.hn
    have kb1 := kb.below hb1 (by simp)
    have q0 := kb1.cell 0 rfl
    have q1 := kb1.cell 1 rfl
    have q2 := kb1.cell 2 rfl
    have hbw1 := below_step hb1 hbb
    go_wp2_with fail
    refine (HR.out _).mono ?_
    rintro e w2 ⟨rfl, hb2⟩
    go_wp2_with fail
    refine (known_07 _).mono ?_
    rintro e w3 ⟨rfl, hb3⟩
    go_wp2_with fail
    go_ret
    exact (⟨rfl, below_step hb3 (below_step hb2 hbw1)⟩ : TrueB w _ _)
  case pos =>
    subst h0
    have hr : rightR k m l.length = 0 := by rw [← hn]; exact her.symm
    obtain ⟨hp1, hbl⟩ := build_parse_rec a cl l k m hr hu
    have hp2 := spoilt_parse_rec a cl l k m 255 hr hu (by decide)
    have hset := set_last a cl l k m (na + (n + 12)) 255 hr (by omega)
    rw [← hset] at hp2
    rw [← List.append_assoc] at hp1
    rw [← hna, ← hn] at hp1
    rw [← hna] at hp2
    have HP1 := hide hp1.symm
    have HP2 := hide hp2.symm
    have HN := hide hn
    have HNA := hide hna
    have HNC := hide hnc
    have HBL := hide hbl
    clear hn her hna hnc hp1 hp2 hset hbl hr
    go_enter Try.func7, Try.ntmps7
    go_wp2_with fail
    refine (HB.out _ (hs.alloc _)).mono ?_
    rintro e w1 ⟨A1, n1, c1, rfl, hO1, hb1⟩
    have hn1 : n1 = n + 13 := by rw [hO1.hn, HBL.out, HN.out]
    have HN1 := hide hO1.hn
    subst hn1
    have kb1 := kb.below hb1 (by simp)
    have hbw1 := below_step hb1 hbb
    have z1 := kb1.lt
    go_wp2_with fail
    refine (join_any A A1 na (n + 13) ca c1 a _ w1 HNA.out HN1.out (by omega) (by omega) (hsa.below hbw1) hO1.sl).mono ?_
    rintro e w2 ⟨A4, n4, c4, rfl, hO4, hb2⟩
    have hn4 : n4 = na + (n + 13) := by rw [hO4.hn, List.length_append, ← HNA.out, ← HN1.out]
    have HN4 := hide hO4.hn
    subst hn4
    have hbw2 := below_step hb2 hbw1
    go_wp2_with fail
    refine (join_any A4 A3 (na + (n + 13)) nc c4 cc _ cl w2 HN4.out HNC.out (by omega) (by omega) hO4.sl (hsc.below hbw2)).mono ?_
    rintro e w3 ⟨A5, n5, c5, rfl, hO5, hb3⟩
    have hn5 : n5 = na + (n + 13) + nc := by rw [hO5.hn, List.length_append, ← HN4.out, ← HNC.out]
    have HN5 := hide hO5.hn
    subst hn5
    have hbw3 := below_step hb3 hbw2
    have hc5 := hO5.le
    go_wp2_with fail
    refine (rec_parse A5 _ c5 na _ w3 _ HP1.out HN5.out hc5 (by omega) hO5.sl).mono ?_
    rintro e w4 ⟨A6, n6, c6, rfl, hO6, hb4⟩
    simp only [] at hO6 ⊢
    have hn6 : n6 = n := by rw [hO6.hn, HN.out]
    have HN6 := hide hO6.hn
    subst hn6
    have kb4 := (((kb1.below hb2 z1).below hb3 (by have := hb2.size; omega)).below hb4 (by have := hb2.size; have := hb3.size; omega)).alloc (.cells #[.int .i64 k, .int .u32 (m : Nat), .slice A6 n6 c6] 40)
    have ks4 := blk_one w4 40 #[.int .i64 k, .int .u32 (m : Nat), .slice A6 n6 c6]
    have hbw4 := below_alloc (below_step hb4 hbw3) (.cells #[.int .i64 k, .int .u32 (m : Nat), .slice A6 n6 c6] 40)
    have z4 : w.heap.size < w4.heap.size := by have := hb2.size; have := hb3.size; have := hb4.size; omega
    have q0 := kb4.cell 0 rfl
    have q1 := kb4.cell 1 rfl
    have q2 := kb4.cell 2 rfl
    have hO54 := (hO5.below hb4).alloc (.cells #[.int .i64 k, .int .u32 (m : Nat), .slice A6 n6 c6] 40)
    go_wp2_with fail
    refine (rsame A2 A6 k k m m n6 c n6 c6 l l _ HN6.out HN6.out (hs.below hbw4) (hO6.sl.alloc _)).mono ?_
    rw [same_self]
    rintro e w5 ⟨rfl, hb5⟩
    have kb5 := kb4.below hb5 (by simp; omega)
    have hbw5 := below_step hb5 hbw4
    have hO55 := hO54.below hb5
    obtain ⟨g, u, rfl, hg1, hg2, hu5, hcell, hfr⟩ := hO55.own.cell (k := na + (n6 + 12)) (by omega)
    have p2 := kb5.cell 2 rfl
    have hst := hO55.own.stored (na + (n6 + 12)) (.int .u8 (255 : UInt8).toNat)
    rw [set_bv] at hst
    have hbw6 : Below w.heap.size w (w5.setCell ⟨g, na + (n6 + 12), none⟩ (.int .u8 255)) := hbw5.setCell (p := ⟨g, na + (n6 + 12), none⟩) (by have := hb2.size; have := hbw2.size; show w.heap.size ≤ g; omega) _
    clear q0 q1 q2 kb4 ks4
    go_wp2_with fail
    have hO65 : OwnB (w5.setCell ⟨g, na + (n6 + 12), none⟩ (.int .u8 255)) w2.heap.size (some ⟨g, 0, none⟩) (na + (n6 + 13) + nc) c5 ((a ++ recB k m l ++ cl).set (na + (n6 + 12)) 255) := ⟨by rw [List.length_set]; exact HN5.out, hst⟩
    refine (rec_parse (some ⟨g, 0, none⟩) _ c5 na _ _ _ HP2.out hO65.hn hc5 (by omega) hO65.sl).mono ?_
    rintro e w7 ⟨A7, n7, c7, rfl, hO7, hb7⟩
    simp only [] at hO7 ⊢
    obtain rfl : n7 = 0 := hO7.hn
    have hbw7 := below_step hb7 hbw6
    have z7 := (blk_one w7 40 #[.int .i64 0, .int .u32 0, .slice A7 0 c7]).lt
    go_wp2_with fail
    refine ((fun W => show Calls Try.prog 34 #[.agg #[.int .i64 0, .int .u32 0, .slice A7 0 c7], .agg #[.int .i64 0, .int .u32 0, .slice none 0 0]] W _ from rsame A7 none 0 0 0 0 0 c7 0 0 [] [] W rfl rfl (Sl.nil _ _) (Sl.nil _ _)) _).mono ?_
    rintro e w8 ⟨rfl, hb8⟩
    rw [show sameR 0 0 [] 0 0 [] = true by decide]
    have hbw8 := below_step hb8 (below_alloc hbw7 _)
    go_wp2_with fail
    refine (known_07 _).mono ?_
    rintro e w9 ⟨rfl, hb9⟩
    go_wp2_with fail
    go_ret
    exact (⟨rfl, below_step hb9 hbw8⟩ : TrueB w _ _)
end Go.Proofs.Ytapfadaplncpeaa
