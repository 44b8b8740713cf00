/- The law's own known(): what must come of fixed calls. -/
import Derived.Test.YtapfadaplncpeaaSnapD
namespace Go.Proofs.Ytapfadaplncpeaa
open Go.RowKit
set_option maxRecDepth 20000
set_option maxHeartbeats 1000000

theorem chk_first (L : List SV) (k : Nat) (h : chkV L k ≠ 0) (k' : Nat) (h' : chkV L k' ≠ 0) (a : ∀ j, j < k → chkV L j = 0) (a' : ∀ j, j < k' → chkV L j = 0) : k = k' := by
  rcases Nat.lt_trichotomy k k' with hlt | he | hlt
  · exact absurd (a' k hlt) h
  · exact he
  · exact absurd (a k' hlt) h'
theorem BuildR_det {L : List SV} {b b' : List UInt8} {e e' : Int} (h : BuildR L b e) (h' : BuildR L b' e') : b = b' ∧ e = e' := by
  rcases h with ⟨h1, h2, k, hk, hck, ha⟩ | ⟨ha, h⟩
  · rcases h' with ⟨h1', h2', k', hk', hck', ha'⟩ | ⟨ha', _⟩
    · have : k = k' := chk_first L k (by rw [hck]; exact h1) k' (by rw [hck']; exact h1') ha ha'
      subst this
      exact ⟨h2.trans h2'.symm, hck.symm.trans hck'⟩
    · exact absurd (ha' k hk) (by rw [hck]; exact h1)
  · rcases h' with ⟨h1', h2', k', hk', hck', ha'⟩ | ⟨ha', h'⟩
    · exact absurd (ha k' hk') (by rw [hck']; exact h1')
    · rcases h with ⟨p1, p2, p3⟩ | ⟨p1, p2, p3⟩ <;> rcases h' with ⟨q1, q2, q3⟩ | ⟨q1, q2, q3⟩
      · exact ⟨p2.trans q2.symm, p3.trans q3.symm⟩
      · omega
      · omega
      · exact ⟨p2.trans q2.symm, p3.trans q3.symm⟩

def kL : List SV := [⟨4119, 0, [20, 0]⟩]
def kB : List UInt8 := [23, 16, 0, 2, 0, 20, 0]
theorem kBuild : BuildR kL kB 0 := by
  refine .inr ⟨?_, .inr ⟨by decide, by decide, rfl⟩⟩
  intro j hj
  obtain rfl : j = 0 := by simp [kL] at hj; omega
  decide
theorem kParse : parseS kB = (kL, 0) := rfl
theorem kParse6 : parseS (kB.take 6) = ([], 2) := rfl

theorem known_18 (w : World) : Calls Try.prog 18 #[] w fun e w' => e = .returned (.bool true) ∧ Below w.heap.size w w' := by
  have hK := blk_two w 5 35 #[.int .u8 20, .int .u8 0] #[.int .i64 4119, .int .i64 0, .slice (some ⟨w.heap.size, 0, none⟩) 2 2]
  have hsl : SlV ((w.alloc (.cells #[.int .u8 20, .int .u8 0] 5)).alloc (.cells #[.int .i64 4119, .int .i64 0, .slice (some ⟨w.heap.size, 0, none⟩) 2 2] 35)) (some ⟨w.heap.size + 1, 0, none⟩) kL := by
    intro j v hv
    have hj := (List.getElem?_eq_some_iff.1 hv).1
    obtain rfl : j = 0 := by simp [kL] at hj; omega
    simp [kL] at hv
    subst hv
    exact ⟨_, _, _, _, rfl, hK.2.cell 0 rfl, hK.2.cell 1 rfl, hK.2.cell 2 rfl, Nat.le_refl _, hK.1.sl⟩
  have hfit : fitsV kL := by intro v hv; simp [kL] at hv; subst hv; simp
  have HS := hide hsl
  clear hsl hK
  go_enter Try.func18, Try.ntmps18
  go_wp2_with fail
  refine (snap_build _ _ _ kL _ rfl (Nat.le_refl _) (by decide) HS.out hfit).mono ?_
  rintro e w1 ⟨A1, n1, c1, b, er, rfl, hO1, hB, hb1⟩
  obtain ⟨rfl, rfl⟩ := BuildR_det hB kBuild
  obtain rfl : n1 = 7 := hO1.hn
  have hbw1 := below_step hb1 (below_alloc (below_alloc (Below.refl w.heap.size w) _) _)
  have hc1 := hO1.own.le
  clear hB
  go_wp2_with fail
  refine (snap_parse A1 7 c1 kB w1 rfl hc1 hO1.sl).mono ?_
  rintro e w2 ⟨A2, n2, c2, L2, ds2, er2, rfl, hO2, hP2, hb2⟩
  rw [kParse] at hP2
  obtain ⟨rfl, rfl⟩ := Prod.mk.inj hP2
  obtain rfl : n2 = 1 := hO2.hn
  go_wp2_with fail
  refine (snap_parse A1 6 c1 (kB.take 6) w2 rfl (by omega) (by rw [List.map_take]; exact (hO1.sl.below hb2).take 6)).mono ?_
  rintro e w3 ⟨A3, n3, c3, L3, ds3, er3, rfl, hO3, hP3, hb3⟩
  rw [kParse6] at hP3
  obtain ⟨rfl, rfl⟩ := Prod.mk.inj hP3
  have k1 := str_b c1 (rfl : 7 = kB.length) ((hO1.sl.below hb2).below hb3)
  go_wp2_with fail
  refine (snap_drop A2 1 c2 kL 3 _ rfl hO2.own.le (by decide) (hO2.below hb3).slV hfit).mono ?_
  rintro e w4 ⟨A4, n4, c4, ds4, rfl, hO4, hb4⟩
  obtain rfl : n4 = 1 := hO4.hn
  go_wp2_with fail
  refine (snap_drop A2 1 c2 kL 2 _ rfl hO2.own.le (by decide) ((hO2.below hb3).below hb4).slV hfit).mono ?_
  rintro e w5 ⟨A5, n5, c5, ds5, rfl, hO5, hb5⟩
  obtain rfl : n5 = 0 := hO5.hn
  go_wp2_with fail
  go_ret
  exact ⟨rfl, below_step hb5 (below_step hb4 (below_step hb3 (below_step hb2 hbw1)))⟩
end Go.Proofs.Ytapfadaplncpeaa
