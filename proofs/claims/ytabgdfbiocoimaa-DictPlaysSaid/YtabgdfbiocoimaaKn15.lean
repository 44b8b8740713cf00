/- Dictionaries: what must come of fixed calls (law15's known). -/
import Derived.Test.YtabgdfbiocoimaaDicN
import Derived.Test.YtabgdfbiocoimaaDicE
namespace Go.Proofs.Ytabgdfbiocoimaa
set_option linter.unusedVariables false
set_option linter.unusedSimpArgs false
set_option linter.unnecessarySimpa false
open Go.RowKit
set_option maxRecDepth 100000
set_option maxHeartbeats 4000000
theorem slE_one {w : World} {g : Nat} {E : Ent} {A : Option Addr} {c : Nat} (hB : Blk w g 39 (entV E A E.df.length c)) (hc : E.df.length ≤ c) (hs : Sl w A (E.df.map bv)) : SlE w (some ⟨g, 0, none⟩) [E] := by
  intro j D hD
  cases j with
  | zero =>
    simp at hD
    subst hD
    obtain ⟨c0, c1, c2, c3, c4, c5, c6, c7, c8, c9, c10⟩ := ec_of hB
    exact ⟨g, 0, A, c, rfl, ⟨c0, c1, c2, c3, c4, c5, c6, c7, c8, c9, c10⟩, hc, hs⟩
  | succ j => simp at hD
def kD : Ent := ⟨4119, 0, ⟨#[98, 101, 97, 116]⟩, 6, 4, false, false, 0, 10, 1000, [20, 0]⟩
theorem kD_chk : chkE [kD] 0 = 0 := by decide +kernel
theorem kD_new : NewP [kD] 0 0 := .inr (.inr ⟨by decide, rfl, rfl, by intro j hj; obtain rfl : j = 0 := by simp at hj; omega
                                                                      exact kD_chk⟩)
theorem kD_sorted : SortedE [kD] := List.pairwise_singleton _ _
theorem kD_all : mayC [kD] 4119 0 [30, 0] false = 0 ∧ putV [kD] [[20, 0]] 4119 0 [30, 0] false = [[30, 0]] ∧ getC [kD] 4119 0 = 0 ∧ valK [[30, 0]] (locK [kD] 4119 0) = [30, 0] ∧ getC [kD] 4119 1 = 101253137 ∧ getC [kD] 4120 0 = 100794368 ∧ mayC [kD] 4119 0 [1, 0] false = 101253170 := by decide +kernel
theorem known_15 (w : World) : Calls Try.prog 13 #[] w fun e w' => e = .returned (.bool true) ∧ Below w.heap.size w w' := by
  obtain ⟨r1, r2, r3, r4, r5, r6, r7⟩ := kD_all
  have R1 := hide r1
  have R2 := hide r2
  have R3 := hide r3
  have R4 := hide r4
  have R5 := hide r5
  have R6 := hide r6
  have R7 := hide r7
  clear r1 r2 r3 r4 r5 r6 r7
  have q := blk_two w 5 39 #[.int .u8 20, .int .u8 0] (entV kD (some ⟨w.heap.size, 0, none⟩) 2 2)
  have hbw := below_alloc (below_alloc (Below.refl w.heap.size w) (.cells #[.int .u8 20, .int .u8 0] 5)) (.cells (entV kD (some ⟨w.heap.size, 0, none⟩) 2 2) 39)
  have HSL := hide (slE_one (E := kD) q.2 (Nat.le_refl _) q.1.sl)
  go_enter Try.func13, Try.ntmps13
  go_wp2_with fail
  refine (dict_new _ 1 1 [kD] _ rfl HSL.out (by intro E hE; simp at hE; subst hE; exact ⟨by decide, by decide⟩)).mono ?_
  rintro e w1 ⟨v, er, at_, rfl, h1, h2, h3, hb1⟩
  obtain ⟨rfl, rfl⟩ := new_one h1 kD_new
  obtain ⟨p, gl, n, cl, Av, cv, ds, es, rfl, hn, hD⟩ := h3 rfl
  have HD := hide hD
  have hbw1 := hide (below_step hb1 hbw)
  have hn1 : n = 1 := hn
  subst hn1
  have hfr : w.heap.size ≤ (((w.alloc (.cells #[.int .u8 20, .int .u8 0] 5)).alloc (.cells (entV kD (some ⟨w.heap.size, 0, none⟩) 2 2) 39)).heap.size) := by simp; omega
  have HFR := hide hfr
  clear h1 h2 h3 hD hb1 hn hfr q hbw
  go_wp2_with fail
  have b1 := hide (blk_one w1 5 #[.int .u8 30, .int .u8 0])
  refine (dict_set 4119 0 _ 2 2 [30, 0] _ (HD.out.below (below_alloc (Below.refl _ _) _)) kD_sorted (by decide) rfl (by decide) (by decide) b1.out.sl).mono ?_
  rintro e w2 ⟨V2, es2, rfl, hV2, hD2, ho2⟩
  rw [R1.out]
  have hV2' : V2 = [[30, 0]] := hV2.trans R2.out
  subst hV2'
  have HD2 := hide hD2
  have HO2 := hide ((Only.of_below (below_alloc (Below.refl w1.heap.size w1) (.cells #[.int .u8 30, .int .u8 0] 5))).trans ho2 (fun _ _ h => h))
  clear hV2 hD2 ho2
  go_wp2_with fail
  refine (dict_get 4119 0 _ HD2.out kD_sorted (by decide)).mono ?_
  rintro e w3 ⟨A3, m3, c3, b3, rfl, hO3, hb3, hw3⟩
  rw [R3.out] at hb3
  have hb3' : b3 = [30, 0] := by rw [hb3]; exact R4.out
  subst hb3'
  have HO3 := hide hO3
  rw [R3.out]
  clear hb3 hO3
  go_wp2_with fail
  refine (dict_get 4119 1 _ (HD2.out.below hw3) kD_sorted (by decide)).mono ?_
  rintro e w4 ⟨A4, m4, c4, b4, rfl, _, _, hw4⟩
  rw [R5.out]
  go_wp2_with fail
  refine (dict_get 4120 0 _ ((HD2.out.below hw3).below hw4) kD_sorted (by decide)).mono ?_
  rintro e w5 ⟨A5, m5, c5, b5, rfl, _, _, hw5⟩
  rw [R6.out]
  have hw35 := below_step hw5 (below_step hw4 hw3)
  have hm3 : m3 = 2 := HO3.out.hn
  subst hm3
  have hst := fun W (h : Below w3.heap.size w3 W) => str_b c3 HO3.out.hn (HO3.out.below h).sl
  have hst5 := hst w5 (below_step hw5 hw4)
  have HD5 := hide (HD2.out.below hw35)
  have HW := hide hw35
  clear hst hw3 hw4 hw5 hw35
  go_wp2_with fail
  have b6 := hide (blk_one w5 5 #[.int .u8 1, .int .u8 0])
  refine (dict_set 4119 0 _ 2 2 [1, 0] _ (HD5.out.below (below_alloc (Below.refl _ _) _)) kD_sorted (by decide) rfl (by decide) (by decide) b6.out.sl).mono ?_
  rintro e w6 ⟨V6, es6, rfl, _, hD6, ho6⟩
  rw [R7.out]
  have HD6 := hide hD6
  have HO6 := hide ((Only.of_below (below_alloc (Below.refl w5.heap.size w5) (.cells #[.int .u8 1, .int .u8 0] 5))).trans ho6 (fun _ _ h => h))
  clear hD6 ho6
  go_wp2_with fail
  refine (dict_len _ HD6.out.blk).mono ?_
  rintro e w7 ⟨rfl, rfl⟩
  go_wp2_with fail
  go_ret
  have hF : ∀ i, (((w.alloc (.cells #[.int .u8 20, .int .u8 0] 5)).alloc (.cells (entV kD (some ⟨w.heap.size, 0, none⟩) 2 2) 39)).heap.size) ≤ i → w.heap.size ≤ i := fun i h => Nat.le_trans HFR.out h
  have hz := hbw1.out.size
  exact ⟨rfl, below_only HO6.out (below_step HW.out (below_only HO2.out hbw1.out hF)) (fun i h => h.elim (hF i) (fun h => Nat.le_trans hz (by simp at h; omega)))⟩
end Go.Proofs.Ytabgdfbiocoimaa
