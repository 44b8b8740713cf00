/- Law package 22: known. -/
import Derived.Test.YtimdmhhgomfijaaBlkG
import Derived.Test.YtimdmhhgomfijaaSegN
namespace Go.Proofs.Ytimdmhhgomfijaa
set_option linter.unusedVariables false
set_option linter.unusedSimpArgs false
set_option linter.unnecessarySimpa false
open Go.RowKit
set_option maxRecDepth 100000
set_option maxHeartbeats 4000000
def k22E : Ent := ⟨8192, 0, ⟨#[116, 101, 120, 116]⟩, 9, 4, false, false, 9, 0, 0, []⟩
def k22V : List (List UInt8) := [[]]
def k22d1 : List UInt8 := [97, 98, 99, 100, 101, 102, 103]
def k22d2 : List UInt8 := [104, 105, 0, 0, 0, 0, 0]
def k22d3 : List UInt8 := [97, 98, 99, 100, 101, 102, 103, 104, 105]
def k22a : BlkS := ⟨9, 9, 1, 0, 0, 0, 1, 8192, 0, [], true⟩
def k22b : BlkS := ⟨9, 9, 2, 0, 0, 0, 1, 8192, 0, k22d1, true⟩
def k22c : BlkS := ⟨9, 9, 1, 0, 0, 0, 2, 8192, 0, [97, 98, 99, 100, 101, 102, 103, 104, 105, 0, 0, 0, 0, 0], true⟩
def k22e : BlkS := ⟨9, 9, 1, 0, 0, 0, 3, 8192, 0, [97, 98, 99, 100, 101, 102, 103, 104, 105, 0, 0, 0, 0, 0], true⟩
theorem k22_1 : bdownS [k22E] (blkIdle blkZ) (⟨6, 8192, 0, false, false, true, true, 9, 0, [], 0, 0, 0, 0⟩ : Ms) = k22a := by kernel_rfl
theorem k22_2 : bdownO [k22E] (⟨6, 8192, 0, false, false, true, true, 9, 0, [], 0, 0, 0, 0⟩ : Ms) = outM (bokM 8192 0) := by kernel_rfl
theorem k22_3 : bpartS (⟨9, 9, 1, 0, 0, 0, 1, 8192, 0, [], true⟩ : BlkS) (⟨21, 0, 0, false, false, false, false, 0, 0, k22d1, 1, 0, 0, 0⟩ : Ms) = k22b := by kernel_rfl
theorem k22_4 : bpartO (⟨9, 9, 1, 0, 0, 0, 1, 8192, 0, [], true⟩ : BlkS) (⟨21, 0, 0, false, false, false, false, 0, 0, k22d1, 1, 0, 0, 0⟩ : Ms) = outZ := by kernel_rfl
theorem k22_5 : bpartS (⟨9, 9, 2, 0, 0, 0, 1, 8192, 0, k22d1, true⟩ : BlkS) (⟨21, 0, 0, false, true, false, false, 0, 0, k22d2, 2, 0, 0, 0⟩ : Ms) = k22c := by kernel_rfl
theorem k22_6 : bpartO (⟨9, 9, 2, 0, 0, 0, 1, 8192, 0, k22d1, true⟩ : BlkS) (⟨21, 0, 0, false, true, false, false, 0, 0, k22d2, 2, 0, 0, 0⟩ : Ms) = outM (ackM 2) := by kernel_rfl
theorem k22_7 : bendS (⟨9, 9, 1, 0, 0, 0, 2, 8192, 0, [97, 98, 99, 100, 101, 102, 103, 104, 105, 0, 0, 0, 0, 0], true⟩ : BlkS) (⟨7, 0, 0, false, false, false, false, 0, 0, [], 0, 0, 5, sum16L k22d3⟩ : Ms) = k22e := by kernel_rfl
theorem k22_8 : bendO (⟨9, 9, 1, 0, 0, 0, 2, 8192, 0, [97, 98, 99, 100, 101, 102, 103, 104, 105, 0, 0, 0, 0, 0], true⟩ : BlkS) (⟨7, 0, 0, false, false, false, false, 0, 0, [], 0, 0, 5, sum16L k22d3⟩ : Ms) = ⟨[], true, 8192, 0, k22d3⟩ := by kernel_rfl
theorem k22_n : NewP [k22E] 0 0 := .inr (.inr ⟨by decide, rfl, rfl, fun j hj => by
  have : j = 0 := by simp at hj; exact hj
  subst this
  decide +kernel⟩)
theorem k22_so : SortedE [k22E] := List.pairwise_singleton _ _
/-- between calls: the server, and blocks that stand -/
def BK (w2 : World) (p pd : Nat) (K : Nat → TypeId → Array Value → Prop) (S : BlkS) (W : World) : Prop :=
  Only (fun q => q = p) w2 W ∧ BV_ W (fun _ => True) p pd S ∧ ∀ q t cs, K q t cs → q ≠ p ∧ Blk W q t cs
section
variable {w2 W W' : World} {p pd : Nat} {K : Nat → TypeId → Array Value → Prop} {S S' : BlkS} {O : SegO} {e : Ending}
theorem BK.call {G : Nat → Prop} (h : BK w2 p pd K S W) (hb : BV_ W' G p pd S') (ho : Only (fun q => q = p) W W') : BK w2 p pd K S' W' :=
  ⟨h.1.trans ho (fun _ _ h => h), hb.keep (fun _ _ _ => rfl) (Nat.le_refl _) (fun _ _ _ => trivial), fun q t cs hq => ⟨(h.2.2 q t cs hq).1, blk_only (h.2.2 q t cs hq).2 ho (h.2.2 q t cs hq).1⟩⟩
theorem BK.step (h : BK w2 p pd K S W) (hb : Below W.heap.size W W') : BK w2 p pd K S W' :=
  ⟨h.1.step hb, h.2.1.keep (fun q _ hq => hb.block q hq) hb.size (fun _ _ _ => trivial), fun q t cs hq => ⟨(h.2.2 q t cs hq).1, (h.2.2 q t cs hq).2.below hb (h.2.2 q t cs hq).2.lt⟩⟩
theorem BK.add (h : BK w2 p pd K S W) {x : Nat} {tx : TypeId} {cx : Array Value} (hx : x ≠ p) (hB : Blk W x tx cx) : BK w2 p pd (fun q t cs => K q t cs ∨ (q = x ∧ t = tx ∧ cs = cx)) S W :=
  ⟨h.1, h.2.1, fun q t cs hq => by
    rcases hq with hq | ⟨rfl, rfl, rfl⟩
    · exact h.2.2 q t cs hq
    · exact ⟨hx, hB⟩⟩
theorem BK.drop (h : BK w2 p pd K S W) {K' : Nat → TypeId → Array Value → Prop} (hK : ∀ q t cs, K' q t cs → K q t cs) : BK w2 p pd K' S W := ⟨h.1, h.2.1, fun q t cs hq => h.2.2 q t cs (hK q t cs hq)⟩
end
theorem known_22 (w : World) : Calls Try.prog 20 #[] w (TrueB w) := by
  have hE : SlE (w.alloc (.cells (entV k22E none 0 0) 24)) (some ⟨w.heap.size, 0, none⟩) [k22E] := by
    have q2 := Blk.new w 24 (entV k22E none 0 0)
    intro j E hj
    have hj0 : j = 0 := by
      have := (List.getElem?_eq_some_iff.1 hj).1
      simp at this
      exact this
    subst hj0
    injection hj with hj
    subst hj
    exact ⟨w.heap.size, 0, none, 0, rfl, ⟨q2.cell 0 rfl, q2.cell 1 rfl, q2.cell 2 rfl, q2.cell 3 rfl, q2.cell 4 rfl, q2.cell 5 rfl, q2.cell 6 rfl, q2.cell 7 rfl, q2.cell 8 rfl, q2.cell 9 rfl, q2.cell 10 rfl⟩, by decide, by intro j u hu; simp [k22E] at hu⟩
  have hbw := below_alloc (Below.refl w.heap.size w) (.cells (entV k22E none 0 0) 24)
  have HE := hide hE
  have HBW := hide hbw
  clear hE hbw
  unfold entV k22E at HE HBW
  go_enter Try.func20, Try.ntmps20
  go_wp2_with fail
  refine (dict_new _ 1 1 [k22E] _ rfl HE.out (by intro E h; simp at h; subst h; exact ⟨by decide, by decide⟩)).mono ?_
  rintro e w1 ⟨v, er, at_, rfl, hnp, _, h0, hb1⟩
  obtain ⟨rfl, rfl⟩ := new_one hnp k22_n
  obtain ⟨pd, gl, n, cl, Av, cv, ds, es, rfl, hn, hD⟩ := h0 rfl
  have hbw1 := below_step hb1 HBW.out
  have HD : Hid (DB 75 w1 (fun g => g < w1.heap.size) pd (some ⟨gl, 0, none⟩) n cl Av cv [k22E] k22V ds es) := hide (hD.mono (fun g h _ => h))
  have H1 : Hid (n ≤ 1000) := hide (by rw [hn]; decide)
  clear hD hn h0 hnp HE HBW hb1
  go_wp2_with fail
  refine (blk_new pd _).mono ?_
  rintro e w2 ⟨rfl, hB2, hb2, hz2⟩
  obtain ⟨p, hpp⟩ : ∃ p, p = w1.heap.size := ⟨_, rfl⟩
  rw [← hpp] at hB2 ⊢
  have HPP := hide hpp
  have HBW2 := hide (below_step hb2 hbw1)
  have HD2 := hide (HD.out.below hb2)
  have HS2 : Hid (BV_ w2 (fun _ => True) p pd blkZ) := hide ⟨none, 0, 0, hB2, fun h => absurd rfl h⟩
  have zp2 := hB2.lt
  have hwp : w.heap.size ≤ p := by rw [hpp]; exact hbw1.size
  clear hb2 hz2 hB2 hpp hbw1
  go_wp2_with fail
  refine (blk_new0 _).mono ?_
  rintro e w3 ⟨rfl, rfl⟩
  go_wp2_with fail
  refine (blk_recv6 (V := k22V) p blkZ (fun _ => True) 8192 0 false false true true 9 0 [] 0 0 0 0 none 0 0 _ HD2.out k22_so H1.out (by rw [HPP.out]; simp) HS2.out (by decide)).mono ?_
  rintro e w3 ⟨X3, As3, ns3, cs3, A3, n3, c3, rfl, hm3, hO3, hX3, hS3, ho3⟩
  rw [k22_1] at hS3
  rw [k22_2] at hm3 hO3 ⊢
  obtain ⟨g3, Ad3, nd3, cd3, rfl, rfl, rfl, hg3, hM3, hOd3⟩ := ms_one hm3
  have z3 := ho3.size
  have HK0 : Hid (BK w2 p pd (fun _ _ _ => False) k22a w3) := hide ⟨ho3, hS3.keep (fun _ _ _ => rfl) (Nat.le_refl _) (fun _ _ _ => trivial), fun _ _ _ h => h.elim⟩
  have HK1 := hide (((HK0.out.add (show g3 ≠ p by omega) hM3).step (below_alloc (Below.refl _ _) (.cells (outV (some ⟨g3, 0, none⟩) 1 1 (outM (bokM 8192 0)) A3 n3 c3) 44))).add (show w3.heap.size ≠ p by omega) (Blk.new w3 44 (outV (some ⟨g3, 0, none⟩) 1 1 (outM (bokM 8192 0)) A3 n3 c3)))
  clear hm3 hO3 hX3 hS3 ho3 hM3 hOd3 hg3 HK0
  unfold outV outM
  dsimp only
  go_upto_region 6 with fail
  refine wp_gen (P := BK w2 p pd (fun q t cs => ((fun q t cs => False ∨ (q = g3 ∧ t = 39 ∧ cs = msV (bokM 8192 0) Ad3 nd3 cd3)) q t cs) ∨ (q = w3.heap.size ∧ t = 44 ∧ cs = outV (some ⟨g3, 0, none⟩) 1 1 (outM (bokM 8192 0)) A3 n3 c3)) k22a) HK1.out (fun W hW => ?_)
  clear HK1
  have HKW := hide hW
  obtain ⟨A8, n8, c8, hB8, _⟩ := id hW.2.1
  have HB8 := hide hB8
  clear hB8 hW
  go_wp2_with fail
  refine (blk_rows p pd k22a A8 n8 c8 _ HB8.out).mono ?_
  rintro e w8 ⟨rfl, hw8⟩
  subst hw8
  rw [show (k22a.st == 1) = true from rfl]
  have kc := conv_const2 W #[.int .u8 97, .int .u8 98, .int .u8 99, .int .u8 100, .int .u8 101, .int .u8 102, .int .u8 103] 7 7
  have HKA := hide (HKW.out.step (below_alloc (Below.refl _ _) (.cells #[.int .u8 97, .int .u8 98, .int .u8 99, .int .u8 100, .int .u8 101, .int .u8 102, .int .u8 103] 5 (7, 8))))
  have HSA := hide (sl_marked W #[.int .u8 97, .int .u8 98, .int .u8 99, .int .u8 100, .int .u8 101, .int .u8 102, .int .u8 103] 5 (7, 8))
  have zWp : p < W.heap.size := HB8.out.lt
  have HZA : Hid ((W.alloc (.cells #[.int .u8 97, .int .u8 98, .int .u8 99, .int .u8 100, .int .u8 101, .int .u8 102, .int .u8 103] 5 (7, 8))).heap.size = W.heap.size + 1) := hide (by simp)
  go_wp2_with fail
  have hr := blk_recv21 p pd 9 9 1 0 0 0 8192 0 [] true (fun _ => True) 0 0 false false false false 0 0 k22d1 1 0 0 0 (some ⟨W.heap.size, 0, none⟩) 7 7 _ HKA.out.2.1 (by decide) (by decide) (by decide) (hide rfl) (by decide) (hide (fun W' h => sl_blk HSA.out (fun ad e => by injection e with e; subst e; exact h.block _ (by rw [HZA.out]; exact Nat.lt_succ_self _) (show W.heap.size ≠ p by omega))))
  refine hr.mono ?_
  rintro e w5 ⟨X5, As5, ns5, cs5, A5, n5, c5, rfl, hm5, hO5, hX5, hS5, ho5⟩
  clear hr kc
  rw [k22_3] at hS5
  rw [k22_4] at hm5 hO5 ⊢
  obtain ⟨rfl, rfl, rfl⟩ := ms_none hm5
  have HKB2 := hide (HKA.out.call hS5 ho5)
  have z5 : W.heap.size + 1 ≤ w5.heap.size := by have := ho5.size; rw [HZA.out] at this; exact this
  clear hm5 hO5 hX5 hS5 ho5
  unfold outV outZ
  dsimp only
  have kc2 := conv_const2 w5 #[.int .u8 104, .int .u8 105, .int .u8 0, .int .u8 0, .int .u8 0, .int .u8 0, .int .u8 0] 7 7
  have HKA2 := hide (HKB2.out.step (below_alloc (Below.refl _ _) (.cells #[.int .u8 104, .int .u8 105, .int .u8 0, .int .u8 0, .int .u8 0, .int .u8 0, .int .u8 0] 5 (7, 8))))
  have HSA2 := hide (sl_marked w5 #[.int .u8 104, .int .u8 105, .int .u8 0, .int .u8 0, .int .u8 0, .int .u8 0, .int .u8 0] 5 (7, 8))
  have HZA2 : Hid ((w5.alloc (.cells #[.int .u8 104, .int .u8 105, .int .u8 0, .int .u8 0, .int .u8 0, .int .u8 0, .int .u8 0] 5 (7, 8))).heap.size = w5.heap.size + 1) := hide (by simp)
  go_wp2_with fail
  have hr := blk_recv21 p pd 9 9 2 0 0 0 8192 0 k22d1 true (fun _ => True) 0 0 false true false false 0 0 k22d2 2 0 0 0 (some ⟨w5.heap.size, 0, none⟩) 7 7 _ HKA2.out.2.1 (by decide) (by decide) (by decide) (hide rfl) (by decide) (hide (fun W' h => sl_blk HSA2.out (fun ad e => by injection e with e; subst e; exact h.block _ (by rw [HZA2.out]; exact Nat.lt_succ_self _) (show w5.heap.size ≠ p by omega))))
  refine hr.mono ?_
  rintro e w7 ⟨X7, As7, ns7, cs7, A7, n7, c7, rfl, hm7, hO7, hX7, hS7, ho7⟩
  clear hr kc2
  rw [k22_5] at hS7
  rw [k22_6] at hm7 hO7 ⊢
  obtain ⟨g7, Ad7, nd7, cd7, rfl, rfl, rfl, hg7, hM7, hOd7⟩ := ms_one hm7
  have z7 : w5.heap.size + 1 ≤ w7.heap.size := by have := ho7.size; rw [HZA2.out] at this; exact this
  have hgp7 : g7 ≠ p := by rw [HZA2.out] at hg7; omega
  have HKC := hide (HKA2.out.call hS7 ho7)
  have HKD := hide (((HKC.out.add hgp7 hM7).step (below_alloc (Below.refl _ _) (.cells (outV (some ⟨g7, 0, none⟩) 1 1 (outM (ackM 2)) A7 n7 c7) 44))).add (show w7.heap.size ≠ p by omega) (Blk.new w7 44 (outV (some ⟨g7, 0, none⟩) 1 1 (outM (ackM 2)) A7 n7 c7)))
  have zs7 : Hid ((w7.alloc (.cells (outV (some ⟨g7, 0, none⟩) 1 1 (outM (ackM 2)) A7 n7 c7) 44)).heap.size = w7.heap.size + 1) := hide (by simp)
  clear hm7 hO7 hX7 hS7 ho7 hM7 hOd7 hg7 HKC
  unfold outV outM at zs7
  unfold outV outM
  dsimp only
  go_upto_region 9 with fail
  refine wp_gen (P := fun W9 => BK w2 p pd (fun q t cs => ((fun q t cs => (fun q t cs => ((fun q t cs => False ∨ (q = g3 ∧ t = 39 ∧ cs = msV (bokM 8192 0) Ad3 nd3 cd3)) q t cs) ∨ (q = w3.heap.size ∧ t = 44 ∧ cs = outV (some ⟨g3, 0, none⟩) 1 1 (outM (bokM 8192 0)) A3 n3 c3)) q t cs ∨ (q = g7 ∧ t = 39 ∧ cs = msV (ackM 2) Ad7 nd7 cd7)) q t cs) ∨ (q = w7.heap.size ∧ t = 44 ∧ cs = outV (some ⟨g7, 0, none⟩) 1 1 (outM (ackM 2)) A7 n7 c7)) k22c W9 ∧ W9.heap.size = w7.heap.size + 1) ⟨HKD.out, zs7.out⟩ (fun W9 hW9 => ?_)
  clear HKD zs7
  obtain ⟨hW9, hz9⟩ := hW9
  have HKB9 := hide hW9
  have HZ9 := hide hz9
  have zp9 : p < W9.heap.size := by omega
  clear hW9 hz9
  have kc9 := conv_const2 W9 #[.int .u8 97, .int .u8 98, .int .u8 99, .int .u8 100, .int .u8 101, .int .u8 102, .int .u8 103, .int .u8 104, .int .u8 105] 9 9
  have HKA9 := hide (HKB9.out.step (below_alloc (Below.refl _ _) (.cells #[.int .u8 97, .int .u8 98, .int .u8 99, .int .u8 100, .int .u8 101, .int .u8 102, .int .u8 103, .int .u8 104, .int .u8 105] 5 (9, 10))))
  have HSA9 := hide (sl_marked W9 #[.int .u8 97, .int .u8 98, .int .u8 99, .int .u8 100, .int .u8 101, .int .u8 102, .int .u8 103, .int .u8 104, .int .u8 105] 5 (9, 10))
  have HZA9 : Hid ((W9.alloc (.cells #[.int .u8 97, .int .u8 98, .int .u8 99, .int .u8 100, .int .u8 101, .int .u8 102, .int .u8 103, .int .u8 104, .int .u8 105] 5 (9, 10))).heap.size = W9.heap.size + 1) := hide (by simp)
  go_wp2_with fail
  refine (sum16_sum (some ⟨W9.heap.size, 0, none⟩) 9 9 k22d3 _ rfl (by decide) HSA9.out).mono ?_
  rintro e w10 ⟨rfl, hb10⟩
  have HK10 := hide (HKA9.out.step hb10)
  have z10 : W9.heap.size + 1 ≤ w10.heap.size := by have := hb10.size; rw [HZA9.out] at this; exact this
  clear hb10 kc9
  go_wp2_with fail
  have hr := blk_recv7 p pd 9 9 1 0 0 0 8192 0 [97, 98, 99, 100, 101, 102, 103, 104, 105, 0, 0, 0, 0, 0] true (fun _ => True) 0 0 false false false false 0 0 [] 0 0 5 (sum16L k22d3) none 0 0 _ HK10.out.2.1 (by decide) (by decide)
  refine hr.mono ?_
  rintro e w11 ⟨X11, As11, ns11, cs11, A11, n11, c11, rfl, hm11, hO11, hX11, hS11, ho11⟩
  clear hr
  rw [k22_7] at hS11
  rw [k22_8] at hm11 hO11 ⊢
  obtain ⟨rfl, rfl, rfl⟩ := ms_none hm11
  have z11 := ho11.size
  have HK11 := hide (((HK10.out.call hS11 ho11).step (below_alloc (Below.refl _ _) (.cells (outV none 0 0 ⟨[], true, 8192, 0, k22d3⟩ A11 n11 c11) 44))).add (show w11.heap.size ≠ p by omega) (Blk.new w11 44 (outV none 0 0 ⟨[], true, 8192, 0, k22d3⟩ A11 n11 c11)))
  have HO11 := hide (hO11.alloc (.cells (outV none 0 0 ⟨[], true, 8192, 0, k22d3⟩ A11 n11 c11) 44))
  clear hm11 hO11 hX11 hS11 ho11
  unfold outV
  dsimp only
  go_upto_region 10 with fail
  refine wp_gen (P := fun W12 => BK w2 p pd (fun q t cs => (fun q t cs => ((fun q t cs => (fun q t cs => ((fun q t cs => False ∨ (q = g3 ∧ t = 39 ∧ cs = msV (bokM 8192 0) Ad3 nd3 cd3)) q t cs) ∨ (q = w3.heap.size ∧ t = 44 ∧ cs = outV (some ⟨g3, 0, none⟩) 1 1 (outM (bokM 8192 0)) A3 n3 c3)) q t cs ∨ (q = g7 ∧ t = 39 ∧ cs = msV (ackM 2) Ad7 nd7 cd7)) q t cs) ∨ (q = w7.heap.size ∧ t = 44 ∧ cs = outV (some ⟨g7, 0, none⟩) 1 1 (outM (ackM 2)) A7 n7 c7)) q t cs ∨ (q = w11.heap.size ∧ t = 44 ∧ cs = outV none 0 0 ⟨[], true, 8192, 0, k22d3⟩ A11 n11 c11)) k22e W12 ∧ OwnB W12 w10.heap.size A11 n11 c11 k22d3) ⟨HK11.out, HO11.out⟩ (fun W12 hW12 => ?_)
  clear HK11 HO11
  obtain ⟨hK12, hO12⟩ := hW12
  obtain ⟨A13, n13, c13, hB13, _⟩ := id hK12.2.1
  have HB13 := hide hB13
  have HO12 := hide hO12
  have HK12 := hide hK12
  clear hB13 hO12 hK12
  go_wp2_with fail
  refine (blk_answer p pd k22e 0 A13 n13 c13 _ HB13.out).mono ?_
  rintro e w13 ⟨_, h13⟩
  obtain ⟨g13, hg13, rfl, hM13, hB14, ho13⟩ := h13 rfl
  rw [if_pos rfl] at hM13
  have HK13 := hide (HK12.out.call (G := fun _ => True) (bv_idle hB14) ho13)
  have hO13 := ownB_only HO12.out ho13 (fun g h1 _ (e : g = p) => by omega)
  have qa := (HK13.out.2.2 w3.heap.size _ _ (.inl (.inl (.inl (.inr ⟨rfl, rfl, rfl⟩))))).2
  have qm := (HK13.out.2.2 g3 _ _ (.inl (.inl (.inl (.inl (.inr ⟨rfl, rfl, rfl⟩)))))).2
  have qc := (HK13.out.2.2 w7.heap.size _ _ (.inl (.inr ⟨rfl, rfl, rfl⟩))).2
  have qn := (HK13.out.2.2 g7 _ _ (.inl (.inl (.inr ⟨rfl, rfl, rfl⟩)))).2
  have qf := (HK13.out.2.2 w11.heap.size _ _ (.inr ⟨rfl, rfl, rfl⟩)).2
  have s1 : (convert 22 9 (.slice A11 n11 c11)).run Try.prog w13 = .ok (.string ⟨#[97, 98, 99, 100, 101, 102, 103, 104, 105]⟩) w13 := str_b (w := w13) c11 hO13.hn hO13.sl
  have HBL := hide (below_only HK13.out.1 HBW2.out (fun i (e : i = p) => by omega))
  have HB15 := hide hB14
  unfold msV bokM at qm
  unfold msV ackM at qn
  unfold outV outM at qa qc
  unfold outV at qf
  unfold msV okM at hM13
  have qa_c0 := qa.cell 0 rfl
  have qa_f0 := qa.frozen 0
  have qa_c1 := qa.cell 1 rfl
  have qa_f1 := qa.frozen 1
  have qa_c2 := qa.cell 2 rfl
  have qa_f2 := qa.frozen 2
  have qa_c3 := qa.cell 3 rfl
  have qa_f3 := qa.frozen 3
  have qa_c4 := qa.cell 4 rfl
  have qa_f4 := qa.frozen 4
  have qm_c0 := qm.cell 0 rfl
  have qm_f0 := qm.frozen 0
  have qm_c1 := qm.cell 1 rfl
  have qm_f1 := qm.frozen 1
  have qm_c2 := qm.cell 2 rfl
  have qm_f2 := qm.frozen 2
  have qm_c3 := qm.cell 3 rfl
  have qm_f3 := qm.frozen 3
  have qm_c4 := qm.cell 4 rfl
  have qm_f4 := qm.frozen 4
  have qm_c5 := qm.cell 5 rfl
  have qm_f5 := qm.frozen 5
  have qm_c6 := qm.cell 6 rfl
  have qm_f6 := qm.frozen 6
  have qm_c7 := qm.cell 7 rfl
  have qm_f7 := qm.frozen 7
  have qm_c8 := qm.cell 8 rfl
  have qm_f8 := qm.frozen 8
  have qm_c9 := qm.cell 9 rfl
  have qm_f9 := qm.frozen 9
  have qm_c10 := qm.cell 10 rfl
  have qm_f10 := qm.frozen 10
  have qm_c11 := qm.cell 11 rfl
  have qm_f11 := qm.frozen 11
  have qm_c12 := qm.cell 12 rfl
  have qm_f12 := qm.frozen 12
  have qm_c13 := qm.cell 13 rfl
  have qm_f13 := qm.frozen 13
  have qc_c0 := qc.cell 0 rfl
  have qc_f0 := qc.frozen 0
  have qc_c1 := qc.cell 1 rfl
  have qc_f1 := qc.frozen 1
  have qc_c2 := qc.cell 2 rfl
  have qc_f2 := qc.frozen 2
  have qc_c3 := qc.cell 3 rfl
  have qc_f3 := qc.frozen 3
  have qc_c4 := qc.cell 4 rfl
  have qc_f4 := qc.frozen 4
  have qn_c0 := qn.cell 0 rfl
  have qn_f0 := qn.frozen 0
  have qn_c1 := qn.cell 1 rfl
  have qn_f1 := qn.frozen 1
  have qn_c2 := qn.cell 2 rfl
  have qn_f2 := qn.frozen 2
  have qn_c3 := qn.cell 3 rfl
  have qn_f3 := qn.frozen 3
  have qn_c4 := qn.cell 4 rfl
  have qn_f4 := qn.frozen 4
  have qn_c5 := qn.cell 5 rfl
  have qn_f5 := qn.frozen 5
  have qn_c6 := qn.cell 6 rfl
  have qn_f6 := qn.frozen 6
  have qn_c7 := qn.cell 7 rfl
  have qn_f7 := qn.frozen 7
  have qn_c8 := qn.cell 8 rfl
  have qn_f8 := qn.frozen 8
  have qn_c9 := qn.cell 9 rfl
  have qn_f9 := qn.frozen 9
  have qn_c10 := qn.cell 10 rfl
  have qn_f10 := qn.frozen 10
  have qn_c11 := qn.cell 11 rfl
  have qn_f11 := qn.frozen 11
  have qn_c12 := qn.cell 12 rfl
  have qn_f12 := qn.frozen 12
  have qn_c13 := qn.cell 13 rfl
  have qn_f13 := qn.frozen 13
  have qf_c0 := qf.cell 0 rfl
  have qf_f0 := qf.frozen 0
  have qf_c1 := qf.cell 1 rfl
  have qf_f1 := qf.frozen 1
  have qf_c2 := qf.cell 2 rfl
  have qf_f2 := qf.frozen 2
  have qf_c3 := qf.cell 3 rfl
  have qf_f3 := qf.frozen 3
  have qf_c4 := qf.cell 4 rfl
  have qf_f4 := qf.frozen 4
  have hM13_c0 := hM13.cell 0 rfl
  have hM13_f0 := hM13.frozen 0
  have hM13_c1 := hM13.cell 1 rfl
  have hM13_f1 := hM13.frozen 1
  have hM13_c2 := hM13.cell 2 rfl
  have hM13_f2 := hM13.frozen 2
  have hM13_c3 := hM13.cell 3 rfl
  have hM13_f3 := hM13.frozen 3
  have hM13_c4 := hM13.cell 4 rfl
  have hM13_f4 := hM13.frozen 4
  have hM13_c5 := hM13.cell 5 rfl
  have hM13_f5 := hM13.frozen 5
  have hM13_c6 := hM13.cell 6 rfl
  have hM13_f6 := hM13.frozen 6
  have hM13_c7 := hM13.cell 7 rfl
  have hM13_f7 := hM13.frozen 7
  have hM13_c8 := hM13.cell 8 rfl
  have hM13_f8 := hM13.frozen 8
  have hM13_c9 := hM13.cell 9 rfl
  have hM13_f9 := hM13.frozen 9
  have hM13_c10 := hM13.cell 10 rfl
  have hM13_f10 := hM13.frozen 10
  have hM13_c11 := hM13.cell 11 rfl
  have hM13_f11 := hM13.frozen 11
  have hM13_c12 := hM13.cell 12 rfl
  have hM13_f12 := hM13.frozen 12
  have hM13_c13 := hM13.cell 13 rfl
  have hM13_f13 := hM13.frozen 13
  clear h13 ho13 hO13 hB14
  go_wp2_with fail
  refine (blk_busy p pd (blkIdle k22e) A13 n13 c13 _ HB15.out).mono ?_
  rintro e w14 ⟨rfl, hw14⟩
  subst hw14
  rw [show ((blkIdle k22e).st != 0) = false from rfl]
  go_wp2_with fail
  go_ret
  exact (⟨rfl, HBL.out⟩ : TrueB w _ _)
end Go.Proofs.Ytimdmhhgomfijaa
