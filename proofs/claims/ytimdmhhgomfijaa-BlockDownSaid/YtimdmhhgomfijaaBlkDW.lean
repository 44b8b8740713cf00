/- The walk of BlockDown. -/
import Derived.Test.YtimdmhhgomfijaaBlkR
import Derived.Test.YtimdmhhgomfijaaBlkN
namespace Go.Proofs.Ytimdmhhgomfijaa
set_option linter.unusedVariables false
set_option linter.unusedSimpArgs false
set_option linter.unnecessarySimpa false
open Go.RowKit
set_option maxRecDepth 100000
set_option maxHeartbeats 4000000
theorem sle_one22 {w : World} {g : Nat} {E : Ent} {A : Option Addr} {n c : Nat} (hB : Blk w g 24 (entV E A n c)) (hn : n = E.df.length) (hc : n ≤ c) (hs : Sl w A (E.df.map bv)) : SlE w (some ⟨g, 0, none⟩) [E] := by
  intro j E' hj
  have hj0 : j = 0 := by
    have := (List.getElem?_eq_some_iff.1 hj).1
    simp at this
    exact this
  subst hj0
  injection hj with hj
  subst hj
  subst hn
  exact ⟨g, 0, A, c, rfl, ⟨hB.cell 0 rfl, hB.cell 1 rfl, hB.cell 2 rfl, hB.cell 3 rfl, hB.cell 4 rfl, hB.cell 5 rfl, hB.cell 6 rfl, hB.cell 7 rfl, hB.cell 8 rfl, hB.cell 9 rfl, hB.cell 10 rfl⟩, hc, hs⟩
theorem bmost_le (E : Ent) : mostE E ≤ 256 := by
  have := size_le E.ty
  unfold mostE
  (repeat' split) <;> omega
theorem bfits_le {E : Ent} {k : Nat} (h : fitsC E k = 0) : (k : Int) ≤ mostE E := by
  unfold fitsC at h
  split at h
  · omega
  · omega
theorem bk_new {w2 : World} {p pd : Nat} {S : BlkS} (M : Ms) (h : BV_ w2 (fun _ => True) p pd S) (hp : p < w2.heap.size) : BK w2 p pd (fun q t cs => q = w2.heap.size ∧ t = 39 ∧ cs = msV M none 0 0) S (w2.alloc (.cells (msV M none 0 0) 39)) :=
  ⟨(Only.refl _ _).new _, h.keep (fun q _ hq => Below.heap_alloc _ _ _ hq) (by simp) (fun _ _ _ => trivial), fun q t cs hq => by
    obtain ⟨rfl, rfl, rfl⟩ := hq
    exact ⟨by omega, Blk.new _ _ _⟩⟩
def BDL (w2 : World) (E : Ent) (B : List UInt8) (cr s : Bool) (n2 n4 p pd : Nat) (vh va vi : Value) (wr : World) : Prop :=
  ∃ i h a st : Nat, vi = .int .i64 (i : Nat) ∧ vh = .int .i64 (h : Nat) ∧ va = .int .i64 (a : Nat) ∧ i ≤ a + h ∧ a ≤ n4 ∧ ((st = 1 ∧ h < btotal B) ∨ (st = 2 ∧ h = btotal B)) ∧ BV_ wr (fun _ => True) p pd (dkS (mostE E) (szD s n2) E.ix E.sub B cr 1 st h) ∧ Only (fun q => q = p) w2 wr
theorem blockDown_walk (E : Ent) (A : Option Addr) (n c : Nat) (B : List UInt8) (A2 : Option Addr) (n2 c2 : Nat) (lost : List Bool) (A4 : Option Addr) (n4 c4 : Nat) (cr s : Bool) (A5 : Option Addr) (n5 c5 : Nat) (w : World) (hn : n = E.df.length) (hc : n ≤ c) (hx : E.nm.size ≤ 9223372036854775807) (hs : Sl w A (E.df.map bv))
    (hn2 : n2 = B.length) (hc2 : n2 ≤ c2) (hs2 : Sl w A2 (B.map bv)) (hn4 : n4 = lost.length) (hc4 : n4 ≤ c4) (hs4 : Sl w A4 (lost.map Value.bool)) : Calls Try.prog 6 #[.agg (bsentV E A n c A2 n2 c2 A4 n4 c4 cr s A5 n5 c5)] w (TrueB w) := by
  obtain ⟨q1, q2⟩ := blk_two w 59 24 (bsentV E A n c A2 n2 c2 A4 n4 c4 cr s A5 n5 c5) (entV E A n c)
  have hbw1 := below_alloc (Below.refl w.heap.size w) (.cells (bsentV E A n c A2 n2 c2 A4 n4 c4 cr s A5 n5 c5) 59)
  have hbw2 := below_alloc hbw1 (.cells (entV E A n c) 24)
  have q0 := blk_one w 59 (bsentV E A n c A2 n2 c2 A4 n4 c4 cr s A5 n5 c5)
  have HSE := hide (sle_one22 q2 hn hc (hs.below hbw2))
  have HQ2 := hide q1
  have HB1 := hide hbw1
  have HB2 := hide hbw2
  have HN := hide hn
  have HN2 := hide hn2
  have HS2 := hide hs2
  have HN4 := hide hn4
  have HS4 := hide hs4
  clear hn q1 q2 hbw1 hbw2 hs hn2 hs2 hn4 hs4 hc4
  unfold bsentV at HB1
  unfold bsentV entV at HB2 HSE HQ2
  unfold bsentV at q0
  unfold bsentV
  have q0_c0 := q0.cell 0 rfl
  have q0_f0 := q0.frozen 0
  have q0_c1 := q0.cell 1 rfl
  have q0_f1 := q0.frozen 1
  have q0_c2 := q0.cell 2 rfl
  have q0_f2 := q0.frozen 2
  have q0_c3 := q0.cell 3 rfl
  have q0_f3 := q0.frozen 3
  have q0_c4 := q0.cell 4 rfl
  have q0_f4 := q0.frozen 4
  have q0_c5 := q0.cell 5 rfl
  have q0_f5 := q0.frozen 5
  have q0_c6 := q0.cell 6 rfl
  have q0_f6 := q0.frozen 6
  have q0_c7 := q0.cell 7 rfl
  have q0_f7 := q0.frozen 7
  have q0_c8 := q0.cell 8 rfl
  have q0_f8 := q0.frozen 8
  have q0_c9 := q0.cell 9 rfl
  have q0_f9 := q0.frozen 9
  have q0_c10 := q0.cell 10 rfl
  have q0_f10 := q0.frozen 10
  have q0_c11 := q0.cell 11 rfl
  have q0_f11 := q0.frozen 11
  have q0_c12 := q0.cell 12 rfl
  have q0_f12 := q0.frozen 12
  have q0_c13 := q0.cell 13 rfl
  have q0_f13 := q0.frozen 13
  have q0_c14 := q0.cell 14 rfl
  have q0_f14 := q0.frozen 14
  have q0_c15 := q0.cell 15 rfl
  have q0_f15 := q0.frozen 15
  by_cases h1000 : 1000 < n
  · go_enter Try.func6, Try.ntmps6
    go_wp2_with fail
    refine (known_22 _).mono ?_
    rintro e w1 ⟨rfl, hb1⟩
    go_wp2_with fail
    go_ret
    exact (⟨rfl, below_step hb1 HB1.out⟩ : TrueB w _ _)
  by_cases h1001 : 1000 < n2
  · go_enter Try.func6, Try.ntmps6
    go_wp2_with fail
    refine (known_22 _).mono ?_
    rintro e w1 ⟨rfl, hb1⟩
    go_wp2_with fail
    go_ret
    exact (⟨rfl, below_step hb1 HB1.out⟩ : TrueB w _ _)
  by_cases h300 : 300 < n4
  · go_enter Try.func6, Try.ntmps6
    go_wp2_with fail
    refine (known_22 _).mono ?_
    rintro e w1 ⟨rfl, hb1⟩
    go_wp2_with fail
    go_ret
    exact (⟨rfl, below_step hb1 HB1.out⟩ : TrueB w _ _)
  go_enter Try.func6, Try.ntmps6
  go_wp2_with fail
  refine (dict_new _ 1 1 [E] _ rfl HSE.out (by intro E' h; simp at h; subst h; exact ⟨by have := HN.out; omega, hx⟩)).mono ?_
  rintro e w1 ⟨v, er, at_, rfl, hnp, hv0, h0, hb1⟩
  have HNP := hide hnp
  have HBW1 := hide (below_step hb1 HB2.out)
  have HQ3 := hide (HQ2.out.below hb1 HQ2.out.lt)
  have qq := HQ3.out
  clear q0_c0 q0_f0 q0_c1 q0_f1 q0_c2 q0_f2 q0_c3 q0_f3 q0_c4 q0_f4 q0_c5 q0_f5 q0_c6 q0_f6 q0_c7 q0_f7 q0_c8 q0_f8 q0_c9 q0_f9 q0_c10 q0_f10 q0_c11 q0_f11 q0_c12 q0_f12 q0_c13 q0_f13 q0_c14 q0_f14 q0_c15 q0_f15
  clear q0 hnp hb1
  have qq_c0 := qq.cell 0 rfl
  have qq_f0 := qq.frozen 0
  have qq_c1 := qq.cell 1 rfl
  have qq_f1 := qq.frozen 1
  have qq_c2 := qq.cell 2 rfl
  have qq_f2 := qq.frozen 2
  have qq_c3 := qq.cell 3 rfl
  have qq_f3 := qq.frozen 3
  have qq_c4 := qq.cell 4 rfl
  have qq_f4 := qq.frozen 4
  have qq_c5 := qq.cell 5 rfl
  have qq_f5 := qq.frozen 5
  have qq_c6 := qq.cell 6 rfl
  have qq_f6 := qq.frozen 6
  have qq_c7 := qq.cell 7 rfl
  have qq_f7 := qq.frozen 7
  have qq_c8 := qq.cell 8 rfl
  have qq_f8 := qq.frozen 8
  have qq_c9 := qq.cell 9 rfl
  have qq_f9 := qq.frozen 9
  have qq_c10 := qq.cell 10 rfl
  have qq_f10 := qq.frozen 10
  have qq_c11 := qq.cell 11 rfl
  have qq_f11 := qq.frozen 11
  have qq_c12 := qq.cell 12 rfl
  have qq_f12 := qq.frozen 12
  have qq_c13 := qq.cell 13 rfl
  have qq_f13 := qq.frozen 13
  have qq_c14 := qq.cell 14 rfl
  have qq_f14 := qq.frozen 14
  have qq_c15 := qq.cell 15 rfl
  have qq_f15 := qq.frozen 15
  by_cases her : er = 0
  · obtain ⟨pd, gl, nn, cl, Av, cv, ds, es, rfl, hnn, hD⟩ := h0 her
    subst her
    have HD : Hid (DB 75 w1 (fun g => g < w1.heap.size) pd (some ⟨gl, 0, none⟩) nn cl Av cv [E] [E.df] ds es) := hide (hD.mono (fun g h _ => h))
    have H1 : Hid (nn ≤ 1000) := hide (by rw [hnn]; simp)
    clear hD hnn h0 hv0
    go_wp2_with fail
    refine (seg_fits E n2 A n c _).mono ?_
    rintro e w1b ⟨rfl, hbf⟩
    have HBWf := hide (below_step hbf HBW1.out)
    have HDf := hide (HD.out.below hbf)
    have HQf := hide (HQ3.out.below hbf HQ3.out.lt)
    have hzf := hbf.size
    have HZF := hide hzf
    clear qq_c0 qq_f0 qq_c1 qq_f1 qq_c2 qq_f2 qq_c3 qq_f3 qq_c4 qq_f4 qq_c5 qq_f5 qq_c6 qq_f6 qq_c7 qq_f7 qq_c8 qq_f8 qq_c9 qq_f9 qq_c10 qq_f10 qq_c11 qq_f11 qq_c12 qq_f12 qq_c13 qq_f13 qq_c14 qq_f14 qq_c15 qq_f15
    clear qq hbf hzf
    have qq := HQf.out
    have qq_c0 := qq.cell 0 rfl
    have qq_f0 := qq.frozen 0
    have qq_c1 := qq.cell 1 rfl
    have qq_f1 := qq.frozen 1
    have qq_c2 := qq.cell 2 rfl
    have qq_f2 := qq.frozen 2
    have qq_c3 := qq.cell 3 rfl
    have qq_f3 := qq.frozen 3
    have qq_c4 := qq.cell 4 rfl
    have qq_f4 := qq.frozen 4
    have qq_c5 := qq.cell 5 rfl
    have qq_f5 := qq.frozen 5
    have qq_c6 := qq.cell 6 rfl
    have qq_f6 := qq.frozen 6
    have qq_c7 := qq.cell 7 rfl
    have qq_f7 := qq.frozen 7
    have qq_c8 := qq.cell 8 rfl
    have qq_f8 := qq.frozen 8
    have qq_c9 := qq.cell 9 rfl
    have qq_f9 := qq.frozen 9
    have qq_c10 := qq.cell 10 rfl
    have qq_f10 := qq.frozen 10
    have qq_c11 := qq.cell 11 rfl
    have qq_f11 := qq.frozen 11
    have qq_c12 := qq.cell 12 rfl
    have qq_f12 := qq.frozen 12
    have qq_c13 := qq.cell 13 rfl
    have qq_f13 := qq.frozen 13
    have qq_c14 := qq.cell 14 rfl
    have qq_f14 := qq.frozen 14
    have qq_c15 := qq.cell 15 rfl
    have qq_f15 := qq.frozen 15
    obtain ⟨fc, hfc⟩ : ∃ fc, fc = fitsC E n2 := ⟨_, rfl⟩
    rw [← hfc]
    have HFC := hide hfc
    clear hfc
    by_cases hf0 : fc = 0
    · subst hf0
      by_cases hac : E.acc < 3
      · go_wp2_with fail
        refine (known_22 _).mono ?_
        rintro e w2 ⟨rfl, hb2⟩
        go_wp2_with fail
        go_ret
        exact (⟨rfl, below_step hb2 HBWf.out⟩ : TrueB w _ _)
      · have HAC := hide hac
        go_wp2_with fail
        refine (blk_new pd _).mono ?_
        rintro e w2 ⟨rfl, hB2, hb2, hz2⟩
        obtain ⟨p, hpp⟩ : ∃ p, p = w1b.heap.size := ⟨_, rfl⟩
        rw [← hpp] at hB2 ⊢
        have HPP := hide hpp
        have HBW2 := hide (below_step hb2 HBWf.out)
        have HD2 := hide (HDf.out.below hb2)
        have HQ4 := hide (HQf.out.below hb2 HQf.out.lt)
        have HSv : Hid (BV_ w2 (fun _ => True) p pd blkZ) := hide ⟨none, 0, 0, hB2, fun h => absurd rfl h⟩
        have zp2 := hB2.lt
        have hwp : w.heap.size < p := by rw [hpp]; exact HQf.out.lt
        clear qq_c0 qq_f0 qq_c1 qq_f1 qq_c2 qq_f2 qq_c3 qq_f3 qq_c4 qq_f4 qq_c5 qq_f5 qq_c6 qq_f6 qq_c7 qq_f7 qq_c8 qq_f8 qq_c9 qq_f9 qq_c10 qq_f10 qq_c11 qq_f11 qq_c12 qq_f12 qq_c13 qq_f13 qq_c14 qq_f14 qq_c15 qq_f15
        clear hb2 hz2 hB2 hpp qq hac
        have qq := HQ4.out
        have zqq2 := qq.lt
        have qq_c0 := qq.cell 0 rfl
        have qq_f0 := qq.frozen 0
        have qq_c1 := qq.cell 1 rfl
        have qq_f1 := qq.frozen 1
        have qq_c2 := qq.cell 2 rfl
        have qq_f2 := qq.frozen 2
        have qq_c3 := qq.cell 3 rfl
        have qq_f3 := qq.frozen 3
        have qq_c4 := qq.cell 4 rfl
        have qq_f4 := qq.frozen 4
        have qq_c5 := qq.cell 5 rfl
        have qq_f5 := qq.frozen 5
        have qq_c6 := qq.cell 6 rfl
        have qq_f6 := qq.frozen 6
        have qq_c7 := qq.cell 7 rfl
        have qq_f7 := qq.frozen 7
        have qq_c8 := qq.cell 8 rfl
        have qq_f8 := qq.frozen 8
        have qq_c9 := qq.cell 9 rfl
        have qq_f9 := qq.frozen 9
        have qq_c10 := qq.cell 10 rfl
        have qq_f10 := qq.frozen 10
        have qq_c11 := qq.cell 11 rfl
        have qq_f11 := qq.frozen 11
        have qq_c12 := qq.cell 12 rfl
        have qq_f12 := qq.frozen 12
        have qq_c13 := qq.cell 13 rfl
        have qq_f13 := qq.frozen 13
        have qq_c14 := qq.cell 14 rfl
        have qq_f14 := qq.frozen 14
        have qq_c15 := qq.cell 15 rfl
        have qq_f15 := qq.frozen 15
        obtain ⟨sz0, hsz0⟩ : ∃ z : Nat, z = if s = true then n2 else 0 := ⟨_, rfl⟩
        have HSZ := hide hsz0
        have HD0 := hide (bk_new (⟨6, E.ix, E.sub, false, false, cr, s, 0, 0, [], 0, 0, 0, 0⟩ : Ms) HSv.out zp2)
        have HDs := hide (bk_new (⟨6, E.ix, E.sub, false, false, cr, s, n2, 0, [], 0, 0, 0, 0⟩ : Ms) HSv.out zp2)
        have hw2 : (n2 : Int) % 4294967296 = (n2 : Int) := by omega
        unfold msV at HD0 HDs
        dsimp only at HD0 HDs
        clear hsz0
        go_upto_if 79 with fail
        go_cut [] (fun wx => BK w2 p pd (fun q t cs => q = w2.heap.size ∧ t = 39 ∧ cs = msV (⟨6, E.ix, E.sub, false, false, cr, s, sz0, 0, [], 0, 0, 0, 0⟩ : Ms) none 0 0) blkZ wx)
        case first =>
          cases s
          · go_wp2_with fail
            go_meet
            rw [HSZ.out, if_neg (by simp)]
            exact HD0.out
          · go_wp2_with fail
            go_meet
            rw [HSZ.out, if_pos trivial]
            exact HDs.out
        case rest =>
          have HKc := hide hcut
          obtain ⟨hO, hSv, hMb⟩ := hcut
          have hM := (hMb _ _ _ ⟨rfl, rfl, rfl⟩).2
          have hsz : sz0 ≤ 4294967295 := by rw [HSZ.out]; split <;> omega
          have zxw : w2.heap.size < wc.heap.size := hM.lt
          have HW2 : Hid (writeE E.acc = 0) := hide (by unfold writeE; rw [if_neg (by have := HAC.out; omega)])
          have qm := hM
          unfold msV at qm
          dsimp only at qm
          have qm_c0 := qm.cell 0 rfl
          have qm_f0 := qm.frozen 0
          have qm_c1 := qm.cell 1 rfl
          have qm_f1 := qm.frozen 1
          have qm_c2 := qm.cell 2 rfl
          have qm_f2 := qm.frozen 2
          have qm_c3 := qm.cell 3 rfl
          have qm_f3 := qm.frozen 3
          have qm_c4 := qm.cell 4 rfl
          have qm_f4 := qm.frozen 4
          have qm_c5 := qm.cell 5 rfl
          have qm_f5 := qm.frozen 5
          have qm_c6 := qm.cell 6 rfl
          have qm_f6 := qm.frozen 6
          have qm_c7 := qm.cell 7 rfl
          have qm_f7 := qm.frozen 7
          have qm_c8 := qm.cell 8 rfl
          have qm_f8 := qm.frozen 8
          have qm_c9 := qm.cell 9 rfl
          have qm_f9 := qm.frozen 9
          have qm_c10 := qm.cell 10 rfl
          have qm_f10 := qm.frozen 10
          have qm_c11 := qm.cell 11 rfl
          have qm_f11 := qm.frozen 11
          have qm_c12 := qm.cell 12 rfl
          have qm_f12 := qm.frozen 12
          have qm_c13 := qm.cell 13 rfl
          have qm_f13 := qm.frozen 13
          clear qq_c0 qq_f0 qq_c1 qq_f1 qq_c2 qq_f2 qq_c3 qq_f3 qq_c4 qq_f4 qq_c5 qq_f5 qq_c6 qq_f6 qq_c7 qq_f7 qq_c8 qq_f8 qq_c9 qq_f9 qq_c10 qq_f10 qq_c11 qq_f11 qq_c12 qq_f12 qq_c13 qq_f13 qq_c14 qq_f14 qq_c15 qq_f15
          clear qq
          have qq := blk_only HQ4.out hO (show w.heap.size ≠ p by omega)
          have zqqc := qq.lt
          have qq_c0 := qq.cell 0 rfl
          have qq_f0 := qq.frozen 0
          have qq_c1 := qq.cell 1 rfl
          have qq_f1 := qq.frozen 1
          have qq_c2 := qq.cell 2 rfl
          have qq_f2 := qq.frozen 2
          have qq_c3 := qq.cell 3 rfl
          have qq_f3 := qq.frozen 3
          have qq_c4 := qq.cell 4 rfl
          have qq_f4 := qq.frozen 4
          have qq_c5 := qq.cell 5 rfl
          have qq_f5 := qq.frozen 5
          have qq_c6 := qq.cell 6 rfl
          have qq_f6 := qq.frozen 6
          have qq_c7 := qq.cell 7 rfl
          have qq_f7 := qq.frozen 7
          have qq_c8 := qq.cell 8 rfl
          have qq_f8 := qq.frozen 8
          have qq_c9 := qq.cell 9 rfl
          have qq_f9 := qq.frozen 9
          have qq_c10 := qq.cell 10 rfl
          have qq_f10 := qq.frozen 10
          have qq_c11 := qq.cell 11 rfl
          have qq_f11 := qq.frozen 11
          have qq_c12 := qq.cell 12 rfl
          have qq_f12 := qq.frozen 12
          have qq_c13 := qq.cell 13 rfl
          have qq_f13 := qq.frozen 13
          have qq_c14 := qq.cell 14 rfl
          have qq_f14 := qq.frozen 14
          have qq_c15 := qq.cell 15 rfl
          have qq_f15 := qq.frozen 15
          clear HD0 HDs hO hSv hM hMb
          go_wp2_with fail
          have hrun := blk_recv6 (V := [E.df]) p blkZ (fun _ => True) E.ix E.sub false false cr s sz0 0 [] 0 0 0 0 none 0 0 wc (HD2.out.keep (w' := wc) (fun g (hg : g < w1.heap.size) hlt => HKc.out.1.block g hlt (fun e => by have := HPP.out; have := HZF.out; omega))) (List.pairwise_singleton _ _) H1.out (by rw [HPP.out]; have := HZF.out; omega) HKc.out.2.1 hsz
          refine hrun.mono ?_
          rintro e w3 ⟨X3, As3, ns3, cs3, Ao3, no3, co3, rfl, hm3, hO3, hX3, hS3, ho3⟩
          clear hrun
          obtain ⟨u1, u2⟩ := bd_first E n2 cr s sz0 HSZ.out HW2.out HFC.out.symm
          rw [u1] at hS3
          rw [u2] at hm3 hO3 ⊢
          obtain ⟨g3, Ad3, nd3, cd3, rfl, rfl, rfl, hg3, hM3, hOd3⟩ := ms_one hm3
          have hgp3 : g3 ≠ p := by omega
          have hw3p : w3.heap.size ≠ p := by have := ho3.size; omega
          have hK0 : BK w2 p pd (fun _ _ _ => False) (dkS (mostE E) (szD s n2) E.ix E.sub B cr 1 1 0) w3 := ⟨HKc.out.1.trans ho3 (fun _ _ h => h), hS3.keep (fun _ _ _ => rfl) (Nat.le_refl _) (fun _ _ _ => trivial), fun _ _ _ h => h.elim⟩
          have HK1 := hide (((hK0.add hgp3 hM3).step (below_alloc (Below.refl _ _) (.cells (outV (some ⟨g3, 0, none⟩) 1 1 (outM (bokM E.ix E.sub)) Ao3 no3 co3) 44))).add hw3p (Blk.new w3 44 (outV (some ⟨g3, 0, none⟩) 1 1 (outM (bokM E.ix E.sub)) Ao3 no3 co3)))
          obtain ⟨x0, hx0⟩ : ∃ x0, x0 = w3.heap.size := ⟨_, rfl⟩
          clear qq_c0 qq_f0 qq_c1 qq_f1 qq_c2 qq_f2 qq_c3 qq_f3 qq_c4 qq_f4 qq_c5 qq_f5 qq_c6 qq_f6 qq_c7 qq_f7 qq_c8 qq_f8 qq_c9 qq_f9 qq_c10 qq_f10 qq_c11 qq_f11 qq_c12 qq_f12 qq_c13 qq_f13 qq_c14 qq_f14 qq_c15 qq_f15
          clear qm_c0 qm_f0 qm_c1 qm_f1 qm_c2 qm_f2 qm_c3 qm_f3 qm_c4 qm_f4 qm_c5 qm_f5 qm_c6 qm_f6 qm_c7 qm_f7 qm_c8 qm_f8 qm_c9 qm_f9 qm_c10 qm_f10 qm_c11 qm_f11 qm_c12 qm_f12 qm_c13 qm_f13
          clear hm3 hO3 hX3 hS3 hM3 hOd3 ho3 hg3 u1 u2 qq qm hK0
          unfold outV outM
          dsimp only
          go_upto_region 13 with fail
          rw [← hx0] at HK1
          refine wp_gen (P := BK w2 p pd (fun q t cs => ((fun q t cs => False ∨ (q = g3 ∧ t = 39 ∧ cs = msV (bokM E.ix E.sub) Ad3 nd3 cd3)) q t cs) ∨ (q = x0 ∧ t = 44 ∧ cs = outV (some ⟨g3, 0, none⟩) 1 1 (outM (bokM E.ix E.sub)) Ao3 no3 co3)) (dkS (mostE E) (szD s n2) E.ix E.sub B cr 1 1 0)) (by rw [hx0] at HK1 ⊢; exact HK1.out) (fun W hW => ?_)
          clear HK1
          rw [← hx0]
          have HKW := hide hW
          have hK := (hW.2.2 x0 _ _ (.inr ⟨rfl, rfl, rfl⟩)).2
          have hM := (hW.2.2 g3 _ _ (.inl (.inr ⟨rfl, rfl, rfl⟩))).2
          obtain ⟨A8, n8, c8, hB8, _⟩ := id hW.2.1
          have HB8 := hide hB8
          have zW : x0 < W.heap.size := hK.lt
          have zg : g3 < W.heap.size := hM.lt
          unfold outV outM at hK
          unfold msV bokM at hM
          have hK_c0 := hK.cell 0 rfl
          have hK_f0 := hK.frozen 0
          have hK_c1 := hK.cell 1 rfl
          have hK_f1 := hK.frozen 1
          have hK_c2 := hK.cell 2 rfl
          have hK_f2 := hK.frozen 2
          have hK_c3 := hK.cell 3 rfl
          have hK_f3 := hK.frozen 3
          have hK_c4 := hK.cell 4 rfl
          have hK_f4 := hK.frozen 4
          have hM_c0 := hM.cell 0 rfl
          have hM_f0 := hM.frozen 0
          have hM_c1 := hM.cell 1 rfl
          have hM_f1 := hM.frozen 1
          have hM_c2 := hM.cell 2 rfl
          have hM_f2 := hM.frozen 2
          have hM_c3 := hM.cell 3 rfl
          have hM_f3 := hM.frozen 3
          have hM_c4 := hM.cell 4 rfl
          have hM_f4 := hM.frozen 4
          have hM_c5 := hM.cell 5 rfl
          have hM_f5 := hM.frozen 5
          have hM_c6 := hM.cell 6 rfl
          have hM_f6 := hM.frozen 6
          have hM_c7 := hM.cell 7 rfl
          have hM_f7 := hM.frozen 7
          have hM_c8 := hM.cell 8 rfl
          have hM_f8 := hM.frozen 8
          have hM_c9 := hM.cell 9 rfl
          have hM_f9 := hM.frozen 9
          have hM_c10 := hM.cell 10 rfl
          have hM_f10 := hM.frozen 10
          have hM_c11 := hM.cell 11 rfl
          have hM_f11 := hM.frozen 11
          have hM_c12 := hM.cell 12 rfl
          have hM_f12 := hM.frozen 12
          have hM_c13 := hM.cell 13 rfl
          have hM_f13 := hM.frozen 13
          clear hW hB8 hx0
          go_wp2_with fail
          refine (blk_rows p pd (dkS (mostE E) (szD s n2) E.ix E.sub B cr 1 1 0) A8 n8 c8 _ HB8.out).mono ?_
          rintro e w8 ⟨rfl, hw8⟩
          subst hw8
          rw [show ((dkS (mostE E) (szD s n2) E.ix E.sub B cr 1 1 0).st == 1) = true from rfl]
          have HST : Hid (BDL w2 E B cr s n2 n4 p pd (.int .i64 0) (.int .i64 0) (.int .i64 0) W) := hide ⟨0, 0, 0, 1, rfl, rfl, rfl, Nat.le_refl _, Nat.zero_le _, .inl ⟨rfl, (btotal_le B).2.2⟩, HKW.out.2.1, HKW.out.1⟩
          have hm0 := bfits_le HFC.out.symm
          have hm1 := bmost_le E
          have H256 : Hid (n2 ≤ 256) := hide (by omega)
          have HMO : Hid ((n2 : Int) ≤ mostE E) := hide hm0
          have HPW : Hid (p < w2.heap.size) := hide zp2
          have HT40 : Hid (btotal B ≤ 40) := hide (by have h1 := HN2.out; unfold btotal; omega)
          have HTL : Hid (n2 ≤ 7 * btotal B ∧ 7 * btotal B ≤ n2 + 7) := hide (by have h1 := HN2.out; unfold btotal; omega)
          obtain ⟨tot, ht⟩ : ∃ tot, tot = btotal B := ⟨_, rfl⟩
          have HT := hide ht
          rw [← ht] at HT40 HTL
          clear hK_c0 hK_f0 hK_c1 hK_f1 hK_c2 hK_f2 hK_c3 hK_f3 hK_c4 hK_f4
          clear hM_c0 hM_f0 hM_c1 hM_f1 hM_c2 hM_f2 hM_c3 hM_f3 hM_c4 hM_f4 hM_c5 hM_f5 hM_c6 hM_f6 hM_c7 hM_f7 hM_c8 hM_f8 hM_c9 hM_f9 hM_c10 hM_f10 hM_c11 hM_f11 hM_c12 hM_f12 hM_c13 hM_f13
          clear hK hM zW zg ht hm0 hm1
          go_wp2_with fail
          go_loopw [9, 10, 11, 12, 13, 14] (fun vh va vi _ _ _ wr => BDL w2 E B cr s n2 n4 p pd vh va vi wr) (fun _ _ vi _ _ _ _ => 400 - (intOf vi).toNat)
          case atStart => exact HST.out
          case round =>
            obtain ⟨i, h, a, st, rfl, rfl, rfl, hia, han, hst, hSr, hOr⟩ := hrel
            rw [← HT.out] at hst
            have HSr := hide hSr
            have HOr := hide hOr
            have HBr := hide (below_only hOr HBW2.out (fun i (e : i = p) => by omega))
            have qq := blk_only HQ4.out hOr (show w.heap.size ≠ p by omega)
            have zqqr := qq.lt
            have h40 := HT40.out
            have hi400 : (i : Int) < 400 := by omega
            obtain ⟨A9, n9, c9, hB9, _⟩ := id hSr
            have HB9 := hide hB9
            have qq_c0 := qq.cell 0 rfl
            have qq_f0 := qq.frozen 0
            have qq_c1 := qq.cell 1 rfl
            have qq_f1 := qq.frozen 1
            have qq_c2 := qq.cell 2 rfl
            have qq_f2 := qq.frozen 2
            have qq_c3 := qq.cell 3 rfl
            have qq_f3 := qq.frozen 3
            have qq_c4 := qq.cell 4 rfl
            have qq_f4 := qq.frozen 4
            have qq_c5 := qq.cell 5 rfl
            have qq_f5 := qq.frozen 5
            have qq_c6 := qq.cell 6 rfl
            have qq_f6 := qq.frozen 6
            have qq_c7 := qq.cell 7 rfl
            have qq_f7 := qq.frozen 7
            have qq_c8 := qq.cell 8 rfl
            have qq_f8 := qq.frozen 8
            have qq_c9 := qq.cell 9 rfl
            have qq_f9 := qq.frozen 9
            have qq_c10 := qq.cell 10 rfl
            have qq_f10 := qq.frozen 10
            have qq_c11 := qq.cell 11 rfl
            have qq_f11 := qq.frozen 11
            have qq_c12 := qq.cell 12 rfl
            have qq_f12 := qq.frozen 12
            have qq_c13 := qq.cell 13 rfl
            have qq_f13 := qq.frozen 13
            have qq_c14 := qq.cell 14 rfl
            have qq_f14 := qq.frozen 14
            have qq_c15 := qq.cell 15 rfl
            have qq_f15 := qq.frozen 15
            clear hSr hOr hB9
            rcases hst with ⟨rfl, hlt⟩ | ⟨rfl, hht⟩
            · have HLT := hide hlt
              have HIA := hide hia
              clear hlt hia h40
              go_wp2_with fail
              refine (blk_rows p pd (dkS (mostE E) (szD s n2) E.ix E.sub B cr 1 1 h) A9 n9 c9 _ HB9.out).mono ?_
              rintro e w8 ⟨rfl, hw8⟩
              subst hw8
              rw [show ((dkS (mostE E) (szD s n2) E.ix E.sub B cr 1 1 h).st == 1) = true from rfl]
              go_wp2_with fail
              refine (row_22 p pd E A n c A2 n2 c2 A4 n4 c4 cr s A5 n5 c5 (mostE E) (szD s n2) E.ix E.sub B lost cr h a w wr (hide HN2.out) hc2 H256.out (hide (fun W h => HS2.out.below h)) (hide HN4.out) (by omega) (hide (fun W h => HS4.out.below h)) han (by rw [← HT.out]; exact HLT.out) HMO.out (bmost_le E) (hide HSr.out) (hide HBr.out) (by omega)).mono ?_
              rintro e w5 ⟨n', a', st', rfl, hS5, hst5, ha1, ha2, ha3, ho5⟩
              have hhn : (h : Int) + (n' : Int) ≤ 1000 := by have h1 := HT.out; have h2 := HT40.out; rcases hst5 with ⟨_, h3⟩ | ⟨_, h3⟩ <;> omega
              have HR : Hid (BDL w2 E B cr s n2 n4 p pd (.int .i64 ((h : Int) + (n' : Int))) (.int .i64 (a' : Nat)) (.int .i64 ((i : Int) + 1)) w5) := hide ⟨i + 1, h + n', a', st', by go_num, by go_num, rfl, by have := HIA.out; omega, ha2, hst5, hS5, HOr.out.trans ho5 (fun _ _ h => h)⟩
              clear qq_c0 qq_f0 qq_c1 qq_f1 qq_c2 qq_f2 qq_c3 qq_f3 qq_c4 qq_f4 qq_c5 qq_f5 qq_c6 qq_f6 qq_c7 qq_f7 qq_c8 qq_f8 qq_c9 qq_f9 qq_c10 qq_f10 qq_c11 qq_f11 qq_c12 qq_f12 qq_c13 qq_f13 qq_c14 qq_f14 qq_c15 qq_f15
              clear hS5 hst5 ho5 qq
              go_wp2_with fail
              go_roundw
              case rel => exact HR.out
              case measure => simp [intOf]; omega
            · subst hht
              obtain ⟨em, hem⟩ : ∃ em, em = 7 * h - n2 := ⟨_, rfl⟩
              obtain ⟨htl1, htl2⟩ := HTL.out
              have hem1 : (7 : Int) * (h : Int) - (n2 : Int) = (em : Int) := by omega
              have hem2 : em ≤ 7 := by omega
              have HEM := hide hem
              have hb256 := H256.out
              have hx2 : w2.heap.size ≤ wr.heap.size := HOr.out.size
              obtain ⟨sum0, hsum0⟩ : ∃ z : Nat, z = if cr = true then sum16L B else 0 := ⟨_, rfl⟩
              have HSUM := hide hsum0
              have HV1 : Hid (BV_ (wr.alloc (.cells (msV (⟨7, 0, 0, false, false, false, false, 0, 0, [], 0, 0, ((em : Nat) : Int), 0⟩ : Ms) none 0 0) 39)) (fun q => q ≠ wr.heap.size) p pd (dkS (mostE E) (szD s n2) E.ix E.sub B cr 1 2 h)) := hide (HSr.out.keep (fun q _ hq => Below.heap_alloc _ _ _ hq) (by simp) (fun q hq _ => by omega))
              have HO1 := hide (HOr.out.new (.cells (msV (⟨7, 0, 0, false, false, false, false, 0, 0, [], 0, 0, ((em : Nat) : Int), 0⟩ : Ms) none 0 0) 39))
              have HM1 : Hid (Blk (wr.alloc (.cells (msV (⟨7, 0, 0, false, false, false, false, 0, 0, [], 0, 0, ((em : Nat) : Int), 0⟩ : Ms) none 0 0) 39)) wr.heap.size 39 (msV (⟨7, 0, 0, false, false, false, false, 0, 0, [], 0, 0, ((em : Nat) : Int), 0⟩ : Ms) none 0 0)) := hide (Blk.new _ _ _)
              have HB1w := hide (below_alloc (Below.refl wr.heap.size wr) (.cells (msV (⟨7, 0, 0, false, false, false, false, 0, 0, [], 0, 0, ((em : Nat) : Int), 0⟩ : Ms) none 0 0) 39))
              have hxp : wr.heap.size ≠ p := by omega
              unfold msV at HV1 HO1 HM1 HB1w
              dsimp only at HV1 HO1 HM1 HB1w
              clear hem hsum0 hia han htl1 htl2 h40
              go_wp2_with fail
              refine (blk_rows p pd (dkS (mostE E) (szD s n2) E.ix E.sub B cr 1 2 h) A9 n9 c9 _ HB9.out).mono ?_
              rintro e w8 ⟨rfl, hw8⟩
              subst hw8
              rw [show ((dkS (mostE E) (szD s n2) E.ix E.sub B cr 1 2 h).st == 1) = false from rfl]
              go_wp2_with fail
              refine (pieces_22 A2 n2 c2 B _ HN2.out (by omega)).mono ?_
              rintro e w8 ⟨rfl, hw8⟩
              subst hw8
              rw [← HT.out]
              go_upto_if 139 with fail
              go_cut [] (fun wx => BK w2 p pd (fun q t cs => q = wr.heap.size ∧ t = 39 ∧ cs = msV (⟨7, 0, 0, false, false, false, false, 0, 0, [], 0, 0, ((em : Nat) : Int), sum0⟩ : Ms) none 0 0) (dkS (mostE E) (szD s n2) E.ix E.sub B cr 1 2 h) wx)
              case first =>
                cases cr
                · go_wp2_with fail
                  go_meet
                  rw [HSUM.out, if_neg (by simp)]
                  exact ⟨HO1.out, HV1.out.keep (fun _ _ _ => rfl) (Nat.le_refl _) (fun _ _ _ => trivial), fun q t cs hq => by obtain ⟨rfl, rfl, rfl⟩ := hq; exact ⟨hxp, HM1.out⟩⟩
                · go_wp2_with fail
                  refine (sum16_sum A2 n2 c2 B _ HN2.out (by omega) (HS2.out.below (below_step HB1w.out HBr.out))).mono ?_
                  rintro e w6 ⟨rfl, hb6⟩
                  have hm6 := HM1.out.below hb6 HM1.out.lt
                  have HM6 := hide hm6
                  have zx6 := hm6.lt
                  have HV6 := hide (HV1.out.keep (w' := w6) (H := fun q => q ≠ wr.heap.size) (fun q _ hq => hb6.block q hq) hb6.size (fun _ _ h => h))
                  have HO6 := hide (HO1.out.step hb6)
                  have hm6_c0 := hm6.cell 0 rfl
                  have hm6_f0 := hm6.frozen 0
                  have hm6_c1 := hm6.cell 1 rfl
                  have hm6_f1 := hm6.frozen 1
                  have hm6_c2 := hm6.cell 2 rfl
                  have hm6_f2 := hm6.frozen 2
                  have hm6_c3 := hm6.cell 3 rfl
                  have hm6_f3 := hm6.frozen 3
                  have hm6_c4 := hm6.cell 4 rfl
                  have hm6_f4 := hm6.frozen 4
                  have hm6_c5 := hm6.cell 5 rfl
                  have hm6_f5 := hm6.frozen 5
                  have hm6_c6 := hm6.cell 6 rfl
                  have hm6_f6 := hm6.frozen 6
                  have hm6_c7 := hm6.cell 7 rfl
                  have hm6_f7 := hm6.frozen 7
                  have hm6_c8 := hm6.cell 8 rfl
                  have hm6_f8 := hm6.frozen 8
                  have hm6_c9 := hm6.cell 9 rfl
                  have hm6_f9 := hm6.frozen 9
                  have hm6_c10 := hm6.cell 10 rfl
                  have hm6_f10 := hm6.frozen 10
                  have hm6_c11 := hm6.cell 11 rfl
                  have hm6_f11 := hm6.frozen 11
                  have hm6_c12 := hm6.cell 12 rfl
                  have hm6_f12 := hm6.frozen 12
                  have hm6_c13 := hm6.cell 13 rfl
                  have hm6_f13 := hm6.frozen 13
                  clear hb6 hm6
                  go_wp2_with fail
                  go_meet
                  rw [HSUM.out, if_pos trivial]
                  have hk := HM6.out.set_ 13 (.int .u16 (sum16L B : Nat))
                  exact ⟨HO6.out.setNew hx2 _, HV6.out.keep (fun q hq _ => Below.heap_setCell _ _ _ _ (by rcases hq with rfl | hq; exact fun e => hxp e.symm; exact hq)) (by simp [World.setCell]) (fun _ _ _ => trivial), fun q t cs hq => by obtain ⟨rfl, rfl, rfl⟩ := hq; exact ⟨hxp, hk⟩⟩
              case rest =>
                have HKe := hide hcut
                have hm := (hcut.2.2 _ _ _ ⟨rfl, rfl, rfl⟩).2
                have zxm := hm.lt
                unfold msV at hm
                dsimp only at hm
                have hm_c0 := hm.cell 0 rfl
                have hm_f0 := hm.frozen 0
                have hm_c1 := hm.cell 1 rfl
                have hm_f1 := hm.frozen 1
                have hm_c2 := hm.cell 2 rfl
                have hm_f2 := hm.frozen 2
                have hm_c3 := hm.cell 3 rfl
                have hm_f3 := hm.frozen 3
                have hm_c4 := hm.cell 4 rfl
                have hm_f4 := hm.frozen 4
                have hm_c5 := hm.cell 5 rfl
                have hm_f5 := hm.frozen 5
                have hm_c6 := hm.cell 6 rfl
                have hm_f6 := hm.frozen 6
                have hm_c7 := hm.cell 7 rfl
                have hm_f7 := hm.frozen 7
                have hm_c8 := hm.cell 8 rfl
                have hm_f8 := hm.frozen 8
                have hm_c9 := hm.cell 9 rfl
                have hm_f9 := hm.frozen 9
                have hm_c10 := hm.cell 10 rfl
                have hm_f10 := hm.frozen 10
                have hm_c11 := hm.cell 11 rfl
                have hm_f11 := hm.frozen 11
                have hm_c12 := hm.cell 12 rfl
                have hm_f12 := hm.frozen 12
                have hm_c13 := hm.cell 13 rfl
                have hm_f13 := hm.frozen 13
                clear qq_c0 qq_f0 qq_c1 qq_f1 qq_c2 qq_f2 qq_c3 qq_f3 qq_c4 qq_f4 qq_c5 qq_f5 qq_c6 qq_f6 qq_c7 qq_f7 qq_c8 qq_f8 qq_c9 qq_f9 qq_c10 qq_f10 qq_c11 qq_f11 qq_c12 qq_f12 qq_c13 qq_f13 qq_c14 qq_f14 qq_c15 qq_f15
                clear hcut qq HV1 HO1 HM1 HB1w
                go_wp2_with fail
                have hr := blk_recv7 p pd (mostE E) (szD s n2) 1 0 0 0 E.ix E.sub (padB B h) cr (fun _ => True) 0 0 false false false false 0 0 [] 0 0 (em : Nat) sum0 none 0 0 wc HKe.out.2.1 (by rw [padB_len]; have := HT40.out; omega) (by omega)
                refine hr.mono ?_
                rintro e w11 ⟨X11, As11, ns11, cs11, A11, n11, c11, rfl, hm11, hO11, hX11, hS11, ho11⟩
                clear hr
                obtain ⟨u1, u2⟩ := bd_last E B cr s sum0 HSUM.out (by rw [← HN2.out]; exact HFC.out.symm)
                rw [← HT.out, ← HN2.out, ← HEM.out] at u1 u2
                rw [u1] at hS11
                rw [u2] at hm11 hO11 ⊢
                obtain ⟨rfl, rfl, rfl⟩ := ms_none hm11
                have zcw : wr.heap.size < w11.heap.size := Nat.lt_of_lt_of_le zxm ho11.size
                have hK0 : BK w2 p pd (fun _ _ _ => False) (⟨mostE E, szD s n2, 1, 0, 0, 0, 3, E.ix, E.sub, padB B h, cr⟩ : BlkS) w11 := ⟨HKe.out.1.trans ho11 (fun _ _ h => h), hS11.keep (fun _ _ _ => rfl) (Nat.le_refl _) (fun _ _ _ => trivial), fun _ _ _ h => h.elim⟩
                have HK11 := hide ((hK0.step (below_alloc (Below.refl _ _) (.cells (outV none 0 0 ⟨[], true, E.ix, E.sub, B⟩ A11 n11 c11) 44))).add (show w11.heap.size ≠ p by omega) (Blk.new w11 44 (outV none 0 0 ⟨[], true, E.ix, E.sub, B⟩ A11 n11 c11)))
                have HO11 := hide (hO11.alloc (.cells (outV none 0 0 ⟨[], true, E.ix, E.sub, B⟩ A11 n11 c11) 44))
                have zpw : p < wc.heap.size := by omega
                clear hm_c0 hm_f0 hm_c1 hm_f1 hm_c2 hm_f2 hm_c3 hm_f3 hm_c4 hm_f4 hm_c5 hm_f5 hm_c6 hm_f6 hm_c7 hm_f7 hm_c8 hm_f8 hm_c9 hm_f9 hm_c10 hm_f10 hm_c11 hm_f11 hm_c12 hm_f12 hm_c13 hm_f13
                clear hm11 hO11 hX11 hS11 ho11 hm u1 u2 hK0
                unfold outV
                dsimp only
                go_upto_region 30 with fail
                refine wp_gen (P := fun W12 => BK w2 p pd (fun q t cs => (fun _ _ _ => False) q t cs ∨ (q = w11.heap.size ∧ t = 44 ∧ cs = outV none 0 0 ⟨[], true, E.ix, E.sub, B⟩ A11 n11 c11)) (⟨mostE E, szD s n2, 1, 0, 0, 0, 3, E.ix, E.sub, padB B h, cr⟩ : BlkS) W12 ∧ OwnB W12 wc.heap.size A11 n11 c11 B) ⟨HK11.out, HO11.out⟩ (fun W12 hW12 => ?_)
                clear HK11 HO11
                obtain ⟨hK12, hO12⟩ := hW12
                obtain ⟨A13, n13, c13, hB13, _⟩ := id hK12.2.1
                have HB13 := hide hB13
                have HO12 := hide hO12
                have HK12 := hide hK12
                clear hB13 hO12 hK12
                go_wp2_with fail
                refine (blk_answer p pd (⟨mostE E, szD s n2, 1, 0, 0, 0, 3, E.ix, E.sub, padB B h, cr⟩ : BlkS) 0 A13 n13 c13 _ HB13.out).mono ?_
                rintro e w13 ⟨_, h13⟩
                obtain ⟨g13, hg13, rfl, hM13, hB14, ho13⟩ := h13 rfl
                rw [if_pos rfl] at hM13
                have HK13 := hide (HK12.out.call (G := fun _ => True) (bv_idle hB14) ho13)
                have hO13 := ownB_only HO12.out ho13 (fun g h1 _ (e : g = p) => by omega)
                have qf := (HK13.out.2.2 w11.heap.size _ _ (.inr ⟨rfl, rfl, rfl⟩)).2
                have qe := blk_only HQ4.out HK13.out.1 (show w.heap.size ≠ p by omega)
                have HBL := hide (below_only HK13.out.1 HBW2.out (fun i (e : i = p) => by omega))
                have s1 : (convert 22 9 (.slice A11 n11 c11)).run Try.prog w13 = .ok (.string ⟨B.toArray⟩) w13 := str_b c11 hO13.hn hO13.sl
                have s2 : (convert 22 9 (.slice A2 n2 c2)).run Try.prog w13 = .ok (.string ⟨B.toArray⟩) w13 := str_b c2 HN2.out (HS2.out.below HBL.out)
                have HB15 := hide hB14
                unfold outV at qf
                unfold msV okM at hM13
                have qf_c0 := qf.cell 0 rfl
                have qf_f0 := qf.frozen 0
                have qf_c1 := qf.cell 1 rfl
                have qf_f1 := qf.frozen 1
                have qf_c2 := qf.cell 2 rfl
                have qf_f2 := qf.frozen 2
                have qf_c3 := qf.cell 3 rfl
                have qf_f3 := qf.frozen 3
                have qf_c4 := qf.cell 4 rfl
                have qf_f4 := qf.frozen 4
                have hM13_c0 := hM13.cell 0 rfl
                have hM13_f0 := hM13.frozen 0
                have hM13_c1 := hM13.cell 1 rfl
                have hM13_f1 := hM13.frozen 1
                have hM13_c2 := hM13.cell 2 rfl
                have hM13_f2 := hM13.frozen 2
                have hM13_c3 := hM13.cell 3 rfl
                have hM13_f3 := hM13.frozen 3
                have hM13_c4 := hM13.cell 4 rfl
                have hM13_f4 := hM13.frozen 4
                have hM13_c5 := hM13.cell 5 rfl
                have hM13_f5 := hM13.frozen 5
                have hM13_c6 := hM13.cell 6 rfl
                have hM13_f6 := hM13.frozen 6
                have hM13_c7 := hM13.cell 7 rfl
                have hM13_f7 := hM13.frozen 7
                have hM13_c8 := hM13.cell 8 rfl
                have hM13_f8 := hM13.frozen 8
                have hM13_c9 := hM13.cell 9 rfl
                have hM13_f9 := hM13.frozen 9
                have hM13_c10 := hM13.cell 10 rfl
                have hM13_f10 := hM13.frozen 10
                have hM13_c11 := hM13.cell 11 rfl
                have hM13_f11 := hM13.frozen 11
                have hM13_c12 := hM13.cell 12 rfl
                have hM13_f12 := hM13.frozen 12
                have hM13_c13 := hM13.cell 13 rfl
                have hM13_f13 := hM13.frozen 13
                have qe_c0 := qe.cell 0 rfl
                have qe_f0 := qe.frozen 0
                have qe_c1 := qe.cell 1 rfl
                have qe_f1 := qe.frozen 1
                have qe_c2 := qe.cell 2 rfl
                have qe_f2 := qe.frozen 2
                have qe_c3 := qe.cell 3 rfl
                have qe_f3 := qe.frozen 3
                have qe_c4 := qe.cell 4 rfl
                have qe_f4 := qe.frozen 4
                have qe_c5 := qe.cell 5 rfl
                have qe_f5 := qe.frozen 5
                have qe_c6 := qe.cell 6 rfl
                have qe_f6 := qe.frozen 6
                have qe_c7 := qe.cell 7 rfl
                have qe_f7 := qe.frozen 7
                have qe_c8 := qe.cell 8 rfl
                have qe_f8 := qe.frozen 8
                have qe_c9 := qe.cell 9 rfl
                have qe_f9 := qe.frozen 9
                have qe_c10 := qe.cell 10 rfl
                have qe_f10 := qe.frozen 10
                have qe_c11 := qe.cell 11 rfl
                have qe_f11 := qe.frozen 11
                have qe_c12 := qe.cell 12 rfl
                have qe_f12 := qe.frozen 12
                have qe_c13 := qe.cell 13 rfl
                have qe_f13 := qe.frozen 13
                have qe_c14 := qe.cell 14 rfl
                have qe_f14 := qe.frozen 14
                have qe_c15 := qe.cell 15 rfl
                have qe_f15 := qe.frozen 15
                clear h13 ho13 hO13 hB14
                go_wp2_with fail
                refine (blk_busy p pd (blkIdle (⟨mostE E, szD s n2, 1, 0, 0, 0, 3, E.ix, E.sub, padB B h, cr⟩ : BlkS)) A13 n13 c13 _ HB15.out).mono ?_
                rintro e w14 ⟨rfl, hw14⟩
                subst hw14
                rw [show ((blkIdle (⟨mostE E, szD s n2, 1, 0, 0, 0, 3, E.ix, E.sub, padB B h, cr⟩ : BlkS)).st != 0) = false from rfl]
                go_wp2_with fail
                refine (known_22 _).mono ?_
                rintro e w15 ⟨rfl, hb15⟩
                go_wp2_with fail
                go_ret
                exact (⟨rfl, below_step hb15 HBL.out⟩ : TrueB w _ _)
    · have hfn : (fc != 0) = true := by simp [hf0]
      go_wp2_with fail
      refine (known_22 _).mono ?_
      rintro e w2 ⟨rfl, hb2⟩
      go_wp2_with fail
      go_ret
      exact (⟨rfl, below_step hb2 HBWf.out⟩ : TrueB w _ _)
  · have herq : (er != 0) = true := by simp [her]
    clear h0 hv0
    go_wp2_with fail
    refine (known_22 _).mono ?_
    rintro e w2 ⟨rfl, hb2⟩
    go_wp2_with fail
    go_ret
    exact (⟨rfl, below_step hb2 HBW1.out⟩ : TrueB w _ _)
end Go.Proofs.Ytimdmhhgomfijaa
