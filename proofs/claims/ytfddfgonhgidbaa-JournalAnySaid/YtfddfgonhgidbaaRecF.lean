/- The reference's record: Parse. -/
import Derived.Test.YtfddfgonhgidbaaRecE
namespace Go.Proofs.Ytfddfgonhgidbaa
set_option linter.unusedVariables false
set_option linter.unusedSimpArgs false
set_option linter.unnecessarySimpa false
open Go.RowKit
set_option maxRecDepth 20000
set_option maxHeartbeats 1000000
attribute [local go_sem ↓] Go.wp_at_zero Go.wp_at_succ

theorem recX1_at (x : List UInt8) (h : 1 < x.length) : recX1 x = (x[1]).toNat := by
  unfold recX1
  rw [List.drop_eq_getElem_cons h]
  simp only [List.take_succ_cons, List.take_zero, leN]
  omega
theorem fits_no (a b c : Nat) (h : fitsR a b c = false) :
    (((a : Int) != 1) = true ∧ ((a : Int) != 2) = true) ∨ (((a : Int) != 1) = false ∧ ((b : Int) == 0) = true) ∨ (((a : Int) != 1) = true ∧ ((a : Int) != 2) = false ∧ ((b : Int) == 0) = true) ∨
    (((a : Int) != 1) = false ∧ ((b : Int) == 0) = false ∧ decide ((960 : Int) < c) = true) ∨ (((a : Int) != 1) = true ∧ ((a : Int) != 2) = false ∧ ((b : Int) == 0) = false ∧ decide ((960 : Int) < c) = true) ∨
    (((a : Int) != 1) = true ∧ ((a : Int) != 2) = false ∧ ((b : Int) == 0) = false ∧ decide ((960 : Int) < c) = false ∧ ((a : Int) == 2) = true ∧ decide ((0 : Int) < c) = true ∧ decide (0 < c) = true) := by
  simp only [fitsR, decide_eq_false_iff_not, bne_iff_ne, ne_eq, bne_eq_false_iff_eq, beq_iff_eq, beq_eq_false_iff_ne, decide_eq_true_eq] at *
  omega
theorem fits_yes (a b c : Nat) (h : fitsR a b c = true) :
    (((a : Int) != 1) = false ∧ ((b : Int) == 0) = false ∧ decide ((960 : Int) < c) = false ∧ ((a : Int) == 2) = false ∧ c ≤ 960) ∨
    (((a : Int) != 1) = true ∧ ((a : Int) != 2) = false ∧ ((b : Int) == 0) = false ∧ decide ((960 : Int) < c) = false ∧ ((a : Int) == 2) = true ∧ decide ((0 : Int) < c) = false ∧ decide (0 < c) = false ∧ c ≤ 960) := by
  simp only [fitsR, decide_eq_false_iff_not, bne_iff_ne, ne_eq, bne_eq_false_iff_eq, beq_iff_eq, beq_eq_false_iff_ne, decide_eq_true_eq] at *
  omega

theorem rrec_parse (A : Option Addr) (n c : Nat) (at_ : Int) (l : List UInt8) (w : World) (p : PR) (hp : p = recParse l at_) (hn : n = l.length) (hc : n ≤ c) (hl : n ≤ 35184372088832) (hs : Sl w A (l.map bv)) :
    Calls Try.prog 138 #[.slice A n c, .int .i64 at_] w (ParseR p w) := by
  by_cases h0 : at_ < 0
  · have HP := hide (show p = ⟨0, 0, [], 0, 1⟩ by rw [hp, recParse, if_pos (.inl h0)])
    clear hp hn
    go_enter Try.func138, Try.ntmps138
    go_wp2_with fail
    exact bodyPost_ret (v := .tuple #[.agg #[.int .i64 0, .int .u32 0, .slice none 0 0], .int .i64 0, .int .i64 1]) (by simp [results, Try.results138, go_sem]) rfl (parseR_no p 1 HP.out (by repeat' (first | with_reducible assumption | with_reducible exact Below.refl _ _ | with_reducible apply below_alloc | with_reducible apply below_drew1 | with_reducible apply below_drewN | (with_reducible apply below_step; with_reducible assumption) | (with_reducible apply below_sg2; (first | exact Nat.le_refl _ | (simp; done) | omega)))))
  by_cases h1 : (n : Int) < at_
  · have HP := hide (show p = ⟨0, 0, [], 0, 1⟩ by rw [hp, recParse, if_pos (.inr (by omega))])
    clear hp hn
    go_enter Try.func138, Try.ntmps138
    go_wp2_with fail
    exact bodyPost_ret (v := .tuple #[.agg #[.int .i64 0, .int .u32 0, .slice none 0 0], .int .i64 0, .int .i64 1]) (by simp [results, Try.results138, go_sem]) rfl (parseR_no p 1 HP.out (by repeat' (first | with_reducible assumption | with_reducible exact Below.refl _ _ | with_reducible apply below_alloc | with_reducible apply below_drew1 | with_reducible apply below_drewN | (with_reducible apply below_step; with_reducible assumption) | (with_reducible apply below_sg2; (first | exact Nat.le_refl _ | (simp; done) | omega)))))
  obtain ⟨k, rfl⟩ := Int.eq_ofNat_of_zero_le (show 0 ≤ at_ by omega)
  have hk : k ≤ n := by omega
  rw [recParse_at l k (by omega)] at hp
  have hxl : (l.drop k).length = n - k := by simp; omega
  have hsx := hs.cut1 (k := k) (c := c) (by simp; omega)
  rw [← List.map_drop] at hsx
  have hcut := fun W => cut_b A n c k (k : Int) .i64 rfl hk hc W
  have hm : n - k ≤ 35184372088832 := by omega
  have hmc : n - k ≤ c - k := by omega
  have hkm : k + (n - k) ≤ 35184372088832 := by omega
  generalize cutA A c k 1 = X at *
  generalize l.drop k = x at *
  have hmn : (n : Int) - k = ((n - k : Nat) : Int) := by omega
  generalize n - k = m at *
  generalize c - k = mc at *
  by_cases h13 : m < 13
  · have HP := hide (show p = ⟨0, 0, [], 0, 2⟩ by rw [hp, recAt_short (by omega)])
    clear hp hn hxl
    go_enter Try.func138, Try.ntmps138
    go_wp2_with fail
    exact bodyPost_ret (v := .tuple #[.agg #[.int .i64 0, .int .u32 0, .slice none 0 0], .int .i64 0, .int .i64 2]) (by simp [results, Try.results138, go_sem]) rfl (parseR_no p 2 HP.out (by repeat' (first | with_reducible assumption | with_reducible exact Below.refl _ _ | with_reducible apply below_alloc | with_reducible apply below_drew1 | with_reducible apply below_drewN | (with_reducible apply below_step; with_reducible assumption) | (with_reducible apply below_sg2; (first | exact Nat.le_refl _ | (simp; done) | omega)))))
  obtain ⟨bx, ox, rfl, hc0⟩ := hsx.byte_ (j := 0) (by omega)
  obtain ⟨y0, hy0⟩ : ∃ y, y = (x[0]'(by omega)).toNat := ⟨_, rfl⟩
  rw [← hy0, Nat.add_zero] at hc0
  have hg0 := getD_byte x 0 (by omega)
  rw [← hy0] at hg0
  have ly0 : y0 ≤ 255 := by rw [hy0]; have := (x[0]'(by omega)).toNat_lt; omega
  have zx := lt_of_cell hc0
  simp only [] at zx
  clear hy0
  by_cases h87 : y0 = 87
  case neg =>
    have HP := hide (show p = ⟨0, 0, [], 0, 4⟩ by rw [hp, recAt_letter (by omega) (by omega)])
    have hb87 : ((y0 : Int) != 87) = true := by simp; omega
    clear hp hn hxl hg0 h87
    go_enter Try.func138, Try.ntmps138
    go_wp2_with fail
    exact bodyPost_ret (v := .tuple #[.agg #[.int .i64 0, .int .u32 0, .slice none 0 0], .int .i64 0, .int .i64 4]) (by simp [results, Try.results138, go_sem]) rfl (parseR_no p 4 HP.out (by repeat' (first | with_reducible assumption | with_reducible exact Below.refl _ _ | with_reducible apply below_alloc | with_reducible apply below_drew1 | with_reducible apply below_drewN | (with_reducible apply below_step; with_reducible assumption) | (with_reducible apply below_sg2; (first | exact Nat.le_refl _ | (simp; done) | omega)))))
  subst h87
  have hx1 := recX1_le x
  have hx2 := recX2_le x
  have hx3 := recX3_le x
  have HG1 := hide (fun W (h : Sl W (some ⟨bx, ox, none⟩) (x.map bv)) => (rget_ok (some ⟨bx, ox, none⟩) m mc x 6 2 W hxl.symm hmc (by omega) (by omega) (by omega) (by omega) (by omega) h).mono fun e w' (h : e = .returned (.tuple #[.int .u64 (recX3 x : Nat), .int .i64 0]) ∧ W = w') => h)
  have HG2 := hide (fun W (h : Sl W (some ⟨bx, ox, none⟩) (x.map bv)) => (rget_ok (some ⟨bx, ox, none⟩) m mc x 2 4 W hxl.symm hmc (by omega) (by omega) (by omega) (by omega) (by omega) h).mono fun e w' (h : e = .returned (.tuple #[.int .u64 (recX2 x : Nat), .int .i64 0]) ∧ W = w') => h)
  obtain ⟨b1, o1, hA1, hc1⟩ := hsx.byte_ (j := 1) (by omega)
  injection hA1 with hA1
  injection hA1 with q1 q2
  subst q1
  subst q2
  rw [show ((x[1]'(by omega)).toNat) = recX1 x from (recX1_at x (by omega)).symm] at hc1
  have i3 : ((8 : Int) + recX3 x) = 8 + (recX3 x : Int) := rfl
  by_cases hf : fitsR (recX1 x) (recX2 x) (recX3 x) = true
  case neg =>
    have hf : fitsR (recX1 x) (recX2 x) (recX3 x) = false := by simpa using hf
    have HP := hide (show p = ⟨0, 0, [], 0, 4⟩ by rw [hp, recAt_fits (by omega) hg0 hf])
    clear hp hn hxl hg0
    have hcase := fits_no (recX1 x) (recX2 x) (recX3 x) hf
    clear hf
    rcases hcase with ⟨e1, e2⟩ | ⟨e1, e2⟩ | ⟨e1, e2, e3⟩ | ⟨e1, e2, e3⟩ | ⟨e1, e2, e3, e4⟩ | ⟨e1, e2, e3, e4, e5, e6, e7⟩
    all_goals
      go_enter Try.func138, Try.ntmps138
      go_wp2_with fail
      refine (HG1.out _ (hsx.alloc _)).mono ?_
      rintro e w1 ⟨rfl, rfl⟩
      go_wp2_with fail
      refine (HG2.out _ (hsx.alloc _)).mono ?_
      rintro e w1 ⟨rfl, rfl⟩
      go_wp2_with fail
      exact bodyPost_ret (v := .tuple #[.agg #[.int .i64 0, .int .u32 0, .slice none 0 0], .int .i64 0, .int .i64 4]) (by simp [results, Try.results138, go_sem]) rfl (parseR_no p 4 HP.out (by repeat' (first | with_reducible assumption | with_reducible exact Below.refl _ _ | with_reducible apply below_alloc | with_reducible apply below_drew1 | with_reducible apply below_drewN | (with_reducible apply below_step; with_reducible assumption) | (with_reducible apply below_sg2; (first | exact Nat.le_refl _ | (simp; done) | omega)))))
  by_cases hlt : m < recX3 x + 13
  · have HP := hide (show p = ⟨0, 0, [], 0, 2⟩ by rw [hp, recAt_less (by omega) hg0 hf (by omega)])
    have hlt' : (m : Int) < recX3 x + 13 := by omega
    clear hp hn hxl hg0
    have hcase := fits_yes (recX1 x) (recX2 x) (recX3 x) hf
    clear hf
    rcases hcase with ⟨e1, e2, e3, e4, e5⟩ | ⟨e1, e2, e3, e4, e5, e6, e7, e8⟩
    all_goals
      go_enter Try.func138, Try.ntmps138
      go_wp2_with fail
      refine (HG1.out _ (hsx.alloc _)).mono ?_
      rintro e w1 ⟨rfl, rfl⟩
      go_wp2_with fail
      refine (HG2.out _ (hsx.alloc _)).mono ?_
      rintro e w1 ⟨rfl, rfl⟩
      go_wp2_with fail
      exact bodyPost_ret (v := .tuple #[.agg #[.int .i64 0, .int .u32 0, .slice none 0 0], .int .i64 0, .int .i64 2]) (by simp [results, Try.results138, go_sem]) rfl (parseR_no p 2 HP.out (by repeat' (first | with_reducible assumption | with_reducible exact Below.refl _ _ | with_reducible apply below_alloc | with_reducible apply below_drew1 | with_reducible apply below_drewN | (with_reducible apply below_step; with_reducible assumption) | (with_reducible apply below_sg2; (first | exact Nat.le_refl _ | (simp; done) | omega)))))
  have hge : (recX3 x : Int) + 13 ≤ m := by omega
  have HO := hide (fun W (h : Sl W (some ⟨bx, ox, none⟩) (x.map bv)) => rsum_open (some ⟨bx, ox, none⟩) (recX3 x + 12) mc (x.take (recX3 x + 12)) W (by simp; omega) (by omega) (by omega) (by rw [List.map_take]; exact h.take _))
  have hld : ((x.drop 8).take (recX3 x)).length = recX3 x := by simp; omega
  have hsd : Sl w (some ⟨bx, ox + 8, none⟩) (((x.drop 8).take (recX3 x)).map bv) := by
    have := hsx.cutA (k := 8) (c := mc) (s := 1) (by simp; omega) (by omega)
    simp only [Go.Proofs.Ytfddfgonhgidbaa.cutA, if_neg (show ¬ mc = 8 by omega), Option.map_some, Addr.add_lit] at this
    rw [List.map_take, List.map_drop]
    exact this.take _
  have HJ := hide (fun W (h : Sl W (some ⟨bx, ox + 8, none⟩) (((x.drop 8).take (recX3 x)).map bv)) => join_any none (some ⟨bx, ox + 8, none⟩) 0 (recX3 x) 0 (mc - 8) [] ((x.drop 8).take (recX3 x)) W rfl hld.symm (by omega) (by omega) (Sl.nil _ _) h)
  have HLD := hide hld
  obtain ⟨b9, o9, hA9, hc9⟩ := hsx.byte_ (j := recX3 x + 12) (by omega)
  injection hA9 with hA9
  injection hA9 with q1 q2
  subst q1
  subst q2
  obtain ⟨y9, hy9⟩ : ∃ y, y = (x[recX3 x + 12]'(by omega)).toNat := ⟨_, rfl⟩
  rw [← hy9] at hc9
  have hg9 := getD_byte x (recX3 x + 12) (by omega)
  rw [← hy9] at hg9
  have ly9 : y9 ≤ 255 := by rw [hy9]; have := (x[recX3 x + 12]'(by omega)).toNat_lt; omega
  clear hy9 hld
  rcases openE_val (x.take (recX3 x + 12)) (by simp; omega) with he | he
  case inr =>
    have HP := hide (show p = ⟨0, 0, [], 0, 5⟩ by rw [hp, recAt_sum (by omega) hg0 hf (by omega) (by rw [he]; decide)])
    clear hp hn hxl hg0 hg9
    have hcase := fits_yes (recX1 x) (recX2 x) (recX3 x) hf
    clear hf
    rcases hcase with ⟨e1, e2, e3, e4, e5⟩ | ⟨e1, e2, e3, e4, e5, e6, e7, e8⟩
    all_goals
      go_enter Try.func138, Try.ntmps138
      go_wp2_with fail
      refine (HG1.out _ (hsx.alloc _)).mono ?_
      rintro e w1 ⟨rfl, rfl⟩
      go_wp2_with fail
      refine (HG2.out _ (hsx.alloc _)).mono ?_
      rintro e w1 ⟨rfl, rfl⟩
      go_wp2_with fail
      refine (HJ.out _ ((hsd.alloc _).alloc _)).mono ?_
      rintro e w1 ⟨A1, n1, c1, rfl, hO1, hb1⟩
      have hN1 := hide hO1.hn
      have hR1 := (blk_two w 39 39 #[.int .i64 0, .int .u32 0, .slice none 0 0] #[.int .i64 (recX1 x : Nat), .int .u32 (recX2 x : Nat), .slice none 0 0]).1.below hb1 (by simp; omega)
      have hX1 := (blk_two w 39 39 #[.int .i64 0, .int .u32 0, .slice none 0 0] #[.int .i64 (recX1 x : Nat), .int .u32 (recX2 x : Nat), .slice none 0 0]).2.below hb1 (by simp)
      have hbw1 := below_step hb1 (below_alloc (below_alloc (Below.refl w.heap.size w) _) _)
      have z1 := hX1.lt
      have hX2 := hX1.set_ 2 (.slice A1 n1 c1)
      have hR2 := hR1.far (p := ⟨w.heap.size + 1, 2, none⟩) (by simp) (.slice A1 n1 c1)
      have hbw2 := hbw1.setCell (p := ⟨w.heap.size + 1, 2, none⟩) (by simp) (.slice A1 n1 c1)
      have hO2 := hO1.set_ (p := ⟨w.heap.size + 1, 2, none⟩) (by simp) (.slice A1 n1 c1)
      have x2 := hX1.cell 2 rfl
      have g2 := hX1.frozen 2
      have HH := hide (And.intro hX2 (And.intro hR2 (And.intro hbw2 hO2)))
      clear hX2 hR2 hbw2 hO2 hR1 hX1 hO1 hb1
      go_wp2_with fail
      generalize w1.setCell ⟨w.heap.size + 1, 2, none⟩ (.slice A1 n1 c1) = W at *
      obtain ⟨hX2, hR2, hbw2, hO2⟩ := HH.out
      clear HH x2 g2
      refine (HO.out _ (hsx.below hbw2)).mono ?_
      rintro e w3 ⟨A3, n3, c3, d3, rfl, hO3, _, hb3⟩
      have hR3 := hR2.below hb3 hR2.lt
      have hX3 := hX2.below hb3 hX2.lt
      have hO4 := hO2.below hb3
      have hbw3 := below_step hb3 hbw2
      have z3 := hX3.lt
      have r0 := hR3.cell 0 rfl
      have r1 := hR3.cell 1 rfl
      have r2 := hR3.cell 2 rfl
      have f0 := hR3.frozen 0
      have f1 := hR3.frozen 1
      have f2 := hR3.frozen 2
      have x0 := hX3.cell 0 rfl
      have x1 := hX3.cell 1 rfl
      have x2 := hX3.cell 2 rfl
      have c9 := (hbw3.cell (p := ⟨bx, ox + (recX3 x + 12), none⟩) zx).trans hc9
      go_wp2_with fail
      exact bodyPost_ret (v := .tuple #[.agg #[.int .i64 0, .int .u32 0, .slice none 0 0], .int .i64 0, .int .i64 5]) (by simp [results, Try.results138, go_sem, r0, r1, r2, f0, f1, f2]) rfl (parseR_no p 5 HP.out (by repeat' (first | with_reducible assumption | with_reducible exact Below.refl _ _ | with_reducible apply below_alloc | with_reducible apply below_drew1 | with_reducible apply below_drewN | (with_reducible apply below_step; with_reducible assumption) | (with_reducible apply below_sg2; (first | exact Nat.le_refl _ | (simp; done) | omega)))))
  by_cases h9 : y9 = 0
  case neg =>
    have HP := hide (show p = ⟨0, 0, [], 0, 8⟩ by rw [hp, recAt_none (by omega) hg0 hf (by omega) he (by omega)])
    have h9' : ((y9 : Int) != 0) = true := by simp; omega
    clear hp hn hxl hg0 hg9 h9
    have hcase := fits_yes (recX1 x) (recX2 x) (recX3 x) hf
    clear hf
    rcases hcase with ⟨e1, e2, e3, e4, e5⟩ | ⟨e1, e2, e3, e4, e5, e6, e7, e8⟩
    all_goals
      go_enter Try.func138, Try.ntmps138
      go_wp2_with fail
      refine (HG1.out _ (hsx.alloc _)).mono ?_
      rintro e w1 ⟨rfl, rfl⟩
      go_wp2_with fail
      refine (HG2.out _ (hsx.alloc _)).mono ?_
      rintro e w1 ⟨rfl, rfl⟩
      go_wp2_with fail
      refine (HJ.out _ ((hsd.alloc _).alloc _)).mono ?_
      rintro e w1 ⟨A1, n1, c1, rfl, hO1, hb1⟩
      have hN1 := hide hO1.hn
      have hR1 := (blk_two w 39 39 #[.int .i64 0, .int .u32 0, .slice none 0 0] #[.int .i64 (recX1 x : Nat), .int .u32 (recX2 x : Nat), .slice none 0 0]).1.below hb1 (by simp; omega)
      have hX1 := (blk_two w 39 39 #[.int .i64 0, .int .u32 0, .slice none 0 0] #[.int .i64 (recX1 x : Nat), .int .u32 (recX2 x : Nat), .slice none 0 0]).2.below hb1 (by simp)
      have hbw1 := below_step hb1 (below_alloc (below_alloc (Below.refl w.heap.size w) _) _)
      have z1 := hX1.lt
      have hX2 := hX1.set_ 2 (.slice A1 n1 c1)
      have hR2 := hR1.far (p := ⟨w.heap.size + 1, 2, none⟩) (by simp) (.slice A1 n1 c1)
      have hbw2 := hbw1.setCell (p := ⟨w.heap.size + 1, 2, none⟩) (by simp) (.slice A1 n1 c1)
      have hO2 := hO1.set_ (p := ⟨w.heap.size + 1, 2, none⟩) (by simp) (.slice A1 n1 c1)
      have x2 := hX1.cell 2 rfl
      have g2 := hX1.frozen 2
      have HH := hide (And.intro hX2 (And.intro hR2 (And.intro hbw2 hO2)))
      clear hX2 hR2 hbw2 hO2 hR1 hX1 hO1 hb1
      go_wp2_with fail
      generalize w1.setCell ⟨w.heap.size + 1, 2, none⟩ (.slice A1 n1 c1) = W at *
      obtain ⟨hX2, hR2, hbw2, hO2⟩ := HH.out
      clear HH x2 g2
      refine (HO.out _ (hsx.below hbw2)).mono ?_
      rintro e w3 ⟨A3, n3, c3, d3, rfl, hO3, _, hb3⟩
      have hR3 := hR2.below hb3 hR2.lt
      have hX3 := hX2.below hb3 hX2.lt
      have hO4 := hO2.below hb3
      have hbw3 := below_step hb3 hbw2
      have z3 := hX3.lt
      have r0 := hR3.cell 0 rfl
      have r1 := hR3.cell 1 rfl
      have r2 := hR3.cell 2 rfl
      have f0 := hR3.frozen 0
      have f1 := hR3.frozen 1
      have f2 := hR3.frozen 2
      have x0 := hX3.cell 0 rfl
      have x1 := hX3.cell 1 rfl
      have x2 := hX3.cell 2 rfl
      have c9 := (hbw3.cell (p := ⟨bx, ox + (recX3 x + 12), none⟩) zx).trans hc9
      go_wp2_with fail
      exact bodyPost_ret (v := .tuple #[.agg #[.int .i64 0, .int .u32 0, .slice none 0 0], .int .i64 0, .int .i64 8]) (by simp [results, Try.results138, go_sem, r0, r1, r2, f0, f1, f2]) rfl (parseR_no p 8 HP.out (by repeat' (first | with_reducible assumption | with_reducible exact Below.refl _ _ | with_reducible apply below_alloc | with_reducible apply below_drew1 | with_reducible apply below_drewN | (with_reducible apply below_step; with_reducible assumption) | (with_reducible apply below_sg2; (first | exact Nat.le_refl _ | (simp; done) | omega)))))
  subst h9
  have HP := hide (show p = ⟨recX1 x, recX2 x, (x.drop 8).take (recX3 x), (k : Int) + recX3 x + 13, 0⟩ by rw [hp, recAt_ok (by omega) hg0 hf (by omega) he (by omega)])
  clear hp hn hxl hg0 hg9
  have hcase := fits_yes (recX1 x) (recX2 x) (recX3 x) hf
  clear hf
  rcases hcase with ⟨e1, e2, e3, e4, e5⟩ | ⟨e1, e2, e3, e4, e5, e6, e7, e8⟩
  all_goals
    go_enter Try.func138, Try.ntmps138
    go_wp2_with fail
    refine (HG1.out _ (hsx.alloc _)).mono ?_
    rintro e w1 ⟨rfl, rfl⟩
    go_wp2_with fail
    refine (HG2.out _ (hsx.alloc _)).mono ?_
    rintro e w1 ⟨rfl, rfl⟩
    go_wp2_with fail
    refine (HJ.out _ ((hsd.alloc _).alloc _)).mono ?_
    rintro e w1 ⟨A1, n1, c1, rfl, hO1, hb1⟩
    have hN1 := hide hO1.hn
    have hR1 := (blk_two w 39 39 #[.int .i64 0, .int .u32 0, .slice none 0 0] #[.int .i64 (recX1 x : Nat), .int .u32 (recX2 x : Nat), .slice none 0 0]).1.below hb1 (by simp; omega)
    have hX1 := (blk_two w 39 39 #[.int .i64 0, .int .u32 0, .slice none 0 0] #[.int .i64 (recX1 x : Nat), .int .u32 (recX2 x : Nat), .slice none 0 0]).2.below hb1 (by simp)
    have hbw1 := below_step hb1 (below_alloc (below_alloc (Below.refl w.heap.size w) _) _)
    have z1 := hX1.lt
    have hX2 := hX1.set_ 2 (.slice A1 n1 c1)
    have hR2 := hR1.far (p := ⟨w.heap.size + 1, 2, none⟩) (by simp) (.slice A1 n1 c1)
    have hbw2 := hbw1.setCell (p := ⟨w.heap.size + 1, 2, none⟩) (by simp) (.slice A1 n1 c1)
    have hO2 := hO1.set_ (p := ⟨w.heap.size + 1, 2, none⟩) (by simp) (.slice A1 n1 c1)
    have x2 := hX1.cell 2 rfl
    have g2 := hX1.frozen 2
    have HH := hide (And.intro hX2 (And.intro hR2 (And.intro hbw2 hO2)))
    clear hX2 hR2 hbw2 hO2 hR1 hX1 hO1 hb1
    go_wp2_with fail
    generalize w1.setCell ⟨w.heap.size + 1, 2, none⟩ (.slice A1 n1 c1) = W at *
    obtain ⟨hX2, hR2, hbw2, hO2⟩ := HH.out
    clear HH x2 g2
    refine (HO.out _ (hsx.below hbw2)).mono ?_
    rintro e w3 ⟨A3, n3, c3, d3, rfl, hO3, _, hb3⟩
    have hR3 := hR2.below hb3 hR2.lt
    have hX3 := hX2.below hb3 hX2.lt
    have hO4 := hO2.below hb3
    have hbw3 := below_step hb3 hbw2
    have z3 := hX3.lt
    have r0 := hR3.cell 0 rfl
    have r1 := hR3.cell 1 rfl
    have r2 := hR3.cell 2 rfl
    have f0 := hR3.frozen 0
    have f1 := hR3.frozen 1
    have f2 := hR3.frozen 2
    have x0 := hX3.cell 0 rfl
    have x1 := hX3.cell 1 rfl
    have x2 := hX3.cell 2 rfl
    have c9 := (hbw3.cell (p := ⟨bx, ox + (recX3 x + 12), none⟩) zx).trans hc9
    go_wp2_with fail
    have hRf := ((hR3.set_ 0 (.int .i64 (recX1 x : Nat))).set_ 1 (.int .u32 (recX2 x : Nat))).set_ 2 (.slice A1 n1 c1)
    have hbf := ((hbw3.setCell (p := ⟨w.heap.size, 0, none⟩) (by simp) (.int .i64 (recX1 x : Nat))).setCell (p := ⟨w.heap.size, 1, none⟩) (by simp) (.int .u32 (recX2 x : Nat))).setCell (p := ⟨w.heap.size, 2, none⟩) (by simp) (.slice A1 n1 c1)
    have hOf := (((hO4.set_ (p := ⟨w.heap.size, 0, none⟩) (by simp; omega) (.int .i64 (recX1 x : Nat))).set_ (p := ⟨w.heap.size, 1, none⟩) (by simp; omega) (.int .u32 (recX2 x : Nat))).set_ (p := ⟨w.heap.size, 2, none⟩) (by simp; omega) (.slice A1 n1 c1)).mono (B' := w.heap.size) (by simp; omega)
    have d0 := hRf.cell 0 rfl
    have d1 := hRf.cell 1 rfl
    have d2 := hRf.cell 2 rfl
    refine bodyPost_ret (v := .tuple #[.agg #[.int .i64 (recX1 x : Nat), .int .u32 (recX2 x : Nat), .slice A1 n1 c1], .int .i64 ((k : Int) + (recX3 x : Nat) + 13), .int .i64 0]) (by simp [results, Try.results138, go_sem, d0, d1, d2]) rfl ?_
    have hp := HP.out
    subst hp
    exact ⟨A1, n1, c1, rfl, hOf, hbf⟩
end Go.Proofs.Ytfddfgonhgidbaa
