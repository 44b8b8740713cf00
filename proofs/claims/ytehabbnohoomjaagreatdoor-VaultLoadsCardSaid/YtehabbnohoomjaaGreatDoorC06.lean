/- Package record: Parse. -/
import Derived.Test.YtehabbnohoomjaaGreatDoorC05
namespace Go.Proofs.YtehabbnohoomjaaGreatDoor
section
set_option linter.unusedVariables false
set_option linter.unusedSimpArgs false
set_option linter.unnecessarySimpa false
open Go.RowKit
set_option maxRecDepth 20000
set_option maxHeartbeats 400000
attribute [local go_sem ↓] Go.wp_at_zero Go.wp_at_succ

structure PR where
  kind : Int
  num : Nat
  data : List UInt8
  to : Int
  er : Int
def recX1 (x : List UInt8) : Nat := leN ((x.drop 1).take 1)
def recX2 (x : List UInt8) : Nat := leN ((x.drop 2).take 4)
def recX3 (x : List UInt8) : Nat := leN ((x.drop 6).take 2)
def recAt (x : List UInt8) (at_ : Int) : PR :=
  if x.length < 13 then ⟨0, 0, [], 0, 2⟩ else
  if (x.getD 0 0).toNat ≠ 87 then ⟨0, 0, [], 0, 4⟩ else
  if fitsR (recX1 x) (recX2 x) (recX3 x) = false then ⟨0, 0, [], 0, 4⟩ else
  if x.length < recX3 x + 13 then ⟨0, 0, [], 0, 2⟩ else
  if openE (x.take (recX3 x + 12)) ≠ 0 then ⟨0, 0, [], 0, 5⟩ else
  if (x.getD (recX3 x + 12) 0).toNat ≠ 0 then ⟨0, 0, [], 0, 8⟩ else
  ⟨recX1 x, recX2 x, (x.drop 8).take (recX3 x), at_ + recX3 x + 13, 0⟩
def recParse (l : List UInt8) (at_ : Int) : PR :=
  if at_ < 0 ∨ (l.length : Int) < at_ then ⟨0, 0, [], 0, 1⟩ else recAt (l.drop at_.toNat) at_

theorem recX1_le (x : List UInt8) : recX1 x ≤ 255 := by
  have h := leN_lt ((x.drop 1).take 1)
  have h2 : ((x.drop 1).take 1).length ≤ 1 := by simp; omega
  have h3 : 256 ^ ((x.drop 1).take 1).length ≤ 256 ^ 1 := Nat.pow_le_pow_right (by omega) h2
  unfold recX1; omega
theorem recX2_le (x : List UInt8) : recX2 x ≤ 4294967295 := by
  have h := leN_lt ((x.drop 2).take 4)
  have h2 : ((x.drop 2).take 4).length ≤ 4 := by simp; omega
  have h3 : 256 ^ ((x.drop 2).take 4).length ≤ 256 ^ 4 := Nat.pow_le_pow_right (by omega) h2
  unfold recX2; omega
theorem recX3_le (x : List UInt8) : recX3 x ≤ 65535 := by
  have h := leN_lt ((x.drop 6).take 2)
  have h2 : ((x.drop 6).take 2).length ≤ 2 := by simp; omega
  have h3 : 256 ^ ((x.drop 6).take 2).length ≤ 256 ^ 2 := Nat.pow_le_pow_right (by omega) h2
  unfold recX3; omega
theorem openE_val (l : List UInt8) (h : 4 ≤ l.length) : openE l = 0 ∨ openE l = 5 := by
  unfold openE
  rw [if_neg (by omega)]
  split <;> simp
theorem recParse_at (l : List UInt8) (k : Nat) (hk : k ≤ l.length) : recParse l (k : Int) = recAt (l.drop k) k := by
  rw [recParse, if_neg (by omega)]; rfl
section
variable {x : List UInt8} {at_ : Int}
theorem recAt_short (h : x.length < 13) : recAt x at_ = ⟨0, 0, [], 0, 2⟩ := by rw [recAt, if_pos h]
theorem recAt_letter (h : 13 ≤ x.length) (h0 : (x.getD 0 0).toNat ≠ 87) : recAt x at_ = ⟨0, 0, [], 0, 4⟩ := by rw [recAt, if_neg (by omega), if_pos h0]
theorem recAt_fits (h : 13 ≤ x.length) (h0 : (x.getD 0 0).toNat = 87) (hf : fitsR (recX1 x) (recX2 x) (recX3 x) = false) : recAt x at_ = ⟨0, 0, [], 0, 4⟩ := by
  rw [recAt, if_neg (by omega), if_neg (by omega), if_pos hf]
theorem recAt_less (h : 13 ≤ x.length) (h0 : (x.getD 0 0).toNat = 87) (hf : fitsR (recX1 x) (recX2 x) (recX3 x) = true) (h1 : x.length < recX3 x + 13) : recAt x at_ = ⟨0, 0, [], 0, 2⟩ := by
  rw [recAt, if_neg (by omega), if_neg (by omega), if_neg (by simp [hf]), if_pos h1]
theorem recAt_sum (h : 13 ≤ x.length) (h0 : (x.getD 0 0).toNat = 87) (hf : fitsR (recX1 x) (recX2 x) (recX3 x) = true) (h1 : recX3 x + 13 ≤ x.length) (h2 : openE (x.take (recX3 x + 12)) ≠ 0) :
    recAt x at_ = ⟨0, 0, [], 0, 5⟩ := by
  rw [recAt, if_neg (by omega), if_neg (by omega), if_neg (by simp [hf]), if_neg (by omega), if_pos h2]
theorem recAt_none (h : 13 ≤ x.length) (h0 : (x.getD 0 0).toNat = 87) (hf : fitsR (recX1 x) (recX2 x) (recX3 x) = true) (h1 : recX3 x + 13 ≤ x.length) (h2 : openE (x.take (recX3 x + 12)) = 0)
    (h3 : (x.getD (recX3 x + 12) 0).toNat ≠ 0) : recAt x at_ = ⟨0, 0, [], 0, 8⟩ := by
  rw [recAt, if_neg (by omega), if_neg (by omega), if_neg (by simp [hf]), if_neg (by omega), if_neg (by simp [h2]), if_pos h3]
theorem recAt_ok (h : 13 ≤ x.length) (h0 : (x.getD 0 0).toNat = 87) (hf : fitsR (recX1 x) (recX2 x) (recX3 x) = true) (h1 : recX3 x + 13 ≤ x.length) (h2 : openE (x.take (recX3 x + 12)) = 0)
    (h3 : (x.getD (recX3 x + 12) 0).toNat = 0) : recAt x at_ = ⟨recX1 x, recX2 x, (x.drop 8).take (recX3 x), at_ + recX3 x + 13, 0⟩ := by
  rw [recAt, if_neg (by omega), if_neg (by omega), if_neg (by simp [hf]), if_neg (by omega), if_neg (by simp [h2]), if_neg (by omega)]
end
/-- what Parse answers -/
def ParseR (p : PR) (w : World) (e : Ending) (w' : World) : Prop :=
  ∃ A' n' c', e = .returned (.tuple #[.agg #[.int .i64 p.kind, .int .u32 (p.num : Nat), .slice A' n' c'], .int .i64 p.to, .int .i64 p.er]) ∧ OwnB w' w.heap.size A' n' c' p.data ∧ Below w.heap.size w w'
theorem parseR_no (p : PR) (er : Int) (hp : p = ⟨0, 0, [], 0, er⟩) {w w' : World} (hb : Below w.heap.size w w') :
    ParseR p w (.returned (.tuple #[.agg #[.int .i64 0, .int .u32 0, .slice none 0 0], .int .i64 0, .int .i64 er])) w' := by
  subst hp
  exact ⟨none, 0, 0, rfl, OwnB.nil _ _, hb⟩
theorem getD_byte (x : List UInt8) (j : Nat) (h : j < x.length) : (x.getD j 0).toNat = (x[j]).toNat := by
  rw [List.getD_eq_getElem?_getD, List.getElem?_eq_getElem h]; rfl

theorem rec_parse (A : Option Addr) (n c : Nat) (at_ : Int) (l : List UInt8) (w : World) (p : PR) (hp : p = recParse l at_) (hn : n = l.length) (hc : n ≤ c) (hl : n ≤ 35184372088832) (hs : Sl w A (l.map bv)) :
    Calls Tryz.prog 148 #[.slice A n c, .int .i64 at_] w (ParseR p w) := by
  by_cases h0 : at_ < 0
  · have HP := hide (show p = ⟨0, 0, [], 0, 1⟩ by rw [hp, recParse, if_pos (.inl h0)])
    clear hp hn
    go_enter Tryz.func148, Tryz.ntmps148
    go_wp2_with fail
    exact bodyPost_ret (v := .tuple #[.agg #[.int .i64 0, .int .u32 0, .slice none 0 0], .int .i64 0, .int .i64 1]) (by simp [results, Tryz.results148, go_sem]) rfl (parseR_no p 1 HP.out (by repeat' (first | with_reducible assumption | with_reducible exact Below.refl _ _ | with_reducible apply below_alloc | with_reducible apply below_drew1 | with_reducible apply below_drewN | (with_reducible apply below_step; with_reducible assumption) | (with_reducible apply below_sg2; (first | exact Nat.le_refl _ | (simp; done) | omega)))))
  by_cases h1 : (n : Int) < at_
  · have HP := hide (show p = ⟨0, 0, [], 0, 1⟩ by rw [hp, recParse, if_pos (.inr (by omega))])
    clear hp hn
    go_enter Tryz.func148, Tryz.ntmps148
    go_wp2_with fail
    exact bodyPost_ret (v := .tuple #[.agg #[.int .i64 0, .int .u32 0, .slice none 0 0], .int .i64 0, .int .i64 1]) (by simp [results, Tryz.results148, go_sem]) rfl (parseR_no p 1 HP.out (by repeat' (first | with_reducible assumption | with_reducible exact Below.refl _ _ | with_reducible apply below_alloc | with_reducible apply below_drew1 | with_reducible apply below_drewN | (with_reducible apply below_step; with_reducible assumption) | (with_reducible apply below_sg2; (first | exact Nat.le_refl _ | (simp; done) | omega)))))
  obtain ⟨k, rfl⟩ := Int.eq_ofNat_of_zero_le (show 0 ≤ at_ by omega)
  have hk : k ≤ n := by omega
  rw [recParse_at l k (by omega)] at hp
  have hxl : (l.drop k).length = n - k := by simp; omega
  have hsx := hs.cut1 (k := k) (c := c) (by simp; omega)
  rw [← List.map_drop] at hsx
  have hcut := fun W => cut_b A n c k (k : Int) .i64 rfl hk hc W
  have hm : n - k ≤ 35184372088832 := by omega
  have hmc : n - k ≤ c - k := by omega
  have hkm : k + (n - k) ≤ 35184372088832 := by omega
  generalize cutA A c k 1 = X at *
  generalize l.drop k = x at *
  generalize n - k = m at *
  generalize c - k = mc at *
  by_cases h13 : m < 13
  · have HP := hide (show p = ⟨0, 0, [], 0, 2⟩ by rw [hp, recAt_short (by omega)])
    clear hp hn hxl
    have hlt : (m : Int) < 13 := by omega
    go_enter Tryz.func148, Tryz.ntmps148
    go_wp2_with fail
    exact bodyPost_ret (v := .tuple #[.agg #[.int .i64 0, .int .u32 0, .slice none 0 0], .int .i64 0, .int .i64 2]) (by simp [results, Tryz.results148, go_sem]) rfl (parseR_no p 2 HP.out (by repeat' (first | with_reducible assumption | with_reducible exact Below.refl _ _ | with_reducible apply below_alloc | with_reducible apply below_drew1 | with_reducible apply below_drewN | (with_reducible apply below_step; with_reducible assumption) | (with_reducible apply below_sg2; (first | exact Nat.le_refl _ | (simp; done) | omega)))))
  obtain ⟨bx, ox, rfl, hc0⟩ := hsx.byte_ (j := 0) (by omega)
  obtain ⟨y0, hy0⟩ : ∃ y, y = (x[0]'(by omega)).toNat := ⟨_, rfl⟩
  rw [← hy0, Nat.add_zero] at hc0
  have hg0 := getD_byte x 0 (by omega)
  rw [← hy0] at hg0
  have ly0 : y0 ≤ 255 := by rw [hy0]; have := (x[0]'(by omega)).toNat_lt; omega
  have zx := lt_of_cell hc0
  simp only [] at zx
  clear hy0
  by_cases h87 : y0 = 87
  case neg =>
    have HP := hide (show p = ⟨0, 0, [], 0, 4⟩ by rw [hp, recAt_letter (by omega) (by omega)])
    have hb87 : ((y0 : Int) != 87) = true := by simp; omega
    clear hp hn hxl hg0 h87
    go_enter Tryz.func148, Tryz.ntmps148
    go_wp2_with fail
    exact bodyPost_ret (v := .tuple #[.agg #[.int .i64 0, .int .u32 0, .slice none 0 0], .int .i64 0, .int .i64 4]) (by simp [results, Tryz.results148, go_sem]) rfl (parseR_no p 4 HP.out (by repeat' (first | with_reducible assumption | with_reducible exact Below.refl _ _ | with_reducible apply below_alloc | with_reducible apply below_drew1 | with_reducible apply below_drewN | (with_reducible apply below_step; with_reducible assumption) | (with_reducible apply below_sg2; (first | exact Nat.le_refl _ | (simp; done) | omega)))))
  subst h87
  have hx1 := recX1_le x
  have hx2 := recX2_le x
  have hx3 := recX3_le x
  have HF := hide (fun W (h : Sl W (some ⟨bx, ox, none⟩) (x.map bv)) => rec_front (some ⟨bx, ox, none⟩) m mc x W _ _ _ hxl.symm hmc (by omega) (by omega) h (show recX1 x = _ from rfl) (show recX2 x = _ from rfl) (show recX3 x = _ from rfl) hx1 hx2 hx3)
  by_cases hf : fitsR (recX1 x) (recX2 x) (recX3 x) = true
  case neg =>
    have hf : fitsR (recX1 x) (recX2 x) (recX3 x) = false := by simpa using hf
    have HP := hide (show p = ⟨0, 0, [], 0, 4⟩ by rw [hp, recAt_fits (by omega) hg0 hf])
    clear hp hn hxl hg0
    go_enter Tryz.func148, Tryz.ntmps148
    go_wp2_with fail
    refine (HF.out _ (hsx.alloc _)).mono ?_
    rintro e w1 ⟨rfl, hb1⟩
    have hR1 := (blk_one w 92 #[.int .i64 0, .int .u32 0, .slice none 0 0]).below hb1 (by simp)
    have hbw1 := below_step hb1 (below_alloc (Below.refl w.heap.size w) _)
    have z1 := hR1.lt
    go_wp2_with fail
    refine (rec_fits none (recX1 x) (recX2 x) 0 0 (recX3 x) _).mono ?_
    rintro e w2 ⟨rfl, hb2⟩
    have hR2 := (hR1.alloc (.cells #[.int .i64 (recX1 x : Nat), .int .u32 (recX2 x : Nat), .slice none 0 0] 92)).below hb2 (by simp; omega)
    have hX2 := (blk_one w1 92 #[.int .i64 (recX1 x : Nat), .int .u32 (recX2 x : Nat), .slice none 0 0]).below hb2 (by simp)
    have hbw2 := below_step hb2 (below_alloc hbw1 _)
    have z2 := hX2.lt
    have r0 := hR2.cell 0 rfl
    have r1 := hR2.cell 1 rfl
    have r2 := hR2.cell 2 rfl
    have f0 := hR2.frozen 0
    have f1 := hR2.frozen 1
    have f2 := hR2.frozen 2
    go_wp2_with fail
    exact bodyPost_ret (v := .tuple #[.agg #[.int .i64 0, .int .u32 0, .slice none 0 0], .int .i64 0, .int .i64 4]) (by simp [results, Tryz.results148, go_sem, r0, r1, r2, f0, f1, f2]) rfl (parseR_no p 4 HP.out (by repeat' (first | with_reducible assumption | with_reducible exact Below.refl _ _ | with_reducible apply below_alloc | with_reducible apply below_drew1 | with_reducible apply below_drewN | (with_reducible apply below_step; with_reducible assumption) | (with_reducible apply below_sg2; (first | exact Nat.le_refl _ | (simp; done) | omega)))))
  by_cases hlt : m < recX3 x + 13
  · have HP := hide (show p = ⟨0, 0, [], 0, 2⟩ by rw [hp, recAt_less (by omega) hg0 hf (by omega)])
    have hlt' : (m : Int) < recX3 x + 13 := by omega
    clear hp hn hxl hg0
    go_enter Tryz.func148, Tryz.ntmps148
    go_wp2_with fail
    refine (HF.out _ (hsx.alloc _)).mono ?_
    rintro e w1 ⟨rfl, hb1⟩
    have hR1 := (blk_one w 92 #[.int .i64 0, .int .u32 0, .slice none 0 0]).below hb1 (by simp)
    have hbw1 := below_step hb1 (below_alloc (Below.refl w.heap.size w) _)
    have z1 := hR1.lt
    go_wp2_with fail
    refine (rec_fits none (recX1 x) (recX2 x) 0 0 (recX3 x) _).mono ?_
    rintro e w2 ⟨rfl, hb2⟩
    have hR2 := (hR1.alloc (.cells #[.int .i64 (recX1 x : Nat), .int .u32 (recX2 x : Nat), .slice none 0 0] 92)).below hb2 (by simp; omega)
    have hX2 := (blk_one w1 92 #[.int .i64 (recX1 x : Nat), .int .u32 (recX2 x : Nat), .slice none 0 0]).below hb2 (by simp)
    have hbw2 := below_step hb2 (below_alloc hbw1 _)
    have z2 := hX2.lt
    have r0 := hR2.cell 0 rfl
    have r1 := hR2.cell 1 rfl
    have r2 := hR2.cell 2 rfl
    have f0 := hR2.frozen 0
    have f1 := hR2.frozen 1
    have f2 := hR2.frozen 2
    go_wp2_with fail
    exact bodyPost_ret (v := .tuple #[.agg #[.int .i64 0, .int .u32 0, .slice none 0 0], .int .i64 0, .int .i64 2]) (by simp [results, Tryz.results148, go_sem, r0, r1, r2, f0, f1, f2]) rfl (parseR_no p 2 HP.out (by repeat' (first | with_reducible assumption | with_reducible exact Below.refl _ _ | with_reducible apply below_alloc | with_reducible apply below_drew1 | with_reducible apply below_drewN | (with_reducible apply below_step; with_reducible assumption) | (with_reducible apply below_sg2; (first | exact Nat.le_refl _ | (simp; done) | omega)))))
  have hge : (recX3 x : Int) + 13 ≤ m := by omega
  have HO := hide (fun W (h : Sl W (some ⟨bx, ox, none⟩) (x.map bv)) => sum_open (some ⟨bx, ox, none⟩) (8 + recX3 x + 4) mc (x.take (recX3 x + 12)) W (by simp; omega) (by omega) (by omega) (by rw [List.map_take]; exact h.take _))
  obtain ⟨b9, o9, hA9, hc9⟩ := hsx.byte_ (j := 8 + recX3 x + 4) (by omega)
  injection hA9 with hA9
  injection hA9 with q1 q2
  subst q1
  subst q2
  obtain ⟨y9, hy9⟩ : ∃ y, y = (x[8 + recX3 x + 4]'(by omega)).toNat := ⟨_, rfl⟩
  rw [← hy9] at hc9
  have hg9 := getD_byte x (8 + recX3 x + 4) (by omega)
  rw [← hy9, show 8 + recX3 x + 4 = recX3 x + 12 by omega] at hg9
  have ly9 : y9 ≤ 255 := by rw [hy9]; have := (x[8 + recX3 x + 4]'(by omega)).toNat_lt; omega
  clear hy9
  rcases openE_val (x.take (recX3 x + 12)) (by simp; omega) with he | he
  case inr =>
    have HP := hide (show p = ⟨0, 0, [], 0, 5⟩ by rw [hp, recAt_sum (by omega) hg0 hf (by omega) (by rw [he]; decide)])
    clear hp hn hxl hg0 hg9
    go_enter Tryz.func148, Tryz.ntmps148
    go_wp2_with fail
    refine (HF.out _ (hsx.alloc _)).mono ?_
    rintro e w1 ⟨rfl, hb1⟩
    have hR1 := (blk_one w 92 #[.int .i64 0, .int .u32 0, .slice none 0 0]).below hb1 (by simp)
    have hbw1 := below_step hb1 (below_alloc (Below.refl w.heap.size w) _)
    have z1 := hR1.lt
    go_wp2_with fail
    refine (rec_fits none (recX1 x) (recX2 x) 0 0 (recX3 x) _).mono ?_
    rintro e w2 ⟨rfl, hb2⟩
    have hR2 := (hR1.alloc (.cells #[.int .i64 (recX1 x : Nat), .int .u32 (recX2 x : Nat), .slice none 0 0] 92)).below hb2 (by simp; omega)
    have hX2 := (blk_one w1 92 #[.int .i64 (recX1 x : Nat), .int .u32 (recX2 x : Nat), .slice none 0 0]).below hb2 (by simp)
    have hbw2 := below_step hb2 (below_alloc hbw1 _)
    have z2 := hX2.lt
    have r0 := hR2.cell 0 rfl
    have r1 := hR2.cell 1 rfl
    have r2 := hR2.cell 2 rfl
    have f0 := hR2.frozen 0
    have f1 := hR2.frozen 1
    have f2 := hR2.frozen 2
    go_wp2_with fail
    refine (HO.out _ (hsx.below hbw2)).mono ?_
    rintro e w3 ⟨A3, n3, c3, d3, rfl, hO3, _, hb3⟩
    have hR3 := hR2.below hb3 (by omega)
    have hX3 := hX2.below hb3 (by omega)
    have hbw3 := below_step hb3 hbw2
    have z3 := hX3.lt
    clear r0 r1 r2 f0 f1 f2
    have r0 := hR3.cell 0 rfl
    have r1 := hR3.cell 1 rfl
    have r2 := hR3.cell 2 rfl
    have f0 := hR3.frozen 0
    have f1 := hR3.frozen 1
    have f2 := hR3.frozen 2
    have x0 := hX3.cell 0 rfl
    have x1 := hX3.cell 1 rfl
    have x2 := hX3.cell 2 rfl
    have g2 := hX3.frozen 2
    have c9 := (hbw3.cell (p := ⟨bx, ox + (8 + recX3 x + 4), none⟩) zx).trans hc9
    go_wp2_with fail
    exact bodyPost_ret (v := .tuple #[.agg #[.int .i64 0, .int .u32 0, .slice none 0 0], .int .i64 0, .int .i64 5]) (by simp [results, Tryz.results148, go_sem, r0, r1, r2, f0, f1, f2]) rfl (parseR_no p 5 HP.out (by repeat' (first | with_reducible assumption | with_reducible exact Below.refl _ _ | with_reducible apply below_alloc | with_reducible apply below_drew1 | with_reducible apply below_drewN | (with_reducible apply below_step; with_reducible assumption) | (with_reducible apply below_sg2; (first | exact Nat.le_refl _ | (simp; done) | omega)))))
  by_cases h9 : y9 = 0
  case neg =>
    have HP := hide (show p = ⟨0, 0, [], 0, 8⟩ by rw [hp, recAt_none (by omega) hg0 hf (by omega) he (by omega)])
    have h9' : ((y9 : Int) != 0) = true := by simp; omega
    clear hp hn hxl hg0 hg9 h9
    go_enter Tryz.func148, Tryz.ntmps148
    go_wp2_with fail
    refine (HF.out _ (hsx.alloc _)).mono ?_
    rintro e w1 ⟨rfl, hb1⟩
    have hR1 := (blk_one w 92 #[.int .i64 0, .int .u32 0, .slice none 0 0]).below hb1 (by simp)
    have hbw1 := below_step hb1 (below_alloc (Below.refl w.heap.size w) _)
    have z1 := hR1.lt
    go_wp2_with fail
    refine (rec_fits none (recX1 x) (recX2 x) 0 0 (recX3 x) _).mono ?_
    rintro e w2 ⟨rfl, hb2⟩
    have hR2 := (hR1.alloc (.cells #[.int .i64 (recX1 x : Nat), .int .u32 (recX2 x : Nat), .slice none 0 0] 92)).below hb2 (by simp; omega)
    have hX2 := (blk_one w1 92 #[.int .i64 (recX1 x : Nat), .int .u32 (recX2 x : Nat), .slice none 0 0]).below hb2 (by simp)
    have hbw2 := below_step hb2 (below_alloc hbw1 _)
    have z2 := hX2.lt
    have r0 := hR2.cell 0 rfl
    have r1 := hR2.cell 1 rfl
    have r2 := hR2.cell 2 rfl
    have f0 := hR2.frozen 0
    have f1 := hR2.frozen 1
    have f2 := hR2.frozen 2
    go_wp2_with fail
    refine (HO.out _ (hsx.below hbw2)).mono ?_
    rintro e w3 ⟨A3, n3, c3, d3, rfl, hO3, _, hb3⟩
    have hR3 := hR2.below hb3 (by omega)
    have hX3 := hX2.below hb3 (by omega)
    have hbw3 := below_step hb3 hbw2
    have z3 := hX3.lt
    clear r0 r1 r2 f0 f1 f2
    have r0 := hR3.cell 0 rfl
    have r1 := hR3.cell 1 rfl
    have r2 := hR3.cell 2 rfl
    have f0 := hR3.frozen 0
    have f1 := hR3.frozen 1
    have f2 := hR3.frozen 2
    have x0 := hX3.cell 0 rfl
    have x1 := hX3.cell 1 rfl
    have x2 := hX3.cell 2 rfl
    have g2 := hX3.frozen 2
    have c9 := (hbw3.cell (p := ⟨bx, ox + (8 + recX3 x + 4), none⟩) zx).trans hc9
    go_wp2_with fail
    exact bodyPost_ret (v := .tuple #[.agg #[.int .i64 0, .int .u32 0, .slice none 0 0], .int .i64 0, .int .i64 8]) (by simp [results, Tryz.results148, go_sem, r0, r1, r2, f0, f1, f2]) rfl (parseR_no p 8 HP.out (by repeat' (first | with_reducible assumption | with_reducible exact Below.refl _ _ | with_reducible apply below_alloc | with_reducible apply below_drew1 | with_reducible apply below_drewN | (with_reducible apply below_step; with_reducible assumption) | (with_reducible apply below_sg2; (first | exact Nat.le_refl _ | (simp; done) | omega)))))
  subst h9
  have HP := hide (show p = ⟨recX1 x, recX2 x, (x.drop 8).take (recX3 x), (k : Int) + recX3 x + 13, 0⟩ by rw [hp, recAt_ok (by omega) hg0 hf (by omega) he (by omega)])
  have hcut2 := fun W => cut2_b (some ⟨bx, ox, none⟩) m mc 8 (8 + recX3 x) 8 (8 + (recX3 x : Int)) .i64 .i64 rfl (by omega) (by omega) (by omega) W
  rw [show 8 + recX3 x - 8 = recX3 x by omega] at hcut2
  have HLD := hide (show ((x.drop 8).take (recX3 x)).length = recX3 x by simp; omega)
  have hsd : Sl w (cutA (some ⟨bx, ox, none⟩) mc 8 1) (((x.drop 8).take (recX3 x)).map bv) := by
    rw [List.map_take, List.map_drop]
    exact (hsx.cut1 (by simp; omega)).take _
  clear hp hn hxl hg0 hg9
  go_enter Tryz.func148, Tryz.ntmps148
  go_wp2_with fail
  refine (HF.out _ (hsx.alloc _)).mono ?_
  rintro e w1 ⟨rfl, hb1⟩
  have hR1 := (blk_one w 92 #[.int .i64 0, .int .u32 0, .slice none 0 0]).below hb1 (by simp)
  have hbw1 := below_step hb1 (below_alloc (Below.refl w.heap.size w) _)
  have z1 := hR1.lt
  go_wp2_with fail
  refine (rec_fits none (recX1 x) (recX2 x) 0 0 (recX3 x) _).mono ?_
  rintro e w2 ⟨rfl, hb2⟩
  have hR2 := (hR1.alloc (.cells #[.int .i64 (recX1 x : Nat), .int .u32 (recX2 x : Nat), .slice none 0 0] 92)).below hb2 (by simp; omega)
  have hX2 := (blk_one w1 92 #[.int .i64 (recX1 x : Nat), .int .u32 (recX2 x : Nat), .slice none 0 0]).below hb2 (by simp)
  have hbw2 := below_step hb2 (below_alloc hbw1 _)
  have z2 := hX2.lt
  have r0 := hR2.cell 0 rfl
  have r1 := hR2.cell 1 rfl
  have r2 := hR2.cell 2 rfl
  have f0 := hR2.frozen 0
  have f1 := hR2.frozen 1
  have f2 := hR2.frozen 2
  go_wp2_with fail
  refine (HO.out _ (hsx.below hbw2)).mono ?_
  rintro e w3 ⟨A3, n3, c3, d3, rfl, hO3, _, hb3⟩
  have hR3 := hR2.below hb3 (by omega)
  have hX3 := hX2.below hb3 (by omega)
  have hbw3 := below_step hb3 hbw2
  have z3 := hX3.lt
  clear r0 r1 r2 f0 f1 f2
  have r0 := hR3.cell 0 rfl
  have r1 := hR3.cell 1 rfl
  have r2 := hR3.cell 2 rfl
  have f0 := hR3.frozen 0
  have f1 := hR3.frozen 1
  have f2 := hR3.frozen 2
  have x0 := hX3.cell 0 rfl
  have x1 := hX3.cell 1 rfl
  have x2 := hX3.cell 2 rfl
  have g2 := hX3.frozen 2
  have c9 := (hbw3.cell (p := ⟨bx, ox + (8 + recX3 x + 4), none⟩) zx).trans hc9
  go_wp2_with (at_builtin; refine app_b _ rfl (.const (.slice none 0 0)) (.tmp 77) rfl w3.heap.size _ _ _ _ rfl (OwnB.nil _ _) _ _ _ ((x.drop 8).take (recX3 x)) rfl HLD.out.symm (hsd.below hbw3) (by omega) (Nat.le_refl _) (recX3 x) (by omega) ?_; intro A4 c4 w4 hO4 hg4 _ hb4; have hR4 := hR3.grown hg4 (by simp [Value.ownBlock]); have hX4 := hX3.grown hg4 (by simp [Value.ownBlock]); clear r0 r1 r2 f0 f1 f2 x0 x1 x2 g2; have r0 := hR4.cell 0 rfl; have r1 := hR4.cell 1 rfl; have r2 := hR4.cell 2 rfl; have f0 := hR4.frozen 0; have f1 := hR4.frozen 1; have f2 := hR4.frozen 2; have x0 := hX4.cell 0 rfl; have x1 := hX4.cell 1 rfl; have x2 := hX4.cell 2 rfl; have g2 := hX4.frozen 2)
  have hRf := ((hR4.far (p := ⟨w1.heap.size, 2, none⟩) (by simp; omega) (.slice A4 (recX3 x) c4)).set_ 0 (.int .i64 (recX1 x : Nat))).set_ 1 (.int .u32 (recX2 x : Nat)) |>.set_ 2 (.slice A4 (recX3 x) c4)
  have hbw4 : Below w.heap.size w w4 := below_step hb4 hbw3
  have hbf := (((hbw4.setCell (p := ⟨w1.heap.size, 2, none⟩) (by simp; omega) (.slice A4 (recX3 x) c4)).setCell (p := ⟨w.heap.size, 0, none⟩) (by simp) (.int .i64 (recX1 x : Nat))).setCell (p := ⟨w.heap.size, 1, none⟩) (by simp) (.int .u32 (recX2 x : Nat))).setCell (p := ⟨w.heap.size, 2, none⟩) (by simp) (.slice A4 (recX3 x) c4)
  have hOf := ((((hO4.set_ (p := ⟨w1.heap.size, 2, none⟩) (by simp; omega) (.slice A4 (recX3 x) c4)).set_ (p := ⟨w.heap.size, 0, none⟩) (by simp; omega) (.int .i64 (recX1 x : Nat))).set_ (p := ⟨w.heap.size, 1, none⟩) (by simp; omega) (.int .u32 (recX2 x : Nat))).set_ (p := ⟨w.heap.size, 2, none⟩) (by simp; omega) (.slice A4 (recX3 x) c4)).mono (B' := w.heap.size) (by omega)
  have d0 := hRf.cell 0 rfl
  have d1 := hRf.cell 1 rfl
  have d2 := hRf.cell 2 rfl
  refine bodyPost_ret (v := .tuple #[.agg #[.int .i64 (recX1 x : Nat), .int .u32 (recX2 x : Nat), .slice A4 (recX3 x) c4], .int .i64 ((k : Int) + (recX3 x : Nat) + 13), .int .i64 0]) (by simp [results, Tryz.results148, go_sem, d0, d1, d2]) rfl ?_
  have hp := HP.out
  subst hp
  exact ⟨A4, recX3 x, c4, rfl, hOf, hbf⟩
end
end Go.Proofs.YtehabbnohoomjaaGreatDoor
namespace Go.Proofs.YtehabbnohoomjaaGreatDoor
section
set_option linter.unusedVariables false
set_option linter.unusedSimpArgs false
set_option linter.unnecessarySimpa false
open Go.RowKit
set_option maxRecDepth 20000
set_option maxHeartbeats 1000000
attribute [local go_sem ↓] Go.wp_at_zero Go.wp_at_succ
end
end Go.Proofs.YtehabbnohoomjaaGreatDoor
