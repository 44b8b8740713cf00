/- Packages sector and its reference: what a sector's bytes hold. -/
import Derived.Test.YtehabbnohoomjaaGreatDoorC07
namespace Go.Proofs.YtehabbnohoomjaaGreatDoor
section
set_option linter.unusedVariables false
set_option linter.unusedSimpArgs false
set_option linter.unnecessarySimpa false
open Go.RowKit
set_option maxRecDepth 20000
set_option maxHeartbeats 4000000
attribute [local go_sem ↓] Go.wp_at_zero Go.wp_at_succ

/-- what a sector holds -/
structure LK where
  k : Int
  m : Nat
  d : List UInt8
  cnt : Nat
  en : Nat
  cl : Bool
def stopB (x : LK) (p : PR) : Bool := decide (p.er ≠ 0) || (decide (0 < x.cnt) && (decide (x.m = 4294967295) || decide (p.num ≠ x.m + 1)))
def lookF (l : List UInt8) : Nat → LK → LK
  | 0, x => x
  | f + 1, x => if stopB x (recParse l x.en) = true then x else
    lookF l f ⟨(recParse l x.en).kind, (recParse l x.en).num, (recParse l x.en).data, x.cnt + 1, x.en + (recParse l x.en).data.length + 13, false⟩
def lookZ : LK := ⟨0, 0, [], 0, 0, false⟩
def lookE (l : List UInt8) : LK := lookF l l.length lookZ
def lookL (l : List UInt8) : LK := ⟨(lookE l).k, (lookE l).m, (lookE l).d, (lookE l).cnt, (lookE l).en, blankB (l.drop (lookE l).en)⟩
theorem look_stop {l : List UInt8} {f : Nat} {x : LK} (h : stopB x (recParse l x.en) = true) : lookF l f x = x := by
  cases f with
  | zero => rfl
  | succ f => rw [lookF, if_pos h]
theorem look_go {l : List UInt8} {f : Nat} {x : LK} (h : stopB x (recParse l x.en) = false) :
    lookF l (f + 1) x = lookF l f ⟨(recParse l x.en).kind, (recParse l x.en).num, (recParse l x.en).data, x.cnt + 1, x.en + (recParse l x.en).data.length + 13, false⟩ := by rw [lookF, if_neg (by rw [h]; decide)]
/-- how far Parse has come, if it answers OK -/
theorem parse_to (l : List UInt8) (en : Nat) (h : (recParse l en).er = 0) : (recParse l en).to = ((en + (recParse l en).data.length + 13 : Nat) : Int) ∧ en + (recParse l en).data.length + 13 ≤ l.length ∧ U32 (recParse l en).num := by
  obtain ⟨hu, hr, h0, h1, h2, h3, h4⟩ := parse_build_rec l en _ rfl h
  exact ⟨by rw [h4]; push_cast; omega, by omega, hu⟩
theorem cell_meas {w : World} {g : Nat} {t : TypeId} {cs : Array Value} (h : Blk w g t cs) (i : Nat) {u : Value} (hu : cs[i]? = some u) : (w.cell? ⟨g, i, none⟩).getD undef = u := by rw [h.cell i hu]; rfl
def LookR (x : LK) (w : World) (e : Ending) (w' : World) : Prop :=
  ∃ A' n' c', e = .returned (.agg #[.int .i64 x.k, .int .u32 (x.m : Nat), .slice A' n' c', .int .i64 (x.cnt : Nat), .int .i64 (x.en : Nat), .bool x.cl]) ∧ OwnB w' w.heap.size A' n' c' x.d ∧ Below w.heap.size w w'
theorem u32_succ {m : Nat} (h : U32 m) (h2 : m ≠ 4294967295) : ((m : Int) + 1) % 4294967296 = ((m + 1 : Nat) : Int) := by unfold U32 at h; omega

theorem sec_of (A : Option Addr) (n c : Nat) (l : List UInt8) (w : World) (hn : n = l.length) (hc : n ≤ c) (hl : n ≤ 35184372088832) (hs : Sl w A (l.map bv)) :
    Calls Tryz.prog 121 #[.slice A n c] w (LookR (lookL l) w) := by
  have HN := hide hn
  clear hn
  go_enter Tryz.func121, Tryz.ntmps121
  go_wp2_with fail
  go_step3
  go_wp2_with fail
  go_step3
  go_wp2_with fail
  go_loopw [4, 5, 6, 7] (fun _ _ _ _ wr => ∃ x A' n' c' f, Blk wr (w.heap.size + 1) 131 #[.int .i64 x.k, .int .u32 (x.m : Nat), .slice A' n' c', .int .i64 (x.cnt : Nat), .int .i64 (x.en : Nat), .bool false] ∧ OwnB wr (w.heap.size + 1 + 1) A' n' c' x.d ∧
      Blk wr w.heap.size 131 #[.int .i64 0, .int .u32 0, .slice none 0 0, .int .i64 0, .int .i64 0, .bool false] ∧ Hid (lookE l = lookF l f x ∧ n ≤ f + x.en) ∧ x.en ≤ n ∧ x.cnt ≤ x.en ∧ U32 x.m ∧ Below w.heap.size w wr)
    (fun _ _ _ _ wr => n - (intOf ((wr.cell? ⟨w.heap.size + 1, 4, none⟩).getD undef)).toNat)
  case atStart =>
    exact ⟨lookZ, none, 0, 0, l.length, (blk_two _ _ _ _ _).2, OwnB.nil _ _, (blk_two _ _ _ _ _).1, hide ⟨rfl, by have := HN.out; omega⟩, by show 0 ≤ n; omega, Nat.le_refl _, by show 0 < _; decide, below_alloc (below_alloc (Below.refl _ _) _) _⟩
  case round =>
    obtain ⟨x, A', n', c', f, hB, hO, hR, HX, hen, hcn, hux, hbr⟩ := hrel
    obtain ⟨p, hp⟩ : ∃ p, p = recParse l x.en := ⟨_, rfl⟩
    obtain ⟨pk, pm, pd, pto, per⟩ := p
    have x0 := hB.cell 0 rfl
    have x1 := hB.cell 1 rfl
    have x2 := hB.cell 2 rfl
    have x3 := hB.cell 3 rfl
    have x4 := hB.cell 4 rfl
    have x5 := hB.cell 5 rfl
    have zB := hB.lt
    have zR := hR.lt
    have hcut := fun W => cut_b A n c x.en (x.en : Int) .i64 rfl hen hc W
    have HBL := hide (fun W (h : Sl W A (l.map bv)) => rec_blank (cutA A c x.en 1) (n - x.en) (c - x.en) (l.drop x.en) W (by have := HN.out; simp; omega) (by omega) (by rw [List.map_drop]; exact h.cut1 (by have := HN.out; simp; omega)))
    by_cases her : per = 0
    case neg =>
      have her' : (per != 0) = true := by simpa using her
      have HP := hide hp
      have hstop : stopB x ⟨pk, pm, pd, pto, per⟩ = true := by simp [stopB, her]
      clear hp her
      have HL := hide (show lookE l = x by rw [HX.out.1]; exact look_stop (by rw [← HP.out]; exact hstop))
      have HLL := hide (show lookL l = ⟨x.k, x.m, x.d, x.cnt, x.en, blankB (l.drop x.en)⟩ by unfold lookL; rw [HL.out])
      clear hstop
      go_wp2_with fail
      refine (rec_parse A n c (x.en : Nat) l wr _ HP.out HN.out hc hl (hs.below hbr)).mono ?_
      rintro e w1 ⟨A1, n1, c1, rfl, hO1, hb1⟩
      simp only [] at hO1 ⊢
      have hB1 := (hB.below hb1 zB).alloc (.cells #[.int .i64 pk, .int .u32 (pm : Nat), .slice A1 n1 c1] 92)
      have hR1 := (hR.below hb1 zR).alloc (.cells #[.int .i64 pk, .int .u32 (pm : Nat), .slice A1 n1 c1] 92)
      have hO2 := (hO.below hb1).alloc (.cells #[.int .i64 pk, .int .u32 (pm : Nat), .slice A1 n1 c1] 92)
      have hbw2 := below_alloc (below_step hb1 hbr) (.cells #[.int .i64 pk, .int .u32 (pm : Nat), .slice A1 n1 c1] 92)
      have zr1 := hb1.size
      have y0 := hB1.cell 0 rfl
      have y1 := hB1.cell 1 rfl
      have y2 := hB1.cell 2 rfl
      have y3 := hB1.cell 3 rfl
      have y4 := hB1.cell 4 rfl
      have y5 := hB1.cell 5 rfl
      have g0 := hB1.frozen 5
      have r0 := hR1.cell 0 rfl
      have r1 := hR1.cell 1 rfl
      have r2 := hR1.cell 2 rfl
      have r3 := hR1.cell 3 rfl
      have r4 := hR1.cell 4 rfl
      have r5 := hR1.cell 5 rfl
      have f0 := hR1.frozen 0
      have f1 := hR1.frozen 1
      have f2 := hR1.frozen 2
      have f3 := hR1.frozen 3
      have f4 := hR1.frozen 4
      have f5 := hR1.frozen 5
      clear x0 x1 x2 x3 x4 x5
      go_wp2_with fail
      refine (HBL.out _ (hs.below hbw2)).mono ?_
      rintro e w3 ⟨rfl, rfl⟩
      go_wp2_with fail
      have hRf := (((((((hR1.far (p := ⟨w.heap.size + 1, 5, none⟩) (by simp) (.bool (blankB (l.drop x.en)))).set_ 0 (.int .i64 x.k)).set_ 1 (.int .u32 (x.m : Nat))).set_ 2 (.slice A' n' c')).set_ 3 (.int .i64 (x.cnt : Nat))).set_ 4 (.int .i64 (x.en : Nat))).set_ 5 (.bool (blankB (l.drop x.en))))
      have d0 := hRf.cell 0 rfl
      have d1 := hRf.cell 1 rfl
      have d2 := hRf.cell 2 rfl
      have d3 := hRf.cell 3 rfl
      have d4 := hRf.cell 4 rfl
      have d5 := hRf.cell 5 rfl
      have hOf := ((((((hO2.set_ (p := ⟨w.heap.size + 1, 5, none⟩) (by simp) (.bool (blankB (l.drop x.en)))).set_ (p := ⟨w.heap.size, 0, none⟩) (by simp; omega) (.int .i64 x.k)).set_ (p := ⟨w.heap.size, 1, none⟩) (by simp; omega) (.int .u32 (x.m : Nat))).set_ (p := ⟨w.heap.size, 2, none⟩) (by simp; omega) (.slice A' n' c')).set_ (p := ⟨w.heap.size, 3, none⟩) (by simp; omega) (.int .i64 (x.cnt : Nat))).set_ (p := ⟨w.heap.size, 4, none⟩) (by simp; omega) (.int .i64 (x.en : Nat))).set_ (p := ⟨w.heap.size, 5, none⟩) (by simp; omega) (.bool (blankB (l.drop x.en)))
      refine bodyPost_ret (v := .agg #[.int .i64 x.k, .int .u32 (x.m : Nat), .slice A' n' c', .int .i64 (x.cnt : Nat), .int .i64 (x.en : Nat), .bool (blankB (l.drop x.en))]) (by simp [results, Tryz.results121, go_sem, d0, d1, d2, d3, d4, d5]) rfl ?_
      rw [HLL.out]
      exact ⟨A', n', c', rfl, hOf.mono (by omega), by repeat' (first | with_reducible assumption | with_reducible exact Below.refl _ _ | with_reducible apply below_alloc | with_reducible apply below_drew1 | with_reducible apply below_drewN | (with_reducible apply below_step; with_reducible assumption) | (with_reducible apply below_sg2; (first | exact Nat.le_refl _ | (simp; done) | omega)))⟩
    subst her
    have HP := hide hp
    have HT := hide (show x.en + 13 ≤ n by have h1 := (parse_to l x.en (by rw [← hp])).2.1; have := HN.out; omega)
    clear hp
    by_cases h0 : x.cnt = 0
    · have hd0 : decide ((0 : Int) < (x.cnt : Int)) = false := by simp; omega
      have hd0' : decide (0 < x.cnt) = false := by simp; omega
      have hstop : stopB x ⟨pk, pm, pd, pto, 0⟩ = false := by simp [stopB, h0]
      clear h0
      obtain ⟨t, ht⟩ : ∃ t, t = x.en + pd.length + 13 := ⟨_, rfl⟩
      obtain ⟨ht1, ht2, ht3⟩ := parse_to l x.en (by rw [← HP.out])
      rw [← HP.out] at ht1 ht2 ht3
      simp only [] at ht1 ht2 ht3
      rw [← ht] at ht1 ht2
      subst ht1
      obtain ⟨f', rfl⟩ : ∃ f', f = f' + 1 := ⟨f - 1, by have := HX.out.2; have := HT.out; omega⟩
      have HL := hide (show lookE l = lookF l f' ⟨pk, pm, pd, x.cnt + 1, t, false⟩ ∧ n ≤ f' + t by
        refine ⟨?_, by have := HX.out.2; omega⟩
        rw [HX.out.1, look_go (by rw [← HP.out]; exact hstop), ← HP.out, ht])
      have htx : x.en < t := by omega
      have HTT := hide ht
      clear hstop ht
      go_wp2_with fail
      refine (rec_parse A n c (x.en : Nat) l wr _ HP.out HN.out hc hl (hs.below hbr)).mono ?_
      rintro e w1 ⟨A1, n1, c1, rfl, hO1, hb1⟩
      simp only [] at hO1 ⊢
      have hB1 := (hB.below hb1 zB).alloc (.cells #[.int .i64 pk, .int .u32 (pm : Nat), .slice A1 n1 c1] 92)
      have hR1 := (hR.below hb1 zR).alloc (.cells #[.int .i64 pk, .int .u32 (pm : Nat), .slice A1 n1 c1] 92)
      have hO2 := (hO1.mono (B' := w.heap.size + 1 + 1) (by omega)).alloc (.cells #[.int .i64 pk, .int .u32 (pm : Nat), .slice A1 n1 c1] 92)
      have hbw2 := below_alloc (below_step hb1 hbr) (.cells #[.int .i64 pk, .int .u32 (pm : Nat), .slice A1 n1 c1] 92)
      have zr1 := hb1.size
      have y0 := hB1.cell 0 rfl
      have y1 := hB1.cell 1 rfl
      have y2 := hB1.cell 2 rfl
      have y3 := hB1.cell 3 rfl
      have y4 := hB1.cell 4 rfl
      have g0 := hB1.frozen 0
      have g1 := hB1.frozen 1
      have g2 := hB1.frozen 2
      have g3 := hB1.frozen 3
      have g4 := hB1.frozen 4
      clear x0 x1 x2 x3 x4 x5
      go_wp2_with fail
      go_roundw
      case rel => exact ⟨⟨pk, pm, pd, x.cnt + 1, t, false⟩, A1, n1, c1, f', (((((hB1.set_ 0 (.int .i64 pk)).set_ 1 (.int .u32 (pm : Nat))).set_ 2 (.slice A1 n1 c1)).set_ 4 (.int .i64 (t : Nat))).set_ 3 (.int .i64 ((x.cnt : Int) + 1))), (((((hO2.set_ (p := ⟨w.heap.size + 1, 0, none⟩) (by simp) (.int .i64 pk)).set_ (p := ⟨w.heap.size + 1, 1, none⟩) (by simp) (.int .u32 (pm : Nat))).set_ (p := ⟨w.heap.size + 1, 2, none⟩) (by simp) (.slice A1 n1 c1)).set_ (p := ⟨w.heap.size + 1, 4, none⟩) (by simp) (.int .i64 (t : Nat))).set_ (p := ⟨w.heap.size + 1, 3, none⟩) (by simp) (.int .i64 ((x.cnt : Int) + 1))), (((((hR1.far (p := ⟨w.heap.size + 1, 0, none⟩) (by simp) (.int .i64 pk)).far (p := ⟨w.heap.size + 1, 1, none⟩) (by simp) (.int .u32 (pm : Nat))).far (p := ⟨w.heap.size + 1, 2, none⟩) (by simp) (.slice A1 n1 c1)).far (p := ⟨w.heap.size + 1, 4, none⟩) (by simp) (.int .i64 (t : Nat))).far (p := ⟨w.heap.size + 1, 3, none⟩) (by simp) (.int .i64 ((x.cnt : Int) + 1))), HL.out, by have := HN.out; simp only []; omega, by simp only []; omega, ht3, by repeat' (first | with_reducible assumption | with_reducible exact Below.refl _ _ | with_reducible apply below_alloc | with_reducible apply below_drew1 | with_reducible apply below_drewN | (with_reducible apply below_step; with_reducible assumption) | (with_reducible apply below_sg2; (first | exact Nat.le_refl _ | (simp; done) | omega)))⟩
      case measure =>
        rw [cell_meas (u := .int .i64 (t : Nat)) (((((hB1.set_ 0 (.int .i64 pk)).set_ 1 (.int .u32 (pm : Nat))).set_ 2 (.slice A1 n1 c1)).set_ 4 (.int .i64 (t : Nat))).set_ 3 (.int .i64 ((x.cnt : Int) + 1))) 4 rfl, cell_meas (u := .int .i64 (x.en : Nat)) hB 4 rfl]
        simp only [intOf]
        have := HN.out
        omega
    have hd0 : decide ((0 : Int) < (x.cnt : Int)) = true := by simp; omega
    have hd0' : decide (0 < x.cnt) = true := by simp; omega
    by_cases h1 : x.m = 4294967295
    · have hm1 : ((x.m : Int) == 4294967295) = true := by simp; omega
      have hstop : stopB x ⟨pk, pm, pd, pto, 0⟩ = true := by simp [stopB, h1]; omega
      clear h1 h0
      have HL := hide (show lookE l = x by rw [HX.out.1]; exact look_stop (by rw [← HP.out]; exact hstop))
      have HLL := hide (show lookL l = ⟨x.k, x.m, x.d, x.cnt, x.en, blankB (l.drop x.en)⟩ by unfold lookL; rw [HL.out])
      clear hstop
      go_wp2_with fail
      refine (rec_parse A n c (x.en : Nat) l wr _ HP.out HN.out hc hl (hs.below hbr)).mono ?_
      rintro e w1 ⟨A1, n1, c1, rfl, hO1, hb1⟩
      simp only [] at hO1 ⊢
      have hB1 := (hB.below hb1 zB).alloc (.cells #[.int .i64 pk, .int .u32 (pm : Nat), .slice A1 n1 c1] 92)
      have hR1 := (hR.below hb1 zR).alloc (.cells #[.int .i64 pk, .int .u32 (pm : Nat), .slice A1 n1 c1] 92)
      have hO2 := (hO.below hb1).alloc (.cells #[.int .i64 pk, .int .u32 (pm : Nat), .slice A1 n1 c1] 92)
      have hbw2 := below_alloc (below_step hb1 hbr) (.cells #[.int .i64 pk, .int .u32 (pm : Nat), .slice A1 n1 c1] 92)
      have zr1 := hb1.size
      have y0 := hB1.cell 0 rfl
      have y1 := hB1.cell 1 rfl
      have y2 := hB1.cell 2 rfl
      have y3 := hB1.cell 3 rfl
      have y4 := hB1.cell 4 rfl
      have y5 := hB1.cell 5 rfl
      have g0 := hB1.frozen 5
      have r0 := hR1.cell 0 rfl
      have r1 := hR1.cell 1 rfl
      have r2 := hR1.cell 2 rfl
      have r3 := hR1.cell 3 rfl
      have r4 := hR1.cell 4 rfl
      have r5 := hR1.cell 5 rfl
      have f0 := hR1.frozen 0
      have f1 := hR1.frozen 1
      have f2 := hR1.frozen 2
      have f3 := hR1.frozen 3
      have f4 := hR1.frozen 4
      have f5 := hR1.frozen 5
      clear x0 x1 x2 x3 x4 x5
      go_wp2_with fail
      refine (HBL.out _ (hs.below hbw2)).mono ?_
      rintro e w3 ⟨rfl, rfl⟩
      go_wp2_with fail
      have hRf := (((((((hR1.far (p := ⟨w.heap.size + 1, 5, none⟩) (by simp) (.bool (blankB (l.drop x.en)))).set_ 0 (.int .i64 x.k)).set_ 1 (.int .u32 (x.m : Nat))).set_ 2 (.slice A' n' c')).set_ 3 (.int .i64 (x.cnt : Nat))).set_ 4 (.int .i64 (x.en : Nat))).set_ 5 (.bool (blankB (l.drop x.en))))
      have d0 := hRf.cell 0 rfl
      have d1 := hRf.cell 1 rfl
      have d2 := hRf.cell 2 rfl
      have d3 := hRf.cell 3 rfl
      have d4 := hRf.cell 4 rfl
      have d5 := hRf.cell 5 rfl
      have hOf := ((((((hO2.set_ (p := ⟨w.heap.size + 1, 5, none⟩) (by simp) (.bool (blankB (l.drop x.en)))).set_ (p := ⟨w.heap.size, 0, none⟩) (by simp; omega) (.int .i64 x.k)).set_ (p := ⟨w.heap.size, 1, none⟩) (by simp; omega) (.int .u32 (x.m : Nat))).set_ (p := ⟨w.heap.size, 2, none⟩) (by simp; omega) (.slice A' n' c')).set_ (p := ⟨w.heap.size, 3, none⟩) (by simp; omega) (.int .i64 (x.cnt : Nat))).set_ (p := ⟨w.heap.size, 4, none⟩) (by simp; omega) (.int .i64 (x.en : Nat))).set_ (p := ⟨w.heap.size, 5, none⟩) (by simp; omega) (.bool (blankB (l.drop x.en)))
      refine bodyPost_ret (v := .agg #[.int .i64 x.k, .int .u32 (x.m : Nat), .slice A' n' c', .int .i64 (x.cnt : Nat), .int .i64 (x.en : Nat), .bool (blankB (l.drop x.en))]) (by simp [results, Tryz.results121, go_sem, d0, d1, d2, d3, d4, d5]) rfl ?_
      rw [HLL.out]
      exact ⟨A', n', c', rfl, hOf.mono (by omega), by repeat' (first | with_reducible assumption | with_reducible exact Below.refl _ _ | with_reducible apply below_alloc | with_reducible apply below_drew1 | with_reducible apply below_drewN | (with_reducible apply below_step; with_reducible assumption) | (with_reducible apply below_sg2; (first | exact Nat.le_refl _ | (simp; done) | omega)))⟩
    have hm1 : ((x.m : Int) == 4294967295) = false := by simp; omega
    have hms := u32_succ hux h1
    have hml : (x.m : Int) + 1 ≤ 4294967295 := by unfold U32 at hux; omega
    by_cases h2 : pm = x.m + 1
    · have hm2 : ((pm : Int) != (x.m : Int) + 1) = false := by simp; omega
      have hstop : stopB x ⟨pk, pm, pd, pto, 0⟩ = false := by simp [stopB, h1, h2]
      clear h1 h2 h0 hms
      obtain ⟨t, ht⟩ : ∃ t, t = x.en + pd.length + 13 := ⟨_, rfl⟩
      obtain ⟨ht1, ht2, ht3⟩ := parse_to l x.en (by rw [← HP.out])
      rw [← HP.out] at ht1 ht2 ht3
      simp only [] at ht1 ht2 ht3
      rw [← ht] at ht1 ht2
      subst ht1
      obtain ⟨f', rfl⟩ : ∃ f', f = f' + 1 := ⟨f - 1, by have := HX.out.2; have := HT.out; omega⟩
      have HL := hide (show lookE l = lookF l f' ⟨pk, pm, pd, x.cnt + 1, t, false⟩ ∧ n ≤ f' + t by
        refine ⟨?_, by have := HX.out.2; omega⟩
        rw [HX.out.1, look_go (by rw [← HP.out]; exact hstop), ← HP.out, ht])
      have htx : x.en < t := by omega
      have HTT := hide ht
      clear hstop ht
      go_wp2_with fail
      refine (rec_parse A n c (x.en : Nat) l wr _ HP.out HN.out hc hl (hs.below hbr)).mono ?_
      rintro e w1 ⟨A1, n1, c1, rfl, hO1, hb1⟩
      simp only [] at hO1 ⊢
      have hB1 := (hB.below hb1 zB).alloc (.cells #[.int .i64 pk, .int .u32 (pm : Nat), .slice A1 n1 c1] 92)
      have hR1 := (hR.below hb1 zR).alloc (.cells #[.int .i64 pk, .int .u32 (pm : Nat), .slice A1 n1 c1] 92)
      have hO2 := (hO1.mono (B' := w.heap.size + 1 + 1) (by omega)).alloc (.cells #[.int .i64 pk, .int .u32 (pm : Nat), .slice A1 n1 c1] 92)
      have hbw2 := below_alloc (below_step hb1 hbr) (.cells #[.int .i64 pk, .int .u32 (pm : Nat), .slice A1 n1 c1] 92)
      have zr1 := hb1.size
      have y0 := hB1.cell 0 rfl
      have y1 := hB1.cell 1 rfl
      have y2 := hB1.cell 2 rfl
      have y3 := hB1.cell 3 rfl
      have y4 := hB1.cell 4 rfl
      have g0 := hB1.frozen 0
      have g1 := hB1.frozen 1
      have g2 := hB1.frozen 2
      have g3 := hB1.frozen 3
      have g4 := hB1.frozen 4
      clear x0 x1 x2 x3 x4 x5
      go_wp2_with fail
      go_roundw
      case rel => exact ⟨⟨pk, pm, pd, x.cnt + 1, t, false⟩, A1, n1, c1, f', (((((hB1.set_ 0 (.int .i64 pk)).set_ 1 (.int .u32 (pm : Nat))).set_ 2 (.slice A1 n1 c1)).set_ 4 (.int .i64 (t : Nat))).set_ 3 (.int .i64 ((x.cnt : Int) + 1))), (((((hO2.set_ (p := ⟨w.heap.size + 1, 0, none⟩) (by simp) (.int .i64 pk)).set_ (p := ⟨w.heap.size + 1, 1, none⟩) (by simp) (.int .u32 (pm : Nat))).set_ (p := ⟨w.heap.size + 1, 2, none⟩) (by simp) (.slice A1 n1 c1)).set_ (p := ⟨w.heap.size + 1, 4, none⟩) (by simp) (.int .i64 (t : Nat))).set_ (p := ⟨w.heap.size + 1, 3, none⟩) (by simp) (.int .i64 ((x.cnt : Int) + 1))), (((((hR1.far (p := ⟨w.heap.size + 1, 0, none⟩) (by simp) (.int .i64 pk)).far (p := ⟨w.heap.size + 1, 1, none⟩) (by simp) (.int .u32 (pm : Nat))).far (p := ⟨w.heap.size + 1, 2, none⟩) (by simp) (.slice A1 n1 c1)).far (p := ⟨w.heap.size + 1, 4, none⟩) (by simp) (.int .i64 (t : Nat))).far (p := ⟨w.heap.size + 1, 3, none⟩) (by simp) (.int .i64 ((x.cnt : Int) + 1))), HL.out, by have := HN.out; simp only []; omega, by simp only []; omega, ht3, by repeat' (first | with_reducible assumption | with_reducible exact Below.refl _ _ | with_reducible apply below_alloc | with_reducible apply below_drew1 | with_reducible apply below_drewN | (with_reducible apply below_step; with_reducible assumption) | (with_reducible apply below_sg2; (first | exact Nat.le_refl _ | (simp; done) | omega)))⟩
      case measure =>
        rw [cell_meas (u := .int .i64 (t : Nat)) (((((hB1.set_ 0 (.int .i64 pk)).set_ 1 (.int .u32 (pm : Nat))).set_ 2 (.slice A1 n1 c1)).set_ 4 (.int .i64 (t : Nat))).set_ 3 (.int .i64 ((x.cnt : Int) + 1))) 4 rfl, cell_meas (u := .int .i64 (x.en : Nat)) hB 4 rfl]
        simp only [intOf]
        have := HN.out
        omega
    · have hm2 : ((pm : Int) != (x.m : Int) + 1) = true := by simp; omega
      have hstop : stopB x ⟨pk, pm, pd, pto, 0⟩ = true := by simp [stopB, h2]; omega
      clear h1 h2 h0 hms
      have HL := hide (show lookE l = x by rw [HX.out.1]; exact look_stop (by rw [← HP.out]; exact hstop))
      have HLL := hide (show lookL l = ⟨x.k, x.m, x.d, x.cnt, x.en, blankB (l.drop x.en)⟩ by unfold lookL; rw [HL.out])
      clear hstop
      go_wp2_with fail
      refine (rec_parse A n c (x.en : Nat) l wr _ HP.out HN.out hc hl (hs.below hbr)).mono ?_
      rintro e w1 ⟨A1, n1, c1, rfl, hO1, hb1⟩
      simp only [] at hO1 ⊢
      have hB1 := (hB.below hb1 zB).alloc (.cells #[.int .i64 pk, .int .u32 (pm : Nat), .slice A1 n1 c1] 92)
      have hR1 := (hR.below hb1 zR).alloc (.cells #[.int .i64 pk, .int .u32 (pm : Nat), .slice A1 n1 c1] 92)
      have hO2 := (hO.below hb1).alloc (.cells #[.int .i64 pk, .int .u32 (pm : Nat), .slice A1 n1 c1] 92)
      have hbw2 := below_alloc (below_step hb1 hbr) (.cells #[.int .i64 pk, .int .u32 (pm : Nat), .slice A1 n1 c1] 92)
      have zr1 := hb1.size
      have y0 := hB1.cell 0 rfl
      have y1 := hB1.cell 1 rfl
      have y2 := hB1.cell 2 rfl
      have y3 := hB1.cell 3 rfl
      have y4 := hB1.cell 4 rfl
      have y5 := hB1.cell 5 rfl
      have g0 := hB1.frozen 5
      have r0 := hR1.cell 0 rfl
      have r1 := hR1.cell 1 rfl
      have r2 := hR1.cell 2 rfl
      have r3 := hR1.cell 3 rfl
      have r4 := hR1.cell 4 rfl
      have r5 := hR1.cell 5 rfl
      have f0 := hR1.frozen 0
      have f1 := hR1.frozen 1
      have f2 := hR1.frozen 2
      have f3 := hR1.frozen 3
      have f4 := hR1.frozen 4
      have f5 := hR1.frozen 5
      clear x0 x1 x2 x3 x4 x5
      go_wp2_with fail
      refine (HBL.out _ (hs.below hbw2)).mono ?_
      rintro e w3 ⟨rfl, rfl⟩
      go_wp2_with fail
      have hRf := (((((((hR1.far (p := ⟨w.heap.size + 1, 5, none⟩) (by simp) (.bool (blankB (l.drop x.en)))).set_ 0 (.int .i64 x.k)).set_ 1 (.int .u32 (x.m : Nat))).set_ 2 (.slice A' n' c')).set_ 3 (.int .i64 (x.cnt : Nat))).set_ 4 (.int .i64 (x.en : Nat))).set_ 5 (.bool (blankB (l.drop x.en))))
      have d0 := hRf.cell 0 rfl
      have d1 := hRf.cell 1 rfl
      have d2 := hRf.cell 2 rfl
      have d3 := hRf.cell 3 rfl
      have d4 := hRf.cell 4 rfl
      have d5 := hRf.cell 5 rfl
      have hOf := ((((((hO2.set_ (p := ⟨w.heap.size + 1, 5, none⟩) (by simp) (.bool (blankB (l.drop x.en)))).set_ (p := ⟨w.heap.size, 0, none⟩) (by simp; omega) (.int .i64 x.k)).set_ (p := ⟨w.heap.size, 1, none⟩) (by simp; omega) (.int .u32 (x.m : Nat))).set_ (p := ⟨w.heap.size, 2, none⟩) (by simp; omega) (.slice A' n' c')).set_ (p := ⟨w.heap.size, 3, none⟩) (by simp; omega) (.int .i64 (x.cnt : Nat))).set_ (p := ⟨w.heap.size, 4, none⟩) (by simp; omega) (.int .i64 (x.en : Nat))).set_ (p := ⟨w.heap.size, 5, none⟩) (by simp; omega) (.bool (blankB (l.drop x.en)))
      refine bodyPost_ret (v := .agg #[.int .i64 x.k, .int .u32 (x.m : Nat), .slice A' n' c', .int .i64 (x.cnt : Nat), .int .i64 (x.en : Nat), .bool (blankB (l.drop x.en))]) (by simp [results, Tryz.results121, go_sem, d0, d1, d2, d3, d4, d5]) rfl ?_
      rw [HLL.out]
      exact ⟨A', n', c', rfl, hOf.mono (by omega), by repeat' (first | with_reducible assumption | with_reducible exact Below.refl _ _ | with_reducible apply below_alloc | with_reducible apply below_drew1 | with_reducible apply below_drewN | (with_reducible apply below_step; with_reducible assumption) | (with_reducible apply below_sg2; (first | exact Nat.le_refl _ | (simp; done) | omega)))⟩
end
end Go.Proofs.YtehabbnohoomjaaGreatDoor
