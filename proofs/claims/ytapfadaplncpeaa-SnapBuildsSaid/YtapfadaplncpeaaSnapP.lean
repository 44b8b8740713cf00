/- Package snap: Parse. -/
import Derived.Test.YtapfadaplncpeaaOwnV
namespace Go.Proofs.Ytapfadaplncpeaa
open Go.RowKit
set_option maxRecDepth 20000
set_option maxHeartbeats 1000000

def lastV (L : List SV) : SV := L.getD (L.length - 1) ⟨0, 0, []⟩
def parseF : Nat → List SV → List UInt8 → List SV × Int
  | 0, _, _ => ([], 0)
  | f + 1, L, l => if l = [] then (L, 0) else
      if (oneS l).2.2 ≠ 0 then ([], (oneS l).2.2) else
      if L ≠ [] ∧ aheadB (lastV L).ix (lastV L).sub (oneS l).1.ix (oneS l).1.sub = false then ([], 16) else parseF f (L ++ [(oneS l).1]) (oneS l).2.1
def parseS (l : List UInt8) : List SV × Int := if 960 < l.length then ([], 3) else parseF (l.length + 1) [] l
theorem parseF_nil (f : Nat) (L : List SV) : parseF (f + 1) L [] = (L, 0) := by simp [parseF]
theorem parseF_err (f : Nat) (L : List SV) (l : List UInt8) (v : SV) (rest : List UInt8) (er : Int) (hl : l ≠ []) (h : oneS l = (v, rest, er)) (he : er ≠ 0) : parseF (f + 1) L l = ([], er) := by
  rw [parseF, if_neg hl, h, if_pos he]
theorem parseF_ord (f : Nat) (L : List SV) (l : List UInt8) (v : SV) (rest : List UInt8) (hl : l ≠ []) (h : oneS l = (v, rest, 0)) (hL : L ≠ []) (ha : aheadB (lastV L).ix (lastV L).sub v.ix v.sub = false) : parseF (f + 1) L l = ([], 16) := by
  rw [parseF, if_neg hl, h, if_neg (by simp), if_pos ⟨hL, ha⟩]
theorem parseF_step (f : Nat) (L : List SV) (l : List UInt8) (v : SV) (rest : List UInt8) (hl : l ≠ []) (h : oneS l = (v, rest, 0)) (hL : L = [] ∨ aheadB (lastV L).ix (lastV L).sub v.ix v.sub = true) : parseF (f + 1) L l = parseF f (L ++ [v]) rest := by
  rw [parseF, if_neg hl, h, if_neg (by simp), if_neg]
  rintro ⟨h1, h2⟩
  rcases hL with h3 | h3
  · exact h1 h3
  · rw [h3] at h2; cases h2
def lenOf : Value → Nat | .slice _ n _ => n | _ => 0

theorem snap_parse (A : Option Addr) (n c : Nat) (l : List UInt8) (w : World) (hn : n = l.length) (hc : n ≤ c) (hs : Sl w A (l.map bv)) :
    Calls Try.prog 22 #[.slice A n c] w fun e w' => ∃ A' n' c' L ds er, e = .returned (.tuple #[.slice A' n' c', .int .i64 er]) ∧ OwnV w' w.heap.size A' n' c' L ds ∧ parseS l = (L, er) ∧ Below w.heap.size w w' := by
  by_cases hbig : 960 < n
  · have HP := hide (show parseS l = ([], 3) by rw [parseS, if_pos (by omega)])
    clear hn
    go_enter Try.func22, Try.ntmps22
    go_wp2_with fail
    go_ret2
    exact ⟨_, _, _, _, [], _, rfl, OwnV.nil _ _, HP.out, Below.refl _ _⟩
  · have HP := hide (show parseS l = parseF (l.length + 1) [] l by rw [parseS, if_neg (by omega)])
    have HN := hide hn
    clear hn
    have hn960 : n ≤ 960 := by omega
    clear hbig
    go_enter Try.func22, Try.ntmps22
    go_wp2_with fail
    go_loopw [0, 4] (fun v0 v4 wr => ∃ bA bn bc r L ds A' m c' f, v0 = .slice bA bn bc ∧ Hid (bn = r.length) ∧ bn ≤ bc ∧ Sl w bA (r.map bv) ∧ v4 = .slice A' m c' ∧ OwnV wr w.heap.size A' m c' L ds ∧ Hid (parseS l = parseF (f + 1) L r) ∧ bn ≤ f ∧ m + bn ≤ 960 ∧ Below w.heap.size w wr)
      (fun v0 _ _ => lenOf v0)
    case atStart => exact ⟨_, _, _, l, [], [], _, _, _, l.length, rfl, HN, hc, hs, rfl, OwnV.nil _ _, HP, by have := HN.out; omega, by omega, Below.refl _ _⟩
    case round =>
      obtain ⟨bA, bn, bc, r, L, ds, A', m, c', f, rfl, HR, hbc, hr, rfl, hO, HF, hf, hmb, hbr⟩ := hrel
      clear hs HN HP hc hn960
      by_cases h0 : 0 < bn
      · have hrne : r ≠ [] := by intro h; have := HR.out; rw [h] at this; simp at this; omega
        have HRN := hide hrne
        clear hrne
        go_wp2_with fail
        refine (snap_one bA bn bc r wr HR.out hbc (by omega) (hr.below hbr)).mono ?_
        rintro e w1 ⟨v, rest, er, A1, c1, A2, n2, c2, rfl, ho, hO1, hn2, hc2', hcc, hsub, hb1, hok⟩
        have HO := hide ho
        have HN2 := hide hn2
        clear ho hn2
        have hbr1 := below_step hb1 hbr
        by_cases her : er = 0
        · subst her
          obtain ⟨q1, q2, q3, q4, q5⟩ := hok rfl
          have hVO := hO.below hb1
          have hmle : m ≤ 960 := by omega
          have hAll := hO1.own.shape
          have hpair : ∀ d' ∈ ds, ∀ g, d'.1 = some (⟨g, 0, none⟩ : Addr) → A1 ≠ some ⟨g, 0, none⟩ := by
            intro d' hd' g hg hA1
            obtain ⟨j, hj, rfl⟩ := List.getElem_of_mem hd'
            obtain ⟨u, hu⟩ : ∃ u, L[j]? = some u := ⟨L[j]'(by rw [← hO.hd]; exact hj), List.getElem?_eq_getElem _⟩
            have hdat := hO.data j u _ hu (List.getElem?_eq_getElem hj)
            rcases hdat.own.shape with ⟨h1, _⟩ | ⟨g1, h1, _, h3⟩
            · rw [h1] at hg; cases hg
            · rw [h1] at hg
              injection hg with hg
              injection hg with hg
              subst hg
              rcases hAll with ⟨h4, _⟩ | ⟨g2, h4, h5, _⟩
              · rw [h4] at hA1; cases hA1
              · rw [h4] at hA1
                injection hA1 with hA1
                injection hA1 with hA1
                omega
          have HPR := hide hpair
          clear hpair hAll hok
          have step : ∀ (W : World), Below w1.heap.size w1 W → OwnV W w.heap.size A' m c' L ds ∧ OwnB W w.heap.size A1 v.data.length c1 v.data :=
            fun W hW => ⟨hVO.below hW, (hO1.below hW).mono (by have := hbr.size; omega)⟩
          have HST := hide step
          clear step
          have hm0 : m = 0 ∨ 1 ≤ m := by omega
          rcases hm0 with hm0 | hm0
          · have hd : decide ((0 : Int) < (m : Int)) = false := by simp; omega
            have hd' : decide (0 < m) = false := by simp; omega
            have hL0 := hide (show L = [] from List.eq_nil_of_length_eq_zero (by have := hO.hn; omega))
            clear hm0
            go_wp2_with fail
            go_quiet (fail)
            clear hd hd'
            go_wp2_with (at_builtin; go_must (refine app_v _ rfl (.tmp 41) (.tmp 43) rfl w.heap.size _ _ _ _ _ rfl (HST.out _ (by repeat' (first | with_reducible assumption | with_reducible exact Below.refl _ _ | with_reducible apply below_alloc | with_reducible apply below_drew1 | with_reducible apply below_drewN | (with_reducible apply below_step; with_reducible assumption) | (with_reducible apply below_sg2; (first | exact Nat.le_refl _ | (simp; done) | omega))))).1 v (A1, c1) _ rfl (by first | exact (blk_two _ _ _ _ _).2.sl | exact (Blk.new _ _ _).sl) (HST.out _ (by repeat' (first | with_reducible assumption | with_reducible exact Below.refl _ _ | with_reducible apply below_alloc | with_reducible apply below_drew1 | with_reducible apply below_drewN | (with_reducible apply below_step; with_reducible assumption) | (with_reducible apply below_sg2; (first | exact Nat.le_refl _ | (simp; done) | omega))))).2 HPR.out (by omega) (by have := hbr1.size; simp; omega) (m + 1) rfl ?_); intro A4 c4 w4 hO4 hb4)
            go_roundw
            case measure => simp [lenOf]; omega
            case rel =>
              obtain ⟨f, rfl⟩ : ∃ f', f = f' + 1 := ⟨f - 1, by omega⟩
              exact ⟨_, _, _, rest, _, _, _, _, _, f, rfl, HN2, hc2', hsub _ hr, rfl, hO4, hide (by rw [HF.out, parseF_step _ _ _ _ _ HRN.out HO.out (.inl hL0.out)]), by omega, by omega, (below_step (by repeat' (first | with_reducible assumption | with_reducible exact Below.refl _ _ | with_reducible apply below_alloc | with_reducible apply below_drew1 | with_reducible apply below_drewN | (with_reducible apply below_step; with_reducible assumption) | (with_reducible apply below_sg2; (first | exact Nat.le_refl _ | (simp; done) | omega)))) hbr1).trans hb4⟩
          · obtain ⟨u, hu⟩ : ∃ u, L[m - 1]? = some u := ⟨L[m - 1]'(by have := hO.hn; omega), List.getElem?_eq_getElem _⟩
            have hlast := hide (show lastV L = u by unfold lastV; rw [← hO.hn, List.getD_eq_getElem?_getD, hu]; rfl)
            have hLne := hide (show L ≠ [] by intro h; have := hO.hn; rw [h] at this; simp at this; omega)
            by_cases ha : aheadB u.ix u.sub v.ix v.sub = true
            · obtain ⟨b, off, Ap, cp, hA, g0, g1, g2, g4, g5⟩ := (HST.out (w1.alloc (.cells #[.int .i64 v.ix, .int .i64 v.sub, .slice A1 v.data.length c1] 35)) (by repeat' (first | with_reducible assumption | with_reducible exact Below.refl _ _ | with_reducible apply below_alloc | with_reducible apply below_drew1 | with_reducible apply below_drewN | (with_reducible apply below_step; with_reducible assumption) | (with_reducible apply below_sg2; (first | exact Nat.le_refl _ | (simp; done) | omega))))).1.slV (m - 1) u hu
              subst hA
              have k1 := blk_one w1 35 #[.int .i64 v.ix, .int .i64 v.sub, .slice A1 v.data.length c1]
              have c0 := k1.cell 0 rfl
              have c1' := k1.cell 1 rfl
              have c2'' := k1.cell 2 rfl
              have z1 := lt_of_cell g0
              have z2 := k1.lt
              simp only [] at z1 z2
              have z3 : b ≤ w1.heap.size := by simp at z1; omega
              have z4 : b < w1.heap.size + 1 := by omega
              have HU := hide hu
              clear hu
              obtain ⟨q1, q2, q3, q4, q5, q6, q7, q8, q9, q10, q11⟩ := idx_pred hm0 (Nat.le_refl m) (by omega)
              go_wp2_with fail
              go_region_held3 (fun w' => (∀ p : Addr, p.block < (w1.alloc (.cells #[.int .i64 v.ix, .int .i64 v.sub, .slice A1 v.data.length c1] 35)).heap.size → w'.cell? p = (w1.alloc (.cells #[.int .i64 v.ix, .int .i64 v.sub, .slice A1 v.data.length c1] 35)).cell? p) ∧ Below (w1.alloc (.cells #[.int .i64 v.ix, .int .i64 v.sub, .slice A1 v.data.length c1] 35)).heap.size (w1.alloc (.cells #[.int .i64 v.ix, .int .i64 v.sub, .slice A1 v.data.length c1] 35)) w') (((try go_split_ands); refine sn_of ?_; repeat' (first | with_reducible assumption | with_reducible exact Below.refl _ _ | with_reducible apply below_alloc | with_reducible apply below_drew1 | with_reducible apply below_drewN | (with_reducible apply below_step; with_reducible assumption) | (with_reducible apply below_sg2; (first | exact Nat.le_refl _ | (simp; done) | omega))))) (first
                | (go_at_call 62; (with_reducible refine (snap_ahead _ _ _ _ _ _ _).mono ?_); rintro e w2 ⟨rfl, hw2⟩; dsimp only))
              clear q1 q2 q3 q4 q5 q6 q7 q8 q9 q10 q11
              have hbS := (by assumption : _ ∧ Below _ _ w2).2
              have hb12 : Below w1.heap.size w1 w2 := below_step hbS (below_alloc (Below.refl _ _) _)
              have k2 := k1.below hbS z2
              have d0 := k2.cell 0 rfl
              have d1 := k2.cell 1 rfl
              have d2 := k2.cell 2 rfl
              have hz12 := hb12.size
              have hbr2 := below_step hb12 hbr1
              go_wp2_with (at_builtin; go_must (refine app_v _ rfl (.tmp 41) (.tmp 43) rfl w.heap.size _ _ _ _ _ rfl (HST.out _ (by exact below_alloc hb12 _)).1 v (A1, c1) _ rfl (by exact (Blk.new _ _ _).sl) (HST.out _ (by exact below_alloc hb12 _)).2 HPR.out (by omega) (by have := hbr2.size; simp; omega) (m + 1) rfl ?_); intro A4 c4 w4 hO4 hb4)
              go_roundw
              case measure => simp [lenOf]; omega
              case rel =>
                obtain ⟨f, rfl⟩ : ∃ f', f = f' + 1 := ⟨f - 1, by omega⟩
                exact ⟨_, _, _, rest, _, _, _, _, _, f, rfl, HN2, hc2', hsub _ hr, rfl, hO4, hide (by rw [HF.out, parseF_step _ _ _ _ _ HRN.out HO.out (.inr (by rw [hlast.out]; exact ha))]), by omega, by omega, (below_alloc hbr2 _).trans hb4⟩
            · have ha : aheadB u.ix u.sub v.ix v.sub = false := by simpa using ha
              obtain ⟨b, off, Ap, cp, hA, g0, g1, g2, g4, g5⟩ := (HST.out (w1.alloc (.cells #[.int .i64 v.ix, .int .i64 v.sub, .slice A1 v.data.length c1] 35)) (by repeat' (first | with_reducible assumption | with_reducible exact Below.refl _ _ | with_reducible apply below_alloc | with_reducible apply below_drew1 | with_reducible apply below_drewN | (with_reducible apply below_step; with_reducible assumption) | (with_reducible apply below_sg2; (first | exact Nat.le_refl _ | (simp; done) | omega))))).1.slV (m - 1) u hu
              subst hA
              have k1 := blk_one w1 35 #[.int .i64 v.ix, .int .i64 v.sub, .slice A1 v.data.length c1]
              have c0 := k1.cell 0 rfl
              have c1' := k1.cell 1 rfl
              have c2'' := k1.cell 2 rfl
              have z1 := lt_of_cell g0
              have z2 := k1.lt
              simp only [] at z1 z2
              have z3 : b ≤ w1.heap.size := by simp at z1; omega
              have z4 : b < w1.heap.size + 1 := by omega
              have HU := hide hu
              clear hu
              obtain ⟨q1, q2, q3, q4, q5, q6, q7, q8, q9, q10, q11⟩ := idx_pred hm0 (Nat.le_refl m) (by omega)
              go_wp2_with fail
              go_region_held3 (fun w' => (∀ p : Addr, p.block < (w1.alloc (.cells #[.int .i64 v.ix, .int .i64 v.sub, .slice A1 v.data.length c1] 35)).heap.size → w'.cell? p = (w1.alloc (.cells #[.int .i64 v.ix, .int .i64 v.sub, .slice A1 v.data.length c1] 35)).cell? p) ∧ Below (w1.alloc (.cells #[.int .i64 v.ix, .int .i64 v.sub, .slice A1 v.data.length c1] 35)).heap.size (w1.alloc (.cells #[.int .i64 v.ix, .int .i64 v.sub, .slice A1 v.data.length c1] 35)) w') (((try go_split_ands); refine sn_of ?_; repeat' (first | with_reducible assumption | with_reducible exact Below.refl _ _ | with_reducible apply below_alloc | with_reducible apply below_drew1 | with_reducible apply below_drewN | (with_reducible apply below_step; with_reducible assumption) | (with_reducible apply below_sg2; (first | exact Nat.le_refl _ | (simp; done) | omega))))) (first
                | (go_at_call 62; (with_reducible refine (snap_ahead _ _ _ _ _ _ _).mono ?_); rintro e w2 ⟨rfl, hw2⟩; dsimp only))
              clear q1 q2 q3 q4 q5 q6 q7 q8 q9 q10 q11
              have hbS := (by assumption : _ ∧ Below _ _ w2).2
              have hb12 : Below w1.heap.size w1 w2 := below_step hbS (below_alloc (Below.refl _ _) _)
              go_wp2_with fail
              go_ret2
              exact ⟨_, _, _, _, [], _, rfl, OwnV.nil _ _, by rw [HF.out, parseF_ord _ _ _ _ _ HRN.out HO.out hLne.out (by rw [hlast.out]; exact ha)], below_step hb12 hbr1⟩
        · have her' : (er == 0) = false := by simpa using her
          have her2 : (er != 0) = true := by simpa using her
          clear hok
          go_wp2_with fail
          go_quiet (fail)
          go_wp2_with fail
          go_ret2
          exact ⟨_, _, _, _, [], _, rfl, OwnV.nil _ _, by rw [HF.out, parseF_err _ _ _ _ _ _ HRN.out HO.out her], below_drewN (hbr1.alloc hbr1.size _) _⟩
      · go_wp2_with fail
        go_ret2
        have hr0 : r = [] := List.eq_nil_of_length_eq_zero (by have := HR.out; omega)
        subst hr0
        exact ⟨_, _, _, _, _, _, rfl, hO, by rw [HF.out, parseF_nil], hbr⟩
end Go.Proofs.Ytapfadaplncpeaa
