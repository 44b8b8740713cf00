/- Package snap: in, Drop. -/
import Derived.Test.YtabgdfbiocoimaaOwnV
import Derived.Test.YtabgdfbiocoimaaSnapC
namespace Go.Proofs.Ytabgdfbiocoimaa
set_option linter.unusedVariables false
set_option linter.unusedSimpArgs false
set_option linter.unnecessarySimpa false
section
open Go.RowKit
set_option maxRecDepth 20000
set_option maxHeartbeats 1000000

def groupZ (ix : Int) : Int :=
  if ix / 4096 = 1 then 2 else if 2 ≤ ix / 4096 ∧ ix / 4096 ≤ 5 then 4 else if 6 ≤ ix / 4096 ∧ ix / 4096 ≤ 9 then 3 else 1
def inB (ix g : Int) : Bool := decide (g = 1 ∨ (2 ≤ g ∧ g ≤ 4 ∧ groupZ ix = g))

theorem entry_group (i s : Int) (a2 a3 a4 a5 a6 a7 a8 a9 a10 : Value) (w : World) :
    Calls Try.prog 107 #[.agg #[.int .i64 i, .int .i64 s, a2, a3, a4, a5, a6, a7, a8, a9, a10]] w
      fun e w' => e = .returned (.int .i64 (groupZ i)) ∧ Below w.heap.size w w' := by
  go_enter Try.func107, Try.ntmps107
  go_wp2
  all_goals
    go_ret
    refine ⟨ret_int ?_, below_alloc (Below.refl _ _) _⟩
    simp only [beq_iff_eq, beq_eq_false_iff_ne, ne_eq] at *
    unfold groupZ
    show (_ : Int) = _
    (repeat' split) <;> first | rfl | omega

theorem snap_in (i s g : Int) (a2 a3 a4 a5 a6 a7 a8 a9 a10 : Value) (w : World) :
    Calls Try.prog 78 #[.agg #[.int .i64 i, .int .i64 s, a2, a3, a4, a5, a6, a7, a8, a9, a10], .int .i64 g] w
      fun e w' => e = .returned (.bool (inB i g)) ∧ Below w.heap.size w w' := by
  by_cases h1 : g = 1
  · subst h1
    go_enter Try.func78, Try.ntmps78
    go_wp2_with fail
    go_ret
    exact ⟨ret_bool (by simp [inB]), below_alloc (Below.refl _ _) _⟩
  · have h1' : (g == 1) = false := by simpa using h1
    by_cases h2 : 2 ≤ g ∧ g ≤ 4
    · obtain ⟨h2, h3⟩ := h2
      have HF := hide (show (groupZ i == g) = inB i g by rw [Bool.eq_iff_iff]; simp [inB]; omega)
      clear h1
      go_enter Try.func78, Try.ntmps78
      go_wp2_with (go_at_call 107; (with_reducible refine (entry_group _ _ _ _ _ _ _ _ _ _ _ _).mono ?_); rintro e w1 ⟨rfl, hb1⟩)
      go_ret
      exact ⟨ret_bool HF.out, below_step hb1 (below_alloc (Below.refl _ _) _)⟩
    · have HF := hide (show false = inB i g by simp [inB]; omega)
      have h4 : g ≤ 1 ∨ 4 < g := by omega
      clear h1 h2
      rcases h4 with h4 | h4
      all_goals
        go_enter Try.func78, Try.ntmps78
        go_wp2_with fail
        go_ret
        exact ⟨ret_bool HF.out, below_alloc (Below.refl _ _) _⟩

/-- what is left of values without a group -/
def dropL (L : List SV) (g : Int) : List SV := L.filter fun v => !inB v.ix g

theorem snap_drop (A : Option Addr) (n c : Nat) (L : List SV) (g : Int) (w : World) (hn : n = L.length) (hc : n ≤ c) (hl : n ≤ 35184372) (hL : SlV w A L) (hf : fitsV L) :
    Calls Try.prog 40 #[.slice A n c, .int .i64 g] w fun e w' => ∃ A' n' c' ds, e = .returned (.slice A' n' c') ∧ OwnV w' w.heap.size A' n' c' (dropL L g) ds ∧ Below w.heap.size w w' := by
  have HN := hide hn
  clear hn
  go_enter Try.func40, Try.ntmps40
  go_wp2_with fail
  go_loopw [5, 10] (fun v5 i wr => ∃ k ds A' m c', k ≤ n ∧ i = .int .i64 (k : Nat) ∧ v5 = .slice A' m c' ∧ OwnV wr w.heap.size A' m c' (dropL (L.take k) g) ds ∧ m ≤ k ∧ Below w.heap.size w wr) (fun _ i _ => n - (intOf i).toNat)
  case atStart => exact ⟨0, [], _, _, _, by omega, rfl, rfl, OwnV.nil _ _, by omega, Below.refl _ _⟩
  case round =>
    obtain ⟨k, ds, A', m, c', hk, rfl, rfl, hO, hmk, hbr⟩ := hrel
    by_cases hlt : k < n
    · obtain ⟨v, hv⟩ : ∃ v, L[k]? = some v := ⟨L[k]'(by have := HN.out; omega), List.getElem?_eq_getElem _⟩
      obtain ⟨b, off, Aj, cj, rfl, h0, h1, h2, h4, h5⟩ := (hL.below hbr) k v hv
      have hfd := hf _ (List.mem_of_getElem? hv)
      have htk := hide (show dropL (L.take (k + 1)) g = dropL (L.take k) g ++ (if inB v.ix g then [] else [v]) by
        obtain ⟨hkl, rfl⟩ := List.getElem?_eq_some_iff.1 hv
        rw [List.take_succ_eq_append_getElem hkl, dropL, List.filter_append]
        cases hi : inB L[k].ix g <;> simp [dropL, hi])
      clear hv
      have k1 := blk_one wr 37 #[.int .i64 v.ix, .int .i64 v.sub, .slice Aj v.data.length cj]
      by_cases hi : inB v.ix g = true
      · go_wp2_with fail
        refine (snap_place _ _ _ _).mono ?_
        rintro e w1 ⟨rfl, hb1⟩
        go_wp2_with fail
        refine (snap_in _ _ _ _ _ _ _ _ _ _ _ _ _).mono ?_
        rintro e w2 ⟨rfl, hb2⟩
        have hb12 := below_step hb2 (below_step hb1 (below_alloc (Below.refl _ _) _))
        go_wp2_with fail
        go_roundw
        case rel => exact ⟨k + 1, ds, _, _, _, by omega, by go_num, rfl, by rw [htk.out, hi]; simpa using hO.below hb12, by omega, below_step hb12 hbr⟩
        case measure => simp [intOf]; omega
      · have hi : inB v.ix g = false := by simpa using hi
        go_wp2_with fail
        refine (snap_place _ _ _ _).mono ?_
        rintro e w1 ⟨rfl, hb1⟩
        go_wp2_with fail
        refine (snap_in _ _ _ _ _ _ _ _ _ _ _ _ _).mono ?_
        rintro e w2 ⟨rfl, hb2⟩
        have k2 := (k1.below hb1 k1.lt).below hb2 (k1.below hb1 k1.lt).lt
        have d0 := k2.cell 0 rfl
        have d1 := k2.cell 1 rfl
        have d2 := k2.cell 2 rfl
        have hb12 := below_step hb2 (below_step hb1 (below_alloc (Below.refl _ _) _))
        go_wp2_with fail
        refine (snap_held _ _ _ _ _ v.data _ rfl hfd (h5.below hb12)).mono ?_
        rintro e w3 ⟨A3, c3, rfl, hO3, hb3⟩
        have hb13 := below_step hb3 hb12
        have hbr3 := below_step hb13 hbr
        have hpair := hide (show ∀ d' ∈ ds, ∀ g, d'.1 = some (⟨g, 0, none⟩ : Addr) → A3 ≠ some ⟨g, 0, none⟩ from by
          intro d' hd' g hg hA1
          obtain ⟨j, hj, rfl⟩ := List.getElem_of_mem hd'
          obtain ⟨u, hu⟩ : ∃ u, (dropL (L.take k) _)[j]? = some u := ⟨(dropL (L.take k) _)[j]'(by rw [← hO.hd]; exact hj), List.getElem?_eq_getElem _⟩
          have hdat := hO.data j u _ hu (List.getElem?_eq_getElem hj)
          have hs := hb12.size
          rcases hdat.own.shape with ⟨h1, _⟩ | ⟨g1, h1, _, h3⟩
          · rw [h1] at hg; cases hg
          · rw [h1] at hg
            injection hg with hg
            injection hg with hg
            subst hg
            rcases hO3.own.shape with ⟨h4, _⟩ | ⟨g2, h4, h5, _⟩
            · rw [h4] at hA1; cases hA1
            · rw [h4] at hA1
              injection hA1 with hA1
              injection hA1 with hA1
              omega)
        go_wp2_with (at_builtin; go_must (refine app_v _ rfl (.tmp 19) (.tmp 22) rfl w.heap.size _ _ _ _ _ rfl ((hO.below hb13).below (by repeat' (first | with_reducible assumption | with_reducible exact Below.refl _ _ | with_reducible apply below_alloc | with_reducible apply below_drew1 | with_reducible apply below_drewN | (with_reducible apply below_step; with_reducible assumption) | (with_reducible apply below_sg2; (first | exact Nat.le_refl _ | (simp; done) | omega))))) v (A3, c3) _ rfl (by exact (Blk.new _ _ _).sl) ((hO3.mono (B' := w.heap.size) (by have := hbr.size; have := hb12.size; omega)).below (by repeat' (first | with_reducible assumption | with_reducible exact Below.refl _ _ | with_reducible apply below_alloc | with_reducible apply below_drew1 | with_reducible apply below_drewN | (with_reducible apply below_step; with_reducible assumption) | (with_reducible apply below_sg2; (first | exact Nat.le_refl _ | (simp; done) | omega))))) hpair.out (by omega) (by have := hbr3.size; simp; omega) (m + 1) rfl ?_); intro A4 c4 w4 hO4 hb4)
        go_roundw
        case rel => exact ⟨k + 1, _, _, _, _, by omega, by go_num, rfl, by rw [htk.out, hi]; simpa using hO4, by omega, (below_alloc hbr3 _).trans hb4⟩
        case measure => simp [intOf]; omega
    · have hkn : k = n := by omega
      subst hkn
      go_wp2_with fail
      go_ret
      refine ⟨_, _, _, ds, rfl, ?_, hbr⟩
      have e1 : L.take k = L := List.take_of_length_le (by have := HN.out; omega)
      rw [e1] at hO
      exact hO
end
section
open Go.RowKit
set_option maxRecDepth 20000
set_option maxHeartbeats 1000000

def lastV (L : List SV) : SV := L.getD (L.length - 1) ⟨0, 0, []⟩
def parseF : Nat → List SV → List UInt8 → List SV × Int
  | 0, _, _ => ([], 0)
  | f + 1, L, l => if l = [] then (L, 0) else
      if (oneS l).2.2 ≠ 0 then ([], (oneS l).2.2) else
      if L ≠ [] ∧ aheadB (lastV L).ix (lastV L).sub (oneS l).1.ix (oneS l).1.sub = false then ([], 16) else parseF f (L ++ [(oneS l).1]) (oneS l).2.1
def parseS (l : List UInt8) : List SV × Int := if 960 < l.length then ([], 3) else parseF (l.length + 1) [] l
theorem parseF_nil (f : Nat) (L : List SV) : parseF (f + 1) L [] = (L, 0) := by simp [parseF]
theorem parseF_err (f : Nat) (L : List SV) (l : List UInt8) (v : SV) (rest : List UInt8) (er : Int) (hl : l ≠ []) (h : oneS l = (v, rest, er)) (he : er ≠ 0) : parseF (f + 1) L l = ([], er) := by
  rw [parseF, if_neg hl, h, if_pos he]
theorem parseF_ord (f : Nat) (L : List SV) (l : List UInt8) (v : SV) (rest : List UInt8) (hl : l ≠ []) (h : oneS l = (v, rest, 0)) (hL : L ≠ []) (ha : aheadB (lastV L).ix (lastV L).sub v.ix v.sub = false) : parseF (f + 1) L l = ([], 16) := by
  rw [parseF, if_neg hl, h, if_neg (by simp), if_pos ⟨hL, ha⟩]
theorem parseF_step (f : Nat) (L : List SV) (l : List UInt8) (v : SV) (rest : List UInt8) (hl : l ≠ []) (h : oneS l = (v, rest, 0)) (hL : L = [] ∨ aheadB (lastV L).ix (lastV L).sub v.ix v.sub = true) : parseF (f + 1) L l = parseF f (L ++ [v]) rest := by
  rw [parseF, if_neg hl, h, if_neg (by simp), if_neg]
  rintro ⟨h1, h2⟩
  rcases hL with h3 | h3
  · exact h1 h3
  · rw [h3] at h2; cases h2
def lenOf : Value → Nat | .slice _ n _ => n | _ => 0

theorem snap_parse (A : Option Addr) (n c : Nat) (l : List UInt8) (w : World) (hn : n = l.length) (hc : n ≤ c) (hs : Sl w A (l.map bv)) :
    Calls Try.prog 77 #[.slice A n c] w fun e w' => ∃ A' n' c' L ds er, e = .returned (.tuple #[.slice A' n' c', .int .i64 er]) ∧ OwnV w' w.heap.size A' n' c' L ds ∧ parseS l = (L, er) ∧ Below w.heap.size w w' := by
  by_cases hbig : 960 < n
  · have HP := hide (show parseS l = ([], 3) by rw [parseS, if_pos (by omega)])
    clear hn
    go_enter Try.func77, Try.ntmps77
    go_wp2_with fail
    go_ret2
    exact ⟨_, _, _, _, [], _, rfl, OwnV.nil _ _, HP.out, Below.refl _ _⟩
  · have HP := hide (show parseS l = parseF (l.length + 1) [] l by rw [parseS, if_neg (by omega)])
    have HN := hide hn
    clear hn
    have hn960 : n ≤ 960 := by omega
    clear hbig
    go_enter Try.func77, Try.ntmps77
    go_wp2_with fail
    go_loopw [0, 4] (fun v0 v4 wr => ∃ bA bn bc r L ds A' m c' f, v0 = .slice bA bn bc ∧ Hid (bn = r.length) ∧ bn ≤ bc ∧ Sl w bA (r.map bv) ∧ v4 = .slice A' m c' ∧ OwnV wr w.heap.size A' m c' L ds ∧ Hid (parseS l = parseF (f + 1) L r) ∧ bn ≤ f ∧ m + bn ≤ 960 ∧ Below w.heap.size w wr)
      (fun v0 _ _ => lenOf v0)
    case atStart => exact ⟨_, _, _, l, [], [], _, _, _, l.length, rfl, HN, hc, hs, rfl, OwnV.nil _ _, HP, by have := HN.out; omega, by omega, Below.refl _ _⟩
    case round =>
      obtain ⟨bA, bn, bc, r, L, ds, A', m, c', f, rfl, HR, hbc, hr, rfl, hO, HF, hf, hmb, hbr⟩ := hrel
      clear hs HN HP hc hn960
      by_cases h0 : 0 < bn
      · have hrne : r ≠ [] := by intro h; have := HR.out; rw [h] at this; simp at this; omega
        have HRN := hide hrne
        clear hrne
        go_wp2_with fail
        refine (snap_one bA bn bc r wr HR.out hbc (by omega) (hr.below hbr)).mono ?_
        rintro e w1 ⟨v, rest, er, A1, c1, A2, n2, c2, rfl, ho, hO1, hn2, hc2', hcc, hsub, hb1, hok⟩
        have HO := hide ho
        have HN2 := hide hn2
        clear ho hn2
        have hbr1 := below_step hb1 hbr
        by_cases her : er = 0
        · subst her
          obtain ⟨q1, q2, q3, q4, q5⟩ := hok rfl
          have hVO := hO.below hb1
          have hmle : m ≤ 960 := by omega
          have hAll := hO1.own.shape
          have hpair : ∀ d' ∈ ds, ∀ g, d'.1 = some (⟨g, 0, none⟩ : Addr) → A1 ≠ some ⟨g, 0, none⟩ := by
            intro d' hd' g hg hA1
            obtain ⟨j, hj, rfl⟩ := List.getElem_of_mem hd'
            obtain ⟨u, hu⟩ : ∃ u, L[j]? = some u := ⟨L[j]'(by rw [← hO.hd]; exact hj), List.getElem?_eq_getElem _⟩
            have hdat := hO.data j u _ hu (List.getElem?_eq_getElem hj)
            rcases hdat.own.shape with ⟨h1, _⟩ | ⟨g1, h1, _, h3⟩
            · rw [h1] at hg; cases hg
            · rw [h1] at hg
              injection hg with hg
              injection hg with hg
              subst hg
              rcases hAll with ⟨h4, _⟩ | ⟨g2, h4, h5, _⟩
              · rw [h4] at hA1; cases hA1
              · rw [h4] at hA1
                injection hA1 with hA1
                injection hA1 with hA1
                omega
          have HPR := hide hpair
          clear hpair hAll hok
          have step : ∀ (W : World), Below w1.heap.size w1 W → OwnV W w.heap.size A' m c' L ds ∧ OwnB W w.heap.size A1 v.data.length c1 v.data :=
            fun W hW => ⟨hVO.below hW, (hO1.below hW).mono (by have := hbr.size; omega)⟩
          have HST := hide step
          clear step
          have hm0 : m = 0 ∨ 1 ≤ m := by omega
          rcases hm0 with hm0 | hm0
          · have hd : decide ((0 : Int) < (m : Int)) = false := by simp; omega
            have hd' : decide (0 < m) = false := by simp; omega
            have hL0 := hide (show L = [] from List.eq_nil_of_length_eq_zero (by have := hO.hn; omega))
            clear hm0
            go_wp2_with fail
            go_quiet (fail)
            clear hd hd'
            go_wp2_with (at_builtin; go_must (refine app_v _ rfl (.tmp 41) (.tmp 43) rfl w.heap.size _ _ _ _ _ rfl (HST.out _ (by repeat' (first | with_reducible assumption | with_reducible exact Below.refl _ _ | with_reducible apply below_alloc | with_reducible apply below_drew1 | with_reducible apply below_drewN | (with_reducible apply below_step; with_reducible assumption) | (with_reducible apply below_sg2; (first | exact Nat.le_refl _ | (simp; done) | omega))))).1 v (A1, c1) _ rfl (by first | exact (blk_two _ _ _ _ _).2.sl | exact (Blk.new _ _ _).sl) (HST.out _ (by repeat' (first | with_reducible assumption | with_reducible exact Below.refl _ _ | with_reducible apply below_alloc | with_reducible apply below_drew1 | with_reducible apply below_drewN | (with_reducible apply below_step; with_reducible assumption) | (with_reducible apply below_sg2; (first | exact Nat.le_refl _ | (simp; done) | omega))))).2 HPR.out (by omega) (by have := hbr1.size; simp; omega) (m + 1) rfl ?_); intro A4 c4 w4 hO4 hb4)
            go_roundw
            case measure => simp [lenOf]; omega
            case rel =>
              obtain ⟨f, rfl⟩ : ∃ f', f = f' + 1 := ⟨f - 1, by omega⟩
              exact ⟨_, _, _, rest, _, _, _, _, _, f, rfl, HN2, hc2', hsub _ hr, rfl, hO4, hide (by rw [HF.out, parseF_step _ _ _ _ _ HRN.out HO.out (.inl hL0.out)]), by omega, by omega, (below_step (by repeat' (first | with_reducible assumption | with_reducible exact Below.refl _ _ | with_reducible apply below_alloc | with_reducible apply below_drew1 | with_reducible apply below_drewN | (with_reducible apply below_step; with_reducible assumption) | (with_reducible apply below_sg2; (first | exact Nat.le_refl _ | (simp; done) | omega)))) hbr1).trans hb4⟩
          · obtain ⟨u, hu⟩ : ∃ u, L[m - 1]? = some u := ⟨L[m - 1]'(by have := hO.hn; omega), List.getElem?_eq_getElem _⟩
            have hlast := hide (show lastV L = u by unfold lastV; rw [← hO.hn, List.getD_eq_getElem?_getD, hu]; rfl)
            have hLne := hide (show L ≠ [] by intro h; have := hO.hn; rw [h] at this; simp at this; omega)
            by_cases ha : aheadB u.ix u.sub v.ix v.sub = true
            · obtain ⟨b, off, Ap, cp, hA, g0, g1, g2, g4, g5⟩ := (HST.out (w1.alloc (.cells #[.int .i64 v.ix, .int .i64 v.sub, .slice A1 v.data.length c1] 37)) (by repeat' (first | with_reducible assumption | with_reducible exact Below.refl _ _ | with_reducible apply below_alloc | with_reducible apply below_drew1 | with_reducible apply below_drewN | (with_reducible apply below_step; with_reducible assumption) | (with_reducible apply below_sg2; (first | exact Nat.le_refl _ | (simp; done) | omega))))).1.slV (m - 1) u hu
              subst hA
              have k1 := blk_one w1 37 #[.int .i64 v.ix, .int .i64 v.sub, .slice A1 v.data.length c1]
              have c0 := k1.cell 0 rfl
              have c1' := k1.cell 1 rfl
              have c2'' := k1.cell 2 rfl
              have z1 := lt_of_cell g0
              have z2 := k1.lt
              simp only [] at z1 z2
              have z3 : b ≤ w1.heap.size := by simp at z1; omega
              have z4 : b < w1.heap.size + 1 := by omega
              have HU := hide hu
              clear hu
              obtain ⟨q1, q2, q3, q4, q5, q6, q7, q8, q9, q10, q11⟩ := idx_pred hm0 (Nat.le_refl m) (by omega)
              go_wp2_with fail
              go_region_held3 (fun w' => (∀ p : Addr, p.block < (w1.alloc (.cells #[.int .i64 v.ix, .int .i64 v.sub, .slice A1 v.data.length c1] 37)).heap.size → w'.cell? p = (w1.alloc (.cells #[.int .i64 v.ix, .int .i64 v.sub, .slice A1 v.data.length c1] 37)).cell? p) ∧ Below (w1.alloc (.cells #[.int .i64 v.ix, .int .i64 v.sub, .slice A1 v.data.length c1] 37)).heap.size (w1.alloc (.cells #[.int .i64 v.ix, .int .i64 v.sub, .slice A1 v.data.length c1] 37)) w') (((try go_split_ands); refine sn_of ?_; repeat' (first | with_reducible assumption | with_reducible exact Below.refl _ _ | with_reducible apply below_alloc | with_reducible apply below_drew1 | with_reducible apply below_drewN | (with_reducible apply below_step; with_reducible assumption) | (with_reducible apply below_sg2; (first | exact Nat.le_refl _ | (simp; done) | omega))))) (first
                | (go_at_call 104; (with_reducible refine (snap_ahead _ _ _ _ _ _ _).mono ?_); rintro e w2 ⟨rfl, hw2⟩; dsimp only))
              clear q1 q2 q3 q4 q5 q6 q7 q8 q9 q10 q11
              have hbS := (by assumption : _ ∧ Below _ _ w2).2
              have hb12 : Below w1.heap.size w1 w2 := below_step hbS (below_alloc (Below.refl _ _) _)
              have k2 := k1.below hbS z2
              have d0 := k2.cell 0 rfl
              have d1 := k2.cell 1 rfl
              have d2 := k2.cell 2 rfl
              have hz12 := hb12.size
              have hbr2 := below_step hb12 hbr1
              go_wp2_with (at_builtin; go_must (refine app_v _ rfl (.tmp 41) (.tmp 43) rfl w.heap.size _ _ _ _ _ rfl (HST.out _ (by exact below_alloc hb12 _)).1 v (A1, c1) _ rfl (by exact (Blk.new _ _ _).sl) (HST.out _ (by exact below_alloc hb12 _)).2 HPR.out (by omega) (by have := hbr2.size; simp; omega) (m + 1) rfl ?_); intro A4 c4 w4 hO4 hb4)
              go_roundw
              case measure => simp [lenOf]; omega
              case rel =>
                obtain ⟨f, rfl⟩ : ∃ f', f = f' + 1 := ⟨f - 1, by omega⟩
                exact ⟨_, _, _, rest, _, _, _, _, _, f, rfl, HN2, hc2', hsub _ hr, rfl, hO4, hide (by rw [HF.out, parseF_step _ _ _ _ _ HRN.out HO.out (.inr (by rw [hlast.out]; exact ha))]), by omega, by omega, (below_alloc hbr2 _).trans hb4⟩
            · have ha : aheadB u.ix u.sub v.ix v.sub = false := by simpa using ha
              obtain ⟨b, off, Ap, cp, hA, g0, g1, g2, g4, g5⟩ := (HST.out (w1.alloc (.cells #[.int .i64 v.ix, .int .i64 v.sub, .slice A1 v.data.length c1] 37)) (by repeat' (first | with_reducible assumption | with_reducible exact Below.refl _ _ | with_reducible apply below_alloc | with_reducible apply below_drew1 | with_reducible apply below_drewN | (with_reducible apply below_step; with_reducible assumption) | (with_reducible apply below_sg2; (first | exact Nat.le_refl _ | (simp; done) | omega))))).1.slV (m - 1) u hu
              subst hA
              have k1 := blk_one w1 37 #[.int .i64 v.ix, .int .i64 v.sub, .slice A1 v.data.length c1]
              have c0 := k1.cell 0 rfl
              have c1' := k1.cell 1 rfl
              have c2'' := k1.cell 2 rfl
              have z1 := lt_of_cell g0
              have z2 := k1.lt
              simp only [] at z1 z2
              have z3 : b ≤ w1.heap.size := by simp at z1; omega
              have z4 : b < w1.heap.size + 1 := by omega
              have HU := hide hu
              clear hu
              obtain ⟨q1, q2, q3, q4, q5, q6, q7, q8, q9, q10, q11⟩ := idx_pred hm0 (Nat.le_refl m) (by omega)
              go_wp2_with fail
              go_region_held3 (fun w' => (∀ p : Addr, p.block < (w1.alloc (.cells #[.int .i64 v.ix, .int .i64 v.sub, .slice A1 v.data.length c1] 37)).heap.size → w'.cell? p = (w1.alloc (.cells #[.int .i64 v.ix, .int .i64 v.sub, .slice A1 v.data.length c1] 37)).cell? p) ∧ Below (w1.alloc (.cells #[.int .i64 v.ix, .int .i64 v.sub, .slice A1 v.data.length c1] 37)).heap.size (w1.alloc (.cells #[.int .i64 v.ix, .int .i64 v.sub, .slice A1 v.data.length c1] 37)) w') (((try go_split_ands); refine sn_of ?_; repeat' (first | with_reducible assumption | with_reducible exact Below.refl _ _ | with_reducible apply below_alloc | with_reducible apply below_drew1 | with_reducible apply below_drewN | (with_reducible apply below_step; with_reducible assumption) | (with_reducible apply below_sg2; (first | exact Nat.le_refl _ | (simp; done) | omega))))) (first
                | (go_at_call 104; (with_reducible refine (snap_ahead _ _ _ _ _ _ _).mono ?_); rintro e w2 ⟨rfl, hw2⟩; dsimp only))
              clear q1 q2 q3 q4 q5 q6 q7 q8 q9 q10 q11
              have hbS := (by assumption : _ ∧ Below _ _ w2).2
              have hb12 : Below w1.heap.size w1 w2 := below_step hbS (below_alloc (Below.refl _ _) _)
              go_wp2_with fail
              go_ret2
              exact ⟨_, _, _, _, [], _, rfl, OwnV.nil _ _, by rw [HF.out, parseF_ord _ _ _ _ _ HRN.out HO.out hLne.out (by rw [hlast.out]; exact ha)], below_step hb12 hbr1⟩
        · have her' : (er == 0) = false := by simpa using her
          have her2 : (er != 0) = true := by simpa using her
          clear hok
          go_wp2_with fail
          go_quiet (fail)
          go_wp2_with fail
          go_ret2
          exact ⟨_, _, _, _, [], _, rfl, OwnV.nil _ _, by rw [HF.out, parseF_err _ _ _ _ _ _ HRN.out HO.out her], below_drewN (hbr1.alloc hbr1.size _) _⟩
      · go_wp2_with fail
        go_ret2
        have hr0 : r = [] := List.eq_nil_of_length_eq_zero (by have := HR.out; omega)
        subst hr0
        exact ⟨_, _, _, _, _, _, rfl, hO, by rw [HF.out, parseF_nil], hbr⟩
end
section
open Go.RowKit
set_option maxRecDepth 20000
set_option maxHeartbeats 1000000

theorem chk_first (L : List SV) (k : Nat) (h : chkV L k ≠ 0) (k' : Nat) (h' : chkV L k' ≠ 0) (a : ∀ j, j < k → chkV L j = 0) (a' : ∀ j, j < k' → chkV L j = 0) : k = k' := by
  rcases Nat.lt_trichotomy k k' with hlt | he | hlt
  · exact absurd (a' k hlt) h
  · exact he
  · exact absurd (a k' hlt) h'
theorem BuildR_det {L : List SV} {b b' : List UInt8} {e e' : Int} (h : BuildR L b e) (h' : BuildR L b' e') : b = b' ∧ e = e' := by
  rcases h with ⟨h1, h2, k, hk, hck, ha⟩ | ⟨ha, h⟩
  · rcases h' with ⟨h1', h2', k', hk', hck', ha'⟩ | ⟨ha', _⟩
    · have : k = k' := chk_first L k (by rw [hck]; exact h1) k' (by rw [hck']; exact h1') ha ha'
      subst this
      exact ⟨h2.trans h2'.symm, hck.symm.trans hck'⟩
    · exact absurd (ha' k hk) (by rw [hck]; exact h1)
  · rcases h' with ⟨h1', h2', k', hk', hck', ha'⟩ | ⟨ha', h'⟩
    · exact absurd (ha k' hk') (by rw [hck']; exact h1')
    · rcases h with ⟨p1, p2, p3⟩ | ⟨p1, p2, p3⟩ <;> rcases h' with ⟨q1, q2, q3⟩ | ⟨q1, q2, q3⟩
      · exact ⟨p2.trans q2.symm, p3.trans q3.symm⟩
      · omega
      · omega
      · exact ⟨p2.trans q2.symm, p3.trans q3.symm⟩

def kL : List SV := [⟨4119, 0, [20, 0]⟩]
def kB : List UInt8 := [23, 16, 0, 2, 0, 20, 0]
theorem kBuild : BuildR kL kB 0 := by
  refine .inr ⟨?_, .inr ⟨by decide, by decide, rfl⟩⟩
  intro j hj
  obtain rfl : j = 0 := by simp [kL] at hj; omega
  decide
theorem kParse : parseS kB = (kL, 0) := rfl
theorem kParse6 : parseS (kB.take 6) = ([], 2) := rfl

theorem known_18 (w : World) : Calls Try.prog 38 #[] w fun e w' => e = .returned (.bool true) ∧ Below w.heap.size w w' := by
  have hK := blk_two w 5 37 #[.int .u8 20, .int .u8 0] #[.int .i64 4119, .int .i64 0, .slice (some ⟨w.heap.size, 0, none⟩) 2 2]
  have hsl : SlV ((w.alloc (.cells #[.int .u8 20, .int .u8 0] 5)).alloc (.cells #[.int .i64 4119, .int .i64 0, .slice (some ⟨w.heap.size, 0, none⟩) 2 2] 37)) (some ⟨w.heap.size + 1, 0, none⟩) kL := by
    intro j v hv
    have hj := (List.getElem?_eq_some_iff.1 hv).1
    obtain rfl : j = 0 := by simp [kL] at hj; omega
    simp [kL] at hv
    subst hv
    exact ⟨_, _, _, _, rfl, hK.2.cell 0 rfl, hK.2.cell 1 rfl, hK.2.cell 2 rfl, Nat.le_refl _, hK.1.sl⟩
  have hfit : fitsV kL := by intro v hv; simp [kL] at hv; subst hv; simp
  have HS := hide hsl
  clear hsl hK
  go_enter Try.func38, Try.ntmps38
  go_wp2_with fail
  refine (snap_build _ _ _ kL _ rfl (Nat.le_refl _) (by decide) HS.out hfit).mono ?_
  rintro e w1 ⟨A1, n1, c1, b, er, rfl, hO1, hB, hb1⟩
  obtain ⟨rfl, rfl⟩ := BuildR_det hB kBuild
  obtain rfl : n1 = 7 := hO1.hn
  have hbw1 := below_step hb1 (below_alloc (below_alloc (Below.refl w.heap.size w) _) _)
  have hc1 := hO1.own.le
  clear hB
  go_wp2_with fail
  refine (snap_parse A1 7 c1 kB w1 rfl hc1 hO1.sl).mono ?_
  rintro e w2 ⟨A2, n2, c2, L2, ds2, er2, rfl, hO2, hP2, hb2⟩
  rw [kParse] at hP2
  obtain ⟨rfl, rfl⟩ := Prod.mk.inj hP2
  obtain rfl : n2 = 1 := hO2.hn
  go_wp2_with fail
  refine (snap_parse A1 6 c1 (kB.take 6) w2 rfl (by omega) (by rw [List.map_take]; exact (hO1.sl.below hb2).take 6)).mono ?_
  rintro e w3 ⟨A3, n3, c3, L3, ds3, er3, rfl, hO3, hP3, hb3⟩
  rw [kParse6] at hP3
  obtain ⟨rfl, rfl⟩ := Prod.mk.inj hP3
  have k1 := str_b c1 (rfl : 7 = kB.length) ((hO1.sl.below hb2).below hb3)
  go_wp2_with fail
  refine (snap_drop A2 1 c2 kL 3 _ rfl hO2.own.le (by decide) (hO2.below hb3).slV hfit).mono ?_
  rintro e w4 ⟨A4, n4, c4, ds4, rfl, hO4, hb4⟩
  obtain rfl : n4 = 1 := hO4.hn
  go_wp2_with fail
  refine (snap_drop A2 1 c2 kL 2 _ rfl hO2.own.le (by decide) ((hO2.below hb3).below hb4).slV hfit).mono ?_
  rintro e w5 ⟨A5, n5, c5, ds5, rfl, hO5, hb5⟩
  obtain rfl : n5 = 0 := hO5.hn
  go_wp2_with fail
  go_ret
  exact ⟨rfl, below_step hb5 (below_step hb4 (below_step hb3 (below_step hb2 hbw1)))⟩
end
end Go.Proofs.Ytabgdfbiocoimaa
