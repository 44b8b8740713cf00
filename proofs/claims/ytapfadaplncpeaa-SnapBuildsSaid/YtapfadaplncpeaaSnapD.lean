/- Package snap: in, Drop. -/
import Derived.Test.YtapfadaplncpeaaRef18S
namespace Go.Proofs.Ytapfadaplncpeaa
open Go.RowKit
set_option maxRecDepth 20000
set_option maxHeartbeats 1000000

def groupZ (ix : Int) : Int :=
  if ix / 4096 = 1 then 2 else if 2 ≤ ix / 4096 ∧ ix / 4096 ≤ 5 then 4 else if 6 ≤ ix / 4096 ∧ ix / 4096 ≤ 9 then 3 else 1
def inB (ix g : Int) : Bool := decide (g = 1 ∨ (2 ≤ g ∧ g ≤ 4 ∧ groupZ ix = g))

theorem entry_group (i s : Int) (a2 a3 a4 a5 a6 a7 a8 a9 a10 : Value) (w : World) :
    Calls Try.prog 120 #[.agg #[.int .i64 i, .int .i64 s, a2, a3, a4, a5, a6, a7, a8, a9, a10]] w
      fun e w' => e = .returned (.int .i64 (groupZ i)) ∧ Below w.heap.size w w' := by
  go_enter Try.func120, Try.ntmps120
  go_wp2
  all_goals
    go_ret
    refine ⟨ret_int ?_, below_alloc (Below.refl _ _) _⟩
    simp only [beq_iff_eq, beq_eq_false_iff_ne, ne_eq] at *
    unfold groupZ
    show (_ : Int) = _
    (repeat' split) <;> first | rfl | omega

theorem snap_in (i s g : Int) (a2 a3 a4 a5 a6 a7 a8 a9 a10 : Value) (w : World) :
    Calls Try.prog 95 #[.agg #[.int .i64 i, .int .i64 s, a2, a3, a4, a5, a6, a7, a8, a9, a10], .int .i64 g] w
      fun e w' => e = .returned (.bool (inB i g)) ∧ Below w.heap.size w w' := by
  by_cases h1 : g = 1
  · subst h1
    go_enter Try.func95, Try.ntmps95
    go_wp2_with fail
    go_ret
    exact ⟨ret_bool (by simp [inB]), below_alloc (Below.refl _ _) _⟩
  · have h1' : (g == 1) = false := by simpa using h1
    by_cases h2 : 2 ≤ g ∧ g ≤ 4
    · obtain ⟨h2, h3⟩ := h2
      have HF := hide (show (groupZ i == g) = inB i g by rw [Bool.eq_iff_iff]; simp [inB]; omega)
      clear h1
      go_enter Try.func95, Try.ntmps95
      go_wp2_with (go_at_call 120; (with_reducible refine (entry_group _ _ _ _ _ _ _ _ _ _ _ _).mono ?_); rintro e w1 ⟨rfl, hb1⟩)
      go_ret
      exact ⟨ret_bool HF.out, below_step hb1 (below_alloc (Below.refl _ _) _)⟩
    · have HF := hide (show false = inB i g by simp [inB]; omega)
      have h4 : g ≤ 1 ∨ 4 < g := by omega
      clear h1 h2
      rcases h4 with h4 | h4
      all_goals
        go_enter Try.func95, Try.ntmps95
        go_wp2_with fail
        go_ret
        exact ⟨ret_bool HF.out, below_alloc (Below.refl _ _) _⟩

/-- what is left of values without a group -/
def dropL (L : List SV) (g : Int) : List SV := L.filter fun v => !inB v.ix g

theorem snap_drop (A : Option Addr) (n c : Nat) (L : List SV) (g : Int) (w : World) (hn : n = L.length) (hc : n ≤ c) (hl : n ≤ 35184372) (hL : SlV w A L) (hf : fitsV L) :
    Calls Try.prog 60 #[.slice A n c, .int .i64 g] w fun e w' => ∃ A' n' c' ds, e = .returned (.slice A' n' c') ∧ OwnV w' w.heap.size A' n' c' (dropL L g) ds ∧ Below w.heap.size w w' := by
  have HN := hide hn
  clear hn
  go_enter Try.func60, Try.ntmps60
  go_wp2_with fail
  go_loopw [5, 10] (fun v5 i wr => ∃ k ds A' m c', k ≤ n ∧ i = .int .i64 (k : Nat) ∧ v5 = .slice A' m c' ∧ OwnV wr w.heap.size A' m c' (dropL (L.take k) g) ds ∧ m ≤ k ∧ Below w.heap.size w wr) (fun _ i _ => n - (intOf i).toNat)
  case atStart => exact ⟨0, [], _, _, _, by omega, rfl, rfl, OwnV.nil _ _, by omega, Below.refl _ _⟩
  case round =>
    obtain ⟨k, ds, A', m, c', hk, rfl, rfl, hO, hmk, hbr⟩ := hrel
    by_cases hlt : k < n
    · obtain ⟨v, hv⟩ : ∃ v, L[k]? = some v := ⟨L[k]'(by have := HN.out; omega), List.getElem?_eq_getElem _⟩
      obtain ⟨b, off, Aj, cj, rfl, h0, h1, h2, h4, h5⟩ := (hL.below hbr) k v hv
      have hfd := hf _ (List.mem_of_getElem? hv)
      have htk := hide (show dropL (L.take (k + 1)) g = dropL (L.take k) g ++ (if inB v.ix g then [] else [v]) by
        obtain ⟨hkl, rfl⟩ := List.getElem?_eq_some_iff.1 hv
        rw [List.take_succ_eq_append_getElem hkl, dropL, List.filter_append]
        cases hi : inB L[k].ix g <;> simp [dropL, hi])
      clear hv
      have k1 := blk_one wr 35 #[.int .i64 v.ix, .int .i64 v.sub, .slice Aj v.data.length cj]
      by_cases hi : inB v.ix g = true
      · go_wp2_with fail
        refine (snap_place _ _ _ _).mono ?_
        rintro e w1 ⟨rfl, hb1⟩
        go_wp2_with fail
        refine (snap_in _ _ _ _ _ _ _ _ _ _ _ _ _).mono ?_
        rintro e w2 ⟨rfl, hb2⟩
        have hb12 := below_step hb2 (below_step hb1 (below_alloc (Below.refl _ _) _))
        go_wp2_with fail
        go_roundw
        case rel => exact ⟨k + 1, ds, _, _, _, by omega, by go_num, rfl, by rw [htk.out, hi]; simpa using hO.below hb12, by omega, below_step hb12 hbr⟩
        case measure => simp [intOf]; omega
      · have hi : inB v.ix g = false := by simpa using hi
        go_wp2_with fail
        refine (snap_place _ _ _ _).mono ?_
        rintro e w1 ⟨rfl, hb1⟩
        go_wp2_with fail
        refine (snap_in _ _ _ _ _ _ _ _ _ _ _ _ _).mono ?_
        rintro e w2 ⟨rfl, hb2⟩
        have k2 := (k1.below hb1 k1.lt).below hb2 (k1.below hb1 k1.lt).lt
        have d0 := k2.cell 0 rfl
        have d1 := k2.cell 1 rfl
        have d2 := k2.cell 2 rfl
        have hb12 := below_step hb2 (below_step hb1 (below_alloc (Below.refl _ _) _))
        go_wp2_with fail
        refine (snap_held _ _ _ _ _ v.data _ rfl hfd (h5.below hb12)).mono ?_
        rintro e w3 ⟨A3, c3, rfl, hO3, hb3⟩
        have hb13 := below_step hb3 hb12
        have hbr3 := below_step hb13 hbr
        have hpair := hide (show ∀ d' ∈ ds, ∀ g, d'.1 = some (⟨g, 0, none⟩ : Addr) → A3 ≠ some ⟨g, 0, none⟩ from by
          intro d' hd' g hg hA1
          obtain ⟨j, hj, rfl⟩ := List.getElem_of_mem hd'
          obtain ⟨u, hu⟩ : ∃ u, (dropL (L.take k) _)[j]? = some u := ⟨(dropL (L.take k) _)[j]'(by rw [← hO.hd]; exact hj), List.getElem?_eq_getElem _⟩
          have hdat := hO.data j u _ hu (List.getElem?_eq_getElem hj)
          have hs := hb12.size
          rcases hdat.own.shape with ⟨h1, _⟩ | ⟨g1, h1, _, h3⟩
          · rw [h1] at hg; cases hg
          · rw [h1] at hg
            injection hg with hg
            injection hg with hg
            subst hg
            rcases hO3.own.shape with ⟨h4, _⟩ | ⟨g2, h4, h5, _⟩
            · rw [h4] at hA1; cases hA1
            · rw [h4] at hA1
              injection hA1 with hA1
              injection hA1 with hA1
              omega)
        go_wp2_with (at_builtin; go_must (refine app_v _ rfl (.tmp 19) (.tmp 22) rfl w.heap.size _ _ _ _ _ rfl ((hO.below hb13).below (by repeat' (first | with_reducible assumption | with_reducible exact Below.refl _ _ | with_reducible apply below_alloc | with_reducible apply below_drew1 | with_reducible apply below_drewN | (with_reducible apply below_step; with_reducible assumption) | (with_reducible apply below_sg2; (first | exact Nat.le_refl _ | (simp; done) | omega))))) v (A3, c3) _ rfl (by exact (Blk.new _ _ _).sl) ((hO3.mono (B' := w.heap.size) (by have := hbr.size; have := hb12.size; omega)).below (by repeat' (first | with_reducible assumption | with_reducible exact Below.refl _ _ | with_reducible apply below_alloc | with_reducible apply below_drew1 | with_reducible apply below_drewN | (with_reducible apply below_step; with_reducible assumption) | (with_reducible apply below_sg2; (first | exact Nat.le_refl _ | (simp; done) | omega))))) hpair.out (by omega) (by have := hbr3.size; simp; omega) (m + 1) rfl ?_); intro A4 c4 w4 hO4 hb4)
        go_roundw
        case rel => exact ⟨k + 1, _, _, _, _, by omega, by go_num, rfl, by rw [htk.out, hi]; simpa using hO4, by omega, (below_alloc hbr3 _).trans hb4⟩
        case measure => simp [intOf]; omega
    · have hkn : k = n := by omega
      subst hkn
      go_wp2_with fail
      go_ret
      refine ⟨_, _, _, ds, rfl, ?_, hbr⟩
      have e1 : L.take k = L := List.take_of_length_le (by have := HN.out; omega)
      rw [e1] at hO
      exact hO
end Go.Proofs.Ytapfadaplncpeaa
