/- Package wheelhouseref18: In, Lent, Drop, Once. -/
import Derived.Test.YtmnldciobeeleaaLisC
import Derived.Test.YtmnldciobeeleaaSnpA
import Derived.Test.YtmnldciobeeleaaEntB
import Derived.Test.YtmnldciobeeleaaRDicA
namespace Go.Proofs.Ytmnldciobeeleaa
set_option linter.unusedVariables false
set_option linter.unusedSimpArgs false
set_option linter.unnecessarySimpa false
open Go.RowKit
set_option maxRecDepth 20000
set_option maxHeartbeats 4000000

theorem rsnap_in (ix g : Int) (w : World) (hi : I64 ix) : Calls Try.prog 26 #[.int .i64 ix, .int .i64 g] w fun e w' => e = .returned (.bool (inE ix g)) ∧ Below w.heap.size w w' := by
  have HG := hide (fun W => rent_group ⟨ix, 0, ⟨#[]⟩, 0, 0, false, false, 0, 0, 0, []⟩ none 0 0 W hi)
  unfold entV at HG
  dsimp only at HG
  by_cases h1 : g = 1
  · subst h1
    go_enter Try.func26, Try.ntmps26
    go_wp2_with fail
    go_ret
    exact ⟨ret_bool (by simp [inE]), Below.refl _ _⟩
  · have h1' : (g == 1) = false := by simpa using h1
    by_cases h2 : 2 ≤ g ∧ g ≤ 4
    · obtain ⟨h2, h3⟩ := h2
      have HF := hide (show (groupE ix == g) = inE ix g by rw [Bool.eq_iff_iff]; simp [inE]; omega)
      clear h1
      go_enter Try.func26, Try.ntmps26
      go_wp2_with fail
      refine (HG.out _).mono ?_
      rintro e w1 ⟨rfl, hb1⟩
      go_wp2_with fail
      go_ret
      exact ⟨ret_bool HF.out, hb1⟩
    · have HF := hide (show false = inE ix g by simp [inE]; omega)
      have h4 : g < 2 ∨ 4 < g := by omega
      clear h1 h2
      rcases h4 with h4 | h4
      · go_enter Try.func26, Try.ntmps26
        go_wp2_with fail
        go_ret
        exact ⟨ret_bool HF.out, Below.refl _ _⟩
      · have h5 : 2 ≤ g := by omega
        go_enter Try.func26, Try.ntmps26
        go_wp2_with fail
        go_ret
        exact ⟨ret_bool HF.out, Below.refl _ _⟩
theorem ret_val {fn : Func} {p : Tmp} (h : fn.results = #[.cell p 40]) {x : Act} {w : World} {g : Nat} {v1 v2 v3 : Value} {R : Ending → World → Prop} (hd : x.defers = []) (hp : x.tmps.getD p undef = .pointer (some ⟨g, 0, none⟩))
    (hB : Blk w g 40 #[v1, v2, v3]) (hR : R (.returned (.agg #[v1, v2, v3])) w) : bodyPost Try.prog fn R .ret x w := by
  exact bodyPost_ret (results_cell_row (P := Try.prog) h x.tmps w g _ #[v1, v2, v3] (0, 0) _ hp hB Try.underlying40 rfl sizeV3) hd hR
theorem rsnap_lent (v : SV) (A : Option Addr) (c : Nat) (w : World) (hl : v.data.length ≤ 35184372088832) (hs : Sl w A (v.data.map bv)) :
    Calls Try.prog 30 #[.agg #[.int .i64 v.ix, .int .i64 v.sub, .slice A v.data.length c]] w fun e w' => ∃ A' c', e = .returned (.agg #[.int .i64 v.ix, .int .i64 v.sub, .slice A' v.data.length c']) ∧ OwnB w' (w.heap.size + 2) A' v.data.length c' v.data ∧ Below w.heap.size w w' := by
  obtain ⟨n, hn⟩ : ∃ n, n = v.data.length := ⟨_, rfl⟩
  have hb := below_alloc (below_alloc (Below.refl w.heap.size w) (.cells #[.int .i64 v.ix, .int .i64 v.sub, .slice A n c] 40)) (.cells #[.int .i64 0, .int .i64 0, .slice none 0 0] 40)
  have kk := blk_two w 40 40 #[.int .i64 v.ix, .int .i64 v.sub, .slice A n c] #[.int .i64 0, .int .i64 0, .slice none 0 0]
  have HJ := hide (join_nil A n c v.data _ hn (by omega) (hs.below hb))
  rw [← hn]
  obtain ⟨R, hR⟩ : ∃ R, R = w.heap.size + 1 := ⟨_, rfl⟩
  rw [← hR] at kk
  have HR := hide hR
  have HKK := hide (And.intro kk hb)
  have HNN := hide hn
  have hRw : w.heap.size < R := by omega
  have q0 := kk.1.cell 2 (u := .slice A n c) rfl
  clear hn hs hl kk hb hR
  go_enter Try.func30, Try.ntmps30
  go_wp2_with fail
  rw [← HR.out]
  refine HJ.out.mono ?_
  rintro e w1 ⟨A', c', rfl, hO, hb1⟩
  have k0 := HKK.out.1.1.below hb1 HKK.out.1.1.lt
  have k1 := HKK.out.1.2.below hb1 HKK.out.1.2.lt
  have x0 := k0.cell 0 (u := .int .i64 v.ix) rfl
  have x1 := k0.cell 1 (u := .int .i64 v.sub) rfl
  have x2 := k0.cell 2 (u := .slice A n c) rfl
  have f0 := k0.frozen
  have y0 := k1.cell 0 (u := .int .i64 0) rfl
  have y1 := k1.cell 1 (u := .int .i64 0) rfl
  have y2 := k1.cell 2 (u := .slice none 0 0) rfl
  have f1 := k1.frozen
  have HO := hide (And.intro hO (below_step hb1 HKK.out.2))
  have HK1 := hide k1
  clear hO hb1 k0 k1 q0
  go_wp2_with fail
  have hsz : ((w.alloc (.cells #[.int .i64 v.ix, .int .i64 v.sub, .slice A n c] 40)).alloc (.cells #[.int .i64 0, .int .i64 0, .slice none 0 0] 40)).heap.size = w.heap.size + 2 := by show ((w.heap.push _).push _).size = _; simp
  have hRR := HR.out
  refine ret_val rfl rfl (by rfl) (v1 := .int .i64 v.ix) (v2 := .int .i64 v.sub) (v3 := .slice A' n c') ?_ ?_
  · exact (((HK1.out.far (p := ⟨w.heap.size, 2, none⟩) (by show R ≠ w.heap.size; omega) _).set_ 0 _).set_ 1 _).set_ 2 _
  · refine ⟨_, _, rfl, ?_, ?_⟩
    · have h1 := HO.out.1
      rw [hsz] at h1
      exact (((h1.set_ (by show w.heap.size < _; omega) _).set_ (by show R < _; omega) _).set_ (by show R < _; omega) _).set_ (by show R < _; omega) _
    · exact below_set (below_set (below_set (below_set HO.out.2 (p := ⟨w.heap.size, 2, none⟩) (Nat.le_refl _) _) (p := ⟨R, 0, none⟩) (by show w.heap.size ≤ R; omega) _) (p := ⟨R, 1, none⟩) (by show w.heap.size ≤ R; omega) _) (p := ⟨R, 2, none⟩) (by show w.heap.size ≤ R; omega) _
abbrev DropR (X : List SV) (g : Int) (w : World) (e : Ending) (w' : World) : Prop := ∃ A' n' c' ds, e = .returned (.slice A' n' c') ∧ OwnV w' w.heap.size A' n' c' (dropL X g) ds ∧ Below w.heap.size w w'
theorem rsnap_drop (A : Option Addr) (n c : Nat) (L : List SV) (g : Int) (w : World) (hn : n = L.length) (hl : n ≤ 35184372) (hL : SlV w A L) (hf : fitsV L) (hi : ∀ v ∈ L, I64 v.ix) :
    Calls Try.prog 11 #[.slice A n c, .int .i64 g] w (DropR L g w) := by
  have HN := hide hn
  have HL := hide hL
  have HF := hide hf
  have HI := hide hi
  clear hn hL hf hi
  go_enter Try.func11, Try.ntmps11
  go_wp2_with fail
  go_loopw [5, 6] (fun v5 i wr => ∃ k ds A' m c', k ≤ n ∧ i = .int .i64 (k : Nat) ∧ v5 = .slice A' m c' ∧ Hid (OwnV wr w.heap.size A' m c' (dropL (L.take k) g) ds) ∧ m ≤ k ∧ Hid (Below w.heap.size w wr)) (fun _ i _ => n - (intOf i).toNat)
  case atStart => exact ⟨0, [], _, _, _, by omega, rfl, rfl, hide (OwnV.nil _ _), by omega, hide (Below.refl _ _)⟩
  case round =>
    obtain ⟨k, ds, A', m, c', hk, rfl, rfl, HO, hmk, HB⟩ := hrel
    by_cases hlt : k < n
    · obtain ⟨v, hv⟩ : ∃ v, L[k]? = some v := ⟨L[k]'(by have := HN.out; omega), List.getElem?_eq_getElem _⟩
      obtain ⟨b, off, Aj, cj, rfl, e0, e1, e2, e4, e5⟩ := (HL.out.below HB.out) k v hv
      have hfd := HF.out _ (List.mem_of_getElem? hv)
      have HIN := hide (fun W => rsnap_in v.ix g W (HI.out _ (List.mem_of_getElem? hv)))
      have HTK := hide (show dropL (L.take (k + 1)) g = dropL (L.take k) g ++ (if inE v.ix g then [] else [v]) by
        rw [← inB_inE]
        obtain ⟨hkl, rfl⟩ := List.getElem?_eq_some_iff.1 hv
        rw [List.take_succ_eq_append_getElem hkl, dropL, List.filter_append]
        cases hi : inB L[k].ix g <;> simp [dropL, hi])
      have H5 := hide e5
      have HFD := hide hfd
      obtain ⟨vl, hvl⟩ : ∃ vl, vl = v.data.length := ⟨_, rfl⟩
      rw [← hvl] at e2 HFD
      have HVL := hide hvl
      obtain ⟨bi, hbi⟩ : ∃ bi, bi = inE v.ix g := ⟨_, rfl⟩
      rw [← hbi] at HIN HTK
      clear hv hfd hvl e4 e5 hbi
      cases bi
      · go_wp2_with fail
        refine (HIN.out _).mono ?_
        rintro e w1 ⟨rfl, hb1⟩
        have c0 := (hb1.cell (lt_of_cell e0)).trans e0
        have c1 := (hb1.cell (lt_of_cell e1)).trans e1
        have c2 := (hb1.cell (lt_of_cell e2)).trans e2
        have HB1 := hide hb1
        clear e0 e1 e2 hb1
        go_wp2_with fail
        have HLT := rsnap_lent v Aj cj w1 (by have := HFD.out; have := HVL.out; omega) (H5.out.below HB1.out)
        rw [← HVL.out] at HLT
        refine HLT.mono ?_
        clear HLT
        rintro e w2 ⟨A3, c3, rfl, hO3, hb2⟩
        have HB2 := hide (below_step hb2 HB1.out)
        have HPW := hide (new_ne HO.out.hd HO.out.data (show wr.heap.size ≤ w1.heap.size + 2 by have := HB1.out.size; omega) hO3)
        have HO3 := hide hO3
        have H12 := hide hb2.size
        clear c0 c1 c2 hO3 hb2
        have HOA := hide ((HO.out.below HB2.out).below (below_alloc (Below.refl w2.heap.size w2) (.cells #[.int .i64 v.ix, .int .i64 v.sub, .slice A3 v.data.length c3] 40)))
        have HDA : Hid (OwnB (w2.alloc (.cells #[.int .i64 v.ix, .int .i64 v.sub, .slice A3 v.data.length c3] 40)) w.heap.size A3 v.data.length c3 v.data) := hide ((by
          have := HO3.out
          rw [HVL.out] at this
          exact this.mono (by have := HB1.out.size; have := HB.out.size; omega) : OwnB w2 w.heap.size A3 v.data.length c3 v.data).below (below_alloc (Below.refl w2.heap.size w2) _))
        have HBZ := hide (Nat.le_trans HB.out.size (Nat.le_trans HB2.out.size (below_alloc (Below.refl w2.heap.size w2) (.cells #[.int .i64 v.ix, .int .i64 v.sub, .slice A3 v.data.length c3] 40)).size))
        rw [← HVL.out] at HOA HBZ
        go_wp2_with (at_builtin; refine app_v _ rfl _ _ rfl w.heap.size _ _ _ _ _ rfl HOA.out v (A3, c3) _ rfl (by rw [← HVL.out]; exact (Blk.new _ _ _).sl) (by have := HDA.out; rw [← HVL.out] at this ⊢; exact this) HPW.out (by omega) HBZ.out (m + 1) rfl ?_; intro A4 c4 w4 hO4 hb4)
        go_roundw
        case rel => exact ⟨k + 1, _, _, _, _, by omega, by go_num, rfl, hide (by rw [HTK.out]; simpa using hO4), by omega, hide ((below_alloc (below_step HB2.out HB.out) _).trans hb4)⟩
        case measure => simp [intOf]; omega
      · go_wp2_with fail
        refine (HIN.out _).mono ?_
        rintro e w1 ⟨rfl, hb1⟩
        go_wp2_with fail
        go_roundw
        case rel => exact ⟨k + 1, ds, A', m, c', by omega, by go_num, rfl, hide (by rw [HTK.out]; simpa using HO.out.below hb1), by omega, hide (below_step hb1 HB.out)⟩
        case measure => simp [intOf]; omega
    · have hkn : k = n := by omega
      subst hkn
      go_wp2_with fail
      go_ret
      refine ⟨_, _, _, ds, rfl, ?_, HB.out⟩
      have e1 : L.take k = L := List.take_of_length_le (by have := HN.out; omega)
      have := HO.out
      rw [e1] at this
      exact this
end Go.Proofs.Ytmnldciobeeleaa
