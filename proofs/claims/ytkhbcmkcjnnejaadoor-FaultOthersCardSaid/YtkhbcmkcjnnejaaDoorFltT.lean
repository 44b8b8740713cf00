/- law04: wrapped. -/
import Derived.Test.YtkhbcmkcjnnejaaDoorFltS
import Derived.Test.YtkhbcmkcjnnejaaDoorFltQ
import Derived.Test.YtkhbcmkcjnnejaaDoorFltN
import Derived.Test.YtkhbcmkcjnnejaaDoorFltI
namespace Go.Proofs.YtkhbcmkcjnnejaaDoor
set_option linter.unusedVariables false
set_option linter.unusedSimpArgs false
set_option linter.unnecessarySimpa false
open Go.RowKit Go.Extern.Stop Go.Stop Go.Extern
set_option maxRecDepth 20000
set_option maxHeartbeats 8000000

def endW (L : List Nat) : FEnd := .sent (famN (cntN (L.getD (L.length - 1) 0)))
/-- what stands in the fault's cell when the codes from `k` on are wrapped -/
def WrC (w : World) (a : Nat → Addr) (L : List Nat) (k : Nat) (v : Value) : Prop :=
  (k = L.length ∧ v = .nilIface) ∨ (k < L.length ∧ Ch w a (endW L) ((L.drop k).map cntN) v)
theorem WrC.below {w w' : World} {a : Nat → Addr} {L : List Nat} {k : Nat} {v : Value} (h : WrC w a L k v) (hb : Below w.heap.size w w') : WrC w' a L k v :=
  h.elim (fun h => .inl h) (fun h => .inr ⟨h.1, h.2.below hb⟩)
theorem WrC.shape {w : World} {a : Nat → Addr} {L : List Nat} {k : Nat} {v : Value} (h : WrC w a L k v) : v = .nilIface ∨ ∃ tt x, v = .iface tt x := by
  rcases h with ⟨_, h⟩ | ⟨_, h⟩
  · exact .inl h
  · exact .inr (ch_iface h)
theorem WrC.set0 {w : World} {a : Nat → Addr} {L : List Nat} {k g : Nat} {v u : Value} {xs : Array Value} (h : WrC w a L k v) (hB : Blk w g 28 xs) (x : Value) : WrC (w.setCell ⟨g, 0, none⟩ x) a L k v :=
  h.elim (fun h => .inl h) (fun h => .inr ⟨h.1, h.2.only1 hB (by decide) (by decide) (Only.set (fun k => k = g) (Only.refl _ w) (p := g) (i := 0) rfl x)⟩)
theorem wr_under (a : Nat → Addr) {M : Nat} (L : List Nat) (m : Nat) (v : Value) (w : World) (hm : m < L.length) (hL : ∀ x ∈ L, x ≤ 4294967295) (hG : GV w a M) (hC : WrC w a L (m + 1) v) :
    Calls Tryd.prog 23 #[.int .u32 ((L.getD m 0 : Nat) : Int), .agg #[v]] w fun e w' => ∃ u, e = .returned (.agg #[u]) ∧ WrC w' a L m u ∧ Below w.heap.size w w' := by
  have hcm : L.getD m 0 = L[m] := by rw [List.getD_eq_getElem?_getD, List.getElem?_eq_getElem hm]; rfl
  have hc : L.getD m 0 ≤ 4294967295 := by rw [hcm]; exact hL _ (List.getElem_mem _)
  rcases hC with ⟨h1, rfl⟩ | ⟨h1, h2⟩
  · refine (fa_Under0 _ a w hc hG).mono ?_
    rintro e w' ⟨u, rfl, hc2, hb⟩
    refine ⟨u, rfl, .inr ⟨hm, ?_⟩, hb⟩
    rw [List.drop_eq_getElem_cons hm, List.drop_eq_nil_of_le (by omega), ← hcm]
    unfold endW
    rw [show L.length - 1 = m by omega]
    exact hc2
  · refine (fa_Under _ a _ _ v w hc h2).mono ?_
    rintro e w' ⟨u, rfl, hc2, hb⟩
    refine ⟨u, rfl, .inr ⟨hm, ?_⟩, hb⟩
    rw [List.drop_eq_getElem_cons hm, ← hcm]
    exact hc2
theorem la_wrapped (a : Nat → Addr) (M : Nat) (A : Option Addr) (n cp : Nat) (L : List Nat) (w : World) (hG : GV w a M) (hM : M ≤ w.heap.size) (hn : n = L.length) (hn5 : n ≤ 60) (hs : Sl w A (L.map cv)) (hL : ∀ x ∈ L, x ≤ 4294967295) :
    Calls Tryd.prog 9 #[.slice A n cp] w fun e w' => ∃ u, e = .returned (.agg #[u]) ∧ WrC w' a L 0 u ∧ Below w.heap.size w w' := by
  have hb := below_alloc (below_alloc (Below.refl w.heap.size w) (.cells #[.nilIface] 28)) (.cells #[.nilIface] 28)
  have kk := blk_two w 28 28 #[.nilIface] #[.nilIface]
  obtain ⟨R, hR⟩ : ∃ R, R = w.heap.size + 1 := ⟨_, rfl⟩
  have HR := hide hR
  have hRw : w.heap.size < R := by omega
  rw [← hR] at kk
  have HKK := hide kk
  have HB0 := hide hb
  have HN := hide hn
  have HS := hide hs
  have HL := hide hL
  have HG := hide hG
  clear hb kk hR hn hs hL hG
  go_enter Tryd.func9, Tryd.ntmps9
  go_wp2_with fail
  rw [← HR.out]
  refine wp_gen (P := fun W => Blk W w.heap.size 28 #[.nilIface] ∧ Blk W R 28 #[.nilIface] ∧ Below w.heap.size w W) ⟨HKK.out.1, HKK.out.2, HB0.out⟩ ?_
  rintro W ⟨hk0, hk1, hBW⟩
  have HK0 := hide hk0
  have HK1 := hide hk1
  have HBW := hide hBW
  clear hk0 hk1 hBW
  go_loopw [4] (fun i wr => ∃ (k : Nat) (z : Int) (v : Value), k ≤ n ∧ i = .int .i64 z ∧ z = (k : Int) - 1 ∧ Hid (WrC wr a L k v) ∧ Hid (Blk wr w.heap.size 28 #[.nilIface]) ∧ Hid (Blk wr R 28 #[v]) ∧ Hid (Below w.heap.size w wr)) (fun i _ => (intOf i + 1).toNat)
  case atStart => exact ⟨n, _, .nilIface, by omega, rfl, by omega, hide (.inl ⟨HN.out, rfl⟩), HK0, HK1, HBW⟩
  case round =>
    obtain ⟨k, z, v, hk, rfl, hz, HW, HQ0, HQ1, HBr⟩ := hrel
    rcases Nat.eq_zero_or_pos k with h0 | h0
    · subst h0
      obtain rfl : z = -1 := by omega
      clear hz hk
      rcases WrC.shape HW.out with rfl | ⟨tt, x, rfl⟩
      · skip
        have x1 := HQ1.out.cell 0 (u := .nilIface) rfl
        have x0 := HQ0.out.cell 0 (u := .nilIface) rfl
        have f0 := HQ0.out.frozen 0
        go_wp2_with fail
        refine ret_fault rfl rfl (by rfl) (HQ0.out.set_ 0 _) ?_
        exact ⟨_, rfl, HW.out.set0 (u := .nilIface) HQ0.out _, below_set HBr.out (p := ⟨w.heap.size, 0, none⟩) (Nat.le_refl _) _⟩
      · skip
        have x1 := HQ1.out.cell 0 (u := .iface tt x) rfl
        have x0 := HQ0.out.cell 0 (u := .nilIface) rfl
        have f0 := HQ0.out.frozen 0
        go_wp2_with fail
        refine ret_fault rfl rfl (by rfl) (HQ0.out.set_ 0 _) ?_
        exact ⟨_, rfl, HW.out.set0 (u := .nilIface) HQ0.out _, below_set HBr.out (p := ⟨w.heap.size, 0, none⟩) (Nat.le_refl _) _⟩
    · obtain ⟨m, rfl⟩ : ∃ m, k = m + 1 := ⟨k - 1, by omega⟩
      obtain rfl : z = (m : Nat) := by omega
      have hmL : m < L.length := by rw [← HN.out]; exact hk
      obtain ⟨b, off, rfl, c0⟩ := (HS.out.below HBr.out).at_ (j := m) (u := .int .u32 ((L.getD m 0 : Nat) : Int)) (by rw [List.getElem?_map, List.getElem?_eq_getElem hmL, List.getD_eq_getElem?_getD, List.getElem?_eq_getElem hmL]; rfl)
      obtain ⟨d, hd⟩ : ∃ d, d = L.getD m 0 := ⟨_, rfl⟩
      rw [← hd] at c0
      have HU := hide (fun W (h : Below wr.heap.size wr W) => wr_under a L m v W hmL HL.out ((HG.out.below HBr.out).below h) (HW.out.below h))
      rw [← hd] at HU
      clear hd hmL hz
      have x1 := HQ1.out.cell 0 (u := v) rfl
      have HE := hide (show ∀ W u, WrC W a L m u → m < L.length → ∃ tt x, u = .iface tt x from fun W u h1 h2 => h1.elim (fun h => by omega) (fun h => ch_iface h.2))
      have HML := hide (show m < L.length from by rw [← HN.out]; exact hk)
      have hmn : m < n := hk
      go_wp2_with fail
      refine wp_region_T (fun w' => w'.cell? ⟨R, 0, none⟩ = some v ∧ w'.cell? ⟨b, off + m, none⟩ = some (.int .u32 (d : Nat))) [0, 1, 2, 3, 4, 5] (by kernel_rfl) ?hS1 (fun hHeld => ?rest1)
      case hS1 => ((try dsimp only); exact ⟨x1, c0⟩)
      case' rest1 => skip
      refine wpAnyT_take (by kernel_rfl) (by kernel_rfl) (i := 0) (oi := _) (v := ?v2) rfl (by kernel_rfl) (by kernel_rfl) (by kernel_rfl) (fun _ _ _ h => h) (Or.inl ⟨by rfl, ?hy2⟩) (by assumption) ?rest2
      case hy2 => ((intro w hSw; (try dsimp only at hSw); go_simp) <;> with_reducible rfl)
      case' rest2 => try simp only [List.getElem_toArray, List.getElem_cons_zero, List.getElem_cons_succ, Act.put, List.setIfInBounds_toArray, List.set_cons_zero, List.set_cons_succ]
      refine wpAnyT_take (by kernel_rfl) (by kernel_rfl) (i := 1) (oi := _) (v := ?v3) rfl (by kernel_rfl) (by kernel_rfl) (by kernel_rfl) (fun _ _ _ h => h) (Or.inl ⟨by rfl, ?hy3⟩) (by assumption) ?rest3
      case hy3 => ((intro w hSw; (try dsimp only at hSw); go_simp) <;> with_reducible rfl)
      case' rest3 => try simp only [List.getElem_toArray, List.getElem_cons_zero, List.getElem_cons_succ, Act.put, List.setIfInBounds_toArray, List.set_cons_zero, List.set_cons_succ]
      refine wpAnyT_take (by kernel_rfl) (by kernel_rfl) (i := 2) (oi := _) (v := ?v4) rfl (by kernel_rfl) (by kernel_rfl) (by kernel_rfl) (fun _ _ _ h => h) (Or.inl ⟨by rfl, ?hy4⟩) (by assumption) ?rest4
      case hy4 => ((intro w hSw; (try dsimp only at hSw); go_simp) <;> with_reducible rfl)
      case' rest4 => try simp only [List.getElem_toArray, List.getElem_cons_zero, List.getElem_cons_succ, Act.put, List.setIfInBounds_toArray, List.set_cons_zero, List.set_cons_succ]
      refine wpAnyT_take (by kernel_rfl) (by kernel_rfl) (i := 3) (oi := _) (v := ?v5) rfl (by kernel_rfl) (by kernel_rfl) (by kernel_rfl) (fun _ _ _ h => h) (Or.inl ⟨by rfl, ?hy5⟩) (by assumption) ?rest5
      case hy5 => ((intro w hSw; (try dsimp only at hSw); go_simp) <;> with_reducible rfl)
      case' rest5 => try simp only [List.getElem_toArray, List.getElem_cons_zero, List.getElem_cons_succ, Act.put, List.setIfInBounds_toArray, List.set_cons_zero, List.set_cons_succ]
      refine wpAnyT_take (by kernel_rfl) (by kernel_rfl) (i := 4) (oi := _) (v := ?v6) rfl (by kernel_rfl) (by kernel_rfl) (by kernel_rfl) (fun _ _ _ h => h) (Or.inl ⟨by rfl, ?hy6⟩) (by assumption) ?rest6
      case hy6 => ((intro w hSw; (try dsimp only at hSw); go_simp) <;> with_reducible rfl)
      case' rest6 => try simp only [List.getElem_toArray, List.getElem_cons_zero, List.getElem_cons_succ, Act.put, List.setIfInBounds_toArray, List.set_cons_zero, List.set_cons_succ]
      refine wpAnyT_one (i := 5) (o := _) rfl (by kernel_rfl) (fun K hK => ?_)
      go_simp
      refine (HU.out _ (below_drew1 (Below.refl _ _))).mono ?_
      rintro e' w1 ⟨u, rfl, hW1, hb1⟩
      obtain ⟨tt, x, rfl⟩ := HE.out _ _ hW1 HML.out
      have HB1 : Hid (Below wr.heap.size wr w1) := hide (below_step hb1 (below_drew1 (Below.refl _ _)))
      have HW1 := hide hW1
      have y1 := (HB1.out.cell (lt_of_cell x1)).trans x1
      have y0 := (HB1.out.cell (lt_of_cell c0)).trans c0
      have f1 := (HQ1.out.below HB1.out HQ1.out.lt).frozen 0
      clear hW1 hb1
      try dsimp only
      refine hK.out _ _ ?hS8 (fun hHeld => ?rest8)
      case hS8 => ((try dsimp only); (exact ⟨y1, y0⟩))
      case' rest8 => (clear hK K; try simp only [List.getElem_toArray, List.getElem_cons_zero, List.getElem_cons_succ, Act.put, List.setIfInBounds_toArray, List.set_cons_zero, List.set_cons_succ])
      refine wpAnyT_late (i := 6) (o := _) rfl (by kernel_rfl) (by kernel_rfl) (fun K hK => ?_)
      go_simp
      refine hK.out _ _ ?rest10
      case' rest10 => (clear hK K; try simp only [List.getElem_toArray, List.getElem_cons_zero, List.getElem_cons_succ, Act.put, List.setIfInBounds_toArray, List.set_cons_zero, List.set_cons_succ])
      refine wpAnyT_done (by kernel_rfl) ?_ _
      repeat (clear hHeld)
      go_wp2_with fail
      go_roundw
      case rel =>
        have q0 := HQ0.out.below HB1.out HQ0.out.lt
        have q1 := HQ1.out.below HB1.out HQ1.out.lt
        exact ⟨m, _, .iface tt x, by omega, rfl, by omega, hide (HW1.out.set0 (u := v) q1 _), hide (q0.far (p := ⟨R, 0, none⟩) (by show w.heap.size ≠ R; omega) _), hide (q1.set_ 0 _), hide (below_set (below_step HB1.out HBr.out) (p := ⟨R, 0, none⟩) (by show w.heap.size ≤ R; omega) _)⟩
      case measure => simp [intOf]
end Go.Proofs.YtkhbcmkcjnnejaaDoor
