/- Package snap: Join. -/
import Derived.Test.YtehabbnohoomjaaGreatDoorNv45
import Derived.Test.YtehabbnohoomjaaGreatDoorNv43
namespace Go.Proofs.YtehabbnohoomjaaGreatDoor
section
set_option linter.unusedVariables false
set_option linter.unusedSimpArgs false
set_option linter.unnecessarySimpa false
open Go.RowKit
set_option maxRecDepth 20000
set_option maxHeartbeats 4000000

theorem ins_len (L : List SV) (v : SV) : (insV L v).length ≤ L.length + 1 := by
  induction L with
  | nil => simp [insV]
  | cons x L ih =>
    rw [insV]
    split
    · simp; omega
    · split <;> simp
theorem fold_len : ∀ (X L : List SV), (X.foldl insV L).length ≤ L.length + X.length
  | [], L => by simp
  | v :: X, L => by have h1 := fold_len X (insV L v); have h2 := ins_len L v; simp; omega
theorem fold_take {X L : List SV} {k : Nat} {v : SV} (h : X[k]? = some v) : (X.take (k + 1)).foldl insV L = insV ((X.take k).foldl insV L) v := by
  obtain ⟨hk, rfl⟩ := List.getElem?_eq_some_iff.1 h
  rw [List.take_succ_eq_append_getElem hk, List.foldl_append]
  rfl
def foJ (a b : List SV) (i : Nat) : List SV := if i = 0 then [] else if i = 1 then a.foldl insV [] else joinV a b
theorem foJ_len (a b : List SV) (i : Nat) : (foJ a b i).length ≤ a.length + b.length := by
  unfold foJ
  split
  · simp
  · split
    · have := fold_len a []; simp at this; omega
    · exact joinV_len a b
abbrev JoinR (a b : List SV) (w : World) (e : Ending) (w' : World) : Prop := ∃ A' n' c' ds', e = .returned (.slice A' n' c') ∧ OwnV w' w.heap.size A' n' c' (joinV a b) ds' ∧ Below w.heap.size w w'
theorem snap_join (A1 : Option Addr) (n1 c1 : Nat) (X1 : List SV) (A2 : Option Addr) (n2 c2 : Nat) (X2 : List SV) (w : World) (hn1 : n1 = X1.length) (hX1 : SlV w A1 X1) (hn2 : n2 = X2.length) (hX2 : SlV w A2 X2) (h1 : lightB X1 = true) (h2 : lightB X2 = true) :
    Calls Tryz.prog 50 #[.slice A1 n1 c1, .slice A2 n2 c2] w (JoinR X1 X2 w) := by
  have f1 : X1.length ≤ 200 ∧ ∀ v ∈ X1, v.data.length ≤ 2000 := of_decide_eq_true h1
  have f2 : X2.length ≤ 200 ∧ ∀ v ∈ X2, v.data.length ≤ 2000 := of_decide_eq_true h2
  have q0 := blk_one w 27 #[.slice A1 n1 c1, .slice A2 n2 c2]
  have hb0 := below_alloc (Below.refl w.heap.size w) (.cells #[.slice A1 n1 c1, .slice A2 n2 c2] 27)
  obtain ⟨R, hR⟩ : ∃ R, R = JoinR X1 X2 w := ⟨_, rfl⟩
  rw [← hR]
  have HR := hide hR
  obtain ⟨Q, hQ⟩ : ∃ Q, Q = w.heap.size := ⟨_, rfl⟩
  obtain ⟨W1, hW1⟩ : ∃ W, W = w.alloc (.cells #[.slice A1 n1 c1, .slice A2 n2 c2] 27) := ⟨_, rfl⟩
  have HW1 := hide hW1
  have HQ := hide hQ
  rw [← hQ] at q0
  rw [← hW1] at q0 hb0
  have HQ0 := hide q0
  have HB0 := hide hb0
  have HS1 : Hid (W1.heap.size = w.heap.size + 1) := hide (by rw [hW1]; show (w.heap.push _).size = _; simp)
  have HN1 := hide hn1
  have HN2 := hide hn2
  have HX1 := hide hX1
  have HX2 := hide hX2
  have HF1 := hide f1
  have HF2 := hide f2
  have hm1 : n1 ≤ 200 := by omega
  have hm2 : n2 ≤ 200 := by omega
  clear hR hQ hW1 q0 hb0 hn1 hn2 hX1 hX2 h1 h2 f1 f2
  go_enter Tryz.func50, Tryz.ntmps50
  go_wp2_with fail
  rw [← HW1.out, ← HQ.out]
  go_loopw [5, 7, 9, 14] (fun s5 _ _ t14 wr => ∃ (i : Nat) (z : Int) (A : Option Addr) (n c : Nat) (ds : List (Option Addr × Nat)), i ≤ 2 ∧ z = (i : Nat) ∧ t14 = .int .i64 z ∧ s5 = .slice A n c ∧ Hid (OwnV wr W1.heap.size A n c (foJ X1 X2 i) ds ∧ Below w.heap.size w wr ∧ Blk wr Q 27 #[.slice A1 n1 c1, .slice A2 n2 c2] ∧ W1.heap.size ≤ wr.heap.size)) (fun _ _ _ t14 _ => 2 - (intOf t14).toNat)
  case atStart => exact ⟨0, 0, none, 0, 0, [], by omega, rfl, rfl, rfl, hide ⟨OwnV.nil _ _, HB0.out, HQ0.out, Nat.le_refl _⟩⟩
  case round =>
    obtain ⟨i, z, A, n, c, ds, hi, hz, rfl, rfl, HK⟩ := hrel
    have qc0 := HK.out.2.2.1.cell 0 (u := .slice A1 n1 c1) rfl
    have qc1 := HK.out.2.2.1.cell 1 (u := .slice A2 n2 c2) rfl
    have hways : i = 0 ∨ i = 1 ∨ i = 2 := by omega
    rcases hways with rfl | rfl | rfl
    · obtain rfl : z = 0 := by omega
      clear hz hi
      go_wp2_with fail
      go_loopw [5, 9, 20] (fun s5 _ t20 wx => ∃ (k : Nat) (A : Option Addr) (n c : Nat) (ds : List (Option Addr × Nat)), k ≤ n1 ∧ t20 = .int .i64 (k : Nat) ∧ s5 = .slice A n c ∧ Hid (OwnV wx W1.heap.size A n c ((X1.take k).foldl insV (foJ X1 X2 0)) ds ∧ Below w.heap.size w wx ∧ Blk wx Q 27 #[.slice A1 n1 c1, .slice A2 n2 c2] ∧ W1.heap.size ≤ wx.heap.size)) (fun _ _ t20 _ => n1 - (intOf t20).toNat)
      case atStart => exact ⟨0, A, n, c, ds, by omega, rfl, rfl, hide HK.out⟩
      case round =>
        clear HK qc0 qc1
        obtain ⟨k, A, n, c, ds, hk, rfl, rfl, HK⟩ := hrel
        by_cases hlt : k < n1
        · obtain ⟨v, hv⟩ : ∃ v, X1[k]? = some v := ⟨X1[k]'(by have := HN1.out; omega), List.getElem?_eq_getElem _⟩
          obtain ⟨b, off, Aj, cj, rfl, e0, e1, e2, e4, e5⟩ := (HX1.out.below HK.out.2.1) k v hv
          obtain ⟨vl, hvl⟩ : ∃ vl, vl = v.data.length := ⟨_, rfl⟩
          have hx5 : ∀ W, Below w.heap.size w W → Sl W Aj (v.data.map bv) := fun W hW => by
            obtain ⟨b', off', Aj', cj', h, _, _, h3, _, h5⟩ := HX1.out k v hv
            have c2' := (hW.cell (lt_of_cell h3)).trans h3
            have c2'' := (HK.out.2.1.cell (lt_of_cell h3)).trans h3
            simp only [Option.some.injEq, Addr.mk.injEq, and_true] at h
            obtain ⟨rfl, rfl⟩ := h
            rw [e2] at c2''
            injection c2'' with c2''
            injection c2'' with c2'' _ _
            rw [c2'']
            exact h5.below hW
          have hvf := HF1.out.2 v (List.mem_of_getElem? hv)
          have hn4 : n ≤ 1000 := by
            have h1 := HK.out.1.hn
            have h2 := fold_len (X1.take k) (foJ X1 X2 0)
            have h3 := foJ_len X1 X2 0
            have h4 := HF1.out.1
            have h5 := HF2.out.1
            rw [List.length_take] at h2
            omega
          have HT := hide (fold_take (L := foJ X1 X2 0) hv)
          have hba := below_alloc (Below.refl wr.heap.size wr) (.cells #[.int .i64 v.ix, .int .i64 v.sub, .slice Aj v.data.length cj] 52)
          have HI := hide (snap_insert W1.heap.size A n c _ ds v Aj cj _ (HK.out.1.below hba) (Nat.le_trans HK.out.2.2.2 hba.size) hn4 hvf (fun W hW => hx5 W ((below_step hba HK.out.2.1).trans (weak_b hW (by have := HS1.out; omega)))))
          have HBA := hide (And.intro (below_step hba HK.out.2.1) (And.intro (HK.out.2.2.1.below hba HK.out.2.2.1.lt) (Nat.le_trans HK.out.2.2.2 hba.size)))
          rw [← hvl] at e2 HI HBA
          clear hv hvl hx5 hvf hn4 hba e4 e5
          go_wp2_with fail
          refine HI.out.mono ?_
          rintro e w3 ⟨A3, n3, c3, ds3, rfl, hO3, hb3⟩
          go_wp2_with fail
          go_roundw
          case rel =>
            have hs := HBA.out.2.2
            exact ⟨k + 1, A3, n3, c3, ds3, by omega, by go_num, rfl, hide ⟨by rw [HT.out]; exact hO3, HBA.out.1.trans (weak_b hb3 (by have := HS1.out; omega)), (hb3.block Q (by rw [HQ.out]; have := HS1.out; omega)).trans HBA.out.2.1, Nat.le_trans hs hb3.size⟩⟩
          case measure => simp [intOf]; omega
        · have HKN := hide (show k = n1 by omega)
          go_wp2_with fail
          go_roundw
          case rel =>
            refine ⟨0 + 1, 1, A, n, c, ds, by omega, by omega, by go_num, rfl, hide ⟨?_, HK.out.2⟩⟩
            have h := HK.out.1
            rw [List.take_of_length_le (by rw [HKN.out, HN1.out]; exact Nat.le_refl _)] at h
            exact h
          case measure => simp [intOf]
    · obtain rfl : z = 1 := by omega
      clear hz hi
      go_wp2_with fail
      go_loopw [5, 9, 20] (fun s5 _ t20 wx => ∃ (k : Nat) (A : Option Addr) (n c : Nat) (ds : List (Option Addr × Nat)), k ≤ n2 ∧ t20 = .int .i64 (k : Nat) ∧ s5 = .slice A n c ∧ Hid (OwnV wx W1.heap.size A n c ((X2.take k).foldl insV (foJ X1 X2 1)) ds ∧ Below w.heap.size w wx ∧ Blk wx Q 27 #[.slice A1 n1 c1, .slice A2 n2 c2] ∧ W1.heap.size ≤ wx.heap.size)) (fun _ _ t20 _ => n2 - (intOf t20).toNat)
      case atStart => exact ⟨0, A, n, c, ds, by omega, rfl, rfl, hide HK.out⟩
      case round =>
        clear HK qc0 qc1
        obtain ⟨k, A, n, c, ds, hk, rfl, rfl, HK⟩ := hrel
        by_cases hlt : k < n2
        · obtain ⟨v, hv⟩ : ∃ v, X2[k]? = some v := ⟨X2[k]'(by have := HN2.out; omega), List.getElem?_eq_getElem _⟩
          obtain ⟨b, off, Aj, cj, rfl, e0, e1, e2, e4, e5⟩ := (HX2.out.below HK.out.2.1) k v hv
          obtain ⟨vl, hvl⟩ : ∃ vl, vl = v.data.length := ⟨_, rfl⟩
          have hx5 : ∀ W, Below w.heap.size w W → Sl W Aj (v.data.map bv) := fun W hW => by
            obtain ⟨b', off', Aj', cj', h, _, _, h3, _, h5⟩ := HX2.out k v hv
            have c2' := (hW.cell (lt_of_cell h3)).trans h3
            have c2'' := (HK.out.2.1.cell (lt_of_cell h3)).trans h3
            simp only [Option.some.injEq, Addr.mk.injEq, and_true] at h
            obtain ⟨rfl, rfl⟩ := h
            rw [e2] at c2''
            injection c2'' with c2''
            injection c2'' with c2'' _ _
            rw [c2'']
            exact h5.below hW
          have hvf := HF2.out.2 v (List.mem_of_getElem? hv)
          have hn4 : n ≤ 1000 := by
            have h1 := HK.out.1.hn
            have h2 := fold_len (X2.take k) (foJ X1 X2 1)
            have h3 := foJ_len X1 X2 1
            have h4 := HF1.out.1
            have h5 := HF2.out.1
            rw [List.length_take] at h2
            omega
          have HT := hide (fold_take (L := foJ X1 X2 1) hv)
          have hba := below_alloc (Below.refl wr.heap.size wr) (.cells #[.int .i64 v.ix, .int .i64 v.sub, .slice Aj v.data.length cj] 52)
          have HI := hide (snap_insert W1.heap.size A n c _ ds v Aj cj _ (HK.out.1.below hba) (Nat.le_trans HK.out.2.2.2 hba.size) hn4 hvf (fun W hW => hx5 W ((below_step hba HK.out.2.1).trans (weak_b hW (by have := HS1.out; omega)))))
          have HBA := hide (And.intro (below_step hba HK.out.2.1) (And.intro (HK.out.2.2.1.below hba HK.out.2.2.1.lt) (Nat.le_trans HK.out.2.2.2 hba.size)))
          rw [← hvl] at e2 HI HBA
          clear hv hvl hx5 hvf hn4 hba e4 e5
          go_wp2_with fail
          refine HI.out.mono ?_
          rintro e w3 ⟨A3, n3, c3, ds3, rfl, hO3, hb3⟩
          go_wp2_with fail
          go_roundw
          case rel =>
            have hs := HBA.out.2.2
            exact ⟨k + 1, A3, n3, c3, ds3, by omega, by go_num, rfl, hide ⟨by rw [HT.out]; exact hO3, HBA.out.1.trans (weak_b hb3 (by have := HS1.out; omega)), (hb3.block Q (by rw [HQ.out]; have := HS1.out; omega)).trans HBA.out.2.1, Nat.le_trans hs hb3.size⟩⟩
          case measure => simp [intOf]; omega
        · have HKN := hide (show k = n2 by omega)
          go_wp2_with fail
          go_roundw
          case rel =>
            refine ⟨1 + 1, 2, A, n, c, ds, by omega, by omega, by go_num, rfl, hide ⟨?_, HK.out.2⟩⟩
            have h := HK.out.1
            rw [List.take_of_length_le (by rw [HKN.out, HN2.out]; exact Nat.le_refl _)] at h
            exact h
          case measure => simp [intOf]
    · obtain rfl : z = 2 := by omega
      clear hz hi
      go_wp2_with fail
      rw [HR.out]
      exact ⟨A, n, c, ds, rfl, HK.out.1.mono (by have := HS1.out; omega), HK.out.2.1⟩
end
end Go.Proofs.YtehabbnohoomjaaGreatDoor
