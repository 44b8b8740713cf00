/- The walk of FaultChains. -/
import Derived.Test.YtkhbcmkcjnnejaaDoorFltW
namespace Go.Proofs.YtkhbcmkcjnnejaaDoor
set_option linter.unusedVariables false
set_option linter.unusedSimpArgs false
set_option linter.unnecessarySimpa false
open Go.RowKit Go.Extern.Stop Go.Stop Go.Extern
set_option maxRecDepth 20000
set_option maxHeartbeats 8000000

def hasP (L : List Nat) (o k : Nat) : Bool := (L.take k).any (fun c => decide (cntN c = o))
theorem getD_lt {L : List Nat} {k : Nat} (hk : k < L.length) : L.getD k 0 = L[k] := by rw [List.getD_eq_getElem?_getD, List.getElem?_eq_getElem hk]; rfl
theorem hasP_succ {L : List Nat} {o k : Nat} (hk : k < L.length) : hasP L o (k + 1) = (hasP L o k || decide (cntN (L.getD k 0) = o)) := by
  unfold hasP
  rw [getD_lt hk, List.take_succ_eq_append_getElem hk, List.any_append]
  simp
theorem hasP_all (L : List Nat) (o : Nat) : anyC o false (L.map cntN) = hasP L o L.length := by
  unfold anyC hasP
  rw [List.take_length, List.any_map, Bool.false_or]
  rfl
theorem any_mem {L : List Nat} {k : Nat} (hk : k < L.length) : anyC (cntN (L.getD k 0)) false (L.map cntN) = true := by
  unfold anyC
  rw [Bool.false_or, List.any_eq_true, getD_lt hk]
  exact ⟨cntN L[k], List.mem_map.2 ⟨L[k], List.getElem_mem _, rfl⟩, by simp⟩
theorem at_cv {w : World} {A : Option Addr} {L : List Nat} {k : Nat} (hs : Sl w A (L.map cv)) (hk : k < L.length) : ∃ b off, A = some ⟨b, off, none⟩ ∧ w.cell? ⟨b, off + k, none⟩ = some (.int .u32 ((L.getD k 0 : Nat) : Int)) :=
  hs.at_ (j := k) (u := .int .u32 ((L.getD k 0 : Nat) : Int)) (by rw [List.getElem?_map, List.getElem?_eq_getElem hk, getD_lt hk]; rfl)

theorem faultChains_walk (a : Nat → Addr) (M : Nat) (A : Option Addr) (n cp : Nat) (L : List Nat) (o : Nat) (w : World) (hG : GV w a M) (hM : M ≤ w.heap.size) (hn : n = L.length) (hs : Sl w A (L.map cv)) (hL : ∀ x ∈ L, x ≤ 4294967295) :
    Calls Tryd.prog 3 #[.slice A n cp, .int .u32 (o : Nat)] w (TrueB w) := by
  by_cases h0 : n = 0
  · have HK := hide (la_known a M w hG hM)
    clear hG hM hn hs hL
    subst h0
    go_enter Tryd.func3, Tryd.ntmps3
    go_wp2_with fail
    refine HK.out.mono ?_
    rintro e w1 ⟨rfl, hb⟩
    go_wp2_with fail
    go_ret
    exact (⟨rfl, hb⟩ : TrueB w _ _)
  by_cases h5 : 50 < n
  · have HK := hide (la_known a M w hG hM)
    clear hG hM hn hs hL
    go_enter Tryd.func3, Tryd.ntmps3
    go_wp2_with fail
    refine HK.out.mono ?_
    rintro e w1 ⟨rfl, hb⟩
    go_wp2_with fail
    go_ret
    exact (⟨rfl, hb⟩ : TrueB w _ _)
  have HW := hide (la_wrapped a M A n cp L w hG hM hn (by omega) hs hL)
  have HCT := hide (fun W k (h : k < L.length) => rf_Counts (L.getD k 0) W (by rw [getD_lt h]; exact hL _ (List.getElem_mem _)))
  have HFM := hide (fun W k (h : k < L.length) => rf_Family (L.getD k 0) W (by rw [getD_lt h]; exact hL _ (List.getElem_mem _)))
  obtain ⟨E, hE⟩ : ∃ E, E = endW L := ⟨_, rfl⟩
  obtain ⟨CS, hCS⟩ : ∃ CS, CS = L.map cntN := ⟨_, rfl⟩
  have hl0 : 0 < L.length := by omega
  have hcons : CS = cntN (L.getD 0 0) :: L.tail.map cntN := by
    rw [hCS]
    cases L with
    | nil => exact absurd hl0 (by simp)
    | cons d L' => rfl
  have HCo := hide (fun b v W (h : FK w a M b E CS v W) => fa_Code a M E (cntN (L.getD 0 0)) (L.tail.map cntN) v W h.gv (by rw [← hcons]; exact h.ch))
  have HFa := hide (fun b v W (h : FK w a M b E CS v W) => fa_Family a M E CS v W h.gv (by rw [hE]; exact good_cnt _) h.ch)
  rw [show famE E = famN (cntN (L.getD (n - 1) 0)) from by rw [hE, hn]; rfl] at HFa
  have HDe := hide (fun b v W (h : FK w a M b E CS v W) => fa_Depth a M E CS v W h.gv h.ch h.m (by rw [hCS, List.length_map]; omega))
  rw [show CS.length = n from by rw [hCS, List.length_map, hn]] at HDe
  have HHa := hide (fun b v W (h : FK w a M b E CS v W) => fa_Has a M E CS v o W h.gv h.ch h.m)
  rw [show anyC o false CS = hasP L o n from by rw [hCS, hn]; exact hasP_all L o] at HHa
  have HHk := hide (fun b v W k (h : FK w a M b E CS v W) (hk : k < L.length) => (show Calls Tryd.prog 11 #[.agg #[v], .int .u32 (cntN (L.getD k 0) : Nat)] W fun e' w' => e' = .returned (.bool true) ∧ Below W.heap.size W w' from by
    have := fa_Has a M E CS v (cntN (L.getD k 0)) W h.gv h.ch h.m
    rw [show anyC (cntN (L.getD k 0)) false CS = true from by rw [hCS]; exact any_mem hk] at this
    exact this))
  have HLa := hide (fun b v W (h : FK w a M b E CS v W) => la_known a M W h.gv h.m)
  have HN := hide hn
  have HS := hide hs
  have HG := hide (And.intro hG hM)
  have HEC := hide (And.intro hE hCS)
  have z0 : ((n : Int) == 0) = false := by simp; omega
  have z1 : decide (50 < (n : Int)) = false := by simp; omega
  have hn5 : n ≤ 50 := by omega
  have hnp : 0 < n := by omega
  clear hG hM hn hs hL h0 h5 hE hCS hl0 hcons
  go_enter Tryd.func3, Tryd.ntmps3
  go_wp2_with fail
  refine HW.out.mono ?_
  rintro e w1 ⟨u, rfl, hW, hb⟩
  have hC : Ch w1 a E CS u := by
    rw [HEC.out.1, HEC.out.2]
    rcases hW with ⟨h1, _⟩ | ⟨_, h2⟩
    · have := HN.out
      omega
    · exact h2
  obtain ⟨tf, xf, rfl⟩ := ch_iface hC
  have q1 := blk_one w1 28 #[.iface tf xf]
  have hb1 := below_alloc (Below.refl w1.heap.size w1) (.cells #[.iface tf xf] 28)
  have K1 := hide (show FK w a M w1.heap.size E CS (.iface tf xf) _ from ⟨q1, hC.below hb1, (HG.out.1.below hb).below hb1, below_step hb1 hb, Nat.le_trans HG.out.2 (Nat.le_trans hb.size hb1.size)⟩)
  clear hC hb q1 hb1 hW HW HEC
  go_wp2_with fail
  obtain ⟨W1, hW1⟩ : ∃ W, W = w1.alloc (.cells #[.iface tf xf] 28) := ⟨_, rfl⟩
  obtain ⟨p1, hp1⟩ : ∃ p, p = w1.heap.size := ⟨_, rfl⟩
  rw [← hW1, ← hp1] at K1 ⊢
  clear hW1 hp1
  go_loopw [4, 6, 7] (fun i4 i6 i7 wr => ∃ k : Nat, k ≤ n ∧ i7 = .int .i64 (k : Nat) ∧ i4 = .bool false ∧ i6 = .bool (hasP L o k) ∧ Hid (FK w a M p1 E CS (.iface tf xf) wr)) (fun _ _ i7 _ => n - (intOf i7).toNat)
  case atStart => exact ⟨0, by omega, rfl, rfl, rfl, K1⟩
  case round =>
    obtain ⟨k, hk, rfl, rfl, rfl, HK⟩ := hrel
    by_cases hlt : k < n
    · have hkL : k < L.length := by rw [← HN.out]; exact hlt
      obtain ⟨b, off, rfl, c0⟩ := at_cv (HS.out.below HK.out.be) hkL
      have HC := hide (fun W => HCT.out W k hkL)
      have HH := hide (fun b v W h => HHk.out b v W k h hkL)
      have HP := hide (hasP_succ (o := o) hkL)
      obtain ⟨d, hd⟩ : ∃ d, d = L.getD k 0 := ⟨_, rfl⟩
      rw [← hd] at HC c0 HH HP
      obtain ⟨kd, hkd⟩ : ∃ kd, kd = cntN d := ⟨_, rfl⟩
      rw [← hkd] at HC HH HP
      obtain ⟨hv, hhv⟩ : ∃ hv, hv = hasP L o k := ⟨_, rfl⟩
      rw [← hhv] at HP ⊢
      clear hd hkd hhv hkL
      have x0 := HK.out.box.cell 0 (u := .iface tf xf) rfl
      obtain ⟨i1, i2, i3⟩ := idx_at hlt
      have HK0 := hide c0
      cases hv
      · go_wp2_with fail
        refine (HC.out _).mono ?_
        rintro e w2 ⟨rfl, hb⟩
        have HKx := hide (HK.out.below hb)
        have c1 := (hb.cell (lt_of_cell HK0.out)).trans HK0.out
        clear HK HK0 x0 c0 hb
        have HK := HKx
        have HK0 := hide c1
        have x0 := HK.out.box.cell 0 (u := .iface tf xf) rfl
        clear HKx
        go_wp2_with fail
        refine wp_region_held_drew (S := (fun w' => (w'.cell? ⟨p1, 0, none⟩ = some (.iface tf xf) ∧ w'.cell? ⟨b, off + k, none⟩ = some (.int .u32 (d : Nat))) ∧ FK w a M p1 E CS (.iface tf xf) w')) (by kernel_rfl) ?hS1 (fun hHeld => ?rest1)
        case hS1 => ((try dsimp only); (exact ⟨⟨HK.out.box.cell 0 rfl, HK0.out⟩, HK.out.below (below_drew1 (Below.refl _ _))⟩))
        case' rest1 => skip
        refine wpAnyH_take (i := 0) (oi := _) (v := ?v2) rfl (by kernel_rfl) (by kernel_rfl) (by kernel_rfl) (fun _ _ _ h => h) (Or.inl ⟨by rfl, ?hy2⟩) (by assumption) ?rest2
        case hy2 => ((intro w hSw; (try dsimp only at hSw); go_simp) <;> with_reducible rfl)
        case' rest2 => try simp only [List.getElem_toArray, List.getElem_cons_zero, List.getElem_cons_succ, Act.put, List.setIfInBounds_toArray, List.set_cons_zero, List.set_cons_succ]
        refine wpAnyH_take (i := 1) (oi := _) (v := ?v3) rfl (by kernel_rfl) (by kernel_rfl) (by kernel_rfl) (fun _ _ _ h => h) (Or.inl ⟨by rfl, ?hy3⟩) (by assumption) ?rest3
        case hy3 => ((intro w hSw; (try dsimp only at hSw); go_simp) <;> with_reducible rfl)
        case' rest3 => try simp only [List.getElem_toArray, List.getElem_cons_zero, List.getElem_cons_succ, Act.put, List.setIfInBounds_toArray, List.set_cons_zero, List.set_cons_succ]
        refine wpAnyH_take (i := 2) (oi := _) (v := ?v4) rfl (by kernel_rfl) (by kernel_rfl) (by kernel_rfl) (fun _ _ _ h => h) (Or.inl ⟨by rfl, ?hy4⟩) (by assumption) ?rest4
        case hy4 => ((intro w hSw; (try dsimp only at hSw); go_simp) <;> with_reducible rfl)
        case' rest4 => try simp only [List.getElem_toArray, List.getElem_cons_zero, List.getElem_cons_succ, Act.put, List.setIfInBounds_toArray, List.set_cons_zero, List.set_cons_succ]
        refine wpAnyH_take (i := 3) (oi := _) (v := ?v5) rfl (by kernel_rfl) (by kernel_rfl) (by kernel_rfl) (fun _ _ _ h => h) (Or.inl ⟨by rfl, ?hy5⟩) (by assumption) ?rest5
        case hy5 => ((intro w hSw; (try dsimp only at hSw); go_simp) <;> with_reducible rfl)
        case' rest5 => try simp only [List.getElem_toArray, List.getElem_cons_zero, List.getElem_cons_succ, Act.put, List.setIfInBounds_toArray, List.set_cons_zero, List.set_cons_succ]
        refine wpAnyH_take (i := 4) (oi := _) (v := ?v6) rfl (by kernel_rfl) (by kernel_rfl) (by kernel_rfl) (fun _ _ _ h => h) (Or.inl ⟨by rfl, ?hy6⟩) (by assumption) ?rest6
        case hy6 => ((intro w hSw; (try dsimp only at hSw); go_simp) <;> with_reducible rfl)
        case' rest6 => try simp only [List.getElem_toArray, List.getElem_cons_zero, List.getElem_cons_succ, Act.put, List.setIfInBounds_toArray, List.set_cons_zero, List.set_cons_succ]
        have HZ := hide hHeld
        clear hHeld
        refine wpAnyH_ready (rs := [5]) (by kernel_rfl) (by simp) ?_
        refine AllReadyH.cons (o := _) rfl (fun K hK => ?_) AllReadyH.nil
        go_simp
        refine (HC.out _).mono ?_
        rintro e w3 ⟨rfl, hb⟩
        try dsimp only
        refine hK.out _ _ ?hS9 (fun hHeld => ?rest9)
        case hS9 => ((try dsimp only); (exact ⟨⟨(HZ.out.2.below hb).box.cell 0 rfl, (hb.cell (lt_of_cell HZ.out.1.2)).trans HZ.out.1.2⟩, HZ.out.2.below hb⟩))
        case' rest9 => (clear hK K; try simp only [List.getElem_toArray, List.getElem_cons_zero, List.getElem_cons_succ, Act.put, List.setIfInBounds_toArray, List.set_cons_zero, List.set_cons_succ])
        clear HZ hb
        have HZ := hide hHeld
        clear hHeld
        refine wpAnyH_ready (rs := [6]) (by kernel_rfl) (by simp) ?_
        refine AllReadyH.cons (o := _) rfl (fun K hK => ?_) AllReadyH.nil
        go_simp
        refine (HH.out _ _ _ HZ.out.2).mono ?_
        rintro e w4 ⟨rfl, hb⟩
        try dsimp only
        refine hK.out _ _ ?hS12 (fun hHeld => ?rest12)
        case hS12 => ((try dsimp only); (exact ⟨⟨(HZ.out.2.below hb).box.cell 0 rfl, (hb.cell (lt_of_cell HZ.out.1.2)).trans HZ.out.1.2⟩, HZ.out.2.below hb⟩))
        case' rest12 => (clear hK K; try simp only [List.getElem_toArray, List.getElem_cons_zero, List.getElem_cons_succ, Act.put, List.setIfInBounds_toArray, List.set_cons_zero, List.set_cons_succ])
        clear HZ hb
        have HZ := hide hHeld
        refine wpAnyH_take (i := 7) (oi := _) (v := ?v13) rfl (by kernel_rfl) (by kernel_rfl) (by kernel_rfl) (fun _ _ _ h => h) (Or.inl ⟨by rfl, ?hy13⟩) (by assumption) ?rest13
        case hy13 => ((intro w hSw; (try dsimp only at hSw); go_simp) <;> with_reducible rfl)
        case' rest13 => try simp only [List.getElem_toArray, List.getElem_cons_zero, List.getElem_cons_succ, Act.put, List.setIfInBounds_toArray, List.set_cons_zero, List.set_cons_succ]
        refine wpAnyH_done (by kernel_rfl) ?_ _
        have hEnd := hHeld.2
        repeat (clear hHeld)
        go_wp2_with fail
        go_roundw
        case rel => exact ⟨k + 1, by omega, by go_num, rfl, by rw [HP.out]; simp; rw [Bool.eq_iff_iff]; simp; omega, hide HZ.out.2⟩
        case measure => simp [intOf]; omega
      · go_wp2_with fail
        refine wp_region_held_drew (S := (fun w' => (w'.cell? ⟨p1, 0, none⟩ = some (.iface tf xf) ∧ w'.cell? ⟨b, off + k, none⟩ = some (.int .u32 (d : Nat))) ∧ FK w a M p1 E CS (.iface tf xf) w')) (by kernel_rfl) ?hS15 (fun hHeld => ?rest15)
        case hS15 => ((try dsimp only); (exact ⟨⟨HK.out.box.cell 0 rfl, HK0.out⟩, HK.out.below (below_drew1 (Below.refl _ _))⟩))
        case' rest15 => skip
        refine wpAnyH_take (i := 0) (oi := _) (v := ?v16) rfl (by kernel_rfl) (by kernel_rfl) (by kernel_rfl) (fun _ _ _ h => h) (Or.inl ⟨by rfl, ?hy16⟩) (by assumption) ?rest16
        case hy16 => ((intro w hSw; (try dsimp only at hSw); go_simp) <;> with_reducible rfl)
        case' rest16 => try simp only [List.getElem_toArray, List.getElem_cons_zero, List.getElem_cons_succ, Act.put, List.setIfInBounds_toArray, List.set_cons_zero, List.set_cons_succ]
        refine wpAnyH_take (i := 1) (oi := _) (v := ?v17) rfl (by kernel_rfl) (by kernel_rfl) (by kernel_rfl) (fun _ _ _ h => h) (Or.inl ⟨by rfl, ?hy17⟩) (by assumption) ?rest17
        case hy17 => ((intro w hSw; (try dsimp only at hSw); go_simp) <;> with_reducible rfl)
        case' rest17 => try simp only [List.getElem_toArray, List.getElem_cons_zero, List.getElem_cons_succ, Act.put, List.setIfInBounds_toArray, List.set_cons_zero, List.set_cons_succ]
        refine wpAnyH_take (i := 2) (oi := _) (v := ?v18) rfl (by kernel_rfl) (by kernel_rfl) (by kernel_rfl) (fun _ _ _ h => h) (Or.inl ⟨by rfl, ?hy18⟩) (by assumption) ?rest18
        case hy18 => ((intro w hSw; (try dsimp only at hSw); go_simp) <;> with_reducible rfl)
        case' rest18 => try simp only [List.getElem_toArray, List.getElem_cons_zero, List.getElem_cons_succ, Act.put, List.setIfInBounds_toArray, List.set_cons_zero, List.set_cons_succ]
        refine wpAnyH_take (i := 3) (oi := _) (v := ?v19) rfl (by kernel_rfl) (by kernel_rfl) (by kernel_rfl) (fun _ _ _ h => h) (Or.inl ⟨by rfl, ?hy19⟩) (by assumption) ?rest19
        case hy19 => ((intro w hSw; (try dsimp only at hSw); go_simp) <;> with_reducible rfl)
        case' rest19 => try simp only [List.getElem_toArray, List.getElem_cons_zero, List.getElem_cons_succ, Act.put, List.setIfInBounds_toArray, List.set_cons_zero, List.set_cons_succ]
        refine wpAnyH_take (i := 4) (oi := _) (v := ?v20) rfl (by kernel_rfl) (by kernel_rfl) (by kernel_rfl) (fun _ _ _ h => h) (Or.inl ⟨by rfl, ?hy20⟩) (by assumption) ?rest20
        case hy20 => ((intro w hSw; (try dsimp only at hSw); go_simp) <;> with_reducible rfl)
        case' rest20 => try simp only [List.getElem_toArray, List.getElem_cons_zero, List.getElem_cons_succ, Act.put, List.setIfInBounds_toArray, List.set_cons_zero, List.set_cons_succ]
        have HZ := hide hHeld
        clear hHeld
        refine wpAnyH_ready (rs := [5]) (by kernel_rfl) (by simp) ?_
        refine AllReadyH.cons (o := _) rfl (fun K hK => ?_) AllReadyH.nil
        go_simp
        refine (HC.out _).mono ?_
        rintro e w3 ⟨rfl, hb⟩
        try dsimp only
        refine hK.out _ _ ?hS23 (fun hHeld => ?rest23)
        case hS23 => ((try dsimp only); (exact ⟨⟨(HZ.out.2.below hb).box.cell 0 rfl, (hb.cell (lt_of_cell HZ.out.1.2)).trans HZ.out.1.2⟩, HZ.out.2.below hb⟩))
        case' rest23 => (clear hK K; try simp only [List.getElem_toArray, List.getElem_cons_zero, List.getElem_cons_succ, Act.put, List.setIfInBounds_toArray, List.set_cons_zero, List.set_cons_succ])
        clear HZ hb
        have HZ := hide hHeld
        clear hHeld
        refine wpAnyH_ready (rs := [6]) (by kernel_rfl) (by simp) ?_
        refine AllReadyH.cons (o := _) rfl (fun K hK => ?_) AllReadyH.nil
        go_simp
        refine (HH.out _ _ _ HZ.out.2).mono ?_
        rintro e w4 ⟨rfl, hb⟩
        try dsimp only
        refine hK.out _ _ ?hS26 (fun hHeld => ?rest26)
        case hS26 => ((try dsimp only); (exact ⟨⟨(HZ.out.2.below hb).box.cell 0 rfl, (hb.cell (lt_of_cell HZ.out.1.2)).trans HZ.out.1.2⟩, HZ.out.2.below hb⟩))
        case' rest26 => (clear hK K; try simp only [List.getElem_toArray, List.getElem_cons_zero, List.getElem_cons_succ, Act.put, List.setIfInBounds_toArray, List.set_cons_zero, List.set_cons_succ])
        clear HZ hb
        have HZ := hide hHeld
        refine wpAnyH_take (i := 7) (oi := _) (v := ?v27) rfl (by kernel_rfl) (by kernel_rfl) (by kernel_rfl) (fun _ _ _ h => h) (Or.inl ⟨by rfl, ?hy27⟩) (by assumption) ?rest27
        case hy27 => ((intro w hSw; (try dsimp only at hSw); go_simp) <;> with_reducible rfl)
        case' rest27 => try simp only [List.getElem_toArray, List.getElem_cons_zero, List.getElem_cons_succ, Act.put, List.setIfInBounds_toArray, List.set_cons_zero, List.set_cons_succ]
        refine wpAnyH_done (by kernel_rfl) ?_ _
        have hEnd := hHeld.2
        repeat (clear hHeld)
        go_wp2_with fail
        go_roundw
        case rel => exact ⟨k + 1, by omega, by go_num, rfl, by rw [HP.out]; rfl, hide HZ.out.2⟩
        case measure => simp [intOf]; omega
    · obtain rfl : k = n := by omega
      obtain ⟨m, rfl⟩ : ∃ m, k = m + 1 := ⟨k - 1, by omega⟩
      have hmL : m < L.length := by rw [← HN.out]; omega
      have h0L : 0 < L.length := by omega
      obtain ⟨b, off, rfl, c0⟩ := at_cv (HS.out.below HK.out.be) h0L
      obtain ⟨b', off', hA, c1⟩ := at_cv (HS.out.below HK.out.be) hmL
      simp only [Option.some.injEq, Addr.mk.injEq, and_true] at hA
      obtain ⟨rfl, rfl⟩ := hA
      rw [Nat.add_zero] at c0
      have HC0 := hide (fun W => HCT.out W 0 h0L)
      have HF0 := hide (fun W => HFM.out W m hmL)
      rw [Nat.add_sub_cancel] at HFa
      obtain ⟨d, hd⟩ : ∃ d, d = L.getD 0 0 := ⟨_, rfl⟩
      rw [← hd] at HC0 c0 HCo
      obtain ⟨kd, hkd⟩ : ∃ kd, kd = cntN d := ⟨_, rfl⟩
      rw [← hkd] at HC0 HCo
      obtain ⟨dm, hdm⟩ : ∃ d, d = L.getD m 0 := ⟨_, rfl⟩
      rw [← hdm] at HF0 c1 HFa
      obtain ⟨F, hF⟩ : ∃ F, F = famN (cntN dm) := ⟨_, rfl⟩
      rw [← hF] at HF0 HFa
      obtain ⟨hv, hhv⟩ : ∃ hv, hv = hasP L o (m + 1) := ⟨_, rfl⟩
      rw [← hhv] at HHa ⊢
      obtain ⟨N, hN⟩ : ∃ N, N = m + 1 := ⟨_, rfl⟩
      rw [← hN] at HDe ⊢
      have hmN : m < N := by omega
      have hnp : 0 < N := by omega
      have hN5 : N ≤ 50 := by omega
      have hw1 : IntKind.i64.wrap (m : Int) = (m : Int) := IntWalk.i64_in _ (by omega)
      have hw2 : (N : Int) - 1 = (m : Int) := by omega
      obtain ⟨i1, i2, i3⟩ := idx_at hmN
      have hnp2 : (0 : Int) < (N : Int) := by omega
      have x0 := HK.out.box.cell 0 (u := .iface tf xf) rfl
      have HK0 := hide (And.intro c0 c1)
      have HNN := hide hN
      clear hd hkd hdm hF hhv hN hmL h0L HS HCT HFM HHk hlt hk hn5 z0 z1
      go_wp2_with fail
      refine wp_region_held_drew (S := (fun w' => (w'.cell? ⟨p1, 0, none⟩ = some (.iface tf xf) ∧ w'.cell? ⟨b, off, none⟩ = some (.int .u32 (d : Nat)) ∧ w'.cell? ⟨b, off + m, none⟩ = some (.int .u32 (dm : Nat))) ∧ FK w a M p1 E CS (.iface tf xf) w')) (by kernel_rfl) ?hS29 (fun hHeld => ?rest29)
      case hS29 => ((try dsimp only); (exact ⟨⟨HK.out.box.cell 0 rfl, HK0.out⟩, HK.out.below (below_drew1 (Below.refl _ _))⟩))
      case' rest29 => skip
      have HZ := hide hHeld
      clear hHeld
      refine wpAnyH_take (i := 0) (oi := _) (v := ?v30) rfl (by kernel_rfl) (by kernel_rfl) (by kernel_rfl) (fun _ _ _ h => h) (Or.inl ⟨by rfl, ?hy30⟩) (by assumption) ?rest30
      case hy30 => ((intro w hSw; (try dsimp only at hSw); go_simp) <;> with_reducible rfl)
      case' rest30 => try simp only [List.getElem_toArray, List.getElem_cons_zero, List.getElem_cons_succ, Act.put, List.setIfInBounds_toArray, List.set_cons_zero, List.set_cons_succ]
      refine wpAnyH_take (i := 2) (oi := _) (v := ?v31) rfl (by kernel_rfl) (by kernel_rfl) (by kernel_rfl) (fun _ _ _ h => h) (Or.inl ⟨by rfl, ?hy31⟩) (by assumption) ?rest31
      case hy31 => ((intro w hSw; (try dsimp only at hSw); go_simp) <;> with_reducible rfl)
      case' rest31 => try simp only [List.getElem_toArray, List.getElem_cons_zero, List.getElem_cons_succ, Act.put, List.setIfInBounds_toArray, List.set_cons_zero, List.set_cons_succ]
      refine wpAnyH_take (i := 3) (oi := _) (v := ?v32) rfl (by kernel_rfl) (by kernel_rfl) (by kernel_rfl) (fun _ _ _ h => h) (Or.inl ⟨by rfl, ?hy32⟩) (by assumption) ?rest32
      case hy32 => ((intro w hSw; (try dsimp only at hSw); go_simp) <;> with_reducible rfl)
      case' rest32 => try simp only [List.getElem_toArray, List.getElem_cons_zero, List.getElem_cons_succ, Act.put, List.setIfInBounds_toArray, List.set_cons_zero, List.set_cons_succ]
      refine wpAnyH_take (i := 4) (oi := _) (v := ?v33) rfl (by kernel_rfl) (by kernel_rfl) (by kernel_rfl) (fun _ _ _ h => h) (Or.inl ⟨by rfl, ?hy33⟩) (by assumption) ?rest33
      case hy33 => ((intro w hSw; (try dsimp only at hSw); go_simp) <;> with_reducible rfl)
      case' rest33 => try simp only [List.getElem_toArray, List.getElem_cons_zero, List.getElem_cons_succ, Act.put, List.setIfInBounds_toArray, List.set_cons_zero, List.set_cons_succ]
      refine wpAnyH_ready (rs := [1]) (by kernel_rfl) (by simp) ?_
      refine AllReadyH.cons (o := _) rfl (fun K hK => ?_) AllReadyH.nil
      go_simp
      refine (HCo.out _ _ _ HZ.out.2).mono ?_
      rintro e w3 ⟨rfl, hb⟩
      try dsimp only
      refine hK.out _ _ ?hS36 (fun hHeld => ?rest36)
      case hS36 => ((try dsimp only); (exact ⟨⟨(HZ.out.2.below hb).box.cell 0 rfl, (hb.cell (lt_of_cell HZ.out.1.2.1)).trans HZ.out.1.2.1, (hb.cell (lt_of_cell HZ.out.1.2.2)).trans HZ.out.1.2.2⟩, HZ.out.2.below hb⟩))
      case' rest36 => (clear hK K; try simp only [List.getElem_toArray, List.getElem_cons_zero, List.getElem_cons_succ, Act.put, List.setIfInBounds_toArray, List.set_cons_zero, List.set_cons_succ])
      clear HZ hb
      have HZ := hide hHeld
      clear hHeld
      refine wpAnyH_ready (rs := [5]) (by kernel_rfl) (by simp) ?_
      refine AllReadyH.cons (o := _) rfl (fun K hK => ?_) AllReadyH.nil
      go_simp
      refine (HC0.out _).mono ?_
      rintro e w3 ⟨rfl, hb⟩
      try dsimp only
      refine hK.out _ _ ?hS39 (fun hHeld => ?rest39)
      case hS39 => ((try dsimp only); (exact ⟨⟨(HZ.out.2.below hb).box.cell 0 rfl, (hb.cell (lt_of_cell HZ.out.1.2.1)).trans HZ.out.1.2.1, (hb.cell (lt_of_cell HZ.out.1.2.2)).trans HZ.out.1.2.2⟩, HZ.out.2.below hb⟩))
      case' rest39 => (clear hK K; try simp only [List.getElem_toArray, List.getElem_cons_zero, List.getElem_cons_succ, Act.put, List.setIfInBounds_toArray, List.set_cons_zero, List.set_cons_succ])
      clear HZ hb
      have HZ := hide hHeld
      clear hHeld
      refine wpAnyH_take (i := 6) (oi := _) (v := ?v40) rfl (by kernel_rfl) (by kernel_rfl) (by kernel_rfl) (fun _ _ _ h => h) (Or.inl ⟨by rfl, ?hy40⟩) (by assumption) ?rest40
      case hy40 => ((intro w hSw; (try dsimp only at hSw); go_simp) <;> with_reducible rfl)
      case' rest40 => try simp only [List.getElem_toArray, List.getElem_cons_zero, List.getElem_cons_succ, Act.put, List.setIfInBounds_toArray, List.set_cons_zero, List.set_cons_succ]
      refine wpAnyH_take (i := 7) (oi := _) (v := ?v41) rfl (by kernel_rfl) (by kernel_rfl) (by kernel_rfl) (fun _ _ _ h => h) (Or.inl ⟨by rfl, ?hy41⟩) (by assumption) ?rest41
      case hy41 => ((intro w hSw; (try dsimp only at hSw); go_simp) <;> with_reducible rfl)
      case' rest41 => try simp only [List.getElem_toArray, List.getElem_cons_zero, List.getElem_cons_succ, Act.put, List.setIfInBounds_toArray, List.set_cons_zero, List.set_cons_succ]
      refine wpAnyH_take (i := 8) (oi := _) (v := ?v42) rfl (by kernel_rfl) (by kernel_rfl) (by kernel_rfl) (fun _ _ _ h => h) (Or.inl ⟨by rfl, ?hy42⟩) (by assumption) ?rest42
      case hy42 => ((intro w hSw; (try dsimp only at hSw); go_simp) <;> with_reducible rfl)
      case' rest42 => try simp only [List.getElem_toArray, List.getElem_cons_zero, List.getElem_cons_succ, Act.put, List.setIfInBounds_toArray, List.set_cons_zero, List.set_cons_succ]
      refine wpAnyH_take (i := 10) (oi := _) (v := ?v43) rfl (by kernel_rfl) (by kernel_rfl) (by kernel_rfl) (fun _ _ _ h => h) (Or.inl ⟨by rfl, ?hy43⟩) (by assumption) ?rest43
      case hy43 => ((intro w hSw; (try dsimp only at hSw); go_simp) <;> with_reducible rfl)
      case' rest43 => try simp only [List.getElem_toArray, List.getElem_cons_zero, List.getElem_cons_succ, Act.put, List.setIfInBounds_toArray, List.set_cons_zero, List.set_cons_succ]
      refine wpAnyH_take (i := 11) (oi := _) (v := ?v44) rfl (by kernel_rfl) (by kernel_rfl) (by kernel_rfl) (fun _ _ _ h => h) (Or.inl ⟨by rfl, ?hy44⟩) (by assumption) ?rest44
      case hy44 => ((intro w hSw; (try dsimp only at hSw); go_simp) <;> with_reducible rfl)
      case' rest44 => try simp only [List.getElem_toArray, List.getElem_cons_zero, List.getElem_cons_succ, Act.put, List.setIfInBounds_toArray, List.set_cons_zero, List.set_cons_succ]
      refine wpAnyH_take (i := 12) (oi := _) (v := ?v45) rfl (by kernel_rfl) (by kernel_rfl) (by kernel_rfl) (fun _ _ _ h => h) (Or.inl ⟨by rfl, ?hy45⟩) (by assumption) ?rest45
      case hy45 => ((intro w hSw; (try dsimp only at hSw); go_simp) <;> with_reducible rfl)
      case' rest45 => try simp only [List.getElem_toArray, List.getElem_cons_zero, List.getElem_cons_succ, Act.put, List.setIfInBounds_toArray, List.set_cons_zero, List.set_cons_succ]
      refine wpAnyH_take (i := 13) (oi := _) (v := ?v46) rfl (by kernel_rfl) (by kernel_rfl) (by kernel_rfl) (fun _ _ _ h => h) (Or.inl ⟨by rfl, ?hy46⟩) (by assumption) ?rest46
      case hy46 => ((intro w hSw; (try dsimp only at hSw); go_simp) <;> with_reducible rfl)
      case' rest46 => try simp only [List.getElem_toArray, List.getElem_cons_zero, List.getElem_cons_succ, Act.put, List.setIfInBounds_toArray, List.set_cons_zero, List.set_cons_succ]
      refine wpAnyH_take (i := 14) (oi := _) (v := ?v47) rfl (by kernel_rfl) (by kernel_rfl) (by kernel_rfl) (fun _ _ _ h => h) (Or.inl ⟨by rfl, ?hy47⟩) (by assumption) ?rest47
      case hy47 => ((intro w hSw; (try dsimp only at hSw); go_simp) <;> with_reducible rfl)
      case' rest47 => try simp only [List.getElem_toArray, List.getElem_cons_zero, List.getElem_cons_succ, Act.put, List.setIfInBounds_toArray, List.set_cons_zero, List.set_cons_succ]
      refine wpAnyH_take (i := 15) (oi := _) (v := ?v48) rfl (by kernel_rfl) (by kernel_rfl) (by kernel_rfl) (fun _ _ _ h => h) (Or.inl ⟨by rfl, ?hy48⟩) (by assumption) ?rest48
      case hy48 => ((intro w hSw; (try dsimp only at hSw); go_simp) <;> with_reducible rfl)
      case' rest48 => try simp only [List.getElem_toArray, List.getElem_cons_zero, List.getElem_cons_succ, Act.put, List.setIfInBounds_toArray, List.set_cons_zero, List.set_cons_succ]
      refine wpAnyH_ready (rs := [9]) (by kernel_rfl) (by simp) ?_
      refine AllReadyH.cons (o := _) rfl (fun K hK => ?_) AllReadyH.nil
      go_simp
      refine (HFa.out _ _ _ HZ.out.2).mono ?_
      rintro e w3 ⟨rfl, hb⟩
      try dsimp only
      refine hK.out _ _ ?hS51 (fun hHeld => ?rest51)
      case hS51 => ((try dsimp only); (exact ⟨⟨(HZ.out.2.below hb).box.cell 0 rfl, (hb.cell (lt_of_cell HZ.out.1.2.1)).trans HZ.out.1.2.1, (hb.cell (lt_of_cell HZ.out.1.2.2)).trans HZ.out.1.2.2⟩, HZ.out.2.below hb⟩))
      case' rest51 => (clear hK K; try simp only [List.getElem_toArray, List.getElem_cons_zero, List.getElem_cons_succ, Act.put, List.setIfInBounds_toArray, List.set_cons_zero, List.set_cons_succ])
      clear HZ hb
      have HZ := hide hHeld
      clear hHeld
      refine wpAnyH_ready (rs := [16]) (by kernel_rfl) (by simp) ?_
      refine AllReadyH.cons (o := _) rfl (fun K hK => ?_) AllReadyH.nil
      go_simp
      refine (HF0.out _).mono ?_
      rintro e w3 ⟨rfl, hb⟩
      try dsimp only
      refine hK.out _ _ ?hS54 (fun hHeld => ?rest54)
      case hS54 => ((try dsimp only); (exact ⟨⟨(HZ.out.2.below hb).box.cell 0 rfl, (hb.cell (lt_of_cell HZ.out.1.2.1)).trans HZ.out.1.2.1, (hb.cell (lt_of_cell HZ.out.1.2.2)).trans HZ.out.1.2.2⟩, HZ.out.2.below hb⟩))
      case' rest54 => (clear hK K; try simp only [List.getElem_toArray, List.getElem_cons_zero, List.getElem_cons_succ, Act.put, List.setIfInBounds_toArray, List.set_cons_zero, List.set_cons_succ])
      clear HZ hb
      have HZ := hide hHeld
      clear hHeld
      refine wpAnyH_take (i := 17) (oi := _) (v := ?v55) rfl (by kernel_rfl) (by kernel_rfl) (by kernel_rfl) (fun _ _ _ h => h) (Or.inl ⟨by rfl, ?hy55⟩) (by assumption) ?rest55
      case hy55 => ((intro w hSw; (try dsimp only at hSw); go_simp) <;> with_reducible rfl)
      case' rest55 => try simp only [List.getElem_toArray, List.getElem_cons_zero, List.getElem_cons_succ, Act.put, List.setIfInBounds_toArray, List.set_cons_zero, List.set_cons_succ]
      refine wpAnyH_take (i := 18) (oi := _) (v := ?v56) rfl (by kernel_rfl) (by kernel_rfl) (by kernel_rfl) (fun _ _ _ h => h) (Or.inl ⟨by rfl, ?hy56⟩) (by assumption) ?rest56
      case hy56 => ((intro w hSw; (try dsimp only at hSw); go_simp) <;> with_reducible rfl)
      case' rest56 => try simp only [List.getElem_toArray, List.getElem_cons_zero, List.getElem_cons_succ, Act.put, List.setIfInBounds_toArray, List.set_cons_zero, List.set_cons_succ]
      refine wpAnyH_take (i := 19) (oi := _) (v := ?v57) rfl (by kernel_rfl) (by kernel_rfl) (by kernel_rfl) (fun _ _ _ h => h) (Or.inl ⟨by rfl, ?hy57⟩) (by assumption) ?rest57
      case hy57 => ((intro w hSw; (try dsimp only at hSw); go_simp) <;> with_reducible rfl)
      case' rest57 => try simp only [List.getElem_toArray, List.getElem_cons_zero, List.getElem_cons_succ, Act.put, List.setIfInBounds_toArray, List.set_cons_zero, List.set_cons_succ]
      refine wpAnyH_take (i := 20) (oi := _) (v := ?v58) rfl (by kernel_rfl) (by kernel_rfl) (by kernel_rfl) (fun _ _ _ h => h) (Or.inl ⟨by rfl, ?hy58⟩) (by assumption) ?rest58
      case hy58 => ((intro w hSw; (try dsimp only at hSw); go_simp) <;> with_reducible rfl)
      case' rest58 => try simp only [List.getElem_toArray, List.getElem_cons_zero, List.getElem_cons_succ, Act.put, List.setIfInBounds_toArray, List.set_cons_zero, List.set_cons_succ]
      refine wpAnyH_take (i := 22) (oi := _) (v := ?v59) rfl (by kernel_rfl) (by kernel_rfl) (by kernel_rfl) (fun _ _ _ h => h) (Or.inl ⟨by rfl, ?hy59⟩) (by assumption) ?rest59
      case hy59 => ((intro w hSw; (try dsimp only at hSw); go_simp) <;> with_reducible rfl)
      case' rest59 => try simp only [List.getElem_toArray, List.getElem_cons_zero, List.getElem_cons_succ, Act.put, List.setIfInBounds_toArray, List.set_cons_zero, List.set_cons_succ]
      refine wpAnyH_take (i := 23) (oi := _) (v := ?v60) rfl (by kernel_rfl) (by kernel_rfl) (by kernel_rfl) (fun _ _ _ h => h) (Or.inl ⟨by rfl, ?hy60⟩) (by assumption) ?rest60
      case hy60 => ((intro w hSw; (try dsimp only at hSw); go_simp) <;> with_reducible rfl)
      case' rest60 => try simp only [List.getElem_toArray, List.getElem_cons_zero, List.getElem_cons_succ, Act.put, List.setIfInBounds_toArray, List.set_cons_zero, List.set_cons_succ]
      refine wpAnyH_ready (rs := [21]) (by kernel_rfl) (by simp) ?_
      refine AllReadyH.cons (o := _) rfl (fun K hK => ?_) AllReadyH.nil
      go_simp
      refine (HDe.out _ _ _ HZ.out.2).mono ?_
      rintro e w3 ⟨rfl, hb⟩
      try dsimp only
      refine hK.out _ _ ?hS63 (fun hHeld => ?rest63)
      case hS63 => ((try dsimp only); (exact ⟨⟨(HZ.out.2.below hb).box.cell 0 rfl, (hb.cell (lt_of_cell HZ.out.1.2.1)).trans HZ.out.1.2.1, (hb.cell (lt_of_cell HZ.out.1.2.2)).trans HZ.out.1.2.2⟩, HZ.out.2.below hb⟩))
      case' rest63 => (clear hK K; try simp only [List.getElem_toArray, List.getElem_cons_zero, List.getElem_cons_succ, Act.put, List.setIfInBounds_toArray, List.set_cons_zero, List.set_cons_succ])
      clear HZ hb
      have HZ := hide hHeld
      clear hHeld
      refine wpAnyH_take (i := 24) (oi := _) (v := ?v64) rfl (by kernel_rfl) (by kernel_rfl) (by kernel_rfl) (fun _ _ _ h => h) (Or.inl ⟨by rfl, ?hy64⟩) (by assumption) ?rest64
      case hy64 => ((intro w hSw; (try dsimp only at hSw); go_simp) <;> with_reducible rfl)
      case' rest64 => try simp only [List.getElem_toArray, List.getElem_cons_zero, List.getElem_cons_succ, Act.put, List.setIfInBounds_toArray, List.set_cons_zero, List.set_cons_succ]
      refine wpAnyH_take (i := 25) (oi := _) (v := ?v65) rfl (by kernel_rfl) (by kernel_rfl) (by kernel_rfl) (fun _ _ _ h => h) (Or.inl ⟨by rfl, ?hy65⟩) (by assumption) ?rest65
      case hy65 => ((intro w hSw; (try dsimp only at hSw); go_simp) <;> with_reducible rfl)
      case' rest65 => try simp only [List.getElem_toArray, List.getElem_cons_zero, List.getElem_cons_succ, Act.put, List.setIfInBounds_toArray, List.set_cons_zero, List.set_cons_succ]
      refine wpAnyH_take (i := 26) (oi := _) (v := ?v66) rfl (by kernel_rfl) (by kernel_rfl) (by kernel_rfl) (fun _ _ _ h => h) (Or.inl ⟨by rfl, ?hy66⟩) (by assumption) ?rest66
      case hy66 => ((intro w hSw; (try dsimp only at hSw); go_simp) <;> with_reducible rfl)
      case' rest66 => try simp only [List.getElem_toArray, List.getElem_cons_zero, List.getElem_cons_succ, Act.put, List.setIfInBounds_toArray, List.set_cons_zero, List.set_cons_succ]
      refine wpAnyH_take (i := 27) (oi := _) (v := ?v67) rfl (by kernel_rfl) (by kernel_rfl) (by kernel_rfl) (fun _ _ _ h => h) (Or.inl ⟨by rfl, ?hy67⟩) (by assumption) ?rest67
      case hy67 => ((intro w hSw; (try dsimp only at hSw); go_simp) <;> with_reducible rfl)
      case' rest67 => try simp only [List.getElem_toArray, List.getElem_cons_zero, List.getElem_cons_succ, Act.put, List.setIfInBounds_toArray, List.set_cons_zero, List.set_cons_succ]
      refine wpAnyH_take (i := 28) (oi := _) (v := ?v68) rfl (by kernel_rfl) (by kernel_rfl) (by kernel_rfl) (fun _ _ _ h => h) (Or.inl ⟨by rfl, ?hy68⟩) (by assumption) ?rest68
      case hy68 => ((intro w hSw; (try dsimp only at hSw); go_simp) <;> with_reducible rfl)
      case' rest68 => try simp only [List.getElem_toArray, List.getElem_cons_zero, List.getElem_cons_succ, Act.put, List.setIfInBounds_toArray, List.set_cons_zero, List.set_cons_succ]
      refine wpAnyH_take (i := 30) (oi := _) (v := ?v69) rfl (by kernel_rfl) (by kernel_rfl) (by kernel_rfl) (fun _ _ _ h => h) (Or.inl ⟨by rfl, ?hy69⟩) (by assumption) ?rest69
      case hy69 => ((intro w hSw; (try dsimp only at hSw); go_simp) <;> with_reducible rfl)
      case' rest69 => try simp only [List.getElem_toArray, List.getElem_cons_zero, List.getElem_cons_succ, Act.put, List.setIfInBounds_toArray, List.set_cons_zero, List.set_cons_succ]
      refine wpAnyH_ready (rs := [29]) (by kernel_rfl) (by simp) ?_
      refine AllReadyH.cons (o := _) rfl (fun K hK => ?_) AllReadyH.nil
      go_simp
      refine (HHa.out _ _ _ HZ.out.2).mono ?_
      rintro e w3 ⟨rfl, hb⟩
      try dsimp only
      refine hK.out _ _ ?hS72 (fun hHeld => ?rest72)
      case hS72 => ((try dsimp only); (exact ⟨⟨(HZ.out.2.below hb).box.cell 0 rfl, (hb.cell (lt_of_cell HZ.out.1.2.1)).trans HZ.out.1.2.1, (hb.cell (lt_of_cell HZ.out.1.2.2)).trans HZ.out.1.2.2⟩, HZ.out.2.below hb⟩))
      case' rest72 => (clear hK K; try simp only [List.getElem_toArray, List.getElem_cons_zero, List.getElem_cons_succ, Act.put, List.setIfInBounds_toArray, List.set_cons_zero, List.set_cons_succ])
      clear HZ hb
      have HZ := hide hHeld
      clear hHeld
      refine wpAnyH_take (i := 31) (oi := _) (v := ?v73) rfl (by kernel_rfl) (by kernel_rfl) (by kernel_rfl) (fun _ _ _ h => h) (Or.inl ⟨by rfl, ?hy73⟩) (by assumption) ?rest73
      case hy73 => ((intro w hSw; (try dsimp only at hSw); go_simp) <;> with_reducible rfl)
      case' rest73 => try simp only [List.getElem_toArray, List.getElem_cons_zero, List.getElem_cons_succ, Act.put, List.setIfInBounds_toArray, List.set_cons_zero, List.set_cons_succ]
      refine wpAnyH_take (i := 32) (oi := _) (v := ?v74) rfl (by kernel_rfl) (by kernel_rfl) (by kernel_rfl) (fun _ _ _ h => h) (Or.inl ⟨by rfl, ?hy74⟩) (by assumption) ?rest74
      case hy74 => ((intro w hSw; (try dsimp only at hSw); go_simp) <;> with_reducible rfl)
      case' rest74 => try simp only [List.getElem_toArray, List.getElem_cons_zero, List.getElem_cons_succ, Act.put, List.setIfInBounds_toArray, List.set_cons_zero, List.set_cons_succ]
      refine wpAnyH_take (i := 33) (oi := _) (v := ?v75) rfl (by kernel_rfl) (by kernel_rfl) (by kernel_rfl) (fun _ _ _ h => h) (Or.inl ⟨by rfl, ?hy75⟩) (by assumption) ?rest75
      case hy75 => ((intro w hSw; (try dsimp only at hSw); go_simp) <;> with_reducible rfl)
      case' rest75 => try simp only [List.getElem_toArray, List.getElem_cons_zero, List.getElem_cons_succ, Act.put, List.setIfInBounds_toArray, List.set_cons_zero, List.set_cons_succ]
      refine wpAnyH_ready (rs := [34]) (by kernel_rfl) (by simp) ?_
      refine AllReadyH.cons (o := _) rfl (fun K hK => ?_) AllReadyH.nil
      go_simp
      refine (HLa.out _ _ _ HZ.out.2).mono ?_
      rintro e w3 ⟨rfl, hb⟩
      try dsimp only
      refine hK.out _ _ ?hS78 (fun hHeld => ?rest78)
      case hS78 => ((try dsimp only); (exact ⟨⟨(HZ.out.2.below hb).box.cell 0 rfl, (hb.cell (lt_of_cell HZ.out.1.2.1)).trans HZ.out.1.2.1, (hb.cell (lt_of_cell HZ.out.1.2.2)).trans HZ.out.1.2.2⟩, HZ.out.2.below hb⟩))
      case' rest78 => (clear hK K; try simp only [List.getElem_toArray, List.getElem_cons_zero, List.getElem_cons_succ, Act.put, List.setIfInBounds_toArray, List.set_cons_zero, List.set_cons_succ])
      clear HZ hb
      have HZ := hide hHeld
      clear hHeld
      refine wpAnyH_take (i := 35) (oi := _) (v := ?v79) rfl (by kernel_rfl) (by kernel_rfl) (by kernel_rfl) (fun _ _ _ h => h) (Or.inl ⟨by rfl, ?hy79⟩) (by assumption) ?rest79
      case hy79 => ((intro w hSw; (try dsimp only at hSw); go_simp) <;> with_reducible rfl)
      case' rest79 => try simp only [List.getElem_toArray, List.getElem_cons_zero, List.getElem_cons_succ, Act.put, List.setIfInBounds_toArray, List.set_cons_zero, List.set_cons_succ]
      refine wpAnyH_take (i := 36) (oi := _) (v := ?v80) rfl (by kernel_rfl) (by kernel_rfl) (by kernel_rfl) (fun _ _ _ h => h) (Or.inl ⟨by rfl, ?hy80⟩) (by assumption) ?rest80
      case hy80 => ((intro w hSw; (try dsimp only at hSw); go_simp) <;> with_reducible rfl)
      case' rest80 => try simp only [List.getElem_toArray, List.getElem_cons_zero, List.getElem_cons_succ, Act.put, List.setIfInBounds_toArray, List.set_cons_zero, List.set_cons_succ]
      have hHeld := HZ.out
      refine wpAnyH_done (by kernel_rfl) ?_ _
      have hEnd := hHeld.2
      repeat (clear hHeld)
      go_wp2_with fail
      go_ret
      exact (⟨rfl, HZ.out.2.be⟩ : TrueB w _ _)
end Go.Proofs.YtkhbcmkcjnnejaaDoor
