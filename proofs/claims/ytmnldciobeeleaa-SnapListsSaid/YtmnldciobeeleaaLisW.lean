/- The walk of SnapLists. -/
import Derived.Test.YtmnldciobeeleaaLisG
import Derived.Test.YtmnldciobeeleaaRSm
namespace Go.Proofs.Ytmnldciobeeleaa
set_option linter.unusedVariables false
set_option linter.unusedSimpArgs false
set_option linter.unnecessarySimpa false
open Go.RowKit
set_option maxRecDepth 100000
set_option maxHeartbeats 4000000

theorem right_i64 {E : Ent} (h : rightE E = 0) : I64 E.ix := by
  unfold rightE at h
  split at h
  · cases h
  · rename_i hp
    have hp : placeB E.ix E.sub = true := by simpa using hp
    unfold placeB at hp
    unfold I64
    simp at hp
    omega
structure CaseK (w : World) (P : Nat) (A : Option Addr) (n c : Nat) (A2 : Option Addr) (m c2 : Nat) (W : World) : Prop where
  be : Below w.heap.size w W
  bp : Blk W P 25 #[.slice A n c, .slice A2 m c2]
theorem CaseK.below {w W W' : World} {P n c m c2 : Nat} {A A2 : Option Addr} (h : CaseK w P A n c A2 m c2 W) (hb : Below W.heap.size W W') : CaseK w P A n c A2 m c2 W' := ⟨below_step hb h.be, h.bp.below hb h.bp.lt⟩
theorem drop_len (X : List SV) (g : Int) : (dropL X g).length ≤ X.length := List.length_filter_le _ _
theorem light_fits {X : List SV} (h : lightB X = true) : X.length ≤ 200 ∧ (∀ v ∈ X, v.data.length ≤ 2000) ∧ fitsV X := by
  have h1 : X.length ≤ 200 ∧ ∀ v ∈ X, v.data.length ≤ 2000 := of_decide_eq_true h
  exact ⟨h1.1, h1.2, fun v hv => by have := h1.2 v hv; omega⟩
theorem snapLists_walk (A : Option Addr) (n c : Nat) (L : List Ent) (A2 : Option Addr) (m c2 : Nat) (X : List SV) (g : Int) (A3 : Option Addr) (k3 c3 : Nat) (Y : List SV) (w : World) (hn : n = L.length) (hL : SlE w A L) (hm : m = X.length) (hc2 : m ≤ c2) (hX : SlV w A2 X) (hk3 : k3 = Y.length) (hc3 : k3 ≤ c3) (hY : SlV w A3 Y) (hI : ∀ v ∈ X, I64 v.ix) :
    Calls Try.prog 3 #[.agg #[.slice A n c, .slice A2 m c2], .int .i64 g, .slice A3 k3 c3] w (TrueB w) := by
  have HMD := hide (fun W (h : Below w.heap.size w W) => made_any A n c L A2 m c2 X W hn (hL.below h) hm hc2 (hX.below h))
  have HK3 := hide hk3
  have HC3 := hide hc3
  have HY := hide hY
  have HM := hide hm
  have HC2 := hide hc2
  have HX := hide hX
  have HI := hide hI
  have q0 := blk_one w 25 #[.slice A n c, .slice A2 m c2]
  have hb0 := below_alloc (Below.refl w.heap.size w) (.cells #[.slice A n c, .slice A2 m c2] 25)
  obtain ⟨P, hP⟩ : ∃ P, P = w.heap.size := ⟨_, rfl⟩
  obtain ⟨W0, hW0⟩ : ∃ W, W = w.alloc (.cells #[.slice A n c, .slice A2 m c2] 25) := ⟨_, rfl⟩
  rw [← hP] at q0
  rw [← hW0] at q0 hb0
  have HP := hide hP
  have HW0 := hide hW0
  have K0 := hide (show CaseK w P A n c A2 m c2 W0 from ⟨hb0, q0⟩)
  clear hn hL hm hc2 hX hk3 hc3 hY hI q0 hb0 hP hW0
  cases hly : lightB Y
  · have HLY := hide hly
    clear hly
    go_enter Try.func3, Try.ntmps3
    go_wp2_with fail
    rw [← HW0.out, ← HP.out]
    refine (light_any A3 k3 c3 Y _ HK3.out HC3.out (HY.out.below K0.out.be)).mono ?_
    rintro e w1 ⟨rfl, rfl⟩
    rw [HLY.out]
    go_wp2_with fail
    refine (known_18 _).mono ?_
    rintro e w2 ⟨rfl, hb2⟩
    go_wp2_with fail
    go_ret
    exact (⟨rfl, below_step hb2 K0.out.be⟩ : TrueB w _ _)
  have HLY := hide hly
  clear hly
  cases hlx : lightB X
  · have HLX := hide hlx
    have x1 := K0.out.bp.cell 1 (u := .slice A2 m c2) rfl
    clear hlx
    go_enter Try.func3, Try.ntmps3
    go_wp2_with fail
    rw [← HW0.out, ← HP.out]
    refine (light_any A3 k3 c3 Y _ HK3.out HC3.out (HY.out.below K0.out.be)).mono ?_
    rintro e w1 ⟨rfl, rfl⟩
    rw [HLY.out]
    go_wp2_with fail
    refine (light_any A2 m c2 X _ HM.out HC2.out (HX.out.below K0.out.be)).mono ?_
    rintro e w1 ⟨rfl, rfl⟩
    rw [HLX.out]
    go_wp2_with fail
    refine (known_18 _).mono ?_
    rintro e w2 ⟨rfl, hb2⟩
    go_wp2_with fail
    go_ret
    exact (⟨rfl, below_step hb2 K0.out.be⟩ : TrueB w _ _)
  have HLX := hide hlx
  have HFX := hide (light_fits hlx)
  have HFY := hide (light_fits HLY.out)
  have hm2 : m ≤ 200 := by rw [HM.out]; exact HFX.out.1
  have hk2 : k3 ≤ 200 := by rw [HK3.out]; exact HFY.out.1
  have x0 := K0.out.bp.cell 0 (u := .slice A n c) rfl
  have x1 := K0.out.bp.cell 1 (u := .slice A2 m c2) rfl
  clear hlx
  go_enter Try.func3, Try.ntmps3
  go_wp2_with fail
  rw [← HW0.out, ← HP.out]
  refine (light_any A3 k3 c3 Y _ HK3.out HC3.out (HY.out.below K0.out.be)).mono ?_
  rintro e w1 ⟨rfl, rfl⟩
  rw [HLY.out]
  go_wp2_with fail
  refine (light_any A2 m c2 X _ HM.out HC2.out (HX.out.below K0.out.be)).mono ?_
  rintro e w1 ⟨rfl, rfl⟩
  rw [HLX.out]
  go_wp2_with fail
  refine (HMD.out _ K0.out.be).mono ?_
  rintro e w1 ⟨vd, vr, ok, rfl, hok, hno, hb1⟩
  have K1 := hide (K0.out.below hb1)
  clear hb1 x0 x1
  cases ok
  · obtain ⟨rfl, rfl⟩ := hno rfl
    clear hok hno K0
    have x1 := K1.out.bp.cell 1 (u := .slice A2 m c2) rfl
    go_wp2_with fail
    refine (snap_drop A2 m c2 X g _ HM.out HC2.out (by omega) (HX.out.below K1.out.be) HFX.out.2.2).mono ?_
    rintro e w3 ⟨A5, n5, c5, ds5, rfl, hO5, hb3⟩
    have K3 := hide (K1.out.below hb3)
    have HO5 := hide hO5
    clear hO5 hb3 x1
    have x1 := K3.out.bp.cell 1 (u := .slice A2 m c2) rfl
    go_wp2_with fail
    refine (rsnap_drop A2 m c2 X g _ HM.out (by omega) (HX.out.below K3.out.be) HFX.out.2.2 HI.out).mono ?_
    rintro e w4 ⟨A6, n6, c6, ds6, rfl, hO6, hb4⟩
    have K4 := hide (K3.out.below hb4)
    have HO6 := hide hO6
    have hl6 := drop_len X g
    have hbn5 : n5 ≤ 200 := by have h1 := HO5.out.hn; have h2 := HM.out; omega
    clear hO6 x1 hl6
    go_wp2_with fail
    refine (vals_same A5 A6 n5 n6 c5 c6 (dropL X g) _ HO5.out.hn HO6.out.hn HO5.out.own.le HO6.out.own.le (by omega) (HO5.out.below hb4).slV HO6.out.slV).mono ?_
    rintro e w5 ⟨rfl, hb5⟩
    have K5 := hide (K4.out.below hb5)
    clear hb4 hb5 HO5 HO6 K3 K4
    have x1 := K5.out.bp.cell 1 (u := .slice A2 m c2) rfl
    go_wp2_with fail
    refine (rsnap_once A2 m c2 X _ HM.out (by omega) (HX.out.below K5.out.be)).mono ?_
    rintro e w6 ⟨o1, rfl, ho1, hb6⟩
    have K6 := hide (K5.out.below hb6)
    clear hb6 x1 K5
    cases o1
    · clear ho1
      go_wp2_with fail
      refine (snap_of0 g _).mono ?_
      rintro e w9 ⟨rfl, rfl⟩
      go_wp2_with fail
      refine (known_18 _).mono ?_
      rintro e w9 ⟨rfl, hb9⟩
      go_wp2_with fail
      go_ret
      exact (⟨rfl, below_step hb9 K6.out.be⟩ : TrueB w _ _)
    have HO1 := hide (ho1 rfl)
    clear ho1
    go_wp2_with fail
    refine (rsnap_once A3 k3 c3 Y _ HK3.out (by omega) (HY.out.below K6.out.be)).mono ?_
    rintro e w7 ⟨o2, rfl, ho2, hb7⟩
    have K7 := hide (K6.out.below hb7)
    clear hb7 K6
    cases o2
    · clear ho2
      go_wp2_with fail
      refine (snap_of0 g _).mono ?_
      rintro e w9 ⟨rfl, rfl⟩
      go_wp2_with fail
      refine (known_18 _).mono ?_
      rintro e w9 ⟨rfl, hb9⟩
      go_wp2_with fail
      go_ret
      exact (⟨rfl, below_step hb9 K7.out.be⟩ : TrueB w _ _)
    have HO2 := hide (ho2 rfl)
    clear ho2
    have x1 := K7.out.bp.cell 1 (u := .slice A2 m c2) rfl
    go_wp2_with fail
    refine (snap_join A2 m c2 X A3 k3 c3 Y _ HM.out (HX.out.below K7.out.be) HK3.out (HY.out.below K7.out.be) HLX.out HLY.out).mono ?_
    rintro e w8 ⟨A8, n8, c8, ds8, rfl, hO8, hb8⟩
    have K8 := hide (K7.out.below hb8)
    have HO8 := hide hO8
    clear x1 hO8
    have x1 := K8.out.bp.cell 1 (u := .slice A2 m c2) rfl
    go_wp2_with fail
    refine (rsnap_join A2 m c2 X A3 k3 c3 Y _ HM.out (HX.out.below K8.out.be) HK3.out (HY.out.below K8.out.be) HLX.out HLY.out HO1.out HO2.out).mono ?_
    rintro e w9 ⟨A9, n9, c9, ds9, rfl, hO9, hb9⟩
    have K9 := hide (K8.out.below hb9)
    have HO9 := hide hO9
    have hl8 := joinV_len X Y
    have hbn8 : n8 ≤ 400 := by have h1 := HO8.out.hn; have h2 := HM.out; have h3 := HK3.out; omega
    clear x1 hO9 hl8
    go_wp2_with fail
    refine (vals_same A8 A9 n8 n9 c8 c9 (joinV X Y) _ HO8.out.hn HO9.out.hn HO8.out.own.le HO9.out.own.le (by omega) (HO8.out.below hb9).slV HO9.out.slV).mono ?_
    rintro e w10 ⟨rfl, hb10⟩
    have K10 := hide (K9.out.below hb10)
    have HJ8 := hide ((HO8.out.below hb9).below hb10)
    have HB78 := hide (below_step hb10 (below_step hb9 hb8))
    have H78 := hide (show w7.heap.size ≤ w10.heap.size from Nat.le_trans hb8.size (Nat.le_trans hb9.size hb10.size))
    have HFJ : Hid (∀ v ∈ joinV X Y, v.data.length ≤ 2000) := hide (by
      intro v hv
      rcases (join_spec HO1.out HO2.out).2 v |>.1 hv with h | h
      · exact HFY.out.2.1 v h
      · exact HFX.out.2.1 v h.1)
    clear hb8 hb9 hb10 HO8 HO9 K8 K9
    go_wp2_with fail
    go_loopw [12] (fun i wr => ∃ k : Nat, k ≤ n8 ∧ i = .int .i64 (k : Nat) ∧ Hid (Own wr w7.heap.size 40 3 A8 n8 c8 (cellsV (joinV X Y) ds8) ∧ (∀ (j : Nat) (v : SV) (d : Option Addr × Nat), k ≤ j → (joinV X Y)[j]? = some v → ds8[j]? = some d → OwnB wr w7.heap.size d.1 v.data.length d.2 v.data) ∧ Below w7.heap.size w7 wr)) (fun i _ => n8 - (intOf i).toNat)
    case atStart => exact ⟨0, by omega, rfl, hide ⟨HJ8.out.own, fun j v d _ h1 h2 => HJ8.out.data j v d h1 h2, HB78.out⟩⟩
    case round =>
      obtain ⟨k, hk, rfl, HK⟩ := hrel
      by_cases hlt : k < n8
      · obtain ⟨v, hv⟩ : ∃ v, (joinV X Y)[k]? = some v := ⟨(joinV X Y)[k]'(by have := HJ8.out.hn; omega), List.getElem?_eq_getElem _⟩
        obtain ⟨d, hd, _⟩ := HJ8.out.dat hv
        obtain ⟨_, _, e3⟩ := cellsV_at (joinV X Y) ds8 k v d hv hd
        obtain ⟨bp, offp, rfl, hcell⟩ := HK.out.1.sl.at_ e3
        have hcell' : wr.cell? ⟨bp, offp + k * 3 + 2, none⟩ = some (.slice d.1 v.data.length d.2) := by rw [Nat.add_assoc]; exact hcell
        have hdl := HFJ.out v (List.mem_of_getElem? hv)
        have hOk := HK.out.2.1 k v d (Nat.le_refl _) hv hd
        have HV := hide hv
        have HDK := hide hd
        have hzr := HK.out.2.2.size
        have HSP := hide (spoil_any d.1 v.data.length d.2 w7.heap.size v.data wr (by omega) hOk.own hzr)
        have HOK := hide hOk
        have HZR := hide hzr
        obtain ⟨vl, hvl⟩ : ∃ vl, vl = v.data.length := ⟨_, rfl⟩
        rw [← hvl] at hcell' HSP
        have HVL := hide hvl
        clear hv hd e3 hcell hdl hOk hzr hvl
        go_wp2_with fail
        refine HSP.out.mono ?_
        rintro e wz ⟨rfl, hg8⟩
        rw [HVL.out] at hg8
        go_wp2_with fail
        go_roundw
        case rel =>
          refine ⟨k + 1, by omega, by go_num, hide ⟨HK.out.1.grown hg8 (own_ne HK.out.1 HOK.out.own (by decide)), ?_, HK.out.2.2.grown hg8 HZR.out ?_⟩⟩
          · intro j v' d' hj hv' hd'
            have hOj := HK.out.2.1 j v' d' (by omega) hv' hd'
            refine ⟨rfl, hOj.own.grown hg8 ?_⟩
            intro g' hg' he
            have hpw := List.pairwise_iff_getElem.1 HJ8.out.pw k j (by have := (List.getElem?_eq_some_iff.1 HDK.out).1; exact this) (by have := (List.getElem?_eq_some_iff.1 hd').1; exact this) (by omega)
            rw [(List.getElem?_eq_some_iff.1 HDK.out).2, (List.getElem?_eq_some_iff.1 hd').2] at hpw
            rcases HOK.out.own.shape with ⟨h1, _⟩ | ⟨g1, h1, _⟩
            · rw [h1] at he; simp [Value.ownBlock] at he
            · rw [h1] at he
              simp [Value.ownBlock] at he
              subst he
              exact hpw _ h1 hg'
          · intro g' hg'
            rcases HOK.out.own.shape with ⟨h1, _⟩ | ⟨g1, h1, h2, _⟩
            · rw [h1] at hg'; simp [Value.ownBlock] at hg'
            · rw [h1] at hg'; simp [Value.ownBlock] at hg'; omega
        case measure => simp [intOf]; omega
      · have K11 := hide (K7.out.below HK.out.2.2)
        have x1 := K11.out.bp.cell 1 (u := .slice A2 m c2) rfl
        clear HK K10 HJ8 HB78 H78 HFJ
        go_wp2_with fail
        refine wp_region_held_drew (S := (fun w' => w'.cell? ⟨P, 1, none⟩ = some (.slice A2 m c2) ∧ CaseK w P A n c A2 m c2 w')) (by kernel_rfl) ?hS1 (fun hHeld => ?rest1)
        case hS1 => ((try dsimp only); (exact ⟨x1, K11.out.below (below_drew1 (Below.refl _ _))⟩))
        case' rest1 => skip
        refine wpAnyH_take (i := 0) (oi := _) (v := ?v2) rfl (by kernel_rfl) (by kernel_rfl) (by kernel_rfl) (fun _ _ _ h => h) (Or.inl ⟨by rfl, ?hy2⟩) (by assumption) ?rest2
        case hy2 => ((intro w hSw; (try dsimp only at hSw); go_simp) <;> with_reducible rfl)
        case' rest2 => try simp only [List.getElem_toArray, List.getElem_cons_zero, List.getElem_cons_succ, Act.put, List.setIfInBounds_toArray, List.set_cons_zero, List.set_cons_succ]
        refine wpAnyH_take (i := 1) (oi := _) (v := ?v3) rfl (by kernel_rfl) (by kernel_rfl) (by kernel_rfl) (fun _ _ _ h => h) (Or.inl ⟨by rfl, ?hy3⟩) (by assumption) ?rest3
        case hy3 => ((intro w hSw; (try dsimp only at hSw); go_simp) <;> with_reducible rfl)
        case' rest3 => try simp only [List.getElem_toArray, List.getElem_cons_zero, List.getElem_cons_succ, Act.put, List.setIfInBounds_toArray, List.set_cons_zero, List.set_cons_succ]
        refine wpAnyH_take (i := 2) (oi := _) (v := ?v4) rfl (by kernel_rfl) (by kernel_rfl) (by kernel_rfl) (fun _ _ _ h => h) (Or.inl ⟨by rfl, ?hy4⟩) (by assumption) ?rest4
        case hy4 => ((intro w hSw; (try dsimp only at hSw); go_simp) <;> with_reducible rfl)
        case' rest4 => try simp only [List.getElem_toArray, List.getElem_cons_zero, List.getElem_cons_succ, Act.put, List.setIfInBounds_toArray, List.set_cons_zero, List.set_cons_succ]
        refine wpAnyH_take (i := 4) (oi := _) (v := ?v5) rfl (by kernel_rfl) (by kernel_rfl) (by kernel_rfl) (fun _ _ _ h => h) (Or.inl ⟨by rfl, ?hy5⟩) (by assumption) ?rest5
        case hy5 => ((intro w hSw; (try dsimp only at hSw); go_simp) <;> with_reducible rfl)
        case' rest5 => try simp only [List.getElem_toArray, List.getElem_cons_zero, List.getElem_cons_succ, Act.put, List.setIfInBounds_toArray, List.set_cons_zero, List.set_cons_succ]
        refine wpAnyH_take (i := 5) (oi := _) (v := ?v6) rfl (by kernel_rfl) (by kernel_rfl) (by kernel_rfl) (fun _ _ _ h => h) (Or.inl ⟨by rfl, ?hy6⟩) (by assumption) ?rest6
        case hy6 => ((intro w hSw; (try dsimp only at hSw); go_simp) <;> with_reducible rfl)
        case' rest6 => try simp only [List.getElem_toArray, List.getElem_cons_zero, List.getElem_cons_succ, Act.put, List.setIfInBounds_toArray, List.set_cons_zero, List.set_cons_succ]
        refine wpAnyH_take (i := 6) (oi := _) (v := ?v7) rfl (by kernel_rfl) (by kernel_rfl) (by kernel_rfl) (fun _ _ _ h => h) (Or.inl ⟨by rfl, ?hy7⟩) (by assumption) ?rest7
        case hy7 => ((intro w hSw; (try dsimp only at hSw); go_simp) <;> with_reducible rfl)
        case' rest7 => try simp only [List.getElem_toArray, List.getElem_cons_zero, List.getElem_cons_succ, Act.put, List.setIfInBounds_toArray, List.set_cons_zero, List.set_cons_succ]
        have HZ := hide hHeld.2
        clear hHeld
        refine wpAnyH_ready (rs := [3]) (by kernel_rfl) (by simp) ?_
        refine AllReadyH.cons (o := _) rfl (fun K hK => ?_) AllReadyH.nil
        go_simp
        refine (snap_join A2 m c2 X A3 k3 c3 Y _ HM.out (HX.out.below HZ.out.be) HK3.out (HY.out.below HZ.out.be) HLX.out HLY.out).mono ?_
        rintro e w12 ⟨A12, n12, c12, ds12, rfl, hO12, hb12⟩
        have HZ2 := hide (HZ.out.below hb12)
        have HO12 := hide hO12
        try dsimp only
        refine hK.out _ _ ?hS10 (fun hHeld => ?rest10)
        case hS10 => ((try dsimp only); (exact ⟨HZ2.out.bp.cell 1 rfl, HZ2.out⟩))
        case' rest10 => (clear hK K; try simp only [List.getElem_toArray, List.getElem_cons_zero, List.getElem_cons_succ, Act.put, List.setIfInBounds_toArray, List.set_cons_zero, List.set_cons_succ])
        clear hO12 hb12 HZ hHeld
        refine wpAnyH_ready (rs := [7]) (by kernel_rfl) (by simp) ?_
        refine AllReadyH.cons (o := _) rfl (fun K hK => ?_) AllReadyH.nil
        go_simp
        refine (rsnap_join A2 m c2 X A3 k3 c3 Y _ HM.out (HX.out.below HZ2.out.be) HK3.out (HY.out.below HZ2.out.be) HLX.out HLY.out HO1.out HO2.out).mono ?_
        rintro e w13 ⟨A13, n13, c13, ds13, rfl, hO13, hb13⟩
        have HZ3 := hide (HZ2.out.below hb13)
        have HO13 := hide hO13
        have HB13 := hide hb13
        have hbn12 : n12 ≤ 400 := by have h1 := HO12.out.hn; have h2 := HM.out; have h3 := HK3.out; have h4 := joinV_len X Y; omega
        try dsimp only
        refine hK.out _ _ ?hS13 (fun hHeld => ?rest13)
        case hS13 => ((try dsimp only); (exact ⟨HZ3.out.bp.cell 1 rfl, HZ3.out⟩))
        case' rest13 => (clear hK K; try simp only [List.getElem_toArray, List.getElem_cons_zero, List.getElem_cons_succ, Act.put, List.setIfInBounds_toArray, List.set_cons_zero, List.set_cons_succ])
        clear hO13 hb13 HZ2 hHeld
        refine wpAnyH_ready (rs := [8]) (by kernel_rfl) (by simp) ?_
        refine AllReadyH.cons (o := _) rfl (fun K hK => ?_) AllReadyH.nil
        go_simp
        refine (vals_same A12 A13 n12 n13 c12 c13 (joinV X Y) _ HO12.out.hn HO13.out.hn HO12.out.own.le HO13.out.own.le (by omega) (HO12.out.below HB13.out).slV HO13.out.slV).mono ?_
        rintro e w14 ⟨rfl, hb14⟩
        have K14 := hide (HZ3.out.below hb14)
        try dsimp only
        refine hK.out _ _ ?hS16 (fun hHeld => ?rest16)
        case hS16 => ((try dsimp only); (exact ⟨K14.out.bp.cell 1 rfl, K14.out⟩))
        case' rest16 => (clear hK K; try simp only [List.getElem_toArray, List.getElem_cons_zero, List.getElem_cons_succ, Act.put, List.setIfInBounds_toArray, List.set_cons_zero, List.set_cons_succ])
        clear hb14
        refine wpAnyH_take (i := 9) (oi := _) (v := ?v17) rfl (by kernel_rfl) (by kernel_rfl) (by kernel_rfl) (fun _ _ _ h => h) (Or.inl ⟨by rfl, ?hy17⟩) (by assumption) ?rest17
        case hy17 => ((intro w hSw; (try dsimp only at hSw); go_simp) <;> with_reducible rfl)
        case' rest17 => try simp only [List.getElem_toArray, List.getElem_cons_zero, List.getElem_cons_succ, Act.put, List.setIfInBounds_toArray, List.set_cons_zero, List.set_cons_succ]
        refine wpAnyH_done (by kernel_rfl) ?_ _
        have hEnd := hHeld.2
        repeat (clear hHeld)
        clear hEnd HZ3 HO12 HO13 HB13 K11 x1
        go_wp2_with fail
        refine (snap_of0 g _).mono ?_
        rintro e w9 ⟨rfl, rfl⟩
        go_wp2_with fail
        refine (known_18 _).mono ?_
        rintro e w9 ⟨rfl, hb9⟩
        go_wp2_with fail
        go_ret
        exact (⟨rfl, below_step hb9 K14.out.be⟩ : TrueB w _ _)
  · obtain ⟨p, pr, rfl, rfl, hT, hS, hli, _, hri⟩ := hok rfl
    obtain ⟨V, hV⟩ : ∃ V, V = pokeAll L (L.map Ent.df) X := ⟨_, rfl⟩
    rw [← hV] at hT
    obtain ⟨Fd, Fr, gl, n1, cl, Av, cv, ds, es, Al2, cl2, Av2, cv2, ds2, es2, T⟩ := hT
    have HT := hide T
    have h200 : n1 ≤ 200 := by rw [T.hn]; exact light_len hli
    have H1 : Hid (n1 ≤ 1000) := hide (by omega)
    have HRI : Hid (∀ E ∈ L, I64 E.ix) := hide (fun E hE => right_i64 (hri E hE))
    have HOL : Hid ((ofV L V g).length ≤ 200) := hide (by have := of_len L V g; have := T.hn; omega)
    clear hok hno hV T hS hli h200 hri K0
    go_wp2_with fail
    refine (snap_of g _ HT.out.d H1.out).mono ?_
    rintro e w2 ⟨A5, n5, c5, ds5, rfl, hO5, hb2⟩
    have HO5 := hide hO5
    have K2 := hide (K1.out.below hb2)
    clear hO5
    go_wp2_with fail
    refine (rsnap_of g _ (HT.out.r.below hb2) H1.out HRI.out).mono ?_
    rintro e w3 ⟨A6, n6, c6, ds6, rfl, hO6, hb3⟩
    have HO6 := hide hO6
    have K3 := hide (K2.out.below hb3)
    have hbn5 : n5 ≤ 200 := by have h1 := HO5.out.hn; have h2 := HOL.out; omega
    clear hO6
    go_wp2_with fail
    refine (vals_same A5 A6 n5 n6 c5 c6 (ofV L V g) _ HO5.out.hn HO6.out.hn HO5.out.own.le HO6.out.own.le (by omega) (HO5.out.below hb3).slV HO6.out.slV).mono ?_
    rintro e w4 ⟨rfl, hb4⟩
    have KA := hide (K3.out.below hb4)
    clear hb2 hb3 hb4 HO5 HO6 K1 K2 K3 HT hbn5
    have x1 := KA.out.bp.cell 1 (u := .slice A2 m c2) rfl
    go_wp2_with fail
    refine (snap_drop A2 m c2 X g _ HM.out HC2.out (by omega) (HX.out.below KA.out.be) HFX.out.2.2).mono ?_
    rintro e w3 ⟨A5, n5, c5, ds5, rfl, hO5, hb3⟩
    have K3 := hide (KA.out.below hb3)
    have HO5 := hide hO5
    clear hO5 hb3 x1
    have x1 := K3.out.bp.cell 1 (u := .slice A2 m c2) rfl
    go_wp2_with fail
    refine (rsnap_drop A2 m c2 X g _ HM.out (by omega) (HX.out.below K3.out.be) HFX.out.2.2 HI.out).mono ?_
    rintro e w4 ⟨A6, n6, c6, ds6, rfl, hO6, hb4⟩
    have K4 := hide (K3.out.below hb4)
    have HO6 := hide hO6
    have hl6 := drop_len X g
    have hbn5 : n5 ≤ 200 := by have h1 := HO5.out.hn; have h2 := HM.out; omega
    clear hO6 x1 hl6
    go_wp2_with fail
    refine (vals_same A5 A6 n5 n6 c5 c6 (dropL X g) _ HO5.out.hn HO6.out.hn HO5.out.own.le HO6.out.own.le (by omega) (HO5.out.below hb4).slV HO6.out.slV).mono ?_
    rintro e w5 ⟨rfl, hb5⟩
    have K5 := hide (K4.out.below hb5)
    clear hb4 hb5 HO5 HO6 K3 K4
    have x1 := K5.out.bp.cell 1 (u := .slice A2 m c2) rfl
    go_wp2_with fail
    refine (rsnap_once A2 m c2 X _ HM.out (by omega) (HX.out.below K5.out.be)).mono ?_
    rintro e w6 ⟨o1, rfl, ho1, hb6⟩
    have K6 := hide (K5.out.below hb6)
    clear hb6 x1 K5
    cases o1
    · clear ho1
      go_wp2_with fail
      refine (snap_of0 g _).mono ?_
      rintro e w9 ⟨rfl, rfl⟩
      go_wp2_with fail
      refine (known_18 _).mono ?_
      rintro e w9 ⟨rfl, hb9⟩
      go_wp2_with fail
      go_ret
      exact (⟨rfl, below_step hb9 K6.out.be⟩ : TrueB w _ _)
    have HO1 := hide (ho1 rfl)
    clear ho1
    go_wp2_with fail
    refine (rsnap_once A3 k3 c3 Y _ HK3.out (by omega) (HY.out.below K6.out.be)).mono ?_
    rintro e w7 ⟨o2, rfl, ho2, hb7⟩
    have K7 := hide (K6.out.below hb7)
    clear hb7 K6
    cases o2
    · clear ho2
      go_wp2_with fail
      refine (snap_of0 g _).mono ?_
      rintro e w9 ⟨rfl, rfl⟩
      go_wp2_with fail
      refine (known_18 _).mono ?_
      rintro e w9 ⟨rfl, hb9⟩
      go_wp2_with fail
      go_ret
      exact (⟨rfl, below_step hb9 K7.out.be⟩ : TrueB w _ _)
    have HO2 := hide (ho2 rfl)
    clear ho2
    have x1 := K7.out.bp.cell 1 (u := .slice A2 m c2) rfl
    go_wp2_with fail
    refine (snap_join A2 m c2 X A3 k3 c3 Y _ HM.out (HX.out.below K7.out.be) HK3.out (HY.out.below K7.out.be) HLX.out HLY.out).mono ?_
    rintro e w8 ⟨A8, n8, c8, ds8, rfl, hO8, hb8⟩
    have K8 := hide (K7.out.below hb8)
    have HO8 := hide hO8
    clear x1 hO8
    have x1 := K8.out.bp.cell 1 (u := .slice A2 m c2) rfl
    go_wp2_with fail
    refine (rsnap_join A2 m c2 X A3 k3 c3 Y _ HM.out (HX.out.below K8.out.be) HK3.out (HY.out.below K8.out.be) HLX.out HLY.out HO1.out HO2.out).mono ?_
    rintro e w9 ⟨A9, n9, c9, ds9, rfl, hO9, hb9⟩
    have K9 := hide (K8.out.below hb9)
    have HO9 := hide hO9
    have hl8 := joinV_len X Y
    have hbn8 : n8 ≤ 400 := by have h1 := HO8.out.hn; have h2 := HM.out; have h3 := HK3.out; omega
    clear x1 hO9 hl8
    go_wp2_with fail
    refine (vals_same A8 A9 n8 n9 c8 c9 (joinV X Y) _ HO8.out.hn HO9.out.hn HO8.out.own.le HO9.out.own.le (by omega) (HO8.out.below hb9).slV HO9.out.slV).mono ?_
    rintro e w10 ⟨rfl, hb10⟩
    have K10 := hide (K9.out.below hb10)
    have HJ8 := hide ((HO8.out.below hb9).below hb10)
    have HB78 := hide (below_step hb10 (below_step hb9 hb8))
    have H78 := hide (show w7.heap.size ≤ w10.heap.size from Nat.le_trans hb8.size (Nat.le_trans hb9.size hb10.size))
    have HFJ : Hid (∀ v ∈ joinV X Y, v.data.length ≤ 2000) := hide (by
      intro v hv
      rcases (join_spec HO1.out HO2.out).2 v |>.1 hv with h | h
      · exact HFY.out.2.1 v h
      · exact HFX.out.2.1 v h.1)
    clear hb8 hb9 hb10 HO8 HO9 K8 K9
    go_wp2_with fail
    go_loopw [12] (fun i wr => ∃ k : Nat, k ≤ n8 ∧ i = .int .i64 (k : Nat) ∧ Hid (Own wr w7.heap.size 40 3 A8 n8 c8 (cellsV (joinV X Y) ds8) ∧ (∀ (j : Nat) (v : SV) (d : Option Addr × Nat), k ≤ j → (joinV X Y)[j]? = some v → ds8[j]? = some d → OwnB wr w7.heap.size d.1 v.data.length d.2 v.data) ∧ Below w7.heap.size w7 wr)) (fun i _ => n8 - (intOf i).toNat)
    case atStart => exact ⟨0, by omega, rfl, hide ⟨HJ8.out.own, fun j v d _ h1 h2 => HJ8.out.data j v d h1 h2, HB78.out⟩⟩
    case round =>
      obtain ⟨k, hk, rfl, HK⟩ := hrel
      by_cases hlt : k < n8
      · obtain ⟨v, hv⟩ : ∃ v, (joinV X Y)[k]? = some v := ⟨(joinV X Y)[k]'(by have := HJ8.out.hn; omega), List.getElem?_eq_getElem _⟩
        obtain ⟨d, hd, _⟩ := HJ8.out.dat hv
        obtain ⟨_, _, e3⟩ := cellsV_at (joinV X Y) ds8 k v d hv hd
        obtain ⟨bp, offp, rfl, hcell⟩ := HK.out.1.sl.at_ e3
        have hcell' : wr.cell? ⟨bp, offp + k * 3 + 2, none⟩ = some (.slice d.1 v.data.length d.2) := by rw [Nat.add_assoc]; exact hcell
        have hdl := HFJ.out v (List.mem_of_getElem? hv)
        have hOk := HK.out.2.1 k v d (Nat.le_refl _) hv hd
        have HV := hide hv
        have HDK := hide hd
        have hzr := HK.out.2.2.size
        have HSP := hide (spoil_any d.1 v.data.length d.2 w7.heap.size v.data wr (by omega) hOk.own hzr)
        have HOK := hide hOk
        have HZR := hide hzr
        obtain ⟨vl, hvl⟩ : ∃ vl, vl = v.data.length := ⟨_, rfl⟩
        rw [← hvl] at hcell' HSP
        have HVL := hide hvl
        clear hv hd e3 hcell hdl hOk hzr hvl
        go_wp2_with fail
        refine HSP.out.mono ?_
        rintro e wz ⟨rfl, hg8⟩
        rw [HVL.out] at hg8
        go_wp2_with fail
        go_roundw
        case rel =>
          refine ⟨k + 1, by omega, by go_num, hide ⟨HK.out.1.grown hg8 (own_ne HK.out.1 HOK.out.own (by decide)), ?_, HK.out.2.2.grown hg8 HZR.out ?_⟩⟩
          · intro j v' d' hj hv' hd'
            have hOj := HK.out.2.1 j v' d' (by omega) hv' hd'
            refine ⟨rfl, hOj.own.grown hg8 ?_⟩
            intro g' hg' he
            have hpw := List.pairwise_iff_getElem.1 HJ8.out.pw k j (by have := (List.getElem?_eq_some_iff.1 HDK.out).1; exact this) (by have := (List.getElem?_eq_some_iff.1 hd').1; exact this) (by omega)
            rw [(List.getElem?_eq_some_iff.1 HDK.out).2, (List.getElem?_eq_some_iff.1 hd').2] at hpw
            rcases HOK.out.own.shape with ⟨h1, _⟩ | ⟨g1, h1, _⟩
            · rw [h1] at he; simp [Value.ownBlock] at he
            · rw [h1] at he
              simp [Value.ownBlock] at he
              subst he
              exact hpw _ h1 hg'
          · intro g' hg'
            rcases HOK.out.own.shape with ⟨h1, _⟩ | ⟨g1, h1, h2, _⟩
            · rw [h1] at hg'; simp [Value.ownBlock] at hg'
            · rw [h1] at hg'; simp [Value.ownBlock] at hg'; omega
        case measure => simp [intOf]; omega
      · have K11 := hide (K7.out.below HK.out.2.2)
        have x1 := K11.out.bp.cell 1 (u := .slice A2 m c2) rfl
        clear HK K10 HJ8 HB78 H78 HFJ
        go_wp2_with fail
        refine wp_region_held_drew (S := (fun w' => w'.cell? ⟨P, 1, none⟩ = some (.slice A2 m c2) ∧ CaseK w P A n c A2 m c2 w')) (by kernel_rfl) ?hS19 (fun hHeld => ?rest19)
        case hS19 => ((try dsimp only); (exact ⟨x1, K11.out.below (below_drew1 (Below.refl _ _))⟩))
        case' rest19 => skip
        refine wpAnyH_take (i := 0) (oi := _) (v := ?v20) rfl (by kernel_rfl) (by kernel_rfl) (by kernel_rfl) (fun _ _ _ h => h) (Or.inl ⟨by rfl, ?hy20⟩) (by assumption) ?rest20
        case hy20 => ((intro w hSw; (try dsimp only at hSw); go_simp) <;> with_reducible rfl)
        case' rest20 => try simp only [List.getElem_toArray, List.getElem_cons_zero, List.getElem_cons_succ, Act.put, List.setIfInBounds_toArray, List.set_cons_zero, List.set_cons_succ]
        refine wpAnyH_take (i := 1) (oi := _) (v := ?v21) rfl (by kernel_rfl) (by kernel_rfl) (by kernel_rfl) (fun _ _ _ h => h) (Or.inl ⟨by rfl, ?hy21⟩) (by assumption) ?rest21
        case hy21 => ((intro w hSw; (try dsimp only at hSw); go_simp) <;> with_reducible rfl)
        case' rest21 => try simp only [List.getElem_toArray, List.getElem_cons_zero, List.getElem_cons_succ, Act.put, List.setIfInBounds_toArray, List.set_cons_zero, List.set_cons_succ]
        refine wpAnyH_take (i := 2) (oi := _) (v := ?v22) rfl (by kernel_rfl) (by kernel_rfl) (by kernel_rfl) (fun _ _ _ h => h) (Or.inl ⟨by rfl, ?hy22⟩) (by assumption) ?rest22
        case hy22 => ((intro w hSw; (try dsimp only at hSw); go_simp) <;> with_reducible rfl)
        case' rest22 => try simp only [List.getElem_toArray, List.getElem_cons_zero, List.getElem_cons_succ, Act.put, List.setIfInBounds_toArray, List.set_cons_zero, List.set_cons_succ]
        refine wpAnyH_take (i := 4) (oi := _) (v := ?v23) rfl (by kernel_rfl) (by kernel_rfl) (by kernel_rfl) (fun _ _ _ h => h) (Or.inl ⟨by rfl, ?hy23⟩) (by assumption) ?rest23
        case hy23 => ((intro w hSw; (try dsimp only at hSw); go_simp) <;> with_reducible rfl)
        case' rest23 => try simp only [List.getElem_toArray, List.getElem_cons_zero, List.getElem_cons_succ, Act.put, List.setIfInBounds_toArray, List.set_cons_zero, List.set_cons_succ]
        refine wpAnyH_take (i := 5) (oi := _) (v := ?v24) rfl (by kernel_rfl) (by kernel_rfl) (by kernel_rfl) (fun _ _ _ h => h) (Or.inl ⟨by rfl, ?hy24⟩) (by assumption) ?rest24
        case hy24 => ((intro w hSw; (try dsimp only at hSw); go_simp) <;> with_reducible rfl)
        case' rest24 => try simp only [List.getElem_toArray, List.getElem_cons_zero, List.getElem_cons_succ, Act.put, List.setIfInBounds_toArray, List.set_cons_zero, List.set_cons_succ]
        refine wpAnyH_take (i := 6) (oi := _) (v := ?v25) rfl (by kernel_rfl) (by kernel_rfl) (by kernel_rfl) (fun _ _ _ h => h) (Or.inl ⟨by rfl, ?hy25⟩) (by assumption) ?rest25
        case hy25 => ((intro w hSw; (try dsimp only at hSw); go_simp) <;> with_reducible rfl)
        case' rest25 => try simp only [List.getElem_toArray, List.getElem_cons_zero, List.getElem_cons_succ, Act.put, List.setIfInBounds_toArray, List.set_cons_zero, List.set_cons_succ]
        have HZ := hide hHeld.2
        clear hHeld
        refine wpAnyH_ready (rs := [3]) (by kernel_rfl) (by simp) ?_
        refine AllReadyH.cons (o := _) rfl (fun K hK => ?_) AllReadyH.nil
        go_simp
        refine (snap_join A2 m c2 X A3 k3 c3 Y _ HM.out (HX.out.below HZ.out.be) HK3.out (HY.out.below HZ.out.be) HLX.out HLY.out).mono ?_
        rintro e w12 ⟨A12, n12, c12, ds12, rfl, hO12, hb12⟩
        have HZ2 := hide (HZ.out.below hb12)
        have HO12 := hide hO12
        try dsimp only
        refine hK.out _ _ ?hS28 (fun hHeld => ?rest28)
        case hS28 => ((try dsimp only); (exact ⟨HZ2.out.bp.cell 1 rfl, HZ2.out⟩))
        case' rest28 => (clear hK K; try simp only [List.getElem_toArray, List.getElem_cons_zero, List.getElem_cons_succ, Act.put, List.setIfInBounds_toArray, List.set_cons_zero, List.set_cons_succ])
        clear hO12 hb12 HZ hHeld
        refine wpAnyH_ready (rs := [7]) (by kernel_rfl) (by simp) ?_
        refine AllReadyH.cons (o := _) rfl (fun K hK => ?_) AllReadyH.nil
        go_simp
        refine (rsnap_join A2 m c2 X A3 k3 c3 Y _ HM.out (HX.out.below HZ2.out.be) HK3.out (HY.out.below HZ2.out.be) HLX.out HLY.out HO1.out HO2.out).mono ?_
        rintro e w13 ⟨A13, n13, c13, ds13, rfl, hO13, hb13⟩
        have HZ3 := hide (HZ2.out.below hb13)
        have HO13 := hide hO13
        have HB13 := hide hb13
        have hbn12 : n12 ≤ 400 := by have h1 := HO12.out.hn; have h2 := HM.out; have h3 := HK3.out; have h4 := joinV_len X Y; omega
        try dsimp only
        refine hK.out _ _ ?hS31 (fun hHeld => ?rest31)
        case hS31 => ((try dsimp only); (exact ⟨HZ3.out.bp.cell 1 rfl, HZ3.out⟩))
        case' rest31 => (clear hK K; try simp only [List.getElem_toArray, List.getElem_cons_zero, List.getElem_cons_succ, Act.put, List.setIfInBounds_toArray, List.set_cons_zero, List.set_cons_succ])
        clear hO13 hb13 HZ2 hHeld
        refine wpAnyH_ready (rs := [8]) (by kernel_rfl) (by simp) ?_
        refine AllReadyH.cons (o := _) rfl (fun K hK => ?_) AllReadyH.nil
        go_simp
        refine (vals_same A12 A13 n12 n13 c12 c13 (joinV X Y) _ HO12.out.hn HO13.out.hn HO12.out.own.le HO13.out.own.le (by omega) (HO12.out.below HB13.out).slV HO13.out.slV).mono ?_
        rintro e w14 ⟨rfl, hb14⟩
        have K14 := hide (HZ3.out.below hb14)
        try dsimp only
        refine hK.out _ _ ?hS34 (fun hHeld => ?rest34)
        case hS34 => ((try dsimp only); (exact ⟨K14.out.bp.cell 1 rfl, K14.out⟩))
        case' rest34 => (clear hK K; try simp only [List.getElem_toArray, List.getElem_cons_zero, List.getElem_cons_succ, Act.put, List.setIfInBounds_toArray, List.set_cons_zero, List.set_cons_succ])
        clear hb14
        refine wpAnyH_take (i := 9) (oi := _) (v := ?v35) rfl (by kernel_rfl) (by kernel_rfl) (by kernel_rfl) (fun _ _ _ h => h) (Or.inl ⟨by rfl, ?hy35⟩) (by assumption) ?rest35
        case hy35 => ((intro w hSw; (try dsimp only at hSw); go_simp) <;> with_reducible rfl)
        case' rest35 => try simp only [List.getElem_toArray, List.getElem_cons_zero, List.getElem_cons_succ, Act.put, List.setIfInBounds_toArray, List.set_cons_zero, List.set_cons_succ]
        refine wpAnyH_done (by kernel_rfl) ?_ _
        have hEnd := hHeld.2
        repeat (clear hHeld)
        clear hEnd HZ3 HO12 HO13 HB13 K11 x1
        go_wp2_with fail
        refine (snap_of0 g _).mono ?_
        rintro e w9 ⟨rfl, rfl⟩
        go_wp2_with fail
        refine (known_18 _).mono ?_
        rintro e w9 ⟨rfl, hb9⟩
        go_wp2_with fail
        go_ret
        exact (⟨rfl, below_step hb9 K14.out.be⟩ : TrueB w _ _)
end Go.Proofs.Ytmnldciobeeleaa
