/- The walk of DictValues. -/
import Derived.Test.YtabgdfbiocoimaaDicSetW
import Derived.Test.YtabgdfbiocoimaaDicValL
namespace Go.Proofs.Ytabgdfbiocoimaa
set_option linter.unusedVariables false
set_option linter.unusedSimpArgs false
set_option linter.unnecessarySimpa false
open Go.RowKit
set_option maxRecDepth 100000
set_option maxHeartbeats 4000000
/-- what a round of the script keeps -/
def ValI (w : World) (L : List Ent) (p gl n cl : Nat) (Av : Option Addr) (cv : Nat) (ds : List (Option Addr × Nat)) (wr : World) : Prop :=
  ∃ V es, DB 86 wr (fun g => w.heap.size ≤ g) p (some ⟨gl, 0, none⟩) n cl Av cv L V ds es ∧ ValsP L V
theorem dictValues_walk (A : Option Addr) (n c : Nat) (L : List Ent) (A2 : Option Addr) (m c2 : Nat) (S : List Opr) (w : World) (hn : n = L.length) (hL : SlE w A L) (hm : m = S.length) (hS : SlO w A2 S) :
    Calls Try.prog 5 #[.slice A n c, .slice A2 m c2] w (TrueB w) := by
  have HN := hide hn
  have HL := hide hL
  have HM := hide hm
  have HSS := hide hS
  cases hli : lightL L
  · have HLI := hide hli
    clear hn hL hli hm hS
    go_enter Try.func5, Try.ntmps5
    go_wp2_with fail
    refine (rlight A n c L _ HN.out HL.out).mono ?_
    rintro e w1 ⟨rfl, rfl⟩
    rw [HLI.out]
    go_wp2_with fail
    refine (known_15 _).mono ?_
    rintro e w1 ⟨rfl, hb1⟩
    go_wp2_with fail
    go_ret
    exact (⟨rfl, hb1⟩ : TrueB w _ _)
  have HLI := hide hli
  have HFT := hide (light_fit hli)
  have h200 : n ≤ 200 := by rw [hn]; exact light_len hli
  clear hn hL hli hm hS
  go_enter Try.func5, Try.ntmps5
  go_wp2_with fail
  refine (rlight A n c L _ HN.out HL.out).mono ?_
  rintro e w1 ⟨rfl, rfl⟩
  rw [HLI.out]
  go_wp2_with fail
  refine (dict_new A n c L _ HN.out HL.out HFT.out).mono ?_
  rintro e w1 ⟨v, er, at_, rfl, hnp, h2, h3, hb1⟩
  by_cases her : er = 0
  · subst her
    obtain ⟨p, gl, n', cl, Av, cv, ds, es, rfl, hn', hD⟩ := h3 rfl
    have hnn : n' = n := by rw [hn', HN.out]
    subst hnn
    have HS : Hid (SortedE L) := hide (new_sorted hnp)
    have HR := hide (right_all hnp)
    have HI : Hid (ValI w L p gl n' cl Av cv ds w1) := hide ⟨_, es, hD, vals_df HR.out⟩
    clear h2 h3 hnp hD hn'
    go_wp2_with fail
    go_loopw [8] (fun i wr => ∃ k, k ≤ m ∧ i = .int .i64 (k : Nat) ∧ Hid (ValI w L p gl n' cl Av cv ds wr) ∧ Below w.heap.size w wr) (fun i _ => m - (intOf i).toNat)
    case atStart => exact ⟨0, by omega, rfl, HI, hb1⟩
    case round =>
      clear HI hb1
      obtain ⟨k, hk, rfl, HI, hbr⟩ := hrel
      by_cases hlt : k < m ∧ k < 40
      · obtain ⟨hlt, h40⟩ := hlt
        obtain ⟨o, hO⟩ : ∃ o, S[k]? = some o := ⟨S[k]'(by rw [← HM.out]; exact hlt), List.getElem?_eq_getElem _⟩
        obtain ⟨kind, ix, sub, b⟩ := o
        obtain ⟨bb, off, Aj, cj, rfl, ⟨c0, c1, c2', c3⟩, hcj, hsj⟩ := (HSS.out.below hbr) k _ hO
        simp only at c0 c1 c2' c3 hcj hsj
        obtain ⟨lb, hlb⟩ : ∃ lb, lb = b.length := ⟨_, rfl⟩
        rw [← hlb] at c3 hcj
        have HLB := hide hlb
        have q := blk_one wr 25 #[.int .i64 kind, .int .i64 ix, .int .i64 sub, .slice Aj lb cj]
        have hb0 := below_alloc (Below.refl wr.heap.size wr) (.cells #[.int .i64 kind, .int .i64 ix, .int .i64 sub, .slice Aj lb cj] 25)
        have HSJ := hide (hsj.below hb0)
        have hbr0 := below_step hb0 hbr
        obtain ⟨V, es, hD, hV⟩ := HI.out
        have HV := hide hV
        have HD := hide (hD.below hb0)
        have HLV := hide hD.lenV
        clear hO hsj hD hV hlb
        by_cases hbig : 1000 < lb
        · go_wp2_with fail
          go_roundw
          case rel => exact ⟨k + 1, by omega, by go_num, hide ⟨V, es, HD.out, HV.out⟩, hbr0⟩
          case measure => simp [intOf]; omega
        · have hlb1 : lb ≤ 35184372088832 := by omega
          by_cases hkd1 : kind = 0
          · subst hkd1
            go_wp2_with fail
            refine (dict_set ix sub Aj lb cj b _ HD.out HS.out (by omega) HLB.out hcj hlb1 HSJ.out).mono ?_
            rintro e w2 ⟨V2, es2, rfl, hV2, hD2, ho2⟩
            have hb2 := below_only ho2 hbr0 (fun i h => h)
            have hz2 := hbr0.size
            have HD2 := hide (hD2.mono (G := fun g => w.heap.size ≤ g) (fun g _ h => h.elim id (fun h => Nat.le_trans hz2 h)))
            have HV2 : Hid (ValsP L V2) := hide (by rw [hV2]; exact vals_put HS.out HLV.out HV.out ix sub b false)
            have HLV2 : Hid (V2.length = L.length) := hide (by rw [hV2, putV_length]; exact HLV.out)
            clear hV2 hD2 ho2 hz2
            go_wp2_with fail
            refine (dict_values _ HD2.out (by omega)).mono ?_
            rintro e w3 ⟨A3, n3, c3, ds3, rfl, hO3, hap3, hb3⟩
            have hn3 : n3 = n' := by rw [hO3.hn, svL_len _ _ HLV2.out, HN.out]
            subst hn3
            have HO3 := hide hO3
            have hbw3 := below_step hb3 hb2
            have HI3 : Hid (ValI w L p gl n3 cl Av cv ds w3) := hide ⟨V2, es2, HD2.out.below hb3, HV2.out⟩
            clear hO3
            go_wp2_with fail
            go_loopw [11] (fun j wr => ∃ i, i ≤ n3 ∧ j = .int .i64 (i : Nat) ∧ Below w3.heap.size w3 wr) (fun j _ => n3 - (intOf j).toNat)
            case atStart => exact ⟨0, by omega, rfl, Below.refl _ _⟩
            case round =>
              obtain ⟨i, hi, rfl, hbx⟩ := hrel
              by_cases hil : i < n3
              · obtain ⟨E, hE⟩ : ∃ E, L[i]? = some E := ⟨L[i]'(by rw [← HN.out]; exact hil), List.getElem?_eq_getElem _⟩
                obtain ⟨v, hv⟩ : ∃ v, V2[i]? = some v := ⟨V2[i]'(by rw [HLV2.out, ← HN.out]; exact hil), List.getElem?_eq_getElem _⟩
                have hcz := HV2.out i E v hE hv
                obtain ⟨d5, hd5, hOd5, _⟩ := (HO3.out.below hbx).elem (svL_at hE hv)
                obtain ⟨g5, hA5, z5, hc5⟩ := (HO3.out.below hbx).cells svF_len (svL_at hE hv) hd5 (by omega)
                have c52 : wr.cell? ⟨g5, i * 3 + 2, none⟩ = some (.slice d5.1 v.length d5.2) := hc5 2 _ rfl
                obtain ⟨b9, off9, Aj9, cj9, hAA, ⟨e0, e1, e2, e3, e4, e5, e6, e7, e8, e9, e10⟩, _, _⟩ := HL.out.two (below_step hbx hbw3) hE
                subst hA5 hAA
                have zl := lt_of_cell e0
                simp only [] at zl
                obtain ⟨i1, i2, i3⟩ := idx_at hil
                have hvf : v.length ≤ 35184372088832 := HD2.out.fv v (List.mem_of_getElem? hv)
                have HOd := hide hOd5
                have HCZ := hide hcz
                have HVF := hide hvf
                clear hE hv hd5 hOd5 hc5 hcz hvf
                go_wp2_with fail
                refine wp_region_held_drew (S := (fun w' => (∀ p : Addr, p.block < (wr).heap.size → w'.cell? p = (wr).cell? p) ∧ Below (wr).heap.size (wr) w')) (by kernel_rfl) ?hS1 (fun hHeld => ?rest1)
                case hS1 => ((try dsimp only); (((try go_split_ands); refine sn_of ?_; repeat' (first | with_reducible assumption | with_reducible exact Below.refl _ _ | with_reducible apply below_alloc | with_reducible apply below_drew1 | with_reducible apply below_drewN | (with_reducible apply below_step; with_reducible assumption) | (with_reducible apply below_sg2; (first | exact Nat.le_refl _ | (simp; done) | omega))))))
                case' rest1 => skip
                refine wpAnyH_take (i := 0) (oi := _) (v := ?v2) rfl (by kernel_rfl) (by kernel_rfl) (by kernel_rfl) (fun _ _ _ h => h) (Or.inl ⟨by rfl, ?hy2⟩) (by assumption) ?rest2
                case hy2 => ((intro w hSw; (try dsimp only at hSw); go_simp) <;> with_reducible rfl)
                case' rest2 => try simp only [List.getElem_toArray, List.getElem_cons_zero, List.getElem_cons_succ, Act.put, List.setIfInBounds_toArray, List.set_cons_zero, List.set_cons_succ]
                refine wpAnyH_take (i := 1) (oi := _) (v := ?v3) rfl (by kernel_rfl) (by kernel_rfl) (by kernel_rfl) (fun _ _ _ h => h) (Or.inl ⟨by rfl, ?hy3⟩) (by assumption) ?rest3
                case hy3 => ((intro w hSw; (try dsimp only at hSw); go_simp) <;> with_reducible rfl)
                case' rest3 => try simp only [List.getElem_toArray, List.getElem_cons_zero, List.getElem_cons_succ, Act.put, List.setIfInBounds_toArray, List.set_cons_zero, List.set_cons_succ]
                refine wpAnyH_take (i := 2) (oi := _) (v := ?v4) rfl (by kernel_rfl) (by kernel_rfl) (by kernel_rfl) (fun _ _ _ h => h) (Or.inl ⟨by rfl, ?hy4⟩) (by assumption) ?rest4
                case hy4 => ((intro w hSw; (try dsimp only at hSw); go_simp) <;> with_reducible rfl)
                case' rest4 => try simp only [List.getElem_toArray, List.getElem_cons_zero, List.getElem_cons_succ, Act.put, List.setIfInBounds_toArray, List.set_cons_zero, List.set_cons_succ]
                refine wpAnyH_take (i := 3) (oi := _) (v := ?v5) rfl (by kernel_rfl) (by kernel_rfl) (by kernel_rfl) (fun _ _ _ h => h) (Or.inl ⟨by rfl, ?hy5⟩) (by assumption) ?rest5
                case hy5 => ((intro w hSw; (try dsimp only at hSw); go_simp) <;> with_reducible rfl)
                case' rest5 => try simp only [List.getElem_toArray, List.getElem_cons_zero, List.getElem_cons_succ, Act.put, List.setIfInBounds_toArray, List.set_cons_zero, List.set_cons_succ]
                refine wpAnyH_take (i := 4) (oi := _) (v := ?v6) rfl (by kernel_rfl) (by kernel_rfl) (by kernel_rfl) (fun _ _ _ h => h) (Or.inl ⟨by rfl, ?hy6⟩) (by assumption) ?rest6
                case hy6 => ((intro w hSw; (try dsimp only at hSw); go_simp) <;> with_reducible rfl)
                case' rest6 => try simp only [List.getElem_toArray, List.getElem_cons_zero, List.getElem_cons_succ, Act.put, List.setIfInBounds_toArray, List.set_cons_zero, List.set_cons_succ]
                refine wpAnyH_take (i := 5) (oi := _) (v := ?v7) rfl (by kernel_rfl) (by kernel_rfl) (by kernel_rfl) (fun _ _ _ h => h) (Or.inl ⟨by rfl, ?hy7⟩) (by assumption) ?rest7
                case hy7 => ((intro w hSw; (try dsimp only at hSw); go_simp) <;> with_reducible rfl)
                case' rest7 => try simp only [List.getElem_toArray, List.getElem_cons_zero, List.getElem_cons_succ, Act.put, List.setIfInBounds_toArray, List.set_cons_zero, List.set_cons_succ]
                refine wpAnyH_take (i := 6) (oi := _) (v := ?v8) rfl (by kernel_rfl) (by kernel_rfl) (by kernel_rfl) (fun _ _ _ h => h) (Or.inl ⟨by rfl, ?hy8⟩) (by assumption) ?rest8
                case hy8 => ((intro w hSw; (try dsimp only at hSw); go_simp) <;> with_reducible rfl)
                case' rest8 => try simp only [List.getElem_toArray, List.getElem_cons_zero, List.getElem_cons_succ, Act.put, List.setIfInBounds_toArray, List.set_cons_zero, List.set_cons_succ]
                refine wpAnyH_take (i := 7) (oi := _) (v := ?v9) rfl (by kernel_rfl) (by kernel_rfl) (by kernel_rfl) (fun _ _ _ h => h) (Or.inl ⟨by rfl, ?hy9⟩) (by assumption) ?rest9
                case hy9 => ((intro w hSw; (try dsimp only at hSw); go_simp) <;> with_reducible rfl)
                case' rest9 => try simp only [List.getElem_toArray, List.getElem_cons_zero, List.getElem_cons_succ, Act.put, List.setIfInBounds_toArray, List.set_cons_zero, List.set_cons_succ]
                refine wpAnyH_take (i := 8) (oi := _) (v := ?v10) rfl (by kernel_rfl) (by kernel_rfl) (by kernel_rfl) (fun _ _ _ h => h) (Or.inl ⟨by rfl, ?hy10⟩) (by assumption) ?rest10
                case hy10 => ((intro w hSw; (try dsimp only at hSw); go_simp) <;> with_reducible rfl)
                case' rest10 => try simp only [List.getElem_toArray, List.getElem_cons_zero, List.getElem_cons_succ, Act.put, List.setIfInBounds_toArray, List.set_cons_zero, List.set_cons_succ]
                refine wpAnyH_ready (rs := [9]) (by kernel_rfl) (by simp) ?_
                refine AllReadyH.cons (o := _) rfl (fun K hK => ?_) AllReadyH.nil
                go_simp
                refine (ent_value E Aj9 E.df.length cj9 d5.1 v.length d5.2 v _ rfl HOd.out.own.le HVF.out HOd.out.sl.drew).mono ?_
                rintro e w4 ⟨rfl, hb4⟩
                have hcz' : valueE E.ty E.mx E.lo E.hi v = 0 := HCZ.out
                rw [hcz']
                clear hcz'
                dsimp only
                refine hK.out _ _ ?hS13 (fun hHeld => ?rest13)
                case hS13 => ((try dsimp only); (((try go_split_ands); refine sn_of ?_; repeat' (first | with_reducible assumption | with_reducible exact Below.refl _ _ | with_reducible apply below_alloc | with_reducible apply below_drew1 | with_reducible apply below_drewN | (with_reducible apply below_step; with_reducible assumption) | (with_reducible apply below_sg2; (first | exact Nat.le_refl _ | (simp; done) | omega))))))
                case' rest13 => (clear hK K; try simp only [List.getElem_toArray, List.getElem_cons_zero, List.getElem_cons_succ, Act.put, List.setIfInBounds_toArray, List.set_cons_zero, List.set_cons_succ])
                refine wpAnyH_take (i := 10) (oi := _) (v := ?v14) rfl (by kernel_rfl) (by kernel_rfl) (by kernel_rfl) (fun _ _ _ h => h) (Or.inl ⟨by rfl, ?hy14⟩) (by assumption) ?rest14
                case hy14 => ((intro w hSw; (try dsimp only at hSw); go_simp) <;> with_reducible rfl)
                case' rest14 => try simp only [List.getElem_toArray, List.getElem_cons_zero, List.getElem_cons_succ, Act.put, List.setIfInBounds_toArray, List.set_cons_zero, List.set_cons_succ]
                refine wpAnyH_done (by kernel_rfl) ?_ _
                have hEnd := hHeld.2
                repeat (clear hHeld)
                go_wp2_with fail
                go_roundw
                case rel => exact ⟨i + 1, by omega, by go_num, below_step hEnd hbx⟩
                case measure => simp [intOf]; omega
              · go_wp2_with fail
                go_roundw
                case rel => exact ⟨k + 1, by omega, by go_num, hide (by obtain ⟨V9, es9, h9, h10⟩ := HI3.out; exact ⟨V9, es9, h9.below hbx, h10⟩), below_step hbx hbw3⟩
                case measure => simp [intOf]; omega
          by_cases hkd2 : kind = 2
          · subst hkd2
            go_wp2_with fail
            refine (dict_poke ix sub Aj lb cj b _ HD.out HS.out (by omega) HLB.out hcj hlb1 HSJ.out).mono ?_
            rintro e w2 ⟨V2, es2, rfl, hV2, hD2, ho2⟩
            have hb2 := below_only ho2 hbr0 (fun i h => h)
            have hz2 := hbr0.size
            have HD2 := hide (hD2.mono (G := fun g => w.heap.size ≤ g) (fun g _ h => h.elim id (fun h => Nat.le_trans hz2 h)))
            have HV2 : Hid (ValsP L V2) := hide (by rw [hV2]; exact vals_put HS.out HLV.out HV.out ix sub b true)
            have HLV2 : Hid (V2.length = L.length) := hide (by rw [hV2, putV_length]; exact HLV.out)
            clear hV2 hD2 ho2 hz2
            go_wp2_with fail
            refine (dict_values _ HD2.out (by omega)).mono ?_
            rintro e w3 ⟨A3, n3, c3, ds3, rfl, hO3, hap3, hb3⟩
            have hn3 : n3 = n' := by rw [hO3.hn, svL_len _ _ HLV2.out, HN.out]
            subst hn3
            have HO3 := hide hO3
            have hbw3 := below_step hb3 hb2
            have HI3 : Hid (ValI w L p gl n3 cl Av cv ds w3) := hide ⟨V2, es2, HD2.out.below hb3, HV2.out⟩
            clear hO3
            go_wp2_with fail
            go_loopw [11] (fun j wr => ∃ i, i ≤ n3 ∧ j = .int .i64 (i : Nat) ∧ Below w3.heap.size w3 wr) (fun j _ => n3 - (intOf j).toNat)
            case atStart => exact ⟨0, by omega, rfl, Below.refl _ _⟩
            case round =>
              obtain ⟨i, hi, rfl, hbx⟩ := hrel
              by_cases hil : i < n3
              · obtain ⟨E, hE⟩ : ∃ E, L[i]? = some E := ⟨L[i]'(by rw [← HN.out]; exact hil), List.getElem?_eq_getElem _⟩
                obtain ⟨v, hv⟩ : ∃ v, V2[i]? = some v := ⟨V2[i]'(by rw [HLV2.out, ← HN.out]; exact hil), List.getElem?_eq_getElem _⟩
                have hcz := HV2.out i E v hE hv
                obtain ⟨d5, hd5, hOd5, _⟩ := (HO3.out.below hbx).elem (svL_at hE hv)
                obtain ⟨g5, hA5, z5, hc5⟩ := (HO3.out.below hbx).cells svF_len (svL_at hE hv) hd5 (by omega)
                have c52 : wr.cell? ⟨g5, i * 3 + 2, none⟩ = some (.slice d5.1 v.length d5.2) := hc5 2 _ rfl
                obtain ⟨b9, off9, Aj9, cj9, hAA, ⟨e0, e1, e2, e3, e4, e5, e6, e7, e8, e9, e10⟩, _, _⟩ := HL.out.two (below_step hbx hbw3) hE
                subst hA5 hAA
                have zl := lt_of_cell e0
                simp only [] at zl
                obtain ⟨i1, i2, i3⟩ := idx_at hil
                have hvf : v.length ≤ 35184372088832 := HD2.out.fv v (List.mem_of_getElem? hv)
                have HOd := hide hOd5
                have HCZ := hide hcz
                have HVF := hide hvf
                clear hE hv hd5 hOd5 hc5 hcz hvf
                go_wp2_with fail
                refine wp_region_held_drew (S := (fun w' => (∀ p : Addr, p.block < (wr).heap.size → w'.cell? p = (wr).cell? p) ∧ Below (wr).heap.size (wr) w')) (by kernel_rfl) ?hS16 (fun hHeld => ?rest16)
                case hS16 => ((try dsimp only); (((try go_split_ands); refine sn_of ?_; repeat' (first | with_reducible assumption | with_reducible exact Below.refl _ _ | with_reducible apply below_alloc | with_reducible apply below_drew1 | with_reducible apply below_drewN | (with_reducible apply below_step; with_reducible assumption) | (with_reducible apply below_sg2; (first | exact Nat.le_refl _ | (simp; done) | omega))))))
                case' rest16 => skip
                refine wpAnyH_take (i := 0) (oi := _) (v := ?v17) rfl (by kernel_rfl) (by kernel_rfl) (by kernel_rfl) (fun _ _ _ h => h) (Or.inl ⟨by rfl, ?hy17⟩) (by assumption) ?rest17
                case hy17 => ((intro w hSw; (try dsimp only at hSw); go_simp) <;> with_reducible rfl)
                case' rest17 => try simp only [List.getElem_toArray, List.getElem_cons_zero, List.getElem_cons_succ, Act.put, List.setIfInBounds_toArray, List.set_cons_zero, List.set_cons_succ]
                refine wpAnyH_take (i := 1) (oi := _) (v := ?v18) rfl (by kernel_rfl) (by kernel_rfl) (by kernel_rfl) (fun _ _ _ h => h) (Or.inl ⟨by rfl, ?hy18⟩) (by assumption) ?rest18
                case hy18 => ((intro w hSw; (try dsimp only at hSw); go_simp) <;> with_reducible rfl)
                case' rest18 => try simp only [List.getElem_toArray, List.getElem_cons_zero, List.getElem_cons_succ, Act.put, List.setIfInBounds_toArray, List.set_cons_zero, List.set_cons_succ]
                refine wpAnyH_take (i := 2) (oi := _) (v := ?v19) rfl (by kernel_rfl) (by kernel_rfl) (by kernel_rfl) (fun _ _ _ h => h) (Or.inl ⟨by rfl, ?hy19⟩) (by assumption) ?rest19
                case hy19 => ((intro w hSw; (try dsimp only at hSw); go_simp) <;> with_reducible rfl)
                case' rest19 => try simp only [List.getElem_toArray, List.getElem_cons_zero, List.getElem_cons_succ, Act.put, List.setIfInBounds_toArray, List.set_cons_zero, List.set_cons_succ]
                refine wpAnyH_take (i := 3) (oi := _) (v := ?v20) rfl (by kernel_rfl) (by kernel_rfl) (by kernel_rfl) (fun _ _ _ h => h) (Or.inl ⟨by rfl, ?hy20⟩) (by assumption) ?rest20
                case hy20 => ((intro w hSw; (try dsimp only at hSw); go_simp) <;> with_reducible rfl)
                case' rest20 => try simp only [List.getElem_toArray, List.getElem_cons_zero, List.getElem_cons_succ, Act.put, List.setIfInBounds_toArray, List.set_cons_zero, List.set_cons_succ]
                refine wpAnyH_take (i := 4) (oi := _) (v := ?v21) rfl (by kernel_rfl) (by kernel_rfl) (by kernel_rfl) (fun _ _ _ h => h) (Or.inl ⟨by rfl, ?hy21⟩) (by assumption) ?rest21
                case hy21 => ((intro w hSw; (try dsimp only at hSw); go_simp) <;> with_reducible rfl)
                case' rest21 => try simp only [List.getElem_toArray, List.getElem_cons_zero, List.getElem_cons_succ, Act.put, List.setIfInBounds_toArray, List.set_cons_zero, List.set_cons_succ]
                refine wpAnyH_take (i := 5) (oi := _) (v := ?v22) rfl (by kernel_rfl) (by kernel_rfl) (by kernel_rfl) (fun _ _ _ h => h) (Or.inl ⟨by rfl, ?hy22⟩) (by assumption) ?rest22
                case hy22 => ((intro w hSw; (try dsimp only at hSw); go_simp) <;> with_reducible rfl)
                case' rest22 => try simp only [List.getElem_toArray, List.getElem_cons_zero, List.getElem_cons_succ, Act.put, List.setIfInBounds_toArray, List.set_cons_zero, List.set_cons_succ]
                refine wpAnyH_take (i := 6) (oi := _) (v := ?v23) rfl (by kernel_rfl) (by kernel_rfl) (by kernel_rfl) (fun _ _ _ h => h) (Or.inl ⟨by rfl, ?hy23⟩) (by assumption) ?rest23
                case hy23 => ((intro w hSw; (try dsimp only at hSw); go_simp) <;> with_reducible rfl)
                case' rest23 => try simp only [List.getElem_toArray, List.getElem_cons_zero, List.getElem_cons_succ, Act.put, List.setIfInBounds_toArray, List.set_cons_zero, List.set_cons_succ]
                refine wpAnyH_take (i := 7) (oi := _) (v := ?v24) rfl (by kernel_rfl) (by kernel_rfl) (by kernel_rfl) (fun _ _ _ h => h) (Or.inl ⟨by rfl, ?hy24⟩) (by assumption) ?rest24
                case hy24 => ((intro w hSw; (try dsimp only at hSw); go_simp) <;> with_reducible rfl)
                case' rest24 => try simp only [List.getElem_toArray, List.getElem_cons_zero, List.getElem_cons_succ, Act.put, List.setIfInBounds_toArray, List.set_cons_zero, List.set_cons_succ]
                refine wpAnyH_take (i := 8) (oi := _) (v := ?v25) rfl (by kernel_rfl) (by kernel_rfl) (by kernel_rfl) (fun _ _ _ h => h) (Or.inl ⟨by rfl, ?hy25⟩) (by assumption) ?rest25
                case hy25 => ((intro w hSw; (try dsimp only at hSw); go_simp) <;> with_reducible rfl)
                case' rest25 => try simp only [List.getElem_toArray, List.getElem_cons_zero, List.getElem_cons_succ, Act.put, List.setIfInBounds_toArray, List.set_cons_zero, List.set_cons_succ]
                refine wpAnyH_ready (rs := [9]) (by kernel_rfl) (by simp) ?_
                refine AllReadyH.cons (o := _) rfl (fun K hK => ?_) AllReadyH.nil
                go_simp
                refine (ent_value E Aj9 E.df.length cj9 d5.1 v.length d5.2 v _ rfl HOd.out.own.le HVF.out HOd.out.sl.drew).mono ?_
                rintro e w4 ⟨rfl, hb4⟩
                have hcz' : valueE E.ty E.mx E.lo E.hi v = 0 := HCZ.out
                rw [hcz']
                clear hcz'
                dsimp only
                refine hK.out _ _ ?hS28 (fun hHeld => ?rest28)
                case hS28 => ((try dsimp only); (((try go_split_ands); refine sn_of ?_; repeat' (first | with_reducible assumption | with_reducible exact Below.refl _ _ | with_reducible apply below_alloc | with_reducible apply below_drew1 | with_reducible apply below_drewN | (with_reducible apply below_step; with_reducible assumption) | (with_reducible apply below_sg2; (first | exact Nat.le_refl _ | (simp; done) | omega))))))
                case' rest28 => (clear hK K; try simp only [List.getElem_toArray, List.getElem_cons_zero, List.getElem_cons_succ, Act.put, List.setIfInBounds_toArray, List.set_cons_zero, List.set_cons_succ])
                refine wpAnyH_take (i := 10) (oi := _) (v := ?v29) rfl (by kernel_rfl) (by kernel_rfl) (by kernel_rfl) (fun _ _ _ h => h) (Or.inl ⟨by rfl, ?hy29⟩) (by assumption) ?rest29
                case hy29 => ((intro w hSw; (try dsimp only at hSw); go_simp) <;> with_reducible rfl)
                case' rest29 => try simp only [List.getElem_toArray, List.getElem_cons_zero, List.getElem_cons_succ, Act.put, List.setIfInBounds_toArray, List.set_cons_zero, List.set_cons_succ]
                refine wpAnyH_done (by kernel_rfl) ?_ _
                have hEnd := hHeld.2
                repeat (clear hHeld)
                go_wp2_with fail
                go_roundw
                case rel => exact ⟨i + 1, by omega, by go_num, below_step hEnd hbx⟩
                case measure => simp [intOf]; omega
              · go_wp2_with fail
                go_roundw
                case rel => exact ⟨k + 1, by omega, by go_num, hide (by obtain ⟨V9, es9, h9, h10⟩ := HI3.out; exact ⟨V9, es9, h9.below hbx, h10⟩), below_step hbx hbw3⟩
                case measure => simp [intOf]; omega
          by_cases hkd3 : kind = 5
          · subst hkd3
            go_wp2_with fail
            refine (dict_reset _ HD.out (by omega)).mono ?_
            rintro e w2 ⟨es2, rfl, hD2, ho2⟩
            obtain ⟨V2, hV2⟩ : ∃ V2, V2 = L.map Ent.df := ⟨_, rfl⟩
            rw [← hV2] at hD2
            have hb2 := below_only ho2 hbr0 (fun i h => h)
            have hz2 := hbr0.size
            have HD2 := hide (hD2.mono (G := fun g => w.heap.size ≤ g) (fun g _ h => h.elim id (fun h => Nat.le_trans hz2 h)))
            have HV2 : Hid (ValsP L V2) := hide (by rw [hV2]; exact vals_df HR.out)
            have HLV2 : Hid (V2.length = L.length) := hide (by rw [hV2]; simp)
            clear hV2 hD2 ho2 hz2
            go_wp2_with fail
            refine (dict_values _ HD2.out (by omega)).mono ?_
            rintro e w3 ⟨A3, n3, c3, ds3, rfl, hO3, hap3, hb3⟩
            have hn3 : n3 = n' := by rw [hO3.hn, svL_len _ _ HLV2.out, HN.out]
            subst hn3
            have HO3 := hide hO3
            have hbw3 := below_step hb3 hb2
            have HI3 : Hid (ValI w L p gl n3 cl Av cv ds w3) := hide ⟨V2, es2, HD2.out.below hb3, HV2.out⟩
            clear hO3
            go_wp2_with fail
            go_loopw [11] (fun j wr => ∃ i, i ≤ n3 ∧ j = .int .i64 (i : Nat) ∧ Below w3.heap.size w3 wr) (fun j _ => n3 - (intOf j).toNat)
            case atStart => exact ⟨0, by omega, rfl, Below.refl _ _⟩
            case round =>
              obtain ⟨i, hi, rfl, hbx⟩ := hrel
              by_cases hil : i < n3
              · obtain ⟨E, hE⟩ : ∃ E, L[i]? = some E := ⟨L[i]'(by rw [← HN.out]; exact hil), List.getElem?_eq_getElem _⟩
                obtain ⟨v, hv⟩ : ∃ v, V2[i]? = some v := ⟨V2[i]'(by rw [HLV2.out, ← HN.out]; exact hil), List.getElem?_eq_getElem _⟩
                have hcz := HV2.out i E v hE hv
                obtain ⟨d5, hd5, hOd5, _⟩ := (HO3.out.below hbx).elem (svL_at hE hv)
                obtain ⟨g5, hA5, z5, hc5⟩ := (HO3.out.below hbx).cells svF_len (svL_at hE hv) hd5 (by omega)
                have c52 : wr.cell? ⟨g5, i * 3 + 2, none⟩ = some (.slice d5.1 v.length d5.2) := hc5 2 _ rfl
                obtain ⟨b9, off9, Aj9, cj9, hAA, ⟨e0, e1, e2, e3, e4, e5, e6, e7, e8, e9, e10⟩, _, _⟩ := HL.out.two (below_step hbx hbw3) hE
                subst hA5 hAA
                have zl := lt_of_cell e0
                simp only [] at zl
                obtain ⟨i1, i2, i3⟩ := idx_at hil
                have hvf : v.length ≤ 35184372088832 := HD2.out.fv v (List.mem_of_getElem? hv)
                have HOd := hide hOd5
                have HCZ := hide hcz
                have HVF := hide hvf
                clear hE hv hd5 hOd5 hc5 hcz hvf
                go_wp2_with fail
                refine wp_region_held_drew (S := (fun w' => (∀ p : Addr, p.block < (wr).heap.size → w'.cell? p = (wr).cell? p) ∧ Below (wr).heap.size (wr) w')) (by kernel_rfl) ?hS31 (fun hHeld => ?rest31)
                case hS31 => ((try dsimp only); (((try go_split_ands); refine sn_of ?_; repeat' (first | with_reducible assumption | with_reducible exact Below.refl _ _ | with_reducible apply below_alloc | with_reducible apply below_drew1 | with_reducible apply below_drewN | (with_reducible apply below_step; with_reducible assumption) | (with_reducible apply below_sg2; (first | exact Nat.le_refl _ | (simp; done) | omega))))))
                case' rest31 => skip
                refine wpAnyH_take (i := 0) (oi := _) (v := ?v32) rfl (by kernel_rfl) (by kernel_rfl) (by kernel_rfl) (fun _ _ _ h => h) (Or.inl ⟨by rfl, ?hy32⟩) (by assumption) ?rest32
                case hy32 => ((intro w hSw; (try dsimp only at hSw); go_simp) <;> with_reducible rfl)
                case' rest32 => try simp only [List.getElem_toArray, List.getElem_cons_zero, List.getElem_cons_succ, Act.put, List.setIfInBounds_toArray, List.set_cons_zero, List.set_cons_succ]
                refine wpAnyH_take (i := 1) (oi := _) (v := ?v33) rfl (by kernel_rfl) (by kernel_rfl) (by kernel_rfl) (fun _ _ _ h => h) (Or.inl ⟨by rfl, ?hy33⟩) (by assumption) ?rest33
                case hy33 => ((intro w hSw; (try dsimp only at hSw); go_simp) <;> with_reducible rfl)
                case' rest33 => try simp only [List.getElem_toArray, List.getElem_cons_zero, List.getElem_cons_succ, Act.put, List.setIfInBounds_toArray, List.set_cons_zero, List.set_cons_succ]
                refine wpAnyH_take (i := 2) (oi := _) (v := ?v34) rfl (by kernel_rfl) (by kernel_rfl) (by kernel_rfl) (fun _ _ _ h => h) (Or.inl ⟨by rfl, ?hy34⟩) (by assumption) ?rest34
                case hy34 => ((intro w hSw; (try dsimp only at hSw); go_simp) <;> with_reducible rfl)
                case' rest34 => try simp only [List.getElem_toArray, List.getElem_cons_zero, List.getElem_cons_succ, Act.put, List.setIfInBounds_toArray, List.set_cons_zero, List.set_cons_succ]
                refine wpAnyH_take (i := 3) (oi := _) (v := ?v35) rfl (by kernel_rfl) (by kernel_rfl) (by kernel_rfl) (fun _ _ _ h => h) (Or.inl ⟨by rfl, ?hy35⟩) (by assumption) ?rest35
                case hy35 => ((intro w hSw; (try dsimp only at hSw); go_simp) <;> with_reducible rfl)
                case' rest35 => try simp only [List.getElem_toArray, List.getElem_cons_zero, List.getElem_cons_succ, Act.put, List.setIfInBounds_toArray, List.set_cons_zero, List.set_cons_succ]
                refine wpAnyH_take (i := 4) (oi := _) (v := ?v36) rfl (by kernel_rfl) (by kernel_rfl) (by kernel_rfl) (fun _ _ _ h => h) (Or.inl ⟨by rfl, ?hy36⟩) (by assumption) ?rest36
                case hy36 => ((intro w hSw; (try dsimp only at hSw); go_simp) <;> with_reducible rfl)
                case' rest36 => try simp only [List.getElem_toArray, List.getElem_cons_zero, List.getElem_cons_succ, Act.put, List.setIfInBounds_toArray, List.set_cons_zero, List.set_cons_succ]
                refine wpAnyH_take (i := 5) (oi := _) (v := ?v37) rfl (by kernel_rfl) (by kernel_rfl) (by kernel_rfl) (fun _ _ _ h => h) (Or.inl ⟨by rfl, ?hy37⟩) (by assumption) ?rest37
                case hy37 => ((intro w hSw; (try dsimp only at hSw); go_simp) <;> with_reducible rfl)
                case' rest37 => try simp only [List.getElem_toArray, List.getElem_cons_zero, List.getElem_cons_succ, Act.put, List.setIfInBounds_toArray, List.set_cons_zero, List.set_cons_succ]
                refine wpAnyH_take (i := 6) (oi := _) (v := ?v38) rfl (by kernel_rfl) (by kernel_rfl) (by kernel_rfl) (fun _ _ _ h => h) (Or.inl ⟨by rfl, ?hy38⟩) (by assumption) ?rest38
                case hy38 => ((intro w hSw; (try dsimp only at hSw); go_simp) <;> with_reducible rfl)
                case' rest38 => try simp only [List.getElem_toArray, List.getElem_cons_zero, List.getElem_cons_succ, Act.put, List.setIfInBounds_toArray, List.set_cons_zero, List.set_cons_succ]
                refine wpAnyH_take (i := 7) (oi := _) (v := ?v39) rfl (by kernel_rfl) (by kernel_rfl) (by kernel_rfl) (fun _ _ _ h => h) (Or.inl ⟨by rfl, ?hy39⟩) (by assumption) ?rest39
                case hy39 => ((intro w hSw; (try dsimp only at hSw); go_simp) <;> with_reducible rfl)
                case' rest39 => try simp only [List.getElem_toArray, List.getElem_cons_zero, List.getElem_cons_succ, Act.put, List.setIfInBounds_toArray, List.set_cons_zero, List.set_cons_succ]
                refine wpAnyH_take (i := 8) (oi := _) (v := ?v40) rfl (by kernel_rfl) (by kernel_rfl) (by kernel_rfl) (fun _ _ _ h => h) (Or.inl ⟨by rfl, ?hy40⟩) (by assumption) ?rest40
                case hy40 => ((intro w hSw; (try dsimp only at hSw); go_simp) <;> with_reducible rfl)
                case' rest40 => try simp only [List.getElem_toArray, List.getElem_cons_zero, List.getElem_cons_succ, Act.put, List.setIfInBounds_toArray, List.set_cons_zero, List.set_cons_succ]
                refine wpAnyH_ready (rs := [9]) (by kernel_rfl) (by simp) ?_
                refine AllReadyH.cons (o := _) rfl (fun K hK => ?_) AllReadyH.nil
                go_simp
                refine (ent_value E Aj9 E.df.length cj9 d5.1 v.length d5.2 v _ rfl HOd.out.own.le HVF.out HOd.out.sl.drew).mono ?_
                rintro e w4 ⟨rfl, hb4⟩
                have hcz' : valueE E.ty E.mx E.lo E.hi v = 0 := HCZ.out
                rw [hcz']
                clear hcz'
                dsimp only
                refine hK.out _ _ ?hS43 (fun hHeld => ?rest43)
                case hS43 => ((try dsimp only); (((try go_split_ands); refine sn_of ?_; repeat' (first | with_reducible assumption | with_reducible exact Below.refl _ _ | with_reducible apply below_alloc | with_reducible apply below_drew1 | with_reducible apply below_drewN | (with_reducible apply below_step; with_reducible assumption) | (with_reducible apply below_sg2; (first | exact Nat.le_refl _ | (simp; done) | omega))))))
                case' rest43 => (clear hK K; try simp only [List.getElem_toArray, List.getElem_cons_zero, List.getElem_cons_succ, Act.put, List.setIfInBounds_toArray, List.set_cons_zero, List.set_cons_succ])
                refine wpAnyH_take (i := 10) (oi := _) (v := ?v44) rfl (by kernel_rfl) (by kernel_rfl) (by kernel_rfl) (fun _ _ _ h => h) (Or.inl ⟨by rfl, ?hy44⟩) (by assumption) ?rest44
                case hy44 => ((intro w hSw; (try dsimp only at hSw); go_simp) <;> with_reducible rfl)
                case' rest44 => try simp only [List.getElem_toArray, List.getElem_cons_zero, List.getElem_cons_succ, Act.put, List.setIfInBounds_toArray, List.set_cons_zero, List.set_cons_succ]
                refine wpAnyH_done (by kernel_rfl) ?_ _
                have hEnd := hHeld.2
                repeat (clear hHeld)
                go_wp2_with fail
                go_roundw
                case rel => exact ⟨i + 1, by omega, by go_num, below_step hEnd hbx⟩
                case measure => simp [intOf]; omega
              · go_wp2_with fail
                go_roundw
                case rel => exact ⟨k + 1, by omega, by go_num, hide (by obtain ⟨V9, es9, h9, h10⟩ := HI3.out; exact ⟨V9, es9, h9.below hbx, h10⟩), below_step hbx hbw3⟩
                case measure => simp [intOf]; omega
          · obtain ⟨w2, hw2⟩ : ∃ w2, w2 = wr.alloc (.cells #[.int .i64 kind, .int .i64 ix, .int .i64 sub, .slice Aj lb cj] 25) := ⟨_, rfl⟩
            rw [← hw2] at HD hbr0
            obtain ⟨V2, hV2⟩ : ∃ V2, V2 = V := ⟨_, rfl⟩
            obtain ⟨es2, hes2⟩ : ∃ es2, es2 = es := ⟨_, rfl⟩
            have hb2 := hbr0
            have HD2 := HD
            rw [← hV2, ← hes2] at HD2
            have HV2 : Hid (ValsP L V2) := hide (by rw [hV2]; exact HV.out)
            have HLV2 : Hid (V2.length = L.length) := hide (by rw [hV2]; exact HLV.out)
            clear hV2 hes2
            subst hw2
            go_wp2_with fail
            refine (dict_values _ HD2.out (by omega)).mono ?_
            rintro e w3 ⟨A3, n3, c3, ds3, rfl, hO3, hap3, hb3⟩
            have hn3 : n3 = n' := by rw [hO3.hn, svL_len _ _ HLV2.out, HN.out]
            subst hn3
            have HO3 := hide hO3
            have hbw3 := below_step hb3 hb2
            have HI3 : Hid (ValI w L p gl n3 cl Av cv ds w3) := hide ⟨V2, es2, HD2.out.below hb3, HV2.out⟩
            clear hO3
            go_wp2_with fail
            go_loopw [11] (fun j wr => ∃ i, i ≤ n3 ∧ j = .int .i64 (i : Nat) ∧ Below w3.heap.size w3 wr) (fun j _ => n3 - (intOf j).toNat)
            case atStart => exact ⟨0, by omega, rfl, Below.refl _ _⟩
            case round =>
              obtain ⟨i, hi, rfl, hbx⟩ := hrel
              by_cases hil : i < n3
              · obtain ⟨E, hE⟩ : ∃ E, L[i]? = some E := ⟨L[i]'(by rw [← HN.out]; exact hil), List.getElem?_eq_getElem _⟩
                obtain ⟨v, hv⟩ : ∃ v, V2[i]? = some v := ⟨V2[i]'(by rw [HLV2.out, ← HN.out]; exact hil), List.getElem?_eq_getElem _⟩
                have hcz := HV2.out i E v hE hv
                obtain ⟨d5, hd5, hOd5, _⟩ := (HO3.out.below hbx).elem (svL_at hE hv)
                obtain ⟨g5, hA5, z5, hc5⟩ := (HO3.out.below hbx).cells svF_len (svL_at hE hv) hd5 (by omega)
                have c52 : wr.cell? ⟨g5, i * 3 + 2, none⟩ = some (.slice d5.1 v.length d5.2) := hc5 2 _ rfl
                obtain ⟨b9, off9, Aj9, cj9, hAA, ⟨e0, e1, e2, e3, e4, e5, e6, e7, e8, e9, e10⟩, _, _⟩ := HL.out.two (below_step hbx hbw3) hE
                subst hA5 hAA
                have zl := lt_of_cell e0
                simp only [] at zl
                obtain ⟨i1, i2, i3⟩ := idx_at hil
                have hvf : v.length ≤ 35184372088832 := HD2.out.fv v (List.mem_of_getElem? hv)
                have HOd := hide hOd5
                have HCZ := hide hcz
                have HVF := hide hvf
                clear hE hv hd5 hOd5 hc5 hcz hvf
                go_wp2_with fail
                refine wp_region_held_drew (S := (fun w' => (∀ p : Addr, p.block < (wr).heap.size → w'.cell? p = (wr).cell? p) ∧ Below (wr).heap.size (wr) w')) (by kernel_rfl) ?hS46 (fun hHeld => ?rest46)
                case hS46 => ((try dsimp only); (((try go_split_ands); refine sn_of ?_; repeat' (first | with_reducible assumption | with_reducible exact Below.refl _ _ | with_reducible apply below_alloc | with_reducible apply below_drew1 | with_reducible apply below_drewN | (with_reducible apply below_step; with_reducible assumption) | (with_reducible apply below_sg2; (first | exact Nat.le_refl _ | (simp; done) | omega))))))
                case' rest46 => skip
                refine wpAnyH_take (i := 0) (oi := _) (v := ?v47) rfl (by kernel_rfl) (by kernel_rfl) (by kernel_rfl) (fun _ _ _ h => h) (Or.inl ⟨by rfl, ?hy47⟩) (by assumption) ?rest47
                case hy47 => ((intro w hSw; (try dsimp only at hSw); go_simp) <;> with_reducible rfl)
                case' rest47 => try simp only [List.getElem_toArray, List.getElem_cons_zero, List.getElem_cons_succ, Act.put, List.setIfInBounds_toArray, List.set_cons_zero, List.set_cons_succ]
                refine wpAnyH_take (i := 1) (oi := _) (v := ?v48) rfl (by kernel_rfl) (by kernel_rfl) (by kernel_rfl) (fun _ _ _ h => h) (Or.inl ⟨by rfl, ?hy48⟩) (by assumption) ?rest48
                case hy48 => ((intro w hSw; (try dsimp only at hSw); go_simp) <;> with_reducible rfl)
                case' rest48 => try simp only [List.getElem_toArray, List.getElem_cons_zero, List.getElem_cons_succ, Act.put, List.setIfInBounds_toArray, List.set_cons_zero, List.set_cons_succ]
                refine wpAnyH_take (i := 2) (oi := _) (v := ?v49) rfl (by kernel_rfl) (by kernel_rfl) (by kernel_rfl) (fun _ _ _ h => h) (Or.inl ⟨by rfl, ?hy49⟩) (by assumption) ?rest49
                case hy49 => ((intro w hSw; (try dsimp only at hSw); go_simp) <;> with_reducible rfl)
                case' rest49 => try simp only [List.getElem_toArray, List.getElem_cons_zero, List.getElem_cons_succ, Act.put, List.setIfInBounds_toArray, List.set_cons_zero, List.set_cons_succ]
                refine wpAnyH_take (i := 3) (oi := _) (v := ?v50) rfl (by kernel_rfl) (by kernel_rfl) (by kernel_rfl) (fun _ _ _ h => h) (Or.inl ⟨by rfl, ?hy50⟩) (by assumption) ?rest50
                case hy50 => ((intro w hSw; (try dsimp only at hSw); go_simp) <;> with_reducible rfl)
                case' rest50 => try simp only [List.getElem_toArray, List.getElem_cons_zero, List.getElem_cons_succ, Act.put, List.setIfInBounds_toArray, List.set_cons_zero, List.set_cons_succ]
                refine wpAnyH_take (i := 4) (oi := _) (v := ?v51) rfl (by kernel_rfl) (by kernel_rfl) (by kernel_rfl) (fun _ _ _ h => h) (Or.inl ⟨by rfl, ?hy51⟩) (by assumption) ?rest51
                case hy51 => ((intro w hSw; (try dsimp only at hSw); go_simp) <;> with_reducible rfl)
                case' rest51 => try simp only [List.getElem_toArray, List.getElem_cons_zero, List.getElem_cons_succ, Act.put, List.setIfInBounds_toArray, List.set_cons_zero, List.set_cons_succ]
                refine wpAnyH_take (i := 5) (oi := _) (v := ?v52) rfl (by kernel_rfl) (by kernel_rfl) (by kernel_rfl) (fun _ _ _ h => h) (Or.inl ⟨by rfl, ?hy52⟩) (by assumption) ?rest52
                case hy52 => ((intro w hSw; (try dsimp only at hSw); go_simp) <;> with_reducible rfl)
                case' rest52 => try simp only [List.getElem_toArray, List.getElem_cons_zero, List.getElem_cons_succ, Act.put, List.setIfInBounds_toArray, List.set_cons_zero, List.set_cons_succ]
                refine wpAnyH_take (i := 6) (oi := _) (v := ?v53) rfl (by kernel_rfl) (by kernel_rfl) (by kernel_rfl) (fun _ _ _ h => h) (Or.inl ⟨by rfl, ?hy53⟩) (by assumption) ?rest53
                case hy53 => ((intro w hSw; (try dsimp only at hSw); go_simp) <;> with_reducible rfl)
                case' rest53 => try simp only [List.getElem_toArray, List.getElem_cons_zero, List.getElem_cons_succ, Act.put, List.setIfInBounds_toArray, List.set_cons_zero, List.set_cons_succ]
                refine wpAnyH_take (i := 7) (oi := _) (v := ?v54) rfl (by kernel_rfl) (by kernel_rfl) (by kernel_rfl) (fun _ _ _ h => h) (Or.inl ⟨by rfl, ?hy54⟩) (by assumption) ?rest54
                case hy54 => ((intro w hSw; (try dsimp only at hSw); go_simp) <;> with_reducible rfl)
                case' rest54 => try simp only [List.getElem_toArray, List.getElem_cons_zero, List.getElem_cons_succ, Act.put, List.setIfInBounds_toArray, List.set_cons_zero, List.set_cons_succ]
                refine wpAnyH_take (i := 8) (oi := _) (v := ?v55) rfl (by kernel_rfl) (by kernel_rfl) (by kernel_rfl) (fun _ _ _ h => h) (Or.inl ⟨by rfl, ?hy55⟩) (by assumption) ?rest55
                case hy55 => ((intro w hSw; (try dsimp only at hSw); go_simp) <;> with_reducible rfl)
                case' rest55 => try simp only [List.getElem_toArray, List.getElem_cons_zero, List.getElem_cons_succ, Act.put, List.setIfInBounds_toArray, List.set_cons_zero, List.set_cons_succ]
                refine wpAnyH_ready (rs := [9]) (by kernel_rfl) (by simp) ?_
                refine AllReadyH.cons (o := _) rfl (fun K hK => ?_) AllReadyH.nil
                go_simp
                refine (ent_value E Aj9 E.df.length cj9 d5.1 v.length d5.2 v _ rfl HOd.out.own.le HVF.out HOd.out.sl.drew).mono ?_
                rintro e w4 ⟨rfl, hb4⟩
                have hcz' : valueE E.ty E.mx E.lo E.hi v = 0 := HCZ.out
                rw [hcz']
                clear hcz'
                dsimp only
                refine hK.out _ _ ?hS58 (fun hHeld => ?rest58)
                case hS58 => ((try dsimp only); (((try go_split_ands); refine sn_of ?_; repeat' (first | with_reducible assumption | with_reducible exact Below.refl _ _ | with_reducible apply below_alloc | with_reducible apply below_drew1 | with_reducible apply below_drewN | (with_reducible apply below_step; with_reducible assumption) | (with_reducible apply below_sg2; (first | exact Nat.le_refl _ | (simp; done) | omega))))))
                case' rest58 => (clear hK K; try simp only [List.getElem_toArray, List.getElem_cons_zero, List.getElem_cons_succ, Act.put, List.setIfInBounds_toArray, List.set_cons_zero, List.set_cons_succ])
                refine wpAnyH_take (i := 10) (oi := _) (v := ?v59) rfl (by kernel_rfl) (by kernel_rfl) (by kernel_rfl) (fun _ _ _ h => h) (Or.inl ⟨by rfl, ?hy59⟩) (by assumption) ?rest59
                case hy59 => ((intro w hSw; (try dsimp only at hSw); go_simp) <;> with_reducible rfl)
                case' rest59 => try simp only [List.getElem_toArray, List.getElem_cons_zero, List.getElem_cons_succ, Act.put, List.setIfInBounds_toArray, List.set_cons_zero, List.set_cons_succ]
                refine wpAnyH_done (by kernel_rfl) ?_ _
                have hEnd := hHeld.2
                repeat (clear hHeld)
                go_wp2_with fail
                go_roundw
                case rel => exact ⟨i + 1, by omega, by go_num, below_step hEnd hbx⟩
                case measure => simp [intOf]; omega
              · go_wp2_with fail
                go_roundw
                case rel => exact ⟨k + 1, by omega, by go_num, hide (by obtain ⟨V9, es9, h9, h10⟩ := HI3.out; exact ⟨V9, es9, h9.below hbx, h10⟩), below_step hbx hbw3⟩
                case measure => simp [intOf]; omega
      · have hlt' : m ≤ k ∨ (k < m ∧ 40 ≤ k) := by omega
        rcases hlt' with h | ⟨h1, h2⟩
        all_goals
          go_wp2_with fail
          refine (known_15 _).mono ?_
          rintro e w2 ⟨rfl, hb2⟩
          go_wp2_with fail
          go_ret
          exact (⟨rfl, below_step hb2 hbr⟩ : TrueB w _ _)
  · have hp := h2 her
    subst hp
    clear h2 h3 hnp
    go_wp2_with fail
    refine (known_15 _).mono ?_
    rintro e w2 ⟨rfl, hb2⟩
    go_wp2_with fail
    go_ret
    refine (⟨?_, below_step hb2 hb1⟩ : TrueB w _ _)
    first | rfl | exact ret_bool (by simp [her]) | go_show
end Go.Proofs.Ytabgdfbiocoimaa
