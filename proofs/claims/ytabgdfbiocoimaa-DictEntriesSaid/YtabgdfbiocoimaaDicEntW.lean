/- The walk of DictEntries. -/
import Derived.Test.YtabgdfbiocoimaaDicNilW
import Derived.Test.YtabgdfbiocoimaaRLig
import Derived.Test.YtabgdfbiocoimaaRef01b
namespace Go.Proofs.Ytabgdfbiocoimaa
set_option linter.unusedVariables false
set_option linter.unusedSimpArgs false
set_option linter.unnecessarySimpa false
open Go.RowKit
set_option maxRecDepth 100000
set_option maxHeartbeats 4000000
theorem dictEntries_walk (A : Option Addr) (n c : Nat) (L : List Ent) (i : Int) (w : World) (hn : n = L.length) (hL : SlE w A L) :
    Calls Try.prog 4 #[.slice A n c, .int .i64 i] w (TrueB w) := by
  have HN := hide hn
  have HL := hide hL
  cases hli : lightL L
  · have HLI := hide hli
    clear hn hL hli
    go_enter Try.func4, Try.ntmps4
    go_wp2_with fail
    refine (rlight A n c L _ HN.out HL.out).mono ?_
    rintro e w1 ⟨rfl, rfl⟩
    rw [HLI.out]
    go_wp2_with fail
    refine (known_15 _).mono ?_
    rintro e w1 ⟨rfl, hb1⟩
    go_wp2_with fail
    go_ret
    exact (⟨rfl, hb1⟩ : TrueB w _ _)
  have HLI := hide hli
  have HFT := hide (light_fit hli)
  have h200 : n ≤ 200 := by rw [hn]; exact light_len hli
  clear hn hL hli
  go_enter Try.func4, Try.ntmps4
  go_wp2_with fail
  refine (rlight A n c L _ HN.out HL.out).mono ?_
  rintro e w1 ⟨rfl, rfl⟩
  rw [HLI.out]
  go_wp2_with fail
  refine (dict_new A n c L _ HN.out HL.out HFT.out).mono ?_
  rintro e w1 ⟨v, er, at_, rfl, hnp, h2, h3, hb1⟩
  by_cases her : er = 0
  · subst her
    obtain ⟨p, gl, n', cl, Av, cv, ds, es, rfl, hn', hD⟩ := h3 rfl
    have hnn : n' = n := by rw [hn', HN.out]
    subst hnn
    have HS : Hid (SortedE L) := hide (by
      rcases hnp with ⟨_, h, _⟩ | ⟨_, h, _⟩ | ⟨_, _, _, h⟩
      · omega
      · exact absurd rfl h
      · exact sorted_of _ L rfl h)
    have HD := hide hD
    clear h2 h3 hnp hD hn'
    go_wp2_with fail
    refine (dict_len _ HD.out.blk).mono ?_
    rintro e w2 ⟨rfl, rfl⟩
    go_wp2_with fail
    go_loopw [8] (fun i wr => ∃ k, k ≤ n' ∧ i = .int .i64 (k : Nat) ∧ Below w1.heap.size w1 wr) (fun i _ => n' - (intOf i).toNat)
    case atStart => exact ⟨0, by omega, rfl, Below.refl _ _⟩
    case round =>
      obtain ⟨k, hk, rfl, hbr⟩ := hrel
      have hbw := below_step hbr hb1
      by_cases hlt : k < n'
      · obtain ⟨E, hE⟩ : ∃ E, L[k]? = some E := ⟨L[k]'(by rw [← HN.out]; exact hlt), List.getElem?_eq_getElem _⟩
        have HE := hide hE
        have HFS := hide (find_self HS.out hE)
        clear hE
        go_wp2_with fail
        refine (dict_entry_yes k E _ _ p gl n' cl cv Av L _ ds es (HD.out.below hbr) HE.out).mono ?_
        rintro e w2 ⟨A2, c2, rfl, hO2, hb2⟩
        have hb12 := below_step hb2 hbr
        have q := blk_one w2 39 (entV E A2 E.df.length c2)
        have hb3 := below_alloc (Below.refl w2.heap.size w2) (.cells (entV E A2 E.df.length c2) 39)
        have HO2 := hide hO2
        unfold entV at q hb3 ⊢
        obtain ⟨b, off, Aj, cj, rfl, ⟨c0, c1, c2', c3, c4, c5, c6, c7, c8, c9, c10⟩, hcj, hsj⟩ := HL.out k E HE.out
        have CL : Hid (w.cell? ⟨b, off + k * 11, none⟩ = some (.int .i64 E.ix) ∧ w.cell? ⟨b, off + k * 11 + 1, none⟩ = some (.int .i64 E.sub) ∧ w.cell? ⟨b, off + k * 11 + 2, none⟩ = some (.string E.nm) ∧ w.cell? ⟨b, off + k * 11 + 3, none⟩ = some (.int .i64 E.ty) ∧ w.cell? ⟨b, off + k * 11 + 4, none⟩ = some (.int .i64 E.acc) ∧ w.cell? ⟨b, off + k * 11 + 5, none⟩ = some (.bool E.mp) ∧ w.cell? ⟨b, off + k * 11 + 6, none⟩ = some (.bool E.st) ∧ w.cell? ⟨b, off + k * 11 + 7, none⟩ = some (.int .i64 E.mx) ∧ w.cell? ⟨b, off + k * 11 + 8, none⟩ = some (.int .i64 E.lo) ∧ w.cell? ⟨b, off + k * 11 + 9, none⟩ = some (.int .i64 E.hi) ∧ w.cell? ⟨b, off + k * 11 + 10, none⟩ = some (.slice Aj E.df.length cj)) := hide ⟨c0, c1, c2', c3, c4, c5, c6, c7, c8, c9, c10⟩
        have HSJ := hide hsj
        have z0 := lt_of_cell c0
        simp only [] at z0
        obtain ⟨i1, i2, i3⟩ := idx_at hlt
        have HQ := hide q
        have hb13 := below_step (below_step hb3 hb2) hbw
        have HD3 := hide (HD.out.below (below_step hb3 hb12))
        clear hO2 q c2' c3 c4 c5 c6 c7 c8 c9 c10 hcj hsj hb12
        go_wp2_with fail
        refine wp_region_held_drew (S := (fun w' => (∀ p : Addr, p.block < (w).heap.size → w'.cell? p = (w).cell? p) ∧ Below (w).heap.size (w) w')) (by kernel_rfl) ?hS1 (fun hHeld => ?rest1)
        case hS1 => ((try dsimp only); (((try go_split_ands); refine sn_of ?_; repeat' (first | with_reducible assumption | with_reducible exact Below.refl _ _ | with_reducible apply below_alloc | with_reducible apply below_drew1 | with_reducible apply below_drewN | (with_reducible apply below_step; with_reducible assumption) | (with_reducible apply below_sg2; (first | exact Nat.le_refl _ | (simp; done) | omega))))))
        case' rest1 => skip
        refine wpAnyH_take (i := 0) (oi := _) (v := ?v2) rfl (by kernel_rfl) (by kernel_rfl) (by kernel_rfl) (fun _ _ _ h => h) (Or.inl ⟨by rfl, ?hy2⟩) (by assumption) ?rest2
        case hy2 => ((intro w hSw; (try dsimp only at hSw); go_simp) <;> with_reducible rfl)
        case' rest2 => try simp only [List.getElem_toArray, List.getElem_cons_zero, List.getElem_cons_succ, Act.put, List.setIfInBounds_toArray, List.set_cons_zero, List.set_cons_succ]
        refine wpAnyH_take (i := 1) (oi := _) (v := ?v3) rfl (by kernel_rfl) (by kernel_rfl) (by kernel_rfl) (fun _ _ _ h => h) (Or.inl ⟨by rfl, ?hy3⟩) (by assumption) ?rest3
        case hy3 => ((intro w hSw; (try dsimp only at hSw); go_simp) <;> with_reducible rfl)
        case' rest3 => try simp only [List.getElem_toArray, List.getElem_cons_zero, List.getElem_cons_succ, Act.put, List.setIfInBounds_toArray, List.set_cons_zero, List.set_cons_succ]
        refine wpAnyH_take (i := 2) (oi := _) (v := ?v4) rfl (by kernel_rfl) (by kernel_rfl) (by kernel_rfl) (fun _ _ _ h => h) (Or.inl ⟨by rfl, ?hy4⟩) (by assumption) ?rest4
        case hy4 => ((intro w hSw; (try dsimp only at hSw); go_simp) <;> with_reducible rfl)
        case' rest4 => try simp only [List.getElem_toArray, List.getElem_cons_zero, List.getElem_cons_succ, Act.put, List.setIfInBounds_toArray, List.set_cons_zero, List.set_cons_succ]
        refine wpAnyH_take (i := 3) (oi := _) (v := ?v5) rfl (by kernel_rfl) (by kernel_rfl) (by kernel_rfl) (fun _ _ _ h => h) (Or.inl ⟨by rfl, ?hy5⟩) (by assumption) ?rest5
        case hy5 => ((intro w hSw; (try dsimp only at hSw); go_simp) <;> with_reducible rfl)
        case' rest5 => try simp only [List.getElem_toArray, List.getElem_cons_zero, List.getElem_cons_succ, Act.put, List.setIfInBounds_toArray, List.set_cons_zero, List.set_cons_succ]
        refine wpAnyH_take (i := 4) (oi := _) (v := ?v6) rfl (by kernel_rfl) (by kernel_rfl) (by kernel_rfl) (fun _ _ _ h => h) (Or.inl ⟨by rfl, ?hy6⟩) (by assumption) ?rest6
        case hy6 => ((intro w hSw; (try dsimp only at hSw); go_simp) <;> with_reducible rfl)
        case' rest6 => try simp only [List.getElem_toArray, List.getElem_cons_zero, List.getElem_cons_succ, Act.put, List.setIfInBounds_toArray, List.set_cons_zero, List.set_cons_succ]
        refine wpAnyH_take (i := 5) (oi := _) (v := ?v7) rfl (by kernel_rfl) (by kernel_rfl) (by kernel_rfl) (fun _ _ _ h => h) (Or.inl ⟨by rfl, ?hy7⟩) (by assumption) ?rest7
        case hy7 => ((intro w hSw; (try dsimp only at hSw); go_simp) <;> with_reducible rfl)
        case' rest7 => try simp only [List.getElem_toArray, List.getElem_cons_zero, List.getElem_cons_succ, Act.put, List.setIfInBounds_toArray, List.set_cons_zero, List.set_cons_succ]
        refine wpAnyH_take (i := 6) (oi := _) (v := ?v8) rfl (by kernel_rfl) (by kernel_rfl) (by kernel_rfl) (fun _ _ _ h => h) (Or.inl ⟨by rfl, ?hy8⟩) (by assumption) ?rest8
        case hy8 => ((intro w hSw; (try dsimp only at hSw); go_simp) <;> with_reducible rfl)
        case' rest8 => try simp only [List.getElem_toArray, List.getElem_cons_zero, List.getElem_cons_succ, Act.put, List.setIfInBounds_toArray, List.set_cons_zero, List.set_cons_succ]
        refine wpAnyH_take (i := 7) (oi := _) (v := ?v9) rfl (by kernel_rfl) (by kernel_rfl) (by kernel_rfl) (fun _ _ _ h => h) (Or.inl ⟨by rfl, ?hy9⟩) (by assumption) ?rest9
        case hy9 => ((intro w hSw; (try dsimp only at hSw); go_simp) <;> with_reducible rfl)
        case' rest9 => try simp only [List.getElem_toArray, List.getElem_cons_zero, List.getElem_cons_succ, Act.put, List.setIfInBounds_toArray, List.set_cons_zero, List.set_cons_succ]
        refine wpAnyH_take (i := 8) (oi := _) (v := ?v10) rfl (by kernel_rfl) (by kernel_rfl) (by kernel_rfl) (fun _ _ _ h => h) (Or.inl ⟨by rfl, ?hy10⟩) (by assumption) ?rest10
        case hy10 => ((intro w hSw; (try dsimp only at hSw); go_simp) <;> with_reducible rfl)
        case' rest10 => try simp only [List.getElem_toArray, List.getElem_cons_zero, List.getElem_cons_succ, Act.put, List.setIfInBounds_toArray, List.set_cons_zero, List.set_cons_succ]
        refine wpAnyH_take (i := 9) (oi := _) (v := ?v11) rfl (by kernel_rfl) (by kernel_rfl) (by kernel_rfl) (fun _ _ _ h => h) (Or.inl ⟨by rfl, ?hy11⟩) (by assumption) ?rest11
        case hy11 => ((intro w hSw; (try dsimp only at hSw); go_simp) <;> with_reducible rfl)
        case' rest11 => try simp only [List.getElem_toArray, List.getElem_cons_zero, List.getElem_cons_succ, Act.put, List.setIfInBounds_toArray, List.set_cons_zero, List.set_cons_succ]
        refine wpAnyH_take (i := 10) (oi := _) (v := ?v12) rfl (by kernel_rfl) (by kernel_rfl) (by kernel_rfl) (fun _ _ _ h => h) (Or.inl ⟨by rfl, ?hy12⟩) (by assumption) ?rest12
        case hy12 => ((intro w hSw; (try dsimp only at hSw); go_simp) <;> with_reducible rfl)
        case' rest12 => try simp only [List.getElem_toArray, List.getElem_cons_zero, List.getElem_cons_succ, Act.put, List.setIfInBounds_toArray, List.set_cons_zero, List.set_cons_succ]
        refine wpAnyH_ready (rs := [11]) (by kernel_rfl) (by simp) ?_
        refine AllReadyH.cons (o := _) rfl (fun K hK => ?_) AllReadyH.nil
        go_simp
        refine (dict_find E.ix E.sub _ (HD3.out.below (Below.drew (Below.refl _ _))) HS.out (by omega)).mono ?_
        rintro e w4 ⟨rfl, hb4⟩
        dsimp only
        have e1 : locK L E.ix E.sub = k := by unfold locK; rw [HFS.out]; rfl
        have e2 : hasL L E.ix E.sub = true := by unfold hasL; rw [HFS.out]; simp
        rw [e1, e2]
        clear e1 e2
        replace hb4 := below_undrew hb4
        have hb14 := below_step hb4 hb13
        refine hK.out _ _ ?hS15 (fun hHeld => ?rest15)
        case hS15 => ((try dsimp only); (((try go_split_ands); refine sn_of ?_; repeat' (first | with_reducible assumption | with_reducible exact Below.refl _ _ | with_reducible apply below_alloc | with_reducible apply below_drew1 | with_reducible apply below_drewN | (with_reducible apply below_step; with_reducible assumption) | (with_reducible apply below_sg2; (first | exact Nat.le_refl _ | (simp; done) | omega))))))
        case' rest15 => (clear hK K; try simp only [List.getElem_toArray, List.getElem_cons_zero, List.getElem_cons_succ, Act.put, List.setIfInBounds_toArray, List.set_cons_zero, List.set_cons_succ])
        refine wpAnyH_take (i := 12) (oi := _) (v := ?v16) rfl (by kernel_rfl) (by kernel_rfl) (by kernel_rfl) (fun _ _ _ h => h) (Or.inl ⟨by rfl, ?hy16⟩) (by assumption) ?rest16
        case hy16 => ((intro w hSw; (try dsimp only at hSw); go_simp) <;> with_reducible rfl)
        case' rest16 => try simp only [List.getElem_toArray, List.getElem_cons_zero, List.getElem_cons_succ, Act.put, List.setIfInBounds_toArray, List.set_cons_zero, List.set_cons_succ]
        refine wpAnyH_take (i := 13) (oi := _) (v := ?v17) rfl (by kernel_rfl) (by kernel_rfl) (by kernel_rfl) (fun _ _ _ h => h) (Or.inl ⟨by rfl, ?hy17⟩) (by assumption) ?rest17
        case hy17 => ((intro w hSw; (try dsimp only at hSw); go_simp) <;> with_reducible rfl)
        case' rest17 => try simp only [List.getElem_toArray, List.getElem_cons_zero, List.getElem_cons_succ, Act.put, List.setIfInBounds_toArray, List.set_cons_zero, List.set_cons_succ]
        refine wpAnyH_take (i := 14) (oi := _) (v := ?v18) rfl (by kernel_rfl) (by kernel_rfl) (by kernel_rfl) (fun _ _ _ h => h) (Or.inl ⟨by rfl, ?hy18⟩) (by assumption) ?rest18
        case hy18 => ((intro w hSw; (try dsimp only at hSw); go_simp) <;> with_reducible rfl)
        case' rest18 => try simp only [List.getElem_toArray, List.getElem_cons_zero, List.getElem_cons_succ, Act.put, List.setIfInBounds_toArray, List.set_cons_zero, List.set_cons_succ]
        refine wpAnyH_take (i := 15) (oi := _) (v := ?v19) rfl (by kernel_rfl) (by kernel_rfl) (by kernel_rfl) (fun _ _ _ h => h) (Or.inl ⟨by rfl, ?hy19⟩) (by assumption) ?rest19
        case hy19 => ((intro w hSw; (try dsimp only at hSw); go_simp) <;> with_reducible rfl)
        case' rest19 => try simp only [List.getElem_toArray, List.getElem_cons_zero, List.getElem_cons_succ, Act.put, List.setIfInBounds_toArray, List.set_cons_zero, List.set_cons_succ]
        refine wpAnyH_take (i := 16) (oi := _) (v := ?v20) rfl (by kernel_rfl) (by kernel_rfl) (by kernel_rfl) (fun _ _ _ h => h) (Or.inl ⟨by rfl, ?hy20⟩) (by assumption) ?rest20
        case hy20 => ((intro w hSw; (try dsimp only at hSw); go_simp) <;> with_reducible rfl)
        case' rest20 => try simp only [List.getElem_toArray, List.getElem_cons_zero, List.getElem_cons_succ, Act.put, List.setIfInBounds_toArray, List.set_cons_zero, List.set_cons_succ]
        refine wpAnyH_done (by kernel_rfl) ?_ _
        have hEnd := hHeld.2
        repeat (clear hHeld)
        have HQ4 := hide (HQ.out.below hb4 HQ.out.lt)
        have hsx := hide (((HO2.out.below (below_step hb4 hb3))).sl)
        have hsl := hide (HSJ.out.below hb14)
        have CL4 := hide (ec_below CL.out hb14)
        have q4 := HQ4.out
        unfold entV at q4
        obtain ⟨d0, d1, d2, d3, d4, d5, d6, d7, d8, d9, d10⟩ := CL4.out
        have q4_c0 := q4.cell 0 rfl
        have q4_f0 := q4.frozen 0
        have q4_c1 := q4.cell 1 rfl
        have q4_f1 := q4.frozen 1
        have q4_c2 := q4.cell 2 rfl
        have q4_f2 := q4.frozen 2
        have q4_c3 := q4.cell 3 rfl
        have q4_f3 := q4.frozen 3
        have q4_c4 := q4.cell 4 rfl
        have q4_f4 := q4.frozen 4
        have q4_c5 := q4.cell 5 rfl
        have q4_f5 := q4.frozen 5
        have q4_c6 := q4.cell 6 rfl
        have q4_f6 := q4.frozen 6
        have q4_c7 := q4.cell 7 rfl
        have q4_f7 := q4.frozen 7
        have q4_c8 := q4.cell 8 rfl
        have q4_f8 := q4.frozen 8
        have q4_c9 := q4.cell 9 rfl
        have q4_f9 := q4.frozen 9
        have q4_c10 := q4.cell 10 rfl
        have q4_f10 := q4.frozen 10
        clear c0 c1
        go_wp2_with fail
        refine wp_region_held_drew (S := (fun w' => (w'.cell? ⟨w2.heap.size, 0, none⟩ = some (.int .i64 E.ix) ∧ w'.cell? ⟨w2.heap.size, 1, none⟩ = some (.int .i64 E.sub) ∧ w'.cell? ⟨w2.heap.size, 2, none⟩ = some (.string E.nm) ∧ w'.cell? ⟨w2.heap.size, 3, none⟩ = some (.int .i64 E.ty) ∧ w'.cell? ⟨w2.heap.size, 4, none⟩ = some (.int .i64 E.acc) ∧ w'.cell? ⟨w2.heap.size, 5, none⟩ = some (.bool E.mp) ∧ w'.cell? ⟨w2.heap.size, 6, none⟩ = some (.bool E.st) ∧ w'.cell? ⟨w2.heap.size, 7, none⟩ = some (.int .i64 E.mx) ∧ w'.cell? ⟨w2.heap.size, 8, none⟩ = some (.int .i64 E.lo) ∧ w'.cell? ⟨w2.heap.size, 9, none⟩ = some (.int .i64 E.hi) ∧ w'.cell? ⟨w2.heap.size, 10, none⟩ = some (.slice A2 E.df.length c2)) ∧ (w'.cell? ⟨b, off + k * 11, none⟩ = some (.int .i64 E.ix) ∧ w'.cell? ⟨b, off + k * 11 + 1, none⟩ = some (.int .i64 E.sub) ∧ w'.cell? ⟨b, off + k * 11 + 2, none⟩ = some (.string E.nm) ∧ w'.cell? ⟨b, off + k * 11 + 3, none⟩ = some (.int .i64 E.ty) ∧ w'.cell? ⟨b, off + k * 11 + 4, none⟩ = some (.int .i64 E.acc) ∧ w'.cell? ⟨b, off + k * 11 + 5, none⟩ = some (.bool E.mp) ∧ w'.cell? ⟨b, off + k * 11 + 6, none⟩ = some (.bool E.st) ∧ w'.cell? ⟨b, off + k * 11 + 7, none⟩ = some (.int .i64 E.mx) ∧ w'.cell? ⟨b, off + k * 11 + 8, none⟩ = some (.int .i64 E.lo) ∧ w'.cell? ⟨b, off + k * 11 + 9, none⟩ = some (.int .i64 E.hi) ∧ w'.cell? ⟨b, off + k * 11 + 10, none⟩ = some (.slice Aj E.df.length cj)))) (by kernel_rfl) ?hS22 (fun hHeld => ?rest22)
        case hS22 => ((try dsimp only); (exact ⟨ec_of HQ4.out, CL4.out⟩))
        case' rest22 => skip
        refine wpAnyH_take (i := 0) (oi := _) (v := ?v23) rfl (by kernel_rfl) (by kernel_rfl) (by kernel_rfl) (fun _ _ _ h => h) (Or.inl ⟨by rfl, ?hy23⟩) (by assumption) ?rest23
        case hy23 => ((intro w hSw; (try dsimp only at hSw); go_simp) <;> with_reducible rfl)
        case' rest23 => try simp only [List.getElem_toArray, List.getElem_cons_zero, List.getElem_cons_succ, Act.put, List.setIfInBounds_toArray, List.set_cons_zero, List.set_cons_succ]
        refine wpAnyH_take (i := 1) (oi := _) (v := ?v24) rfl (by kernel_rfl) (by kernel_rfl) (by kernel_rfl) (fun _ _ _ h => h) (Or.inl ⟨by rfl, ?hy24⟩) (by assumption) ?rest24
        case hy24 => ((intro w hSw; (try dsimp only at hSw); go_simp) <;> with_reducible rfl)
        case' rest24 => try simp only [List.getElem_toArray, List.getElem_cons_zero, List.getElem_cons_succ, Act.put, List.setIfInBounds_toArray, List.set_cons_zero, List.set_cons_succ]
        refine wpAnyH_take (i := 2) (oi := _) (v := ?v25) rfl (by kernel_rfl) (by kernel_rfl) (by kernel_rfl) (fun _ _ _ h => h) (Or.inl ⟨by rfl, ?hy25⟩) (by assumption) ?rest25
        case hy25 => ((intro w hSw; (try dsimp only at hSw); go_simp) <;> with_reducible rfl)
        case' rest25 => try simp only [List.getElem_toArray, List.getElem_cons_zero, List.getElem_cons_succ, Act.put, List.setIfInBounds_toArray, List.set_cons_zero, List.set_cons_succ]
        refine wpAnyH_take (i := 3) (oi := _) (v := ?v26) rfl (by kernel_rfl) (by kernel_rfl) (by kernel_rfl) (fun _ _ _ h => h) (Or.inl ⟨by rfl, ?hy26⟩) (by assumption) ?rest26
        case hy26 => ((intro w hSw; (try dsimp only at hSw); go_simp) <;> with_reducible rfl)
        case' rest26 => try simp only [List.getElem_toArray, List.getElem_cons_zero, List.getElem_cons_succ, Act.put, List.setIfInBounds_toArray, List.set_cons_zero, List.set_cons_succ]
        refine wpAnyH_take (i := 4) (oi := _) (v := ?v27) rfl (by kernel_rfl) (by kernel_rfl) (by kernel_rfl) (fun _ _ _ h => h) (Or.inl ⟨by rfl, ?hy27⟩) (by assumption) ?rest27
        case hy27 => ((intro w hSw; (try dsimp only at hSw); go_simp) <;> with_reducible rfl)
        case' rest27 => try simp only [List.getElem_toArray, List.getElem_cons_zero, List.getElem_cons_succ, Act.put, List.setIfInBounds_toArray, List.set_cons_zero, List.set_cons_succ]
        refine wpAnyH_take (i := 5) (oi := _) (v := ?v28) rfl (by kernel_rfl) (by kernel_rfl) (by kernel_rfl) (fun _ _ _ h => h) (Or.inl ⟨by rfl, ?hy28⟩) (by assumption) ?rest28
        case hy28 => ((intro w hSw; (try dsimp only at hSw); go_simp) <;> with_reducible rfl)
        case' rest28 => try simp only [List.getElem_toArray, List.getElem_cons_zero, List.getElem_cons_succ, Act.put, List.setIfInBounds_toArray, List.set_cons_zero, List.set_cons_succ]
        refine wpAnyH_take (i := 6) (oi := _) (v := ?v29) rfl (by kernel_rfl) (by kernel_rfl) (by kernel_rfl) (fun _ _ _ h => h) (Or.inl ⟨by rfl, ?hy29⟩) (by assumption) ?rest29
        case hy29 => ((intro w hSw; (try dsimp only at hSw); go_simp) <;> with_reducible rfl)
        case' rest29 => try simp only [List.getElem_toArray, List.getElem_cons_zero, List.getElem_cons_succ, Act.put, List.setIfInBounds_toArray, List.set_cons_zero, List.set_cons_succ]
        refine wpAnyH_take (i := 7) (oi := _) (v := ?v30) rfl (by kernel_rfl) (by kernel_rfl) (by kernel_rfl) (fun _ _ _ h => h) (Or.inl ⟨by rfl, ?hy30⟩) (by assumption) ?rest30
        case hy30 => ((intro w hSw; (try dsimp only at hSw); go_simp) <;> with_reducible rfl)
        case' rest30 => try simp only [List.getElem_toArray, List.getElem_cons_zero, List.getElem_cons_succ, Act.put, List.setIfInBounds_toArray, List.set_cons_zero, List.set_cons_succ]
        refine wpAnyH_ready (rs := [8]) (by kernel_rfl) (by simp) ?_
        refine AllReadyH.cons (o := _) rfl (fun K hK => ?_) AllReadyH.nil
        go_simp
        refine (same_yes E A2 Aj E.df.length c2 E.df.length cj _ rfl rfl hsx.out.drew hsl.out.drew).mono ?_
        rintro e w5 ⟨rfl, hb5⟩
        dsimp only
        replace hb5 := below_undrew hb5
        have HQ5 := hide (HQ4.out.below hb5 HQ4.out.lt)
        refine hK.out _ _ ?hS33 (fun hHeld => ?rest33)
        case hS33 => ((try dsimp only); (exact ⟨ec_of HQ5.out, ec_below CL4.out hb5⟩))
        case' rest33 => (clear hK K; try simp only [List.getElem_toArray, List.getElem_cons_zero, List.getElem_cons_succ, Act.put, List.setIfInBounds_toArray, List.set_cons_zero, List.set_cons_succ])
        refine wpAnyH_take (i := 9) (oi := _) (v := ?v34) rfl (by kernel_rfl) (by kernel_rfl) (by kernel_rfl) (fun _ _ _ h => h) (Or.inl ⟨by rfl, ?hy34⟩) (by assumption) ?rest34
        case hy34 => ((intro w hSw; (try dsimp only at hSw); go_simp) <;> with_reducible rfl)
        case' rest34 => try simp only [List.getElem_toArray, List.getElem_cons_zero, List.getElem_cons_succ, Act.put, List.setIfInBounds_toArray, List.set_cons_zero, List.set_cons_succ]
        refine wpAnyH_take (i := 10) (oi := _) (v := ?v35) rfl (by kernel_rfl) (by kernel_rfl) (by kernel_rfl) (fun _ _ _ h => h) (Or.inl ⟨by rfl, ?hy35⟩) (by assumption) ?rest35
        case hy35 => ((intro w hSw; (try dsimp only at hSw); go_simp) <;> with_reducible rfl)
        case' rest35 => try simp only [List.getElem_toArray, List.getElem_cons_zero, List.getElem_cons_succ, Act.put, List.setIfInBounds_toArray, List.set_cons_zero, List.set_cons_succ]
        refine wpAnyH_take (i := 11) (oi := _) (v := ?v36) rfl (by kernel_rfl) (by kernel_rfl) (by kernel_rfl) (fun _ _ _ h => h) (Or.inl ⟨by rfl, ?hy36⟩) (by assumption) ?rest36
        case hy36 => ((intro w hSw; (try dsimp only at hSw); go_simp) <;> with_reducible rfl)
        case' rest36 => try simp only [List.getElem_toArray, List.getElem_cons_zero, List.getElem_cons_succ, Act.put, List.setIfInBounds_toArray, List.set_cons_zero, List.set_cons_succ]
        refine wpAnyH_take (i := 12) (oi := _) (v := ?v37) rfl (by kernel_rfl) (by kernel_rfl) (by kernel_rfl) (fun _ _ _ h => h) (Or.inl ⟨by rfl, ?hy37⟩) (by assumption) ?rest37
        case hy37 => ((intro w hSw; (try dsimp only at hSw); go_simp) <;> with_reducible rfl)
        case' rest37 => try simp only [List.getElem_toArray, List.getElem_cons_zero, List.getElem_cons_succ, Act.put, List.setIfInBounds_toArray, List.set_cons_zero, List.set_cons_succ]
        refine wpAnyH_take (i := 13) (oi := _) (v := ?v38) rfl (by kernel_rfl) (by kernel_rfl) (by kernel_rfl) (fun _ _ _ h => h) (Or.inl ⟨by rfl, ?hy38⟩) (by assumption) ?rest38
        case hy38 => ((intro w hSw; (try dsimp only at hSw); go_simp) <;> with_reducible rfl)
        case' rest38 => try simp only [List.getElem_toArray, List.getElem_cons_zero, List.getElem_cons_succ, Act.put, List.setIfInBounds_toArray, List.set_cons_zero, List.set_cons_succ]
        refine wpAnyH_take (i := 14) (oi := _) (v := ?v39) rfl (by kernel_rfl) (by kernel_rfl) (by kernel_rfl) (fun _ _ _ h => h) (Or.inl ⟨by rfl, ?hy39⟩) (by assumption) ?rest39
        case hy39 => ((intro w hSw; (try dsimp only at hSw); go_simp) <;> with_reducible rfl)
        case' rest39 => try simp only [List.getElem_toArray, List.getElem_cons_zero, List.getElem_cons_succ, Act.put, List.setIfInBounds_toArray, List.set_cons_zero, List.set_cons_succ]
        refine wpAnyH_take (i := 15) (oi := _) (v := ?v40) rfl (by kernel_rfl) (by kernel_rfl) (by kernel_rfl) (fun _ _ _ h => h) (Or.inl ⟨by rfl, ?hy40⟩) (by assumption) ?rest40
        case hy40 => ((intro w hSw; (try dsimp only at hSw); go_simp) <;> with_reducible rfl)
        case' rest40 => try simp only [List.getElem_toArray, List.getElem_cons_zero, List.getElem_cons_succ, Act.put, List.setIfInBounds_toArray, List.set_cons_zero, List.set_cons_succ]
        refine wpAnyH_take (i := 16) (oi := _) (v := ?v41) rfl (by kernel_rfl) (by kernel_rfl) (by kernel_rfl) (fun _ _ _ h => h) (Or.inl ⟨by rfl, ?hy41⟩) (by assumption) ?rest41
        case hy41 => ((intro w hSw; (try dsimp only at hSw); go_simp) <;> with_reducible rfl)
        case' rest41 => try simp only [List.getElem_toArray, List.getElem_cons_zero, List.getElem_cons_succ, Act.put, List.setIfInBounds_toArray, List.set_cons_zero, List.set_cons_succ]
        refine wpAnyH_take (i := 17) (oi := _) (v := ?v42) rfl (by kernel_rfl) (by kernel_rfl) (by kernel_rfl) (fun _ _ _ h => h) (Or.inl ⟨by rfl, ?hy42⟩) (by assumption) ?rest42
        case hy42 => ((intro w hSw; (try dsimp only at hSw); go_simp) <;> with_reducible rfl)
        case' rest42 => try simp only [List.getElem_toArray, List.getElem_cons_zero, List.getElem_cons_succ, Act.put, List.setIfInBounds_toArray, List.set_cons_zero, List.set_cons_succ]
        refine wpAnyH_take (i := 18) (oi := _) (v := ?v43) rfl (by kernel_rfl) (by kernel_rfl) (by kernel_rfl) (fun _ _ _ h => h) (Or.inl ⟨by rfl, ?hy43⟩) (by assumption) ?rest43
        case hy43 => ((intro w hSw; (try dsimp only at hSw); go_simp) <;> with_reducible rfl)
        case' rest43 => try simp only [List.getElem_toArray, List.getElem_cons_zero, List.getElem_cons_succ, Act.put, List.setIfInBounds_toArray, List.set_cons_zero, List.set_cons_succ]
        refine wpAnyH_take (i := 19) (oi := _) (v := ?v44) rfl (by kernel_rfl) (by kernel_rfl) (by kernel_rfl) (fun _ _ _ h => h) (Or.inl ⟨by rfl, ?hy44⟩) (by assumption) ?rest44
        case hy44 => ((intro w hSw; (try dsimp only at hSw); go_simp) <;> with_reducible rfl)
        case' rest44 => try simp only [List.getElem_toArray, List.getElem_cons_zero, List.getElem_cons_succ, Act.put, List.setIfInBounds_toArray, List.set_cons_zero, List.set_cons_succ]
        refine wpAnyH_done (by kernel_rfl) ?_ _
        have hEnd := hHeld.2
        repeat (clear hHeld)
        clear d0 d1 d2 d3 d4 d5 d6 d7 d8 d9 d10
        clear q4_c0 q4_f0 q4_c1 q4_f1 q4_c2 q4_f2 q4_c3 q4_f3 q4_c4 q4_f4 q4_c5 q4_f5 q4_c6 q4_f6 q4_c7 q4_f7 q4_c8 q4_f8 q4_c9 q4_f9 q4_c10 q4_f10
        have q5 := HQ5.out
        unfold entV at q5
        have q5_c0 := q5.cell 0 rfl
        have q5_f0 := q5.frozen 0
        have q5_c1 := q5.cell 1 rfl
        have q5_f1 := q5.frozen 1
        have q5_c2 := q5.cell 2 rfl
        have q5_f2 := q5.frozen 2
        have q5_c3 := q5.cell 3 rfl
        have q5_f3 := q5.frozen 3
        have q5_c4 := q5.cell 4 rfl
        have q5_f4 := q5.frozen 4
        have q5_c5 := q5.cell 5 rfl
        have q5_f5 := q5.frozen 5
        have q5_c6 := q5.cell 6 rfl
        have q5_f6 := q5.frozen 6
        have q5_c7 := q5.cell 7 rfl
        have q5_f7 := q5.frozen 7
        have q5_c8 := q5.cell 8 rfl
        have q5_f8 := q5.frozen 8
        have q5_c9 := q5.cell 9 rfl
        have q5_f9 := q5.frozen 9
        have q5_c10 := q5.cell 10 rfl
        have q5_f10 := q5.frozen 10
        have hb15 := below_step hb5 hb14
        have hfe := (HFT.out E (List.mem_of_getElem? HE.out)).1
        have hz := (below_step hb2 hbr).size
        have hb25 := below_step hb5 (below_step hb4 (below_step hb3 hb2))
        have HO5 := hide ((HO2.out.below (below_step hb5 (below_step hb4 hb3))))
        have hz2 := hb25.size
        go_wp2_with fail
        refine (spoil_any A2 E.df.length c2 wr.heap.size E.df _ hfe HO5.out.own hz2).mono ?_
        rintro e w6 ⟨rfl, hg6⟩
        have hb6 := hb25.grown hg6 hz2 (by
          intro q hq
          rcases HO5.out.own.shape with ⟨h1, _⟩ | ⟨g', h1, h2, _⟩
          · rw [h1] at hq; cases hq
          · rw [h1] at hq
            simp [Value.ownBlock] at hq
            omega)
        go_wp2_with fail
        go_roundw
        case rel => exact ⟨k + 1, by omega, by go_num, below_step hb6 hbr⟩
        case measure => simp [intOf]; omega
      · have hkn : k = n' := by omega
        have HDr := hide (HD.out.below hbr)
        by_cases hi : 0 ≤ i ∧ i < n'
        · obtain ⟨hi0, hi1⟩ := hi
          obtain ⟨j, rfl⟩ := Int.eq_ofNat_of_zero_le hi0
          have hj : j < n' := by omega
          obtain ⟨E, hE⟩ : ∃ E, L[j]? = some E := ⟨L[j]'(by rw [← HN.out]; exact hj), List.getElem?_eq_getElem _⟩
          have HE := hide hE
          clear hE
          go_wp2_with fail
          refine (dict_entry_yes j E _ _ p gl n' cl cv Av L _ ds es HDr.out HE.out).mono ?_
          rintro e w2 ⟨A2, c2, rfl, hO2, hb2⟩
          have hb3 := below_alloc (below_step hb2 hbw) (.cells (entV E A2 E.df.length c2) 39)
          clear hO2
          unfold entV at hb3 ⊢
          go_wp2_with fail
          refine (known_15 _).mono ?_
          rintro e w3 ⟨rfl, hb4⟩
          go_wp2_with fail
          go_ret
          exact (⟨rfl, below_step hb4 hb3⟩ : TrueB w _ _)
        · have hi' : i < 0 ∨ (0 ≤ i ∧ (n' : Int) ≤ i) := by omega
          have HI := hide hi'
          clear hi
          rcases hi' with hi' | ⟨hi0, hi1⟩
          all_goals
            go_wp2_with fail
            refine (dict_entry_no i _ p gl n' cl cv Av HDr.out.blk HI.out).mono ?_
            rintro e w2 ⟨rfl, hb2⟩
            have q := blk_one w2 39 (entV zeroE none 0 0)
            have hb3 := below_alloc (below_step hb2 hbw) (.cells (entV zeroE none 0 0) 39)
            unfold entV zeroE at hb3 q ⊢
            have q_c0 := q.cell 0 rfl
            have q_f0 := q.frozen 0
            have q_c1 := q.cell 1 rfl
            have q_f1 := q.frozen 1
            have q_c2 := q.cell 2 rfl
            have q_f2 := q.frozen 2
            have q_c3 := q.cell 3 rfl
            have q_f3 := q.frozen 3
            have q_c4 := q.cell 4 rfl
            have q_f4 := q.frozen 4
            have q_c5 := q.cell 5 rfl
            have q_f5 := q.frozen 5
            have q_c6 := q.cell 6 rfl
            have q_f6 := q.frozen 6
            have q_c7 := q.cell 7 rfl
            have q_f7 := q.frozen 7
            have q_c8 := q.cell 8 rfl
            have q_f8 := q.frozen 8
            have q_c9 := q.cell 9 rfl
            have q_f9 := q.frozen 9
            have q_c10 := q.cell 10 rfl
            have q_f10 := q.frozen 10
            go_wp2_with fail
            refine (same_yes zeroE none none 0 0 0 0 _ rfl rfl (Sl.nil _ _) (Sl.nil _ _)).mono ?_
            rintro e w3 ⟨rfl, hb4⟩
            go_wp2_with fail
            refine (known_15 _).mono ?_
            rintro e w4 ⟨rfl, hb5⟩
            go_wp2_with fail
            go_ret
            refine (⟨?_, below_step hb5 (below_step hb4 hb3)⟩ : TrueB w _ _)
            first | rfl | (have hd : decide (i < (n' : Int)) = false := decide_eq_false (by omega)
                           exact ret_bool (by rw [hd]; rfl))
  · have hp := h2 her
    subst hp
    clear h2 h3 hnp
    go_wp2_with fail
    refine (known_15 _).mono ?_
    rintro e w2 ⟨rfl, hb2⟩
    go_wp2_with fail
    go_ret
    exact (⟨rfl, below_step hb2 hb1⟩ : TrueB w _ _)
end Go.Proofs.Ytabgdfbiocoimaa
