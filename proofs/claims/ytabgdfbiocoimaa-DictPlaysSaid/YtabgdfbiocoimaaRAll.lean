/- The reference of dictionaries: Lent, All. -/
import Derived.Test.YtabgdfbiocoimaaRSam
import Derived.Test.YtabgdfbiocoimaaRDicL
namespace Go.Proofs.Ytabgdfbiocoimaa
set_option linter.unusedVariables false
set_option linter.unusedSimpArgs false
set_option linter.unnecessarySimpa false
open Go.RowKit
set_option maxRecDepth 100000
set_option maxHeartbeats 4000000
theorem all_yes' (A B : Option Addr) (n c m d : Nat) (L : List Ent) (w : World) (hn : n = L.length) (hm : m = L.length) (hl : n ≤ 1000) (h1 : SlE w A L) (h2 : SlE w B L) :
    Calls Try.prog 29 #[.slice A n c, .slice B m d] w fun e w' => e = .returned (.bool true) ∧ Below w.heap.size w w' := by
  have hmn : m = n := by omega
  subst hmn
  have HN := hide hn
  have H1 := hide h1
  have H2 := hide h2
  clear hn hm h1 h2
  go_enter Try.func29, Try.ntmps29
  go_wp2_with fail
  go_loopw [5] (fun i wr => ∃ k, k ≤ m ∧ i = .int .i64 (k : Nat) ∧ Below w.heap.size w wr) (fun i _ => m - (intOf i).toNat)
  case atStart => exact ⟨0, by omega, rfl, Below.refl _ _⟩
  case round =>
    obtain ⟨k, hk, rfl, hbr⟩ := hrel
    by_cases hlt : k < m
    · obtain ⟨E, hE⟩ : ∃ E, L[k]? = some E := ⟨L[k]'(by rw [← HN.out]; exact hlt), List.getElem?_eq_getElem _⟩
      obtain ⟨b, off, Aj, cj, rfl, ⟨c0, c1, c2, c3, c4, c5, c6, c7, c8, c9, c10⟩, _, hs1⟩ := (H1.out.below hbr) k E hE
      obtain ⟨b', off', Aj', cj', rfl, ⟨e0, e1, e2, e3, e4, e5, e6, e7, e8, e9, e10⟩, _, hs2⟩ := (H2.out.below hbr) k E hE
      have z1 := lt_of_cell c0
      have z2 := lt_of_cell e0
      simp only [] at z1 z2
      obtain ⟨i1, i2, i3⟩ := idx_at hlt
      have S1 := hide hs1
      have S2 := hide hs2
      clear hE hs1 hs2
      go_wp2_with fail
      refine wp_region_held_drew (S := (fun w' => (∀ p : Addr, p.block < (wr).heap.size → w'.cell? p = (wr).cell? p) ∧ Below (wr).heap.size (wr) w')) (by kernel_rfl) ?hS1 (fun hHeld => ?rest1)
      case hS1 => ((try dsimp only); (((try go_split_ands); refine sn_of ?_; repeat' (first | with_reducible assumption | with_reducible exact Below.refl _ _ | with_reducible apply below_alloc | with_reducible apply below_drew1 | with_reducible apply below_drewN | (with_reducible apply below_step; with_reducible assumption) | (with_reducible apply below_sg2; (first | exact Nat.le_refl _ | (simp; done) | omega))))))
      case' rest1 => skip
      refine wpAnyH_take (i := 0) (oi := _) (v := ?v2) rfl (by kernel_rfl) (by kernel_rfl) (by kernel_rfl) (fun _ _ _ h => h) (Or.inl ⟨by rfl, ?hy2⟩) (by assumption) ?rest2
      case hy2 => ((intro w hSw; (try dsimp only at hSw); go_simp) <;> with_reducible rfl)
      case' rest2 => try simp only [List.getElem_toArray, List.getElem_cons_zero, List.getElem_cons_succ, Act.put, List.setIfInBounds_toArray, List.set_cons_zero, List.set_cons_succ]
      refine wpAnyH_take (i := 1) (oi := _) (v := ?v3) rfl (by kernel_rfl) (by kernel_rfl) (by kernel_rfl) (fun _ _ _ h => h) (Or.inl ⟨by rfl, ?hy3⟩) (by assumption) ?rest3
      case hy3 => ((intro w hSw; (try dsimp only at hSw); go_simp) <;> with_reducible rfl)
      case' rest3 => try simp only [List.getElem_toArray, List.getElem_cons_zero, List.getElem_cons_succ, Act.put, List.setIfInBounds_toArray, List.set_cons_zero, List.set_cons_succ]
      refine wpAnyH_take (i := 2) (oi := _) (v := ?v4) rfl (by kernel_rfl) (by kernel_rfl) (by kernel_rfl) (fun _ _ _ h => h) (Or.inl ⟨by rfl, ?hy4⟩) (by assumption) ?rest4
      case hy4 => ((intro w hSw; (try dsimp only at hSw); go_simp) <;> with_reducible rfl)
      case' rest4 => try simp only [List.getElem_toArray, List.getElem_cons_zero, List.getElem_cons_succ, Act.put, List.setIfInBounds_toArray, List.set_cons_zero, List.set_cons_succ]
      refine wpAnyH_take (i := 3) (oi := _) (v := ?v5) rfl (by kernel_rfl) (by kernel_rfl) (by kernel_rfl) (fun _ _ _ h => h) (Or.inl ⟨by rfl, ?hy5⟩) (by assumption) ?rest5
      case hy5 => ((intro w hSw; (try dsimp only at hSw); go_simp) <;> with_reducible rfl)
      case' rest5 => try simp only [List.getElem_toArray, List.getElem_cons_zero, List.getElem_cons_succ, Act.put, List.setIfInBounds_toArray, List.set_cons_zero, List.set_cons_succ]
      refine wpAnyH_take (i := 4) (oi := _) (v := ?v6) rfl (by kernel_rfl) (by kernel_rfl) (by kernel_rfl) (fun _ _ _ h => h) (Or.inl ⟨by rfl, ?hy6⟩) (by assumption) ?rest6
      case hy6 => ((intro w hSw; (try dsimp only at hSw); go_simp) <;> with_reducible rfl)
      case' rest6 => try simp only [List.getElem_toArray, List.getElem_cons_zero, List.getElem_cons_succ, Act.put, List.setIfInBounds_toArray, List.set_cons_zero, List.set_cons_succ]
      refine wpAnyH_take (i := 5) (oi := _) (v := ?v7) rfl (by kernel_rfl) (by kernel_rfl) (by kernel_rfl) (fun _ _ _ h => h) (Or.inl ⟨by rfl, ?hy7⟩) (by assumption) ?rest7
      case hy7 => ((intro w hSw; (try dsimp only at hSw); go_simp) <;> with_reducible rfl)
      case' rest7 => try simp only [List.getElem_toArray, List.getElem_cons_zero, List.getElem_cons_succ, Act.put, List.setIfInBounds_toArray, List.set_cons_zero, List.set_cons_succ]
      refine wpAnyH_take (i := 6) (oi := _) (v := ?v8) rfl (by kernel_rfl) (by kernel_rfl) (by kernel_rfl) (fun _ _ _ h => h) (Or.inl ⟨by rfl, ?hy8⟩) (by assumption) ?rest8
      case hy8 => ((intro w hSw; (try dsimp only at hSw); go_simp) <;> with_reducible rfl)
      case' rest8 => try simp only [List.getElem_toArray, List.getElem_cons_zero, List.getElem_cons_succ, Act.put, List.setIfInBounds_toArray, List.set_cons_zero, List.set_cons_succ]
      refine wpAnyH_take (i := 7) (oi := _) (v := ?v9) rfl (by kernel_rfl) (by kernel_rfl) (by kernel_rfl) (fun _ _ _ h => h) (Or.inl ⟨by rfl, ?hy9⟩) (by assumption) ?rest9
      case hy9 => ((intro w hSw; (try dsimp only at hSw); go_simp) <;> with_reducible rfl)
      case' rest9 => try simp only [List.getElem_toArray, List.getElem_cons_zero, List.getElem_cons_succ, Act.put, List.setIfInBounds_toArray, List.set_cons_zero, List.set_cons_succ]
      refine wpAnyH_ready (rs := [8]) (by kernel_rfl) (by simp) ?_
      refine AllReadyH.cons (o := _) rfl (fun K hK => ?_) AllReadyH.nil
      go_simp
      refine (same_yes E Aj Aj' E.df.length cj E.df.length cj' _ rfl rfl S1.out.drew S2.out.drew).mono ?_
      rintro e w2 ⟨rfl, hb2⟩
      dsimp only
      refine hK.out _ _ ?hS12 (fun hHeld => ?rest12)
      case hS12 => ((try dsimp only); (((try go_split_ands); refine sn_of ?_; repeat' (first | with_reducible assumption | with_reducible exact Below.refl _ _ | with_reducible apply below_alloc | with_reducible apply below_drew1 | with_reducible apply below_drewN | (with_reducible apply below_step; with_reducible assumption) | (with_reducible apply below_sg2; (first | exact Nat.le_refl _ | (simp; done) | omega))))))
      case' rest12 => (clear hK K; try simp only [List.getElem_toArray, List.getElem_cons_zero, List.getElem_cons_succ, Act.put, List.setIfInBounds_toArray, List.set_cons_zero, List.set_cons_succ])
      refine wpAnyH_take (i := 9) (oi := _) (v := ?v13) rfl (by kernel_rfl) (by kernel_rfl) (by kernel_rfl) (fun _ _ _ h => h) (Or.inl ⟨by rfl, ?hy13⟩) (by assumption) ?rest13
      case hy13 => ((intro w hSw; (try dsimp only at hSw); go_simp) <;> with_reducible rfl)
      case' rest13 => try simp only [List.getElem_toArray, List.getElem_cons_zero, List.getElem_cons_succ, Act.put, List.setIfInBounds_toArray, List.set_cons_zero, List.set_cons_succ]
      refine wpAnyH_done (by kernel_rfl) ?_ _
      have hEnd := hHeld.2
      repeat (clear hHeld)
      go_wp2_with fail
      go_roundw
      case rel => exact ⟨k + 1, by omega, by go_num, below_step hEnd hbr⟩
      case measure => simp [intOf]; omega
    · go_wp2_with fail
      go_ret
      exact ⟨rfl, hbr⟩
def LentR (L : List Ent) (w : World) (e : Ending) (w' : World) : Prop :=
  ∃ A n c ds, e = .returned (.slice A n c) ∧ OwnE w' (fun g => w.heap.size ≤ g) A n c L ds ∧ Apart ds ∧ Below w.heap.size w w'
theorem ents_lent (A : Option Addr) (n c : Nat) (L : List Ent) (w : World) (hn : n = L.length) (hl : n ≤ 1000) (hL : SlE w A L) (hf : ∀ E ∈ L, fitE E) :
    Calls Try.prog 27 #[.slice A n c] w (LentR L w) := by
  have HN := hide hn
  have HL := hide hL
  have HF := hide hf
  clear hn hL hf
  go_enter Try.func27, Try.ntmps27
  go_wp2_with fail
  go_loopw [3, 4] (fun o i wr => ∃ k A' c' ds', k ≤ n ∧ i = .int .i64 (k : Nat) ∧ o = .slice A' k c' ∧ Hid (OwnE wr (fun g => w.heap.size ≤ g) A' k c' (L.take k) ds' ∧ Apart ds') ∧ Below w.heap.size w wr) (fun _ i _ => n - (intOf i).toNat)
  case atStart => exact ⟨0, none, 0, [], by omega, rfl, rfl, hide ⟨OwnF.nil _ _, Apart.nil⟩, Below.refl _ _⟩
  case round =>
    obtain ⟨k, A', c', ds', hk, rfl, rfl, HO, hbr⟩ := hrel
    by_cases hlt : k < n
    · obtain ⟨E, hE⟩ : ∃ E, L[k]? = some E := ⟨L[k]'(by rw [← HN.out]; exact hlt), List.getElem?_eq_getElem _⟩
      obtain ⟨b, off, Aj, cj, rfl, ⟨c0, c1, c2, c3, c4, c5, c6, c7, c8, c9, c10⟩, _, hs1⟩ := (HL.out.below hbr) k E hE
      have z1 := lt_of_cell c0
      simp only [] at z1
      obtain ⟨i1, i2, i3⟩ := idx_at hlt
      have S1 := hide hs1
      have HT := hide (take_snoc hE)
      have HFE := hide (HF.out E (List.mem_of_getElem? hE))
      clear hE hs1
      go_wp2_with fail
      refine (rent_lent E Aj E.df.length cj _ rfl HFE.out.1 S1.out).mono ?_
      rintro e w2 ⟨A3, c3', rfl, hO3, hb3⟩
      clear c0 c1 c2 c3 c4 c5 c6 c7 c8 c9 c10
      have HO3 := hide hO3
      have hfi := hide hO3.own.fin
      have hz5 := hbr.size
      have hb4 := below_alloc hb3 (.cells (entV E A3 E.df.length c3') 39)
      have hz6 := (below_step hb4 hbr).size
      unfold entV at hb4 hz6 ⊢
      go_wp2_with (at_builtin; refine app_f _ rfl _ _ 22 rfl entF_len entF_one (by decide) (info_parts infoE).choose _ 104 Try.underlying22 (info_parts infoE).choose_spec.1 (info_parts infoE).choose_spec.2.1 (info_parts infoE).choose_spec.2.2.1 (info_parts infoE).choose_spec.2.2.2 rfl (by omega) (by omega) A' k c' (L.take k) ds' rfl (HO.out.1.below hb4) E (A3, c3') _ rfl (by exact (Blk.new _ _ _).sl) ((HO3.out.alloc _).mono (Nat.zero_le _)) (hfi.out.mono (fun g h => Nat.le_trans hz5 h.1)) (fun g h => Nat.le_trans hz6 h) (by omega) (k + 1) rfl ?_; intro A4 c4 w4 hO4 hg4 hr4)
      have hO4' := hO4
      rw [← HT.out] at hO4'
      have hap : Apart (ds' ++ [(A3, c3')]) := HO.out.2.snoc (N := wr.heap.size) HO.out.1.dlt (hfi.out.mono (fun g h => h.1))
      have HO4 := hide (And.intro hO4' hap)
      have hb7 := below_step hb4 hbr
      have hb6 : Below w.heap.size w w4 := hb7.grown hg4 hb7.size (fun q hq => by
        rcases HO.out.1.own.shape with ⟨h1, _⟩ | ⟨g', h1, _, _⟩
        · rw [h1] at hq; cases hq
        · have := HO.out.1.inF g' h1
          rw [h1] at hq
          simp [Value.ownBlock] at hq
          omega)
      go_roundw
      case rel => exact ⟨k + 1, A4, c4, _, by omega, by go_num, by rfl, HO4, hb6⟩
      case measure => simp [intOf]; omega
    · go_wp2_with fail
      go_ret
      have hkn : k = n := by omega
      refine ⟨_, _, _, ds', rfl, ?_, HO.out.2, hbr⟩
      have h1 := HO.out.1
      rw [List.take_of_length_le (by rw [hkn, HN.out]; exact Nat.le_refl _)] at h1
      exact h1
end Go.Proofs.Ytabgdfbiocoimaa
