/- Package wheelhouseref18: Of. -/
import Derived.Test.YtehabbnohoomjaaGreatDoorC01
import Derived.Test.YtehabbnohoomjaaGreatDoorC49
import Derived.Test.YtehabbnohoomjaaGreatDoorC33
import Derived.Test.YtehabbnohoomjaaGreatDoorC24
namespace Go.Proofs.YtehabbnohoomjaaGreatDoor
section
set_option linter.unusedVariables false
set_option linter.unusedSimpArgs false
set_option linter.unnecessarySimpa false
open Go.RowKit
set_option maxRecDepth 100000
set_option maxHeartbeats 4000000
section
variable {F : Nat → Prop} {p n cl cv : Nat} {Al Av : Option Addr} {L : List Ent} {V : List (List UInt8)} {ds es : List (Option Addr × Nat)}
theorem rsnap_of (gr : Int) (w : World) (hD : DB 112 w F p Al n cl Av cv L V ds es) (hn : n ≤ 1000) (hI : ∀ E ∈ L, I64 E.ix) :
    Calls Tryz.prog 27 #[.pointer (some ⟨p, 0, none⟩), .int .i64 gr] w (OfR (ofV L V gr) w) := by
  have HD := hide hD
  have HN := hide hD.ents.hn
  have HNV := hide hD.vals.hn
  have HLV := hide hD.lenV
  have HI := hide hI
  have hB := hD.blk
  have zp := hB.lt
  obtain ⟨R, hR⟩ : ∃ R, R = OfR (ofV L V gr) w := ⟨_, rfl⟩
  rw [← hR]
  have HR := hide hR
  clear hD hI hR
  obtain ⟨hB_c0, hB_c1⟩ := cel2 hB
  have hB_f := hB.frozen
  go_enter Tryz.func27, Tryz.ntmps27
  go_wp2_with fail
  go_loopw [5, 6] (fun o i wr => ∃ k A' m c' ds', k ≤ n ∧ m ≤ k ∧ i = .int .i64 (k : Nat) ∧ o = .slice A' m c' ∧ Hid (OwnSV wr (fun g => w.heap.size ≤ g) A' m c' (ofV (L.take k) (V.take k) gr) ds') ∧ Below w.heap.size w wr) (fun _ i _ => n - (intOf i).toNat)
  case atStart => exact ⟨0, none, 0, 0, [], by omega, by omega, rfl, rfl, hide (OwnF.nil _ _), Below.refl _ _⟩
  case round =>
    obtain ⟨k, A', m, c', ds', hk, hmk, rfl, rfl, HO, hbr⟩ := hrel
    have hBr := hB.below hbr zp
    obtain ⟨hBr_c0, hBr_c1⟩ := cel2 hBr
    have hBr_f := hBr.frozen
    by_cases hlt : k < n
    · obtain ⟨E, hE⟩ : ∃ E, L[k]? = some E := ⟨L[k]'(by rw [← HN.out]; exact hlt), List.getElem?_eq_getElem _⟩
      obtain ⟨v, hv⟩ : ∃ v, V[k]? = some v := ⟨V[k]'(by rw [← HNV.out]; exact hlt), List.getElem?_eq_getElem _⟩
      obtain ⟨g, d, hAl, zg, _, _, _, c0, c1, _, _, _, _, c6, _, _, _, _⟩ := HD.out.ent hE
      obtain ⟨gv, dv, hAv, zv, _, hOv, hfit, cv0, _, _⟩ := HD.out.val hv
      subst hAl hAv
      have HT := hide (show ofV (L.take (k + 1)) (V.take (k + 1)) gr = ofV (L.take k) (V.take k) gr ++ (if E.st = true ∧ inE E.ix gr = true then [⟨E.ix, E.sub, v⟩] else []) by
        obtain ⟨h1, h2⟩ := List.getElem?_eq_some_iff.1 hE
        obtain ⟨h3, h4⟩ := List.getElem?_eq_some_iff.1 hv
        rw [List.take_succ_eq_append_getElem h1, List.take_succ_eq_append_getElem h3, h2, h4]
        exact ofV_snoc _ _ _ _ _ (by simp [HLV.out]))
      have HSv := hide (hOv.sl.below hbr)
      have HF := hide hfit
      have HIN := hide (fun W => rsnap_in E.ix gr W (HI.out E (List.mem_of_getElem? hE)))
      obtain ⟨i1, i2, i3⟩ := idx_at hlt
      obtain ⟨bi, hbi⟩ : ∃ bi, bi = inE E.ix gr := ⟨_, rfl⟩
      rw [← hbi] at HIN HT
      have r0 := (hbr.cell (lt_of_cell c0)).trans c0
      have r6 := (hbr.cell (lt_of_cell c6)).trans c6
      clear hE hv hOv hfit hbi
      cases hst : E.st
      · rw [hst] at r6 c6 HT
        go_wp2_with fail
        go_roundw
        case rel => exact ⟨k + 1, A', m, c', ds', by omega, by omega, by go_num, rfl, hide (by rw [HT.out]; simpa using HO.out), hbr⟩
        case measure => simp [intOf]; omega
      · rw [hst] at r6 c6 HT
        cases bi
        · go_wp2_with fail
          refine (HIN.out _).mono ?_
          rintro e w1 ⟨rfl, hb1⟩
          go_wp2_with fail
          go_roundw
          case rel => exact ⟨k + 1, A', m, c', ds', by omega, by omega, by go_num, rfl, hide (by rw [HT.out]; simpa using HO.out.below hb1), below_step hb1 hbr⟩
          case measure => simp [intOf]; omega
        · go_wp2_with fail
          refine (HIN.out _).mono ?_
          rintro e w1 ⟨rfl, hb1⟩
          have hbr1 := below_step hb1 hbr
          have HO1 := hide (HO.out.below hb1)
          have HSv1 := hide (HSv.out.below hb1)
          clear hBr hb1 r0 r6 hBr_c0 hBr_c1
          go_wp2_with fail
          refine wp_region_held_drew (S := (fun w' => (∀ qA : Addr, qA.block < (w).heap.size → w'.cell? qA = (w).cell? qA) ∧ Below (w).heap.size (w) w')) (by kernel_rfl) ?hS1 (fun hHeld => ?rest1)
          case hS1 => ((try dsimp only); (((try go_split_ands); refine sn_of ?_; repeat' (first | with_reducible assumption | with_reducible exact Below.refl _ _ | with_reducible apply below_alloc | with_reducible apply below_drew1 | with_reducible apply below_drewN | (with_reducible apply below_step; with_reducible assumption) | (with_reducible apply below_sg2; (first | exact Nat.le_refl _ | (simp; done) | omega))))))
          case' rest1 => skip
          refine tkH 0 ?_
          try simp only [PqL, Act.put]
          refine tkH 1 ?_
          try simp only [PqL, Act.put]
          refine tkH 2 ?_
          try simp only [PqL, Act.put]
          refine tkH 3 ?_
          try simp only [PqL, Act.put]
          refine tkH 4 ?_
          try simp only [PqL, Act.put]
          refine tkH 5 ?_
          try simp only [PqL, Act.put]
          refine tkH 6 ?_
          try simp only [PqL, Act.put]
          refine tkH 7 ?_
          try simp only [PqL, Act.put]
          refine tkH 8 ?_
          try simp only [PqL, Act.put]
          refine tkH 9 ?_
          try simp only [PqL, Act.put]
          refine tkH 10 ?_
          try simp only [PqL, Act.put]
          refine tkH 11 ?_
          try simp only [PqL, Act.put]
          refine tkH 12 ?_
          try simp only [PqL, Act.put]
          refine tkH 13 ?_
          try simp only [PqL, Act.put]
          refine tkH 14 ?_
          try simp only [PqL, Act.put]
          refine tkH 15 ?_
          try simp only [PqL, Act.put]
          refine tkH 16 ?_
          try simp only [PqL, Act.put]
          refine tkH 17 ?_
          try simp only [PqL, Act.put]
          refine tkH 18 ?_
          try simp only [PqL, Act.put]
          refine tkH 19 ?_
          try simp only [PqL, Act.put]
          refine tkH 20 ?_
          try simp only [PqL, Act.put]
          refine tkH 21 ?_
          try simp only [PqL, Act.put]
          refine tkH 22 ?_
          try simp only [PqL, Act.put]
          refine tkH 23 ?_
          try simp only [PqL, Act.put]
          refine wpAnyH_ready (rs := [24]) (by kernel_rfl) (by simp) ?_
          refine AllReadyH.cons (o := _) rfl (fun K hK => ?_) AllReadyH.nil
          go_simp
          refine (join_nil dv.1 v.length dv.2 v _ rfl HF.out HSv1.out.drew).mono ?_
          rintro e w2 ⟨A3, c3, rfl, hO3, hb3⟩
          dsimp only
          refine hK.out _ _ ?hS28 (fun hHeld => ?rest28)
          case hS28 => ((try dsimp only); (((try go_split_ands); refine sn_of ?_; repeat' (first | with_reducible assumption | with_reducible exact Below.refl _ _ | with_reducible apply below_alloc | with_reducible apply below_drew1 | with_reducible apply below_drewN | (with_reducible apply below_step; with_reducible assumption) | (with_reducible apply below_sg2; (first | exact Nat.le_refl _ | (simp; done) | omega))))))
          case' rest28 => (clear hK K; try simp only [PqL, Act.put])
          refine tkH 25 ?_
          try simp only [PqL, Act.put]
          refine wpAnyH_ready (rs := [26]) (by kernel_rfl) (by simp) ?_
          refine AllReadyH.cons (o := _) rfl (fun K hK => ?_) AllReadyH.nil
          go_simp
          refine hK.out _ _ ?hS32 (fun hHeld => ?rest32)
          case hS32 => ((try dsimp only); (((try go_split_ands); refine sn_of ?_; repeat' (first | with_reducible assumption | with_reducible exact Below.refl _ _ | with_reducible apply below_alloc | with_reducible apply below_drew1 | with_reducible apply below_drewN | (with_reducible apply below_step; with_reducible assumption) | (with_reducible apply below_sg2; (first | exact Nat.le_refl _ | (simp; done) | omega))))))
          case' rest32 => (clear hK K; try simp only [PqL, Act.put])
          have hb4 : Below w1.heap.size w1 w2 := ⟨hb3.os, hb3.tape, hb3.output, hb3.size, hb3.block⟩
          have hb5 := below_alloc hb4 (.cells #[.int .i64 E.ix, .int .i64 E.sub, .slice A3 v.length c3] 52)
          have hz5 := hbr1.size
          have hz6 := hb4.size
          refine wpAnyH_ready (rs := [27]) (by kernel_rfl) (by simp) ?_
          refine AllReadyH.cons (o := _) rfl (fun K hK => ?_) AllReadyH.nil
          rw [if_pos (show Region.wanted _ _ = true by kernel_rfl)]
          refine wp_app_f (f := svF) (k := 3) (e := 52) (dat := SV.data) (F := fun g => w.heap.size ≤ g) _ _ 27 rfl svF_len svF_one (by decide) 40 _ Tryz.underlying27 infoSV rfl (by omega) (by omega) A' m c' (ofV (L.take k) (V.take k) gr) ds' rfl (HO1.out.below hb5) ⟨E.ix, E.sub, v⟩ (A3, c3) _ rfl (by exact (Blk.new _ _ _).sl) ((hO3.alloc _).mono (Nat.zero_le _)) (hO3.own.fin.mono (fun g h => Nat.le_trans hz5 h.1)) (fun g h => by simp at h; omega) (by omega) ?_
          intro A4 c4 w4 hO4 hg4 hr4
          have HO4 := hide hO4
          have hb7 : Below w.heap.size w (w2.alloc (.cells #[.int .i64 E.ix, .int .i64 E.sub, .slice A3 v.length c3] 52)) := below_step hb5 hbr1
          have hb6 : Below w.heap.size w w4 := hb7.grown hg4 hb7.size (fun q hq => by
            rcases HO1.out.own.shape with ⟨h1, _⟩ | ⟨g', h1, _, _⟩
            · rw [h1] at hq; cases hq
            · have := HO1.out.inF g' h1
              rw [h1] at hq
              simp [Value.ownBlock] at hq
              omega)
          clear hO4 hb7 hO3
          refine hK.out _ _ ?hS35 (fun hHeld => ?rest35)
          case hS35 => ((try dsimp only); (((try go_split_ands); refine sn_of ?_; repeat' (first | with_reducible assumption | with_reducible exact Below.refl _ _ | with_reducible apply below_alloc | with_reducible apply below_drew1 | with_reducible apply below_drewN | (with_reducible apply below_step; with_reducible assumption) | (with_reducible apply below_sg2; (first | exact Nat.le_refl _ | (simp; done) | omega))))))
          case' rest35 => (clear hK K; try simp only [PqL, Act.put])
          refine tkH 28 ?_
          try simp only [PqL, Act.put]
          refine wpAnyH_done (by kernel_rfl) ?_ _
          have hEnd := hHeld.2
          repeat (clear hHeld)
          go_wp2_with fail
          go_roundw
          case rel => exact ⟨k + 1, A4, m + 1, c4, _, by omega, by omega, by go_num, by go_num, hide (by rw [HT.out]; simpa using HO4.out), hb6⟩
          case measure => simp [intOf]; omega
    · have hkn : k = n := by omega
      have HKN := hide hkn
      clear hkn
      go_wp2_with fail
      rw [HR.out]
      refine ⟨_, _, _, ds', rfl, ?_, hbr⟩
      have h1 := HO.out
      rw [List.take_of_length_le (by rw [HKN.out, HN.out]; exact Nat.le_refl _), List.take_of_length_le (by rw [HKN.out, HNV.out]; exact Nat.le_refl _)] at h1
      exact h1
end
end
end Go.Proofs.YtehabbnohoomjaaGreatDoor
namespace Go.Proofs.YtehabbnohoomjaaGreatDoor
section
set_option linter.unusedVariables false
set_option linter.unusedSimpArgs false
set_option linter.unnecessarySimpa false
open Go.RowKit
set_option maxRecDepth 20000
set_option maxHeartbeats 1000000

theorem rsnap_ahead (i s j t : Int) (d d' : Value) (w : World) :
    Calls Tryz.prog 68 #[.agg #[.int .i64 i, .int .i64 s, d], .agg #[.int .i64 j, .int .i64 t, d']] w
      fun e w' => e = .returned (.bool (aheadB i s j t)) ∧ Below w.heap.size w w' := by
  have fin : ∀ b, b = aheadB i s j t → Ending.returned (.bool b) = .returned (.bool (aheadB i s j t)) := fun b h => by rw [h]
  by_cases h1 : i < j
  · go_enter Tryz.func68, Tryz.ntmps68
    go_wp2
    go_ret
    exact ⟨fin _ (by simp [aheadB]; omega), below_alloc (below_alloc (Below.refl _ _) _) _⟩
  · by_cases h2 : i = j
    · subst h2
      go_enter Tryz.func68, Tryz.ntmps68
      go_wp2
      go_ret
      exact ⟨fin _ (by simp [aheadB]), below_alloc (below_alloc (Below.refl _ _) _) _⟩
    · have h2' : (i == j) = false := by simpa using h2
      have HF := hide (show false = aheadB i s j t by simp [aheadB]; omega)
      clear h2
      go_enter Tryz.func68, Tryz.ntmps68
      go_wp2
      go_ret
      exact ⟨fin _ HF.out, below_alloc (below_alloc (Below.refl _ _) _) _⟩
end
end Go.Proofs.YtehabbnohoomjaaGreatDoor
