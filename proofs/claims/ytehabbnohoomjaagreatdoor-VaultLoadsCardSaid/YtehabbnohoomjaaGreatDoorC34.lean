/- Package dict: New. -/
import Derived.Test.YtehabbnohoomjaaGreatDoorC01
import Derived.Test.YtehabbnohoomjaaGreatDoorC32
import Derived.Deep.DeepCutAuto
namespace Go.Proofs.YtehabbnohoomjaaGreatDoor
section
set_option linter.unusedVariables false
set_option linter.unusedSimpArgs false
set_option linter.unnecessarySimpa false
open Go.RowKit
set_option maxRecDepth 100000
set_option maxHeartbeats 4000000
def NewR (L : List Ent) (w : World) (e : Ending) (w' : World) : Prop :=
  ∃ v er at_, e = .returned (.tuple #[v, .int .i64 er, .int .i64 at_]) ∧ NewP L er at_ ∧ (er ≠ 0 → v = .pointer none) ∧
    (er = 0 → ∃ p gl n cl Av cv ds es, v = .pointer (some ⟨p, 0, none⟩) ∧ n = L.length ∧ DB 102 w' (fun g => w.heap.size ≤ g) p (some ⟨gl, 0, none⟩) n cl Av cv L (L.map Ent.df) ds es) ∧ Below w.heap.size w w'
theorem dict_new (A : Option Addr) (n c : Nat) (L : List Ent) (w : World) (hn : n = L.length) (hL : SlE w A L) (hf : ∀ E ∈ L, fitE E) :
    Calls Tryz.prog 18 #[.slice A n c] w (NewR L w) := by
  have HN := hide hn
  have HL := hide hL
  have HF := hide hf
  by_cases hbig : 96 < n
  · clear hn hL hf
    go_enter Tryz.func18, Tryz.ntmps18
    go_wp2_with fail
    go_ret3
    exact ⟨_, _, _, rfl, .inl ⟨by rw [← HN.out]; exact hbig, rfl, rfl⟩, fun _ => rfl, fun h => by omega, Below.refl _ _⟩
  have q := blk_two w 55 102 #[] #[.slice (some ⟨w.heap.size, 0, none⟩) 0 0, .slice none 0 0]
  have hbw := below_alloc (below_alloc (Below.refl w.heap.size w) (.cells #[] 55)) (.cells #[.slice (some ⟨w.heap.size, 0, none⟩) 0 0, .slice none 0 0] 102)
  have HDC : Hid (DB 102 ((w.alloc (.cells #[] 55)).alloc (.cells #[.slice (some ⟨w.heap.size, 0, none⟩) 0 0, .slice none 0 0] 102)) (fun g => w.heap.size ≤ g) (w.heap.size + 1) (some ⟨w.heap.size, 0, none⟩) 0 0 none 0 (L.take 0) ((L.take 0).map Ent.df) [] []) :=
    hide ⟨q.2, Nat.le_succ _, OwnF.empty q.1 (Nat.le_refl _), OwnF.nil _ _, by simp, by simp⟩
  clear hn hL hf q
  go_enter Tryz.func18, Tryz.ntmps18
  go_wp2_with fail
  go_loopw [17] (fun i wr => ∃ k ga cl' Av' cv' ds' es', k ≤ n ∧ i = .int .i64 (k : Nat) ∧ Hid (DB 102 wr (fun g => w.heap.size ≤ g) (w.heap.size + 1) (some ⟨ga, 0, none⟩) k cl' Av' cv' (L.take k) ((L.take k).map Ent.df) ds' es') ∧ Hid (∀ j, j < k → chkE L j = 0) ∧ Below w.heap.size w wr) (fun i _ => n - (intOf i).toNat)
  case atStart => exact ⟨0, _, _, _, _, _, _, by omega, rfl, HDC, hide (by intro j h; omega), hbw⟩
  case round =>
    clear HDC hbw
    obtain ⟨k, ga, cl', Av', cv', ds', es', hk, rfl, HC, HK, hbr⟩ := hrel
    by_cases hlt : k < n
    · obtain ⟨E, hE⟩ : ∃ E, L[k]? = some E := ⟨L[k]'(by rw [← HN.out]; exact hlt), List.getElem?_eq_getElem _⟩
      obtain ⟨b, off, Aj, cj, rfl, ⟨c0, c1, c2, c3, c4, c5, c6, c7, c8, c9, c10⟩, hcj, hsj⟩ := HL.out.two hbr hE
      have HE := hide hE
      have HFE := hide (HF.out E (List.mem_of_getElem? hE))
      have HCJ := hide hcj
      have HSK := hide (hsj.below hbr)
      have HSW := hide hsj
      have HT1 := hide (take_snoc hE)
      have HT2 : Hid ((L.take (k + 1)).map Ent.df = (L.take k).map Ent.df ++ [E.df]) := hide (by rw [take_snoc hE, List.map_append]; rfl)
      have HSJ := hide ((hsj.below hbr).alloc (.cells (entV E Aj E.df.length cj) 55))
      obtain ⟨i1, i2, i3⟩ := idx_at hlt
      have q := blk_one wr 55 (entV E Aj E.df.length cj)
      have hb0 := below_alloc (Below.refl wr.heap.size wr) (.cells (entV E Aj E.df.length cj) 55)
      have HQE := hide q
      clear hE hcj hsj
      unfold entV at q hb0
      go_wp2_with fail
      clear c0 c1 c2 c3 c4 c5 c6 c7 c8 c9 c10
      obtain ⟨q_c0, q_c1, q_c2, q_c3, q_c4, q_c5, q_c6, q_c7, q_c8, q_c9, q_c10⟩ := cel11 q
      have q_f := q.frozen
      go_wp2_with fail
      refine (ent_right E Aj E.df.length cj _ rfl HCJ.out HFE.out.1 HFE.out.2 HSJ.out).mono ?_
      rintro e w1 ⟨rfl, hb1⟩
      clear q_c0 q_c1 q_c2 q_c3 q_c4 q_c5 q_c6 q_c7 q_c8 q_c9 q_c10 q_f
      have hb1' := below_step hb1 hb0
      by_cases hr : rightE E = 0
      · have HR := hide hr
        have k1 := hide (HQE.out.below hb1 HQE.out.lt)
        rw [hr]
        clear hr
        go_wp2_with fail
        go_cut [39] (fun s wx => ∃ bb : Bool, s = .bool bb ∧ Hid (chkE L k = if bb = true then 16 else 0) ∧ Below wr.heap.size wr wx ∧ Hid (Blk wx wr.heap.size 55 (entV E Aj E.df.length cj)))
        case first =>
          rcases (show k = 0 ∨ 1 ≤ k by omega) with hk0 | hk0
          · have HC0 : Hid (chkE L k = 0) := hide (chk_zero HE.out HR.out hk0)
            have hk1 : (k : Int) = 0 := by omega
            refine wp_region_held_drew (S := (fun w' => (∀ qA : Addr, qA.block < (w1).heap.size → w'.cell? qA = (w1).cell? qA) ∧ Below (w1).heap.size (w1) w')) (by kernel_rfl) ?hS1 (fun hHeld => ?rest1)
            case hS1 => ((try dsimp only); (((try go_split_ands); refine sn_of ?_; repeat' (first | with_reducible assumption | with_reducible exact Below.refl _ _ | with_reducible apply below_alloc | with_reducible apply below_drew1 | with_reducible apply below_drewN | (with_reducible apply below_step; with_reducible assumption) | (with_reducible apply below_sg2; (first | exact Nat.le_refl _ | (simp; done) | omega))))))
            case' rest1 => skip
            refine tkH 0 ?_
            try simp only [PqL, Act.put]
            refine tkH 1 ?_
            try simp only [PqL, Act.put]
            refine tkH 2 ?_
            try simp only [PqL, Act.put]
            refine wpAnyH_take (i := 3) (oi := _) (v := undef) rfl (by kernel_rfl) (by kernel_rfl) (by kernel_rfl) (fun _ _ _ h => h) (Or.inr ⟨by rfl, rfl⟩) (by assumption) ?rest5
            case' rest5 => try simp only [PqL, Act.put]
            refine wpAnyH_take (i := 4) (oi := _) (v := undef) rfl (by kernel_rfl) (by kernel_rfl) (by kernel_rfl) (fun _ _ _ h => h) (Or.inr ⟨by rfl, rfl⟩) (by assumption) ?rest6
            case' rest6 => try simp only [PqL, Act.put]
            refine wpAnyH_take (i := 5) (oi := _) (v := undef) rfl (by kernel_rfl) (by kernel_rfl) (by kernel_rfl) (fun _ _ _ h => h) (Or.inr ⟨by rfl, rfl⟩) (by assumption) ?rest7
            case' rest7 => try simp only [PqL, Act.put]
            refine wpAnyH_take (i := 6) (oi := _) (v := undef) rfl (by kernel_rfl) (by kernel_rfl) (by kernel_rfl) (fun _ _ _ h => h) (Or.inr ⟨by rfl, rfl⟩) (by assumption) ?rest8
            case' rest8 => try simp only [PqL, Act.put]
            refine wpAnyH_take (i := 7) (oi := _) (v := undef) rfl (by kernel_rfl) (by kernel_rfl) (by kernel_rfl) (fun _ _ _ h => h) (Or.inr ⟨by rfl, rfl⟩) (by assumption) ?rest9
            case' rest9 => try simp only [PqL, Act.put]
            refine wpAnyH_take (i := 8) (oi := _) (v := undef) rfl (by kernel_rfl) (by kernel_rfl) (by kernel_rfl) (fun _ _ _ h => h) (Or.inr ⟨by rfl, rfl⟩) (by assumption) ?rest10
            case' rest10 => try simp only [PqL, Act.put]
            refine wpAnyH_take (i := 9) (oi := _) (v := undef) rfl (by kernel_rfl) (by kernel_rfl) (by kernel_rfl) (fun _ _ _ h => h) (Or.inr ⟨by rfl, rfl⟩) (by assumption) ?rest11
            case' rest11 => try simp only [PqL, Act.put]
            refine wpAnyH_take (i := 10) (oi := _) (v := undef) rfl (by kernel_rfl) (by kernel_rfl) (by kernel_rfl) (fun _ _ _ h => h) (Or.inr ⟨by rfl, rfl⟩) (by assumption) ?rest12
            case' rest12 => try simp only [PqL, Act.put]
            refine tkH 11 ?_
            try simp only [PqL, Act.put]
            refine wpAnyH_done (by kernel_rfl) ?_ _
            have hEnd := hHeld.2
            repeat (clear hHeld)
            go_wp2_with fail
            go_meet
            case rel => exact ⟨false, rfl, hide (by rw [HC0.out]; rfl), hb1'.drew, k1⟩
          · obtain ⟨D, hDD⟩ : ∃ D, L[k - 1]? = some D := ⟨L[k - 1]'(by rw [← HN.out]; omega), List.getElem?_eq_getElem _⟩
            obtain ⟨b', off', Aj', cj', hAA, ⟨d0, d1, d2, d3, d4, d5, d6, d7, d8, d9, d10⟩, _, _⟩ := (HL.out.below (below_step hb1' hbr)) (k - 1) D hDD
            injection hAA with hAA
            injection hAA with hA1 hA2
            subst hA1
            subst hA2
            have HB : Hid (chkE L k = if befE D E.ix E.sub = true then 0 else 16) := hide (chk_bef HE.out hDD hk0 HR.out)
            have q2 := k1.out
            unfold entV at q2
            obtain ⟨q2_c0, q2_c1, q2_c2, q2_c3, q2_c4, q2_c5, q2_c6, q2_c7, q2_c8, q2_c9, q2_c10⟩ := cel11 q2
            have q2_f := q2.frozen
            have z1 := lt_of_cell d0
            have z2 := q2.lt
            simp only [] at z1
            obtain ⟨q1, q3, q4, q5, q6, q7, q8, q9, q10, q11, q12⟩ := idx_pred hk0 hk (by omega)
            clear hDD
            refine wp_region_held_drew (S := (fun w' => (∀ qA : Addr, qA.block < (w1).heap.size → w'.cell? qA = (w1).cell? qA) ∧ Below (w1).heap.size (w1) w')) (by kernel_rfl) ?hS15 (fun hHeld => ?rest15)
            case hS15 => ((try dsimp only); (((try go_split_ands); refine sn_of ?_; repeat' (first | with_reducible assumption | with_reducible exact Below.refl _ _ | with_reducible apply below_alloc | with_reducible apply below_drew1 | with_reducible apply below_drewN | (with_reducible apply below_step; with_reducible assumption) | (with_reducible apply below_sg2; (first | exact Nat.le_refl _ | (simp; done) | omega))))))
            case' rest15 => skip
            refine tkH 0 ?_
            try simp only [PqL, Act.put]
            refine tkH 1 ?_
            try simp only [PqL, Act.put]
            refine tkH 2 ?_
            try simp only [PqL, Act.put]
            refine tkH 3 ?_
            try simp only [PqL, Act.put]
            refine tkH 4 ?_
            try simp only [PqL, Act.put]
            refine tkH 5 ?_
            try simp only [PqL, Act.put]
            refine tkH 6 ?_
            try simp only [PqL, Act.put]
            refine tkH 7 ?_
            try simp only [PqL, Act.put]
            refine tkH 8 ?_
            try simp only [PqL, Act.put]
            refine wpAnyH_ready (rs := [9]) (by kernel_rfl) (by simp) ?_
            refine AllReadyH.cons (o := _) rfl (fun K hK => ?_) AllReadyH.nil
            go_simp
            refine (ent_before D E Aj' Aj D.df.length cj' E.df.length cj _).mono ?_
            rintro e w2 ⟨rfl, hb2⟩
            dsimp only
            refine hK.out _ _ ?hS27 (fun hHeld => ?rest27)
            case hS27 => ((try dsimp only); (((try go_split_ands); refine sn_of ?_; repeat' (first | with_reducible assumption | with_reducible exact Below.refl _ _ | with_reducible apply below_alloc | with_reducible apply below_drew1 | with_reducible apply below_drewN | (with_reducible apply below_step; with_reducible assumption) | (with_reducible apply below_sg2; (first | exact Nat.le_refl _ | (simp; done) | omega))))))
            case' rest27 => (clear hK K; try simp only [PqL, Act.put])
            refine tkH 10 ?_
            try simp only [PqL, Act.put]
            refine tkH 11 ?_
            try simp only [PqL, Act.put]
            refine wpAnyH_done (by kernel_rfl) ?_ _
            have hEnd := hHeld.2
            repeat (clear hHeld)
            have hb2' := below_step hEnd hb1'
            have k2 := hide (k1.out.below hEnd k1.out.lt)
            cases hbe : befE D E.ix E.sub
            · have hbe' : beforeB D.ix D.sub E.ix E.sub = false := hbe
              rw [hbe']
              have HC0 : Hid (chkE L k = 16) := hide (by rw [HB.out, hbe]; rfl)
              clear hbe hbe'
              go_wp2_with fail
              go_meet
              case rel => exact ⟨true, by rfl, hide (by rw [HC0.out]; rfl), hb2', k2⟩
            · have hbe' : beforeB D.ix D.sub E.ix E.sub = true := hbe
              rw [hbe']
              have HC0 : Hid (chkE L k = 0) := hide (by rw [HB.out, hbe]; rfl)
              clear hbe hbe'
              go_wp2_with fail
              go_meet
              case rel => exact ⟨false, by rfl, hide (by rw [HC0.out]; rfl), hb2', k2⟩
        case rest =>
          obtain ⟨bb, rfl, HB16, hwc, r1⟩ := hcut
          cases bb
          · go_wp2_with fail
            have hC0 : chkE L k = 0 := by rw [HB16.out]; rfl
            have HKN : Hid (∀ j, j < k + 1 → chkE L j = 0) := hide (fun j hj => by
              rcases Nat.lt_succ_iff_lt_or_eq.1 hj with h | h
              · exact HK.out j h
              · rw [h]; exact hC0)
            clear hC0 HB16
            have hBc := HC.out.blk.below hwc HC.out.blk.lt
            have rC := hide hBc
            have HSX := hide (HSK.out.below hwc)
            have q := r1.out
            unfold entV at q
            obtain ⟨q_c0, q_c1, q_c2, q_c3, q_c4, q_c5, q_c6, q_c7, q_c8, q_c9, q_c10⟩ := cel11 q
            have q_f := q.frozen
            obtain ⟨hBc_c0, hBc_c1⟩ := cel2 hBc
            have hBc_f := hBc.frozen
            refine wp_region_T (fun w' => (w'.cell? ⟨wr.heap.size, 0, none⟩ = some (.int .i64 E.ix) ∧ w'.cell? ⟨wr.heap.size, 1, none⟩ = some (.int .i64 E.sub) ∧ w'.cell? ⟨wr.heap.size, 2, none⟩ = some (.string E.nm) ∧ w'.cell? ⟨wr.heap.size, 3, none⟩ = some (.int .i64 E.ty) ∧ w'.cell? ⟨wr.heap.size, 4, none⟩ = some (.int .i64 E.acc) ∧ w'.cell? ⟨wr.heap.size, 5, none⟩ = some (.bool E.mp) ∧ w'.cell? ⟨wr.heap.size, 6, none⟩ = some (.bool E.st) ∧ w'.cell? ⟨wr.heap.size, 7, none⟩ = some (.int .i64 E.mx) ∧ w'.cell? ⟨wr.heap.size, 8, none⟩ = some (.int .i64 E.lo) ∧ w'.cell? ⟨wr.heap.size, 9, none⟩ = some (.int .i64 E.hi) ∧ w'.cell? ⟨wr.heap.size, 10, none⟩ = some (.slice Aj E.df.length cj)) ∧ w'.cell? ⟨w.heap.size + 1, 0, none⟩ = some (.slice (some ⟨ga, 0, none⟩) k cl')) [0, 1, 2, 3, 4, 5] (by kernel_rfl) ?hS31 (fun hHeld => ?rest31)
            case hS31 => ((try dsimp only); exact ⟨ec_of r1.out, hBc_c0⟩)
            case' rest31 => skip
            refine tkT 0 ?_
            try simp only [PqL, Act.put]
            refine tkT 1 ?_
            try simp only [PqL, Act.put]
            refine tkT 2 ?_
            try simp only [PqL, Act.put]
            refine tkT 3 ?_
            try simp only [PqL, Act.put]
            refine tkT 4 ?_
            try simp only [PqL, Act.put]
            refine tkT 5 ?_
            try simp only [PqL, Act.put]
            refine wpAnyT_one (i := 6) (o := _) rfl (by kernel_rfl) (fun K hK => ?_)
            go_simp
            refine (dict_held E Aj E.df.length cj _ rfl HFE.out.1 HSX.out.drew).mono ?_
            rintro e w2 ⟨A3, c3', rfl, hO3, hb3⟩
            dsimp only
            unfold entV
            replace hb3 := below_undrew hb3
            have k1 := hide (r1.out.below hb3 r1.out.lt)
            have k2 := hide (rC.out.below hb3 rC.out.lt)
            refine hK.out _ _ ?hS39 (fun hHeld => ?rest39)
            case hS39 => ((try dsimp only); (exact ⟨ec_of k1.out, k2.out.cell 0 rfl⟩))
            case' rest39 => (clear hK K; try simp only [PqL, Act.put])
            refine wpAnyT_one (i := 7) (o := _) rfl (by kernel_rfl) (fun K hK => ?_)
            go_simp
            refine hK.out _ _ ?hS41 (fun hHeld => ?rest41)
            case hS41 => ((try dsimp only); (exact ⟨ec_of (k1.out.alloc _), (k2.out.alloc _).cell 0 rfl⟩))
            case' rest41 => (clear hK K; try simp only [PqL, Act.put])
            have hb5 := below_alloc hb3 (.cells (entV E A3 E.df.length c3') 55)
            have hb7 := below_step hb5 hwc
            have hb8 := below_step hb7 hbr
            have hz5 := hbr.size
            have hz6 := hb7.size
            have hz7 := (below_step hwc hbr).size
            have k1' := hide (k1.out.alloc (.cells (entV E A3 E.df.length c3') 55))
            have k2' := hide (k2.out.alloc (.cells (entV E A3 E.df.length c3') 55))
            have zga := HC.out.ents.own.fin ga rfl
            unfold entV at hb5 hb7 hb8 k1' k2' hz6
            refine wpAnyT_one (i := 8) (o := _) rfl (by kernel_rfl) (fun K hK => ?_)
            rw [if_pos (show Region.wanted _ _ = true by kernel_rfl)]
            refine wp_app_f (f := entF) (k := 11) (e := 55) (dat := Ent.df) (F := fun g => w.heap.size ≤ g) _ _ 22 rfl entF_len entF_one (by decide) 104 _ Tryz.underlying22 infoE rfl (by omega) (by omega) (some ⟨ga, 0, none⟩) k cl' (L.take k) ds' rfl (HC.out.ents.below hb7) E (A3, c3') _ rfl (by exact (Blk.new _ _ _).sl) ((hO3.alloc _).mono (Nat.zero_le _)) (hO3.own.fin.mono (fun g h => Nat.le_trans hz7 h.1)) (fun g h => Nat.le_trans (Nat.le_trans hz5 hz6) h) (by omega) ?_
            intro A4 c4 w4 hO4 hg4 hr4
            obtain ⟨g4, rfl⟩ := some_row hr4
            have m1 := hide (k1'.out.grown hg4 (by simp [Value.ownBlock]; omega))
            have m2 := hide (k2'.out.grown hg4 (blk_own_ne k2'.out (HC.out.ents.below hb7).own (by decide)))
            have mV := hide ((HC.out.vals.below hb7).grownT hg4 (HC.out.ents.below hb7).own (by decide) (by decide))
            have mb : Below w.heap.size w w4 := hb8.grown hg4 hb8.size (fun q hq => by
              have h1 := HC.out.ents.inF ga rfl
              simp [Value.ownBlock] at hq
              omega)
            rw [← HT1.out] at hO4
            have mE := hide hO4
            clear hO4 hO3 hr4 k1 k2 k1' k2' hg4 hb5 hb7 hb8 hz6 hz7
            refine hK.out _ _ ?hS43 (fun hHeld => ?rest43)
            case hS43 => ((try dsimp only); (exact ⟨ec_of m1.out, m2.out.cell 0 rfl⟩))
            case' rest43 => (clear hK K; try simp only [PqL, Act.put])
            have m2c := m2.out.cell 0 rfl
            have m2f := m2.out.frozen 0
            refine wpAnyT_one (i := 9) (o := _) rfl (by kernel_rfl) (fun K hK => ?_)
            go_simp
            refine hK.out _ _ ?hS45 (fun hHeld => ?rest45)
            case hS45 => ((try dsimp only); (exact ⟨ec_of m1.out, m2.out.cell 0 rfl⟩))
            case' rest45 => (clear hK K; try simp only [PqL, Act.put])
            refine wpAnyT_one (i := 10) (o := _) rfl (by kernel_rfl) (fun K hK => ?_)
            go_simp
            refine hK.out _ _ ?hS47 (fun hHeld => ?rest47)
            case hS47 => ((try dsimp only); (exact ⟨ec_of m1.out, m2.out.cell 0 rfl⟩))
            case' rest47 => (clear hK K; try simp only [PqL, Act.put])
            refine wpAnyT_late (i := 11) (o := _) rfl (by kernel_rfl) (by kernel_rfl) (fun K hK => ?_)
            go_simp
            refine hK.out _ _ ?rest49
            case' rest49 => (clear hK K; try simp only [PqL, Act.put])
            refine wpAnyT_done (by kernel_rfl) ?_ _
            repeat (clear hHeld)
            clear m2c m2f
            clear q_c0 q_c1 q_c2 q_c3 q_c4 q_c5 q_c6 q_c7 q_c8 q_c9 q_c10 hBc_c0
            have n1 := hide (m1.out.far (p := ⟨w.heap.size + 1, 0, none⟩) (Nat.ne_of_gt HC.out.blk.lt) (.slice (some ⟨g4, 0, none⟩) (k + 1) c4))
            have n2 := hide (m2.out.set_ 0 (.slice (some ⟨g4, 0, none⟩) (k + 1) c4))
            have nE := hide (mE.out.setT m2.out (by decide) (by decide) 0 (.slice (some ⟨g4, 0, none⟩) (k + 1) c4))
            have nV := hide (mV.out.setT m2.out (by decide) (by decide) 0 (.slice (some ⟨g4, 0, none⟩) (k + 1) c4))
            have nb := below_set mb (p := ⟨w.heap.size + 1, 0, none⟩) (Nat.le_succ _) (.slice (some ⟨g4, 0, none⟩) (k + 1) c4)
            generalize hw5 : w4.setCell ⟨w.heap.size + 1, 0, none⟩ (.slice (some ⟨g4, 0, none⟩) (k + 1) c4) = w5 at *
            clear hw5 mE mV mb m1 m2 r1 rC
            go_wp2_with fail
            have n1_c10 := n1.out.cell 10 rfl
            have n2_c1 := n2.out.cell 1 rfl
            refine wp_region_T (fun w' => w'.cell? ⟨wr.heap.size, 10, none⟩ = some (.slice Aj E.df.length cj) ∧ w'.cell? ⟨w.heap.size + 1, 1, none⟩ = some (.slice Av' k cv')) [0, 1, 2, 3, 4, 5, 6] (by kernel_rfl) ?hS51 (fun hHeld => ?rest51)
            case hS51 => ((try dsimp only); exact ⟨n1.out.cell 10 rfl, n2.out.cell 1 rfl⟩)
            case' rest51 => skip
            refine tkT 0 ?_
            try simp only [PqL, Act.put]
            refine tkT 1 ?_
            try simp only [PqL, Act.put]
            refine tkT 2 ?_
            try simp only [PqL, Act.put]
            refine tkT 3 ?_
            try simp only [PqL, Act.put]
            refine tkT 4 ?_
            try simp only [PqL, Act.put]
            refine tkT 5 ?_
            try simp only [PqL, Act.put]
            refine tkT 6 ?_
            try simp only [PqL, Act.put]
            refine wpAnyT_one (i := 7) (o := _) rfl (by kernel_rfl) (fun K hK => ?_)
            go_simp
            refine (dict_own Aj E.df.length cj E.df _ rfl HFE.out.1 (HSW.out.below nb).drew).mono ?_
            rintro e w6 ⟨A5, c5, rfl, hO5, hb5⟩
            dsimp only
            replace hb5 := below_undrew hb5
            have o1 := hide (n1.out.below hb5 n1.out.lt)
            have o2 := hide (n2.out.below hb5 n2.out.lt)
            have ob := below_step hb5 nb
            have hz8 := nb.size
            have ofi := hO5.own.fin
            refine hK.out _ _ ?hS60 (fun hHeld => ?rest60)
            case hS60 => ((try dsimp only); (exact ⟨o1.out.cell 10 rfl, o2.out.cell 1 rfl⟩))
            case' rest60 => (clear hK K; try simp only [PqL, Act.put])
            have ob2 := below_alloc ob (.cells #[.slice A5 E.df.length c5] 23)
            have o1' := hide (o1.out.alloc (.cells #[.slice A5 E.df.length c5] 23))
            have o3 := hide (o2.out.alloc (.cells #[.slice A5 E.df.length c5] 23))
            have hb6 := below_alloc hb5 (.cells #[.slice A5 E.df.length c5] 23)
            refine wpAnyT_one (i := 8) (o := _) rfl (by kernel_rfl) (fun K hK => ?_)
            go_simp
            refine hK.out _ _ ?hS62 (fun hHeld => ?rest62)
            case hS62 => ((try dsimp only); (exact ⟨o1'.out.cell 10 rfl, o3.out.cell 1 rfl⟩))
            case' rest62 => (clear hK K; try simp only [PqL, Act.put])
            have hz9 := ob2.size
            refine wpAnyT_one (i := 9) (o := _) rfl (by kernel_rfl) (fun K hK => ?_)
            rw [if_pos (show Region.wanted _ _ = true by kernel_rfl)]
            refine wp_app_f (f := valF) (k := 1) (e := 23) (dat := fun v => v) (F := fun g => w.heap.size ≤ g) _ _ 100 rfl valF_len valF_one (by decide) 24 _ Tryz.underlying100 infoS rfl (by omega) (by omega) Av' k cv' ((L.take k).map Ent.df) es' rfl (nV.out.below hb6) E.df (A5, c5) _ rfl (by exact (Blk.new _ _ _).sl) ((hO5.alloc _).mono (Nat.zero_le _)) (ofi.mono (fun g h => Nat.le_trans hz8 h.1)) (fun g h => Nat.le_trans hz9 h) (by omega) ?_
            intro A6 c6 w7 hO6 hg6 hr6
            have p1 := hide (o1'.out.grown hg6 (blk_own_ne o1'.out (nV.out.below hb6).own (by decide)))
            have p2 := hide (o3.out.grown hg6 (blk_own_ne o3.out (nV.out.below hb6).own (by decide)))
            have pE := hide ((nE.out.below hb6).grownT hg6 (nV.out.below hb6).own (by decide) (by decide))
            have pb : Below w.heap.size w w7 := ob2.grown hg6 ob2.size (fun q hq => by
              rcases nV.out.own.shape with ⟨h1, _⟩ | ⟨g', h1, _, _⟩
              · rw [h1] at hq; cases hq
              · have := nV.out.inF g' h1
                rw [h1] at hq
                simp [Value.ownBlock] at hq
                omega)
            rw [← HT2.out] at hO6
            have pV := hide hO6
            clear hO6 hO5 hr6 hg6 ofi hb5 hb6 ob2 o1 o1' o2 o3 n1_c10 n2_c1
            refine hK.out _ _ ?hS64 (fun hHeld => ?rest64)
            case hS64 => ((try dsimp only); (exact ⟨p1.out.cell 10 rfl, p2.out.cell 1 rfl⟩))
            case' rest64 => (clear hK K; try simp only [PqL, Act.put])
            have p2c := p2.out.cell 1 rfl
            have p2f := p2.out.frozen 1
            refine wpAnyT_one (i := 10) (o := _) rfl (by kernel_rfl) (fun K hK => ?_)
            go_simp
            refine hK.out _ _ ?hS66 (fun hHeld => ?rest66)
            case hS66 => ((try dsimp only); (exact ⟨p1.out.cell 10 rfl, p2.out.cell 1 rfl⟩))
            case' rest66 => (clear hK K; try simp only [PqL, Act.put])
            refine wpAnyT_one (i := 11) (o := _) rfl (by kernel_rfl) (fun K hK => ?_)
            go_simp
            refine hK.out _ _ ?hS68 (fun hHeld => ?rest68)
            case hS68 => ((try dsimp only); (exact ⟨p1.out.cell 10 rfl, p2.out.cell 1 rfl⟩))
            case' rest68 => (clear hK K; try simp only [PqL, Act.put])
            refine wpAnyT_late (i := 12) (o := _) rfl (by kernel_rfl) (by kernel_rfl) (fun K hK => ?_)
            go_simp
            refine hK.out _ _ ?rest70
            case' rest70 => (clear hK K; try simp only [PqL, Act.put])
            refine wpAnyT_done (by kernel_rfl) ?_ _
            repeat (clear hHeld)
            have HC2 : Hid (DB 102 (w7.setCell ⟨w.heap.size + 1, 1, none⟩ (.slice A6 (k + 1) c6)) (fun g => w.heap.size ≤ g) (w.heap.size + 1) (some ⟨g4, 0, none⟩) (k + 1) c4 A6 c6 (L.take (k + 1)) ((L.take (k + 1)).map Ent.df) (ds' ++ [(A3, c3')]) (es' ++ [(A5, c5)])) :=
              hide ⟨p2.out.set_ 1 _, Nat.le_succ _, pE.out.setT p2.out (by decide) (by decide) 1 _, pV.out.setT p2.out (by decide) (by decide) 1 _, fun E hE => HF.out E (List.mem_of_mem_take hE), fun v hv => by
                obtain ⟨D, hD, rfl⟩ := List.mem_map.1 hv
                exact (HF.out D (List.mem_of_mem_take hD)).1⟩
            have pb2 := below_set pb (p := ⟨w.heap.size + 1, 1, none⟩) (Nat.le_succ _) (.slice A6 (k + 1) c6)
            clear p2c p2f
            go_wp2_with fail
            go_roundw
            case rel => exact ⟨k + 1, g4, c4, A6, c6, _, _, by omega, by go_num, HC2, HKN, pb2⟩
            case measure => simp [intOf]; omega
          · go_wp2_with fail
            go_ret3
            exact ⟨_, _, _, rfl, .inr (.inl ⟨by rw [← HN.out]; omega, by decide, k, by rw [← HN.out]; exact hlt, by rw [HB16.out]; rfl, rfl, HK.out⟩), fun _ => rfl, fun h => absurd h (by decide), below_step hwc hbr⟩
      · have HR : Hid (chkE L k = rightE E ∧ rightE E ≠ 0) := hide ⟨chk_right HE.out hr, hr⟩
        obtain ⟨er, her⟩ : ∃ er, er = rightE E := ⟨_, rfl⟩
        have hr' : ¬ er = 0 := by rw [her]; exact hr
        rw [← her]
        have HER := hide her
        clear hr her
        go_wp2_with fail
        go_ret3
        refine ⟨_, _, _, rfl, .inr (.inl ⟨by rw [← HN.out]; omega, hr', k, by rw [← HN.out]; exact hlt, by rw [HR.out.1, HER.out], rfl, HK.out⟩), fun _ => rfl, fun h => absurd h hr', below_step hb1' hbr⟩
    · have hkn : k = n := by omega
      go_wp2_with fail
      go_ret3
      have h1 := HC.out
      have h2 := HK.out
      rw [List.take_of_length_le (by rw [hkn, HN.out]; exact Nat.le_refl _)] at h1
      exact ⟨_, 0, 0, rfl, .inr (.inr ⟨by rw [← HN.out]; omega, rfl, rfl, by rw [← HN.out, ← hkn]; exact h2⟩), fun h => absurd rfl h, fun _ => ⟨_, ga, k, cl', Av', cv', ds', es', rfl, by rw [hkn]; exact HN.out, h1⟩, hbr⟩
end
end Go.Proofs.YtehabbnohoomjaaGreatDoor
