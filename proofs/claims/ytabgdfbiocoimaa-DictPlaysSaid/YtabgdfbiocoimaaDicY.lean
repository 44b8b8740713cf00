/- Package dict: Copy. -/
import Derived.Test.YtabgdfbiocoimaaDicH
import Derived.Test.YtabgdfbiocoimaaDicW
import Derived.Test.YtabgdfbiocoimaaHeldT
namespace Go.Proofs.Ytabgdfbiocoimaa
set_option linter.unusedVariables false
set_option linter.unusedSimpArgs false
set_option linter.unnecessarySimpa false
open Go.RowKit
set_option maxRecDepth 100000
set_option maxHeartbeats 4000000
section
variable {F : Nat → Prop} {p n cl cv : Nat} {Av : Option Addr} {L : List Ent} {V : List (List UInt8)} {ds es : List (Option Addr × Nat)} {gl : Nat}
def CopyR (L : List Ent) (V : List (List UInt8)) (w : World) (e : Ending) (w' : World) : Prop :=
  ∃ p gl n cl Av cv ds es, e = .returned (.pointer (some ⟨p, 0, none⟩)) ∧ n = L.length ∧ DB 86 w' (fun g => w.heap.size ≤ g) p (some ⟨gl, 0, none⟩) n cl Av cv L V ds es ∧ Below w.heap.size w w'
theorem dict_copy0 (w : World) : Calls Try.prog 36 #[.pointer none] w fun e w' => e = .returned (.pointer none) ∧ w = w' := by
  go_enter Try.func36, Try.ntmps36
  go_wp2_with fail
  refine (dict_there0 _).mono ?_
  rintro e w1 ⟨rfl, rfl⟩
  go_wp2_with fail
  go_ret
  exact ⟨rfl, rfl⟩
theorem dict_copy (w : World) (hD : DB 86 w F p (some ⟨gl, 0, none⟩) n cl Av cv L V ds es) (hn : n ≤ 1000) :
    Calls Try.prog 36 #[.pointer (some ⟨p, 0, none⟩)] w (CopyR L V w) := by
  have HD := hide hD
  have HN := hide hD.ents.hn
  have HLV := hide hD.lenV
  have hB := hD.blk
  have zp := hB.lt
  have q := blk_two w 39 86 #[] #[.slice (some ⟨w.heap.size, 0, none⟩) 0 0, .slice none 0 0]
  have hbw := below_alloc (below_alloc (Below.refl w.heap.size w) (.cells #[] 39)) (.cells #[.slice (some ⟨w.heap.size, 0, none⟩) 0 0, .slice none 0 0] 86)
  have HDC : Hid (DB 86 ((w.alloc (.cells #[] 39)).alloc (.cells #[.slice (some ⟨w.heap.size, 0, none⟩) 0 0, .slice none 0 0] 86)) (fun g => w.heap.size ≤ g) (w.heap.size + 1) (some ⟨w.heap.size, 0, none⟩) 0 0 none 0 (L.take 0) (V.take 0) [] []) :=
    hide ⟨q.2, Nat.le_succ _, OwnF.empty q.1 (Nat.le_refl _), OwnF.nil _ _, by simp, by simp⟩
  have HFE := hide hD.fe
  have HFV := hide hD.fv
  clear hD q
  have hB_c0 := hB.cell 0 rfl
  have hB_f0 := hB.frozen 0
  have hB_c1 := hB.cell 1 rfl
  have hB_f1 := hB.frozen 1
  go_enter Try.func36, Try.ntmps36
  go_wp2_with fail
  refine (dict_there _ hB).mono ?_
  rintro e w1 ⟨rfl, rfl⟩
  go_wp2_with fail
  go_loopw [17] (fun i wr => ∃ k ga cl' Av' cv' ds' es', k ≤ n ∧ i = .int .i64 (k : Nat) ∧ Hid (DB 86 wr (fun g => w.heap.size ≤ g) (w.heap.size + 1) (some ⟨ga, 0, none⟩) k cl' Av' cv' (L.take k) (V.take k) ds' es') ∧ Below w.heap.size w wr) (fun i _ => n - (intOf i).toNat)
  case atStart => exact ⟨0, _, _, _, _, _, _, by omega, rfl, HDC, hbw⟩
  case round =>
    clear HDC hbw
    obtain ⟨k, ga, cl', Av', cv', ds', es', hk, rfl, HC, hbr⟩ := hrel
    by_cases hlt : k < n
    · obtain ⟨E, hE⟩ : ∃ E, L[k]? = some E := ⟨L[k]'(by rw [← HN.out]; exact hlt), List.getElem?_eq_getElem _⟩
      obtain ⟨v, hv⟩ : ∃ v, V[k]? = some v := ⟨V[k]'(by rw [HLV.out, ← HN.out]; exact hlt), List.getElem?_eq_getElem _⟩
      obtain ⟨g, d, hA, zg, _, hOd, hfe, c0, c1, c2, c3, c4, c5, c6, c7, c8, c9, c10⟩ := (HD.out.below hbr).ent hE
      injection hA with hA
      injection hA with hA
      subst hA
      obtain ⟨gv, dv, hAv, zv, _, hOv, hfv, cv0, _, _⟩ := HD.out.val hv
      subst hAv
      have HT1 := hide (take_snoc hE)
      have HT2 := hide (take_snoc hv)
      have HSd := hide (hOd.sl.alloc (.cells (entV E d.1 E.df.length d.2) 39))
      have HSv := hide (hOv.sl)
      have HF1 := hide hfe
      have HF2 := hide hfv
      obtain ⟨i1, i2, i3⟩ := idx_at hlt
      have q := blk_one wr 39 (entV E d.1 E.df.length d.2)
      have hBc := HC.out.blk.alloc (.cells (entV E d.1 E.df.length d.2) 39)
      have hBp := (hB.below hbr zp).alloc (.cells (entV E d.1 E.df.length d.2) 39)
      have HQC := hide hBc
      have HQE := hide q
      clear hE hv hOd hOv hfe hfv
      unfold entV at q hBc
      go_wp2_with fail
      have q_c0 := q.cell 0 rfl
      have q_f0 := q.frozen 0
      have q_c1 := q.cell 1 rfl
      have q_f1 := q.frozen 1
      have q_c2 := q.cell 2 rfl
      have q_f2 := q.frozen 2
      have q_c3 := q.cell 3 rfl
      have q_f3 := q.frozen 3
      have q_c4 := q.cell 4 rfl
      have q_f4 := q.frozen 4
      have q_c5 := q.cell 5 rfl
      have q_f5 := q.frozen 5
      have q_c6 := q.cell 6 rfl
      have q_f6 := q.frozen 6
      have q_c7 := q.cell 7 rfl
      have q_f7 := q.frozen 7
      have q_c8 := q.cell 8 rfl
      have q_f8 := q.frozen 8
      have q_c9 := q.cell 9 rfl
      have q_f9 := q.frozen 9
      have q_c10 := q.cell 10 rfl
      have q_f10 := q.frozen 10
      have hBc_c0 := hBc.cell 0 rfl
      have hBc_f0 := hBc.frozen 0
      have hBc_c1 := hBc.cell 1 rfl
      have hBc_f1 := hBc.frozen 1
      clear c0 c1 c2 c3 c4 c5 c6 c7 c8 c9 c10
      refine wp_region_T (fun w' => (w'.cell? ⟨wr.heap.size, 0, none⟩ = some (.int .i64 E.ix) ∧ w'.cell? ⟨wr.heap.size, 1, none⟩ = some (.int .i64 E.sub) ∧ w'.cell? ⟨wr.heap.size, 2, none⟩ = some (.string E.nm) ∧ w'.cell? ⟨wr.heap.size, 3, none⟩ = some (.int .i64 E.ty) ∧ w'.cell? ⟨wr.heap.size, 4, none⟩ = some (.int .i64 E.acc) ∧ w'.cell? ⟨wr.heap.size, 5, none⟩ = some (.bool E.mp) ∧ w'.cell? ⟨wr.heap.size, 6, none⟩ = some (.bool E.st) ∧ w'.cell? ⟨wr.heap.size, 7, none⟩ = some (.int .i64 E.mx) ∧ w'.cell? ⟨wr.heap.size, 8, none⟩ = some (.int .i64 E.lo) ∧ w'.cell? ⟨wr.heap.size, 9, none⟩ = some (.int .i64 E.hi) ∧ w'.cell? ⟨wr.heap.size, 10, none⟩ = some (.slice d.1 E.df.length d.2)) ∧ w'.cell? ⟨w.heap.size + 1, 0, none⟩ = some (.slice (some ⟨ga, 0, none⟩) k cl')) [0, 1, 2, 3, 4, 5] (by kernel_rfl) ?hS1 (fun hHeld => ?rest1)
      case hS1 => ((try dsimp only); exact ⟨ec_of HQE.out, hBc_c0⟩)
      case' rest1 => skip
      refine wpAnyT_take (by kernel_rfl) (i := 0) (oi := _) (v := ?v2) rfl (by kernel_rfl) (by kernel_rfl) (by kernel_rfl) (fun _ _ _ h => h) (Or.inl ⟨by rfl, ?hy2⟩) (by assumption) ?rest2
      case hy2 => ((intro w hSw; (try dsimp only at hSw); go_simp) <;> with_reducible rfl)
      case' rest2 => try simp only [List.getElem_toArray, List.getElem_cons_zero, List.getElem_cons_succ, Act.put, List.setIfInBounds_toArray, List.set_cons_zero, List.set_cons_succ]
      refine wpAnyT_take (by kernel_rfl) (i := 1) (oi := _) (v := ?v3) rfl (by kernel_rfl) (by kernel_rfl) (by kernel_rfl) (fun _ _ _ h => h) (Or.inl ⟨by rfl, ?hy3⟩) (by assumption) ?rest3
      case hy3 => ((intro w hSw; (try dsimp only at hSw); go_simp) <;> with_reducible rfl)
      case' rest3 => try simp only [List.getElem_toArray, List.getElem_cons_zero, List.getElem_cons_succ, Act.put, List.setIfInBounds_toArray, List.set_cons_zero, List.set_cons_succ]
      refine wpAnyT_take (by kernel_rfl) (i := 2) (oi := _) (v := ?v4) rfl (by kernel_rfl) (by kernel_rfl) (by kernel_rfl) (fun _ _ _ h => h) (Or.inl ⟨by rfl, ?hy4⟩) (by assumption) ?rest4
      case hy4 => ((intro w hSw; (try dsimp only at hSw); go_simp) <;> with_reducible rfl)
      case' rest4 => try simp only [List.getElem_toArray, List.getElem_cons_zero, List.getElem_cons_succ, Act.put, List.setIfInBounds_toArray, List.set_cons_zero, List.set_cons_succ]
      refine wpAnyT_take (by kernel_rfl) (i := 3) (oi := _) (v := ?v5) rfl (by kernel_rfl) (by kernel_rfl) (by kernel_rfl) (fun _ _ _ h => h) (Or.inl ⟨by rfl, ?hy5⟩) (by assumption) ?rest5
      case hy5 => ((intro w hSw; (try dsimp only at hSw); go_simp) <;> with_reducible rfl)
      case' rest5 => try simp only [List.getElem_toArray, List.getElem_cons_zero, List.getElem_cons_succ, Act.put, List.setIfInBounds_toArray, List.set_cons_zero, List.set_cons_succ]
      refine wpAnyT_take (by kernel_rfl) (i := 4) (oi := _) (v := ?v6) rfl (by kernel_rfl) (by kernel_rfl) (by kernel_rfl) (fun _ _ _ h => h) (Or.inl ⟨by rfl, ?hy6⟩) (by assumption) ?rest6
      case hy6 => ((intro w hSw; (try dsimp only at hSw); go_simp) <;> with_reducible rfl)
      case' rest6 => try simp only [List.getElem_toArray, List.getElem_cons_zero, List.getElem_cons_succ, Act.put, List.setIfInBounds_toArray, List.set_cons_zero, List.set_cons_succ]
      refine wpAnyT_take (by kernel_rfl) (i := 5) (oi := _) (v := ?v7) rfl (by kernel_rfl) (by kernel_rfl) (by kernel_rfl) (fun _ _ _ h => h) (Or.inl ⟨by rfl, ?hy7⟩) (by assumption) ?rest7
      case hy7 => ((intro w hSw; (try dsimp only at hSw); go_simp) <;> with_reducible rfl)
      case' rest7 => try simp only [List.getElem_toArray, List.getElem_cons_zero, List.getElem_cons_succ, Act.put, List.setIfInBounds_toArray, List.set_cons_zero, List.set_cons_succ]
      refine wpAnyT_one (i := 6) (o := _) rfl (by kernel_rfl) (fun K hK => ?_)
      go_simp
      refine (dict_held E d.1 E.df.length d.2 _ rfl HF1.out.1 HSd.out.drew).mono ?_
      rintro e w2 ⟨A3, c3', rfl, hO3, hb3⟩
      dsimp only
      unfold entV
      replace hb3 := below_undrew hb3
      have k1 := hide (HQE.out.below hb3 HQE.out.lt)
      have k2 := hide (HQC.out.below hb3 HQC.out.lt)
      refine hK.out _ _ ?hS9 (fun hHeld => ?rest9)
      case hS9 => ((try dsimp only); (exact ⟨ec_of k1.out, k2.out.cell 0 rfl⟩))
      case' rest9 => (clear hK K; try simp only [List.getElem_toArray, List.getElem_cons_zero, List.getElem_cons_succ, Act.put, List.setIfInBounds_toArray, List.set_cons_zero, List.set_cons_succ])
      refine wpAnyT_one (i := 7) (o := _) rfl (by kernel_rfl) (fun K hK => ?_)
      go_simp
      refine hK.out _ _ ?hS11 (fun hHeld => ?rest11)
      case hS11 => ((try dsimp only); (exact ⟨ec_of (k1.out.alloc _), (k2.out.alloc _).cell 0 rfl⟩))
      case' rest11 => (clear hK K; try simp only [List.getElem_toArray, List.getElem_cons_zero, List.getElem_cons_succ, Act.put, List.setIfInBounds_toArray, List.set_cons_zero, List.set_cons_succ])
      have hb5 := below_alloc hb3 (.cells (entV E A3 E.df.length c3') 39)
      have hb6 := below_alloc (Below.refl wr.heap.size wr) (.cells (entV E d.1 E.df.length d.2) 39)
      have hb7 := below_step hb5 hb6
      have hb8 := below_step hb7 hbr
      have hz5 := hbr.size
      have hz6 := hb7.size
      have hz7 := (below_step hb6 hbr).size
      have k1' := hide (k1.out.alloc (.cells (entV E A3 E.df.length c3') 39))
      have k2' := hide (k2.out.alloc (.cells (entV E A3 E.df.length c3') 39))
      have zga := HC.out.ents.own.fin ga rfl
      unfold entV at hb5 hb6 hb7 hb8 k1' k2' hz6
      refine wpAnyT_one (i := 8) (o := _) rfl (by kernel_rfl) (fun K hK => ?_)
      rw [if_pos (show Region.wanted _ _ = true by kernel_rfl)]
      refine wp_app_f (f := entF) (k := 11) (e := 39) (dat := Ent.df) (F := fun g => w.heap.size ≤ g) _ _ 22 rfl entF_len entF_one (by decide) 104 _ Try.underlying22 infoE rfl (by omega) (by omega) (some ⟨ga, 0, none⟩) k cl' (L.take k) ds' rfl (HC.out.ents.below hb7) E (A3, c3') _ rfl (by exact (Blk.new _ _ _).sl) ((hO3.alloc _).mono (Nat.zero_le _)) (hO3.own.fin.mono (fun g h => Nat.le_trans hz7 h.1)) (fun g h => Nat.le_trans (Nat.le_trans hz5 hz6) h) (by omega) ?_
      intro A4 c4 w4 hO4 hg4 hr4
      obtain ⟨g4, rfl⟩ := some_row hr4
      have m1 := hide (k1'.out.grown hg4 (by simp [Value.ownBlock]; omega))
      have m2 := hide (k2'.out.grown hg4 (blk_own_ne k2'.out (HC.out.ents.below hb7).own (by decide)))
      have mV := hide ((HC.out.vals.below hb7).grownT hg4 (HC.out.ents.below hb7).own (by decide) (by decide))
      have mb : Below w.heap.size w w4 := hb8.grown hg4 hb8.size (fun q hq => by
        have h1 := HC.out.ents.inF ga rfl
        simp [Value.ownBlock] at hq
        omega)
      rw [← HT1.out] at hO4
      have mE := hide hO4
      clear hO4 hO3 hr4 k1 k2 k1' k2' hg4 hb5 hb6 hb7 hb8 hz6 hz7
      refine hK.out _ _ ?hS13 (fun hHeld => ?rest13)
      case hS13 => ((try dsimp only); (exact ⟨ec_of m1.out, m2.out.cell 0 rfl⟩))
      case' rest13 => (clear hK K; try simp only [List.getElem_toArray, List.getElem_cons_zero, List.getElem_cons_succ, Act.put, List.setIfInBounds_toArray, List.set_cons_zero, List.set_cons_succ])
      have m2c := m2.out.cell 0 rfl
      have m2f := m2.out.frozen 0
      refine wpAnyT_one (i := 9) (o := _) rfl (by kernel_rfl) (fun K hK => ?_)
      go_simp
      refine hK.out _ _ ?hS15 (fun hHeld => ?rest15)
      case hS15 => ((try dsimp only); (exact ⟨ec_of m1.out, m2.out.cell 0 rfl⟩))
      case' rest15 => (clear hK K; try simp only [List.getElem_toArray, List.getElem_cons_zero, List.getElem_cons_succ, Act.put, List.setIfInBounds_toArray, List.set_cons_zero, List.set_cons_succ])
      refine wpAnyT_one (i := 10) (o := _) rfl (by kernel_rfl) (fun K hK => ?_)
      go_simp
      refine hK.out _ _ ?hS17 (fun hHeld => ?rest17)
      case hS17 => ((try dsimp only); (exact ⟨ec_of m1.out, m2.out.cell 0 rfl⟩))
      case' rest17 => (clear hK K; try simp only [List.getElem_toArray, List.getElem_cons_zero, List.getElem_cons_succ, Act.put, List.setIfInBounds_toArray, List.set_cons_zero, List.set_cons_succ])
      refine wpAnyT_late (i := 11) (o := _) rfl (by kernel_rfl) (by kernel_rfl) (fun K hK => ?_)
      go_simp
      refine hK.out _ _ ?rest19
      case' rest19 => (clear hK K; try simp only [List.getElem_toArray, List.getElem_cons_zero, List.getElem_cons_succ, Act.put, List.setIfInBounds_toArray, List.set_cons_zero, List.set_cons_succ])
      refine wpAnyT_done (by kernel_rfl) ?_ _
      repeat (clear hHeld)
      clear m2c m2f
      clear q_c0 q_f0 q_c1 q_f1 q_c2 q_f2 q_c3 q_f3 q_c4 q_f4 q_c5 q_f5 q_c6 q_f6 q_c7 q_f7 q_c8 q_f8 q_c9 q_f9 q_c10 q_f10
      clear hBc_c0 hBc_f0 hBc_c1 hBc_f1
      have n2 := hide (m2.out.set_ 0 (.slice (some ⟨g4, 0, none⟩) (k + 1) c4))
      have nE := hide (mE.out.setT m2.out (by decide) (by decide) 0 (.slice (some ⟨g4, 0, none⟩) (k + 1) c4))
      have nV := hide (mV.out.setT m2.out (by decide) (by decide) 0 (.slice (some ⟨g4, 0, none⟩) (k + 1) c4))
      have nb := below_set mb (p := ⟨w.heap.size + 1, 0, none⟩) (Nat.le_succ _) (.slice (some ⟨g4, 0, none⟩) (k + 1) c4)
      generalize hw5 : w4.setCell ⟨w.heap.size + 1, 0, none⟩ (.slice (some ⟨g4, 0, none⟩) (k + 1) c4) = w5 at *
      clear hw5 mE mV mb m1 m2 HQC HQE q hBc hBp HSd
      go_wp2_with fail
      have hB_c0 := hB.cell 0 rfl
      have hB_f0 := hB.frozen 0
      have hB_c1 := hB.cell 1 rfl
      have hB_f1 := hB.frozen 1
      have n2_c1 := n2.out.cell 1 rfl
      refine wp_region_T (fun w' => w'.cell? ⟨p, 1, none⟩ = some (.slice (some ⟨gv, 0, none⟩) n cv) ∧ w'.cell? ⟨gv, k, none⟩ = some (.slice dv.1 v.length dv.2) ∧ w'.cell? ⟨w.heap.size + 1, 1, none⟩ = some (.slice Av' k cv')) [0, 1, 2, 3, 4, 5, 6, 7, 8, 9, 10, 11] (by kernel_rfl) ?hS21 (fun hHeld => ?rest21)
      case hS21 => ((try dsimp only); exact ⟨(nb.cell (p := ⟨p, 1, none⟩) zp).trans hB_c1, (nb.cell (p := ⟨gv, k, none⟩) zv).trans cv0, n2.out.cell 1 rfl⟩)
      case' rest21 => skip
      refine wpAnyT_take (by kernel_rfl) (i := 0) (oi := _) (v := ?v22) rfl (by kernel_rfl) (by kernel_rfl) (by kernel_rfl) (fun _ _ _ h => h) (Or.inl ⟨by rfl, ?hy22⟩) (by assumption) ?rest22
      case hy22 => ((intro w hSw; (try dsimp only at hSw); go_simp) <;> with_reducible rfl)
      case' rest22 => try simp only [List.getElem_toArray, List.getElem_cons_zero, List.getElem_cons_succ, Act.put, List.setIfInBounds_toArray, List.set_cons_zero, List.set_cons_succ]
      refine wpAnyT_take (by kernel_rfl) (i := 1) (oi := _) (v := ?v23) rfl (by kernel_rfl) (by kernel_rfl) (by kernel_rfl) (fun _ _ _ h => h) (Or.inl ⟨by rfl, ?hy23⟩) (by assumption) ?rest23
      case hy23 => ((intro w hSw; (try dsimp only at hSw); go_simp) <;> with_reducible rfl)
      case' rest23 => try simp only [List.getElem_toArray, List.getElem_cons_zero, List.getElem_cons_succ, Act.put, List.setIfInBounds_toArray, List.set_cons_zero, List.set_cons_succ]
      refine wpAnyT_take (by kernel_rfl) (i := 2) (oi := _) (v := ?v24) rfl (by kernel_rfl) (by kernel_rfl) (by kernel_rfl) (fun _ _ _ h => h) (Or.inl ⟨by rfl, ?hy24⟩) (by assumption) ?rest24
      case hy24 => ((intro w hSw; (try dsimp only at hSw); go_simp) <;> with_reducible rfl)
      case' rest24 => try simp only [List.getElem_toArray, List.getElem_cons_zero, List.getElem_cons_succ, Act.put, List.setIfInBounds_toArray, List.set_cons_zero, List.set_cons_succ]
      refine wpAnyT_take (by kernel_rfl) (i := 3) (oi := _) (v := ?v25) rfl (by kernel_rfl) (by kernel_rfl) (by kernel_rfl) (fun _ _ _ h => h) (Or.inl ⟨by rfl, ?hy25⟩) (by assumption) ?rest25
      case hy25 => ((intro w hSw; (try dsimp only at hSw); go_simp) <;> with_reducible rfl)
      case' rest25 => try simp only [List.getElem_toArray, List.getElem_cons_zero, List.getElem_cons_succ, Act.put, List.setIfInBounds_toArray, List.set_cons_zero, List.set_cons_succ]
      refine wpAnyT_take (by kernel_rfl) (i := 4) (oi := _) (v := ?v26) rfl (by kernel_rfl) (by kernel_rfl) (by kernel_rfl) (fun _ _ _ h => h) (Or.inl ⟨by rfl, ?hy26⟩) (by assumption) ?rest26
      case hy26 => ((intro w hSw; (try dsimp only at hSw); go_simp) <;> with_reducible rfl)
      case' rest26 => try simp only [List.getElem_toArray, List.getElem_cons_zero, List.getElem_cons_succ, Act.put, List.setIfInBounds_toArray, List.set_cons_zero, List.set_cons_succ]
      refine wpAnyT_take (by kernel_rfl) (i := 5) (oi := _) (v := ?v27) rfl (by kernel_rfl) (by kernel_rfl) (by kernel_rfl) (fun _ _ _ h => h) (Or.inl ⟨by rfl, ?hy27⟩) (by assumption) ?rest27
      case hy27 => ((intro w hSw; (try dsimp only at hSw); go_simp) <;> with_reducible rfl)
      case' rest27 => try simp only [List.getElem_toArray, List.getElem_cons_zero, List.getElem_cons_succ, Act.put, List.setIfInBounds_toArray, List.set_cons_zero, List.set_cons_succ]
      refine wpAnyT_take (by kernel_rfl) (i := 6) (oi := _) (v := ?v28) rfl (by kernel_rfl) (by kernel_rfl) (by kernel_rfl) (fun _ _ _ h => h) (Or.inl ⟨by rfl, ?hy28⟩) (by assumption) ?rest28
      case hy28 => ((intro w hSw; (try dsimp only at hSw); go_simp) <;> with_reducible rfl)
      case' rest28 => try simp only [List.getElem_toArray, List.getElem_cons_zero, List.getElem_cons_succ, Act.put, List.setIfInBounds_toArray, List.set_cons_zero, List.set_cons_succ]
      refine wpAnyT_take (by kernel_rfl) (i := 7) (oi := _) (v := ?v29) rfl (by kernel_rfl) (by kernel_rfl) (by kernel_rfl) (fun _ _ _ h => h) (Or.inl ⟨by rfl, ?hy29⟩) (by assumption) ?rest29
      case hy29 => ((intro w hSw; (try dsimp only at hSw); go_simp) <;> with_reducible rfl)
      case' rest29 => try simp only [List.getElem_toArray, List.getElem_cons_zero, List.getElem_cons_succ, Act.put, List.setIfInBounds_toArray, List.set_cons_zero, List.set_cons_succ]
      refine wpAnyT_take (by kernel_rfl) (i := 8) (oi := _) (v := ?v30) rfl (by kernel_rfl) (by kernel_rfl) (by kernel_rfl) (fun _ _ _ h => h) (Or.inl ⟨by rfl, ?hy30⟩) (by assumption) ?rest30
      case hy30 => ((intro w hSw; (try dsimp only at hSw); go_simp) <;> with_reducible rfl)
      case' rest30 => try simp only [List.getElem_toArray, List.getElem_cons_zero, List.getElem_cons_succ, Act.put, List.setIfInBounds_toArray, List.set_cons_zero, List.set_cons_succ]
      refine wpAnyT_take (by kernel_rfl) (i := 9) (oi := _) (v := ?v31) rfl (by kernel_rfl) (by kernel_rfl) (by kernel_rfl) (fun _ _ _ h => h) (Or.inl ⟨by rfl, ?hy31⟩) (by assumption) ?rest31
      case hy31 => ((intro w hSw; (try dsimp only at hSw); go_simp) <;> with_reducible rfl)
      case' rest31 => try simp only [List.getElem_toArray, List.getElem_cons_zero, List.getElem_cons_succ, Act.put, List.setIfInBounds_toArray, List.set_cons_zero, List.set_cons_succ]
      refine wpAnyT_take (by kernel_rfl) (i := 10) (oi := _) (v := ?v32) rfl (by kernel_rfl) (by kernel_rfl) (by kernel_rfl) (fun _ _ _ h => h) (Or.inl ⟨by rfl, ?hy32⟩) (by assumption) ?rest32
      case hy32 => ((intro w hSw; (try dsimp only at hSw); go_simp) <;> with_reducible rfl)
      case' rest32 => try simp only [List.getElem_toArray, List.getElem_cons_zero, List.getElem_cons_succ, Act.put, List.setIfInBounds_toArray, List.set_cons_zero, List.set_cons_succ]
      refine wpAnyT_take (by kernel_rfl) (i := 11) (oi := _) (v := ?v33) rfl (by kernel_rfl) (by kernel_rfl) (by kernel_rfl) (fun _ _ _ h => h) (Or.inl ⟨by rfl, ?hy33⟩) (by assumption) ?rest33
      case hy33 => ((intro w hSw; (try dsimp only at hSw); go_simp) <;> with_reducible rfl)
      case' rest33 => try simp only [List.getElem_toArray, List.getElem_cons_zero, List.getElem_cons_succ, Act.put, List.setIfInBounds_toArray, List.set_cons_zero, List.set_cons_succ]
      refine wpAnyT_one (i := 12) (o := _) rfl (by kernel_rfl) (fun K hK => ?_)
      go_simp
      refine (dict_own dv.1 v.length dv.2 v _ rfl HF2.out (HSv.out.below nb).drew).mono ?_
      rintro e w6 ⟨A5, c5, rfl, hO5, hb5⟩
      dsimp only
      replace hb5 := below_undrew hb5
      have o2 := hide (n2.out.below hb5 n2.out.lt)
      have ob := below_step hb5 nb
      have hz8 := nb.size
      have ofi := hO5.own.fin
      refine hK.out _ _ ?hS35 (fun hHeld => ?rest35)
      case hS35 => ((try dsimp only); (exact ⟨(ob.cell (p := ⟨p, 1, none⟩) zp).trans hB_c1, (ob.cell (p := ⟨gv, k, none⟩) zv).trans cv0, o2.out.cell 1 rfl⟩))
      case' rest35 => (clear hK K; try simp only [List.getElem_toArray, List.getElem_cons_zero, List.getElem_cons_succ, Act.put, List.setIfInBounds_toArray, List.set_cons_zero, List.set_cons_succ])
      have ob2 := below_alloc ob (.cells #[.slice A5 v.length c5] 23)
      have o3 := hide (o2.out.alloc (.cells #[.slice A5 v.length c5] 23))
      have hb6 := below_alloc hb5 (.cells #[.slice A5 v.length c5] 23)
      refine wpAnyT_one (i := 13) (o := _) rfl (by kernel_rfl) (fun K hK => ?_)
      go_simp
      refine hK.out _ _ ?hS37 (fun hHeld => ?rest37)
      case hS37 => ((try dsimp only); (exact ⟨(ob2.cell (p := ⟨p, 1, none⟩) zp).trans hB_c1, (ob2.cell (p := ⟨gv, k, none⟩) zv).trans cv0, o3.out.cell 1 rfl⟩))
      case' rest37 => (clear hK K; try simp only [List.getElem_toArray, List.getElem_cons_zero, List.getElem_cons_succ, Act.put, List.setIfInBounds_toArray, List.set_cons_zero, List.set_cons_succ])
      have hz9 := ob2.size
      refine wpAnyT_one (i := 14) (o := _) rfl (by kernel_rfl) (fun K hK => ?_)
      rw [if_pos (show Region.wanted _ _ = true by kernel_rfl)]
      refine wp_app_f (f := valF) (k := 1) (e := 23) (dat := fun v => v) (F := fun g => w.heap.size ≤ g) _ _ 64 rfl valF_len valF_one (by decide) 24 _ Try.underlying64 infoS rfl (by omega) (by omega) Av' k cv' (V.take k) es' rfl (nV.out.below hb6) v (A5, c5) _ rfl (by exact (Blk.new _ _ _).sl) ((hO5.alloc _).mono (Nat.zero_le _)) (ofi.mono (fun g h => Nat.le_trans hz8 h.1)) (fun g h => Nat.le_trans hz9 h) (by omega) ?_
      intro A6 c6 w7 hO6 hg6 hr6
      have p2 := hide (o3.out.grown hg6 (blk_own_ne o3.out (nV.out.below hb6).own (by decide)))
      have pE := hide ((nE.out.below hb6).grownT hg6 (nV.out.below hb6).own (by decide) (by decide))
      have pb : Below w.heap.size w w7 := ob2.grown hg6 ob2.size (fun q hq => by
        rcases nV.out.own.shape with ⟨h1, _⟩ | ⟨g', h1, _, _⟩
        · rw [h1] at hq; cases hq
        · have := nV.out.inF g' h1
          rw [h1] at hq
          simp [Value.ownBlock] at hq
          omega)
      rw [← HT2.out] at hO6
      have pV := hide hO6
      clear hO6 hO5 hr6 hg6 ofi hb5 hb6 ob2 o2 o3 n2_c1
      refine hK.out _ _ ?hS39 (fun hHeld => ?rest39)
      case hS39 => ((try dsimp only); (exact ⟨(pb.cell (p := ⟨p, 1, none⟩) zp).trans hB_c1, (pb.cell (p := ⟨gv, k, none⟩) zv).trans cv0, p2.out.cell 1 rfl⟩))
      case' rest39 => (clear hK K; try simp only [List.getElem_toArray, List.getElem_cons_zero, List.getElem_cons_succ, Act.put, List.setIfInBounds_toArray, List.set_cons_zero, List.set_cons_succ])
      have p2c := p2.out.cell 1 rfl
      have p2f := p2.out.frozen 1
      refine wpAnyT_one (i := 15) (o := _) rfl (by kernel_rfl) (fun K hK => ?_)
      go_simp
      refine hK.out _ _ ?hS41 (fun hHeld => ?rest41)
      case hS41 => ((try dsimp only); (exact ⟨(pb.cell (p := ⟨p, 1, none⟩) zp).trans hB_c1, (pb.cell (p := ⟨gv, k, none⟩) zv).trans cv0, p2.out.cell 1 rfl⟩))
      case' rest41 => (clear hK K; try simp only [List.getElem_toArray, List.getElem_cons_zero, List.getElem_cons_succ, Act.put, List.setIfInBounds_toArray, List.set_cons_zero, List.set_cons_succ])
      refine wpAnyT_one (i := 16) (o := _) rfl (by kernel_rfl) (fun K hK => ?_)
      go_simp
      refine hK.out _ _ ?hS43 (fun hHeld => ?rest43)
      case hS43 => ((try dsimp only); (exact ⟨(pb.cell (p := ⟨p, 1, none⟩) zp).trans hB_c1, (pb.cell (p := ⟨gv, k, none⟩) zv).trans cv0, p2.out.cell 1 rfl⟩))
      case' rest43 => (clear hK K; try simp only [List.getElem_toArray, List.getElem_cons_zero, List.getElem_cons_succ, Act.put, List.setIfInBounds_toArray, List.set_cons_zero, List.set_cons_succ])
      refine wpAnyT_late (i := 17) (o := _) rfl (by kernel_rfl) (by kernel_rfl) (fun K hK => ?_)
      go_simp
      refine hK.out _ _ ?rest45
      case' rest45 => (clear hK K; try simp only [List.getElem_toArray, List.getElem_cons_zero, List.getElem_cons_succ, Act.put, List.setIfInBounds_toArray, List.set_cons_zero, List.set_cons_succ])
      refine wpAnyT_done (by kernel_rfl) ?_ _
      repeat (clear hHeld)
      have HC2 : Hid (DB 86 (w7.setCell ⟨w.heap.size + 1, 1, none⟩ (.slice A6 (k + 1) c6)) (fun g => w.heap.size ≤ g) (w.heap.size + 1) (some ⟨g4, 0, none⟩) (k + 1) c4 A6 c6 (L.take (k + 1)) (V.take (k + 1)) (ds' ++ [(A3, c3')]) (es' ++ [(A5, c5)])) :=
        hide ⟨p2.out.set_ 1 _, Nat.le_succ _, pE.out.setT p2.out (by decide) (by decide) 1 _, pV.out.setT p2.out (by decide) (by decide) 1 _, fun E hE => HFE.out E (List.mem_of_mem_take hE), fun v hv => HFV.out v (List.mem_of_mem_take hv)⟩
      have pb2 := below_set pb (p := ⟨w.heap.size + 1, 1, none⟩) (Nat.le_succ _) (.slice A6 (k + 1) c6)
      clear p2c p2f
      go_wp2_with fail
      go_roundw
      case rel => exact ⟨k + 1, g4, c4, A6, c6, _, _, by omega, by go_num, HC2, pb2⟩
      case measure => simp [intOf]; omega
    · have hkn : k = n := by omega
      go_wp2_with fail
      go_ret
      have h1 := HC.out
      rw [List.take_of_length_le (by rw [hkn, HN.out]; exact Nat.le_refl _), List.take_of_length_le (by rw [HLV.out, hkn, HN.out]; exact Nat.le_refl _)] at h1
      exact ⟨_, ga, k, cl', Av', cv', ds', es', rfl, by rw [hkn]; exact HN.out, h1, hbr⟩
end
end Go.Proofs.Ytabgdfbiocoimaa
