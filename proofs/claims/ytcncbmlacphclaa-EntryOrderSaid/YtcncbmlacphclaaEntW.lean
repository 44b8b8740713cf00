/- The walks of EntryRules and EntryOrder. -/
import Derived.Test.YtcncbmlacphclaaEntK
import Derived.Deep.RegionHeld3
namespace Go.Proofs.Ytcncbmlacphclaa
set_option linter.unusedVariables false
set_option linter.unusedSimpArgs false
set_option linter.unnecessarySimpa false
open Go.RowKit
set_option maxRecDepth 100000
set_option maxHeartbeats 4000000

theorem entryRules_walk (E F : Ent) (A B : Option Addr) (n c m d : Nat) (w : World) (hi64 : I64 E.ix) :
    Calls Try.prog 6 #[.agg (entV E A n c), .agg (entV F B m d)] w (TrueB w) := by
  have q := blk_two w 24 24 (entV E A n c) (entV F B m d)
  have hbw := below_alloc (below_alloc (Below.refl w.heap.size w) (.cells (entV E A n c) 24)) (.cells (entV F B m d) 24)
  obtain ⟨q0, q1⟩ := q
  have L1 := hide (fun W => light_any E A n c W)
  have L2 := hide (fun W => light_any F B m d W)
  have K1 := hide (fun W => ent_readable E A n c W)
  have K2 := hide (fun W => rent_readable E A n c W)
  have K3 := hide (fun W => ent_writable E A n c W)
  have K4 := hide (fun W => rent_writable E A n c W)
  have K5 := hide (fun W => ent_group E A n c W)
  have K6 := hide (fun W => rent_group E A n c W hi64)
  have K7 := hide (fun W => ent_before E F A B n c m d W)
  have K8 := hide (fun W => rent_before E F A B n c m d W)
  clear hi64
  obtain ⟨b1, e1⟩ : ∃ b, b = lightB E n := ⟨_, rfl⟩
  obtain ⟨b2, e2⟩ : ∃ b, b = lightB F m := ⟨_, rfl⟩
  rw [← e1] at L1
  rw [← e2] at L2
  clear e1 e2
  obtain ⟨ix, sub, nm, ty, acc, mp, st, mx, lo, hi, df⟩ := E
  obtain ⟨ix', sub', nm', ty', acc', mp', st', mx', lo', hi', df'⟩ := F
  simp only [entV] at *
  generalize readE acc = v1 at *
  generalize writeE acc = v2 at *
  generalize groupE ix = v3 at *
  generalize beforeB ix sub ix' sub' = v4 at *
  go_enter Try.func6, Try.ntmps6
  go_wp2_with fail
  refine (L1.out _).mono ?_
  rintro e w1 ⟨rfl, hb1⟩
  replace q0 := q0.below hb1 q0.lt
  replace q1 := q1.below hb1 q1.lt
  replace hbw := below_step hb1 hbw
  have q1_c0 := q1.cell 0 rfl
  have q1_f0 := q1.frozen 0
  have q1_c1 := q1.cell 1 rfl
  have q1_f1 := q1.frozen 1
  have q1_c2 := q1.cell 2 rfl
  have q1_f2 := q1.frozen 2
  have q1_c3 := q1.cell 3 rfl
  have q1_f3 := q1.frozen 3
  have q1_c4 := q1.cell 4 rfl
  have q1_f4 := q1.frozen 4
  have q1_c5 := q1.cell 5 rfl
  have q1_f5 := q1.frozen 5
  have q1_c6 := q1.cell 6 rfl
  have q1_f6 := q1.frozen 6
  have q1_c7 := q1.cell 7 rfl
  have q1_f7 := q1.frozen 7
  have q1_c8 := q1.cell 8 rfl
  have q1_f8 := q1.frozen 8
  have q1_c9 := q1.cell 9 rfl
  have q1_f9 := q1.frozen 9
  have q1_c10 := q1.cell 10 rfl
  have q1_f10 := q1.frozen 10
  cases b1
  · go_wp2_with fail
    refine (known_14 _).mono ?_
    rintro e w2 ⟨rfl, hb2⟩
    go_wp2_with fail
    go_ret
    exact (⟨rfl, below_step hb2 hbw⟩ : TrueB w _ _)
  go_wp2_with fail
  refine (L2.out _).mono ?_
  rintro e w2 ⟨rfl, hb2⟩
  clear q1_c0 q1_f0 q1_c1 q1_f1 q1_c2 q1_f2 q1_c3 q1_f3 q1_c4 q1_f4 q1_c5 q1_f5 q1_c6 q1_f6 q1_c7 q1_f7 q1_c8 q1_f8 q1_c9 q1_f9 q1_c10 q1_f10
  replace q0 := q0.below hb2 q0.lt
  replace q1 := q1.below hb2 q1.lt
  replace hbw := below_step hb2 hbw
  cases b2
  · go_wp2_with fail
    refine (known_14 _).mono ?_
    rintro e w3 ⟨rfl, hb3⟩
    go_wp2_with fail
    go_ret
    exact (⟨rfl, below_step hb3 hbw⟩ : TrueB w _ _)
  go_wp2_with fail
  have z0 := q0.lt
  have z1 := q1.lt
  have q0_c0 := q0.cell 0 rfl
  have q0_f0 := q0.frozen 0
  have q0_c1 := q0.cell 1 rfl
  have q0_f1 := q0.frozen 1
  have q0_c2 := q0.cell 2 rfl
  have q0_f2 := q0.frozen 2
  have q0_c3 := q0.cell 3 rfl
  have q0_f3 := q0.frozen 3
  have q0_c4 := q0.cell 4 rfl
  have q0_f4 := q0.frozen 4
  have q0_c5 := q0.cell 5 rfl
  have q0_f5 := q0.frozen 5
  have q0_c6 := q0.cell 6 rfl
  have q0_f6 := q0.frozen 6
  have q0_c7 := q0.cell 7 rfl
  have q0_f7 := q0.frozen 7
  have q0_c8 := q0.cell 8 rfl
  have q0_f8 := q0.frozen 8
  have q0_c9 := q0.cell 9 rfl
  have q0_f9 := q0.frozen 9
  have q0_c10 := q0.cell 10 rfl
  have q0_f10 := q0.frozen 10
  have q1_c0 := q1.cell 0 rfl
  have q1_f0 := q1.frozen 0
  have q1_c1 := q1.cell 1 rfl
  have q1_f1 := q1.frozen 1
  have q1_c2 := q1.cell 2 rfl
  have q1_f2 := q1.frozen 2
  have q1_c3 := q1.cell 3 rfl
  have q1_f3 := q1.frozen 3
  have q1_c4 := q1.cell 4 rfl
  have q1_f4 := q1.frozen 4
  have q1_c5 := q1.cell 5 rfl
  have q1_f5 := q1.frozen 5
  have q1_c6 := q1.cell 6 rfl
  have q1_f6 := q1.frozen 6
  have q1_c7 := q1.cell 7 rfl
  have q1_f7 := q1.frozen 7
  have q1_c8 := q1.cell 8 rfl
  have q1_f8 := q1.frozen 8
  have q1_c9 := q1.cell 9 rfl
  have q1_f9 := q1.frozen 9
  have q1_c10 := q1.cell 10 rfl
  have q1_f10 := q1.frozen 10
  clear hb1 hb2
  refine wp_region_held_drew (S := (fun w' => (∀ p : Addr, p.block < (w2).heap.size → w'.cell? p = (w2).cell? p) ∧ Below (w2).heap.size (w2) w')) (by kernel_rfl) ?hS1 (fun hHeld => ?rest1)
  case hS1 => ((try dsimp only); (((try go_split_ands); refine sn_of ?_; repeat' (first | with_reducible assumption | with_reducible exact Below.refl _ _ | with_reducible apply below_alloc | with_reducible apply below_drew1 | with_reducible apply below_drewN | (with_reducible apply below_step; with_reducible assumption) | (with_reducible apply below_sg2; (first | exact Nat.le_refl _ | (simp; done) | omega))))))
  case' rest1 => skip
  refine wpAnyH_take (i := 0) (oi := _) (v := ?v2) rfl (by kernel_rfl) (by kernel_rfl) (by kernel_rfl) (fun _ _ _ h => h) (Or.inl ⟨by rfl, ?hy2⟩) (by assumption) ?rest2
  case hy2 => ((intro w hSw; (try dsimp only at hSw); go_simp) <;> with_reducible rfl)
  case' rest2 => try simp only [List.getElem_toArray, List.getElem_cons_zero, List.getElem_cons_succ, Act.put, List.setIfInBounds_toArray, List.set_cons_zero, List.set_cons_succ]
  refine wpAnyH_take (i := 2) (oi := _) (v := ?v3) rfl (by kernel_rfl) (by kernel_rfl) (by kernel_rfl) (fun _ _ _ h => h) (Or.inl ⟨by rfl, ?hy3⟩) (by assumption) ?rest3
  case hy3 => ((intro w hSw; (try dsimp only at hSw); go_simp) <;> with_reducible rfl)
  case' rest3 => try simp only [List.getElem_toArray, List.getElem_cons_zero, List.getElem_cons_succ, Act.put, List.setIfInBounds_toArray, List.set_cons_zero, List.set_cons_succ]
  refine wpAnyH_ready (rs := [1]) (by kernel_rfl) (by simp) ?_
  refine AllReadyH.cons (o := _) rfl (fun K hK => ?_) AllReadyH.nil
  go_simp
  refine (K1.out _).mono ?_
  rintro e w3 ⟨rfl, hb3⟩
  try dsimp only
  refine hK.out _ _ ?hS6 (fun hHeld => ?rest6)
  case hS6 => ((try dsimp only); (((try go_split_ands); refine sn_of ?_; repeat' (first | with_reducible assumption | with_reducible exact Below.refl _ _ | with_reducible apply below_alloc | with_reducible apply below_drew1 | with_reducible apply below_drewN | (with_reducible apply below_step; with_reducible assumption) | (with_reducible apply below_sg2; (first | exact Nat.le_refl _ | (simp; done) | omega))))))
  case' rest6 => (clear hK K; try simp only [List.getElem_toArray, List.getElem_cons_zero, List.getElem_cons_succ, Act.put, List.setIfInBounds_toArray, List.set_cons_zero, List.set_cons_succ])
  refine wpAnyH_ready (rs := [3]) (by kernel_rfl) (by simp) ?_
  refine AllReadyH.cons (o := _) rfl (fun K hK => ?_) AllReadyH.nil
  go_simp
  refine (K2.out _).mono ?_
  rintro e w4 ⟨rfl, hb4⟩
  try dsimp only
  refine hK.out _ _ ?hS9 (fun hHeld => ?rest9)
  case hS9 => ((try dsimp only); (((try go_split_ands); refine sn_of ?_; repeat' (first | with_reducible assumption | with_reducible exact Below.refl _ _ | with_reducible apply below_alloc | with_reducible apply below_drew1 | with_reducible apply below_drewN | (with_reducible apply below_step; with_reducible assumption) | (with_reducible apply below_sg2; (first | exact Nat.le_refl _ | (simp; done) | omega))))))
  case' rest9 => (clear hK K; try simp only [List.getElem_toArray, List.getElem_cons_zero, List.getElem_cons_succ, Act.put, List.setIfInBounds_toArray, List.set_cons_zero, List.set_cons_succ])
  refine wpAnyH_ready (rs := [4]) (by kernel_rfl) (by simp) ?_
  refine AllReadyH.cons (o := _) rfl (fun K hK => ?_) AllReadyH.nil
  go_simp
  refine hK.out _ _ ?hS12 (fun hHeld => ?rest12)
  case hS12 => ((try dsimp only); (((try go_split_ands); refine sn_of ?_; repeat' (first | with_reducible assumption | with_reducible exact Below.refl _ _ | with_reducible apply below_alloc | with_reducible apply below_drew1 | with_reducible apply below_drewN | (with_reducible apply below_step; with_reducible assumption) | (with_reducible apply below_sg2; (first | exact Nat.le_refl _ | (simp; done) | omega))))))
  case' rest12 => (clear hK K; try simp only [List.getElem_toArray, List.getElem_cons_zero, List.getElem_cons_succ, Act.put, List.setIfInBounds_toArray, List.set_cons_zero, List.set_cons_succ])
  refine wpAnyH_ready (rs := [5]) (by kernel_rfl) (by simp) ?_
  refine AllReadyH.cons (o := _) rfl (fun K hK => ?_) AllReadyH.nil
  go_simp
  refine hK.out _ _ ?hS15 (fun hHeld => ?rest15)
  case hS15 => ((try dsimp only); (((try go_split_ands); refine sn_of ?_; repeat' (first | with_reducible assumption | with_reducible exact Below.refl _ _ | with_reducible apply below_alloc | with_reducible apply below_drew1 | with_reducible apply below_drewN | (with_reducible apply below_step; with_reducible assumption) | (with_reducible apply below_sg2; (first | exact Nat.le_refl _ | (simp; done) | omega))))))
  case' rest15 => (clear hK K; try simp only [List.getElem_toArray, List.getElem_cons_zero, List.getElem_cons_succ, Act.put, List.setIfInBounds_toArray, List.set_cons_zero, List.set_cons_succ])
  refine wpAnyH_take (i := 6) (oi := _) (v := ?v16) rfl (by kernel_rfl) (by kernel_rfl) (by kernel_rfl) (fun _ _ _ h => h) (Or.inl ⟨by rfl, ?hy16⟩) (by assumption) ?rest16
  case hy16 => ((intro w hSw; (try dsimp only at hSw); go_simp) <;> with_reducible rfl)
  case' rest16 => try simp only [List.getElem_toArray, List.getElem_cons_zero, List.getElem_cons_succ, Act.put, List.setIfInBounds_toArray, List.set_cons_zero, List.set_cons_succ]
  refine wpAnyH_take (i := 8) (oi := _) (v := ?v17) rfl (by kernel_rfl) (by kernel_rfl) (by kernel_rfl) (fun _ _ _ h => h) (Or.inl ⟨by rfl, ?hy17⟩) (by assumption) ?rest17
  case hy17 => ((intro w hSw; (try dsimp only at hSw); go_simp) <;> with_reducible rfl)
  case' rest17 => try simp only [List.getElem_toArray, List.getElem_cons_zero, List.getElem_cons_succ, Act.put, List.setIfInBounds_toArray, List.set_cons_zero, List.set_cons_succ]
  refine wpAnyH_ready (rs := [7]) (by kernel_rfl) (by simp) ?_
  refine AllReadyH.cons (o := _) rfl (fun K hK => ?_) AllReadyH.nil
  go_simp
  refine (K3.out _).mono ?_
  rintro e w5 ⟨rfl, hb5⟩
  try dsimp only
  refine hK.out _ _ ?hS20 (fun hHeld => ?rest20)
  case hS20 => ((try dsimp only); (((try go_split_ands); refine sn_of ?_; repeat' (first | with_reducible assumption | with_reducible exact Below.refl _ _ | with_reducible apply below_alloc | with_reducible apply below_drew1 | with_reducible apply below_drewN | (with_reducible apply below_step; with_reducible assumption) | (with_reducible apply below_sg2; (first | exact Nat.le_refl _ | (simp; done) | omega))))))
  case' rest20 => (clear hK K; try simp only [List.getElem_toArray, List.getElem_cons_zero, List.getElem_cons_succ, Act.put, List.setIfInBounds_toArray, List.set_cons_zero, List.set_cons_succ])
  refine wpAnyH_ready (rs := [9]) (by kernel_rfl) (by simp) ?_
  refine AllReadyH.cons (o := _) rfl (fun K hK => ?_) AllReadyH.nil
  go_simp
  refine (K4.out _).mono ?_
  rintro e w6 ⟨rfl, hb6⟩
  try dsimp only
  refine hK.out _ _ ?hS23 (fun hHeld => ?rest23)
  case hS23 => ((try dsimp only); (((try go_split_ands); refine sn_of ?_; repeat' (first | with_reducible assumption | with_reducible exact Below.refl _ _ | with_reducible apply below_alloc | with_reducible apply below_drew1 | with_reducible apply below_drewN | (with_reducible apply below_step; with_reducible assumption) | (with_reducible apply below_sg2; (first | exact Nat.le_refl _ | (simp; done) | omega))))))
  case' rest23 => (clear hK K; try simp only [List.getElem_toArray, List.getElem_cons_zero, List.getElem_cons_succ, Act.put, List.setIfInBounds_toArray, List.set_cons_zero, List.set_cons_succ])
  refine wpAnyH_ready (rs := [10]) (by kernel_rfl) (by simp) ?_
  refine AllReadyH.cons (o := _) rfl (fun K hK => ?_) AllReadyH.nil
  go_simp
  refine hK.out _ _ ?hS26 (fun hHeld => ?rest26)
  case hS26 => ((try dsimp only); (((try go_split_ands); refine sn_of ?_; repeat' (first | with_reducible assumption | with_reducible exact Below.refl _ _ | with_reducible apply below_alloc | with_reducible apply below_drew1 | with_reducible apply below_drewN | (with_reducible apply below_step; with_reducible assumption) | (with_reducible apply below_sg2; (first | exact Nat.le_refl _ | (simp; done) | omega))))))
  case' rest26 => (clear hK K; try simp only [List.getElem_toArray, List.getElem_cons_zero, List.getElem_cons_succ, Act.put, List.setIfInBounds_toArray, List.set_cons_zero, List.set_cons_succ])
  refine wpAnyH_ready (rs := [11]) (by kernel_rfl) (by simp) ?_
  refine AllReadyH.cons (o := _) rfl (fun K hK => ?_) AllReadyH.nil
  go_simp
  refine hK.out _ _ ?hS29 (fun hHeld => ?rest29)
  case hS29 => ((try dsimp only); (((try go_split_ands); refine sn_of ?_; repeat' (first | with_reducible assumption | with_reducible exact Below.refl _ _ | with_reducible apply below_alloc | with_reducible apply below_drew1 | with_reducible apply below_drewN | (with_reducible apply below_step; with_reducible assumption) | (with_reducible apply below_sg2; (first | exact Nat.le_refl _ | (simp; done) | omega))))))
  case' rest29 => (clear hK K; try simp only [List.getElem_toArray, List.getElem_cons_zero, List.getElem_cons_succ, Act.put, List.setIfInBounds_toArray, List.set_cons_zero, List.set_cons_succ])
  refine wpAnyH_ready (rs := [12]) (by kernel_rfl) (by simp) ?_
  refine AllReadyH.cons (o := _) rfl (fun K hK => ?_) AllReadyH.nil
  go_simp
  refine hK.out _ _ ?hS32 (fun hHeld => ?rest32)
  case hS32 => ((try dsimp only); (((try go_split_ands); refine sn_of ?_; repeat' (first | with_reducible assumption | with_reducible exact Below.refl _ _ | with_reducible apply below_alloc | with_reducible apply below_drew1 | with_reducible apply below_drewN | (with_reducible apply below_step; with_reducible assumption) | (with_reducible apply below_sg2; (first | exact Nat.le_refl _ | (simp; done) | omega))))))
  case' rest32 => (clear hK K; try simp only [List.getElem_toArray, List.getElem_cons_zero, List.getElem_cons_succ, Act.put, List.setIfInBounds_toArray, List.set_cons_zero, List.set_cons_succ])
  refine wpAnyH_take (i := 13) (oi := _) (v := ?v33) rfl (by kernel_rfl) (by kernel_rfl) (by kernel_rfl) (fun _ _ _ h => h) (Or.inl ⟨by rfl, ?hy33⟩) (by assumption) ?rest33
  case hy33 => ((intro w hSw; (try dsimp only at hSw); go_simp) <;> with_reducible rfl)
  case' rest33 => try simp only [List.getElem_toArray, List.getElem_cons_zero, List.getElem_cons_succ, Act.put, List.setIfInBounds_toArray, List.set_cons_zero, List.set_cons_succ]
  refine wpAnyH_take (i := 15) (oi := _) (v := ?v34) rfl (by kernel_rfl) (by kernel_rfl) (by kernel_rfl) (fun _ _ _ h => h) (Or.inl ⟨by rfl, ?hy34⟩) (by assumption) ?rest34
  case hy34 => ((intro w hSw; (try dsimp only at hSw); go_simp) <;> with_reducible rfl)
  case' rest34 => try simp only [List.getElem_toArray, List.getElem_cons_zero, List.getElem_cons_succ, Act.put, List.setIfInBounds_toArray, List.set_cons_zero, List.set_cons_succ]
  refine wpAnyH_ready (rs := [14]) (by kernel_rfl) (by simp) ?_
  refine AllReadyH.cons (o := _) rfl (fun K hK => ?_) AllReadyH.nil
  go_simp
  refine (K5.out _).mono ?_
  rintro e w7 ⟨rfl, hb7⟩
  try dsimp only
  refine hK.out _ _ ?hS37 (fun hHeld => ?rest37)
  case hS37 => ((try dsimp only); (((try go_split_ands); refine sn_of ?_; repeat' (first | with_reducible assumption | with_reducible exact Below.refl _ _ | with_reducible apply below_alloc | with_reducible apply below_drew1 | with_reducible apply below_drewN | (with_reducible apply below_step; with_reducible assumption) | (with_reducible apply below_sg2; (first | exact Nat.le_refl _ | (simp; done) | omega))))))
  case' rest37 => (clear hK K; try simp only [List.getElem_toArray, List.getElem_cons_zero, List.getElem_cons_succ, Act.put, List.setIfInBounds_toArray, List.set_cons_zero, List.set_cons_succ])
  refine wpAnyH_ready (rs := [16]) (by kernel_rfl) (by simp) ?_
  refine AllReadyH.cons (o := _) rfl (fun K hK => ?_) AllReadyH.nil
  go_simp
  refine (K6.out _).mono ?_
  rintro e w8 ⟨rfl, hb8⟩
  try dsimp only
  refine hK.out _ _ ?hS40 (fun hHeld => ?rest40)
  case hS40 => ((try dsimp only); (((try go_split_ands); refine sn_of ?_; repeat' (first | with_reducible assumption | with_reducible exact Below.refl _ _ | with_reducible apply below_alloc | with_reducible apply below_drew1 | with_reducible apply below_drewN | (with_reducible apply below_step; with_reducible assumption) | (with_reducible apply below_sg2; (first | exact Nat.le_refl _ | (simp; done) | omega))))))
  case' rest40 => (clear hK K; try simp only [List.getElem_toArray, List.getElem_cons_zero, List.getElem_cons_succ, Act.put, List.setIfInBounds_toArray, List.set_cons_zero, List.set_cons_succ])
  refine wpAnyH_ready (rs := [17]) (by kernel_rfl) (by simp) ?_
  refine AllReadyH.cons (o := _) rfl (fun K hK => ?_) AllReadyH.nil
  go_simp
  refine hK.out _ _ ?hS43 (fun hHeld => ?rest43)
  case hS43 => ((try dsimp only); (((try go_split_ands); refine sn_of ?_; repeat' (first | with_reducible assumption | with_reducible exact Below.refl _ _ | with_reducible apply below_alloc | with_reducible apply below_drew1 | with_reducible apply below_drewN | (with_reducible apply below_step; with_reducible assumption) | (with_reducible apply below_sg2; (first | exact Nat.le_refl _ | (simp; done) | omega))))))
  case' rest43 => (clear hK K; try simp only [List.getElem_toArray, List.getElem_cons_zero, List.getElem_cons_succ, Act.put, List.setIfInBounds_toArray, List.set_cons_zero, List.set_cons_succ])
  refine wpAnyH_ready (rs := [18]) (by kernel_rfl) (by simp) ?_
  refine AllReadyH.cons (o := _) rfl (fun K hK => ?_) AllReadyH.nil
  go_simp
  refine hK.out _ _ ?hS46 (fun hHeld => ?rest46)
  case hS46 => ((try dsimp only); (((try go_split_ands); refine sn_of ?_; repeat' (first | with_reducible assumption | with_reducible exact Below.refl _ _ | with_reducible apply below_alloc | with_reducible apply below_drew1 | with_reducible apply below_drewN | (with_reducible apply below_step; with_reducible assumption) | (with_reducible apply below_sg2; (first | exact Nat.le_refl _ | (simp; done) | omega))))))
  case' rest46 => (clear hK K; try simp only [List.getElem_toArray, List.getElem_cons_zero, List.getElem_cons_succ, Act.put, List.setIfInBounds_toArray, List.set_cons_zero, List.set_cons_succ])
  refine wpAnyH_ready (rs := [19]) (by kernel_rfl) (by simp) ?_
  refine AllReadyH.cons (o := _) rfl (fun K hK => ?_) AllReadyH.nil
  go_simp
  refine hK.out _ _ ?hS49 (fun hHeld => ?rest49)
  case hS49 => ((try dsimp only); (((try go_split_ands); refine sn_of ?_; repeat' (first | with_reducible assumption | with_reducible exact Below.refl _ _ | with_reducible apply below_alloc | with_reducible apply below_drew1 | with_reducible apply below_drewN | (with_reducible apply below_step; with_reducible assumption) | (with_reducible apply below_sg2; (first | exact Nat.le_refl _ | (simp; done) | omega))))))
  case' rest49 => (clear hK K; try simp only [List.getElem_toArray, List.getElem_cons_zero, List.getElem_cons_succ, Act.put, List.setIfInBounds_toArray, List.set_cons_zero, List.set_cons_succ])
  refine wpAnyH_take (i := 20) (oi := _) (v := ?v50) rfl (by kernel_rfl) (by kernel_rfl) (by kernel_rfl) (fun _ _ _ h => h) (Or.inl ⟨by rfl, ?hy50⟩) (by assumption) ?rest50
  case hy50 => ((intro w hSw; (try dsimp only at hSw); go_simp) <;> with_reducible rfl)
  case' rest50 => try simp only [List.getElem_toArray, List.getElem_cons_zero, List.getElem_cons_succ, Act.put, List.setIfInBounds_toArray, List.set_cons_zero, List.set_cons_succ]
  refine wpAnyH_take (i := 21) (oi := _) (v := ?v51) rfl (by kernel_rfl) (by kernel_rfl) (by kernel_rfl) (fun _ _ _ h => h) (Or.inl ⟨by rfl, ?hy51⟩) (by assumption) ?rest51
  case hy51 => ((intro w hSw; (try dsimp only at hSw); go_simp) <;> with_reducible rfl)
  case' rest51 => try simp only [List.getElem_toArray, List.getElem_cons_zero, List.getElem_cons_succ, Act.put, List.setIfInBounds_toArray, List.set_cons_zero, List.set_cons_succ]
  refine wpAnyH_take (i := 23) (oi := _) (v := ?v52) rfl (by kernel_rfl) (by kernel_rfl) (by kernel_rfl) (fun _ _ _ h => h) (Or.inl ⟨by rfl, ?hy52⟩) (by assumption) ?rest52
  case hy52 => ((intro w hSw; (try dsimp only at hSw); go_simp) <;> with_reducible rfl)
  case' rest52 => try simp only [List.getElem_toArray, List.getElem_cons_zero, List.getElem_cons_succ, Act.put, List.setIfInBounds_toArray, List.set_cons_zero, List.set_cons_succ]
  refine wpAnyH_take (i := 24) (oi := _) (v := ?v53) rfl (by kernel_rfl) (by kernel_rfl) (by kernel_rfl) (fun _ _ _ h => h) (Or.inl ⟨by rfl, ?hy53⟩) (by assumption) ?rest53
  case hy53 => ((intro w hSw; (try dsimp only at hSw); go_simp) <;> with_reducible rfl)
  case' rest53 => try simp only [List.getElem_toArray, List.getElem_cons_zero, List.getElem_cons_succ, Act.put, List.setIfInBounds_toArray, List.set_cons_zero, List.set_cons_succ]
  refine wpAnyH_ready (rs := [22]) (by kernel_rfl) (by simp) ?_
  refine AllReadyH.cons (o := _) rfl (fun K hK => ?_) AllReadyH.nil
  go_simp
  refine (K7.out _).mono ?_
  rintro e w9 ⟨rfl, hb9⟩
  try dsimp only
  refine hK.out _ _ ?hS56 (fun hHeld => ?rest56)
  case hS56 => ((try dsimp only); (((try go_split_ands); refine sn_of ?_; repeat' (first | with_reducible assumption | with_reducible exact Below.refl _ _ | with_reducible apply below_alloc | with_reducible apply below_drew1 | with_reducible apply below_drewN | (with_reducible apply below_step; with_reducible assumption) | (with_reducible apply below_sg2; (first | exact Nat.le_refl _ | (simp; done) | omega))))))
  case' rest56 => (clear hK K; try simp only [List.getElem_toArray, List.getElem_cons_zero, List.getElem_cons_succ, Act.put, List.setIfInBounds_toArray, List.set_cons_zero, List.set_cons_succ])
  refine wpAnyH_ready (rs := [25]) (by kernel_rfl) (by simp) ?_
  refine AllReadyH.cons (o := _) rfl (fun K hK => ?_) AllReadyH.nil
  go_simp
  refine (K8.out _).mono ?_
  rintro e w10 ⟨rfl, hb10⟩
  try dsimp only
  refine hK.out _ _ ?hS59 (fun hHeld => ?rest59)
  case hS59 => ((try dsimp only); (((try go_split_ands); refine sn_of ?_; repeat' (first | with_reducible assumption | with_reducible exact Below.refl _ _ | with_reducible apply below_alloc | with_reducible apply below_drew1 | with_reducible apply below_drewN | (with_reducible apply below_step; with_reducible assumption) | (with_reducible apply below_sg2; (first | exact Nat.le_refl _ | (simp; done) | omega))))))
  case' rest59 => (clear hK K; try simp only [List.getElem_toArray, List.getElem_cons_zero, List.getElem_cons_succ, Act.put, List.setIfInBounds_toArray, List.set_cons_zero, List.set_cons_succ])
  refine wpAnyH_ready (rs := [26]) (by kernel_rfl) (by simp) ?_
  refine AllReadyH.cons (o := _) rfl (fun K hK => ?_) AllReadyH.nil
  go_simp
  refine hK.out _ _ ?hS62 (fun hHeld => ?rest62)
  case hS62 => ((try dsimp only); (((try go_split_ands); refine sn_of ?_; repeat' (first | with_reducible assumption | with_reducible exact Below.refl _ _ | with_reducible apply below_alloc | with_reducible apply below_drew1 | with_reducible apply below_drewN | (with_reducible apply below_step; with_reducible assumption) | (with_reducible apply below_sg2; (first | exact Nat.le_refl _ | (simp; done) | omega))))))
  case' rest62 => (clear hK K; try simp only [List.getElem_toArray, List.getElem_cons_zero, List.getElem_cons_succ, Act.put, List.setIfInBounds_toArray, List.set_cons_zero, List.set_cons_succ])
  refine wpAnyH_ready (rs := [27]) (by kernel_rfl) (by simp) ?_
  refine AllReadyH.cons (o := _) rfl (fun K hK => ?_) AllReadyH.nil
  go_simp
  refine hK.out _ _ ?hS65 (fun hHeld => ?rest65)
  case hS65 => ((try dsimp only); (((try go_split_ands); refine sn_of ?_; repeat' (first | with_reducible assumption | with_reducible exact Below.refl _ _ | with_reducible apply below_alloc | with_reducible apply below_drew1 | with_reducible apply below_drewN | (with_reducible apply below_step; with_reducible assumption) | (with_reducible apply below_sg2; (first | exact Nat.le_refl _ | (simp; done) | omega))))))
  case' rest65 => (clear hK K; try simp only [List.getElem_toArray, List.getElem_cons_zero, List.getElem_cons_succ, Act.put, List.setIfInBounds_toArray, List.set_cons_zero, List.set_cons_succ])
  refine wpAnyH_ready (rs := [28]) (by kernel_rfl) (by simp) ?_
  refine AllReadyH.cons (o := _) rfl (fun K hK => ?_) AllReadyH.nil
  go_simp
  refine hK.out _ _ ?hS68 (fun hHeld => ?rest68)
  case hS68 => ((try dsimp only); (((try go_split_ands); refine sn_of ?_; repeat' (first | with_reducible assumption | with_reducible exact Below.refl _ _ | with_reducible apply below_alloc | with_reducible apply below_drew1 | with_reducible apply below_drewN | (with_reducible apply below_step; with_reducible assumption) | (with_reducible apply below_sg2; (first | exact Nat.le_refl _ | (simp; done) | omega))))))
  case' rest68 => (clear hK K; try simp only [List.getElem_toArray, List.getElem_cons_zero, List.getElem_cons_succ, Act.put, List.setIfInBounds_toArray, List.set_cons_zero, List.set_cons_succ])
  refine wpAnyH_ready (rs := [29]) (by kernel_rfl) (by simp) ?_
  refine AllReadyH.cons (o := _) rfl (fun K hK => ?_) AllReadyH.nil
  go_simp
  refine (known_14 _).mono ?_
  rintro e w11 ⟨rfl, hb11⟩
  try dsimp only
  refine hK.out _ _ ?hS71 (fun hHeld => ?rest71)
  case hS71 => ((try dsimp only); (((try go_split_ands); refine sn_of ?_; repeat' (first | with_reducible assumption | with_reducible exact Below.refl _ _ | with_reducible apply below_alloc | with_reducible apply below_drew1 | with_reducible apply below_drewN | (with_reducible apply below_step; with_reducible assumption) | (with_reducible apply below_sg2; (first | exact Nat.le_refl _ | (simp; done) | omega))))))
  case' rest71 => (clear hK K; try simp only [List.getElem_toArray, List.getElem_cons_zero, List.getElem_cons_succ, Act.put, List.setIfInBounds_toArray, List.set_cons_zero, List.set_cons_succ])
  refine wpAnyH_ready (rs := [30]) (by kernel_rfl) (by simp) ?_
  refine AllReadyH.cons (o := _) rfl (fun K hK => ?_) AllReadyH.nil
  go_simp
  refine hK.out _ _ ?hS74 (fun hHeld => ?rest74)
  case hS74 => ((try dsimp only); (((try go_split_ands); refine sn_of ?_; repeat' (first | with_reducible assumption | with_reducible exact Below.refl _ _ | with_reducible apply below_alloc | with_reducible apply below_drew1 | with_reducible apply below_drewN | (with_reducible apply below_step; with_reducible assumption) | (with_reducible apply below_sg2; (first | exact Nat.le_refl _ | (simp; done) | omega))))))
  case' rest74 => (clear hK K; try simp only [List.getElem_toArray, List.getElem_cons_zero, List.getElem_cons_succ, Act.put, List.setIfInBounds_toArray, List.set_cons_zero, List.set_cons_succ])
  refine wpAnyH_ready (rs := [31]) (by kernel_rfl) (by simp) ?_
  refine AllReadyH.cons (o := _) rfl (fun K hK => ?_) AllReadyH.nil
  go_simp
  refine hK.out _ _ ?hS77 (fun hHeld => ?rest77)
  case hS77 => ((try dsimp only); (((try go_split_ands); refine sn_of ?_; repeat' (first | with_reducible assumption | with_reducible exact Below.refl _ _ | with_reducible apply below_alloc | with_reducible apply below_drew1 | with_reducible apply below_drewN | (with_reducible apply below_step; with_reducible assumption) | (with_reducible apply below_sg2; (first | exact Nat.le_refl _ | (simp; done) | omega))))))
  case' rest77 => (clear hK K; try simp only [List.getElem_toArray, List.getElem_cons_zero, List.getElem_cons_succ, Act.put, List.setIfInBounds_toArray, List.set_cons_zero, List.set_cons_succ])
  refine wpAnyH_done (by kernel_rfl) ?_ _
  have hEnd := hHeld.2
  repeat (clear hHeld)
  go_wp2_with fail
  go_ret
  exact (⟨rfl, below_step hEnd hbw⟩ : TrueB w _ _)
theorem blk_five (w : World) (t1 t2 t3 t4 t5 : TypeId) (c1 c2 c3 c4 c5 : Array Value) :
    Blk (((((w.alloc (.cells c1 t1)).alloc (.cells c2 t2)).alloc (.cells c3 t3)).alloc (.cells c4 t4)).alloc (.cells c5 t5)) w.heap.size t1 c1 ∧
    Blk (((((w.alloc (.cells c1 t1)).alloc (.cells c2 t2)).alloc (.cells c3 t3)).alloc (.cells c4 t4)).alloc (.cells c5 t5)) (w.heap.size + 1) t2 c2 ∧
    Blk (((((w.alloc (.cells c1 t1)).alloc (.cells c2 t2)).alloc (.cells c3 t3)).alloc (.cells c4 t4)).alloc (.cells c5 t5)) (w.heap.size + 1 + 1) t3 c3 ∧
    Blk (((((w.alloc (.cells c1 t1)).alloc (.cells c2 t2)).alloc (.cells c3 t3)).alloc (.cells c4 t4)).alloc (.cells c5 t5)) (w.heap.size + 1 + 1 + 1) t4 c4 ∧
    Blk (((((w.alloc (.cells c1 t1)).alloc (.cells c2 t2)).alloc (.cells c3 t3)).alloc (.cells c4 t4)).alloc (.cells c5 t5)) (w.heap.size + 1 + 1 + 1 + 1) t5 c5 ∧
    Below w.heap.size w (((((w.alloc (.cells c1 t1)).alloc (.cells c2 t2)).alloc (.cells c3 t3)).alloc (.cells c4 t4)).alloc (.cells c5 t5)) := by
  obtain ⟨h1, h2, h3⟩ := blk_three w t1 t2 t3 c1 c2 c3
  have h4 := blk_one (((w.alloc (.cells c1 t1)).alloc (.cells c2 t2)).alloc (.cells c3 t3)) t4 c4
  have h5 := blk_one ((((w.alloc (.cells c1 t1)).alloc (.cells c2 t2)).alloc (.cells c3 t3)).alloc (.cells c4 t4)) t5 c5
  refine ⟨(h1.alloc _).alloc _, (h2.alloc _).alloc _, (h3.alloc _).alloc _, ?_, ?_, (by repeat' (first | with_reducible assumption | with_reducible exact Below.refl _ _ | with_reducible apply below_alloc | with_reducible apply below_drew1 | with_reducible apply below_drewN | (with_reducible apply below_step; with_reducible assumption) | (with_reducible apply below_sg2; (first | exact Nat.le_refl _ | (simp; done) | omega))))⟩
  · simpa using h4.alloc (.cells c5 t5)
  · simpa using h5
theorem entryOrder_walk (a0 a1 a2 b0 b1 b2 : Int) (w : World) :
    Calls Try.prog 5 #[.agg #[.int .i64 a0, .int .i64 a1, .int .i64 a2], .agg #[.int .i64 b0, .int .i64 b1, .int .i64 b2]] w (TrueB w) := by
  have K1 := hide (fun W => ent_before ⟨a0, b0, ⟨#[]⟩, 0, 0, false, false, 0, 0, 0, []⟩ ⟨a1, b1, ⟨#[]⟩, 0, 0, false, false, 0, 0, 0, []⟩ none none 0 0 0 0 W)
  have K2 := hide (fun W => ent_before ⟨a1, b1, ⟨#[]⟩, 0, 0, false, false, 0, 0, 0, []⟩ ⟨a0, b0, ⟨#[]⟩, 0, 0, false, false, 0, 0, 0, []⟩ none none 0 0 0 0 W)
  have K3 := hide (fun W => ent_before ⟨a1, b1, ⟨#[]⟩, 0, 0, false, false, 0, 0, 0, []⟩ ⟨a2, b2, ⟨#[]⟩, 0, 0, false, false, 0, 0, 0, []⟩ none none 0 0 0 0 W)
  have K4 := hide (fun W => ent_before ⟨a0, b0, ⟨#[]⟩, 0, 0, false, false, 0, 0, 0, []⟩ ⟨a2, b2, ⟨#[]⟩, 0, 0, false, false, 0, 0, 0, []⟩ none none 0 0 0 0 W)
  simp only [entV] at K1 K2 K3 K4
  obtain ⟨p, hp⟩ : ∃ p, p = beforeB a0 b0 a1 b1 := ⟨_, rfl⟩
  obtain ⟨q, hq⟩ : ∃ q, q = beforeB a1 b1 a0 b0 := ⟨_, rfl⟩
  obtain ⟨r, hr⟩ : ∃ r, r = beforeB a1 b1 a2 b2 := ⟨_, rfl⟩
  obtain ⟨s, hs⟩ : ∃ s, s = beforeB a0 b0 a2 b2 := ⟨_, rfl⟩
  have HF : Hid ((p && q) = false ∧ (p || q) = !(decide (a0 = a1) && decide (b0 = b1)) ∧ (p = true → r = true → s = true)) := hide (by
    subst hp hq hr hs
    unfold beforeB
    refine ⟨?_, ?_, ?_⟩
    · rw [Bool.eq_false_iff]; simp; omega
    · rw [Bool.eq_iff_iff]; simp; omega
    · simp; omega)
  rw [← hp] at K1
  rw [← hq] at K2
  rw [← hr] at K3
  rw [← hs] at K4
  clear hp hq hr hs
  have HB := hide (blk_five w 36 36 24 24 24 #[.int .i64 a0, .int .i64 a1, .int .i64 a2] #[.int .i64 b0, .int .i64 b1, .int .i64 b2]
    #[.int .i64 a0, .int .i64 b0, .string ⟨#[]⟩, .int .i64 0, .int .i64 0, .bool false, .bool false, .int .i64 0, .int .i64 0, .int .i64 0, .slice none 0 0]
    #[.int .i64 a1, .int .i64 b1, .string ⟨#[]⟩, .int .i64 0, .int .i64 0, .bool false, .bool false, .int .i64 0, .int .i64 0, .int .i64 0, .slice none 0 0]
    #[.int .i64 a2, .int .i64 b2, .string ⟨#[]⟩, .int .i64 0, .int .i64 0, .bool false, .bool false, .int .i64 0, .int .i64 0, .int .i64 0, .slice none 0 0])
  have HC : Hid ((p = false ∧ q = false ∧ a0 = a1 ∧ b0 = b1) ∨ (p = true ∧ q = false ∧ a0 = a1 ∧ (b0 == b1) = false) ∨ (p = true ∧ q = false ∧ (a0 == a1) = false) ∨ (p = false ∧ q = true ∧ a0 = a1 ∧ (b0 == b1) = false) ∨ (p = false ∧ q = true ∧ (a0 == a1) = false)) := hide (by
    obtain ⟨h1, h2, _⟩ := HF.out
    by_cases e1 : a0 = a1 <;> by_cases e2 : b0 = b1 <;> cases p <;> cases q <;> simp_all)
  have HT := hide HF.out.2.2
  clear HF
  go_enter Try.func5, Try.ntmps5
  go_wp2_with fail
  obtain ⟨x1, x2, x3, x4, x5, hbw⟩ := HB.out
  generalize ((((w.alloc (.cells #[.int .i64 a0, .int .i64 a1, .int .i64 a2] 36)).alloc (.cells #[.int .i64 b0, .int .i64 b1, .int .i64 b2] 36)).alloc _).alloc _).alloc _ = W0 at *
  refine (K1.out _).mono ?_
  rintro e w1 ⟨rfl, hb1⟩
  replace x1 := x1.below hb1 x1.lt
  replace x2 := x2.below hb1 x2.lt
  replace x3 := x3.below hb1 x3.lt
  replace x4 := x4.below hb1 x4.lt
  replace x5 := x5.below hb1 x5.lt
  replace hbw := below_step hb1 hbw
  clear hb1 HB
  have x3_c0 := x3.cell 0 rfl
  have x3_f0 := x3.frozen 0
  have x3_c1 := x3.cell 1 rfl
  have x3_f1 := x3.frozen 1
  have x3_c2 := x3.cell 2 rfl
  have x3_f2 := x3.frozen 2
  have x3_c3 := x3.cell 3 rfl
  have x3_f3 := x3.frozen 3
  have x3_c4 := x3.cell 4 rfl
  have x3_f4 := x3.frozen 4
  have x3_c5 := x3.cell 5 rfl
  have x3_f5 := x3.frozen 5
  have x3_c6 := x3.cell 6 rfl
  have x3_f6 := x3.frozen 6
  have x3_c7 := x3.cell 7 rfl
  have x3_f7 := x3.frozen 7
  have x3_c8 := x3.cell 8 rfl
  have x3_f8 := x3.frozen 8
  have x3_c9 := x3.cell 9 rfl
  have x3_f9 := x3.frozen 9
  have x3_c10 := x3.cell 10 rfl
  have x3_f10 := x3.frozen 10
  have x4_c0 := x4.cell 0 rfl
  have x4_f0 := x4.frozen 0
  have x4_c1 := x4.cell 1 rfl
  have x4_f1 := x4.frozen 1
  have x4_c2 := x4.cell 2 rfl
  have x4_f2 := x4.frozen 2
  have x4_c3 := x4.cell 3 rfl
  have x4_f3 := x4.frozen 3
  have x4_c4 := x4.cell 4 rfl
  have x4_f4 := x4.frozen 4
  have x4_c5 := x4.cell 5 rfl
  have x4_f5 := x4.frozen 5
  have x4_c6 := x4.cell 6 rfl
  have x4_f6 := x4.frozen 6
  have x4_c7 := x4.cell 7 rfl
  have x4_f7 := x4.frozen 7
  have x4_c8 := x4.cell 8 rfl
  have x4_f8 := x4.frozen 8
  have x4_c9 := x4.cell 9 rfl
  have x4_f9 := x4.frozen 9
  have x4_c10 := x4.cell 10 rfl
  have x4_f10 := x4.frozen 10
  go_wp2_with fail
  refine (K2.out _).mono ?_
  rintro e w2 ⟨rfl, hb2⟩
  clear x3_c0 x3_f0 x3_c1 x3_f1 x3_c2 x3_f2 x3_c3 x3_f3 x3_c4 x3_f4 x3_c5 x3_f5 x3_c6 x3_f6 x3_c7 x3_f7 x3_c8 x3_f8 x3_c9 x3_f9 x3_c10 x3_f10
  clear x4_c0 x4_f0 x4_c1 x4_f1 x4_c2 x4_f2 x4_c3 x4_f3 x4_c4 x4_f4 x4_c5 x4_f5 x4_c6 x4_f6 x4_c7 x4_f7 x4_c8 x4_f8 x4_c9 x4_f9 x4_c10 x4_f10
  replace x1 := x1.below hb2 x1.lt
  replace x2 := x2.below hb2 x2.lt
  replace x3 := x3.below hb2 x3.lt
  replace x4 := x4.below hb2 x4.lt
  replace x5 := x5.below hb2 x5.lt
  replace hbw := below_step hb2 hbw
  clear hb2
  have x1_c0 := x1.cell 0 rfl
  have x1_f0 := x1.frozen 0
  have x1_c1 := x1.cell 1 rfl
  have x1_f1 := x1.frozen 1
  have x1_c2 := x1.cell 2 rfl
  have x1_f2 := x1.frozen 2
  have x2_c0 := x2.cell 0 rfl
  have x2_f0 := x2.frozen 0
  have x2_c1 := x2.cell 1 rfl
  have x2_f1 := x2.frozen 1
  have x2_c2 := x2.cell 2 rfl
  have x2_f2 := x2.frozen 2
  have x3_c0 := x3.cell 0 rfl
  have x3_f0 := x3.frozen 0
  have x3_c1 := x3.cell 1 rfl
  have x3_f1 := x3.frozen 1
  have x3_c2 := x3.cell 2 rfl
  have x3_f2 := x3.frozen 2
  have x3_c3 := x3.cell 3 rfl
  have x3_f3 := x3.frozen 3
  have x3_c4 := x3.cell 4 rfl
  have x3_f4 := x3.frozen 4
  have x3_c5 := x3.cell 5 rfl
  have x3_f5 := x3.frozen 5
  have x3_c6 := x3.cell 6 rfl
  have x3_f6 := x3.frozen 6
  have x3_c7 := x3.cell 7 rfl
  have x3_f7 := x3.frozen 7
  have x3_c8 := x3.cell 8 rfl
  have x3_f8 := x3.frozen 8
  have x3_c9 := x3.cell 9 rfl
  have x3_f9 := x3.frozen 9
  have x3_c10 := x3.cell 10 rfl
  have x3_f10 := x3.frozen 10
  have x4_c0 := x4.cell 0 rfl
  have x4_f0 := x4.frozen 0
  have x4_c1 := x4.cell 1 rfl
  have x4_f1 := x4.frozen 1
  have x4_c2 := x4.cell 2 rfl
  have x4_f2 := x4.frozen 2
  have x4_c3 := x4.cell 3 rfl
  have x4_f3 := x4.frozen 3
  have x4_c4 := x4.cell 4 rfl
  have x4_f4 := x4.frozen 4
  have x4_c5 := x4.cell 5 rfl
  have x4_f5 := x4.frozen 5
  have x4_c6 := x4.cell 6 rfl
  have x4_f6 := x4.frozen 6
  have x4_c7 := x4.cell 7 rfl
  have x4_f7 := x4.frozen 7
  have x4_c8 := x4.cell 8 rfl
  have x4_f8 := x4.frozen 8
  have x4_c9 := x4.cell 9 rfl
  have x4_f9 := x4.frozen 9
  have x4_c10 := x4.cell 10 rfl
  have x4_f10 := x4.frozen 10
  have x5_c0 := x5.cell 0 rfl
  have x5_f0 := x5.frozen 0
  have x5_c1 := x5.cell 1 rfl
  have x5_f1 := x5.frozen 1
  have x5_c2 := x5.cell 2 rfl
  have x5_f2 := x5.frozen 2
  have x5_c3 := x5.cell 3 rfl
  have x5_f3 := x5.frozen 3
  have x5_c4 := x5.cell 4 rfl
  have x5_f4 := x5.frozen 4
  have x5_c5 := x5.cell 5 rfl
  have x5_f5 := x5.frozen 5
  have x5_c6 := x5.cell 6 rfl
  have x5_f6 := x5.frozen 6
  have x5_c7 := x5.cell 7 rfl
  have x5_f7 := x5.frozen 7
  have x5_c8 := x5.cell 8 rfl
  have x5_f8 := x5.frozen 8
  have x5_c9 := x5.cell 9 rfl
  have x5_f9 := x5.frozen 9
  have x5_c10 := x5.cell 10 rfl
  have x5_f10 := x5.frozen 10
  have hcs := HC.out
  clear HC
  rcases hcs with ⟨rfl, rfl, e1, e2⟩ | ⟨rfl, rfl, e1, e2⟩ | ⟨rfl, rfl, e1⟩ | ⟨rfl, rfl, e1, e2⟩ | ⟨rfl, rfl, e1⟩
  all_goals (try subst e1)
  all_goals (try (rename_i e2; subst e2))
  all_goals (try subst e2)
  all_goals go_wp2_with fail
  all_goals first
    | (refine (known_14 _).mono ?_
       rintro e w3 ⟨rfl, hb3⟩
       go_wp2_with fail
       go_ret
       exact (⟨rfl, below_step hb3 hbw⟩ : TrueB w _ _))
    | (refine (K3.out _).mono ?_
       rintro e w3 ⟨rfl, hb3⟩
       replace x3 := x3.below hb3 x3.lt
       replace x5 := x5.below hb3 x5.lt
       replace hbw := below_step hb3 hbw
       clear hb3
       clear x3_c0 x3_f0 x3_c1 x3_f1 x3_c2 x3_f2 x3_c3 x3_f3 x3_c4 x3_f4 x3_c5 x3_f5 x3_c6 x3_f6 x3_c7 x3_f7 x3_c8 x3_f8 x3_c9 x3_f9 x3_c10 x3_f10
       clear x5_c0 x5_f0 x5_c1 x5_f1 x5_c2 x5_f2 x5_c3 x5_f3 x5_c4 x5_f4 x5_c5 x5_f5 x5_c6 x5_f6 x5_c7 x5_f7 x5_c8 x5_f8 x5_c9 x5_f9 x5_c10 x5_f10
       have x3_c0 := x3.cell 0 rfl
       have x3_f0 := x3.frozen 0
       have x3_c1 := x3.cell 1 rfl
       have x3_f1 := x3.frozen 1
       have x3_c2 := x3.cell 2 rfl
       have x3_f2 := x3.frozen 2
       have x3_c3 := x3.cell 3 rfl
       have x3_f3 := x3.frozen 3
       have x3_c4 := x3.cell 4 rfl
       have x3_f4 := x3.frozen 4
       have x3_c5 := x3.cell 5 rfl
       have x3_f5 := x3.frozen 5
       have x3_c6 := x3.cell 6 rfl
       have x3_f6 := x3.frozen 6
       have x3_c7 := x3.cell 7 rfl
       have x3_f7 := x3.frozen 7
       have x3_c8 := x3.cell 8 rfl
       have x3_f8 := x3.frozen 8
       have x3_c9 := x3.cell 9 rfl
       have x3_f9 := x3.frozen 9
       have x3_c10 := x3.cell 10 rfl
       have x3_f10 := x3.frozen 10
       have x5_c0 := x5.cell 0 rfl
       have x5_f0 := x5.frozen 0
       have x5_c1 := x5.cell 1 rfl
       have x5_f1 := x5.frozen 1
       have x5_c2 := x5.cell 2 rfl
       have x5_f2 := x5.frozen 2
       have x5_c3 := x5.cell 3 rfl
       have x5_f3 := x5.frozen 3
       have x5_c4 := x5.cell 4 rfl
       have x5_f4 := x5.frozen 4
       have x5_c5 := x5.cell 5 rfl
       have x5_f5 := x5.frozen 5
       have x5_c6 := x5.cell 6 rfl
       have x5_f6 := x5.frozen 6
       have x5_c7 := x5.cell 7 rfl
       have x5_f7 := x5.frozen 7
       have x5_c8 := x5.cell 8 rfl
       have x5_f8 := x5.frozen 8
       have x5_c9 := x5.cell 9 rfl
       have x5_f9 := x5.frozen 9
       have x5_c10 := x5.cell 10 rfl
       have x5_f10 := x5.frozen 10
       cases r
       · go_wp2_with fail
         refine (known_14 _).mono ?_
         rintro e w4 ⟨rfl, hb4⟩
         go_wp2_with fail
         go_ret
         exact (⟨rfl, below_step hb4 hbw⟩ : TrueB w _ _)
       · have hT := HT.out (by simp) (by simp)
         subst hT
         go_wp2_with fail
         refine (K4.out _).mono ?_
         rintro e w4 ⟨rfl, hb4⟩
         go_wp2_with fail
         refine (known_14 _).mono ?_
         rintro e w5 ⟨rfl, hb5⟩
         go_wp2_with fail
         go_ret
         exact (⟨rfl, below_step hb5 (below_step hb4 hbw)⟩ : TrueB w _ _))
end Go.Proofs.Ytcncbmlacphclaa
