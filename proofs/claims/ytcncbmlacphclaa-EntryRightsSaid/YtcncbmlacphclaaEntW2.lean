/- The walks of EntryValues and EntryRights. -/
import Derived.Test.YtcncbmlacphclaaEntK
import Derived.Test.YtcncbmlacphclaaREnt2
import Derived.Test.YtcncbmlacphclaaRef01b
import Derived.Deep.RegionHeld3
namespace Go.Proofs.Ytcncbmlacphclaa
set_option linter.unusedVariables false
set_option linter.unusedSimpArgs false
set_option linter.unnecessarySimpa false
open Go.RowKit
set_option maxRecDepth 100000
set_option maxHeartbeats 4000000

theorem entryValues_walk (E : Ent) (A A2 : Option Addr) (n c m d : Nat) (l : List UInt8) (w : World) (hm : m = l.length) (hd : m ≤ d) (hs : Sl w A2 (l.map bv)) :
    Calls Try.prog 4 #[.agg (entV E A n c), .slice A2 m d] w (TrueB w) := by
  have q0 := blk_one w 24 (entV E A n c)
  have hbw := below_alloc (Below.refl w.heap.size w) (.cells (entV E A n c) 24)
  have L1 := hide (fun W => light_any E A n c W)
  have HM := hide hm
  have K1 := hide (fun (B : Option Addr) (k : Nat) (W : World) h1 h2 h3 h4 => ent_value E A n c B m k l W h1 h2 h3 h4)
  have K2 := hide (fun W h1 h2 h3 h4 => rent_value E A n c A2 m d l W h1 h2 h3 h4)
  clear hm
  obtain ⟨b1, e1⟩ : ∃ b, b = lightB E n := ⟨_, rfl⟩
  rw [← e1] at L1
  clear e1
  obtain ⟨v, hv⟩ : ∃ v, v = valueE E.ty E.mx E.lo E.hi l := ⟨_, rfl⟩
  unfold ValR at K1
  unfold RValR at K2
  rw [← hv] at K1 K2
  clear hv
  obtain ⟨ix, sub, nm, ty, acc, mp, st, mx, lo, hi, df⟩ := E
  simp only [entV] at *
  go_enter Try.func4, Try.ntmps4
  go_wp2_with fail
  refine (L1.out _).mono ?_
  rintro e w1 ⟨rfl, hb1⟩
  replace q0 := q0.below hb1 q0.lt
  replace hbw := below_step hb1 hbw
  clear hb1
  cases b1
  · go_wp2_with fail
    refine (known_14 _).mono ?_
    rintro e w2 ⟨rfl, hb2⟩
    go_wp2_with fail
    go_ret
    exact (⟨rfl, below_step hb2 hbw⟩ : TrueB w _ _)
  by_cases hbig : 2000 < m
  · go_wp2_with fail
    refine (known_14 _).mono ?_
    rintro e w2 ⟨rfl, hb2⟩
    go_wp2_with fail
    go_ret
    exact (⟨rfl, below_step hb2 hbw⟩ : TrueB w _ _)
  have hm2 : m ≤ 2000 := by omega
  clear hbig
  go_wp2_with fail
  refine (lent_any A2 m d l _ HM.out (by omega) (hs.below hbw)).mono ?_
  rintro e w2 ⟨g, c2, rfl, hO, hb2⟩
  replace q0 := q0.below hb2 q0.lt
  replace hbw := below_step hb2 hbw
  clear hb2
  have hc2 := hO.le
  have hsO : Sl w2 (some ⟨g, 0, none⟩) (l.map bv) := by
    have := hO.sl.take m
    rw [List.map_append, HM.out, List.take_left' (by simp)] at this
    exact this
  go_wp2_with fail
  have z0 := q0.lt
  have q0_c0 := q0.cell 0 rfl
  have q0_f0 := q0.frozen 0
  have q0_c1 := q0.cell 1 rfl
  have q0_f1 := q0.frozen 1
  have q0_c2 := q0.cell 2 rfl
  have q0_f2 := q0.frozen 2
  have q0_c3 := q0.cell 3 rfl
  have q0_f3 := q0.frozen 3
  have q0_c4 := q0.cell 4 rfl
  have q0_f4 := q0.frozen 4
  have q0_c5 := q0.cell 5 rfl
  have q0_f5 := q0.frozen 5
  have q0_c6 := q0.cell 6 rfl
  have q0_f6 := q0.frozen 6
  have q0_c7 := q0.cell 7 rfl
  have q0_f7 := q0.frozen 7
  have q0_c8 := q0.cell 8 rfl
  have q0_f8 := q0.frozen 8
  have q0_c9 := q0.cell 9 rfl
  have q0_f9 := q0.frozen 9
  have q0_c10 := q0.cell 10 rfl
  have q0_f10 := q0.frozen 10
  refine wp_region_held_drew (S := (fun w' => (∀ p : Addr, p.block < (w2).heap.size → w'.cell? p = (w2).cell? p) ∧ Below (w2).heap.size (w2) w')) (by kernel_rfl) ?hS1 (fun hHeld => ?rest1)
  case hS1 => ((try dsimp only); (((try go_split_ands); refine sn_of ?_; repeat' (first | with_reducible assumption | with_reducible exact Below.refl _ _ | with_reducible apply below_alloc | with_reducible apply below_drew1 | with_reducible apply below_drewN | (with_reducible apply below_step; with_reducible assumption) | (with_reducible apply below_sg2; (first | exact Nat.le_refl _ | (simp; done) | omega))))))
  case' rest1 => skip
  refine wpAnyH_take (i := 0) (oi := _) (v := ?v2) rfl (by kernel_rfl) (by kernel_rfl) (by kernel_rfl) (fun _ _ _ h => h) (Or.inl ⟨by rfl, ?hy2⟩) (by assumption) ?rest2
  case hy2 => ((intro w hSw; (try dsimp only at hSw); go_simp) <;> with_reducible rfl)
  case' rest2 => try simp only [List.getElem_toArray, List.getElem_cons_zero, List.getElem_cons_succ, Act.put, List.setIfInBounds_toArray, List.set_cons_zero, List.set_cons_succ]
  refine wpAnyH_take (i := 1) (oi := _) (v := ?v3) rfl (by kernel_rfl) (by kernel_rfl) (by kernel_rfl) (fun _ _ _ h => h) (Or.inl ⟨by rfl, ?hy3⟩) (by assumption) ?rest3
  case hy3 => ((intro w hSw; (try dsimp only at hSw); go_simp) <;> with_reducible rfl)
  case' rest3 => try simp only [List.getElem_toArray, List.getElem_cons_zero, List.getElem_cons_succ, Act.put, List.setIfInBounds_toArray, List.set_cons_zero, List.set_cons_succ]
  refine wpAnyH_take (i := 3) (oi := _) (v := ?v4) rfl (by kernel_rfl) (by kernel_rfl) (by kernel_rfl) (fun _ _ _ h => h) (Or.inl ⟨by rfl, ?hy4⟩) (by assumption) ?rest4
  case hy4 => ((intro w hSw; (try dsimp only at hSw); go_simp) <;> with_reducible rfl)
  case' rest4 => try simp only [List.getElem_toArray, List.getElem_cons_zero, List.getElem_cons_succ, Act.put, List.setIfInBounds_toArray, List.set_cons_zero, List.set_cons_succ]
  refine wpAnyH_take (i := 4) (oi := _) (v := ?v5) rfl (by kernel_rfl) (by kernel_rfl) (by kernel_rfl) (fun _ _ _ h => h) (Or.inl ⟨by rfl, ?hy5⟩) (by assumption) ?rest5
  case hy5 => ((intro w hSw; (try dsimp only at hSw); go_simp) <;> with_reducible rfl)
  case' rest5 => try simp only [List.getElem_toArray, List.getElem_cons_zero, List.getElem_cons_succ, Act.put, List.setIfInBounds_toArray, List.set_cons_zero, List.set_cons_succ]
  refine wpAnyH_ready (rs := [2]) (by kernel_rfl) (by simp) ?_
  refine AllReadyH.cons (o := _) rfl (fun K hK => ?_) AllReadyH.nil
  go_simp
  refine (K1.out _ _ _ HM.out (by omega) (by omega) hsO.drew).mono ?_
  rintro e w3 ⟨rfl, hb3⟩
  try dsimp only
  refine hK.out _ _ ?hS8 (fun hHeld => ?rest8)
  case hS8 => ((try dsimp only); (((try go_split_ands); refine sn_of ?_; repeat' (first | with_reducible assumption | with_reducible exact Below.refl _ _ | with_reducible apply below_alloc | with_reducible apply below_drew1 | with_reducible apply below_drewN | (with_reducible apply below_step; with_reducible assumption) | (with_reducible apply below_sg2; (first | exact Nat.le_refl _ | (simp; done) | omega))))))
  case' rest8 => (clear hK K; try simp only [List.getElem_toArray, List.getElem_cons_zero, List.getElem_cons_succ, Act.put, List.setIfInBounds_toArray, List.set_cons_zero, List.set_cons_succ])
  refine wpAnyH_ready (rs := [5]) (by kernel_rfl) (by simp) ?_
  refine AllReadyH.cons (o := _) rfl (fun K hK => ?_) AllReadyH.nil
  go_simp
  refine (K2.out _ HM.out (by omega) (by omega) (hs.below (below_step hb3 (below_drew1 hbw)))).mono ?_
  rintro e w4 ⟨rfl, hb4⟩
  try dsimp only
  refine hK.out _ _ ?hS11 (fun hHeld => ?rest11)
  case hS11 => ((try dsimp only); (((try go_split_ands); refine sn_of ?_; repeat' (first | with_reducible assumption | with_reducible exact Below.refl _ _ | with_reducible apply below_alloc | with_reducible apply below_drew1 | with_reducible apply below_drewN | (with_reducible apply below_step; with_reducible assumption) | (with_reducible apply below_sg2; (first | exact Nat.le_refl _ | (simp; done) | omega))))))
  case' rest11 => (clear hK K; try simp only [List.getElem_toArray, List.getElem_cons_zero, List.getElem_cons_succ, Act.put, List.setIfInBounds_toArray, List.set_cons_zero, List.set_cons_succ])
  refine wpAnyH_ready (rs := [6]) (by kernel_rfl) (by simp) ?_
  refine AllReadyH.cons (o := _) rfl (fun K hK => ?_) AllReadyH.nil
  go_simp
  refine hK.out _ _ ?hS14 (fun hHeld => ?rest14)
  case hS14 => ((try dsimp only); (((try go_split_ands); refine sn_of ?_; repeat' (first | with_reducible assumption | with_reducible exact Below.refl _ _ | with_reducible apply below_alloc | with_reducible apply below_drew1 | with_reducible apply below_drewN | (with_reducible apply below_step; with_reducible assumption) | (with_reducible apply below_sg2; (first | exact Nat.le_refl _ | (simp; done) | omega))))))
  case' rest14 => (clear hK K; try simp only [List.getElem_toArray, List.getElem_cons_zero, List.getElem_cons_succ, Act.put, List.setIfInBounds_toArray, List.set_cons_zero, List.set_cons_succ])
  refine wpAnyH_ready (rs := [7]) (by kernel_rfl) (by simp) ?_
  refine AllReadyH.cons (o := _) rfl (fun K hK => ?_) AllReadyH.nil
  go_simp
  refine hK.out _ _ ?hS17 (fun hHeld => ?rest17)
  case hS17 => ((try dsimp only); (((try go_split_ands); refine sn_of ?_; repeat' (first | with_reducible assumption | with_reducible exact Below.refl _ _ | with_reducible apply below_alloc | with_reducible apply below_drew1 | with_reducible apply below_drewN | (with_reducible apply below_step; with_reducible assumption) | (with_reducible apply below_sg2; (first | exact Nat.le_refl _ | (simp; done) | omega))))))
  case' rest17 => (clear hK K; try simp only [List.getElem_toArray, List.getElem_cons_zero, List.getElem_cons_succ, Act.put, List.setIfInBounds_toArray, List.set_cons_zero, List.set_cons_succ])
  refine wpAnyH_take (i := 8) (oi := _) (v := ?v18) rfl (by kernel_rfl) (by kernel_rfl) (by kernel_rfl) (fun _ _ _ h => h) (Or.inl ⟨by rfl, ?hy18⟩) (by assumption) ?rest18
  case hy18 => ((intro w hSw; (try dsimp only at hSw); go_simp) <;> with_reducible rfl)
  case' rest18 => try simp only [List.getElem_toArray, List.getElem_cons_zero, List.getElem_cons_succ, Act.put, List.setIfInBounds_toArray, List.set_cons_zero, List.set_cons_succ]
  refine wpAnyH_take (i := 9) (oi := _) (v := ?v19) rfl (by kernel_rfl) (by kernel_rfl) (by kernel_rfl) (fun _ _ _ h => h) (Or.inl ⟨by rfl, ?hy19⟩) (by assumption) ?rest19
  case hy19 => ((intro w hSw; (try dsimp only at hSw); go_simp) <;> with_reducible rfl)
  case' rest19 => try simp only [List.getElem_toArray, List.getElem_cons_zero, List.getElem_cons_succ, Act.put, List.setIfInBounds_toArray, List.set_cons_zero, List.set_cons_succ]
  refine wpAnyH_ready (rs := [10]) (by kernel_rfl) (by simp) ?_
  refine AllReadyH.cons (o := _) rfl (fun K hK => ?_) AllReadyH.nil
  go_simp
  refine (kept_yes g A2 m c2 d l _ HM.out (by omega) hc2 ((hO.sl.drew.below hb3).below hb4) (hs.below (below_step hb4 (below_step hb3 (below_drew1 hbw))))).mono ?_
  rintro e w5 ⟨rfl, rfl⟩
  try dsimp only
  refine hK.out _ _ ?hS22 (fun hHeld => ?rest22)
  case hS22 => ((try dsimp only); (((try go_split_ands); refine sn_of ?_; repeat' (first | with_reducible assumption | with_reducible exact Below.refl _ _ | with_reducible apply below_alloc | with_reducible apply below_drew1 | with_reducible apply below_drewN | (with_reducible apply below_step; with_reducible assumption) | (with_reducible apply below_sg2; (first | exact Nat.le_refl _ | (simp; done) | omega))))))
  case' rest22 => (clear hK K; try simp only [List.getElem_toArray, List.getElem_cons_zero, List.getElem_cons_succ, Act.put, List.setIfInBounds_toArray, List.set_cons_zero, List.set_cons_succ])
  refine wpAnyH_ready (rs := [11]) (by kernel_rfl) (by simp) ?_
  refine AllReadyH.cons (o := _) rfl (fun K hK => ?_) AllReadyH.nil
  go_simp
  refine hK.out _ _ ?hS25 (fun hHeld => ?rest25)
  case hS25 => ((try dsimp only); (((try go_split_ands); refine sn_of ?_; repeat' (first | with_reducible assumption | with_reducible exact Below.refl _ _ | with_reducible apply below_alloc | with_reducible apply below_drew1 | with_reducible apply below_drewN | (with_reducible apply below_step; with_reducible assumption) | (with_reducible apply below_sg2; (first | exact Nat.le_refl _ | (simp; done) | omega))))))
  case' rest25 => (clear hK K; try simp only [List.getElem_toArray, List.getElem_cons_zero, List.getElem_cons_succ, Act.put, List.setIfInBounds_toArray, List.set_cons_zero, List.set_cons_succ])
  refine wpAnyH_ready (rs := [12]) (by kernel_rfl) (by simp) ?_
  refine AllReadyH.cons (o := _) rfl (fun K hK => ?_) AllReadyH.nil
  go_simp
  refine hK.out _ _ ?hS28 (fun hHeld => ?rest28)
  case hS28 => ((try dsimp only); (((try go_split_ands); refine sn_of ?_; repeat' (first | with_reducible assumption | with_reducible exact Below.refl _ _ | with_reducible apply below_alloc | with_reducible apply below_drew1 | with_reducible apply below_drewN | (with_reducible apply below_step; with_reducible assumption) | (with_reducible apply below_sg2; (first | exact Nat.le_refl _ | (simp; done) | omega))))))
  case' rest28 => (clear hK K; try simp only [List.getElem_toArray, List.getElem_cons_zero, List.getElem_cons_succ, Act.put, List.setIfInBounds_toArray, List.set_cons_zero, List.set_cons_succ])
  refine wpAnyH_ready (rs := [13]) (by kernel_rfl) (by simp) ?_
  refine AllReadyH.cons (o := _) rfl (fun K hK => ?_) AllReadyH.nil
  go_simp
  refine (known_14 _).mono ?_
  rintro e w6 ⟨rfl, hb6⟩
  try dsimp only
  refine hK.out _ _ ?hS31 (fun hHeld => ?rest31)
  case hS31 => ((try dsimp only); (((try go_split_ands); refine sn_of ?_; repeat' (first | with_reducible assumption | with_reducible exact Below.refl _ _ | with_reducible apply below_alloc | with_reducible apply below_drew1 | with_reducible apply below_drewN | (with_reducible apply below_step; with_reducible assumption) | (with_reducible apply below_sg2; (first | exact Nat.le_refl _ | (simp; done) | omega))))))
  case' rest31 => (clear hK K; try simp only [List.getElem_toArray, List.getElem_cons_zero, List.getElem_cons_succ, Act.put, List.setIfInBounds_toArray, List.set_cons_zero, List.set_cons_succ])
  refine wpAnyH_ready (rs := [14]) (by kernel_rfl) (by simp) ?_
  refine AllReadyH.cons (o := _) rfl (fun K hK => ?_) AllReadyH.nil
  go_simp
  refine hK.out _ _ ?hS34 (fun hHeld => ?rest34)
  case hS34 => ((try dsimp only); (((try go_split_ands); refine sn_of ?_; repeat' (first | with_reducible assumption | with_reducible exact Below.refl _ _ | with_reducible apply below_alloc | with_reducible apply below_drew1 | with_reducible apply below_drewN | (with_reducible apply below_step; with_reducible assumption) | (with_reducible apply below_sg2; (first | exact Nat.le_refl _ | (simp; done) | omega))))))
  case' rest34 => (clear hK K; try simp only [List.getElem_toArray, List.getElem_cons_zero, List.getElem_cons_succ, Act.put, List.setIfInBounds_toArray, List.set_cons_zero, List.set_cons_succ])
  refine wpAnyH_ready (rs := [15]) (by kernel_rfl) (by simp) ?_
  refine AllReadyH.cons (o := _) rfl (fun K hK => ?_) AllReadyH.nil
  go_simp
  refine hK.out _ _ ?hS37 (fun hHeld => ?rest37)
  case hS37 => ((try dsimp only); (((try go_split_ands); refine sn_of ?_; repeat' (first | with_reducible assumption | with_reducible exact Below.refl _ _ | with_reducible apply below_alloc | with_reducible apply below_drew1 | with_reducible apply below_drewN | (with_reducible apply below_step; with_reducible assumption) | (with_reducible apply below_sg2; (first | exact Nat.le_refl _ | (simp; done) | omega))))))
  case' rest37 => (clear hK K; try simp only [List.getElem_toArray, List.getElem_cons_zero, List.getElem_cons_succ, Act.put, List.setIfInBounds_toArray, List.set_cons_zero, List.set_cons_succ])
  refine wpAnyH_done (by kernel_rfl) ?_ _
  have hEnd := hHeld.2
  repeat (clear hHeld)
  go_wp2_with fail
  go_ret
  exact (⟨rfl, below_step hEnd hbw⟩ : TrueB w _ _)
def strF (s : ByteArray) : Prop := s.size ≤ 4611686018427387904
theorem entryRights_walk (E : Ent) (A : Option Addr) (n c : Nat) (s : ByteArray) (w : World) (hn : n = E.df.length) (hc : n ≤ c) (hs : Sl w A (E.df.map bv)) :
    Calls Try.prog 3 #[.agg (entV E A n c), .string s] w (TrueB w) := by
  have q0 := blk_one w 24 (entV E A n c)
  have hbw := below_alloc (Below.refl w.heap.size w) (.cells (entV E A n c) 24)
  have HN := hide hn
  have L1 := hide (fun W => light_any E A n c W)
  have K1 := hide (fun (B : Option Addr) (k : Nat) (W : World) h1 h2 h3 h4 => ent_right E B n k W hn h1 h2 h3 h4)
  have K2 := hide (fun W h1 h2 h3 h4 => rent_right E A n c W hn h1 h2 h3 h4)
  clear hn
  obtain ⟨v, hv⟩ : ∃ v, v = rightE E := ⟨_, rfl⟩
  unfold RightR at K1
  unfold RRightR at K2
  rw [← hv] at K1 K2
  clear hv
  obtain ⟨nb, hnb⟩ : ∃ b, b = nameB s := ⟨_, rfl⟩
  have HNB := hide hnb
  clear hnb
  obtain ⟨b1, e1⟩ : ∃ b, b = lightB E n := ⟨_, rfl⟩
  have H1 := hide e1
  rw [← e1] at L1
  clear e1
  obtain ⟨ix, sub, nm, ty, acc, mp, st, mx, lo, hi, df⟩ := E
  simp only [entV] at *
  go_enter Try.func3, Try.ntmps3
  go_wp2_with fail
  refine (L1.out _).mono ?_
  rintro e w1 ⟨rfl, hb1⟩
  replace q0 := q0.below hb1 q0.lt
  replace hbw := below_step hb1 hbw
  clear hb1
  have q0_c0 := q0.cell 0 rfl
  have q0_f0 := q0.frozen 0
  have q0_c1 := q0.cell 1 rfl
  have q0_f1 := q0.frozen 1
  have q0_c2 := q0.cell 2 rfl
  have q0_f2 := q0.frozen 2
  have q0_c3 := q0.cell 3 rfl
  have q0_f3 := q0.frozen 3
  have q0_c4 := q0.cell 4 rfl
  have q0_f4 := q0.frozen 4
  have q0_c5 := q0.cell 5 rfl
  have q0_f5 := q0.frozen 5
  have q0_c6 := q0.cell 6 rfl
  have q0_f6 := q0.frozen 6
  have q0_c7 := q0.cell 7 rfl
  have q0_f7 := q0.frozen 7
  have q0_c8 := q0.cell 8 rfl
  have q0_f8 := q0.frozen 8
  have q0_c9 := q0.cell 9 rfl
  have q0_f9 := q0.frozen 9
  have q0_c10 := q0.cell 10 rfl
  have q0_f10 := q0.frozen 10
  cases b1
  · go_wp2_with fail
    refine (known_14 _).mono ?_
    rintro e w2 ⟨rfl, hb2⟩
    go_wp2_with fail
    go_ret
    exact (⟨rfl, below_step hb2 hbw⟩ : TrueB w _ _)
  by_cases hbig : 2000 < s.size
  · go_wp2_with fail
    refine (known_14 _).mono ?_
    rintro e w2 ⟨rfl, hb2⟩
    go_wp2_with fail
    go_ret
    exact (⟨rfl, below_step hb2 hbw⟩ : TrueB w _ _)
  have hlt : n ≤ 2000 ∧ nm.size ≤ 2000 := by have := H1.out; simpa [lightB] using this.symm
  obtain ⟨hn2, hnm2⟩ := hlt
  have hss : s.size ≤ 2000 := by omega
  clear hbig
  have z0 := q0.lt
  go_wp2_with fail
  have q1 := blk_one w1 24 #[.int .i64 ix, .int .i64 sub, .string nm, .int .i64 ty, .int .i64 acc, .bool mp, .bool st, .int .i64 mx, .int .i64 lo, .int .i64 hi, .slice A n c]
  clear q0_c0 q0_f0 q0_c1 q0_f1 q0_c2 q0_f2 q0_c3 q0_f3 q0_c4 q0_f4 q0_c5 q0_f5 q0_c6 q0_f6 q0_c7 q0_f7 q0_c8 q0_f8 q0_c9 q0_f9 q0_c10 q0_f10
  replace q0 := q0.alloc (.cells #[.int .i64 ix, .int .i64 sub, .string nm, .int .i64 ty, .int .i64 acc, .bool mp, .bool st, .int .i64 mx, .int .i64 lo, .int .i64 hi, .slice A n c] 24)
  have hz1 : w.heap.size ≤ w1.heap.size := hbw.size
  replace hbw := below_alloc hbw (.cells #[.int .i64 ix, .int .i64 sub, .string nm, .int .i64 ty, .int .i64 acc, .bool mp, .bool st, .int .i64 mx, .int .i64 lo, .int .i64 hi, .slice A n c] 24)
  refine (lent_any A n c df _ HN.out (by omega) (hs.below hbw)).mono ?_
  rintro e w2 ⟨g, c2, rfl, hO, hb2⟩
  replace q0 := q0.below hb2 q0.lt
  replace q1 := q1.below hb2 q1.lt
  replace hbw := below_step hb2 hbw
  have hc2 := hO.le
  have q1_c0 := q1.cell 0 rfl
  have q1_f0 := q1.frozen 0
  have q1_c1 := q1.cell 1 rfl
  have q1_f1 := q1.frozen 1
  have q1_c2 := q1.cell 2 rfl
  have q1_f2 := q1.frozen 2
  have q1_c3 := q1.cell 3 rfl
  have q1_f3 := q1.frozen 3
  have q1_c4 := q1.cell 4 rfl
  have q1_f4 := q1.frozen 4
  have q1_c5 := q1.cell 5 rfl
  have q1_f5 := q1.frozen 5
  have q1_c6 := q1.cell 6 rfl
  have q1_f6 := q1.frozen 6
  have q1_c7 := q1.cell 7 rfl
  have q1_f7 := q1.frozen 7
  have q1_c8 := q1.cell 8 rfl
  have q1_f8 := q1.frozen 8
  have q1_c9 := q1.cell 9 rfl
  have q1_f9 := q1.frozen 9
  have q1_c10 := q1.cell 10 rfl
  have q1_f10 := q1.frozen 10
  go_wp2_with fail
  clear q1_c0 q1_f0 q1_c1 q1_f1 q1_c2 q1_f2 q1_c3 q1_f3 q1_c4 q1_f4 q1_c5 q1_f5 q1_c6 q1_f6 q1_c7 q1_f7 q1_c8 q1_f8 q1_c9 q1_f9 q1_c10 q1_f10
  have K5 := hide (fun W => ent_name s W (by omega))
  have K6 := hide (fun W => rname s W (by omega))
  unfold SameV at K6
  rw [← HNB.out] at K5 K6
  have hO2 : OwnB (w2.setCell ⟨w1.heap.size, 10, none⟩ (.slice (some ⟨g, 0, none⟩) n c2)) (w1.heap.size + 1) (some ⟨g, 0, none⟩) (n + 1) c2 (df ++ [77]) := by
    have := hO.set_ (p := ⟨w1.heap.size, 10, none⟩) (by simp) (.slice (some ⟨g, 0, none⟩) n c2)
    simpa using this
  replace q0 := q0.far (p := ⟨w1.heap.size, 10, none⟩) (by show w.heap.size ≠ w1.heap.size; omega) (.slice (some ⟨g, 0, none⟩) n c2)
  replace q1 : Blk (w2.setCell ⟨w1.heap.size, 10, none⟩ (.slice (some ⟨g, 0, none⟩) n c2)) w1.heap.size 24 #[.int .i64 ix, .int .i64 sub, .string nm, .int .i64 ty, .int .i64 acc, .bool mp, .bool st, .int .i64 mx, .int .i64 lo, .int .i64 hi, .slice (some ⟨g, 0, none⟩) n c2] := by
    have := q1.set_ 10 (.slice (some ⟨g, 0, none⟩) n c2)
    simpa using this
  replace hbw := below_set hbw (p := ⟨w1.heap.size, 10, none⟩) hz1 (.slice (some ⟨g, 0, none⟩) n c2)
  generalize w2.setCell ⟨w1.heap.size, 10, none⟩ (.slice (some ⟨g, 0, none⟩) n c2) = W2 at *
  have hsO : Sl W2 (some ⟨g, 0, none⟩) (df.map bv) := by
    have := hO2.sl.take n
    rw [List.map_append, HN.out, List.take_left' (by simp)] at this
    exact this
  clear hb2 hO
  have z0' := q0.lt
  have z1' := q1.lt
  have q0_c0 := q0.cell 0 rfl
  have q0_f0 := q0.frozen 0
  have q0_c1 := q0.cell 1 rfl
  have q0_f1 := q0.frozen 1
  have q0_c2 := q0.cell 2 rfl
  have q0_f2 := q0.frozen 2
  have q0_c3 := q0.cell 3 rfl
  have q0_f3 := q0.frozen 3
  have q0_c4 := q0.cell 4 rfl
  have q0_f4 := q0.frozen 4
  have q0_c5 := q0.cell 5 rfl
  have q0_f5 := q0.frozen 5
  have q0_c6 := q0.cell 6 rfl
  have q0_f6 := q0.frozen 6
  have q0_c7 := q0.cell 7 rfl
  have q0_f7 := q0.frozen 7
  have q0_c8 := q0.cell 8 rfl
  have q0_f8 := q0.frozen 8
  have q0_c9 := q0.cell 9 rfl
  have q0_f9 := q0.frozen 9
  have q0_c10 := q0.cell 10 rfl
  have q0_f10 := q0.frozen 10
  have q1_c0 := q1.cell 0 rfl
  have q1_f0 := q1.frozen 0
  have q1_c1 := q1.cell 1 rfl
  have q1_f1 := q1.frozen 1
  have q1_c2 := q1.cell 2 rfl
  have q1_f2 := q1.frozen 2
  have q1_c3 := q1.cell 3 rfl
  have q1_f3 := q1.frozen 3
  have q1_c4 := q1.cell 4 rfl
  have q1_f4 := q1.frozen 4
  have q1_c5 := q1.cell 5 rfl
  have q1_f5 := q1.frozen 5
  have q1_c6 := q1.cell 6 rfl
  have q1_f6 := q1.frozen 6
  have q1_c7 := q1.cell 7 rfl
  have q1_f7 := q1.frozen 7
  have q1_c8 := q1.cell 8 rfl
  have q1_f8 := q1.frozen 8
  have q1_c9 := q1.cell 9 rfl
  have q1_f9 := q1.frozen 9
  have q1_c10 := q1.cell 10 rfl
  have q1_f10 := q1.frozen 10
  refine wp_region_held_drew (S := (fun w' => (∀ p : Addr, p.block < (W2).heap.size → w'.cell? p = (W2).cell? p) ∧ Below (W2).heap.size (W2) w')) (by kernel_rfl) ?hS39 (fun hHeld => ?rest39)
  case hS39 => ((try dsimp only); (((try go_split_ands); refine sn_of ?_; repeat' (first | with_reducible assumption | with_reducible exact Below.refl _ _ | with_reducible apply below_alloc | with_reducible apply below_drew1 | with_reducible apply below_drewN | (with_reducible apply below_step; with_reducible assumption) | (with_reducible apply below_sg2; (first | exact Nat.le_refl _ | (simp; done) | omega))))))
  case' rest39 => skip
  refine wpAnyH_take (i := 0) (oi := _) (v := ?v40) rfl (by kernel_rfl) (by kernel_rfl) (by kernel_rfl) (fun _ _ _ h => h) (Or.inl ⟨by rfl, ?hy40⟩) (by assumption) ?rest40
  case hy40 => ((intro w hSw; (try dsimp only at hSw); go_simp) <;> with_reducible rfl)
  case' rest40 => try simp only [List.getElem_toArray, List.getElem_cons_zero, List.getElem_cons_succ, Act.put, List.setIfInBounds_toArray, List.set_cons_zero, List.set_cons_succ]
  refine wpAnyH_take (i := 2) (oi := _) (v := ?v41) rfl (by kernel_rfl) (by kernel_rfl) (by kernel_rfl) (fun _ _ _ h => h) (Or.inl ⟨by rfl, ?hy41⟩) (by assumption) ?rest41
  case hy41 => ((intro w hSw; (try dsimp only at hSw); go_simp) <;> with_reducible rfl)
  case' rest41 => try simp only [List.getElem_toArray, List.getElem_cons_zero, List.getElem_cons_succ, Act.put, List.setIfInBounds_toArray, List.set_cons_zero, List.set_cons_succ]
  refine wpAnyH_ready (rs := [1]) (by kernel_rfl) (by simp) ?_
  refine AllReadyH.cons (o := _) rfl (fun K hK => ?_) AllReadyH.nil
  go_simp
  refine (K1.out _ _ _ (by omega) (by omega) (by omega) hsO.drew).mono ?_
  rintro e w3 ⟨rfl, hb3⟩
  try dsimp only
  refine hK.out _ _ ?hS44 (fun hHeld => ?rest44)
  case hS44 => ((try dsimp only); (((try go_split_ands); refine sn_of ?_; repeat' (first | with_reducible assumption | with_reducible exact Below.refl _ _ | with_reducible apply below_alloc | with_reducible apply below_drew1 | with_reducible apply below_drewN | (with_reducible apply below_step; with_reducible assumption) | (with_reducible apply below_sg2; (first | exact Nat.le_refl _ | (simp; done) | omega))))))
  case' rest44 => (clear hK K; try simp only [List.getElem_toArray, List.getElem_cons_zero, List.getElem_cons_succ, Act.put, List.setIfInBounds_toArray, List.set_cons_zero, List.set_cons_succ])
  refine wpAnyH_ready (rs := [3]) (by kernel_rfl) (by simp) ?_
  refine AllReadyH.cons (o := _) rfl (fun K hK => ?_) AllReadyH.nil
  go_simp
  refine (K2.out _ hc (by omega) (by omega) (hs.below (below_step hb3 (below_drew1 hbw)))).mono ?_
  rintro e w4 ⟨rfl, hb4⟩
  try dsimp only
  refine hK.out _ _ ?hS47 (fun hHeld => ?rest47)
  case hS47 => ((try dsimp only); (((try go_split_ands); refine sn_of ?_; repeat' (first | with_reducible assumption | with_reducible exact Below.refl _ _ | with_reducible apply below_alloc | with_reducible apply below_drew1 | with_reducible apply below_drewN | (with_reducible apply below_step; with_reducible assumption) | (with_reducible apply below_sg2; (first | exact Nat.le_refl _ | (simp; done) | omega))))))
  case' rest47 => (clear hK K; try simp only [List.getElem_toArray, List.getElem_cons_zero, List.getElem_cons_succ, Act.put, List.setIfInBounds_toArray, List.set_cons_zero, List.set_cons_succ])
  refine wpAnyH_ready (rs := [4]) (by kernel_rfl) (by simp) ?_
  refine AllReadyH.cons (o := _) rfl (fun K hK => ?_) AllReadyH.nil
  go_simp
  refine hK.out _ _ ?hS50 (fun hHeld => ?rest50)
  case hS50 => ((try dsimp only); (((try go_split_ands); refine sn_of ?_; repeat' (first | with_reducible assumption | with_reducible exact Below.refl _ _ | with_reducible apply below_alloc | with_reducible apply below_drew1 | with_reducible apply below_drewN | (with_reducible apply below_step; with_reducible assumption) | (with_reducible apply below_sg2; (first | exact Nat.le_refl _ | (simp; done) | omega))))))
  case' rest50 => (clear hK K; try simp only [List.getElem_toArray, List.getElem_cons_zero, List.getElem_cons_succ, Act.put, List.setIfInBounds_toArray, List.set_cons_zero, List.set_cons_succ])
  refine wpAnyH_ready (rs := [5]) (by kernel_rfl) (by simp) ?_
  refine AllReadyH.cons (o := _) rfl (fun K hK => ?_) AllReadyH.nil
  go_simp
  refine hK.out _ _ ?hS53 (fun hHeld => ?rest53)
  case hS53 => ((try dsimp only); (((try go_split_ands); refine sn_of ?_; repeat' (first | with_reducible assumption | with_reducible exact Below.refl _ _ | with_reducible apply below_alloc | with_reducible apply below_drew1 | with_reducible apply below_drewN | (with_reducible apply below_step; with_reducible assumption) | (with_reducible apply below_sg2; (first | exact Nat.le_refl _ | (simp; done) | omega))))))
  case' rest53 => (clear hK K; try simp only [List.getElem_toArray, List.getElem_cons_zero, List.getElem_cons_succ, Act.put, List.setIfInBounds_toArray, List.set_cons_zero, List.set_cons_succ])
  refine wpAnyH_take (i := 6) (oi := _) (v := ?v54) rfl (by kernel_rfl) (by kernel_rfl) (by kernel_rfl) (fun _ _ _ h => h) (Or.inl ⟨by rfl, ?hy54⟩) (by assumption) ?rest54
  case hy54 => ((intro w hSw; (try dsimp only at hSw); go_simp) <;> with_reducible rfl)
  case' rest54 => try simp only [List.getElem_toArray, List.getElem_cons_zero, List.getElem_cons_succ, Act.put, List.setIfInBounds_toArray, List.set_cons_zero, List.set_cons_succ]
  refine wpAnyH_take (i := 8) (oi := _) (v := ?v55) rfl (by kernel_rfl) (by kernel_rfl) (by kernel_rfl) (fun _ _ _ h => h) (Or.inl ⟨by rfl, ?hy55⟩) (by assumption) ?rest55
  case hy55 => ((intro w hSw; (try dsimp only at hSw); go_simp) <;> with_reducible rfl)
  case' rest55 => try simp only [List.getElem_toArray, List.getElem_cons_zero, List.getElem_cons_succ, Act.put, List.setIfInBounds_toArray, List.set_cons_zero, List.set_cons_succ]
  refine wpAnyH_ready (rs := [7]) (by kernel_rfl) (by simp) ?_
  refine AllReadyH.cons (o := _) rfl (fun K hK => ?_) AllReadyH.nil
  go_simp
  refine (K5.out _).mono ?_
  rintro e w5 ⟨rfl, rfl⟩
  try dsimp only
  refine hK.out _ _ ?hS58 (fun hHeld => ?rest58)
  case hS58 => ((try dsimp only); (((try go_split_ands); refine sn_of ?_; repeat' (first | with_reducible assumption | with_reducible exact Below.refl _ _ | with_reducible apply below_alloc | with_reducible apply below_drew1 | with_reducible apply below_drewN | (with_reducible apply below_step; with_reducible assumption) | (with_reducible apply below_sg2; (first | exact Nat.le_refl _ | (simp; done) | omega))))))
  case' rest58 => (clear hK K; try simp only [List.getElem_toArray, List.getElem_cons_zero, List.getElem_cons_succ, Act.put, List.setIfInBounds_toArray, List.set_cons_zero, List.set_cons_succ])
  refine wpAnyH_ready (rs := [9]) (by kernel_rfl) (by simp) ?_
  refine AllReadyH.cons (o := _) rfl (fun K hK => ?_) AllReadyH.nil
  go_simp
  refine (K6.out _).mono ?_
  rintro e w6 ⟨rfl, rfl⟩
  try dsimp only
  refine hK.out _ _ ?hS61 (fun hHeld => ?rest61)
  case hS61 => ((try dsimp only); (((try go_split_ands); refine sn_of ?_; repeat' (first | with_reducible assumption | with_reducible exact Below.refl _ _ | with_reducible apply below_alloc | with_reducible apply below_drew1 | with_reducible apply below_drewN | (with_reducible apply below_step; with_reducible assumption) | (with_reducible apply below_sg2; (first | exact Nat.le_refl _ | (simp; done) | omega))))))
  case' rest61 => (clear hK K; try simp only [List.getElem_toArray, List.getElem_cons_zero, List.getElem_cons_succ, Act.put, List.setIfInBounds_toArray, List.set_cons_zero, List.set_cons_succ])
  refine wpAnyH_ready (rs := [10]) (by kernel_rfl) (by simp) ?_
  refine AllReadyH.cons (o := _) rfl (fun K hK => ?_) AllReadyH.nil
  go_simp
  refine hK.out _ _ ?hS64 (fun hHeld => ?rest64)
  case hS64 => ((try dsimp only); (((try go_split_ands); refine sn_of ?_; repeat' (first | with_reducible assumption | with_reducible exact Below.refl _ _ | with_reducible apply below_alloc | with_reducible apply below_drew1 | with_reducible apply below_drewN | (with_reducible apply below_step; with_reducible assumption) | (with_reducible apply below_sg2; (first | exact Nat.le_refl _ | (simp; done) | omega))))))
  case' rest64 => (clear hK K; try simp only [List.getElem_toArray, List.getElem_cons_zero, List.getElem_cons_succ, Act.put, List.setIfInBounds_toArray, List.set_cons_zero, List.set_cons_succ])
  refine wpAnyH_ready (rs := [11]) (by kernel_rfl) (by simp) ?_
  refine AllReadyH.cons (o := _) rfl (fun K hK => ?_) AllReadyH.nil
  go_simp
  refine hK.out _ _ ?hS67 (fun hHeld => ?rest67)
  case hS67 => ((try dsimp only); (((try go_split_ands); refine sn_of ?_; repeat' (first | with_reducible assumption | with_reducible exact Below.refl _ _ | with_reducible apply below_alloc | with_reducible apply below_drew1 | with_reducible apply below_drewN | (with_reducible apply below_step; with_reducible assumption) | (with_reducible apply below_sg2; (first | exact Nat.le_refl _ | (simp; done) | omega))))))
  case' rest67 => (clear hK K; try simp only [List.getElem_toArray, List.getElem_cons_zero, List.getElem_cons_succ, Act.put, List.setIfInBounds_toArray, List.set_cons_zero, List.set_cons_succ])
  refine wpAnyH_ready (rs := [12]) (by kernel_rfl) (by simp) ?_
  refine AllReadyH.cons (o := _) rfl (fun K hK => ?_) AllReadyH.nil
  go_simp
  refine hK.out _ _ ?hS70 (fun hHeld => ?rest70)
  case hS70 => ((try dsimp only); (((try go_split_ands); refine sn_of ?_; repeat' (first | with_reducible assumption | with_reducible exact Below.refl _ _ | with_reducible apply below_alloc | with_reducible apply below_drew1 | with_reducible apply below_drewN | (with_reducible apply below_step; with_reducible assumption) | (with_reducible apply below_sg2; (first | exact Nat.le_refl _ | (simp; done) | omega))))))
  case' rest70 => (clear hK K; try simp only [List.getElem_toArray, List.getElem_cons_zero, List.getElem_cons_succ, Act.put, List.setIfInBounds_toArray, List.set_cons_zero, List.set_cons_succ])
  refine wpAnyH_take (i := 13) (oi := _) (v := ?v71) rfl (by kernel_rfl) (by kernel_rfl) (by kernel_rfl) (fun _ _ _ h => h) (Or.inl ⟨by rfl, ?hy71⟩) (by assumption) ?rest71
  case hy71 => ((intro w hSw; (try dsimp only at hSw); go_simp) <;> with_reducible rfl)
  case' rest71 => try simp only [List.getElem_toArray, List.getElem_cons_zero, List.getElem_cons_succ, Act.put, List.setIfInBounds_toArray, List.set_cons_zero, List.set_cons_succ]
  refine wpAnyH_take (i := 14) (oi := _) (v := ?v72) rfl (by kernel_rfl) (by kernel_rfl) (by kernel_rfl) (fun _ _ _ h => h) (Or.inl ⟨by rfl, ?hy72⟩) (by assumption) ?rest72
  case hy72 => ((intro w hSw; (try dsimp only at hSw); go_simp) <;> with_reducible rfl)
  case' rest72 => try simp only [List.getElem_toArray, List.getElem_cons_zero, List.getElem_cons_succ, Act.put, List.setIfInBounds_toArray, List.set_cons_zero, List.set_cons_succ]
  refine wpAnyH_take (i := 15) (oi := _) (v := ?v73) rfl (by kernel_rfl) (by kernel_rfl) (by kernel_rfl) (fun _ _ _ h => h) (Or.inl ⟨by rfl, ?hy73⟩) (by assumption) ?rest73
  case hy73 => ((intro w hSw; (try dsimp only at hSw); go_simp) <;> with_reducible rfl)
  case' rest73 => try simp only [List.getElem_toArray, List.getElem_cons_zero, List.getElem_cons_succ, Act.put, List.setIfInBounds_toArray, List.set_cons_zero, List.set_cons_succ]
  refine wpAnyH_take (i := 16) (oi := _) (v := ?v74) rfl (by kernel_rfl) (by kernel_rfl) (by kernel_rfl) (fun _ _ _ h => h) (Or.inl ⟨by rfl, ?hy74⟩) (by assumption) ?rest74
  case hy74 => ((intro w hSw; (try dsimp only at hSw); go_simp) <;> with_reducible rfl)
  case' rest74 => try simp only [List.getElem_toArray, List.getElem_cons_zero, List.getElem_cons_succ, Act.put, List.setIfInBounds_toArray, List.set_cons_zero, List.set_cons_succ]
  refine wpAnyH_ready (rs := [17]) (by kernel_rfl) (by simp) ?_
  refine AllReadyH.cons (o := _) rfl (fun K hK => ?_) AllReadyH.nil
  go_simp
  refine (kept_yes g A n c2 c df _ HN.out (by omega) hc2 ((hO2.sl.drew.below hb3).below hb4) (hs.below (below_step hb4 (below_step hb3 (below_drew1 hbw))))).mono ?_
  rintro e w5 ⟨rfl, rfl⟩
  try dsimp only
  refine hK.out _ _ ?hS77 (fun hHeld => ?rest77)
  case hS77 => ((try dsimp only); (((try go_split_ands); refine sn_of ?_; repeat' (first | with_reducible assumption | with_reducible exact Below.refl _ _ | with_reducible apply below_alloc | with_reducible apply below_drew1 | with_reducible apply below_drewN | (with_reducible apply below_step; with_reducible assumption) | (with_reducible apply below_sg2; (first | exact Nat.le_refl _ | (simp; done) | omega))))))
  case' rest77 => (clear hK K; try simp only [List.getElem_toArray, List.getElem_cons_zero, List.getElem_cons_succ, Act.put, List.setIfInBounds_toArray, List.set_cons_zero, List.set_cons_succ])
  refine wpAnyH_ready (rs := [18]) (by kernel_rfl) (by simp) ?_
  refine AllReadyH.cons (o := _) rfl (fun K hK => ?_) AllReadyH.nil
  go_simp
  refine hK.out _ _ ?hS80 (fun hHeld => ?rest80)
  case hS80 => ((try dsimp only); (((try go_split_ands); refine sn_of ?_; repeat' (first | with_reducible assumption | with_reducible exact Below.refl _ _ | with_reducible apply below_alloc | with_reducible apply below_drew1 | with_reducible apply below_drewN | (with_reducible apply below_step; with_reducible assumption) | (with_reducible apply below_sg2; (first | exact Nat.le_refl _ | (simp; done) | omega))))))
  case' rest80 => (clear hK K; try simp only [List.getElem_toArray, List.getElem_cons_zero, List.getElem_cons_succ, Act.put, List.setIfInBounds_toArray, List.set_cons_zero, List.set_cons_succ])
  refine wpAnyH_ready (rs := [19]) (by kernel_rfl) (by simp) ?_
  refine AllReadyH.cons (o := _) rfl (fun K hK => ?_) AllReadyH.nil
  go_simp
  refine hK.out _ _ ?hS83 (fun hHeld => ?rest83)
  case hS83 => ((try dsimp only); (((try go_split_ands); refine sn_of ?_; repeat' (first | with_reducible assumption | with_reducible exact Below.refl _ _ | with_reducible apply below_alloc | with_reducible apply below_drew1 | with_reducible apply below_drewN | (with_reducible apply below_step; with_reducible assumption) | (with_reducible apply below_sg2; (first | exact Nat.le_refl _ | (simp; done) | omega))))))
  case' rest83 => (clear hK K; try simp only [List.getElem_toArray, List.getElem_cons_zero, List.getElem_cons_succ, Act.put, List.setIfInBounds_toArray, List.set_cons_zero, List.set_cons_succ])
  refine wpAnyH_ready (rs := [20]) (by kernel_rfl) (by simp) ?_
  refine AllReadyH.cons (o := _) rfl (fun K hK => ?_) AllReadyH.nil
  go_simp
  refine (known_14 _).mono ?_
  rintro e w6 ⟨rfl, hb6⟩
  try dsimp only
  refine hK.out _ _ ?hS86 (fun hHeld => ?rest86)
  case hS86 => ((try dsimp only); (((try go_split_ands); refine sn_of ?_; repeat' (first | with_reducible assumption | with_reducible exact Below.refl _ _ | with_reducible apply below_alloc | with_reducible apply below_drew1 | with_reducible apply below_drewN | (with_reducible apply below_step; with_reducible assumption) | (with_reducible apply below_sg2; (first | exact Nat.le_refl _ | (simp; done) | omega))))))
  case' rest86 => (clear hK K; try simp only [List.getElem_toArray, List.getElem_cons_zero, List.getElem_cons_succ, Act.put, List.setIfInBounds_toArray, List.set_cons_zero, List.set_cons_succ])
  refine wpAnyH_ready (rs := [21]) (by kernel_rfl) (by simp) ?_
  refine AllReadyH.cons (o := _) rfl (fun K hK => ?_) AllReadyH.nil
  go_simp
  refine hK.out _ _ ?hS89 (fun hHeld => ?rest89)
  case hS89 => ((try dsimp only); (((try go_split_ands); refine sn_of ?_; repeat' (first | with_reducible assumption | with_reducible exact Below.refl _ _ | with_reducible apply below_alloc | with_reducible apply below_drew1 | with_reducible apply below_drewN | (with_reducible apply below_step; with_reducible assumption) | (with_reducible apply below_sg2; (first | exact Nat.le_refl _ | (simp; done) | omega))))))
  case' rest89 => (clear hK K; try simp only [List.getElem_toArray, List.getElem_cons_zero, List.getElem_cons_succ, Act.put, List.setIfInBounds_toArray, List.set_cons_zero, List.set_cons_succ])
  refine wpAnyH_ready (rs := [22]) (by kernel_rfl) (by simp) ?_
  refine AllReadyH.cons (o := _) rfl (fun K hK => ?_) AllReadyH.nil
  go_simp
  refine hK.out _ _ ?hS92 (fun hHeld => ?rest92)
  case hS92 => ((try dsimp only); (((try go_split_ands); refine sn_of ?_; repeat' (first | with_reducible assumption | with_reducible exact Below.refl _ _ | with_reducible apply below_alloc | with_reducible apply below_drew1 | with_reducible apply below_drewN | (with_reducible apply below_step; with_reducible assumption) | (with_reducible apply below_sg2; (first | exact Nat.le_refl _ | (simp; done) | omega))))))
  case' rest92 => (clear hK K; try simp only [List.getElem_toArray, List.getElem_cons_zero, List.getElem_cons_succ, Act.put, List.setIfInBounds_toArray, List.set_cons_zero, List.set_cons_succ])
  refine wpAnyH_done (by kernel_rfl) ?_ _
  have hEnd := hHeld.2
  repeat (clear hHeld)
  go_wp2_with fail
  go_ret
  exact (⟨rfl, below_step hEnd hbw⟩ : TrueB w _ _)
end Go.Proofs.Ytcncbmlacphclaa
