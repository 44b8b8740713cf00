/- The walk of RecordBuilds. -/
import Derived.Test.YtapfadaplncpeaaRecQ
namespace Go.Proofs.Ytapfadaplncpeaa
set_option linter.unusedVariables false
set_option linter.unusedSimpArgs false
set_option linter.unnecessarySimpa false
open Go.RowKit
set_option maxRecDepth 20000
set_option maxHeartbeats 1000000
attribute [local go_sem ↓] Go.wp_at_zero Go.wp_at_succ

theorem kR3 (n : Nat) (h : 3000 < n) : rightR 1 1 n = 3 := by
  unfold rightR
  rw [if_neg (by decide), if_neg (by omega), if_neg (by decide), if_pos (by omega)]
theorem recB_len (k : Int) (m : Nat) (l : List UInt8) (h : l.length ≤ 3000) : (recB k m l).length ≤ 4000 := by
  unfold recB
  split
  · rw [List.length_append, sealL_length, List.length_append, recH_length]; simp; omega
  · simp
theorem recordBuilds_walk (A : Option Addr) (k : Int) (m n c : Nat) (l : List UInt8) (w : World) (hn : n = l.length) (hc : n ≤ c) (hs : Sl w A (l.map bv)) (hu : U32 m) :
    Calls Try.prog 5 #[.agg #[.int .i64 k, .int .u32 (m : Nat), .slice A n c]] w (TrueB w) := by
  by_cases hbig : 3000 < n
  · have HR := hide (fun W => show Calls Try.prog 27 #[.agg #[.int .i64 1, .int .u32 1, .slice A n c]] W _ from rec_right A 1 1 n c W)
    rw [kR3 n hbig] at HR
    clear hn
    go_enter Try.func5, Try.ntmps5
    go_wp2_with fail
    refine (HR.out _).mono ?_
    rintro e w1 ⟨rfl, hb1⟩
    go_wp2_with fail
    refine (known_07 _).mono ?_
    rintro e w2 ⟨rfl, hb2⟩
    go_wp2_with fail
    go_ret
    exact (⟨rfl, below_step hb2 (below_step hb1 (below_alloc (Below.refl w.heap.size w) _))⟩ : TrueB w _ _)
  have HN := hide hn
  have hlen := recB_len k m l (by omega)
  obtain ⟨er, her⟩ : ∃ er, er = rightR k m n := ⟨_, rfl⟩
  have HR1 := hide (fun A c W => rec_right A k m n c W)
  have HR2 := hide (fun A c W => rright A k m n c W)
  have HB1 := hide (fun A c W (h : Sl W A (l.map bv)) => rec_build A k m n c l W hn h hu)
  have HB2 := hide (fun A c W (h : Sl W A (l.map bv)) => rrec_build A k m n c l W hn h hu)
  rw [← her] at HR1 HR2 HB1 HB2
  clear hn her
  go_enter Try.func5, Try.ntmps5
  have kk := blk_two w 40 40 #[.int .i64 k, .int .u32 (m : Nat), .slice A n c] #[.int .i64 k, .int .u32 (m : Nat), .slice A n c]
  have hbk := below_alloc (below_alloc (Below.refl w.heap.size w) (.cells #[.int .i64 k, .int .u32 (m : Nat), .slice A n c] 40)) (.cells #[.int .i64 k, .int .u32 (m : Nat), .slice A n c] 40)
  have KK := hide kk
  clear kk
  go_wp2_with fail
  refine (lent_any A n c l _ HN.out (by omega) (hs.below hbk)).mono ?_
  rintro e w1 ⟨g, c1, rfl, hO1, hb1⟩
  have hc1 := hO1.le
  obtain ⟨g', hg', hg1, hg2⟩ := hO1.own.at_ (by omega)
  injection hg' with hg'
  injection hg' with hg'
  subst hg'
  simp only [World.size_alloc] at hg1
  have kb1 := KK.out.1.below hb1 (by simp; omega)
  have ko1 := KK.out.2.below hb1 (by simp)
  have hbw1 := below_step hb1 hbk
  have o0 := ko1.cell 0 rfl
  have o1 := ko1.cell 1 rfl
  have o2 := ko1.cell 2 rfl
  have q2 := ko1.frozen 2
  have z1 := ko1.lt
  have ko2 := ko1.set_ 2 (.slice (some ⟨g, 0, none⟩) n c1)
  have kb2 := kb1.far (p := ⟨w.heap.size + 1, 2, none⟩) (by simp) (.slice (some ⟨g, 0, none⟩) n c1)
  have hO2 := hO1.set_ (p := ⟨w.heap.size + 1, 2, none⟩) (by simp) (.slice (some ⟨g, 0, none⟩) n c1)
  have hbw2 := hbw1.setCell (p := ⟨w.heap.size + 1, 2, none⟩) (by simp) (.slice (some ⟨g, 0, none⟩) n c1)
  have HH := hide (And.intro ko2 (And.intro kb2 (And.intro hO2 hbw2)))
  clear ko2 kb2 hO2 hbw2 hO1 hb1 kb1 ko1
  go_wp2_with fail
  generalize w1.setCell ⟨w.heap.size + 1, 2, none⟩ (.slice (some ⟨g, 0, none⟩) n c1) = W at *
  obtain ⟨ko2, kb2, hO2, hbw2⟩ := HH.out
  clear HH o0 o1 o2 q2 z1
  have hsl : Sl W (some ⟨g, 0, none⟩) (l.map bv) := by
    have := hO2.sl.take n
    rw [List.map_append, HN.out, List.take_left' (by simp)] at this
    exact this
  refine (HB1.out _ _ _ hsl).mono ?_
  rintro e w2 ⟨A2, n2, c2, rfl, hO3, hb2⟩
  have hn2 : n2 ≤ 4000 := by rw [hO3.hn]; exact hlen
  have hbw3 := below_step hb2 hbw2
  have kb3 := kb2.below hb2 kb2.lt
  have ko3 := ko2.below hb2 ko2.lt
  have b0 := kb3.cell 0 rfl
  have b1 := kb3.cell 1 rfl
  have b2 := kb3.cell 2 rfl
  go_wp2_with fail
  refine (HB2.out _ _ _ (hs.below hbw3)).mono ?_
  rintro e w3 ⟨A3, n3, c3, rfl, hO4, hb3⟩
  have hbw4 := below_step hb3 hbw3
  have kb4 := kb3.below hb3 kb3.lt
  have ko4 := ko3.below hb3 ko3.lt
  have hO34 := hO3.below hb3
  clear b0 b1 b2
  have b0 := kb4.cell 0 rfl
  have b1 := kb4.cell 1 rfl
  have b2 := kb4.cell 2 rfl
  have o0 := ko4.cell 0 rfl
  have o1 := ko4.cell 1 rfl
  have o2 := ko4.cell 2 rfl
  have z3 := kb4.lt
  have z4 := ko4.lt
  have k1 := fun W (h : Below w3.heap.size w3 W) => str_b (w := W) c2 hO34.hn (hO34.sl.below h)
  have k2 := fun W (h : Below w3.heap.size w3 W) => str_b (w := W) c3 hO4.hn (hO4.sl.below h)
  have hee : (er == er) = true := by simp
  have hll : (recB k m l == recB k m l) = true := by simp
  go_wp2_with fail
  refine wp_region_held_drew (S := (fun w' => (∀ qA : Addr, qA.block < (w3).heap.size → w'.cell? qA = (w3).cell? qA) ∧ Below (w3).heap.size (w3) w')) (by kernel_rfl) ?hS1 (fun hHeld => ?rest1)
  case hS1 => ((try dsimp only); (((try go_split_ands); refine sn_of ?_; repeat' (first | with_reducible assumption | with_reducible exact Below.refl _ _ | with_reducible apply below_alloc | with_reducible apply below_drew1 | with_reducible apply below_drewN | (with_reducible apply below_step; with_reducible assumption) | (with_reducible apply below_sg2; (first | exact Nat.le_refl _ | (simp; done) | omega))))))
  case' rest1 => skip
  refine wpAnyH_take (i := 0) (oi := _) (v := ?v2) rfl (by kernel_rfl) (by kernel_rfl) (by kernel_rfl) (fun _ _ _ h => h) (Or.inl ⟨by rfl, ?hy2⟩) (by assumption) ?rest2
  case hy2 => ((intro w hSw; (try dsimp only at hSw); go_simp) <;> with_reducible rfl)
  case' rest2 => try simp only [List.getElem_toArray, List.getElem_cons_zero, List.getElem_cons_succ, Act.put, List.setIfInBounds_toArray, List.set_cons_zero, List.set_cons_succ]
  refine wpAnyH_take (i := 1) (oi := _) (v := ?v3) rfl (by kernel_rfl) (by kernel_rfl) (by kernel_rfl) (fun _ _ _ h => h) (Or.inl ⟨by rfl, ?hy3⟩) (by assumption) ?rest3
  case hy3 => ((intro w hSw; (try dsimp only at hSw); go_simp) <;> with_reducible rfl)
  case' rest3 => try simp only [List.getElem_toArray, List.getElem_cons_zero, List.getElem_cons_succ, Act.put, List.setIfInBounds_toArray, List.set_cons_zero, List.set_cons_succ]
  refine wpAnyH_take (i := 2) (oi := _) (v := ?v4) rfl (by kernel_rfl) (by kernel_rfl) (by kernel_rfl) (fun _ _ _ h => h) (Or.inl ⟨by rfl, ?hy4⟩) (by assumption) ?rest4
  case hy4 => ((intro w hSw; (try dsimp only at hSw); go_simp) <;> with_reducible rfl)
  case' rest4 => try simp only [List.getElem_toArray, List.getElem_cons_zero, List.getElem_cons_succ, Act.put, List.setIfInBounds_toArray, List.set_cons_zero, List.set_cons_succ]
  refine wpAnyH_take (i := 3) (oi := _) (v := ?v5) rfl (by kernel_rfl) (by kernel_rfl) (by kernel_rfl) (fun _ _ _ h => h) (Or.inl ⟨by rfl, ?hy5⟩) (by assumption) ?rest5
  case hy5 => ((intro w hSw; (try dsimp only at hSw); go_simp) <;> with_reducible rfl)
  case' rest5 => try simp only [List.getElem_toArray, List.getElem_cons_zero, List.getElem_cons_succ, Act.put, List.setIfInBounds_toArray, List.set_cons_zero, List.set_cons_succ]
  refine wpAnyH_take (i := 4) (oi := _) (v := ?v6) rfl (by kernel_rfl) (by kernel_rfl) (by kernel_rfl) (fun _ _ _ h => h) (Or.inl ⟨by rfl, ?hy6⟩) (by assumption) ?rest6
  case hy6 => ((intro w hSw; (try dsimp only at hSw); go_simp) <;> with_reducible rfl)
  case' rest6 => try simp only [List.getElem_toArray, List.getElem_cons_zero, List.getElem_cons_succ, Act.put, List.setIfInBounds_toArray, List.set_cons_zero, List.set_cons_succ]
  refine wpAnyH_take (i := 5) (oi := _) (v := ?v7) rfl (by kernel_rfl) (by kernel_rfl) (by kernel_rfl) (fun _ _ _ h => h) (Or.inl ⟨by rfl, ?hy7⟩) (by assumption) ?rest7
  case hy7 => ((intro w hSw; (try dsimp only at hSw); go_simp) <;> with_reducible rfl)
  case' rest7 => try simp only [List.getElem_toArray, List.getElem_cons_zero, List.getElem_cons_succ, Act.put, List.setIfInBounds_toArray, List.set_cons_zero, List.set_cons_succ]
  refine wpAnyH_take (i := 6) (oi := _) (v := ?v8) rfl (by kernel_rfl) (by kernel_rfl) (by kernel_rfl) (fun _ _ _ h => h) (Or.inl ⟨by rfl, ?hy8⟩) (by assumption) ?rest8
  case hy8 => ((intro w hSw; (try dsimp only at hSw); go_simp) <;> with_reducible rfl)
  case' rest8 => try simp only [List.getElem_toArray, List.getElem_cons_zero, List.getElem_cons_succ, Act.put, List.setIfInBounds_toArray, List.set_cons_zero, List.set_cons_succ]
  refine wpAnyH_take (i := 7) (oi := _) (v := ?v9) rfl (by kernel_rfl) (by kernel_rfl) (by kernel_rfl) (fun _ _ _ h => h) (Or.inl ⟨by rfl, ?hy9⟩) (by assumption) ?rest9
  case hy9 => ((intro w hSw; (try dsimp only at hSw); go_simp) <;> with_reducible rfl)
  case' rest9 => try simp only [List.getElem_toArray, List.getElem_cons_zero, List.getElem_cons_succ, Act.put, List.setIfInBounds_toArray, List.set_cons_zero, List.set_cons_succ]
  refine wpAnyH_take (i := 8) (oi := _) (v := ?v10) rfl (by kernel_rfl) (by kernel_rfl) (by kernel_rfl) (fun _ _ _ h => h) (Or.inl ⟨by rfl, ?hy10⟩) (by assumption) ?rest10
  case hy10 => ((intro w hSw; (try dsimp only at hSw); go_simp) <;> with_reducible rfl)
  case' rest10 => try simp only [List.getElem_toArray, List.getElem_cons_zero, List.getElem_cons_succ, Act.put, List.setIfInBounds_toArray, List.set_cons_zero, List.set_cons_succ]
  refine wpAnyH_take (i := 9) (oi := _) (v := ?v11) rfl (by kernel_rfl) (by kernel_rfl) (by kernel_rfl) (fun _ _ _ h => h) (Or.inl ⟨by rfl, ?hy11⟩) (by assumption) ?rest11
  case hy11 => ((intro w hSw; (try dsimp only at hSw); go_simp) <;> with_reducible rfl)
  case' rest11 => try simp only [List.getElem_toArray, List.getElem_cons_zero, List.getElem_cons_succ, Act.put, List.setIfInBounds_toArray, List.set_cons_zero, List.set_cons_succ]
  refine wpAnyH_take (i := 10) (oi := _) (v := ?v12) rfl (by kernel_rfl) (by kernel_rfl) (by kernel_rfl) (fun _ _ _ h => h) (Or.inl ⟨by rfl, ?hy12⟩) (by assumption) ?rest12
  case hy12 => ((intro w hSw; (try dsimp only at hSw); go_simp) <;> with_reducible rfl)
  case' rest12 => try simp only [List.getElem_toArray, List.getElem_cons_zero, List.getElem_cons_succ, Act.put, List.setIfInBounds_toArray, List.set_cons_zero, List.set_cons_succ]
  refine wpAnyH_take (i := 11) (oi := _) (v := ?v13) rfl (by kernel_rfl) (by kernel_rfl) (by kernel_rfl) (fun _ _ _ h => h) (Or.inl ⟨by rfl, ?hy13⟩) (by assumption) ?rest13
  case hy13 => ((intro w hSw; (try dsimp only at hSw); go_simp) <;> with_reducible rfl)
  case' rest13 => try simp only [List.getElem_toArray, List.getElem_cons_zero, List.getElem_cons_succ, Act.put, List.setIfInBounds_toArray, List.set_cons_zero, List.set_cons_succ]
  refine wpAnyH_take (i := 13) (oi := _) (v := ?v14) rfl (by kernel_rfl) (by kernel_rfl) (by kernel_rfl) (fun _ _ _ h => h) (Or.inl ⟨by rfl, ?hy14⟩) (by assumption) ?rest14
  case hy14 => ((intro w hSw; (try dsimp only at hSw); go_simp) <;> with_reducible rfl)
  case' rest14 => try simp only [List.getElem_toArray, List.getElem_cons_zero, List.getElem_cons_succ, Act.put, List.setIfInBounds_toArray, List.set_cons_zero, List.set_cons_succ]
  refine wpAnyH_ready (rs := [12]) (by kernel_rfl) (by simp) ?_
  refine AllReadyH.cons (o := _) rfl (fun K hK => ?_) AllReadyH.nil
  go_simp
  refine (HR1.out _ _ _).mono ?_
  rintro e w4 ⟨rfl, hb4⟩
  dsimp only
  refine hK.out _ _ ?hS17 (fun hHeld => ?rest17)
  case hS17 => ((try dsimp only); (((try go_split_ands); refine sn_of ?_; repeat' (first | with_reducible assumption | with_reducible exact Below.refl _ _ | with_reducible apply below_alloc | with_reducible apply below_drew1 | with_reducible apply below_drewN | (with_reducible apply below_step; with_reducible assumption) | (with_reducible apply below_sg2; (first | exact Nat.le_refl _ | (simp; done) | omega))))))
  case' rest17 => (clear hK K; try simp only [List.getElem_toArray, List.getElem_cons_zero, List.getElem_cons_succ, Act.put, List.setIfInBounds_toArray, List.set_cons_zero, List.set_cons_succ])
  refine wpAnyH_ready (rs := [14]) (by kernel_rfl) (by simp) ?_
  refine AllReadyH.cons (o := _) rfl (fun K hK => ?_) AllReadyH.nil
  go_simp
  refine (HR2.out _ _ _).mono ?_
  rintro e w5 ⟨rfl, hb5⟩
  dsimp only
  refine hK.out _ _ ?hS20 (fun hHeld => ?rest20)
  case hS20 => ((try dsimp only); (((try go_split_ands); refine sn_of ?_; repeat' (first | with_reducible assumption | with_reducible exact Below.refl _ _ | with_reducible apply below_alloc | with_reducible apply below_drew1 | with_reducible apply below_drewN | (with_reducible apply below_step; with_reducible assumption) | (with_reducible apply below_sg2; (first | exact Nat.le_refl _ | (simp; done) | omega))))))
  case' rest20 => (clear hK K; try simp only [List.getElem_toArray, List.getElem_cons_zero, List.getElem_cons_succ, Act.put, List.setIfInBounds_toArray, List.set_cons_zero, List.set_cons_succ])
  refine wpAnyH_take (i := 15) (oi := _) (v := ?v21) rfl (by kernel_rfl) (by kernel_rfl) (by kernel_rfl) (fun _ _ _ h => h) (Or.inl ⟨by rfl, ?hy21⟩) (by assumption) ?rest21
  case hy21 => ((intro w hSw; (try dsimp only at hSw); go_simp) <;> with_reducible rfl)
  case' rest21 => try simp only [List.getElem_toArray, List.getElem_cons_zero, List.getElem_cons_succ, Act.put, List.setIfInBounds_toArray, List.set_cons_zero, List.set_cons_succ]
  refine wpAnyH_take (i := 16) (oi := _) (v := ?v22) rfl (by kernel_rfl) (by kernel_rfl) (by kernel_rfl) (fun _ _ _ h => h) (Or.inl ⟨by rfl, ?hy22⟩) (by assumption) ?rest22
  case hy22 => ((intro w hSw; (try dsimp only at hSw); go_simp) <;> with_reducible rfl)
  case' rest22 => try simp only [List.getElem_toArray, List.getElem_cons_zero, List.getElem_cons_succ, Act.put, List.setIfInBounds_toArray, List.set_cons_zero, List.set_cons_succ]
  refine wpAnyH_ready (rs := [17]) (by kernel_rfl) (by simp) ?_
  refine AllReadyH.cons (o := _) rfl (fun K hK => ?_) AllReadyH.nil
  go_simp
  refine hK.out _ _ ?hS25 (fun hHeld => ?rest25)
  case hS25 => ((try dsimp only); (((try go_split_ands); refine sn_of ?_; repeat' (first | with_reducible assumption | with_reducible exact Below.refl _ _ | with_reducible apply below_alloc | with_reducible apply below_drew1 | with_reducible apply below_drewN | (with_reducible apply below_step; with_reducible assumption) | (with_reducible apply below_sg2; (first | exact Nat.le_refl _ | (simp; done) | omega))))))
  case' rest25 => (clear hK K; try simp only [List.getElem_toArray, List.getElem_cons_zero, List.getElem_cons_succ, Act.put, List.setIfInBounds_toArray, List.set_cons_zero, List.set_cons_succ])
  refine wpAnyH_done (by kernel_rfl) ?_ _
  have hEnd := hHeld.2
  repeat (clear hHeld)
  · have kb5 := kb4.below hEnd z3
    have ko5 := ko4.below hEnd z4
    have hbw5 := below_step hEnd hbw4
    have hO35 := hO34.below hEnd
    have hO25 := ((hO2.below hb2).below hb3).below hEnd
    clear b0 b1 b2 o0 o1 o2 k1 k2 hee hll
    go_wp2_with fail
    refine (spoil_any A2 n2 c2 W.heap.size (recB k m l) w5 (by omega) hO35.own (by have := hb2.size; have := hb3.size; have := hEnd.size; omega)).mono ?_
    rintro e w6 ⟨rfl, hg6⟩
    have zW := ko2.lt
    have kb6 := blk_spoilt kb5 hO35.own hg6 (by omega)
    have ko6 := blk_spoilt ko5 hO35.own hg6 (by omega)
    obtain ⟨_, hgx, _, hgW⟩ := hO2.own.at_ (by omega)
    injection hgx with hgx
    injection hgx with hgx
    have hO26 := own_spoilt hO25.own hO35.own hg6 (by intro g' hg'; injection hg' with hg'; injection hg' with hg'; omega)
    have hbw6 : Below w.heap.size w w6 := below_spoilt hbw5 hO35.own hg6 hbw2.size hbw5.size
    have b2 := kb6.cell 2 rfl
    have o2 := ko6.cell 2 rfl
    clear hgx
    go_wp2_with fail
    refine (kept_yes g A n c1 c l w6 HN.out (by omega) hc1 hO26.sl (hs.below hbw6)).mono ?_
    rintro e w7 ⟨rfl, rfl⟩
    go_wp2_with fail
    refine (known_07 _).mono ?_
    rintro e w7 ⟨rfl, hb7⟩
    go_wp2_with fail
    go_ret
    exact (⟨rfl, below_step hb7 hbw6⟩ : TrueB w _ _)
end Go.Proofs.Ytapfadaplncpeaa
