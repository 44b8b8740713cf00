/- The walk of SectorLooks. -/
import Derived.Test.YtapfadaplncpeaaSecE
namespace Go.Proofs.Ytapfadaplncpeaa
set_option linter.unusedVariables false
set_option linter.unusedSimpArgs false
set_option linter.unnecessarySimpa false
open Go.RowKit
set_option maxRecDepth 20000
set_option maxHeartbeats 2000000
attribute [local go_sem ↓] Go.wp_at_zero Go.wp_at_succ

theorem look_len (l : List UInt8) : (lookL l).d.length ≤ l.length := by
  have h : ∀ (f : Nat) (x : LK), x.d.length ≤ l.length → (lookF l f x).d.length ≤ l.length := by
    intro f
    induction f with
    | zero => intro x hx; exact hx
    | succ f ih =>
      intro x hx
      rw [lookF]
      split
      · exact hx
      · rename_i hs
        refine ih _ ?_
        simp only []
        have he : (recParse l x.en).er = 0 := by
          simp only [stopB, Bool.or_eq_true, decide_eq_true_eq] at hs
          have := not_or.1 hs
          exact Decidable.not_not.1 this.1
        have := (parse_to l x.en he).2.1
        omega
  exact h _ _ (by simp [lookZ])
theorem sectorLooks_walk (A : Option Addr) (n c : Nat) (l : List UInt8) (w : World) (hn : n = l.length) (hc : n ≤ c) (hs : Sl w A (l.map bv)) :
    Calls Try.prog 10 #[.slice A n c] w (TrueB w) := by
  by_cases hbig : 5000 < n
  · clear hn
    go_enter Try.func10, Try.ntmps10
    go_wp2_with fail
    refine (known_08 _).mono ?_
    rintro e w1 ⟨rfl, hb1⟩
    go_wp2_with fail
    go_ret
    exact (⟨rfl, hb1⟩ : TrueB w _ _)
  have hlen := look_len l
  obtain ⟨x, hx⟩ : ∃ x, x = lookL l := ⟨_, rfl⟩
  have HX := hide hx
  have HN := hide hn
  rw [← hx] at hlen
  obtain ⟨xk, xm, xd, xc, xe, xb⟩ := x
  simp only [] at hlen
  have hld : xd.length ≤ 5000 := by omega
  clear hx hn hlen
  go_enter Try.func10, Try.ntmps10
  go_wp2_with fail
  refine (lent_any A n c l w HN.out (by omega) hs).mono ?_
  rintro e w1 ⟨g, c1, rfl, hO1, hb1⟩
  have hc1 := hO1.le
  have hs1 : Sl w1 (some ⟨g, 0, none⟩) (l.map bv) := by
    have := hO1.sl.take n
    rw [List.map_append, HN.out, List.take_left' (by simp)] at this
    exact this
  obtain ⟨g', hg', hg1, hg2⟩ := hO1.own.at_ (by omega)
  injection hg' with hg'
  injection hg' with hg'
  subst hg'
  go_wp2_with fail
  refine (sec_of (some ⟨g, 0, none⟩) n c1 l w1 HN.out (by omega) (by omega) hs1).mono ?_
  rintro e w2 ⟨A2, n2, c2, rfl, hO2, hb2⟩
  rw [← HX.out] at hO2 ⊢
  simp only [] at hO2 ⊢
  have hn2 : n2 ≤ 5000 := by rw [hO2.hn]; exact hld
  have hbw2 := below_step hb2 hb1
  have q2 := blk_one w2 55 #[.int .i64 xk, .int .u32 (xm : Nat), .slice A2 n2 c2, .int .i64 (xc : Nat), .int .i64 (xe : Nat), .bool xb]
  have hbq := below_alloc hbw2 (.cells #[.int .i64 xk, .int .u32 (xm : Nat), .slice A2 n2 c2, .int .i64 (xc : Nat), .int .i64 (xe : Nat), .bool xb] 55)
  have hO2q := hO2.alloc (.cells #[.int .i64 xk, .int .u32 (xm : Nat), .slice A2 n2 c2, .int .i64 (xc : Nat), .int .i64 (xe : Nat), .bool xb] 55)
  have hO1q := (hO1.below hb2).alloc (.cells #[.int .i64 xk, .int .u32 (xm : Nat), .slice A2 n2 c2, .int .i64 (xc : Nat), .int .i64 (xe : Nat), .bool xb] 55)
  have hs1q := (hs1.below hb2).alloc (.cells #[.int .i64 xk, .int .u32 (xm : Nat), .slice A2 n2 c2, .int .i64 (xc : Nat), .int .i64 (xe : Nat), .bool xb] 55)
  have zz : w1.heap.size ≤ w2.heap.size := hb2.size
  have HH := hide (And.intro q2 (And.intro hbq (And.intro hO2q (And.intro hO1q hs1q))))
  clear q2 hbq hO2q hO1q hs1q hO1 hO2 hs1
  go_wp2_with fail
  have zW : w2.heap.size < (w2.alloc (.cells #[.int .i64 xk, .int .u32 (xm : Nat), .slice A2 n2 c2, .int .i64 (xc : Nat), .int .i64 (xe : Nat), .bool xb] 55)).heap.size := HH.out.1.lt
  generalize w2.alloc (.cells #[.int .i64 xk, .int .u32 (xm : Nat), .slice A2 n2 c2, .int .i64 (xc : Nat), .int .i64 (xe : Nat), .bool xb] 55) = W at *
  generalize w2.heap.size = gl at *
  obtain ⟨q2, hbq, hO2, hO1, hs1⟩ := HH.out
  clear HH
  have a0 := q2.cell 0 rfl
  have a1 := q2.cell 1 rfl
  have a2 := q2.cell 2 rfl
  have a3 := q2.cell 3 rfl
  have a4 := q2.cell 4 rfl
  have a5 := q2.cell 5 rfl
  refine wp_region_held_drew (S := (fun w' => (∀ p : Addr, p.block < (W).heap.size → w'.cell? p = (W).cell? p) ∧ Below (W).heap.size (W) w')) (by kernel_rfl) ?hS1 (fun hHeld => ?rest1)
  case hS1 => ((try dsimp only); (((try go_split_ands); refine sn_of ?_; repeat' (first | with_reducible assumption | with_reducible exact Below.refl _ _ | with_reducible apply below_alloc | with_reducible apply below_drew1 | with_reducible apply below_drewN | (with_reducible apply below_step; with_reducible assumption) | (with_reducible apply below_sg2; (first | exact Nat.le_refl _ | (simp; done) | omega))))))
  case' rest1 => skip
  refine wpAnyH_take (i := 0) (oi := _) (v := ?v2) rfl (by kernel_rfl) (by kernel_rfl) (by kernel_rfl) (fun _ _ _ h => h) (Or.inl ⟨by rfl, ?hy2⟩) (by assumption) ?rest2
  case hy2 => ((intro w hSw; (try dsimp only at hSw); go_simp) <;> with_reducible rfl)
  case' rest2 => try simp only [List.getElem_toArray, List.getElem_cons_zero, List.getElem_cons_succ, Act.put, List.setIfInBounds_toArray, List.set_cons_zero, List.set_cons_succ]
  refine wpAnyH_take (i := 1) (oi := _) (v := ?v3) rfl (by kernel_rfl) (by kernel_rfl) (by kernel_rfl) (fun _ _ _ h => h) (Or.inl ⟨by rfl, ?hy3⟩) (by assumption) ?rest3
  case hy3 => ((intro w hSw; (try dsimp only at hSw); go_simp) <;> with_reducible rfl)
  case' rest3 => try simp only [List.getElem_toArray, List.getElem_cons_zero, List.getElem_cons_succ, Act.put, List.setIfInBounds_toArray, List.set_cons_zero, List.set_cons_succ]
  refine wpAnyH_ready (rs := [2]) (by kernel_rfl) (by simp) ?_
  refine AllReadyH.cons (o := _) rfl (fun K hK => ?_) AllReadyH.nil
  go_simp
  refine (rsec_of A n c l _ HN.out hc (by omega) (hs.below (below_drew1 hbq))).mono ?_
  rintro e w3 ⟨A3, n3, c3, rfl, hO3, hb3⟩
  rw [← HX.out] at hO3 ⊢
  simp only [] at hO3 ⊢
  have hO23 := hO2.drew.below hb3
  try dsimp only
  refine hK.out _ _ ?hS6 (fun hHeld => ?rest6)
  case hS6 => ((try dsimp only); (((try go_split_ands); refine sn_of ?_; repeat' (first | with_reducible assumption | with_reducible exact Below.refl _ _ | with_reducible apply below_alloc | with_reducible apply below_drew1 | with_reducible apply below_drewN | (with_reducible apply below_step; with_reducible assumption) | (with_reducible apply below_sg2; (first | exact Nat.le_refl _ | (simp; done) | omega))))))
  case' rest6 => (clear hK K; try simp only [List.getElem_toArray, List.getElem_cons_zero, List.getElem_cons_succ, Act.put, List.setIfInBounds_toArray, List.set_cons_zero, List.set_cons_succ])
  refine wpAnyH_ready (rs := [3]) (by kernel_rfl) (by simp) ?_
  refine AllReadyH.cons (o := _) rfl (fun K hK => ?_) AllReadyH.nil
  go_simp
  refine (sec_same A2 A3 xk xc xe xm n2 c2 n3 c3 xb xd _ hO23.hn hO3.hn hO23.sl hO3.sl).mono ?_
  rintro e w4 ⟨rfl, hb4⟩
  try dsimp only
  refine hK.out _ _ ?hS9 (fun hHeld => ?rest9)
  case hS9 => ((try dsimp only); (((try go_split_ands); refine sn_of ?_; repeat' (first | with_reducible assumption | with_reducible exact Below.refl _ _ | with_reducible apply below_alloc | with_reducible apply below_drew1 | with_reducible apply below_drewN | (with_reducible apply below_step; with_reducible assumption) | (with_reducible apply below_sg2; (first | exact Nat.le_refl _ | (simp; done) | omega))))))
  case' rest9 => (clear hK K; try simp only [List.getElem_toArray, List.getElem_cons_zero, List.getElem_cons_succ, Act.put, List.setIfInBounds_toArray, List.set_cons_zero, List.set_cons_succ])
  refine wpAnyH_ready (rs := [4]) (by kernel_rfl) (by simp) ?_
  refine AllReadyH.cons (o := _) rfl (fun K hK => ?_) AllReadyH.nil
  go_simp
  refine hK.out _ _ ?hS12 (fun hHeld => ?rest12)
  case hS12 => ((try dsimp only); (((try go_split_ands); refine sn_of ?_; repeat' (first | with_reducible assumption | with_reducible exact Below.refl _ _ | with_reducible apply below_alloc | with_reducible apply below_drew1 | with_reducible apply below_drewN | (with_reducible apply below_step; with_reducible assumption) | (with_reducible apply below_sg2; (first | exact Nat.le_refl _ | (simp; done) | omega))))))
  case' rest12 => (clear hK K; try simp only [List.getElem_toArray, List.getElem_cons_zero, List.getElem_cons_succ, Act.put, List.setIfInBounds_toArray, List.set_cons_zero, List.set_cons_succ])
  refine wpAnyH_done (by kernel_rfl) ?_ _
  have hEnd := hHeld.2
  repeat (clear hHeld)
  have q4 := q2.below hEnd zW
  have hbw4 := below_step hEnd hbq
  have hO24 := hO2.below hEnd
  have hO14 := hO1.below hEnd
  clear a0 a1 a2 a3 a4 a5
  have a2 := q4.cell 2 rfl
  go_wp2_with fail
  refine (spoil_any A2 n2 c2 w1.heap.size xd w4 (by omega) hO24.own (by have := hEnd.size; omega)).mono ?_
  rintro e w5 ⟨rfl, hg5⟩
  have hO15 := own_spoilt hO14.own hO24.own hg5 (by intro g' hg'; injection hg' with hg'; injection hg' with hg'; omega)
  have hbw5 : Below w.heap.size w w5 := below_spoilt hbw4 hO24.own hg5 hb1.size hbw4.size
  have hs15 : Sl w5 (some ⟨g, 0, none⟩) (l.map bv) := by
    have := hO15.sl.take n
    rw [List.map_append, HN.out, List.take_left' (by simp)] at this
    exact this
  go_wp2_with fail
  refine (kept_yes g A n c1 c l w5 HN.out (by omega) hc1 hO15.sl (hs.below hbw5)).mono ?_
  rintro e w6 ⟨rfl, rfl⟩
  go_wp2_with fail
  refine (sec_of (some ⟨g, 0, none⟩) n c1 l w5 HN.out (by omega) (by omega) hs15).mono ?_
  rintro e w6 ⟨A6, n6, c6, rfl, hO6, hb6⟩
  rw [← HX.out] at hO6 ⊢
  simp only [] at hO6 ⊢
  have hbw6 := below_step hb6 hbw5
  go_wp2_with fail
  refine (rsec_of A n c l _ HN.out hc (by omega) (hs.below hbw6)).mono ?_
  rintro e w7 ⟨A7, n7, c7, rfl, hO7, hb7⟩
  rw [← HX.out] at hO7 ⊢
  simp only [] at hO7 ⊢
  have hbw7 := below_step hb7 hbw6
  go_wp2_with fail
  refine (sec_same A6 A7 xk xc xe xm n6 c6 n7 c7 xb xd _ (hO6.below hb7).hn hO7.hn (hO6.below hb7).sl hO7.sl).mono ?_
  rintro e w8 ⟨rfl, hb8⟩
  go_wp2_with fail
  refine (known_08 _).mono ?_
  rintro e w9 ⟨rfl, hb9⟩
  go_wp2_with fail
  go_ret
  exact (⟨rfl, below_step hb9 (below_step hb8 hbw7)⟩ : TrueB w _ _)
end Go.Proofs.Ytapfadaplncpeaa
