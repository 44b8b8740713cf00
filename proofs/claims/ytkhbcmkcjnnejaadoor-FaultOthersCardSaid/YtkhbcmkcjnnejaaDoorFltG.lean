/- Package fault: Code, Family. -/
import Derived.Test.YtkhbcmkcjnnejaaDoorFltF
namespace Go.Proofs.YtkhbcmkcjnnejaaDoor
set_option linter.unusedVariables false
set_option linter.unusedSimpArgs false
set_option linter.unnecessarySimpa false
open Go.RowKit Go.Extern.Stop Go.Stop Go.Extern
set_option maxRecDepth 20000
set_option maxHeartbeats 8000000

theorem fa_Code0 (w : World) : Calls Tryd.prog 12 #[.agg #[.nilIface]] w fun e w' => e = .returned (.int .u32 0) ∧ Below w.heap.size w w' := by
  have HB := hide (below_alloc (below_alloc (Below.refl w.heap.size w) (.cells #[.nilIface] 28)) (.cells #[.pointer none] 48))
  go_enter Tryd.func12, Tryd.ntmps12
  go_wp2_with fail
  go_ret
  exact ⟨rfl, HB.out⟩
theorem fa_Code (a : Nat → Addr) (M : Nat) (e : FEnd) (c : Nat) (cs : List Nat) (v : Value) (w : World) (hG : GV w a M) (hC : Ch w a e (c :: cs) v) :
    Calls Tryd.prog 12 #[.agg #[v]] w fun e' w' => e' = .returned (.int .u32 (c : Nat)) ∧ Below w.heap.size w w' := by
  obtain ⟨p, u, rfl, hB, -⟩ := hC
  have hb := below_alloc (below_alloc (Below.refl w.heap.size w) (.cells #[.iface 48 (.pointer (some ⟨p, 0, none⟩))] 28)) (.cells #[.pointer none] 48)
  have kk := blk_two w 28 48 #[.iface 48 (.pointer (some ⟨p, 0, none⟩))] #[.pointer none]
  have HAS := hide (eAs_link p (w.heap.size + 1) (.pointer none) _ kk.2 (hG.below hb).et)
  have HP := hide (hB.below hb hB.lt)
  have HB := hide hb
  have zp := hB.lt
  have hne : ¬ p = w.heap.size + 1 := by omega
  clear hB hb kk hG
  go_enter Tryd.func12, Tryd.ntmps12
  go_wp2_with fail
  refine HAS.out.mono ?_
  rintro e w2 ⟨rfl, hL, hO⟩
  have l0 := hL.cell 0 (u := .pointer (some ⟨p, 0, none⟩)) rfl
  have hp2 : Blk w2 p 52 #[.int .u32 (c : Nat), u] := (hO.block p HP.out.lt hne).trans HP.out
  have p0 := hp2.cell 0 (u := .int .u32 (c : Nat)) rfl
  have HB2 := hide (below_only hO HB.out (fun i hi => by omega))
  clear hL hO hp2
  go_wp2_with fail
  go_ret
  exact ⟨rfl, HB2.out⟩
def famE (e : FEnd) : Nat := match e with | .sent n => n | .txt _ => 5
theorem fa_Family0 (w : World) : Calls Tryd.prog 13 #[.agg #[.nilIface]] w fun e w' => e = .returned (.int .i64 0) ∧ Below w.heap.size w w' := by
  have HB := hide (below_alloc (Below.refl w.heap.size w) (.cells #[.nilIface] 28))
  go_enter Tryd.func13, Tryd.ntmps13
  go_wp2_with fail
  go_ret
  exact ⟨rfl, HB.out⟩
theorem fa_Family (a : Nat → Addr) (M : Nat) (e : FEnd) (cs : List Nat) (v : Value) (w : World) (hG : GV w a M) (he : goodE e) (hC : Ch w a e cs v) :
    Calls Tryd.prog 13 #[.agg #[v]] w fun e' w' => e' = .returned (.int .i64 (famE e : Nat)) ∧ Below w.heap.size w w' := by
  obtain ⟨tt, x, rfl⟩ := ch_iface hC
  have hb := below_alloc (Below.refl w.heap.size w) (.cells #[.iface tt x] 28)
  have q0 := blk_one w 28 #[.iface tt x]
  have HG := hide (hG.below hb)
  have HC := hide (hC.below hb)
  have HQ := hide q0
  have HB := hide hb
  clear hG hC hb q0
  go_enter Tryd.func13, Tryd.ntmps13
  go_wp2_with fail
  go_loopw [2, 3] (fun _ i wr => ∃ k : Nat, 1 ≤ k ∧ k ≤ 5 ∧ i = .int .i64 (k : Nat) ∧ Hid (∀ j, 1 ≤ j → j < k → isE e j = false) ∧ Hid (Below (w.alloc (.cells #[.iface tt x] 28)).heap.size (w.alloc (.cells #[.iface tt x] 28)) wr)) (fun _ i _ => 5 - (intOf i).toNat)
  case atStart => exact ⟨1, by omega, by omega, rfl, hide (fun j h1 h2 => by omega), hide (Below.refl _ _)⟩
  case round =>
    obtain ⟨k, hk1, hk5, rfl, HJ, HBr⟩ := hrel
    have qr := HQ.out.below HBr.out HQ.out.lt
    have x0 := qr.cell 0 (u := .iface tt x) rfl
    have zr := qr.lt
    have HBW := hide (below_step HBr.out HB.out)
    clear qr
    by_cases hlt : k < 5
    · have HBS := hide (fun W (h : Below wr.heap.size wr W) => fa_base k a W ((HG.out.below HBr.out).below h) hk1 hk5)
      have HIS := hide (fun W (h : Below wr.heap.size wr W) => eIs_sent a k e cs (.iface tt x) W ((HG.out.below HBr.out).below h) hk1 hk5 he ((HC.out.below HBr.out).below h))
      obtain ⟨b, hb⟩ : ∃ b, b = isE e k := ⟨_, rfl⟩
      have HBE := hide hb
      rw [← hb] at HIS
      clear hb
      go_wp2_with fail
      refine wp_region_held_drew (S := (fun w' => (∀ qA : Addr, qA.block < (wr).heap.size → w'.cell? qA = (wr).cell? qA) ∧ Below (wr).heap.size (wr) w')) (by kernel_rfl) ?hS1 (fun hHeld => ?rest1)
      case hS1 => ((try dsimp only); (((try go_split_ands); refine sn_of ?_; repeat' (first | with_reducible assumption | with_reducible exact Below.refl _ _ | with_reducible apply below_alloc | with_reducible apply below_drew1 | with_reducible apply below_drewN | (with_reducible apply below_step; with_reducible assumption) | (with_reducible apply below_sg2; (first | exact Nat.le_refl _ | (simp; done) | omega))))))
      case' rest1 => skip
      refine wpAnyH_take (i := 0) (oi := _) (v := ?v2) rfl (by kernel_rfl) (by kernel_rfl) (by kernel_rfl) (fun _ _ _ h => h) (Or.inl ⟨by rfl, ?hy2⟩) (by assumption) ?rest2
      case hy2 => ((intro w hSw; (try dsimp only at hSw); go_simp) <;> with_reducible rfl)
      case' rest2 => try simp only [List.getElem_toArray, List.getElem_cons_zero, List.getElem_cons_succ, Act.put, List.setIfInBounds_toArray, List.set_cons_zero, List.set_cons_succ]
      refine wpAnyH_take (i := 1) (oi := _) (v := ?v3) rfl (by kernel_rfl) (by kernel_rfl) (by kernel_rfl) (fun _ _ _ h => h) (Or.inl ⟨by rfl, ?hy3⟩) (by assumption) ?rest3
      case hy3 => ((intro w hSw; (try dsimp only at hSw); go_simp) <;> with_reducible rfl)
      case' rest3 => try simp only [List.getElem_toArray, List.getElem_cons_zero, List.getElem_cons_succ, Act.put, List.setIfInBounds_toArray, List.set_cons_zero, List.set_cons_succ]
      refine wpAnyH_take (i := 2) (oi := _) (v := ?v4) rfl (by kernel_rfl) (by kernel_rfl) (by kernel_rfl) (fun _ _ _ h => h) (Or.inl ⟨by rfl, ?hy4⟩) (by assumption) ?rest4
      case hy4 => ((intro w hSw; (try dsimp only at hSw); go_simp) <;> with_reducible rfl)
      case' rest4 => try simp only [List.getElem_toArray, List.getElem_cons_zero, List.getElem_cons_succ, Act.put, List.setIfInBounds_toArray, List.set_cons_zero, List.set_cons_succ]
      refine wpAnyH_ready (rs := [3]) (by kernel_rfl) (by simp) ?_
      refine AllReadyH.cons (o := _) rfl (fun K hK => ?_) AllReadyH.nil
      go_simp
      refine (HBS.out _ (below_drew1 (Below.refl _ _))).mono ?_
      rintro e' w2 ⟨rfl, rfl⟩
      try dsimp only
      refine hK.out _ _ ?hS7 (fun hHeld => ?rest7)
      case hS7 => ((try dsimp only); (((try go_split_ands); refine sn_of ?_; repeat' (first | with_reducible assumption | with_reducible exact Below.refl _ _ | with_reducible apply below_alloc | with_reducible apply below_drew1 | with_reducible apply below_drewN | (with_reducible apply below_step; with_reducible assumption) | (with_reducible apply below_sg2; (first | exact Nat.le_refl _ | (simp; done) | omega))))))
      case' rest7 => (clear hK K; try simp only [List.getElem_toArray, List.getElem_cons_zero, List.getElem_cons_succ, Act.put, List.setIfInBounds_toArray, List.set_cons_zero, List.set_cons_succ])
      refine wpAnyH_ready (rs := [4]) (by kernel_rfl) (by simp) ?_
      refine AllReadyH.cons (o := _) rfl (fun K hK => ?_) AllReadyH.nil
      go_simp
      refine (HIS.out _ (below_drew1 (Below.refl _ _))).mono ?_
      rintro e' w3 ⟨rfl, hb3⟩
      try dsimp only
      refine hK.out _ _ ?hS10 (fun hHeld => ?rest10)
      case hS10 => ((try dsimp only); (((try go_split_ands); refine sn_of ?_; repeat' (first | with_reducible assumption | with_reducible exact Below.refl _ _ | with_reducible apply below_alloc | with_reducible apply below_drew1 | with_reducible apply below_drewN | (with_reducible apply below_step; with_reducible assumption) | (with_reducible apply below_sg2; (first | exact Nat.le_refl _ | (simp; done) | omega))))))
      case' rest10 => (clear hK K; try simp only [List.getElem_toArray, List.getElem_cons_zero, List.getElem_cons_succ, Act.put, List.setIfInBounds_toArray, List.set_cons_zero, List.set_cons_succ])
      refine wpAnyH_done (by kernel_rfl) ?_ _
      have hEnd := hHeld.2
      repeat (clear hHeld)
      have HB3 := hide (below_step hEnd HBW.out)
      have HBr3 := hide (below_step hEnd HBr.out)
      clear hEnd hb3
      cases b
      · go_wp2_with fail
        go_roundw
        case rel => exact ⟨k + 1, by omega, by omega, by go_num, hide (fun j h1 h2 => (Nat.lt_or_ge j k).elim (fun h => HJ.out j h1 h) (fun h => by have hj : j = k := (by omega); rw [hj]; exact HBE.out.symm)), HBr3⟩
        case measure => simp [intOf]; omega
      · have hE : famE e = k := by
          have h1 := HBE.out
          unfold isE at h1
          cases e with
          | sent n => simp at h1; exact h1
          | txt t => simp at h1
        have HEE := hide hE
        clear hE
        go_wp2_with fail
        go_ret
        exact ⟨ret_int (by rw [HEE.out]), HB3.out⟩
    · obtain rfl : k = 5 := by omega
      have hE : famE e = 5 := by
        cases e with
        | sent n =>
          have hg : 1 ≤ n ∧ n ≤ 5 := he
          show n = 5
          by_cases h5 : n = 5
          · exact h5
          · have := HJ.out n hg.1 (by omega)
            simp [isE] at this
        | txt t => rfl
      have HEE := hide hE
      clear hE
      go_wp2_with fail
      go_ret
      exact ⟨ret_int (by rw [HEE.out]; rfl), HBW.out⟩
end Go.Proofs.YtkhbcmkcjnnejaaDoor
