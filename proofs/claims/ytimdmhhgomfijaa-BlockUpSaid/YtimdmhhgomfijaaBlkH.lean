/- Package block: up, total. -/
import Derived.Test.YtimdmhhgomfijaaBlkG
namespace Go.Proofs.Ytimdmhhgomfijaa
set_option linter.unusedVariables false
set_option linter.unusedSimpArgs false
set_option linter.unnecessarySimpa false
open Go.RowKit
set_option maxRecDepth 100000
set_option maxHeartbeats 4000000
theorem btot22 (B : List UInt8) (n : Nat) (hn : n = B.length) : (btotal B : Int) = if ((n : Int) + 6) / 7 < 1 then 1 else ((n : Int) + 6) / 7 := by
  unfold btotal
  rw [← hn]
  split <;> omega
theorem blk_total (p pd : Nat) (S : BlkS) (A : Option Addr) (n c : Nat) (w : World) (hB : Blk w p 73 (bsrV S pd A n c)) (hn : n = S.b.length) (h1 : n ≤ 100000) :
    Calls Try.prog 68 #[.pointer (some ⟨p, 0, none⟩)] w fun e w' => e = .returned (.int .i64 (btotal S.b : Nat)) ∧ w = w' := by
  have c10 : w.cell? ⟨p, 10, none⟩ = some (.slice A n c) := hB.cell 10 rfl
  have HT := hide (btot22 S.b n hn)
  have hz := hB.lt
  obtain ⟨t, ht⟩ : ∃ t, t = btotal S.b := ⟨_, rfl⟩
  rw [← ht] at HT
  rw [← ht]
  clear hn hB ht
  by_cases h7 : 1 < ((n : Int) + 7 - 1) / 7
  · have e : (t : Int) = ((n : Int) + 7 - 1) / 7 := by have := HT.out; split at this <;> omega
    have HE := hide e
    clear e
    go_enter Try.func68, Try.ntmps68
    go_wp2_with fail
    go_ret
    exact ⟨by rw [HE.out]; rfl, rfl⟩
  · have e : (t : Int) = 1 := by have := HT.out; split at this <;> omega
    have HE := hide e
    clear e
    go_enter Try.func68, Try.ntmps68
    go_wp2_with fail
    go_ret
    exact ⟨by rw [HE.out]; rfl, rfl⟩
theorem bucode_nn (L : List Ent) (M : Ms) : ∃ k : Nat, bucode L M = (k : Int) := by
  unfold bucode
  split
  · exact ⟨84148226, rfl⟩
  · exact getC_nn _ _ _
section
variable {F : Nat → Prop} {pd gl n cl cv : Nat} {Av : Option Addr} {L : List Ent} {V : List (List UInt8)} {ds es : List (Option Addr × Nat)}
theorem blk_up (p : Nat) (S : BlkS) (G : Nat → Prop) (M : Ms) (A3 : Option Addr) (m3 c3 : Nat) (w : World) (hD : DB 75 w F pd (some ⟨gl, 0, none⟩) n cl Av cv L V ds es) (hs : SortedE L) (hn : n ≤ 1000) (hv : ∀ v ∈ V, v.length ≤ 256)
    (hp : ¬ F p) (hS : BV_ w G p pd S) :
    Calls Try.prog 44 #[.pointer (some ⟨p, 0, none⟩), .agg (msV M A3 m3 c3)] w (BOutR w G p pd (bupS L V S M) (bupO L V M)) := by
  obtain ⟨A, n1, c1, hB, hby⟩ := id hS
  obtain ⟨P, hP⟩ : ∃ P, P = BOutR w G p pd (bupS L V S M) (bupO L V M) := ⟨_, rfl⟩
  rw [← hP]
  have HP := hide hP
  have hz := hB.lt
  have HS0 : Hid (BV_ w G p pd S) := hide hS
  have HS := hide hs
  have H1 := hide hn
  have HV := hide hv
  have HD := hide (fun W (h : Only (fun q => q = p) w W) => hD.keep (w' := W) (fun g hg hlt => h.block g hlt (fun e => hp (e ▸ hg))))
  have HH := hide (bx_mk (S := S) (pd := pd) (A := A) (n1 := n1) (c1 := c1) M A3 m3 c3 hB)
  have HB0 := hide (below_alloc (below_alloc (Below.refl w.heap.size w) (.cells (msV M A3 m3 c3) 39)) (.cells (outV none 0 0 outZ none 0 0) 44))
  clear hP hS hB hby hD hs hn hv
  unfold msV outV outZ at HH HB0
  unfold msV
  go_enter Try.func44, Try.ntmps44
  go_upto_region 1 with fail
  refine wp_gen (P := fun W => BX w p pd (KMO w M A3 m3 c3) S A n1 c1 W ∧ Below w.heap.size w W) ⟨HH.out, HB0.out⟩ (fun W hW => ?_)
  clear HH HB0
  obtain ⟨hX, hbw⟩ := hW
  have HX := hide hX
  have hbwy := hbw
  have HBW := hide hbw
  have k1 := hX.msg
  have zW := hX.2.1.lt
  have zK := hX.out.lt
  have zK1 := k1.lt
  have hne0 : w.heap.size ≠ p := by omega
  have b0 : W.cell? ⟨p, 6, none⟩ = some (.pointer (some ⟨pd, 0, none⟩)) := hX.2.1.cell 6 rfl
  have HDW := hide (HD.out W hX.1)
  unfold msV at k1
  have k1_c0 := k1.cell 0 rfl
  have k1_f0 := k1.frozen 0
  have k1_c1 := k1.cell 1 rfl
  have k1_f1 := k1.frozen 1
  have k1_c2 := k1.cell 2 rfl
  have k1_f2 := k1.frozen 2
  have k1_c3 := k1.cell 3 rfl
  have k1_f3 := k1.frozen 3
  have k1_c4 := k1.cell 4 rfl
  have k1_f4 := k1.frozen 4
  have k1_c5 := k1.cell 5 rfl
  have k1_f5 := k1.frozen 5
  have k1_c6 := k1.cell 6 rfl
  have k1_f6 := k1.frozen 6
  have k1_c7 := k1.cell 7 rfl
  have k1_f7 := k1.frozen 7
  have k1_c8 := k1.cell 8 rfl
  have k1_f8 := k1.frozen 8
  have k1_c9 := k1.cell 9 rfl
  have k1_f9 := k1.frozen 9
  have k1_c10 := k1.cell 10 rfl
  have k1_f10 := k1.frozen 10
  have k1_c11 := k1.cell 11 rfl
  have k1_f11 := k1.frozen 11
  have k1_c12 := k1.cell 12 rfl
  have k1_f12 := k1.frozen 12
  have k1_c13 := k1.cell 13 rfl
  have k1_f13 := k1.frozen 13
  clear hX hbw
  by_cases hbl : M.bl = 0
  · have HXW := HX
    have HDC : Hid (bucode L M = (84148226 : Nat)) := hide (by unfold bucode; rw [if_pos hbl]; rfl)
    have HR : Hid (P = BOutR w G p pd S (outM (abM M.ix M.sub 84148226))) := hide (by
      rw [HP.out]
      congr 1
      · unfold bupS; rw [if_pos (by rw [HDC.out]; omega)]
      · unfold bupO; rw [if_pos (by rw [HDC.out]; omega), HDC.out]; rfl)
    go_wp2_with fail
    refine (blk_refuse M.ix M.sub 84148226 _).mono ?_
    rintro e w5 ⟨rfl, hb5⟩
    have HX5 := hide ((HXW.out.step hb5).step (below_alloc (Below.refl _ _) (.cells (msV (abM M.ix M.sub 84148226) none 0 0) 39)))
    have HG5 := hide (Blk.new w5 39 (msV (abM M.ix M.sub 84148226) none 0 0))
    have hbw5 := below_alloc (below_step hb5 hbwy) (.cells (msV (abM M.ix M.sub 84148226) none 0 0) 39)
    have HBW5 := hide hbw5
    have zz5 : w.heap.size + 2 ≤ w5.heap.size := Nat.le_trans HXW.out.2.2.2 hb5.size
    unfold msV abM at HX5 HG5 HBW5
    unfold msV abM
    dsimp only
    clear k1_c0 k1_f0 k1_c1 k1_f1 k1_c2 k1_f2 k1_c3 k1_f3 k1_c4 k1_f4 k1_c5 k1_f5 k1_c6 k1_f6 k1_c7 k1_f7 k1_c8 k1_f8 k1_c9 k1_f9 k1_c10 k1_f10 k1_c11 k1_f11 k1_c12 k1_f12 k1_c13 k1_f13
    clear hbw5 hb5 k1
    go_wp2_with fail
    refine (blk_send (some ⟨w5.heap.size, 0, none⟩) 1 1 _).mono ?_
    rintro e w6 ⟨rfl, hb6⟩
    have HX6 := hide (HX5.out.step hb6)
    have HG6 := hide (HG5.out.below hb6 HG5.out.lt)
    have hbw6 := below_step hb6 HBW5.out
    have HS6 := hide (HS0.out.keep (w' := w6) (H := fun q => ((G q ∨ w.heap.size ≤ q) ∧ ¬ False) ∧ q ≠ w.heap.size + 1) (fun q _ hq => hbw6.block q hq) hbw6.size (fun q h1 h2 => ⟨⟨.inl h2, id⟩, by omega⟩))
    have k2 := HX6.out.out
    unfold outV outZ at k2
    unfold outV outZ
    dsimp only
    have k2_c0 := k2.cell 0 rfl
    have k2_f0 := k2.frozen 0
    have k2_c1 := k2.cell 1 rfl
    have k2_f1 := k2.frozen 1
    have k2_c2 := k2.cell 2 rfl
    have k2_f2 := k2.frozen 2
    have k2_c3 := k2.cell 3 rfl
    have k2_f3 := k2.frozen 3
    have k2_c4 := k2.cell 4 rfl
    have k2_f4 := k2.frozen 4
    clear hb6 hbw6
    go_wp2_with fail
    obtain ⟨F1, F2⟩ := bfin_send (fun _ => False) HX6.out.out (by omega) (M := abM M.ix M.sub 84148226) HG6.out (OwnB.nil _ _) (FIn.nil _) HS6.out HX6.out.1 hz
    rw [← HR.out] at F2
    clear HR
    unfold putO outZ at F1 F2
    dsimp only at F1 F2
    refine ret_out (O := ⟨[], false, 0, 0, []⟩) rfl rfl rfl F1 ?_
    exact F2
  · have hbl1 : (M.bl == 0) = false := by simp [hbl]
    go_upto_region 3 with fail
    refine wp_region_held_drew (S := (fun w' => (∀ qA : Addr, qA.block < (W).heap.size → w'.cell? qA = (W).cell? qA) ∧ Below (W).heap.size (W) w')) (by kernel_rfl) ?hS1 (fun hHeld => ?rest1)
    case hS1 => ((try dsimp only); (((try go_split_ands); refine sn_of ?_; repeat' (first | with_reducible assumption | with_reducible exact Below.refl _ _ | with_reducible apply below_alloc | with_reducible apply below_drew1 | with_reducible apply below_drewN | (with_reducible apply below_step; with_reducible assumption) | (with_reducible apply below_sg2; (first | exact Nat.le_refl _ | (simp; done) | omega))))))
    case' rest1 => skip
    refine wpAnyH_take (i := 0) (oi := _) (v := ?v2) rfl (by kernel_rfl) (by kernel_rfl) (by kernel_rfl) (fun _ _ _ h => h) (Or.inl ⟨by rfl, ?hy2⟩) (by assumption) ?rest2
    case hy2 => ((intro w hSw; (try dsimp only at hSw); go_simp) <;> with_reducible rfl)
    case' rest2 => try simp only [List.getElem_toArray, List.getElem_cons_zero, List.getElem_cons_succ, Act.put, List.setIfInBounds_toArray, List.set_cons_zero, List.set_cons_succ]
    refine wpAnyH_take (i := 1) (oi := _) (v := ?v3) rfl (by kernel_rfl) (by kernel_rfl) (by kernel_rfl) (fun _ _ _ h => h) (Or.inl ⟨by rfl, ?hy3⟩) (by assumption) ?rest3
    case hy3 => ((intro w hSw; (try dsimp only at hSw); go_simp) <;> with_reducible rfl)
    case' rest3 => try simp only [List.getElem_toArray, List.getElem_cons_zero, List.getElem_cons_succ, Act.put, List.setIfInBounds_toArray, List.set_cons_zero, List.set_cons_succ]
    refine wpAnyH_take (i := 2) (oi := _) (v := ?v4) rfl (by kernel_rfl) (by kernel_rfl) (by kernel_rfl) (fun _ _ _ h => h) (Or.inl ⟨by rfl, ?hy4⟩) (by assumption) ?rest4
    case hy4 => ((intro w hSw; (try dsimp only at hSw); go_simp) <;> with_reducible rfl)
    case' rest4 => try simp only [List.getElem_toArray, List.getElem_cons_zero, List.getElem_cons_succ, Act.put, List.setIfInBounds_toArray, List.set_cons_zero, List.set_cons_succ]
    refine wpAnyH_take (i := 3) (oi := _) (v := ?v5) rfl (by kernel_rfl) (by kernel_rfl) (by kernel_rfl) (fun _ _ _ h => h) (Or.inl ⟨by rfl, ?hy5⟩) (by assumption) ?rest5
    case hy5 => ((intro w hSw; (try dsimp only at hSw); go_simp) <;> with_reducible rfl)
    case' rest5 => try simp only [List.getElem_toArray, List.getElem_cons_zero, List.getElem_cons_succ, Act.put, List.setIfInBounds_toArray, List.set_cons_zero, List.set_cons_succ]
    refine wpAnyH_take (i := 4) (oi := _) (v := ?v6) rfl (by kernel_rfl) (by kernel_rfl) (by kernel_rfl) (fun _ _ _ h => h) (Or.inl ⟨by rfl, ?hy6⟩) (by assumption) ?rest6
    case hy6 => ((intro w hSw; (try dsimp only at hSw); go_simp) <;> with_reducible rfl)
    case' rest6 => try simp only [List.getElem_toArray, List.getElem_cons_zero, List.getElem_cons_succ, Act.put, List.setIfInBounds_toArray, List.set_cons_zero, List.set_cons_succ]
    refine wpAnyH_take (i := 5) (oi := _) (v := ?v7) rfl (by kernel_rfl) (by kernel_rfl) (by kernel_rfl) (fun _ _ _ h => h) (Or.inl ⟨by rfl, ?hy7⟩) (by assumption) ?rest7
    case hy7 => ((intro w hSw; (try dsimp only at hSw); go_simp) <;> with_reducible rfl)
    case' rest7 => try simp only [List.getElem_toArray, List.getElem_cons_zero, List.getElem_cons_succ, Act.put, List.setIfInBounds_toArray, List.set_cons_zero, List.set_cons_succ]
    refine wpAnyH_take (i := 6) (oi := _) (v := ?v8) rfl (by kernel_rfl) (by kernel_rfl) (by kernel_rfl) (fun _ _ _ h => h) (Or.inl ⟨by rfl, ?hy8⟩) (by assumption) ?rest8
    case hy8 => ((intro w hSw; (try dsimp only at hSw); go_simp) <;> with_reducible rfl)
    case' rest8 => try simp only [List.getElem_toArray, List.getElem_cons_zero, List.getElem_cons_succ, Act.put, List.setIfInBounds_toArray, List.set_cons_zero, List.set_cons_succ]
    refine wpAnyH_take (i := 7) (oi := _) (v := ?v9) rfl (by kernel_rfl) (by kernel_rfl) (by kernel_rfl) (fun _ _ _ h => h) (Or.inl ⟨by rfl, ?hy9⟩) (by assumption) ?rest9
    case hy9 => ((intro w hSw; (try dsimp only at hSw); go_simp) <;> with_reducible rfl)
    case' rest9 => try simp only [List.getElem_toArray, List.getElem_cons_zero, List.getElem_cons_succ, Act.put, List.setIfInBounds_toArray, List.set_cons_zero, List.set_cons_succ]
    refine wpAnyH_ready (rs := [8]) (by kernel_rfl) (by simp) ?_
    refine AllReadyH.cons (o := _) rfl (fun K hK => ?_) AllReadyH.nil
    go_simp
    refine (dict_get M.ix M.sub _ (HDW.out.below (Below.drew (Below.refl _ _))) HS.out H1.out).mono ?_
    rintro e w2 ⟨A4, n4, c4, b, rfl, hO4, hb4, hb2⟩
    have HO4 := hide (hO4.mono (B' := W.heap.size) (Nat.le_refl _))
    have HB4 := hide hb4
    clear hO4 hb4
    dsimp only
    refine hK.out _ _ ?hS12 (fun hHeld => ?rest12)
    case hS12 => ((try dsimp only); (((try go_split_ands); refine sn_of ?_; repeat' (first | with_reducible assumption | with_reducible exact Below.refl _ _ | with_reducible apply below_alloc | with_reducible apply below_drew1 | with_reducible apply below_drewN | (with_reducible apply below_step; with_reducible assumption) | (with_reducible apply below_sg2; (first | exact Nat.le_refl _ | (simp; done) | omega))))))
    case' rest12 => (clear hK K; try simp only [List.getElem_toArray, List.getElem_cons_zero, List.getElem_cons_succ, Act.put, List.setIfInBounds_toArray, List.set_cons_zero, List.set_cons_succ])
    refine wpAnyH_take (i := 9) (oi := _) (v := ?v13) rfl (by kernel_rfl) (by kernel_rfl) (by kernel_rfl) (fun _ _ _ h => h) (Or.inl ⟨by rfl, ?hy13⟩) (by assumption) ?rest13
    case hy13 => ((intro w hSw; (try dsimp only at hSw); go_simp) <;> with_reducible rfl)
    case' rest13 => try simp only [List.getElem_toArray, List.getElem_cons_zero, List.getElem_cons_succ, Act.put, List.setIfInBounds_toArray, List.set_cons_zero, List.set_cons_succ]
    refine wpAnyH_take (i := 10) (oi := _) (v := ?v14) rfl (by kernel_rfl) (by kernel_rfl) (by kernel_rfl) (fun _ _ _ h => h) (Or.inl ⟨by rfl, ?hy14⟩) (by assumption) ?rest14
    case hy14 => ((intro w hSw; (try dsimp only at hSw); go_simp) <;> with_reducible rfl)
    case' rest14 => try simp only [List.getElem_toArray, List.getElem_cons_zero, List.getElem_cons_succ, Act.put, List.setIfInBounds_toArray, List.set_cons_zero, List.set_cons_succ]
    refine wpAnyH_take (i := 11) (oi := _) (v := ?v15) rfl (by kernel_rfl) (by kernel_rfl) (by kernel_rfl) (fun _ _ _ h => h) (Or.inl ⟨by rfl, ?hy15⟩) (by assumption) ?rest15
    case hy15 => ((intro w hSw; (try dsimp only at hSw); go_simp) <;> with_reducible rfl)
    case' rest15 => try simp only [List.getElem_toArray, List.getElem_cons_zero, List.getElem_cons_succ, Act.put, List.setIfInBounds_toArray, List.set_cons_zero, List.set_cons_succ]
    refine wpAnyH_take (i := 12) (oi := _) (v := ?v16) rfl (by kernel_rfl) (by kernel_rfl) (by kernel_rfl) (fun _ _ _ h => h) (Or.inl ⟨by rfl, ?hy16⟩) (by assumption) ?rest16
    case hy16 => ((intro w hSw; (try dsimp only at hSw); go_simp) <;> with_reducible rfl)
    case' rest16 => try simp only [List.getElem_toArray, List.getElem_cons_zero, List.getElem_cons_succ, Act.put, List.setIfInBounds_toArray, List.set_cons_zero, List.set_cons_succ]
    refine wpAnyH_take (i := 13) (oi := _) (v := ?v17) rfl (by kernel_rfl) (by kernel_rfl) (by kernel_rfl) (fun _ _ _ h => h) (Or.inl ⟨by rfl, ?hy17⟩) (by assumption) ?rest17
    case hy17 => ((intro w hSw; (try dsimp only at hSw); go_simp) <;> with_reducible rfl)
    case' rest17 => try simp only [List.getElem_toArray, List.getElem_cons_zero, List.getElem_cons_succ, Act.put, List.setIfInBounds_toArray, List.set_cons_zero, List.set_cons_succ]
    refine wpAnyH_done (by kernel_rfl) ?_ _
    have hEnd := hHeld.2
    repeat (clear hHeld)
    have HXW := hide (HX.out.step hEnd)
    have hbwy := below_step hEnd hbwy
    have zWz : W.heap.size ≤ w2.heap.size := hEnd.size
    have zWz0 : w.heap.size + 2 ≤ W.heap.size := HX.out.2.2.2
    clear k1_c0 k1_f0 k1_c1 k1_f1 k1_c2 k1_f2 k1_c3 k1_f3 k1_c4 k1_f4 k1_c5 k1_f5 k1_c6 k1_f6 k1_c7 k1_f7 k1_c8 k1_f8 k1_c9 k1_f9 k1_c10 k1_f10 k1_c11 k1_f11 k1_c12 k1_f12 k1_c13 k1_f13
    clear k1 hEnd zK zK1 b0
    have k1 := HXW.out.msg
    have bb := HXW.out.2.1
    have zk1 := k1.lt
    have zp := bb.lt
    unfold msV at k1
    unfold bsrV at bb
    have k1_c0 := k1.cell 0 rfl
    have k1_f0 := k1.frozen 0
    have k1_c1 := k1.cell 1 rfl
    have k1_f1 := k1.frozen 1
    have k1_c2 := k1.cell 2 rfl
    have k1_f2 := k1.frozen 2
    have k1_c3 := k1.cell 3 rfl
    have k1_f3 := k1.frozen 3
    have k1_c4 := k1.cell 4 rfl
    have k1_f4 := k1.frozen 4
    have k1_c5 := k1.cell 5 rfl
    have k1_f5 := k1.frozen 5
    have k1_c6 := k1.cell 6 rfl
    have k1_f6 := k1.frozen 6
    have k1_c7 := k1.cell 7 rfl
    have k1_f7 := k1.frozen 7
    have k1_c8 := k1.cell 8 rfl
    have k1_f8 := k1.frozen 8
    have k1_c9 := k1.cell 9 rfl
    have k1_f9 := k1.frozen 9
    have k1_c10 := k1.cell 10 rfl
    have k1_f10 := k1.frozen 10
    have k1_c11 := k1.cell 11 rfl
    have k1_f11 := k1.frozen 11
    have k1_c12 := k1.cell 12 rfl
    have k1_f12 := k1.frozen 12
    have k1_c13 := k1.cell 13 rfl
    have k1_f13 := k1.frozen 13
    have bb_c0 := bb.cell 0 rfl
    have bb_f0 := bb.frozen 0
    have bb_c1 := bb.cell 1 rfl
    have bb_f1 := bb.frozen 1
    have bb_c2 := bb.cell 2 rfl
    have bb_f2 := bb.frozen 2
    have bb_c3 := bb.cell 3 rfl
    have bb_f3 := bb.frozen 3
    have bb_c4 := bb.cell 4 rfl
    have bb_f4 := bb.frozen 4
    have bb_c5 := bb.cell 5 rfl
    have bb_f5 := bb.frozen 5
    have bb_c6 := bb.cell 6 rfl
    have bb_f6 := bb.frozen 6
    have bb_c7 := bb.cell 7 rfl
    have bb_f7 := bb.frozen 7
    have bb_c8 := bb.cell 8 rfl
    have bb_f8 := bb.frozen 8
    have bb_c9 := bb.cell 9 rfl
    have bb_f9 := bb.frozen 9
    have bb_c10 := bb.cell 10 rfl
    have bb_f10 := bb.frozen 10
    have bb_c11 := bb.cell 11 rfl
    have bb_f11 := bb.frozen 11
    obtain ⟨kc, hkc⟩ := getC_nn L M.ix M.sub
    rw [hkc]
    have HDC : Hid (bucode L M = kc) := hide (by unfold bucode; rw [if_neg hbl, hkc])
    by_cases hc : kc = 0
    · subst hc
      have HGC := hide hkc
      clear hkc
      have hn4 : n4 = b.length := HO4.out.hn
      have HN4 := hide hn4
      have hb256 : n4 ≤ 256 := by
        rw [hn4, HB4.out, if_pos (by rw [HGC.out]; rfl)]
        unfold valK
        rw [List.getD_eq_getElem?_getD]
        cases hx : V[locK L M.ix M.sub]? with
        | none => simp
        | some v => exact HV.out v (List.mem_of_getElem? hx)
      clear hn4
      have hgb : getB L V M.ix M.sub = b := HB4.out.symm
      have HGB := hide hgb
      have HO4b := hide (HO4.out.mono zWz0)
      have HSL4 : Hid (∀ W', Only (fun q => q = p) w2 W' → OwnB W' (w.heap.size + 2) A4 n4 c4 b) := hide (fun W' h => ownB_only HO4b.out h (fun g h1 _ (e : g = p) => by omega))
      have c3 : (w2.setCell ⟨p, 7, none⟩ (.int .i64 4)).cell? ⟨w.heap.size, 1, none⟩ = some (.int .i64 M.ix) := (k1.far (p := ⟨p, 7, none⟩) hne0 _).cell 1 rfl
      have c4' : (w2.setCell ⟨p, 7, none⟩ (.int .i64 4)).cell? ⟨w.heap.size, 2, none⟩ = some (.int .i64 M.sub) := (k1.far (p := ⟨p, 7, none⟩) hne0 _).cell 2 rfl
      have c5 : ((w2.setCell ⟨p, 7, none⟩ (.int .i64 4)).setCell ⟨p, 8, none⟩ (.int .i64 M.ix)).cell? ⟨w.heap.size, 1, none⟩ = some (.int .i64 M.ix) := ((k1.far (p := ⟨p, 7, none⟩) hne0 _).far (p := ⟨p, 8, none⟩) hne0 _).cell 1 rfl
      have c6 : ((w2.setCell ⟨p, 7, none⟩ (.int .i64 4)).setCell ⟨p, 8, none⟩ (.int .i64 M.ix)).cell? ⟨w.heap.size, 2, none⟩ = some (.int .i64 M.sub) := ((k1.far (p := ⟨p, 7, none⟩) hne0 _).far (p := ⟨p, 8, none⟩) hne0 _).cell 2 rfl
      have X7 := (HXW.out.sets (S' := { S with st := 4, ix := M.ix, sub := M.sub }) [.int .i64 4, .int .i64 M.ix, .int .i64 M.sub] 7 (by simp) rfl)
      have HO7 : Hid (Only (fun q => q = p) w2 (w2.setCells p 7 [.int .i64 4, .int .i64 M.ix, .int .i64 M.sub]).drew) := hide (only_sets (F := fun q => q = p) rfl _ _ (Only.refl _ _)).drew
      have HX7 := hide X7.drew
      simp only [World.setCells, Nat.reduceAdd] at HX7 HO7
      clear X7 hgb
      go_wp2_with fail
      refine wp_region_T (fun w' => w'.cell? ⟨w.heap.size, 1, none⟩ = some (.int .i64 M.ix) ∧ w'.cell? ⟨w.heap.size, 2, none⟩ = some (.int .i64 M.sub)) [0, 1, 2, 3, 4, 5, 6, 7, 8, 10, 11, 13, 14] (by kernel_rfl) ?hS19 (fun hHeld => ?rest19)
      case hS19 => ((try dsimp only); exact ⟨k1_c1, k1_c2⟩)
      case' rest19 => skip
      refine wpAnyT_take (by kernel_rfl) (by kernel_rfl) (i := 0) (oi := _) (v := ?v20) rfl (by kernel_rfl) (by kernel_rfl) (by kernel_rfl) (fun _ _ _ h => h) (Or.inl ⟨by rfl, ?hy20⟩) (by assumption) ?rest20
      case hy20 => ((intro w hSw; (try dsimp only at hSw); go_simp) <;> with_reducible rfl)
      case' rest20 => try simp only [List.getElem_toArray, List.getElem_cons_zero, List.getElem_cons_succ, Act.put, List.setIfInBounds_toArray, List.set_cons_zero, List.set_cons_succ]
      refine wpAnyT_take (by kernel_rfl) (by kernel_rfl) (i := 1) (oi := _) (v := ?v21) rfl (by kernel_rfl) (by kernel_rfl) (by kernel_rfl) (fun _ _ _ h => h) (Or.inl ⟨by rfl, ?hy21⟩) (by assumption) ?rest21
      case hy21 => ((intro w hSw; (try dsimp only at hSw); go_simp) <;> with_reducible rfl)
      case' rest21 => try simp only [List.getElem_toArray, List.getElem_cons_zero, List.getElem_cons_succ, Act.put, List.setIfInBounds_toArray, List.set_cons_zero, List.set_cons_succ]
      refine wpAnyT_take (by kernel_rfl) (by kernel_rfl) (i := 2) (oi := _) (v := ?v22) rfl (by kernel_rfl) (by kernel_rfl) (by kernel_rfl) (fun _ _ _ h => h) (Or.inl ⟨by rfl, ?hy22⟩) (by assumption) ?rest22
      case hy22 => ((intro w hSw; (try dsimp only at hSw); go_simp) <;> with_reducible rfl)
      case' rest22 => try simp only [List.getElem_toArray, List.getElem_cons_zero, List.getElem_cons_succ, Act.put, List.setIfInBounds_toArray, List.set_cons_zero, List.set_cons_succ]
      refine wpAnyT_take (by kernel_rfl) (by kernel_rfl) (i := 3) (oi := _) (v := ?v23) rfl (by kernel_rfl) (by kernel_rfl) (by kernel_rfl) (fun _ _ _ h => h) (Or.inl ⟨by rfl, ?hy23⟩) (by assumption) ?rest23
      case hy23 => ((intro w hSw; (try dsimp only at hSw); go_simp) <;> with_reducible rfl)
      case' rest23 => try simp only [List.getElem_toArray, List.getElem_cons_zero, List.getElem_cons_succ, Act.put, List.setIfInBounds_toArray, List.set_cons_zero, List.set_cons_succ]
      refine wpAnyT_take (by kernel_rfl) (by kernel_rfl) (i := 4) (oi := _) (v := ?v24) rfl (by kernel_rfl) (by kernel_rfl) (by kernel_rfl) (fun _ _ _ h => h) (Or.inl ⟨by rfl, ?hy24⟩) (by assumption) ?rest24
      case hy24 => ((intro w hSw; (try dsimp only at hSw); go_simp) <;> with_reducible rfl)
      case' rest24 => try simp only [List.getElem_toArray, List.getElem_cons_zero, List.getElem_cons_succ, Act.put, List.setIfInBounds_toArray, List.set_cons_zero, List.set_cons_succ]
      refine wpAnyT_take (by kernel_rfl) (by kernel_rfl) (i := 5) (oi := _) (v := ?v25) rfl (by kernel_rfl) (by kernel_rfl) (by kernel_rfl) (fun _ _ _ h => h) (Or.inl ⟨by rfl, ?hy25⟩) (by assumption) ?rest25
      case hy25 => ((intro w hSw; (try dsimp only at hSw); go_simp) <;> with_reducible rfl)
      case' rest25 => try simp only [List.getElem_toArray, List.getElem_cons_zero, List.getElem_cons_succ, Act.put, List.setIfInBounds_toArray, List.set_cons_zero, List.set_cons_succ]
      refine wpAnyT_take (by kernel_rfl) (by kernel_rfl) (i := 6) (oi := _) (v := ?v26) rfl (by kernel_rfl) (by kernel_rfl) (by kernel_rfl) (fun _ _ _ h => h) (Or.inl ⟨by rfl, ?hy26⟩) (by assumption) ?rest26
      case hy26 => ((intro w hSw; (try dsimp only at hSw); go_simp) <;> with_reducible rfl)
      case' rest26 => try simp only [List.getElem_toArray, List.getElem_cons_zero, List.getElem_cons_succ, Act.put, List.setIfInBounds_toArray, List.set_cons_zero, List.set_cons_succ]
      refine wpAnyT_take (by kernel_rfl) (by kernel_rfl) (i := 7) (oi := _) (v := ?v27) rfl (by kernel_rfl) (by kernel_rfl) (by kernel_rfl) (fun _ _ _ h => h) (Or.inl ⟨by rfl, ?hy27⟩) (by assumption) ?rest27
      case hy27 => ((intro w hSw; (try dsimp only at hSw); go_simp) <;> with_reducible rfl)
      case' rest27 => try simp only [List.getElem_toArray, List.getElem_cons_zero, List.getElem_cons_succ, Act.put, List.setIfInBounds_toArray, List.set_cons_zero, List.set_cons_succ]
      refine wpAnyT_take (by kernel_rfl) (by kernel_rfl) (i := 8) (oi := _) (v := ?v28) rfl (by kernel_rfl) (by kernel_rfl) (by kernel_rfl) (fun _ _ _ h => h) (Or.inl ⟨by rfl, ?hy28⟩) (by assumption) ?rest28
      case hy28 => ((intro w hSw; (try dsimp only at hSw); go_simp) <;> with_reducible rfl)
      case' rest28 => try simp only [List.getElem_toArray, List.getElem_cons_zero, List.getElem_cons_succ, Act.put, List.setIfInBounds_toArray, List.set_cons_zero, List.set_cons_succ]
      refine wpAnyT_one (i := 9) (o := _) rfl (by kernel_rfl) (fun K hK => ?_)
      go_simp
      refine hK.out _ _ ?hS30 (fun hHeld => ?rest30)
      case hS30 => ((try dsimp only); (exact ⟨c3, c4'⟩))
      case' rest30 => (clear hK K; try simp only [List.getElem_toArray, List.getElem_cons_zero, List.getElem_cons_succ, Act.put, List.setIfInBounds_toArray, List.set_cons_zero, List.set_cons_succ])
      refine wpAnyT_take (by kernel_rfl) (by kernel_rfl) (i := 10) (oi := _) (v := ?v31) rfl (by kernel_rfl) (by kernel_rfl) (by kernel_rfl) (fun _ _ _ h => h) (Or.inl ⟨by rfl, ?hy31⟩) (by assumption) ?rest31
      case hy31 => ((intro w hSw; (try dsimp only at hSw); go_simp) <;> with_reducible rfl)
      case' rest31 => try simp only [List.getElem_toArray, List.getElem_cons_zero, List.getElem_cons_succ, Act.put, List.setIfInBounds_toArray, List.set_cons_zero, List.set_cons_succ]
      refine wpAnyT_take (by kernel_rfl) (by kernel_rfl) (i := 11) (oi := _) (v := ?v32) rfl (by kernel_rfl) (by kernel_rfl) (by kernel_rfl) (fun _ _ _ h => h) (Or.inl ⟨by rfl, ?hy32⟩) (by assumption) ?rest32
      case hy32 => ((intro w hSw; (try dsimp only at hSw); go_simp) <;> with_reducible rfl)
      case' rest32 => try simp only [List.getElem_toArray, List.getElem_cons_zero, List.getElem_cons_succ, Act.put, List.setIfInBounds_toArray, List.set_cons_zero, List.set_cons_succ]
      refine wpAnyT_one (i := 12) (o := _) rfl (by kernel_rfl) (fun K hK => ?_)
      go_simp
      refine hK.out _ _ ?hS34 (fun hHeld => ?rest34)
      case hS34 => ((try dsimp only); (exact ⟨c5, c6⟩))
      case' rest34 => (clear hK K; try simp only [List.getElem_toArray, List.getElem_cons_zero, List.getElem_cons_succ, Act.put, List.setIfInBounds_toArray, List.set_cons_zero, List.set_cons_succ])
      refine wpAnyT_take (by kernel_rfl) (by kernel_rfl) (i := 13) (oi := _) (v := ?v35) rfl (by kernel_rfl) (by kernel_rfl) (by kernel_rfl) (fun _ _ _ h => h) (Or.inl ⟨by rfl, ?hy35⟩) (by assumption) ?rest35
      case hy35 => ((intro w hSw; (try dsimp only at hSw); go_simp) <;> with_reducible rfl)
      case' rest35 => try simp only [List.getElem_toArray, List.getElem_cons_zero, List.getElem_cons_succ, Act.put, List.setIfInBounds_toArray, List.set_cons_zero, List.set_cons_succ]
      refine wpAnyT_take (by kernel_rfl) (by kernel_rfl) (i := 14) (oi := _) (v := ?v36) rfl (by kernel_rfl) (by kernel_rfl) (by kernel_rfl) (fun _ _ _ h => h) (Or.inl ⟨by rfl, ?hy36⟩) (by assumption) ?rest36
      case hy36 => ((intro w hSw; (try dsimp only at hSw); go_simp) <;> with_reducible rfl)
      case' rest36 => try simp only [List.getElem_toArray, List.getElem_cons_zero, List.getElem_cons_succ, Act.put, List.setIfInBounds_toArray, List.set_cons_zero, List.set_cons_succ]
      refine wpAnyT_late (i := 15) (o := _) rfl (by kernel_rfl) (by kernel_rfl) (fun K hK => ?_)
      go_simp
      refine hK.out _ _ ?rest38
      case' rest38 => (clear hK K; try simp only [List.getElem_toArray, List.getElem_cons_zero, List.getElem_cons_succ, Act.put, List.setIfInBounds_toArray, List.set_cons_zero, List.set_cons_succ])
      refine wpAnyT_done (by kernel_rfl) ?_ _
      repeat (clear hHeld)
      clear c3 c4' c5 c6
      go_upto_region 7 with fail
      refine wp_gen (P := fun W2 => BX w p pd (KMO w M A3 m3 c3) { S with st := 4, ix := M.ix, sub := M.sub } A n1 c1 W2 ∧ Only (fun q => q = p) w2 W2) ⟨HX7.out, HO7.out⟩ (fun W2 hW2 => ?_)
      clear k1_c0 k1_f0 k1_c1 k1_f1 k1_c2 k1_f2 k1_c3 k1_f3 k1_c4 k1_f4 k1_c5 k1_f5 k1_c6 k1_f6 k1_c7 k1_f7 k1_c8 k1_f8 k1_c9 k1_f9 k1_c10 k1_f10 k1_c11 k1_f11 k1_c12 k1_f12 k1_c13 k1_f13
      clear bb_c0 bb_f0 bb_c1 bb_f1 bb_c2 bb_f2 bb_c3 bb_f3 bb_c4 bb_f4 bb_c5 bb_f5 bb_c6 bb_f6 bb_c7 bb_f7 bb_c8 bb_f8 bb_c9 bb_f9 bb_c10 bb_f10 bb_c11 bb_f11
      clear k1 bb HX7 HO7
      obtain ⟨hX2, hO2⟩ := hW2
      have k1 := hX2.msg
      have bb := hX2.2.1
      have zp3 := bb.lt
      have zk3 := k1.lt
      have g1 : (W2.setCell ⟨p, 10, none⟩ (.slice A4 n4 c4)).cell? ⟨w.heap.size, 5, none⟩ = some (.bool M.cr) := (k1.far (p := ⟨p, 10, none⟩) hne0 _).cell 5 rfl
      have X10 := (hX2.sets (S' := { S with st := 4, ix := M.ix, sub := M.sub, b := b, sm := M.cr }) (A' := A4) (n' := n4) (c' := c4) [.slice A4 n4 c4, .bool M.cr] 10 (by simp) rfl)
      have HX10 := hide X10.drew
      have HO10 : Hid (Only (fun q => q = p) w2 (W2.setCells p 10 [.slice A4 n4 c4, .bool M.cr]).drew) := hide (hO2.trans (only_sets (F := fun q => q = p) rfl _ _ (Only.refl _ _)) (fun _ _ h => h)).drew
      simp only [World.setCells, Nat.reduceAdd] at HX10 HO10
      unfold msV at k1
      unfold bsrV at bb
      have k1_c0 := k1.cell 0 rfl
      have k1_f0 := k1.frozen 0
      have k1_c1 := k1.cell 1 rfl
      have k1_f1 := k1.frozen 1
      have k1_c2 := k1.cell 2 rfl
      have k1_f2 := k1.frozen 2
      have k1_c3 := k1.cell 3 rfl
      have k1_f3 := k1.frozen 3
      have k1_c4 := k1.cell 4 rfl
      have k1_f4 := k1.frozen 4
      have k1_c5 := k1.cell 5 rfl
      have k1_f5 := k1.frozen 5
      have k1_c6 := k1.cell 6 rfl
      have k1_f6 := k1.frozen 6
      have k1_c7 := k1.cell 7 rfl
      have k1_f7 := k1.frozen 7
      have k1_c8 := k1.cell 8 rfl
      have k1_f8 := k1.frozen 8
      have k1_c9 := k1.cell 9 rfl
      have k1_f9 := k1.frozen 9
      have k1_c10 := k1.cell 10 rfl
      have k1_f10 := k1.frozen 10
      have k1_c11 := k1.cell 11 rfl
      have k1_f11 := k1.frozen 11
      have k1_c12 := k1.cell 12 rfl
      have k1_f12 := k1.frozen 12
      have k1_c13 := k1.cell 13 rfl
      have k1_f13 := k1.frozen 13
      have bb_c0 := bb.cell 0 rfl
      have bb_f0 := bb.frozen 0
      have bb_c1 := bb.cell 1 rfl
      have bb_f1 := bb.frozen 1
      have bb_c2 := bb.cell 2 rfl
      have bb_f2 := bb.frozen 2
      have bb_c3 := bb.cell 3 rfl
      have bb_f3 := bb.frozen 3
      have bb_c4 := bb.cell 4 rfl
      have bb_f4 := bb.frozen 4
      have bb_c5 := bb.cell 5 rfl
      have bb_f5 := bb.frozen 5
      have bb_c6 := bb.cell 6 rfl
      have bb_f6 := bb.frozen 6
      have bb_c7 := bb.cell 7 rfl
      have bb_f7 := bb.frozen 7
      have bb_c8 := bb.cell 8 rfl
      have bb_f8 := bb.frozen 8
      have bb_c9 := bb.cell 9 rfl
      have bb_f9 := bb.frozen 9
      have bb_c10 := bb.cell 10 rfl
      have bb_f10 := bb.frozen 10
      have bb_c11 := bb.cell 11 rfl
      have bb_f11 := bb.frozen 11
      clear hX2 hO2 X10
      go_wp2_with fail
      refine wp_region_T (fun w' => w'.cell? ⟨w.heap.size, 5, none⟩ = some (.bool M.cr)) [0, 1, 2, 3, 4, 5, 6, 8, 9] (by kernel_rfl) ?hS40 (fun hHeld => ?rest40)
      case hS40 => ((try dsimp only); exact k1_c5)
      case' rest40 => skip
      refine wpAnyT_take (by kernel_rfl) (by kernel_rfl) (i := 0) (oi := _) (v := ?v41) rfl (by kernel_rfl) (by kernel_rfl) (by kernel_rfl) (fun _ _ _ h => h) (Or.inl ⟨by rfl, ?hy41⟩) (by assumption) ?rest41
      case hy41 => ((intro w hSw; (try dsimp only at hSw); go_simp) <;> with_reducible rfl)
      case' rest41 => try simp only [List.getElem_toArray, List.getElem_cons_zero, List.getElem_cons_succ, Act.put, List.setIfInBounds_toArray, List.set_cons_zero, List.set_cons_succ]
      refine wpAnyT_take (by kernel_rfl) (by kernel_rfl) (i := 1) (oi := _) (v := ?v42) rfl (by kernel_rfl) (by kernel_rfl) (by kernel_rfl) (fun _ _ _ h => h) (Or.inl ⟨by rfl, ?hy42⟩) (by assumption) ?rest42
      case hy42 => ((intro w hSw; (try dsimp only at hSw); go_simp) <;> with_reducible rfl)
      case' rest42 => try simp only [List.getElem_toArray, List.getElem_cons_zero, List.getElem_cons_succ, Act.put, List.setIfInBounds_toArray, List.set_cons_zero, List.set_cons_succ]
      refine wpAnyT_take (by kernel_rfl) (by kernel_rfl) (i := 2) (oi := _) (v := ?v43) rfl (by kernel_rfl) (by kernel_rfl) (by kernel_rfl) (fun _ _ _ h => h) (Or.inl ⟨by rfl, ?hy43⟩) (by assumption) ?rest43
      case hy43 => ((intro w hSw; (try dsimp only at hSw); go_simp) <;> with_reducible rfl)
      case' rest43 => try simp only [List.getElem_toArray, List.getElem_cons_zero, List.getElem_cons_succ, Act.put, List.setIfInBounds_toArray, List.set_cons_zero, List.set_cons_succ]
      refine wpAnyT_take (by kernel_rfl) (by kernel_rfl) (i := 3) (oi := _) (v := ?v44) rfl (by kernel_rfl) (by kernel_rfl) (by kernel_rfl) (fun _ _ _ h => h) (Or.inl ⟨by rfl, ?hy44⟩) (by assumption) ?rest44
      case hy44 => ((intro w hSw; (try dsimp only at hSw); go_simp) <;> with_reducible rfl)
      case' rest44 => try simp only [List.getElem_toArray, List.getElem_cons_zero, List.getElem_cons_succ, Act.put, List.setIfInBounds_toArray, List.set_cons_zero, List.set_cons_succ]
      refine wpAnyT_take (by kernel_rfl) (by kernel_rfl) (i := 4) (oi := _) (v := ?v45) rfl (by kernel_rfl) (by kernel_rfl) (by kernel_rfl) (fun _ _ _ h => h) (Or.inl ⟨by rfl, ?hy45⟩) (by assumption) ?rest45
      case hy45 => ((intro w hSw; (try dsimp only at hSw); go_simp) <;> with_reducible rfl)
      case' rest45 => try simp only [List.getElem_toArray, List.getElem_cons_zero, List.getElem_cons_succ, Act.put, List.setIfInBounds_toArray, List.set_cons_zero, List.set_cons_succ]
      refine wpAnyT_take (by kernel_rfl) (by kernel_rfl) (i := 5) (oi := _) (v := ?v46) rfl (by kernel_rfl) (by kernel_rfl) (by kernel_rfl) (fun _ _ _ h => h) (Or.inl ⟨by rfl, ?hy46⟩) (by assumption) ?rest46
      case hy46 => ((intro w hSw; (try dsimp only at hSw); go_simp) <;> with_reducible rfl)
      case' rest46 => try simp only [List.getElem_toArray, List.getElem_cons_zero, List.getElem_cons_succ, Act.put, List.setIfInBounds_toArray, List.set_cons_zero, List.set_cons_succ]
      refine wpAnyT_take (by kernel_rfl) (by kernel_rfl) (i := 6) (oi := _) (v := ?v47) rfl (by kernel_rfl) (by kernel_rfl) (by kernel_rfl) (fun _ _ _ h => h) (Or.inl ⟨by rfl, ?hy47⟩) (by assumption) ?rest47
      case hy47 => ((intro w hSw; (try dsimp only at hSw); go_simp) <;> with_reducible rfl)
      case' rest47 => try simp only [List.getElem_toArray, List.getElem_cons_zero, List.getElem_cons_succ, Act.put, List.setIfInBounds_toArray, List.set_cons_zero, List.set_cons_succ]
      refine wpAnyT_one (i := 7) (o := _) rfl (by kernel_rfl) (fun K hK => ?_)
      go_simp
      refine hK.out _ _ ?hS49 (fun hHeld => ?rest49)
      case hS49 => ((try dsimp only); (exact g1))
      case' rest49 => (clear hK K; try simp only [List.getElem_toArray, List.getElem_cons_zero, List.getElem_cons_succ, Act.put, List.setIfInBounds_toArray, List.set_cons_zero, List.set_cons_succ])
      refine wpAnyT_take (by kernel_rfl) (by kernel_rfl) (i := 8) (oi := _) (v := ?v50) rfl (by kernel_rfl) (by kernel_rfl) (by kernel_rfl) (fun _ _ _ h => h) (Or.inl ⟨by rfl, ?hy50⟩) (by assumption) ?rest50
      case hy50 => ((intro w hSw; (try dsimp only at hSw); go_simp) <;> with_reducible rfl)
      case' rest50 => try simp only [List.getElem_toArray, List.getElem_cons_zero, List.getElem_cons_succ, Act.put, List.setIfInBounds_toArray, List.set_cons_zero, List.set_cons_succ]
      refine wpAnyT_take (by kernel_rfl) (by kernel_rfl) (i := 9) (oi := _) (v := ?v51) rfl (by kernel_rfl) (by kernel_rfl) (by kernel_rfl) (fun _ _ _ h => h) (Or.inl ⟨by rfl, ?hy51⟩) (by assumption) ?rest51
      case hy51 => ((intro w hSw; (try dsimp only at hSw); go_simp) <;> with_reducible rfl)
      case' rest51 => try simp only [List.getElem_toArray, List.getElem_cons_zero, List.getElem_cons_succ, Act.put, List.setIfInBounds_toArray, List.set_cons_zero, List.set_cons_succ]
      refine wpAnyT_late (i := 10) (o := _) rfl (by kernel_rfl) (by kernel_rfl) (fun K hK => ?_)
      go_simp
      refine hK.out _ _ ?rest53
      case' rest53 => (clear hK K; try simp only [List.getElem_toArray, List.getElem_cons_zero, List.getElem_cons_succ, Act.put, List.setIfInBounds_toArray, List.set_cons_zero, List.set_cons_succ])
      refine wpAnyT_done (by kernel_rfl) ?_ _
      repeat (clear hHeld)
      clear g1
      go_upto_region 8 with fail
      refine wp_gen (P := fun W3 => BX w p pd (KMO w M A3 m3 c3) { S with st := 4, ix := M.ix, sub := M.sub, b := b, sm := M.cr } A4 n4 c4 W3 ∧ Only (fun q => q = p) w2 W3) ⟨HX10.out, HO10.out⟩ (fun W3 hW3 => ?_)
      clear k1_c0 k1_f0 k1_c1 k1_f1 k1_c2 k1_f2 k1_c3 k1_f3 k1_c4 k1_f4 k1_c5 k1_f5 k1_c6 k1_f6 k1_c7 k1_f7 k1_c8 k1_f8 k1_c9 k1_f9 k1_c10 k1_f10 k1_c11 k1_f11 k1_c12 k1_f12 k1_c13 k1_f13
      clear bb_c0 bb_f0 bb_c1 bb_f1 bb_c2 bb_f2 bb_c3 bb_f3 bb_c4 bb_f4 bb_c5 bb_f5 bb_c6 bb_f6 bb_c7 bb_f7 bb_c8 bb_f8 bb_c9 bb_f9 bb_c10 bb_f10 bb_c11 bb_f11
      clear HX10 HO10 k1 bb
      obtain ⟨hX3, hO3⟩ := hW3
      have X11 := (hX3.sets (S' := ⟨S.mo, S.sz, S.nx, 0, M.bl, 0, 4, M.ix, M.sub, b, M.cr⟩) (A' := A4) (n' := n4) (c' := c4) [.int .i64 0, .int .i64 M.bl, .int .i64 0] 3 (by simp) rfl)
      have HX11 := hide X11
      have HO11 : Hid (Only (fun q => q = p) w2 (W3.setCells p 3 [.int .i64 0, .int .i64 M.bl, .int .i64 0])) := hide (hO3.trans (only_sets (F := fun q => q = p) rfl _ _ (Only.refl _ _)) (fun _ _ h => h))
      simp only [World.setCells, Nat.reduceAdd] at HX11 HO11
      have k1 := hX3.msg
      have bb := hX3.2.1
      have zp4 := bb.lt
      have zk4 := k1.lt
      unfold msV at k1
      unfold bsrV at bb
      have k1_c0 := k1.cell 0 rfl
      have k1_f0 := k1.frozen 0
      have k1_c1 := k1.cell 1 rfl
      have k1_f1 := k1.frozen 1
      have k1_c2 := k1.cell 2 rfl
      have k1_f2 := k1.frozen 2
      have k1_c3 := k1.cell 3 rfl
      have k1_f3 := k1.frozen 3
      have k1_c4 := k1.cell 4 rfl
      have k1_f4 := k1.frozen 4
      have k1_c5 := k1.cell 5 rfl
      have k1_f5 := k1.frozen 5
      have k1_c6 := k1.cell 6 rfl
      have k1_f6 := k1.frozen 6
      have k1_c7 := k1.cell 7 rfl
      have k1_f7 := k1.frozen 7
      have k1_c8 := k1.cell 8 rfl
      have k1_f8 := k1.frozen 8
      have k1_c9 := k1.cell 9 rfl
      have k1_f9 := k1.frozen 9
      have k1_c10 := k1.cell 10 rfl
      have k1_f10 := k1.frozen 10
      have k1_c11 := k1.cell 11 rfl
      have k1_f11 := k1.frozen 11
      have k1_c12 := k1.cell 12 rfl
      have k1_f12 := k1.frozen 12
      have k1_c13 := k1.cell 13 rfl
      have k1_f13 := k1.frozen 13
      have bb_c0 := bb.cell 0 rfl
      have bb_f0 := bb.frozen 0
      have bb_c1 := bb.cell 1 rfl
      have bb_f1 := bb.frozen 1
      have bb_c2 := bb.cell 2 rfl
      have bb_f2 := bb.frozen 2
      have bb_c3 := bb.cell 3 rfl
      have bb_f3 := bb.frozen 3
      have bb_c4 := bb.cell 4 rfl
      have bb_f4 := bb.frozen 4
      have bb_c5 := bb.cell 5 rfl
      have bb_f5 := bb.frozen 5
      have bb_c6 := bb.cell 6 rfl
      have bb_f6 := bb.frozen 6
      have bb_c7 := bb.cell 7 rfl
      have bb_f7 := bb.frozen 7
      have bb_c8 := bb.cell 8 rfl
      have bb_f8 := bb.frozen 8
      have bb_c9 := bb.cell 9 rfl
      have bb_f9 := bb.frozen 9
      have bb_c10 := bb.cell 10 rfl
      have bb_f10 := bb.frozen 10
      have bb_c11 := bb.cell 11 rfl
      have bb_f11 := bb.frozen 11
      clear hX3 hO3 X11
      go_upto_region 9 with fail
      refine wp_gen (P := fun W4 => BX w p pd (KMO w M A3 m3 c3) ⟨S.mo, S.sz, S.nx, 0, M.bl, 0, 4, M.ix, M.sub, b, M.cr⟩ A4 n4 c4 W4 ∧ Only (fun q => q = p) w2 W4) ⟨HX11.out, HO11.out⟩ (fun W4 hW4 => ?_)
      clear k1_c0 k1_f0 k1_c1 k1_f1 k1_c2 k1_f2 k1_c3 k1_f3 k1_c4 k1_f4 k1_c5 k1_f5 k1_c6 k1_f6 k1_c7 k1_f7 k1_c8 k1_f8 k1_c9 k1_f9 k1_c10 k1_f10 k1_c11 k1_f11 k1_c12 k1_f12 k1_c13 k1_f13
      clear bb_c0 bb_f0 bb_c1 bb_f1 bb_c2 bb_f2 bb_c3 bb_f3 bb_c4 bb_f4 bb_c5 bb_f5 bb_c6 bb_f6 bb_c7 bb_f7 bb_c8 bb_f8 bb_c9 bb_f9 bb_c10 bb_f10 bb_c11 bb_f11
      clear HX11 HO11 k1 bb
      obtain ⟨hX4, hO4'⟩ := hW4
      have HND : Hid (bupS L V S M = ⟨S.mo, S.sz, S.nx, 0, M.bl, 0, 4, M.ix, M.sub, b, M.cr⟩) := hide (by
        unfold bupS
        rw [if_neg (by rw [HDC.out]; simp), HGB.out])
      have HR : Hid (P = BOutR w G p pd (bupS L V S M) (outM (bupM M.ix M.sub n4))) := hide (by
        rw [HP.out]
        congr 1
        unfold bupO
        rw [if_neg (by rw [HDC.out]; simp), HGB.out, ← HN4.out])
      have hmod : (n4 : Int) % 4294967296 = (n4 : Int) := by omega
      have HX5 := hide (hX4.step (below_alloc (Below.refl _ _) (.cells (msV (bupM M.ix M.sub n4) none 0 0) 39)))
      have HO5 := hide (hO4'.new (.cells (msV (bupM M.ix M.sub n4) none 0 0) 39))
      have HG5 := hide (Blk.new W4 39 (msV (bupM M.ix M.sub n4) none 0 0))
      have k1 := hX4.msg
      have zk5 := k1.lt
      have zz5 := hX4.2.2.2
      unfold msV at k1
      unfold msV bupM at HX5 HO5 HG5
      have k1_c0 := k1.cell 0 rfl
      have k1_f0 := k1.frozen 0
      have k1_c1 := k1.cell 1 rfl
      have k1_f1 := k1.frozen 1
      have k1_c2 := k1.cell 2 rfl
      have k1_f2 := k1.frozen 2
      have k1_c3 := k1.cell 3 rfl
      have k1_f3 := k1.frozen 3
      have k1_c4 := k1.cell 4 rfl
      have k1_f4 := k1.frozen 4
      have k1_c5 := k1.cell 5 rfl
      have k1_f5 := k1.frozen 5
      have k1_c6 := k1.cell 6 rfl
      have k1_f6 := k1.frozen 6
      have k1_c7 := k1.cell 7 rfl
      have k1_f7 := k1.frozen 7
      have k1_c8 := k1.cell 8 rfl
      have k1_f8 := k1.frozen 8
      have k1_c9 := k1.cell 9 rfl
      have k1_f9 := k1.frozen 9
      have k1_c10 := k1.cell 10 rfl
      have k1_f10 := k1.frozen 10
      have k1_c11 := k1.cell 11 rfl
      have k1_f11 := k1.frozen 11
      have k1_c12 := k1.cell 12 rfl
      have k1_f12 := k1.frozen 12
      have k1_c13 := k1.cell 13 rfl
      have k1_f13 := k1.frozen 13
      clear hX4 hO4'
      go_wp2_with fail
      refine (blk_send (some ⟨W4.heap.size, 0, none⟩) 1 1 _).mono ?_
      rintro e w6 ⟨rfl, hb6⟩
      have HX6 := hide (HX5.out.step hb6)
      have HO6 := hide (HO5.out.step hb6)
      have HG6 := hide (HG5.out.below hb6 HG5.out.lt)
      have HS6 : Hid (BV_ w6 (fun q => ((G q ∨ w.heap.size ≤ q) ∧ ¬ False) ∧ q ≠ w.heap.size + 1) p pd (bupS L V S M)) := hide (by
        have ho := HSL4.out w6 HO6.out
        rw [HND.out]
        refine ⟨A4, n4, c4, HX6.out.2.1, fun _ => ⟨ho.hn, ho.le, ho.sl, fun h => ?_, fun ad h => ?_⟩⟩
        · rcases ho.own.shape with ⟨_, h1, _⟩ | ⟨g, h1, _⟩
          · exact h1
          · rw [h] at h1; cases h1
        · rcases ho.own.shape with ⟨h1, _⟩ | ⟨g, h1, h2, h3⟩
          · rw [h] at h1; cases h1
          · rw [h] at h1
            injection h1 with h1
            subst h1
            exact ⟨⟨⟨.inr (by simp only; omega), id⟩, by simp only; omega⟩, h3, by simp only; omega⟩)
      have k2 := HX6.out.out
      unfold outV outZ at k2
      unfold outV outZ
      dsimp only
      clear k1_c0 k1_f0 k1_c1 k1_f1 k1_c2 k1_f2 k1_c3 k1_f3 k1_c4 k1_f4 k1_c5 k1_f5 k1_c6 k1_f6 k1_c7 k1_f7 k1_c8 k1_f8 k1_c9 k1_f9 k1_c10 k1_f10 k1_c11 k1_f11 k1_c12 k1_f12 k1_c13 k1_f13
      have k2_c0 := k2.cell 0 rfl
      have k2_f0 := k2.frozen 0
      have k2_c1 := k2.cell 1 rfl
      have k2_f1 := k2.frozen 1
      have k2_c2 := k2.cell 2 rfl
      have k2_f2 := k2.frozen 2
      have k2_c3 := k2.cell 3 rfl
      have k2_f3 := k2.frozen 3
      have k2_c4 := k2.cell 4 rfl
      have k2_f4 := k2.frozen 4
      clear hb6 k1
      go_wp2_with fail
      obtain ⟨F1, F2⟩ := bfin_send (fun _ => False) HX6.out.out (by omega) (M := bupM M.ix M.sub n4) HG6.out (OwnB.nil _ _) (FIn.nil _) HS6.out HX6.out.1 hz
      rw [← HR.out] at F2
      clear HR
      unfold putO outZ at F1 F2
      dsimp only at F1 F2
      refine ret_out (O := ⟨[], false, 0, 0, []⟩) rfl rfl rfl F1 ?_
      exact F2
    · clear hkc
      clear bb_c0 bb_f0 bb_c1 bb_f1 bb_c2 bb_f2 bb_c3 bb_f3 bb_c4 bb_f4 bb_c5 bb_f5 bb_c6 bb_f6 bb_c7 bb_f7 bb_c8 bb_f8 bb_c9 bb_f9 bb_c10 bb_f10 bb_c11 bb_f11
      clear bb
      have HR : Hid (P = BOutR w G p pd S (outM (abM M.ix M.sub kc))) := hide (by
        rw [HP.out]
        congr 1
        · unfold bupS; rw [if_pos (by rw [HDC.out]; omega)]
        · unfold bupO; rw [if_pos (by rw [HDC.out]; omega), HDC.out]; rfl)
      go_wp2_with fail
      refine (blk_refuse M.ix M.sub kc _).mono ?_
      rintro e w5 ⟨rfl, hb5⟩
      have HX5 := hide ((HXW.out.step hb5).step (below_alloc (Below.refl _ _) (.cells (msV (abM M.ix M.sub kc) none 0 0) 39)))
      have HG5 := hide (Blk.new w5 39 (msV (abM M.ix M.sub kc) none 0 0))
      have hbw5 := below_alloc (below_step hb5 hbwy) (.cells (msV (abM M.ix M.sub kc) none 0 0) 39)
      have HBW5 := hide hbw5
      have zz5 : w.heap.size + 2 ≤ w5.heap.size := Nat.le_trans HXW.out.2.2.2 hb5.size
      unfold msV abM at HX5 HG5 HBW5
      unfold msV abM
      dsimp only
      clear k1_c0 k1_f0 k1_c1 k1_f1 k1_c2 k1_f2 k1_c3 k1_f3 k1_c4 k1_f4 k1_c5 k1_f5 k1_c6 k1_f6 k1_c7 k1_f7 k1_c8 k1_f8 k1_c9 k1_f9 k1_c10 k1_f10 k1_c11 k1_f11 k1_c12 k1_f12 k1_c13 k1_f13
      clear hbw5 hb5 k1
      go_wp2_with fail
      refine (blk_send (some ⟨w5.heap.size, 0, none⟩) 1 1 _).mono ?_
      rintro e w6 ⟨rfl, hb6⟩
      have HX6 := hide (HX5.out.step hb6)
      have HG6 := hide (HG5.out.below hb6 HG5.out.lt)
      have hbw6 := below_step hb6 HBW5.out
      have HS6 := hide (HS0.out.keep (w' := w6) (H := fun q => ((G q ∨ w.heap.size ≤ q) ∧ ¬ False) ∧ q ≠ w.heap.size + 1) (fun q _ hq => hbw6.block q hq) hbw6.size (fun q h1 h2 => ⟨⟨.inl h2, id⟩, by omega⟩))
      have k2 := HX6.out.out
      unfold outV outZ at k2
      unfold outV outZ
      dsimp only
      have k2_c0 := k2.cell 0 rfl
      have k2_f0 := k2.frozen 0
      have k2_c1 := k2.cell 1 rfl
      have k2_f1 := k2.frozen 1
      have k2_c2 := k2.cell 2 rfl
      have k2_f2 := k2.frozen 2
      have k2_c3 := k2.cell 3 rfl
      have k2_f3 := k2.frozen 3
      have k2_c4 := k2.cell 4 rfl
      have k2_f4 := k2.frozen 4
      clear hb6 hbw6
      go_wp2_with fail
      obtain ⟨F1, F2⟩ := bfin_send (fun _ => False) HX6.out.out (by omega) (M := abM M.ix M.sub kc) HG6.out (OwnB.nil _ _) (FIn.nil _) HS6.out HX6.out.1 hz
      rw [← HR.out] at F2
      clear HR
      unfold putO outZ at F1 F2
      dsimp only at F1 F2
      refine ret_out (O := ⟨[], false, 0, 0, []⟩) rfl rfl rfl F1 ?_
      exact F2
end
end Go.Proofs.Ytimdmhhgomfijaa
