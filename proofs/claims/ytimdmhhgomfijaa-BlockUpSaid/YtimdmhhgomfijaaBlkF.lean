/- Package block: end. -/
import Derived.Test.YtimdmhhgomfijaaBlkE
import Derived.Test.YtimdmhhgomfijaaSumP
namespace Go.Proofs.Ytimdmhhgomfijaa
set_option linter.unusedVariables false
set_option linter.unusedSimpArgs false
set_option linter.unnecessarySimpa false
open Go.RowKit
set_option maxRecDepth 100000
set_option maxHeartbeats 4000000
theorem blk_end (p pd : Nat) (S : BlkS) (G : Nat → Prop) (M : Ms) (A3 : Option Addr) (m3 c3 : Nat) (w : World) (hS : BV_ w G p pd S) (h1 : S.st = 2) (h256 : S.b.length ≤ 100000) (hem : 0 ≤ M.em ∧ M.em ≤ 1000) :
    Calls Try.prog 46 #[.pointer (some ⟨p, 0, none⟩), .agg (msV M A3 m3 c3)] w (BOutR w G p pd (bendS S M) (bendO S M)) := by
  obtain ⟨mo, sz, nx, ha, ta, ro, st, ix, sub, b, sm⟩ := S
  obtain rfl : st = 2 := h1
  obtain ⟨A, n1, c1, hB, hby⟩ := id hS
  obtain ⟨hn1, hc1, hsl, hAn, hAG⟩ := hby (show (2 : Int) ≠ 0 by decide)
  obtain ⟨P, hP⟩ : ∃ P, P = BOutR w G p pd (bendS ⟨mo, sz, nx, ha, ta, ro, 2, ix, sub, b, sm⟩ M) (bendO ⟨mo, sz, nx, ha, ta, ro, 2, ix, sub, b, sm⟩ M) := ⟨_, rfl⟩
  rw [← hP]
  have HP := hide hP
  have hz := hB.lt
  replace hn1 : n1 = b.length := hn1
  replace h256 : b.length ≤ 100000 := h256
  obtain ⟨hem0, hem1⟩ := hem
  obtain ⟨k, hk⟩ : ∃ k, k = n1 - M.em.toNat := ⟨_, rfl⟩
  obtain ⟨l, hl⟩ : ∃ l, l = bendB ⟨mo, sz, nx, ha, ta, ro, 2, ix, sub, b, sm⟩ M := ⟨_, rfl⟩
  have hlk : k = l.length := by rw [hl]; unfold bendB; simp only [List.length_take]; omega
  have hlt : l = b.take k := by rw [hl]; unfold bendB; simp only; rw [hk, hn1]
  have HL := hide hl
  have HLK := hide hlk
  have HLT := hide hlt
  have HN1 := hide hn1
  have HAN := hide hAn
  have hne1 : p ≠ w.heap.size + 1 := by omega
  have hne0 : w.heap.size ≠ p := by omega
  have hbn : n1 ≤ 100000 := by omega
  have hkn : k ≤ n1 := by omega
  have hmax : (if M.em < (n1 : Int) then (n1 : Int) - M.em else 0) = (k : Int) := by split <;> omega
  have hkc : (k : Int) ≤ (c1 : Int) := by omega
  have hwem : IntKind.i64.wrap ((n1 : Int) - M.em) = (n1 : Int) - M.em := by unfold IntKind.wrap; simp [IntKind.signed, IntKind.bits]; omega
  have HAG := hide hAG
  have HX : Hid (BXS w G p pd (KMO w M A3 m3 c3) ⟨mo, sz, nx, ha, ta, ro, 2, ix, sub, b, sm⟩ A n1 c1 b _) := hide ⟨bx_mk M A3 m3 c3 hB, (hsl.alloc _).alloc _, fun ad e => ⟨.inl (hAG ad e).1, by have := (hAG ad e).2.1; simp; omega, (hAG ad e).2.2, by have := (hAG ad e).2.1; omega⟩⟩
  clear hP hS hB hby hn1 hsl hAn h256 hAG hl hlk hlt hk
  unfold msV outV outZ at HX
  unfold msV
  go_enter Try.func46, Try.ntmps46
  go_upto_region 1 with fail
  refine wp_gen (P := BXS w G p pd (KMO w M A3 m3 c3) ⟨mo, sz, nx, ha, ta, ro, 2, ix, sub, b, sm⟩ A n1 c1 b) HX.out (fun W hW => ?_)
  clear HX
  have HX1 := hide hW.drew
  have zW := hW.1.2.1.lt
  have zk1 := hW.1.msg.lt
  have zo1 := hW.1.out.lt
  have b10 : W.cell? ⟨p, 10, none⟩ = some (.slice A n1 c1) := hW.1.2.1.cell 10 rfl
  have b12 : W.cell? ⟨w.heap.size, 12, none⟩ = some (.int .i64 M.em) := hW.1.msg.cell 12 rfl
  clear hW
  refine wp_region_held_drew (S := (fun w' => (∀ qA : Addr, qA.block < (W).heap.size → w'.cell? qA = (W).cell? qA) ∧ Below (W).heap.size (W) w')) (by kernel_rfl) ?hS1 (fun hHeld => ?rest1)
  case hS1 => ((try dsimp only); (((try go_split_ands); refine sn_of ?_; repeat' (first | with_reducible assumption | with_reducible exact Below.refl _ _ | with_reducible apply below_alloc | with_reducible apply below_drew1 | with_reducible apply below_drewN | (with_reducible apply below_step; with_reducible assumption) | (with_reducible apply below_sg2; (first | exact Nat.le_refl _ | (simp; done) | omega))))))
  case' rest1 => skip
  refine wpAnyH_take (i := 0) (oi := _) (v := ?v2) rfl (by kernel_rfl) (by kernel_rfl) (by kernel_rfl) (fun _ _ _ h => h) (Or.inl ⟨by rfl, ?hy2⟩) (by assumption) ?rest2
  case hy2 => ((intro w hSw; (try dsimp only at hSw); go_simp) <;> with_reducible rfl)
  case' rest2 => try simp only [List.getElem_toArray, List.getElem_cons_zero, List.getElem_cons_succ, Act.put, List.setIfInBounds_toArray, List.set_cons_zero, List.set_cons_succ]
  refine wpAnyH_take (i := 1) (oi := _) (v := ?v3) rfl (by kernel_rfl) (by kernel_rfl) (by kernel_rfl) (fun _ _ _ h => h) (Or.inl ⟨by rfl, ?hy3⟩) (by assumption) ?rest3
  case hy3 => ((intro w hSw; (try dsimp only at hSw); go_simp) <;> with_reducible rfl)
  case' rest3 => try simp only [List.getElem_toArray, List.getElem_cons_zero, List.getElem_cons_succ, Act.put, List.setIfInBounds_toArray, List.set_cons_zero, List.set_cons_succ]
  refine wpAnyH_take (i := 2) (oi := _) (v := ?v4) rfl (by kernel_rfl) (by kernel_rfl) (by kernel_rfl) (fun _ _ _ h => h) (Or.inl ⟨by rfl, ?hy4⟩) (by assumption) ?rest4
  case hy4 => ((intro w hSw; (try dsimp only at hSw); go_simp) <;> with_reducible rfl)
  case' rest4 => try simp only [List.getElem_toArray, List.getElem_cons_zero, List.getElem_cons_succ, Act.put, List.setIfInBounds_toArray, List.set_cons_zero, List.set_cons_succ]
  refine wpAnyH_take (i := 3) (oi := _) (v := ?v5) rfl (by kernel_rfl) (by kernel_rfl) (by kernel_rfl) (fun _ _ _ h => h) (Or.inl ⟨by rfl, ?hy5⟩) (by assumption) ?rest5
  case hy5 => ((intro w hSw; (try dsimp only at hSw); go_simp) <;> with_reducible rfl)
  case' rest5 => try simp only [List.getElem_toArray, List.getElem_cons_zero, List.getElem_cons_succ, Act.put, List.setIfInBounds_toArray, List.set_cons_zero, List.set_cons_succ]
  refine wpAnyH_take (i := 4) (oi := _) (v := ?v6) rfl (by kernel_rfl) (by kernel_rfl) (by kernel_rfl) (fun _ _ _ h => h) (Or.inl ⟨by rfl, ?hy6⟩) (by assumption) ?rest6
  case hy6 => ((intro w hSw; (try dsimp only at hSw); go_simp) <;> with_reducible rfl)
  case' rest6 => try simp only [List.getElem_toArray, List.getElem_cons_zero, List.getElem_cons_succ, Act.put, List.setIfInBounds_toArray, List.set_cons_zero, List.set_cons_succ]
  refine wpAnyH_take (i := 5) (oi := _) (v := ?v7) rfl (by kernel_rfl) (by kernel_rfl) (by kernel_rfl) (fun _ _ _ h => h) (Or.inl ⟨by rfl, ?hy7⟩) (by assumption) ?rest7
  case hy7 => ((intro w hSw; (try dsimp only at hSw); go_simp) <;> with_reducible rfl)
  case' rest7 => try simp only [List.getElem_toArray, List.getElem_cons_zero, List.getElem_cons_succ, Act.put, List.setIfInBounds_toArray, List.set_cons_zero, List.set_cons_succ]
  refine wpAnyH_take (i := 6) (oi := _) (v := ?v8) rfl (by kernel_rfl) (by kernel_rfl) (by kernel_rfl) (fun _ _ _ h => h) (Or.inl ⟨by rfl, ?hy8⟩) (by assumption) ?rest8
  case hy8 => ((intro w hSw; (try dsimp only at hSw); go_simp) <;> with_reducible rfl)
  case' rest8 => try simp only [List.getElem_toArray, List.getElem_cons_zero, List.getElem_cons_succ, Act.put, List.setIfInBounds_toArray, List.set_cons_zero, List.set_cons_succ]
  refine wpAnyH_take (i := 7) (oi := _) (v := ?v9) rfl (by kernel_rfl) (by kernel_rfl) (by kernel_rfl) (fun _ _ _ h => h) (Or.inl ⟨by rfl, ?hy9⟩) (by assumption) ?rest9
  case hy9 => ((intro w hSw; (try dsimp only at hSw); go_simp) <;> with_reducible rfl)
  case' rest9 => try simp only [List.getElem_toArray, List.getElem_cons_zero, List.getElem_cons_succ, Act.put, List.setIfInBounds_toArray, List.set_cons_zero, List.set_cons_succ]
  refine wpAnyH_take (i := 8) (oi := _) (v := ?v10) rfl (by kernel_rfl) (by kernel_rfl) (by kernel_rfl) (fun _ _ _ h => h) (Or.inl ⟨by rfl, ?hy10⟩) (by assumption) ?rest10
  case hy10 => ((intro w hSw; (try dsimp only at hSw); go_simp) <;> with_reducible rfl)
  case' rest10 => try simp only [List.getElem_toArray, List.getElem_cons_zero, List.getElem_cons_succ, Act.put, List.setIfInBounds_toArray, List.set_cons_zero, List.set_cons_succ]
  refine wpAnyH_take (i := 9) (oi := _) (v := ?v11) rfl (by kernel_rfl) (by kernel_rfl) (by kernel_rfl) (fun _ _ _ h => h) (Or.inl ⟨by rfl, ?hy11⟩) (by assumption) ?rest11
  case hy11 => ((intro w hSw; (try dsimp only at hSw); go_simp) <;> with_reducible rfl)
  case' rest11 => try simp only [List.getElem_toArray, List.getElem_cons_zero, List.getElem_cons_succ, Act.put, List.setIfInBounds_toArray, List.set_cons_zero, List.set_cons_succ]
  refine wpAnyH_take (i := 10) (oi := _) (v := ?v12) rfl (by kernel_rfl) (by kernel_rfl) (by kernel_rfl) (fun _ _ _ h => h) (Or.inl ⟨by rfl, ?hy12⟩) (by assumption) ?rest12
  case hy12 => ((intro w hSw; (try dsimp only at hSw); go_simp) <;> with_reducible rfl)
  case' rest12 => try simp only [List.getElem_toArray, List.getElem_cons_zero, List.getElem_cons_succ, Act.put, List.setIfInBounds_toArray, List.set_cons_zero, List.set_cons_succ]
  refine wpAnyH_take (i := 11) (oi := _) (v := ?v13) rfl (by kernel_rfl) (by kernel_rfl) (by kernel_rfl) (fun _ _ _ h => h) (Or.inl ⟨by rfl, ?hy13⟩) (by assumption) ?rest13
  case hy13 => ((intro w hSw; (try dsimp only at hSw); go_simp) <;> with_reducible rfl)
  case' rest13 => try simp only [List.getElem_toArray, List.getElem_cons_zero, List.getElem_cons_succ, Act.put, List.setIfInBounds_toArray, List.set_cons_zero, List.set_cons_succ]
  refine wpAnyH_take (i := 12) (oi := _) (v := ?v14) rfl (by kernel_rfl) (by kernel_rfl) (by kernel_rfl) (fun _ _ _ h => h) (Or.inl ⟨by rfl, ?hy14⟩) (by assumption) ?rest14
  case hy14 => ((intro w hSw; (try dsimp only at hSw); go_simp) <;> with_reducible rfl)
  case' rest14 => try simp only [List.getElem_toArray, List.getElem_cons_zero, List.getElem_cons_succ, Act.put, List.setIfInBounds_toArray, List.set_cons_zero, List.set_cons_succ]
  refine wpAnyH_take (i := 13) (oi := _) (v := ?v15) rfl (by kernel_rfl) (by kernel_rfl) (by kernel_rfl) (fun _ _ _ h => h) (Or.inl ⟨by rfl, ?hy15⟩) (by assumption) ?rest15
  case hy15 => ((intro w hSw; (try dsimp only at hSw); go_simp) <;> with_reducible rfl)
  case' rest15 => try simp only [List.getElem_toArray, List.getElem_cons_zero, List.getElem_cons_succ, Act.put, List.setIfInBounds_toArray, List.set_cons_zero, List.set_cons_succ]
  refine wpAnyH_take (i := 14) (oi := _) (v := ?v16) rfl (by kernel_rfl) (by kernel_rfl) (by kernel_rfl) (fun _ _ _ h => h) (Or.inl ⟨by rfl, ?hy16⟩) (by assumption) ?rest16
  case hy16 => ((intro w hSw; (try dsimp only at hSw); go_simp) <;> with_reducible rfl)
  case' rest16 => try simp only [List.getElem_toArray, List.getElem_cons_zero, List.getElem_cons_succ, Act.put, List.setIfInBounds_toArray, List.set_cons_zero, List.set_cons_succ]
  refine wpAnyH_done (by kernel_rfl) ?_ _
  have hEnd := hHeld.2
  repeat (clear hHeld)
  clear hEnd b10 b12 zW zk1 zo1
  go_upto_region 2 with fail
  refine wp_gen (P := BXS w G p pd (KMO w M A3 m3 c3) ⟨mo, sz, nx, ha, ta, ro, 2, ix, sub, b, sm⟩ A n1 c1 b) HX1.out (fun W2 hW2 => ?_)
  clear HX1
  have HXW := hide hW2
  have k1 := hW2.1.msg
  have bb := hW2.1.2.1
  have zW := bb.lt
  have zk1 := k1.lt
  have zo1 := hW2.1.out.lt
  unfold msV at k1
  unfold bsrV at bb
  dsimp only at bb
  have k1_c0 := k1.cell 0 rfl
  have k1_f0 := k1.frozen 0
  have k1_c1 := k1.cell 1 rfl
  have k1_f1 := k1.frozen 1
  have k1_c2 := k1.cell 2 rfl
  have k1_f2 := k1.frozen 2
  have k1_c3 := k1.cell 3 rfl
  have k1_f3 := k1.frozen 3
  have k1_c4 := k1.cell 4 rfl
  have k1_f4 := k1.frozen 4
  have k1_c5 := k1.cell 5 rfl
  have k1_f5 := k1.frozen 5
  have k1_c6 := k1.cell 6 rfl
  have k1_f6 := k1.frozen 6
  have k1_c7 := k1.cell 7 rfl
  have k1_f7 := k1.frozen 7
  have k1_c8 := k1.cell 8 rfl
  have k1_f8 := k1.frozen 8
  have k1_c9 := k1.cell 9 rfl
  have k1_f9 := k1.frozen 9
  have k1_c10 := k1.cell 10 rfl
  have k1_f10 := k1.frozen 10
  have k1_c11 := k1.cell 11 rfl
  have k1_f11 := k1.frozen 11
  have k1_c12 := k1.cell 12 rfl
  have k1_f12 := k1.frozen 12
  have k1_c13 := k1.cell 13 rfl
  have k1_f13 := k1.frozen 13
  have bb_c0 := bb.cell 0 rfl
  have bb_f0 := bb.frozen 0
  have bb_c1 := bb.cell 1 rfl
  have bb_f1 := bb.frozen 1
  have bb_c2 := bb.cell 2 rfl
  have bb_f2 := bb.frozen 2
  have bb_c3 := bb.cell 3 rfl
  have bb_f3 := bb.frozen 3
  have bb_c4 := bb.cell 4 rfl
  have bb_f4 := bb.frozen 4
  have bb_c5 := bb.cell 5 rfl
  have bb_f5 := bb.frozen 5
  have bb_c6 := bb.cell 6 rfl
  have bb_f6 := bb.frozen 6
  have bb_c7 := bb.cell 7 rfl
  have bb_f7 := bb.frozen 7
  have bb_c8 := bb.cell 8 rfl
  have bb_f8 := bb.frozen 8
  have bb_c9 := bb.cell 9 rfl
  have bb_f9 := bb.frozen 9
  have bb_c10 := bb.cell 10 rfl
  have bb_f10 := bb.frozen 10
  have bb_c11 := bb.cell 11 rfl
  have bb_f11 := bb.frozen 11
  clear hW2
  cases hsm : sm
  · subst hsm
    have HSU : Hid (¬ ((false : Bool) = true ∧ sum16L l ≠ M.sum)) := hide (by simp)
    by_cases hszz : sz = -1
    · have hsz1 : (sz != -1) = false := by simp [hszz]
      by_cases hmo : mo < (k : Int)
      · skip
        have HR : Hid (P = BOutR w G p pd (blkIdle ⟨mo, sz, nx, ha, ta, ro, 2, ix, sub, b, false⟩) (outM (abM ix sub 101122066))) := hide (by
          have hpc : becode ⟨mo, sz, nx, ha, ta, ro, 2, ix, sub, b, false⟩ M = 101122066 := by unfold becode; rw [← HL.out, if_neg HSU.out, if_neg (fun h => h.1 hszz), if_pos (by rw [← HLK.out]; exact hmo)]
          rw [HP.out]
          congr 1
          · unfold bendS; rw [if_pos (by rw [hpc]; decide)]; rfl
          · unfold bendO bAbortL; rw [hpc, if_pos (by decide), if_neg (show ¬ (2 : Int) = 0 by decide)]; rfl)
        go_wp2_with fail
        refine (blk_abort p pd ⟨mo, sz, nx, ha, ta, ro, 2, ix, sub, b, false⟩ 101122066 A n1 c1 _ HXW.out.1.2.1 (show (2 : Int) ≠ 0 by decide)).mono ?_
        rintro e w5 ⟨g, hg, rfl, hBg, hBp, ho⟩
        have hgz : w.heap.size + 2 ≤ g := Nat.le_trans HXW.out.1.2.2.2 hg
        have k2 := blk_only HXW.out.1.out ho (fun e => hne1 e.symm)
        have HK2 := hide k2
        have HBG := hide hBg
        have HS5 : Hid (BV_ w5 (fun q => ((G q ∨ w.heap.size ≤ q) ∧ ¬ False) ∧ q ≠ w.heap.size + 1) p pd (blkIdle ⟨mo, sz, nx, ha, ta, ro, 2, ix, sub, b, false⟩)) := hide (bv_idle hBp)
        have HO5 := hide (HXW.out.1.1.trans ho (fun _ _ h => h))
        unfold outV outZ at k2
        unfold outV outZ
        dsimp only
        have k2_c0 := k2.cell 0 rfl
        have k2_f0 := k2.frozen 0
        have k2_c1 := k2.cell 1 rfl
        have k2_f1 := k2.frozen 1
        have k2_c2 := k2.cell 2 rfl
        have k2_f2 := k2.frozen 2
        have k2_c3 := k2.cell 3 rfl
        have k2_f3 := k2.frozen 3
        have k2_c4 := k2.cell 4 rfl
        have k2_f4 := k2.frozen 4
        clear hBg hBp ho
        go_wp2_with fail
        obtain ⟨F1, F2⟩ := bfin_send (fun _ => False) HK2.out hgz (M := abM ix sub 101122066) HBG.out (OwnB.nil _ _) (FIn.nil _) HS5.out HO5.out hz
        rw [← HR.out] at F2
        clear HR
        unfold putO outZ at F1 F2
        dsimp only at F1 F2
        refine ret_out (O := ⟨[], false, 0, 0, []⟩) rfl rfl rfl F1 ?_
        exact F2
      · skip
        have HR : Hid (P = BOutR w G p pd ⟨mo, sz, nx, ha, ta, ro, 3, ix, sub, b, false⟩ ⟨[], true, ix, sub, l⟩) := hide (by
          have hpc : becode ⟨mo, sz, nx, ha, ta, ro, 2, ix, sub, b, false⟩ M = 0 := by unfold becode; rw [← HL.out, if_neg HSU.out, if_neg (fun h => h.1 hszz), if_neg (by rw [← HLK.out]; exact hmo)]
          rw [HP.out]
          congr 1
          · unfold bendS; rw [if_neg (by rw [hpc]; decide)]
          · unfold bendO; rw [if_neg (by rw [hpc]; decide), ← HL.out])
        have HX3 := hide (HXW.out.sets (S' := ⟨mo, sz, nx, ha, ta, ro, 3, ix, sub, b, false⟩) [.int .i64 3] 7 (by simp) rfl)
        simp only [World.setCells] at HX3
        go_upto_region 9 with fail
        refine wp_gen (P := BXS w G p pd (KMO w M A3 m3 c3) ⟨mo, sz, nx, ha, ta, ro, 3, ix, sub, b, false⟩ A n1 c1 b) HX3.out (fun W9 hW9 => ?_)
        clear k1_c0 k1_f0 k1_c1 k1_f1 k1_c2 k1_f2 k1_c3 k1_f3 k1_c4 k1_f4 k1_c5 k1_f5 k1_c6 k1_f6 k1_c7 k1_f7 k1_c8 k1_f8 k1_c9 k1_f9 k1_c10 k1_f10 k1_c11 k1_f11 k1_c12 k1_f12 k1_c13 k1_f13
        clear bb_c0 bb_f0 bb_c1 bb_f1 bb_c2 bb_f2 bb_c3 bb_f3 bb_c4 bb_f4 bb_c5 bb_f5 bb_c6 bb_f6 bb_c7 bb_f7 bb_c8 bb_f8 bb_c9 bb_f9 bb_c10 bb_f10 bb_c11 bb_f11
        clear HX3 k1 bb zW zk1 zo1
        have HX9 := hide hW9
        have zp9 := hW9.1.2.1.lt
        have zz9 := hW9.1.2.2.2
        have d2 : W9.cell? ⟨p, 8, none⟩ = some (.int .i64 ix) := hW9.1.2.1.cell 8 rfl
        have d3 : W9.cell? ⟨p, 9, none⟩ = some (.int .i64 sub) := hW9.1.2.1.cell 9 rfl
        have HSL := hide (show Sl W9 A (l.map bv) by rw [HLT.out, List.map_take]; exact hW9.2.1.take_ k)
        clear hW9
        refine wp_region_T (fun w' => w'.cell? ⟨p, 8, none⟩ = some (.int .i64 ix) ∧ w'.cell? ⟨p, 9, none⟩ = some (.int .i64 sub)) [0, 1, 2, 3, 4, 5, 6, 7, 8, 10, 11] (by kernel_rfl) ?hS18 (fun hHeld => ?rest18)
        case hS18 => ((try dsimp only); exact ⟨d2, d3⟩)
        case' rest18 => skip
        refine wpAnyT_take (by kernel_rfl) (by kernel_rfl) (i := 0) (oi := _) (v := ?v19) rfl (by kernel_rfl) (by kernel_rfl) (by kernel_rfl) (fun _ _ _ h => h) (Or.inl ⟨by rfl, ?hy19⟩) (by assumption) ?rest19
        case hy19 => ((intro w hSw; (try dsimp only at hSw); go_simp) <;> with_reducible rfl)
        case' rest19 => try simp only [List.getElem_toArray, List.getElem_cons_zero, List.getElem_cons_succ, Act.put, List.setIfInBounds_toArray, List.set_cons_zero, List.set_cons_succ]
        refine wpAnyT_take (by kernel_rfl) (by kernel_rfl) (i := 1) (oi := _) (v := ?v20) rfl (by kernel_rfl) (by kernel_rfl) (by kernel_rfl) (fun _ _ _ h => h) (Or.inl ⟨by rfl, ?hy20⟩) (by assumption) ?rest20
        case hy20 => ((intro w hSw; (try dsimp only at hSw); go_simp) <;> with_reducible rfl)
        case' rest20 => try simp only [List.getElem_toArray, List.getElem_cons_zero, List.getElem_cons_succ, Act.put, List.setIfInBounds_toArray, List.set_cons_zero, List.set_cons_succ]
        refine wpAnyT_take (by kernel_rfl) (by kernel_rfl) (i := 2) (oi := _) (v := ?v21) rfl (by kernel_rfl) (by kernel_rfl) (by kernel_rfl) (fun _ _ _ h => h) (Or.inl ⟨by rfl, ?hy21⟩) (by assumption) ?rest21
        case hy21 => ((intro w hSw; (try dsimp only at hSw); go_simp) <;> with_reducible rfl)
        case' rest21 => try simp only [List.getElem_toArray, List.getElem_cons_zero, List.getElem_cons_succ, Act.put, List.setIfInBounds_toArray, List.set_cons_zero, List.set_cons_succ]
        refine wpAnyT_take (by kernel_rfl) (by kernel_rfl) (i := 3) (oi := _) (v := ?v22) rfl (by kernel_rfl) (by kernel_rfl) (by kernel_rfl) (fun _ _ _ h => h) (Or.inl ⟨by rfl, ?hy22⟩) (by assumption) ?rest22
        case hy22 => ((intro w hSw; (try dsimp only at hSw); go_simp) <;> with_reducible rfl)
        case' rest22 => try simp only [List.getElem_toArray, List.getElem_cons_zero, List.getElem_cons_succ, Act.put, List.setIfInBounds_toArray, List.set_cons_zero, List.set_cons_succ]
        refine wpAnyT_take (by kernel_rfl) (by kernel_rfl) (i := 4) (oi := _) (v := ?v23) rfl (by kernel_rfl) (by kernel_rfl) (by kernel_rfl) (fun _ _ _ h => h) (Or.inl ⟨by rfl, ?hy23⟩) (by assumption) ?rest23
        case hy23 => ((intro w hSw; (try dsimp only at hSw); go_simp) <;> with_reducible rfl)
        case' rest23 => try simp only [List.getElem_toArray, List.getElem_cons_zero, List.getElem_cons_succ, Act.put, List.setIfInBounds_toArray, List.set_cons_zero, List.set_cons_succ]
        refine wpAnyT_take (by kernel_rfl) (by kernel_rfl) (i := 5) (oi := _) (v := ?v24) rfl (by kernel_rfl) (by kernel_rfl) (by kernel_rfl) (fun _ _ _ h => h) (Or.inl ⟨by rfl, ?hy24⟩) (by assumption) ?rest24
        case hy24 => ((intro w hSw; (try dsimp only at hSw); go_simp) <;> with_reducible rfl)
        case' rest24 => try simp only [List.getElem_toArray, List.getElem_cons_zero, List.getElem_cons_succ, Act.put, List.setIfInBounds_toArray, List.set_cons_zero, List.set_cons_succ]
        refine wpAnyT_take (by kernel_rfl) (by kernel_rfl) (i := 6) (oi := _) (v := ?v25) rfl (by kernel_rfl) (by kernel_rfl) (by kernel_rfl) (fun _ _ _ h => h) (Or.inl ⟨by rfl, ?hy25⟩) (by assumption) ?rest25
        case hy25 => ((intro w hSw; (try dsimp only at hSw); go_simp) <;> with_reducible rfl)
        case' rest25 => try simp only [List.getElem_toArray, List.getElem_cons_zero, List.getElem_cons_succ, Act.put, List.setIfInBounds_toArray, List.set_cons_zero, List.set_cons_succ]
        refine wpAnyT_take (by kernel_rfl) (by kernel_rfl) (i := 7) (oi := _) (v := ?v26) rfl (by kernel_rfl) (by kernel_rfl) (by kernel_rfl) (fun _ _ _ h => h) (Or.inl ⟨by rfl, ?hy26⟩) (by assumption) ?rest26
        case hy26 => ((intro w hSw; (try dsimp only at hSw); go_simp) <;> with_reducible rfl)
        case' rest26 => try simp only [List.getElem_toArray, List.getElem_cons_zero, List.getElem_cons_succ, Act.put, List.setIfInBounds_toArray, List.set_cons_zero, List.set_cons_succ]
        refine wpAnyT_take (by kernel_rfl) (by kernel_rfl) (i := 8) (oi := _) (v := ?v27) rfl (by kernel_rfl) (by kernel_rfl) (by kernel_rfl) (fun _ _ _ h => h) (Or.inl ⟨by rfl, ?hy27⟩) (by assumption) ?rest27
        case hy27 => ((intro w hSw; (try dsimp only at hSw); go_simp) <;> with_reducible rfl)
        case' rest27 => try simp only [List.getElem_toArray, List.getElem_cons_zero, List.getElem_cons_succ, Act.put, List.setIfInBounds_toArray, List.set_cons_zero, List.set_cons_succ]
        refine wpAnyT_one (i := 9) (o := _) rfl (by kernel_rfl) (fun K hK => ?_)
        rw [if_pos (show Region.wanted _ _ = true by kernel_rfl)]
        refine wp_app_b _ _ rfl W9.heap.size none 0 0 [] rfl (OwnB.nil _ _) A k c1 l rfl HLK.out HSL.out (by omega) (Nat.le_refl _) k (by omega) ?_
        intro A5 c5 w3 hO3 hb3
        rw [List.nil_append] at hO3
        replace hb3 := below_undrew hb3
        have HX5 := hide (HX9.out.step hb3)
        have HO3 := hide (hO3.mono (B' := w.heap.size + 2) zz9)
        have HF3 : Hid (FIn (fun q => W9.heap.size ≤ q) A5) := hide (hO3.own.fin.mono (fun q h => h.1))
        have hk3 := HX5.out.1.out
        have HS3 : Hid (BV_ w3 (fun q => ((G q ∨ w.heap.size ≤ q) ∧ ¬ W9.heap.size ≤ q) ∧ q ≠ w.heap.size + 1) p pd ⟨mo, sz, nx, ha, ta, ro, 3, ix, sub, b, false⟩) := hide ⟨A, n1, c1, HX5.out.1.2.1, fun _ => ⟨HN1.out, hc1, HX5.out.2.1, HAN.out, fun ad e => ⟨⟨⟨(HX9.out.2.2 ad e).1, by have := (HX9.out.2.2 ad e).2.1; omega⟩, (HX9.out.2.2 ad e).2.2.2⟩, (HX5.out.2.2 ad e).2.1, (HX9.out.2.2 ad e).2.2.1⟩⟩⟩
        have g2 := (hb3.cell (p := ⟨p, 8, none⟩) zp9).trans d2
        have g3 := (hb3.cell (p := ⟨p, 9, none⟩) zp9).trans d3
        clear hO3 hb3
        refine hK.out _ _ ?hS29 (fun hHeld => ?rest29)
        case hS29 => ((try dsimp only); (exact ⟨g2, g3⟩))
        case' rest29 => (clear hK K; try simp only [List.getElem_toArray, List.getElem_cons_zero, List.getElem_cons_succ, Act.put, List.setIfInBounds_toArray, List.set_cons_zero, List.set_cons_succ])
        unfold outV outZ at hk3
        have hk3_c0 := hk3.cell 0 rfl
        have hk3_f0 := hk3.frozen 0
        have hk3_c1 := hk3.cell 1 rfl
        have hk3_f1 := hk3.frozen 1
        have hk3_c2 := hk3.cell 2 rfl
        have hk3_f2 := hk3.frozen 2
        have hk3_c3 := hk3.cell 3 rfl
        have hk3_f3 := hk3.frozen 3
        have hk3_c4 := hk3.cell 4 rfl
        have hk3_f4 := hk3.frozen 4
        refine wpAnyT_take (by kernel_rfl) (by kernel_rfl) (i := 10) (oi := _) (v := ?v30) rfl (by kernel_rfl) (by kernel_rfl) (by kernel_rfl) (fun _ _ _ h => h) (Or.inl ⟨by rfl, ?hy30⟩) (by assumption) ?rest30
        case hy30 => ((intro w hSw; (try dsimp only at hSw); go_simp) <;> with_reducible rfl)
        case' rest30 => try simp only [List.getElem_toArray, List.getElem_cons_zero, List.getElem_cons_succ, Act.put, List.setIfInBounds_toArray, List.set_cons_zero, List.set_cons_succ]
        refine wpAnyT_take (by kernel_rfl) (by kernel_rfl) (i := 11) (oi := _) (v := ?v31) rfl (by kernel_rfl) (by kernel_rfl) (by kernel_rfl) (fun _ _ _ h => h) (Or.inl ⟨by rfl, ?hy31⟩) (by assumption) ?rest31
        case hy31 => ((intro w hSw; (try dsimp only at hSw); go_simp) <;> with_reducible rfl)
        case' rest31 => try simp only [List.getElem_toArray, List.getElem_cons_zero, List.getElem_cons_succ, Act.put, List.setIfInBounds_toArray, List.set_cons_zero, List.set_cons_succ]
        refine wpAnyT_late (i := 12) (o := _) rfl (by kernel_rfl) (by kernel_rfl) (fun K hK => ?_)
        go_simp
        refine hK.out _ _ ?rest33
        case' rest33 => (clear hK K; try simp only [List.getElem_toArray, List.getElem_cons_zero, List.getElem_cons_succ, Act.put, List.setIfInBounds_toArray, List.set_cons_zero, List.set_cons_succ])
        refine wpAnyT_done (by kernel_rfl) ?_ _
        repeat (clear hHeld)
        go_wp2_with fail
        obtain ⟨F1, F2⟩ := bfin_write (fun q => W9.heap.size ≤ q) HX5.out.1.out (ix := ix) (sub := sub) HO3.out HF3.out HS3.out HX5.out.1.1 hz
        rw [← HR.out] at F2
        clear HR
        unfold putO at F1 F2
        dsimp only at F1 F2
        refine ret_out (O := ⟨[], true, ix, sub, l⟩) rfl rfl rfl F1 ?_
        exact F2
    · have hsz1 : (sz != -1) = true := by simp [hszz]
      by_cases hsk : sz = (k : Int)
      · have hsk1 : (sz != (k : Int)) = false := by simp [hsk]
        by_cases hmo : mo < (k : Int)
        · skip
          have HR : Hid (P = BOutR w G p pd (blkIdle ⟨mo, sz, nx, ha, ta, ro, 2, ix, sub, b, false⟩) (outM (abM ix sub 101122066))) := hide (by
            have hpc : becode ⟨mo, sz, nx, ha, ta, ro, 2, ix, sub, b, false⟩ M = 101122066 := by unfold becode; rw [← HL.out, if_neg HSU.out, if_neg (fun h => h.2 (by rw [← HLK.out]; exact hsk)), if_pos (by rw [← HLK.out]; exact hmo)]
            rw [HP.out]
            congr 1
            · unfold bendS; rw [if_pos (by rw [hpc]; decide)]; rfl
            · unfold bendO bAbortL; rw [hpc, if_pos (by decide), if_neg (show ¬ (2 : Int) = 0 by decide)]; rfl)
          go_wp2_with fail
          refine (blk_abort p pd ⟨mo, sz, nx, ha, ta, ro, 2, ix, sub, b, false⟩ 101122066 A n1 c1 _ HXW.out.1.2.1 (show (2 : Int) ≠ 0 by decide)).mono ?_
          rintro e w5 ⟨g, hg, rfl, hBg, hBp, ho⟩
          have hgz : w.heap.size + 2 ≤ g := Nat.le_trans HXW.out.1.2.2.2 hg
          have k2 := blk_only HXW.out.1.out ho (fun e => hne1 e.symm)
          have HK2 := hide k2
          have HBG := hide hBg
          have HS5 : Hid (BV_ w5 (fun q => ((G q ∨ w.heap.size ≤ q) ∧ ¬ False) ∧ q ≠ w.heap.size + 1) p pd (blkIdle ⟨mo, sz, nx, ha, ta, ro, 2, ix, sub, b, false⟩)) := hide (bv_idle hBp)
          have HO5 := hide (HXW.out.1.1.trans ho (fun _ _ h => h))
          unfold outV outZ at k2
          unfold outV outZ
          dsimp only
          have k2_c0 := k2.cell 0 rfl
          have k2_f0 := k2.frozen 0
          have k2_c1 := k2.cell 1 rfl
          have k2_f1 := k2.frozen 1
          have k2_c2 := k2.cell 2 rfl
          have k2_f2 := k2.frozen 2
          have k2_c3 := k2.cell 3 rfl
          have k2_f3 := k2.frozen 3
          have k2_c4 := k2.cell 4 rfl
          have k2_f4 := k2.frozen 4
          clear hBg hBp ho
          go_wp2_with fail
          obtain ⟨F1, F2⟩ := bfin_send (fun _ => False) HK2.out hgz (M := abM ix sub 101122066) HBG.out (OwnB.nil _ _) (FIn.nil _) HS5.out HO5.out hz
          rw [← HR.out] at F2
          clear HR
          unfold putO outZ at F1 F2
          dsimp only at F1 F2
          refine ret_out (O := ⟨[], false, 0, 0, []⟩) rfl rfl rfl F1 ?_
          exact F2
        · skip
          have HR : Hid (P = BOutR w G p pd ⟨mo, sz, nx, ha, ta, ro, 3, ix, sub, b, false⟩ ⟨[], true, ix, sub, l⟩) := hide (by
            have hpc : becode ⟨mo, sz, nx, ha, ta, ro, 2, ix, sub, b, false⟩ M = 0 := by unfold becode; rw [← HL.out, if_neg HSU.out, if_neg (fun h => h.2 (by rw [← HLK.out]; exact hsk)), if_neg (by rw [← HLK.out]; exact hmo)]
            rw [HP.out]
            congr 1
            · unfold bendS; rw [if_neg (by rw [hpc]; decide)]
            · unfold bendO; rw [if_neg (by rw [hpc]; decide), ← HL.out])
          have HX3 := hide (HXW.out.sets (S' := ⟨mo, sz, nx, ha, ta, ro, 3, ix, sub, b, false⟩) [.int .i64 3] 7 (by simp) rfl)
          simp only [World.setCells] at HX3
          go_upto_region 9 with fail
          refine wp_gen (P := BXS w G p pd (KMO w M A3 m3 c3) ⟨mo, sz, nx, ha, ta, ro, 3, ix, sub, b, false⟩ A n1 c1 b) HX3.out (fun W9 hW9 => ?_)
          clear k1_c0 k1_f0 k1_c1 k1_f1 k1_c2 k1_f2 k1_c3 k1_f3 k1_c4 k1_f4 k1_c5 k1_f5 k1_c6 k1_f6 k1_c7 k1_f7 k1_c8 k1_f8 k1_c9 k1_f9 k1_c10 k1_f10 k1_c11 k1_f11 k1_c12 k1_f12 k1_c13 k1_f13
          clear bb_c0 bb_f0 bb_c1 bb_f1 bb_c2 bb_f2 bb_c3 bb_f3 bb_c4 bb_f4 bb_c5 bb_f5 bb_c6 bb_f6 bb_c7 bb_f7 bb_c8 bb_f8 bb_c9 bb_f9 bb_c10 bb_f10 bb_c11 bb_f11
          clear HX3 k1 bb zW zk1 zo1
          have HX9 := hide hW9
          have zp9 := hW9.1.2.1.lt
          have zz9 := hW9.1.2.2.2
          have d2 : W9.cell? ⟨p, 8, none⟩ = some (.int .i64 ix) := hW9.1.2.1.cell 8 rfl
          have d3 : W9.cell? ⟨p, 9, none⟩ = some (.int .i64 sub) := hW9.1.2.1.cell 9 rfl
          have HSL := hide (show Sl W9 A (l.map bv) by rw [HLT.out, List.map_take]; exact hW9.2.1.take_ k)
          clear hW9
          refine wp_region_T (fun w' => w'.cell? ⟨p, 8, none⟩ = some (.int .i64 ix) ∧ w'.cell? ⟨p, 9, none⟩ = some (.int .i64 sub)) [0, 1, 2, 3, 4, 5, 6, 7, 8, 10, 11] (by kernel_rfl) ?hS35 (fun hHeld => ?rest35)
          case hS35 => ((try dsimp only); exact ⟨d2, d3⟩)
          case' rest35 => skip
          refine wpAnyT_take (by kernel_rfl) (by kernel_rfl) (i := 0) (oi := _) (v := ?v36) rfl (by kernel_rfl) (by kernel_rfl) (by kernel_rfl) (fun _ _ _ h => h) (Or.inl ⟨by rfl, ?hy36⟩) (by assumption) ?rest36
          case hy36 => ((intro w hSw; (try dsimp only at hSw); go_simp) <;> with_reducible rfl)
          case' rest36 => try simp only [List.getElem_toArray, List.getElem_cons_zero, List.getElem_cons_succ, Act.put, List.setIfInBounds_toArray, List.set_cons_zero, List.set_cons_succ]
          refine wpAnyT_take (by kernel_rfl) (by kernel_rfl) (i := 1) (oi := _) (v := ?v37) rfl (by kernel_rfl) (by kernel_rfl) (by kernel_rfl) (fun _ _ _ h => h) (Or.inl ⟨by rfl, ?hy37⟩) (by assumption) ?rest37
          case hy37 => ((intro w hSw; (try dsimp only at hSw); go_simp) <;> with_reducible rfl)
          case' rest37 => try simp only [List.getElem_toArray, List.getElem_cons_zero, List.getElem_cons_succ, Act.put, List.setIfInBounds_toArray, List.set_cons_zero, List.set_cons_succ]
          refine wpAnyT_take (by kernel_rfl) (by kernel_rfl) (i := 2) (oi := _) (v := ?v38) rfl (by kernel_rfl) (by kernel_rfl) (by kernel_rfl) (fun _ _ _ h => h) (Or.inl ⟨by rfl, ?hy38⟩) (by assumption) ?rest38
          case hy38 => ((intro w hSw; (try dsimp only at hSw); go_simp) <;> with_reducible rfl)
          case' rest38 => try simp only [List.getElem_toArray, List.getElem_cons_zero, List.getElem_cons_succ, Act.put, List.setIfInBounds_toArray, List.set_cons_zero, List.set_cons_succ]
          refine wpAnyT_take (by kernel_rfl) (by kernel_rfl) (i := 3) (oi := _) (v := ?v39) rfl (by kernel_rfl) (by kernel_rfl) (by kernel_rfl) (fun _ _ _ h => h) (Or.inl ⟨by rfl, ?hy39⟩) (by assumption) ?rest39
          case hy39 => ((intro w hSw; (try dsimp only at hSw); go_simp) <;> with_reducible rfl)
          case' rest39 => try simp only [List.getElem_toArray, List.getElem_cons_zero, List.getElem_cons_succ, Act.put, List.setIfInBounds_toArray, List.set_cons_zero, List.set_cons_succ]
          refine wpAnyT_take (by kernel_rfl) (by kernel_rfl) (i := 4) (oi := _) (v := ?v40) rfl (by kernel_rfl) (by kernel_rfl) (by kernel_rfl) (fun _ _ _ h => h) (Or.inl ⟨by rfl, ?hy40⟩) (by assumption) ?rest40
          case hy40 => ((intro w hSw; (try dsimp only at hSw); go_simp) <;> with_reducible rfl)
          case' rest40 => try simp only [List.getElem_toArray, List.getElem_cons_zero, List.getElem_cons_succ, Act.put, List.setIfInBounds_toArray, List.set_cons_zero, List.set_cons_succ]
          refine wpAnyT_take (by kernel_rfl) (by kernel_rfl) (i := 5) (oi := _) (v := ?v41) rfl (by kernel_rfl) (by kernel_rfl) (by kernel_rfl) (fun _ _ _ h => h) (Or.inl ⟨by rfl, ?hy41⟩) (by assumption) ?rest41
          case hy41 => ((intro w hSw; (try dsimp only at hSw); go_simp) <;> with_reducible rfl)
          case' rest41 => try simp only [List.getElem_toArray, List.getElem_cons_zero, List.getElem_cons_succ, Act.put, List.setIfInBounds_toArray, List.set_cons_zero, List.set_cons_succ]
          refine wpAnyT_take (by kernel_rfl) (by kernel_rfl) (i := 6) (oi := _) (v := ?v42) rfl (by kernel_rfl) (by kernel_rfl) (by kernel_rfl) (fun _ _ _ h => h) (Or.inl ⟨by rfl, ?hy42⟩) (by assumption) ?rest42
          case hy42 => ((intro w hSw; (try dsimp only at hSw); go_simp) <;> with_reducible rfl)
          case' rest42 => try simp only [List.getElem_toArray, List.getElem_cons_zero, List.getElem_cons_succ, Act.put, List.setIfInBounds_toArray, List.set_cons_zero, List.set_cons_succ]
          refine wpAnyT_take (by kernel_rfl) (by kernel_rfl) (i := 7) (oi := _) (v := ?v43) rfl (by kernel_rfl) (by kernel_rfl) (by kernel_rfl) (fun _ _ _ h => h) (Or.inl ⟨by rfl, ?hy43⟩) (by assumption) ?rest43
          case hy43 => ((intro w hSw; (try dsimp only at hSw); go_simp) <;> with_reducible rfl)
          case' rest43 => try simp only [List.getElem_toArray, List.getElem_cons_zero, List.getElem_cons_succ, Act.put, List.setIfInBounds_toArray, List.set_cons_zero, List.set_cons_succ]
          refine wpAnyT_take (by kernel_rfl) (by kernel_rfl) (i := 8) (oi := _) (v := ?v44) rfl (by kernel_rfl) (by kernel_rfl) (by kernel_rfl) (fun _ _ _ h => h) (Or.inl ⟨by rfl, ?hy44⟩) (by assumption) ?rest44
          case hy44 => ((intro w hSw; (try dsimp only at hSw); go_simp) <;> with_reducible rfl)
          case' rest44 => try simp only [List.getElem_toArray, List.getElem_cons_zero, List.getElem_cons_succ, Act.put, List.setIfInBounds_toArray, List.set_cons_zero, List.set_cons_succ]
          refine wpAnyT_one (i := 9) (o := _) rfl (by kernel_rfl) (fun K hK => ?_)
          rw [if_pos (show Region.wanted _ _ = true by kernel_rfl)]
          refine wp_app_b _ _ rfl W9.heap.size none 0 0 [] rfl (OwnB.nil _ _) A k c1 l rfl HLK.out HSL.out (by omega) (Nat.le_refl _) k (by omega) ?_
          intro A5 c5 w3 hO3 hb3
          rw [List.nil_append] at hO3
          replace hb3 := below_undrew hb3
          have HX5 := hide (HX9.out.step hb3)
          have HO3 := hide (hO3.mono (B' := w.heap.size + 2) zz9)
          have HF3 : Hid (FIn (fun q => W9.heap.size ≤ q) A5) := hide (hO3.own.fin.mono (fun q h => h.1))
          have hk3 := HX5.out.1.out
          have HS3 : Hid (BV_ w3 (fun q => ((G q ∨ w.heap.size ≤ q) ∧ ¬ W9.heap.size ≤ q) ∧ q ≠ w.heap.size + 1) p pd ⟨mo, sz, nx, ha, ta, ro, 3, ix, sub, b, false⟩) := hide ⟨A, n1, c1, HX5.out.1.2.1, fun _ => ⟨HN1.out, hc1, HX5.out.2.1, HAN.out, fun ad e => ⟨⟨⟨(HX9.out.2.2 ad e).1, by have := (HX9.out.2.2 ad e).2.1; omega⟩, (HX9.out.2.2 ad e).2.2.2⟩, (HX5.out.2.2 ad e).2.1, (HX9.out.2.2 ad e).2.2.1⟩⟩⟩
          have g2 := (hb3.cell (p := ⟨p, 8, none⟩) zp9).trans d2
          have g3 := (hb3.cell (p := ⟨p, 9, none⟩) zp9).trans d3
          clear hO3 hb3
          refine hK.out _ _ ?hS46 (fun hHeld => ?rest46)
          case hS46 => ((try dsimp only); (exact ⟨g2, g3⟩))
          case' rest46 => (clear hK K; try simp only [List.getElem_toArray, List.getElem_cons_zero, List.getElem_cons_succ, Act.put, List.setIfInBounds_toArray, List.set_cons_zero, List.set_cons_succ])
          unfold outV outZ at hk3
          have hk3_c0 := hk3.cell 0 rfl
          have hk3_f0 := hk3.frozen 0
          have hk3_c1 := hk3.cell 1 rfl
          have hk3_f1 := hk3.frozen 1
          have hk3_c2 := hk3.cell 2 rfl
          have hk3_f2 := hk3.frozen 2
          have hk3_c3 := hk3.cell 3 rfl
          have hk3_f3 := hk3.frozen 3
          have hk3_c4 := hk3.cell 4 rfl
          have hk3_f4 := hk3.frozen 4
          refine wpAnyT_take (by kernel_rfl) (by kernel_rfl) (i := 10) (oi := _) (v := ?v47) rfl (by kernel_rfl) (by kernel_rfl) (by kernel_rfl) (fun _ _ _ h => h) (Or.inl ⟨by rfl, ?hy47⟩) (by assumption) ?rest47
          case hy47 => ((intro w hSw; (try dsimp only at hSw); go_simp) <;> with_reducible rfl)
          case' rest47 => try simp only [List.getElem_toArray, List.getElem_cons_zero, List.getElem_cons_succ, Act.put, List.setIfInBounds_toArray, List.set_cons_zero, List.set_cons_succ]
          refine wpAnyT_take (by kernel_rfl) (by kernel_rfl) (i := 11) (oi := _) (v := ?v48) rfl (by kernel_rfl) (by kernel_rfl) (by kernel_rfl) (fun _ _ _ h => h) (Or.inl ⟨by rfl, ?hy48⟩) (by assumption) ?rest48
          case hy48 => ((intro w hSw; (try dsimp only at hSw); go_simp) <;> with_reducible rfl)
          case' rest48 => try simp only [List.getElem_toArray, List.getElem_cons_zero, List.getElem_cons_succ, Act.put, List.setIfInBounds_toArray, List.set_cons_zero, List.set_cons_succ]
          refine wpAnyT_late (i := 12) (o := _) rfl (by kernel_rfl) (by kernel_rfl) (fun K hK => ?_)
          go_simp
          refine hK.out _ _ ?rest50
          case' rest50 => (clear hK K; try simp only [List.getElem_toArray, List.getElem_cons_zero, List.getElem_cons_succ, Act.put, List.setIfInBounds_toArray, List.set_cons_zero, List.set_cons_succ])
          refine wpAnyT_done (by kernel_rfl) ?_ _
          repeat (clear hHeld)
          go_wp2_with fail
          obtain ⟨F1, F2⟩ := bfin_write (fun q => W9.heap.size ≤ q) HX5.out.1.out (ix := ix) (sub := sub) HO3.out HF3.out HS3.out HX5.out.1.1 hz
          rw [← HR.out] at F2
          clear HR
          unfold putO at F1 F2
          dsimp only at F1 F2
          refine ret_out (O := ⟨[], true, ix, sub, l⟩) rfl rfl rfl F1 ?_
          exact F2
      · have hsk1 : (sz != (k : Int)) = true := by simp [hsk]
        have HR : Hid (P = BOutR w G p pd (blkIdle ⟨mo, sz, nx, ha, ta, ro, 2, ix, sub, b, false⟩) (outM (abM ix sub 101122064))) := hide (by
          have hpc : becode ⟨mo, sz, nx, ha, ta, ro, 2, ix, sub, b, false⟩ M = 101122064 := by unfold becode; rw [← HL.out, if_neg HSU.out, if_pos ⟨hszz, by rw [← HLK.out]; exact hsk⟩]
          rw [HP.out]
          congr 1
          · unfold bendS; rw [if_pos (by rw [hpc]; decide)]; rfl
          · unfold bendO bAbortL; rw [hpc, if_pos (by decide), if_neg (show ¬ (2 : Int) = 0 by decide)]; rfl)
        go_wp2_with fail
        refine (blk_abort p pd ⟨mo, sz, nx, ha, ta, ro, 2, ix, sub, b, false⟩ 101122064 A n1 c1 _ HXW.out.1.2.1 (show (2 : Int) ≠ 0 by decide)).mono ?_
        rintro e w5 ⟨g, hg, rfl, hBg, hBp, ho⟩
        have hgz : w.heap.size + 2 ≤ g := Nat.le_trans HXW.out.1.2.2.2 hg
        have k2 := blk_only HXW.out.1.out ho (fun e => hne1 e.symm)
        have HK2 := hide k2
        have HBG := hide hBg
        have HS5 : Hid (BV_ w5 (fun q => ((G q ∨ w.heap.size ≤ q) ∧ ¬ False) ∧ q ≠ w.heap.size + 1) p pd (blkIdle ⟨mo, sz, nx, ha, ta, ro, 2, ix, sub, b, false⟩)) := hide (bv_idle hBp)
        have HO5 := hide (HXW.out.1.1.trans ho (fun _ _ h => h))
        unfold outV outZ at k2
        unfold outV outZ
        dsimp only
        have k2_c0 := k2.cell 0 rfl
        have k2_f0 := k2.frozen 0
        have k2_c1 := k2.cell 1 rfl
        have k2_f1 := k2.frozen 1
        have k2_c2 := k2.cell 2 rfl
        have k2_f2 := k2.frozen 2
        have k2_c3 := k2.cell 3 rfl
        have k2_f3 := k2.frozen 3
        have k2_c4 := k2.cell 4 rfl
        have k2_f4 := k2.frozen 4
        clear hBg hBp ho
        go_wp2_with fail
        obtain ⟨F1, F2⟩ := bfin_send (fun _ => False) HK2.out hgz (M := abM ix sub 101122064) HBG.out (OwnB.nil _ _) (FIn.nil _) HS5.out HO5.out hz
        rw [← HR.out] at F2
        clear HR
        unfold putO outZ at F1 F2
        dsimp only at F1 F2
        refine ret_out (O := ⟨[], false, 0, 0, []⟩) rfl rfl rfl F1 ?_
        exact F2
  · subst hsm
    have HSL2 := hide (show Sl W2 A (l.map bv) by rw [HLT.out, List.map_take]; exact HXW.out.2.1.take_ k)
    go_wp2_with fail
    refine (sum16_right A k c1 M.sum l W2 HLK.out (by omega) HSL2.out).mono ?_
    rintro e w4 ⟨rfl, hb4⟩
    clear k1_c0 k1_f0 k1_c1 k1_f1 k1_c2 k1_f2 k1_c3 k1_f3 k1_c4 k1_f4 k1_c5 k1_f5 k1_c6 k1_f6 k1_c7 k1_f7 k1_c8 k1_f8 k1_c9 k1_f9 k1_c10 k1_f10 k1_c11 k1_f11 k1_c12 k1_f12 k1_c13 k1_f13
    clear bb_c0 bb_f0 bb_c1 bb_f1 bb_c2 bb_f2 bb_c3 bb_f3 bb_c4 bb_f4 bb_c5 bb_f5 bb_c6 bb_f6 bb_c7 bb_f7 bb_c8 bb_f8 bb_c9 bb_f9 bb_c10 bb_f10 bb_c11 bb_f11
    clear k1 bb zW zk1 zo1 HSL2
    replace HXW := hide (HXW.out.step hb4)
    have k1 := HXW.out.1.msg
    have bb := HXW.out.1.2.1
    have zW := bb.lt
    have zk1 := k1.lt
    have zo1 := HXW.out.1.out.lt
    unfold msV at k1
    unfold bsrV at bb
    dsimp only at bb
    have k1_c0 := k1.cell 0 rfl
    have k1_f0 := k1.frozen 0
    have k1_c1 := k1.cell 1 rfl
    have k1_f1 := k1.frozen 1
    have k1_c2 := k1.cell 2 rfl
    have k1_f2 := k1.frozen 2
    have k1_c3 := k1.cell 3 rfl
    have k1_f3 := k1.frozen 3
    have k1_c4 := k1.cell 4 rfl
    have k1_f4 := k1.frozen 4
    have k1_c5 := k1.cell 5 rfl
    have k1_f5 := k1.frozen 5
    have k1_c6 := k1.cell 6 rfl
    have k1_f6 := k1.frozen 6
    have k1_c7 := k1.cell 7 rfl
    have k1_f7 := k1.frozen 7
    have k1_c8 := k1.cell 8 rfl
    have k1_f8 := k1.frozen 8
    have k1_c9 := k1.cell 9 rfl
    have k1_f9 := k1.frozen 9
    have k1_c10 := k1.cell 10 rfl
    have k1_f10 := k1.frozen 10
    have k1_c11 := k1.cell 11 rfl
    have k1_f11 := k1.frozen 11
    have k1_c12 := k1.cell 12 rfl
    have k1_f12 := k1.frozen 12
    have k1_c13 := k1.cell 13 rfl
    have k1_f13 := k1.frozen 13
    have bb_c0 := bb.cell 0 rfl
    have bb_f0 := bb.frozen 0
    have bb_c1 := bb.cell 1 rfl
    have bb_f1 := bb.frozen 1
    have bb_c2 := bb.cell 2 rfl
    have bb_f2 := bb.frozen 2
    have bb_c3 := bb.cell 3 rfl
    have bb_f3 := bb.frozen 3
    have bb_c4 := bb.cell 4 rfl
    have bb_f4 := bb.frozen 4
    have bb_c5 := bb.cell 5 rfl
    have bb_f5 := bb.frozen 5
    have bb_c6 := bb.cell 6 rfl
    have bb_f6 := bb.frozen 6
    have bb_c7 := bb.cell 7 rfl
    have bb_f7 := bb.frozen 7
    have bb_c8 := bb.cell 8 rfl
    have bb_f8 := bb.frozen 8
    have bb_c9 := bb.cell 9 rfl
    have bb_f9 := bb.frozen 9
    have bb_c10 := bb.cell 10 rfl
    have bb_f10 := bb.frozen 10
    have bb_c11 := bb.cell 11 rfl
    have bb_f11 := bb.frozen 11
    clear hb4
    by_cases hsu : sum16L l = M.sum
    · rw [decide_eq_true hsu]
      have HSU : Hid (¬ ((true : Bool) = true ∧ sum16L l ≠ M.sum)) := hide (fun h => h.2 hsu)
      clear hsu
      by_cases hszz : sz = -1
      · have hsz1 : (sz != -1) = false := by simp [hszz]
        by_cases hmo : mo < (k : Int)
        · skip
          have HR : Hid (P = BOutR w G p pd (blkIdle ⟨mo, sz, nx, ha, ta, ro, 2, ix, sub, b, true⟩) (outM (abM ix sub 101122066))) := hide (by
            have hpc : becode ⟨mo, sz, nx, ha, ta, ro, 2, ix, sub, b, true⟩ M = 101122066 := by unfold becode; rw [← HL.out, if_neg HSU.out, if_neg (fun h => h.1 hszz), if_pos (by rw [← HLK.out]; exact hmo)]
            rw [HP.out]
            congr 1
            · unfold bendS; rw [if_pos (by rw [hpc]; decide)]; rfl
            · unfold bendO bAbortL; rw [hpc, if_pos (by decide), if_neg (show ¬ (2 : Int) = 0 by decide)]; rfl)
          go_wp2_with fail
          refine (blk_abort p pd ⟨mo, sz, nx, ha, ta, ro, 2, ix, sub, b, true⟩ 101122066 A n1 c1 _ HXW.out.1.2.1 (show (2 : Int) ≠ 0 by decide)).mono ?_
          rintro e w5 ⟨g, hg, rfl, hBg, hBp, ho⟩
          have hgz : w.heap.size + 2 ≤ g := Nat.le_trans HXW.out.1.2.2.2 hg
          have k2 := blk_only HXW.out.1.out ho (fun e => hne1 e.symm)
          have HK2 := hide k2
          have HBG := hide hBg
          have HS5 : Hid (BV_ w5 (fun q => ((G q ∨ w.heap.size ≤ q) ∧ ¬ False) ∧ q ≠ w.heap.size + 1) p pd (blkIdle ⟨mo, sz, nx, ha, ta, ro, 2, ix, sub, b, true⟩)) := hide (bv_idle hBp)
          have HO5 := hide (HXW.out.1.1.trans ho (fun _ _ h => h))
          unfold outV outZ at k2
          unfold outV outZ
          dsimp only
          have k2_c0 := k2.cell 0 rfl
          have k2_f0 := k2.frozen 0
          have k2_c1 := k2.cell 1 rfl
          have k2_f1 := k2.frozen 1
          have k2_c2 := k2.cell 2 rfl
          have k2_f2 := k2.frozen 2
          have k2_c3 := k2.cell 3 rfl
          have k2_f3 := k2.frozen 3
          have k2_c4 := k2.cell 4 rfl
          have k2_f4 := k2.frozen 4
          clear hBg hBp ho
          go_wp2_with fail
          obtain ⟨F1, F2⟩ := bfin_send (fun _ => False) HK2.out hgz (M := abM ix sub 101122066) HBG.out (OwnB.nil _ _) (FIn.nil _) HS5.out HO5.out hz
          rw [← HR.out] at F2
          clear HR
          unfold putO outZ at F1 F2
          dsimp only at F1 F2
          refine ret_out (O := ⟨[], false, 0, 0, []⟩) rfl rfl rfl F1 ?_
          exact F2
        · skip
          have HR : Hid (P = BOutR w G p pd ⟨mo, sz, nx, ha, ta, ro, 3, ix, sub, b, true⟩ ⟨[], true, ix, sub, l⟩) := hide (by
            have hpc : becode ⟨mo, sz, nx, ha, ta, ro, 2, ix, sub, b, true⟩ M = 0 := by unfold becode; rw [← HL.out, if_neg HSU.out, if_neg (fun h => h.1 hszz), if_neg (by rw [← HLK.out]; exact hmo)]
            rw [HP.out]
            congr 1
            · unfold bendS; rw [if_neg (by rw [hpc]; decide)]
            · unfold bendO; rw [if_neg (by rw [hpc]; decide), ← HL.out])
          have HX3 := hide (HXW.out.sets (S' := ⟨mo, sz, nx, ha, ta, ro, 3, ix, sub, b, true⟩) [.int .i64 3] 7 (by simp) rfl)
          simp only [World.setCells] at HX3
          go_upto_region 9 with fail
          refine wp_gen (P := BXS w G p pd (KMO w M A3 m3 c3) ⟨mo, sz, nx, ha, ta, ro, 3, ix, sub, b, true⟩ A n1 c1 b) HX3.out (fun W9 hW9 => ?_)
          clear k1_c0 k1_f0 k1_c1 k1_f1 k1_c2 k1_f2 k1_c3 k1_f3 k1_c4 k1_f4 k1_c5 k1_f5 k1_c6 k1_f6 k1_c7 k1_f7 k1_c8 k1_f8 k1_c9 k1_f9 k1_c10 k1_f10 k1_c11 k1_f11 k1_c12 k1_f12 k1_c13 k1_f13
          clear bb_c0 bb_f0 bb_c1 bb_f1 bb_c2 bb_f2 bb_c3 bb_f3 bb_c4 bb_f4 bb_c5 bb_f5 bb_c6 bb_f6 bb_c7 bb_f7 bb_c8 bb_f8 bb_c9 bb_f9 bb_c10 bb_f10 bb_c11 bb_f11
          clear HX3 k1 bb zW zk1 zo1
          have HX9 := hide hW9
          have zp9 := hW9.1.2.1.lt
          have zz9 := hW9.1.2.2.2
          have d2 : W9.cell? ⟨p, 8, none⟩ = some (.int .i64 ix) := hW9.1.2.1.cell 8 rfl
          have d3 : W9.cell? ⟨p, 9, none⟩ = some (.int .i64 sub) := hW9.1.2.1.cell 9 rfl
          have HSL := hide (show Sl W9 A (l.map bv) by rw [HLT.out, List.map_take]; exact hW9.2.1.take_ k)
          clear hW9
          refine wp_region_T (fun w' => w'.cell? ⟨p, 8, none⟩ = some (.int .i64 ix) ∧ w'.cell? ⟨p, 9, none⟩ = some (.int .i64 sub)) [0, 1, 2, 3, 4, 5, 6, 7, 8, 10, 11] (by kernel_rfl) ?hS52 (fun hHeld => ?rest52)
          case hS52 => ((try dsimp only); exact ⟨d2, d3⟩)
          case' rest52 => skip
          refine wpAnyT_take (by kernel_rfl) (by kernel_rfl) (i := 0) (oi := _) (v := ?v53) rfl (by kernel_rfl) (by kernel_rfl) (by kernel_rfl) (fun _ _ _ h => h) (Or.inl ⟨by rfl, ?hy53⟩) (by assumption) ?rest53
          case hy53 => ((intro w hSw; (try dsimp only at hSw); go_simp) <;> with_reducible rfl)
          case' rest53 => try simp only [List.getElem_toArray, List.getElem_cons_zero, List.getElem_cons_succ, Act.put, List.setIfInBounds_toArray, List.set_cons_zero, List.set_cons_succ]
          refine wpAnyT_take (by kernel_rfl) (by kernel_rfl) (i := 1) (oi := _) (v := ?v54) rfl (by kernel_rfl) (by kernel_rfl) (by kernel_rfl) (fun _ _ _ h => h) (Or.inl ⟨by rfl, ?hy54⟩) (by assumption) ?rest54
          case hy54 => ((intro w hSw; (try dsimp only at hSw); go_simp) <;> with_reducible rfl)
          case' rest54 => try simp only [List.getElem_toArray, List.getElem_cons_zero, List.getElem_cons_succ, Act.put, List.setIfInBounds_toArray, List.set_cons_zero, List.set_cons_succ]
          refine wpAnyT_take (by kernel_rfl) (by kernel_rfl) (i := 2) (oi := _) (v := ?v55) rfl (by kernel_rfl) (by kernel_rfl) (by kernel_rfl) (fun _ _ _ h => h) (Or.inl ⟨by rfl, ?hy55⟩) (by assumption) ?rest55
          case hy55 => ((intro w hSw; (try dsimp only at hSw); go_simp) <;> with_reducible rfl)
          case' rest55 => try simp only [List.getElem_toArray, List.getElem_cons_zero, List.getElem_cons_succ, Act.put, List.setIfInBounds_toArray, List.set_cons_zero, List.set_cons_succ]
          refine wpAnyT_take (by kernel_rfl) (by kernel_rfl) (i := 3) (oi := _) (v := ?v56) rfl (by kernel_rfl) (by kernel_rfl) (by kernel_rfl) (fun _ _ _ h => h) (Or.inl ⟨by rfl, ?hy56⟩) (by assumption) ?rest56
          case hy56 => ((intro w hSw; (try dsimp only at hSw); go_simp) <;> with_reducible rfl)
          case' rest56 => try simp only [List.getElem_toArray, List.getElem_cons_zero, List.getElem_cons_succ, Act.put, List.setIfInBounds_toArray, List.set_cons_zero, List.set_cons_succ]
          refine wpAnyT_take (by kernel_rfl) (by kernel_rfl) (i := 4) (oi := _) (v := ?v57) rfl (by kernel_rfl) (by kernel_rfl) (by kernel_rfl) (fun _ _ _ h => h) (Or.inl ⟨by rfl, ?hy57⟩) (by assumption) ?rest57
          case hy57 => ((intro w hSw; (try dsimp only at hSw); go_simp) <;> with_reducible rfl)
          case' rest57 => try simp only [List.getElem_toArray, List.getElem_cons_zero, List.getElem_cons_succ, Act.put, List.setIfInBounds_toArray, List.set_cons_zero, List.set_cons_succ]
          refine wpAnyT_take (by kernel_rfl) (by kernel_rfl) (i := 5) (oi := _) (v := ?v58) rfl (by kernel_rfl) (by kernel_rfl) (by kernel_rfl) (fun _ _ _ h => h) (Or.inl ⟨by rfl, ?hy58⟩) (by assumption) ?rest58
          case hy58 => ((intro w hSw; (try dsimp only at hSw); go_simp) <;> with_reducible rfl)
          case' rest58 => try simp only [List.getElem_toArray, List.getElem_cons_zero, List.getElem_cons_succ, Act.put, List.setIfInBounds_toArray, List.set_cons_zero, List.set_cons_succ]
          refine wpAnyT_take (by kernel_rfl) (by kernel_rfl) (i := 6) (oi := _) (v := ?v59) rfl (by kernel_rfl) (by kernel_rfl) (by kernel_rfl) (fun _ _ _ h => h) (Or.inl ⟨by rfl, ?hy59⟩) (by assumption) ?rest59
          case hy59 => ((intro w hSw; (try dsimp only at hSw); go_simp) <;> with_reducible rfl)
          case' rest59 => try simp only [List.getElem_toArray, List.getElem_cons_zero, List.getElem_cons_succ, Act.put, List.setIfInBounds_toArray, List.set_cons_zero, List.set_cons_succ]
          refine wpAnyT_take (by kernel_rfl) (by kernel_rfl) (i := 7) (oi := _) (v := ?v60) rfl (by kernel_rfl) (by kernel_rfl) (by kernel_rfl) (fun _ _ _ h => h) (Or.inl ⟨by rfl, ?hy60⟩) (by assumption) ?rest60
          case hy60 => ((intro w hSw; (try dsimp only at hSw); go_simp) <;> with_reducible rfl)
          case' rest60 => try simp only [List.getElem_toArray, List.getElem_cons_zero, List.getElem_cons_succ, Act.put, List.setIfInBounds_toArray, List.set_cons_zero, List.set_cons_succ]
          refine wpAnyT_take (by kernel_rfl) (by kernel_rfl) (i := 8) (oi := _) (v := ?v61) rfl (by kernel_rfl) (by kernel_rfl) (by kernel_rfl) (fun _ _ _ h => h) (Or.inl ⟨by rfl, ?hy61⟩) (by assumption) ?rest61
          case hy61 => ((intro w hSw; (try dsimp only at hSw); go_simp) <;> with_reducible rfl)
          case' rest61 => try simp only [List.getElem_toArray, List.getElem_cons_zero, List.getElem_cons_succ, Act.put, List.setIfInBounds_toArray, List.set_cons_zero, List.set_cons_succ]
          refine wpAnyT_one (i := 9) (o := _) rfl (by kernel_rfl) (fun K hK => ?_)
          rw [if_pos (show Region.wanted _ _ = true by kernel_rfl)]
          refine wp_app_b _ _ rfl W9.heap.size none 0 0 [] rfl (OwnB.nil _ _) A k c1 l rfl HLK.out HSL.out (by omega) (Nat.le_refl _) k (by omega) ?_
          intro A5 c5 w3 hO3 hb3
          rw [List.nil_append] at hO3
          replace hb3 := below_undrew hb3
          have HX5 := hide (HX9.out.step hb3)
          have HO3 := hide (hO3.mono (B' := w.heap.size + 2) zz9)
          have HF3 : Hid (FIn (fun q => W9.heap.size ≤ q) A5) := hide (hO3.own.fin.mono (fun q h => h.1))
          have hk3 := HX5.out.1.out
          have HS3 : Hid (BV_ w3 (fun q => ((G q ∨ w.heap.size ≤ q) ∧ ¬ W9.heap.size ≤ q) ∧ q ≠ w.heap.size + 1) p pd ⟨mo, sz, nx, ha, ta, ro, 3, ix, sub, b, true⟩) := hide ⟨A, n1, c1, HX5.out.1.2.1, fun _ => ⟨HN1.out, hc1, HX5.out.2.1, HAN.out, fun ad e => ⟨⟨⟨(HX9.out.2.2 ad e).1, by have := (HX9.out.2.2 ad e).2.1; omega⟩, (HX9.out.2.2 ad e).2.2.2⟩, (HX5.out.2.2 ad e).2.1, (HX9.out.2.2 ad e).2.2.1⟩⟩⟩
          have g2 := (hb3.cell (p := ⟨p, 8, none⟩) zp9).trans d2
          have g3 := (hb3.cell (p := ⟨p, 9, none⟩) zp9).trans d3
          clear hO3 hb3
          refine hK.out _ _ ?hS63 (fun hHeld => ?rest63)
          case hS63 => ((try dsimp only); (exact ⟨g2, g3⟩))
          case' rest63 => (clear hK K; try simp only [List.getElem_toArray, List.getElem_cons_zero, List.getElem_cons_succ, Act.put, List.setIfInBounds_toArray, List.set_cons_zero, List.set_cons_succ])
          unfold outV outZ at hk3
          have hk3_c0 := hk3.cell 0 rfl
          have hk3_f0 := hk3.frozen 0
          have hk3_c1 := hk3.cell 1 rfl
          have hk3_f1 := hk3.frozen 1
          have hk3_c2 := hk3.cell 2 rfl
          have hk3_f2 := hk3.frozen 2
          have hk3_c3 := hk3.cell 3 rfl
          have hk3_f3 := hk3.frozen 3
          have hk3_c4 := hk3.cell 4 rfl
          have hk3_f4 := hk3.frozen 4
          refine wpAnyT_take (by kernel_rfl) (by kernel_rfl) (i := 10) (oi := _) (v := ?v64) rfl (by kernel_rfl) (by kernel_rfl) (by kernel_rfl) (fun _ _ _ h => h) (Or.inl ⟨by rfl, ?hy64⟩) (by assumption) ?rest64
          case hy64 => ((intro w hSw; (try dsimp only at hSw); go_simp) <;> with_reducible rfl)
          case' rest64 => try simp only [List.getElem_toArray, List.getElem_cons_zero, List.getElem_cons_succ, Act.put, List.setIfInBounds_toArray, List.set_cons_zero, List.set_cons_succ]
          refine wpAnyT_take (by kernel_rfl) (by kernel_rfl) (i := 11) (oi := _) (v := ?v65) rfl (by kernel_rfl) (by kernel_rfl) (by kernel_rfl) (fun _ _ _ h => h) (Or.inl ⟨by rfl, ?hy65⟩) (by assumption) ?rest65
          case hy65 => ((intro w hSw; (try dsimp only at hSw); go_simp) <;> with_reducible rfl)
          case' rest65 => try simp only [List.getElem_toArray, List.getElem_cons_zero, List.getElem_cons_succ, Act.put, List.setIfInBounds_toArray, List.set_cons_zero, List.set_cons_succ]
          refine wpAnyT_late (i := 12) (o := _) rfl (by kernel_rfl) (by kernel_rfl) (fun K hK => ?_)
          go_simp
          refine hK.out _ _ ?rest67
          case' rest67 => (clear hK K; try simp only [List.getElem_toArray, List.getElem_cons_zero, List.getElem_cons_succ, Act.put, List.setIfInBounds_toArray, List.set_cons_zero, List.set_cons_succ])
          refine wpAnyT_done (by kernel_rfl) ?_ _
          repeat (clear hHeld)
          go_wp2_with fail
          obtain ⟨F1, F2⟩ := bfin_write (fun q => W9.heap.size ≤ q) HX5.out.1.out (ix := ix) (sub := sub) HO3.out HF3.out HS3.out HX5.out.1.1 hz
          rw [← HR.out] at F2
          clear HR
          unfold putO at F1 F2
          dsimp only at F1 F2
          refine ret_out (O := ⟨[], true, ix, sub, l⟩) rfl rfl rfl F1 ?_
          exact F2
      · have hsz1 : (sz != -1) = true := by simp [hszz]
        by_cases hsk : sz = (k : Int)
        · have hsk1 : (sz != (k : Int)) = false := by simp [hsk]
          by_cases hmo : mo < (k : Int)
          · skip
            have HR : Hid (P = BOutR w G p pd (blkIdle ⟨mo, sz, nx, ha, ta, ro, 2, ix, sub, b, true⟩) (outM (abM ix sub 101122066))) := hide (by
              have hpc : becode ⟨mo, sz, nx, ha, ta, ro, 2, ix, sub, b, true⟩ M = 101122066 := by unfold becode; rw [← HL.out, if_neg HSU.out, if_neg (fun h => h.2 (by rw [← HLK.out]; exact hsk)), if_pos (by rw [← HLK.out]; exact hmo)]
              rw [HP.out]
              congr 1
              · unfold bendS; rw [if_pos (by rw [hpc]; decide)]; rfl
              · unfold bendO bAbortL; rw [hpc, if_pos (by decide), if_neg (show ¬ (2 : Int) = 0 by decide)]; rfl)
            go_wp2_with fail
            refine (blk_abort p pd ⟨mo, sz, nx, ha, ta, ro, 2, ix, sub, b, true⟩ 101122066 A n1 c1 _ HXW.out.1.2.1 (show (2 : Int) ≠ 0 by decide)).mono ?_
            rintro e w5 ⟨g, hg, rfl, hBg, hBp, ho⟩
            have hgz : w.heap.size + 2 ≤ g := Nat.le_trans HXW.out.1.2.2.2 hg
            have k2 := blk_only HXW.out.1.out ho (fun e => hne1 e.symm)
            have HK2 := hide k2
            have HBG := hide hBg
            have HS5 : Hid (BV_ w5 (fun q => ((G q ∨ w.heap.size ≤ q) ∧ ¬ False) ∧ q ≠ w.heap.size + 1) p pd (blkIdle ⟨mo, sz, nx, ha, ta, ro, 2, ix, sub, b, true⟩)) := hide (bv_idle hBp)
            have HO5 := hide (HXW.out.1.1.trans ho (fun _ _ h => h))
            unfold outV outZ at k2
            unfold outV outZ
            dsimp only
            have k2_c0 := k2.cell 0 rfl
            have k2_f0 := k2.frozen 0
            have k2_c1 := k2.cell 1 rfl
            have k2_f1 := k2.frozen 1
            have k2_c2 := k2.cell 2 rfl
            have k2_f2 := k2.frozen 2
            have k2_c3 := k2.cell 3 rfl
            have k2_f3 := k2.frozen 3
            have k2_c4 := k2.cell 4 rfl
            have k2_f4 := k2.frozen 4
            clear hBg hBp ho
            go_wp2_with fail
            obtain ⟨F1, F2⟩ := bfin_send (fun _ => False) HK2.out hgz (M := abM ix sub 101122066) HBG.out (OwnB.nil _ _) (FIn.nil _) HS5.out HO5.out hz
            rw [← HR.out] at F2
            clear HR
            unfold putO outZ at F1 F2
            dsimp only at F1 F2
            refine ret_out (O := ⟨[], false, 0, 0, []⟩) rfl rfl rfl F1 ?_
            exact F2
          · skip
            have HR : Hid (P = BOutR w G p pd ⟨mo, sz, nx, ha, ta, ro, 3, ix, sub, b, true⟩ ⟨[], true, ix, sub, l⟩) := hide (by
              have hpc : becode ⟨mo, sz, nx, ha, ta, ro, 2, ix, sub, b, true⟩ M = 0 := by unfold becode; rw [← HL.out, if_neg HSU.out, if_neg (fun h => h.2 (by rw [← HLK.out]; exact hsk)), if_neg (by rw [← HLK.out]; exact hmo)]
              rw [HP.out]
              congr 1
              · unfold bendS; rw [if_neg (by rw [hpc]; decide)]
              · unfold bendO; rw [if_neg (by rw [hpc]; decide), ← HL.out])
            have HX3 := hide (HXW.out.sets (S' := ⟨mo, sz, nx, ha, ta, ro, 3, ix, sub, b, true⟩) [.int .i64 3] 7 (by simp) rfl)
            simp only [World.setCells] at HX3
            go_upto_region 9 with fail
            refine wp_gen (P := BXS w G p pd (KMO w M A3 m3 c3) ⟨mo, sz, nx, ha, ta, ro, 3, ix, sub, b, true⟩ A n1 c1 b) HX3.out (fun W9 hW9 => ?_)
            clear k1_c0 k1_f0 k1_c1 k1_f1 k1_c2 k1_f2 k1_c3 k1_f3 k1_c4 k1_f4 k1_c5 k1_f5 k1_c6 k1_f6 k1_c7 k1_f7 k1_c8 k1_f8 k1_c9 k1_f9 k1_c10 k1_f10 k1_c11 k1_f11 k1_c12 k1_f12 k1_c13 k1_f13
            clear bb_c0 bb_f0 bb_c1 bb_f1 bb_c2 bb_f2 bb_c3 bb_f3 bb_c4 bb_f4 bb_c5 bb_f5 bb_c6 bb_f6 bb_c7 bb_f7 bb_c8 bb_f8 bb_c9 bb_f9 bb_c10 bb_f10 bb_c11 bb_f11
            clear HX3 k1 bb zW zk1 zo1
            have HX9 := hide hW9
            have zp9 := hW9.1.2.1.lt
            have zz9 := hW9.1.2.2.2
            have d2 : W9.cell? ⟨p, 8, none⟩ = some (.int .i64 ix) := hW9.1.2.1.cell 8 rfl
            have d3 : W9.cell? ⟨p, 9, none⟩ = some (.int .i64 sub) := hW9.1.2.1.cell 9 rfl
            have HSL := hide (show Sl W9 A (l.map bv) by rw [HLT.out, List.map_take]; exact hW9.2.1.take_ k)
            clear hW9
            refine wp_region_T (fun w' => w'.cell? ⟨p, 8, none⟩ = some (.int .i64 ix) ∧ w'.cell? ⟨p, 9, none⟩ = some (.int .i64 sub)) [0, 1, 2, 3, 4, 5, 6, 7, 8, 10, 11] (by kernel_rfl) ?hS69 (fun hHeld => ?rest69)
            case hS69 => ((try dsimp only); exact ⟨d2, d3⟩)
            case' rest69 => skip
            refine wpAnyT_take (by kernel_rfl) (by kernel_rfl) (i := 0) (oi := _) (v := ?v70) rfl (by kernel_rfl) (by kernel_rfl) (by kernel_rfl) (fun _ _ _ h => h) (Or.inl ⟨by rfl, ?hy70⟩) (by assumption) ?rest70
            case hy70 => ((intro w hSw; (try dsimp only at hSw); go_simp) <;> with_reducible rfl)
            case' rest70 => try simp only [List.getElem_toArray, List.getElem_cons_zero, List.getElem_cons_succ, Act.put, List.setIfInBounds_toArray, List.set_cons_zero, List.set_cons_succ]
            refine wpAnyT_take (by kernel_rfl) (by kernel_rfl) (i := 1) (oi := _) (v := ?v71) rfl (by kernel_rfl) (by kernel_rfl) (by kernel_rfl) (fun _ _ _ h => h) (Or.inl ⟨by rfl, ?hy71⟩) (by assumption) ?rest71
            case hy71 => ((intro w hSw; (try dsimp only at hSw); go_simp) <;> with_reducible rfl)
            case' rest71 => try simp only [List.getElem_toArray, List.getElem_cons_zero, List.getElem_cons_succ, Act.put, List.setIfInBounds_toArray, List.set_cons_zero, List.set_cons_succ]
            refine wpAnyT_take (by kernel_rfl) (by kernel_rfl) (i := 2) (oi := _) (v := ?v72) rfl (by kernel_rfl) (by kernel_rfl) (by kernel_rfl) (fun _ _ _ h => h) (Or.inl ⟨by rfl, ?hy72⟩) (by assumption) ?rest72
            case hy72 => ((intro w hSw; (try dsimp only at hSw); go_simp) <;> with_reducible rfl)
            case' rest72 => try simp only [List.getElem_toArray, List.getElem_cons_zero, List.getElem_cons_succ, Act.put, List.setIfInBounds_toArray, List.set_cons_zero, List.set_cons_succ]
            refine wpAnyT_take (by kernel_rfl) (by kernel_rfl) (i := 3) (oi := _) (v := ?v73) rfl (by kernel_rfl) (by kernel_rfl) (by kernel_rfl) (fun _ _ _ h => h) (Or.inl ⟨by rfl, ?hy73⟩) (by assumption) ?rest73
            case hy73 => ((intro w hSw; (try dsimp only at hSw); go_simp) <;> with_reducible rfl)
            case' rest73 => try simp only [List.getElem_toArray, List.getElem_cons_zero, List.getElem_cons_succ, Act.put, List.setIfInBounds_toArray, List.set_cons_zero, List.set_cons_succ]
            refine wpAnyT_take (by kernel_rfl) (by kernel_rfl) (i := 4) (oi := _) (v := ?v74) rfl (by kernel_rfl) (by kernel_rfl) (by kernel_rfl) (fun _ _ _ h => h) (Or.inl ⟨by rfl, ?hy74⟩) (by assumption) ?rest74
            case hy74 => ((intro w hSw; (try dsimp only at hSw); go_simp) <;> with_reducible rfl)
            case' rest74 => try simp only [List.getElem_toArray, List.getElem_cons_zero, List.getElem_cons_succ, Act.put, List.setIfInBounds_toArray, List.set_cons_zero, List.set_cons_succ]
            refine wpAnyT_take (by kernel_rfl) (by kernel_rfl) (i := 5) (oi := _) (v := ?v75) rfl (by kernel_rfl) (by kernel_rfl) (by kernel_rfl) (fun _ _ _ h => h) (Or.inl ⟨by rfl, ?hy75⟩) (by assumption) ?rest75
            case hy75 => ((intro w hSw; (try dsimp only at hSw); go_simp) <;> with_reducible rfl)
            case' rest75 => try simp only [List.getElem_toArray, List.getElem_cons_zero, List.getElem_cons_succ, Act.put, List.setIfInBounds_toArray, List.set_cons_zero, List.set_cons_succ]
            refine wpAnyT_take (by kernel_rfl) (by kernel_rfl) (i := 6) (oi := _) (v := ?v76) rfl (by kernel_rfl) (by kernel_rfl) (by kernel_rfl) (fun _ _ _ h => h) (Or.inl ⟨by rfl, ?hy76⟩) (by assumption) ?rest76
            case hy76 => ((intro w hSw; (try dsimp only at hSw); go_simp) <;> with_reducible rfl)
            case' rest76 => try simp only [List.getElem_toArray, List.getElem_cons_zero, List.getElem_cons_succ, Act.put, List.setIfInBounds_toArray, List.set_cons_zero, List.set_cons_succ]
            refine wpAnyT_take (by kernel_rfl) (by kernel_rfl) (i := 7) (oi := _) (v := ?v77) rfl (by kernel_rfl) (by kernel_rfl) (by kernel_rfl) (fun _ _ _ h => h) (Or.inl ⟨by rfl, ?hy77⟩) (by assumption) ?rest77
            case hy77 => ((intro w hSw; (try dsimp only at hSw); go_simp) <;> with_reducible rfl)
            case' rest77 => try simp only [List.getElem_toArray, List.getElem_cons_zero, List.getElem_cons_succ, Act.put, List.setIfInBounds_toArray, List.set_cons_zero, List.set_cons_succ]
            refine wpAnyT_take (by kernel_rfl) (by kernel_rfl) (i := 8) (oi := _) (v := ?v78) rfl (by kernel_rfl) (by kernel_rfl) (by kernel_rfl) (fun _ _ _ h => h) (Or.inl ⟨by rfl, ?hy78⟩) (by assumption) ?rest78
            case hy78 => ((intro w hSw; (try dsimp only at hSw); go_simp) <;> with_reducible rfl)
            case' rest78 => try simp only [List.getElem_toArray, List.getElem_cons_zero, List.getElem_cons_succ, Act.put, List.setIfInBounds_toArray, List.set_cons_zero, List.set_cons_succ]
            refine wpAnyT_one (i := 9) (o := _) rfl (by kernel_rfl) (fun K hK => ?_)
            rw [if_pos (show Region.wanted _ _ = true by kernel_rfl)]
            refine wp_app_b _ _ rfl W9.heap.size none 0 0 [] rfl (OwnB.nil _ _) A k c1 l rfl HLK.out HSL.out (by omega) (Nat.le_refl _) k (by omega) ?_
            intro A5 c5 w3 hO3 hb3
            rw [List.nil_append] at hO3
            replace hb3 := below_undrew hb3
            have HX5 := hide (HX9.out.step hb3)
            have HO3 := hide (hO3.mono (B' := w.heap.size + 2) zz9)
            have HF3 : Hid (FIn (fun q => W9.heap.size ≤ q) A5) := hide (hO3.own.fin.mono (fun q h => h.1))
            have hk3 := HX5.out.1.out
            have HS3 : Hid (BV_ w3 (fun q => ((G q ∨ w.heap.size ≤ q) ∧ ¬ W9.heap.size ≤ q) ∧ q ≠ w.heap.size + 1) p pd ⟨mo, sz, nx, ha, ta, ro, 3, ix, sub, b, true⟩) := hide ⟨A, n1, c1, HX5.out.1.2.1, fun _ => ⟨HN1.out, hc1, HX5.out.2.1, HAN.out, fun ad e => ⟨⟨⟨(HX9.out.2.2 ad e).1, by have := (HX9.out.2.2 ad e).2.1; omega⟩, (HX9.out.2.2 ad e).2.2.2⟩, (HX5.out.2.2 ad e).2.1, (HX9.out.2.2 ad e).2.2.1⟩⟩⟩
            have g2 := (hb3.cell (p := ⟨p, 8, none⟩) zp9).trans d2
            have g3 := (hb3.cell (p := ⟨p, 9, none⟩) zp9).trans d3
            clear hO3 hb3
            refine hK.out _ _ ?hS80 (fun hHeld => ?rest80)
            case hS80 => ((try dsimp only); (exact ⟨g2, g3⟩))
            case' rest80 => (clear hK K; try simp only [List.getElem_toArray, List.getElem_cons_zero, List.getElem_cons_succ, Act.put, List.setIfInBounds_toArray, List.set_cons_zero, List.set_cons_succ])
            unfold outV outZ at hk3
            have hk3_c0 := hk3.cell 0 rfl
            have hk3_f0 := hk3.frozen 0
            have hk3_c1 := hk3.cell 1 rfl
            have hk3_f1 := hk3.frozen 1
            have hk3_c2 := hk3.cell 2 rfl
            have hk3_f2 := hk3.frozen 2
            have hk3_c3 := hk3.cell 3 rfl
            have hk3_f3 := hk3.frozen 3
            have hk3_c4 := hk3.cell 4 rfl
            have hk3_f4 := hk3.frozen 4
            refine wpAnyT_take (by kernel_rfl) (by kernel_rfl) (i := 10) (oi := _) (v := ?v81) rfl (by kernel_rfl) (by kernel_rfl) (by kernel_rfl) (fun _ _ _ h => h) (Or.inl ⟨by rfl, ?hy81⟩) (by assumption) ?rest81
            case hy81 => ((intro w hSw; (try dsimp only at hSw); go_simp) <;> with_reducible rfl)
            case' rest81 => try simp only [List.getElem_toArray, List.getElem_cons_zero, List.getElem_cons_succ, Act.put, List.setIfInBounds_toArray, List.set_cons_zero, List.set_cons_succ]
            refine wpAnyT_take (by kernel_rfl) (by kernel_rfl) (i := 11) (oi := _) (v := ?v82) rfl (by kernel_rfl) (by kernel_rfl) (by kernel_rfl) (fun _ _ _ h => h) (Or.inl ⟨by rfl, ?hy82⟩) (by assumption) ?rest82
            case hy82 => ((intro w hSw; (try dsimp only at hSw); go_simp) <;> with_reducible rfl)
            case' rest82 => try simp only [List.getElem_toArray, List.getElem_cons_zero, List.getElem_cons_succ, Act.put, List.setIfInBounds_toArray, List.set_cons_zero, List.set_cons_succ]
            refine wpAnyT_late (i := 12) (o := _) rfl (by kernel_rfl) (by kernel_rfl) (fun K hK => ?_)
            go_simp
            refine hK.out _ _ ?rest84
            case' rest84 => (clear hK K; try simp only [List.getElem_toArray, List.getElem_cons_zero, List.getElem_cons_succ, Act.put, List.setIfInBounds_toArray, List.set_cons_zero, List.set_cons_succ])
            refine wpAnyT_done (by kernel_rfl) ?_ _
            repeat (clear hHeld)
            go_wp2_with fail
            obtain ⟨F1, F2⟩ := bfin_write (fun q => W9.heap.size ≤ q) HX5.out.1.out (ix := ix) (sub := sub) HO3.out HF3.out HS3.out HX5.out.1.1 hz
            rw [← HR.out] at F2
            clear HR
            unfold putO at F1 F2
            dsimp only at F1 F2
            refine ret_out (O := ⟨[], true, ix, sub, l⟩) rfl rfl rfl F1 ?_
            exact F2
        · have hsk1 : (sz != (k : Int)) = true := by simp [hsk]
          have HR : Hid (P = BOutR w G p pd (blkIdle ⟨mo, sz, nx, ha, ta, ro, 2, ix, sub, b, true⟩) (outM (abM ix sub 101122064))) := hide (by
            have hpc : becode ⟨mo, sz, nx, ha, ta, ro, 2, ix, sub, b, true⟩ M = 101122064 := by unfold becode; rw [← HL.out, if_neg HSU.out, if_pos ⟨hszz, by rw [← HLK.out]; exact hsk⟩]
            rw [HP.out]
            congr 1
            · unfold bendS; rw [if_pos (by rw [hpc]; decide)]; rfl
            · unfold bendO bAbortL; rw [hpc, if_pos (by decide), if_neg (show ¬ (2 : Int) = 0 by decide)]; rfl)
          go_wp2_with fail
          refine (blk_abort p pd ⟨mo, sz, nx, ha, ta, ro, 2, ix, sub, b, true⟩ 101122064 A n1 c1 _ HXW.out.1.2.1 (show (2 : Int) ≠ 0 by decide)).mono ?_
          rintro e w5 ⟨g, hg, rfl, hBg, hBp, ho⟩
          have hgz : w.heap.size + 2 ≤ g := Nat.le_trans HXW.out.1.2.2.2 hg
          have k2 := blk_only HXW.out.1.out ho (fun e => hne1 e.symm)
          have HK2 := hide k2
          have HBG := hide hBg
          have HS5 : Hid (BV_ w5 (fun q => ((G q ∨ w.heap.size ≤ q) ∧ ¬ False) ∧ q ≠ w.heap.size + 1) p pd (blkIdle ⟨mo, sz, nx, ha, ta, ro, 2, ix, sub, b, true⟩)) := hide (bv_idle hBp)
          have HO5 := hide (HXW.out.1.1.trans ho (fun _ _ h => h))
          unfold outV outZ at k2
          unfold outV outZ
          dsimp only
          have k2_c0 := k2.cell 0 rfl
          have k2_f0 := k2.frozen 0
          have k2_c1 := k2.cell 1 rfl
          have k2_f1 := k2.frozen 1
          have k2_c2 := k2.cell 2 rfl
          have k2_f2 := k2.frozen 2
          have k2_c3 := k2.cell 3 rfl
          have k2_f3 := k2.frozen 3
          have k2_c4 := k2.cell 4 rfl
          have k2_f4 := k2.frozen 4
          clear hBg hBp ho
          go_wp2_with fail
          obtain ⟨F1, F2⟩ := bfin_send (fun _ => False) HK2.out hgz (M := abM ix sub 101122064) HBG.out (OwnB.nil _ _) (FIn.nil _) HS5.out HO5.out hz
          rw [← HR.out] at F2
          clear HR
          unfold putO outZ at F1 F2
          dsimp only at F1 F2
          refine ret_out (O := ⟨[], false, 0, 0, []⟩) rfl rfl rfl F1 ?_
          exact F2
    · rw [decide_eq_false hsu]
      have HR : Hid (P = BOutR w G p pd (blkIdle ⟨mo, sz, nx, ha, ta, ro, 2, ix, sub, b, true⟩) (outM (abM ix sub 84148228))) := hide (by
        have hpc : becode ⟨mo, sz, nx, ha, ta, ro, 2, ix, sub, b, true⟩ M = 84148228 := by unfold becode; rw [← HL.out, if_pos ⟨rfl, hsu⟩]
        rw [HP.out]
        congr 1
        · unfold bendS; rw [if_pos (by rw [hpc]; decide)]; rfl
        · unfold bendO bAbortL; rw [hpc, if_pos (by decide), if_neg (show ¬ (2 : Int) = 0 by decide)]; rfl)
      go_wp2_with fail
      refine (blk_abort p pd ⟨mo, sz, nx, ha, ta, ro, 2, ix, sub, b, true⟩ 84148228 A n1 c1 _ HXW.out.1.2.1 (show (2 : Int) ≠ 0 by decide)).mono ?_
      rintro e w5 ⟨g, hg, rfl, hBg, hBp, ho⟩
      have hgz : w.heap.size + 2 ≤ g := Nat.le_trans HXW.out.1.2.2.2 hg
      have k2 := blk_only HXW.out.1.out ho (fun e => hne1 e.symm)
      have HK2 := hide k2
      have HBG := hide hBg
      have HS5 : Hid (BV_ w5 (fun q => ((G q ∨ w.heap.size ≤ q) ∧ ¬ False) ∧ q ≠ w.heap.size + 1) p pd (blkIdle ⟨mo, sz, nx, ha, ta, ro, 2, ix, sub, b, true⟩)) := hide (bv_idle hBp)
      have HO5 := hide (HXW.out.1.1.trans ho (fun _ _ h => h))
      unfold outV outZ at k2
      unfold outV outZ
      dsimp only
      have k2_c0 := k2.cell 0 rfl
      have k2_f0 := k2.frozen 0
      have k2_c1 := k2.cell 1 rfl
      have k2_f1 := k2.frozen 1
      have k2_c2 := k2.cell 2 rfl
      have k2_f2 := k2.frozen 2
      have k2_c3 := k2.cell 3 rfl
      have k2_f3 := k2.frozen 3
      have k2_c4 := k2.cell 4 rfl
      have k2_f4 := k2.frozen 4
      clear hBg hBp ho
      go_wp2_with fail
      obtain ⟨F1, F2⟩ := bfin_send (fun _ => False) HK2.out hgz (M := abM ix sub 84148228) HBG.out (OwnB.nil _ _) (FIn.nil _) HS5.out HO5.out hz
      rw [← HR.out] at F2
      clear HR
      unfold putO outZ at F1 F2
      dsimp only at F1 F2
      refine ret_out (O := ⟨[], false, 0, 0, []⟩) rfl rfl rfl F1 ?_
      exact F2
end Go.Proofs.Ytimdmhhgomfijaa
