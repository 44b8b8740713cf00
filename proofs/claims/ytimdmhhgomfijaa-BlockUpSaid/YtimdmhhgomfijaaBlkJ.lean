/- Package block: ack. -/
import Derived.Test.YtimdmhhgomfijaaBlkI
namespace Go.Proofs.Ytimdmhhgomfijaa
set_option linter.unusedVariables false
set_option linter.unusedSimpArgs false
set_option linter.unnecessarySimpa false
open Go.RowKit
set_option maxRecDepth 100000
set_option maxHeartbeats 4000000
theorem blk_ack_give (p pd : Nat) (mo sz nx ta ro ix sub : Int) (h : Nat) (b : List UInt8) (sm : Bool) (G : Nat → Prop) (M : Ms) (q : Nat) (A3 : Option Addr) (m3 c3 : Nat) (w : World) (hS : BV_ w G p pd ⟨mo, sz, nx, (h : Int), ta, ro, 5, ix, sub, b, sm⟩) (h256 : b.length ≤ 1000) (hq : M.sq = (q : Int)) (hqr : (q : Int) ≤ ro) (hbl : M.bl ≠ 0) (hh : h ≤ 1000) (hq2 : q ≤ 1000) (hb : 0 ≤ M.bl ∧ M.bl ≤ 1000) (h2 : Nat) (hh2 : h2 = h + q) (hlt2 : h2 < btotal b) :
    Calls Try.prog 48 #[.pointer (some ⟨p, 0, none⟩), .agg (msV M A3 m3 c3)] w (BOutF w G p pd (bgiveS ⟨mo, sz, nx, ((h2 : Nat) : Int), M.bl, ro, 5, ix, sub, b, sm⟩) (bgiveL ⟨mo, sz, nx, ((h2 : Nat) : Int), M.bl, ro, 5, ix, sub, b, sm⟩)) := by
  obtain ⟨A, n1, c1, hB, hby⟩ := id hS
  obtain ⟨hn1, hc1, hsl, hAn, hAG⟩ := hby (show (5 : Int) ≠ 0 by decide)
  obtain ⟨P, hP⟩ : ∃ P, P = BOutF w G p pd (bgiveS ⟨mo, sz, nx, ((h2 : Nat) : Int), M.bl, ro, 5, ix, sub, b, sm⟩) (bgiveL ⟨mo, sz, nx, ((h2 : Nat) : Int), M.bl, ro, 5, ix, sub, b, sm⟩) := ⟨_, rfl⟩
  rw [← hP]
  have HP := hide hP
  have hz := hB.lt
  replace hn1 : n1 = b.length := hn1
  have HN1 := hide hn1
  have HAN := hide hAn
  have hne1 : p ≠ w.heap.size + 1 := by omega
  have hne0 : w.heap.size ≠ p := by omega
  have hbn : n1 ≤ 1000 := by omega
  have HAG := hide hAG
  obtain ⟨tot, ht⟩ : ∃ tot, tot = btotal b := ⟨_, rfl⟩
  have HT := hide ht
  have ht40 : tot ≤ 1000 := by rw [ht]; unfold btotal; omega
  have htl : n1 ≤ 7 * tot ∧ 7 * tot ≤ n1 + 7 := by rw [ht, hn1]; unfold btotal; omega
  obtain ⟨htl1, htl2⟩ := htl
  rw [← ht] at hlt2
  have HQ := hide hq
  have HH2 := hide hh2
  have hsum : (h : Int) + (q : Int) = ((h2 : Nat) : Int) := by omega
  have HBL := hide hbl
  have hblb : (M.bl == 0) = false := by simp [hbl]
  obtain ⟨hb0, hb1⟩ := hb
  have HX : Hid (BXS w G p pd (KMO w M A3 m3 c3) ⟨mo, sz, nx, (h : Int), ta, ro, 5, ix, sub, b, sm⟩ A n1 c1 b _) := hide ⟨bx_mk M A3 m3 c3 hB, (hsl.alloc _).alloc _, fun ad e => ⟨.inl (hAG ad e).1, by have := (hAG ad e).2.1; simp; omega, (hAG ad e).2.2, by have := (hAG ad e).2.1; omega⟩⟩
  have HB0 := hide (below_alloc (below_alloc (Below.refl w.heap.size w) (.cells (msV M A3 m3 c3) 39)) (.cells (outV none 0 0 outZ none 0 0) 44))
  clear hP hS hB hby hn1 hsl hAn hAG ht hq hh2 hbl
  unfold msV outV outZ at HX
  unfold msV
  go_enter Try.func48, Try.ntmps48
  go_upto_region 1 with fail
  refine wp_gen (P := BXS w G p pd (KMO w M A3 m3 c3) ⟨mo, sz, nx, (h : Int), ta, ro, 5, ix, sub, b, sm⟩ A n1 c1 b) HX.out (fun W hW => ?_)
  clear HX
  have HX1 := hide hW.drew
  have zW := hW.1.2.1.lt
  have zk1 := hW.1.msg.lt
  have zo1 := hW.1.out.lt
  have b5 : W.cell? ⟨p, 5, none⟩ = some (.int .i64 ro) := hW.1.2.1.cell 5 rfl
  have b10 : W.cell? ⟨w.heap.size, 10, none⟩ = some (.int .i64 (q : Int)) := by rw [← HQ.out]; exact hW.1.msg.cell 10 rfl
  clear hW
  refine wp_region_held_drew (S := (fun w' => (∀ qA : Addr, qA.block < (W).heap.size → w'.cell? qA = (W).cell? qA) ∧ Below (W).heap.size (W) w')) (by kernel_rfl) ?hS1 (fun hHeld => ?rest1)
  case hS1 => ((try dsimp only); (((try go_split_ands); refine sn_of ?_; repeat' (first | with_reducible assumption | with_reducible exact Below.refl _ _ | with_reducible apply below_alloc | with_reducible apply below_drew1 | with_reducible apply below_drewN | (with_reducible apply below_step; with_reducible assumption) | (with_reducible apply below_sg2; (first | exact Nat.le_refl _ | (simp; done) | omega))))))
  case' rest1 => skip
  refine wpAnyH_take (i := 0) (oi := _) (v := ?v2) rfl (by kernel_rfl) (by kernel_rfl) (by kernel_rfl) (fun _ _ _ h => h) (Or.inl ⟨by rfl, ?hy2⟩) (by assumption) ?rest2
  case hy2 => ((intro w hSw; (try dsimp only at hSw); go_simp) <;> with_reducible rfl)
  case' rest2 => try simp only [List.getElem_toArray, List.getElem_cons_zero, List.getElem_cons_succ, Act.put, List.setIfInBounds_toArray, List.set_cons_zero, List.set_cons_succ]
  refine wpAnyH_take (i := 1) (oi := _) (v := ?v3) rfl (by kernel_rfl) (by kernel_rfl) (by kernel_rfl) (fun _ _ _ h => h) (Or.inl ⟨by rfl, ?hy3⟩) (by assumption) ?rest3
  case hy3 => ((intro w hSw; (try dsimp only at hSw); go_simp) <;> with_reducible rfl)
  case' rest3 => try simp only [List.getElem_toArray, List.getElem_cons_zero, List.getElem_cons_succ, Act.put, List.setIfInBounds_toArray, List.set_cons_zero, List.set_cons_succ]
  refine wpAnyH_take (i := 2) (oi := _) (v := ?v4) rfl (by kernel_rfl) (by kernel_rfl) (by kernel_rfl) (fun _ _ _ h => h) (Or.inl ⟨by rfl, ?hy4⟩) (by assumption) ?rest4
  case hy4 => ((intro w hSw; (try dsimp only at hSw); go_simp) <;> with_reducible rfl)
  case' rest4 => try simp only [List.getElem_toArray, List.getElem_cons_zero, List.getElem_cons_succ, Act.put, List.setIfInBounds_toArray, List.set_cons_zero, List.set_cons_succ]
  refine wpAnyH_take (i := 3) (oi := _) (v := ?v5) rfl (by kernel_rfl) (by kernel_rfl) (by kernel_rfl) (fun _ _ _ h => h) (Or.inl ⟨by rfl, ?hy5⟩) (by assumption) ?rest5
  case hy5 => ((intro w hSw; (try dsimp only at hSw); go_simp) <;> with_reducible rfl)
  case' rest5 => try simp only [List.getElem_toArray, List.getElem_cons_zero, List.getElem_cons_succ, Act.put, List.setIfInBounds_toArray, List.set_cons_zero, List.set_cons_succ]
  refine wpAnyH_take (i := 4) (oi := _) (v := ?v6) rfl (by kernel_rfl) (by kernel_rfl) (by kernel_rfl) (fun _ _ _ h => h) (Or.inl ⟨by rfl, ?hy6⟩) (by assumption) ?rest6
  case hy6 => ((intro w hSw; (try dsimp only at hSw); go_simp) <;> with_reducible rfl)
  case' rest6 => try simp only [List.getElem_toArray, List.getElem_cons_zero, List.getElem_cons_succ, Act.put, List.setIfInBounds_toArray, List.set_cons_zero, List.set_cons_succ]
  refine wpAnyH_take (i := 5) (oi := _) (v := ?v7) rfl (by kernel_rfl) (by kernel_rfl) (by kernel_rfl) (fun _ _ _ h => h) (Or.inl ⟨by rfl, ?hy7⟩) (by assumption) ?rest7
  case hy7 => ((intro w hSw; (try dsimp only at hSw); go_simp) <;> with_reducible rfl)
  case' rest7 => try simp only [List.getElem_toArray, List.getElem_cons_zero, List.getElem_cons_succ, Act.put, List.setIfInBounds_toArray, List.set_cons_zero, List.set_cons_succ]
  refine wpAnyH_take (i := 6) (oi := _) (v := ?v8) rfl (by kernel_rfl) (by kernel_rfl) (by kernel_rfl) (fun _ _ _ h => h) (Or.inl ⟨by rfl, ?hy8⟩) (by assumption) ?rest8
  case hy8 => ((intro w hSw; (try dsimp only at hSw); go_simp) <;> with_reducible rfl)
  case' rest8 => try simp only [List.getElem_toArray, List.getElem_cons_zero, List.getElem_cons_succ, Act.put, List.setIfInBounds_toArray, List.set_cons_zero, List.set_cons_succ]
  refine wpAnyH_take (i := 7) (oi := _) (v := ?v9) rfl (by kernel_rfl) (by kernel_rfl) (by kernel_rfl) (fun _ _ _ h => h) (Or.inl ⟨by rfl, ?hy9⟩) (by assumption) ?rest9
  case hy9 => ((intro w hSw; (try dsimp only at hSw); go_simp) <;> with_reducible rfl)
  case' rest9 => try simp only [List.getElem_toArray, List.getElem_cons_zero, List.getElem_cons_succ, Act.put, List.setIfInBounds_toArray, List.set_cons_zero, List.set_cons_succ]
  refine wpAnyH_take (i := 8) (oi := _) (v := ?v10) rfl (by kernel_rfl) (by kernel_rfl) (by kernel_rfl) (fun _ _ _ h => h) (Or.inl ⟨by rfl, ?hy10⟩) (by assumption) ?rest10
  case hy10 => ((intro w hSw; (try dsimp only at hSw); go_simp) <;> with_reducible rfl)
  case' rest10 => try simp only [List.getElem_toArray, List.getElem_cons_zero, List.getElem_cons_succ, Act.put, List.setIfInBounds_toArray, List.set_cons_zero, List.set_cons_succ]
  refine wpAnyH_done (by kernel_rfl) ?_ _
  have hEnd := hHeld.2
  repeat (clear hHeld)
  clear hEnd b5 b10 zW zk1 zo1
  go_upto_region 3 with fail
  refine wp_gen (P := BXS w G p pd (KMO w M A3 m3 c3) ⟨mo, sz, nx, (h : Int), ta, ro, 5, ix, sub, b, sm⟩ A n1 c1 b) HX1.out (fun W1 hW1 => ?_)
  clear HX1
  have HX1 := hide hW1
  have k1 := hW1.1.msg
  have bb := hW1.1.2.1
  have zW := bb.lt
  have zk1 := k1.lt
  have zo1 := hW1.1.out.lt
  have g10 : W1.cell? ⟨w.heap.size, 10, none⟩ = some (.int .i64 (q : Int)) := by rw [← HQ.out]; exact k1.cell 10 rfl
  have g3 : W1.cell? ⟨p, 3, none⟩ = some (.int .i64 (h : Int)) := bb.cell 3 rfl
  have hw2 : IntKind.i64.wrap ((h2 : Nat) : Int) = ((h2 : Nat) : Int) := by unfold IntKind.wrap; simp [IntKind.signed, IntKind.bits]; omega
  have HX2 := hide (hW1.sets (S' := ⟨mo, sz, nx, ((h2 : Nat) : Int), ta, ro, 5, ix, sub, b, sm⟩) [.int .i64 ((h2 : Nat) : Int)] 3 (by simp) rfl).drew
  simp only [World.setCells] at HX2
  unfold msV at k1
  unfold bsrV at bb
  dsimp only at bb
  have k1_c0 := k1.cell 0 rfl
  have k1_f0 := k1.frozen 0
  have k1_c1 := k1.cell 1 rfl
  have k1_f1 := k1.frozen 1
  have k1_c2 := k1.cell 2 rfl
  have k1_f2 := k1.frozen 2
  have k1_c3 := k1.cell 3 rfl
  have k1_f3 := k1.frozen 3
  have k1_c4 := k1.cell 4 rfl
  have k1_f4 := k1.frozen 4
  have k1_c5 := k1.cell 5 rfl
  have k1_f5 := k1.frozen 5
  have k1_c6 := k1.cell 6 rfl
  have k1_f6 := k1.frozen 6
  have k1_c7 := k1.cell 7 rfl
  have k1_f7 := k1.frozen 7
  have k1_c8 := k1.cell 8 rfl
  have k1_f8 := k1.frozen 8
  have k1_c9 := k1.cell 9 rfl
  have k1_f9 := k1.frozen 9
  have k1_c10 := k1.cell 10 rfl
  have k1_f10 := k1.frozen 10
  have k1_c11 := k1.cell 11 rfl
  have k1_f11 := k1.frozen 11
  have k1_c12 := k1.cell 12 rfl
  have k1_f12 := k1.frozen 12
  have k1_c13 := k1.cell 13 rfl
  have k1_f13 := k1.frozen 13
  have bb_c0 := bb.cell 0 rfl
  have bb_f0 := bb.frozen 0
  have bb_c1 := bb.cell 1 rfl
  have bb_f1 := bb.frozen 1
  have bb_c2 := bb.cell 2 rfl
  have bb_f2 := bb.frozen 2
  have bb_c3 := bb.cell 3 rfl
  have bb_f3 := bb.frozen 3
  have bb_c4 := bb.cell 4 rfl
  have bb_f4 := bb.frozen 4
  have bb_c5 := bb.cell 5 rfl
  have bb_f5 := bb.frozen 5
  have bb_c6 := bb.cell 6 rfl
  have bb_f6 := bb.frozen 6
  have bb_c7 := bb.cell 7 rfl
  have bb_f7 := bb.frozen 7
  have bb_c8 := bb.cell 8 rfl
  have bb_f8 := bb.frozen 8
  have bb_c9 := bb.cell 9 rfl
  have bb_f9 := bb.frozen 9
  have bb_c10 := bb.cell 10 rfl
  have bb_f10 := bb.frozen 10
  have bb_c11 := bb.cell 11 rfl
  have bb_f11 := bb.frozen 11
  clear hW1
  go_upto_region 5 with fail
  refine wp_region_T (fun w' => w'.cell? ⟨p, 3, none⟩ = some (.int .i64 (h : Int)) ∧ w'.cell? ⟨w.heap.size, 10, none⟩ = some (.int .i64 (q : Int))) [0, 1, 2, 3, 4, 5, 6, 7, 8, 9, 10] (by kernel_rfl) ?hS12 (fun hHeld => ?rest12)
  case hS12 => ((try dsimp only); exact ⟨g3, g10⟩)
  case' rest12 => skip
  refine wpAnyT_take (by kernel_rfl) (by kernel_rfl) (i := 0) (oi := _) (v := ?v13) rfl (by kernel_rfl) (by kernel_rfl) (by kernel_rfl) (fun _ _ _ h => h) (Or.inl ⟨by rfl, ?hy13⟩) (by assumption) ?rest13
  case hy13 => ((intro w hSw; (try dsimp only at hSw); go_simp) <;> with_reducible rfl)
  case' rest13 => try simp only [List.getElem_toArray, List.getElem_cons_zero, List.getElem_cons_succ, Act.put, List.setIfInBounds_toArray, List.set_cons_zero, List.set_cons_succ]
  refine wpAnyT_take (by kernel_rfl) (by kernel_rfl) (i := 1) (oi := _) (v := ?v14) rfl (by kernel_rfl) (by kernel_rfl) (by kernel_rfl) (fun _ _ _ h => h) (Or.inl ⟨by rfl, ?hy14⟩) (by assumption) ?rest14
  case hy14 => ((intro w hSw; (try dsimp only at hSw); go_simp) <;> with_reducible rfl)
  case' rest14 => try simp only [List.getElem_toArray, List.getElem_cons_zero, List.getElem_cons_succ, Act.put, List.setIfInBounds_toArray, List.set_cons_zero, List.set_cons_succ]
  refine wpAnyT_take (by kernel_rfl) (by kernel_rfl) (i := 2) (oi := _) (v := ?v15) rfl (by kernel_rfl) (by kernel_rfl) (by kernel_rfl) (fun _ _ _ h => h) (Or.inl ⟨by rfl, ?hy15⟩) (by assumption) ?rest15
  case hy15 => ((intro w hSw; (try dsimp only at hSw); go_simp) <;> with_reducible rfl)
  case' rest15 => try simp only [List.getElem_toArray, List.getElem_cons_zero, List.getElem_cons_succ, Act.put, List.setIfInBounds_toArray, List.set_cons_zero, List.set_cons_succ]
  refine wpAnyT_take (by kernel_rfl) (by kernel_rfl) (i := 3) (oi := _) (v := ?v16) rfl (by kernel_rfl) (by kernel_rfl) (by kernel_rfl) (fun _ _ _ h => h) (Or.inl ⟨by rfl, ?hy16⟩) (by assumption) ?rest16
  case hy16 => ((intro w hSw; (try dsimp only at hSw); go_simp) <;> with_reducible rfl)
  case' rest16 => try simp only [List.getElem_toArray, List.getElem_cons_zero, List.getElem_cons_succ, Act.put, List.setIfInBounds_toArray, List.set_cons_zero, List.set_cons_succ]
  refine wpAnyT_take (by kernel_rfl) (by kernel_rfl) (i := 4) (oi := _) (v := ?v17) rfl (by kernel_rfl) (by kernel_rfl) (by kernel_rfl) (fun _ _ _ h => h) (Or.inl ⟨by rfl, ?hy17⟩) (by assumption) ?rest17
  case hy17 => ((intro w hSw; (try dsimp only at hSw); go_simp) <;> with_reducible rfl)
  case' rest17 => try simp only [List.getElem_toArray, List.getElem_cons_zero, List.getElem_cons_succ, Act.put, List.setIfInBounds_toArray, List.set_cons_zero, List.set_cons_succ]
  refine wpAnyT_take (by kernel_rfl) (by kernel_rfl) (i := 5) (oi := _) (v := ?v18) rfl (by kernel_rfl) (by kernel_rfl) (by kernel_rfl) (fun _ _ _ h => h) (Or.inl ⟨by rfl, ?hy18⟩) (by assumption) ?rest18
  case hy18 => ((intro w hSw; (try dsimp only at hSw); go_simp) <;> with_reducible rfl)
  case' rest18 => try simp only [List.getElem_toArray, List.getElem_cons_zero, List.getElem_cons_succ, Act.put, List.setIfInBounds_toArray, List.set_cons_zero, List.set_cons_succ]
  refine wpAnyT_take (by kernel_rfl) (by kernel_rfl) (i := 6) (oi := _) (v := ?v19) rfl (by kernel_rfl) (by kernel_rfl) (by kernel_rfl) (fun _ _ _ h => h) (Or.inl ⟨by rfl, ?hy19⟩) (by assumption) ?rest19
  case hy19 => ((intro w hSw; (try dsimp only at hSw); go_simp) <;> with_reducible rfl)
  case' rest19 => try simp only [List.getElem_toArray, List.getElem_cons_zero, List.getElem_cons_succ, Act.put, List.setIfInBounds_toArray, List.set_cons_zero, List.set_cons_succ]
  refine wpAnyT_take (by kernel_rfl) (by kernel_rfl) (i := 7) (oi := _) (v := ?v20) rfl (by kernel_rfl) (by kernel_rfl) (by kernel_rfl) (fun _ _ _ h => h) (Or.inl ⟨by rfl, ?hy20⟩) (by assumption) ?rest20
  case hy20 => ((intro w hSw; (try dsimp only at hSw); go_simp) <;> with_reducible rfl)
  case' rest20 => try simp only [List.getElem_toArray, List.getElem_cons_zero, List.getElem_cons_succ, Act.put, List.setIfInBounds_toArray, List.set_cons_zero, List.set_cons_succ]
  refine wpAnyT_take (by kernel_rfl) (by kernel_rfl) (i := 8) (oi := _) (v := ?v21) rfl (by kernel_rfl) (by kernel_rfl) (by kernel_rfl) (fun _ _ _ h => h) (Or.inl ⟨by rfl, ?hy21⟩) (by assumption) ?rest21
  case hy21 => ((intro w hSw; (try dsimp only at hSw); go_simp) <;> with_reducible rfl)
  case' rest21 => try simp only [List.getElem_toArray, List.getElem_cons_zero, List.getElem_cons_succ, Act.put, List.setIfInBounds_toArray, List.set_cons_zero, List.set_cons_succ]
  refine wpAnyT_take (by kernel_rfl) (by kernel_rfl) (i := 9) (oi := _) (v := ?v22) rfl (by kernel_rfl) (by kernel_rfl) (by kernel_rfl) (fun _ _ _ h => h) (Or.inl ⟨by rfl, ?hy22⟩) (by assumption) ?rest22
  case hy22 => ((intro w hSw; (try dsimp only at hSw); go_simp) <;> with_reducible rfl)
  case' rest22 => try simp only [List.getElem_toArray, List.getElem_cons_zero, List.getElem_cons_succ, Act.put, List.setIfInBounds_toArray, List.set_cons_zero, List.set_cons_succ]
  refine wpAnyT_take (by kernel_rfl) (by kernel_rfl) (i := 10) (oi := _) (v := ?v23) rfl (by kernel_rfl) (by kernel_rfl) (by kernel_rfl) (fun _ _ _ h => h) (Or.inl ⟨by rfl, ?hy23⟩) (by assumption) ?rest23
  case hy23 => ((intro w hSw; (try dsimp only at hSw); go_simp) <;> with_reducible rfl)
  case' rest23 => try simp only [List.getElem_toArray, List.getElem_cons_zero, List.getElem_cons_succ, Act.put, List.setIfInBounds_toArray, List.set_cons_zero, List.set_cons_succ]
  refine wpAnyT_late (i := 11) (o := _) rfl (by kernel_rfl) (by kernel_rfl) (fun K hK => ?_)
  go_simp
  refine hK.out _ _ ?rest25
  case' rest25 => (clear hK K; try simp only [List.getElem_toArray, List.getElem_cons_zero, List.getElem_cons_succ, Act.put, List.setIfInBounds_toArray, List.set_cons_zero, List.set_cons_succ])
  refine wpAnyT_done (by kernel_rfl) ?_ _
  repeat (clear hHeld)
  clear g3 g10
  go_upto_region 6 with fail
  refine wp_gen (P := BXS w G p pd (KMO w M A3 m3 c3) ⟨mo, sz, nx, ((h2 : Nat) : Int), ta, ro, 5, ix, sub, b, sm⟩ A n1 c1 b) HX2.out (fun W2 hW2 => ?_)
  clear k1_c0 k1_f0 k1_c1 k1_f1 k1_c2 k1_f2 k1_c3 k1_f3 k1_c4 k1_f4 k1_c5 k1_f5 k1_c6 k1_f6 k1_c7 k1_f7 k1_c8 k1_f8 k1_c9 k1_f9 k1_c10 k1_f10 k1_c11 k1_f11 k1_c12 k1_f12 k1_c13 k1_f13
  clear bb_c0 bb_f0 bb_c1 bb_f1 bb_c2 bb_f2 bb_c3 bb_f3 bb_c4 bb_f4 bb_c5 bb_f5 bb_c6 bb_f6 bb_c7 bb_f7 bb_c8 bb_f8 bb_c9 bb_f9 bb_c10 bb_f10 bb_c11 bb_f11
  clear HX1 HX2 k1 bb zW zk1 zo1 hw2
  have k1 := hW2.1.msg
  have bb := hW2.1.2.1
  have zW := bb.lt
  have zk1 := k1.lt
  have HX3 := hide (hW2.sets (S' := ⟨mo, sz, nx, ((h2 : Nat) : Int), M.bl, ro, 5, ix, sub, b, sm⟩) [.int .i64 M.bl] 4 (by simp) rfl)
  simp only [World.setCells] at HX3
  unfold msV at k1
  unfold bsrV at bb
  dsimp only at bb
  have k1_c0 := k1.cell 0 rfl
  have k1_f0 := k1.frozen 0
  have k1_c1 := k1.cell 1 rfl
  have k1_f1 := k1.frozen 1
  have k1_c2 := k1.cell 2 rfl
  have k1_f2 := k1.frozen 2
  have k1_c3 := k1.cell 3 rfl
  have k1_f3 := k1.frozen 3
  have k1_c4 := k1.cell 4 rfl
  have k1_f4 := k1.frozen 4
  have k1_c5 := k1.cell 5 rfl
  have k1_f5 := k1.frozen 5
  have k1_c6 := k1.cell 6 rfl
  have k1_f6 := k1.frozen 6
  have k1_c7 := k1.cell 7 rfl
  have k1_f7 := k1.frozen 7
  have k1_c8 := k1.cell 8 rfl
  have k1_f8 := k1.frozen 8
  have k1_c9 := k1.cell 9 rfl
  have k1_f9 := k1.frozen 9
  have k1_c10 := k1.cell 10 rfl
  have k1_f10 := k1.frozen 10
  have k1_c11 := k1.cell 11 rfl
  have k1_f11 := k1.frozen 11
  have k1_c12 := k1.cell 12 rfl
  have k1_f12 := k1.frozen 12
  have k1_c13 := k1.cell 13 rfl
  have k1_f13 := k1.frozen 13
  have bb_c0 := bb.cell 0 rfl
  have bb_f0 := bb.frozen 0
  have bb_c1 := bb.cell 1 rfl
  have bb_f1 := bb.frozen 1
  have bb_c2 := bb.cell 2 rfl
  have bb_f2 := bb.frozen 2
  have bb_c3 := bb.cell 3 rfl
  have bb_f3 := bb.frozen 3
  have bb_c4 := bb.cell 4 rfl
  have bb_f4 := bb.frozen 4
  have bb_c5 := bb.cell 5 rfl
  have bb_f5 := bb.frozen 5
  have bb_c6 := bb.cell 6 rfl
  have bb_f6 := bb.frozen 6
  have bb_c7 := bb.cell 7 rfl
  have bb_f7 := bb.frozen 7
  have bb_c8 := bb.cell 8 rfl
  have bb_f8 := bb.frozen 8
  have bb_c9 := bb.cell 9 rfl
  have bb_f9 := bb.frozen 9
  have bb_c10 := bb.cell 10 rfl
  have bb_f10 := bb.frozen 10
  have bb_c11 := bb.cell 11 rfl
  have bb_f11 := bb.frozen 11
  clear hW2
  go_upto_region 7 with fail
  refine wp_gen (P := BXS w G p pd (KMO w M A3 m3 c3) ⟨mo, sz, nx, ((h2 : Nat) : Int), M.bl, ro, 5, ix, sub, b, sm⟩ A n1 c1 b) HX3.out (fun W3 hW3 => ?_)
  clear k1_c0 k1_f0 k1_c1 k1_f1 k1_c2 k1_f2 k1_c3 k1_f3 k1_c4 k1_f4 k1_c5 k1_f5 k1_c6 k1_f6 k1_c7 k1_f7 k1_c8 k1_f8 k1_c9 k1_f9 k1_c10 k1_f10 k1_c11 k1_f11 k1_c12 k1_f12 k1_c13 k1_f13
  clear bb_c0 bb_f0 bb_c1 bb_f1 bb_c2 bb_f2 bb_c3 bb_f3 bb_c4 bb_f4 bb_c5 bb_f5 bb_c6 bb_f6 bb_c7 bb_f7 bb_c8 bb_f8 bb_c9 bb_f9 bb_c10 bb_f10 bb_c11 bb_f11
  clear HX3 k1 bb zW zk1
  have HX3 := hide hW3
  have HX4 := hide hW3.drew
  have zW := hW3.1.2.1.lt
  have zk1 := hW3.1.msg.lt
  have zo1 := hW3.1.out.lt
  have b3 : W3.cell? ⟨p, 3, none⟩ = some (.int .i64 ((h2 : Nat) : Int)) := hW3.1.2.1.cell 3 rfl
  clear hW3
  refine wp_region_held_drew (S := (fun w' => (∀ qA : Addr, qA.block < (W3).heap.size → w'.cell? qA = (W3).cell? qA) ∧ Below (W3).heap.size (W3) w')) (by kernel_rfl) ?hS27 (fun hHeld => ?rest27)
  case hS27 => ((try dsimp only); (((try go_split_ands); refine sn_of ?_; repeat' (first | with_reducible assumption | with_reducible exact Below.refl _ _ | with_reducible apply below_alloc | with_reducible apply below_drew1 | with_reducible apply below_drewN | (with_reducible apply below_step; with_reducible assumption) | (with_reducible apply below_sg2; (first | exact Nat.le_refl _ | (simp; done) | omega))))))
  case' rest27 => skip
  refine wpAnyH_take (i := 0) (oi := _) (v := ?v28) rfl (by kernel_rfl) (by kernel_rfl) (by kernel_rfl) (fun _ _ _ h => h) (Or.inl ⟨by rfl, ?hy28⟩) (by assumption) ?rest28
  case hy28 => ((intro w hSw; (try dsimp only at hSw); go_simp) <;> with_reducible rfl)
  case' rest28 => try simp only [List.getElem_toArray, List.getElem_cons_zero, List.getElem_cons_succ, Act.put, List.setIfInBounds_toArray, List.set_cons_zero, List.set_cons_succ]
  refine wpAnyH_take (i := 1) (oi := _) (v := ?v29) rfl (by kernel_rfl) (by kernel_rfl) (by kernel_rfl) (fun _ _ _ h => h) (Or.inl ⟨by rfl, ?hy29⟩) (by assumption) ?rest29
  case hy29 => ((intro w hSw; (try dsimp only at hSw); go_simp) <;> with_reducible rfl)
  case' rest29 => try simp only [List.getElem_toArray, List.getElem_cons_zero, List.getElem_cons_succ, Act.put, List.setIfInBounds_toArray, List.set_cons_zero, List.set_cons_succ]
  refine wpAnyH_take (i := 2) (oi := _) (v := ?v30) rfl (by kernel_rfl) (by kernel_rfl) (by kernel_rfl) (fun _ _ _ h => h) (Or.inl ⟨by rfl, ?hy30⟩) (by assumption) ?rest30
  case hy30 => ((intro w hSw; (try dsimp only at hSw); go_simp) <;> with_reducible rfl)
  case' rest30 => try simp only [List.getElem_toArray, List.getElem_cons_zero, List.getElem_cons_succ, Act.put, List.setIfInBounds_toArray, List.set_cons_zero, List.set_cons_succ]
  refine wpAnyH_take (i := 3) (oi := _) (v := ?v31) rfl (by kernel_rfl) (by kernel_rfl) (by kernel_rfl) (fun _ _ _ h => h) (Or.inl ⟨by rfl, ?hy31⟩) (by assumption) ?rest31
  case hy31 => ((intro w hSw; (try dsimp only at hSw); go_simp) <;> with_reducible rfl)
  case' rest31 => try simp only [List.getElem_toArray, List.getElem_cons_zero, List.getElem_cons_succ, Act.put, List.setIfInBounds_toArray, List.set_cons_zero, List.set_cons_succ]
  refine wpAnyH_take (i := 4) (oi := _) (v := ?v32) rfl (by kernel_rfl) (by kernel_rfl) (by kernel_rfl) (fun _ _ _ h => h) (Or.inl ⟨by rfl, ?hy32⟩) (by assumption) ?rest32
  case hy32 => ((intro w hSw; (try dsimp only at hSw); go_simp) <;> with_reducible rfl)
  case' rest32 => try simp only [List.getElem_toArray, List.getElem_cons_zero, List.getElem_cons_succ, Act.put, List.setIfInBounds_toArray, List.set_cons_zero, List.set_cons_succ]
  refine wpAnyH_take (i := 5) (oi := _) (v := ?v33) rfl (by kernel_rfl) (by kernel_rfl) (by kernel_rfl) (fun _ _ _ h => h) (Or.inl ⟨by rfl, ?hy33⟩) (by assumption) ?rest33
  case hy33 => ((intro w hSw; (try dsimp only at hSw); go_simp) <;> with_reducible rfl)
  case' rest33 => try simp only [List.getElem_toArray, List.getElem_cons_zero, List.getElem_cons_succ, Act.put, List.setIfInBounds_toArray, List.set_cons_zero, List.set_cons_succ]
  refine wpAnyH_ready (rs := [6]) (by kernel_rfl) (by simp) ?_
  refine AllReadyH.cons (o := _) rfl (fun K hK => ?_) AllReadyH.nil
  go_simp
  refine (blk_total p pd ⟨mo, sz, nx, ((h2 : Nat) : Int), M.bl, ro, 5, ix, sub, b, sm⟩ A n1 c1 W3.drew HX3.out.1.2.1 HN1.out (by omega)).mono ?_
  rintro e w8 ⟨rfl, hw8⟩
  subst hw8
  rw [show btotal (BlkS.b ⟨mo, sz, nx, ((h2 : Nat) : Int), M.bl, ro, 5, ix, sub, b, sm⟩) = tot from HT.out.symm]
  dsimp only
  refine hK.out _ _ ?hS36 (fun hHeld => ?rest36)
  case hS36 => ((try dsimp only); (((try go_split_ands); refine sn_of ?_; repeat' (first | with_reducible assumption | with_reducible exact Below.refl _ _ | with_reducible apply below_alloc | with_reducible apply below_drew1 | with_reducible apply below_drewN | (with_reducible apply below_step; with_reducible assumption) | (with_reducible apply below_sg2; (first | exact Nat.le_refl _ | (simp; done) | omega))))))
  case' rest36 => (clear hK K; try simp only [List.getElem_toArray, List.getElem_cons_zero, List.getElem_cons_succ, Act.put, List.setIfInBounds_toArray, List.set_cons_zero, List.set_cons_succ])
  refine wpAnyH_take (i := 7) (oi := _) (v := ?v37) rfl (by kernel_rfl) (by kernel_rfl) (by kernel_rfl) (fun _ _ _ h => h) (Or.inl ⟨by rfl, ?hy37⟩) (by assumption) ?rest37
  case hy37 => ((intro w hSw; (try dsimp only at hSw); go_simp) <;> with_reducible rfl)
  case' rest37 => try simp only [List.getElem_toArray, List.getElem_cons_zero, List.getElem_cons_succ, Act.put, List.setIfInBounds_toArray, List.set_cons_zero, List.set_cons_succ]
  refine wpAnyH_done (by kernel_rfl) ?_ _
  have hEnd := hHeld.2
  repeat (clear hHeld)
  clear hEnd b3
  have hlt3 : (h2 : Int) < (tot : Int) := by omega
  go_upto_region 8 with fail
  refine wp_gen (P := BXS w G p pd (KMO w M A3 m3 c3) ⟨mo, sz, nx, ((h2 : Nat) : Int), M.bl, ro, 5, ix, sub, b, sm⟩ A n1 c1 b) HX4.out (fun W4 hW4 => ?_)
  clear HX3 HX4 zW zk1 zo1
  have HX4 := hide hW4
  have hBV : BV_ W4 (fun q => G q ∧ q ≠ w.heap.size + 1) p pd ⟨mo, sz, nx, ((h2 : Nat) : Int), M.bl, ro, 5, ix, sub, b, sm⟩ := ⟨A, n1, c1, hW4.1.2.1, fun _ => ⟨HN1.out, hc1, hW4.2.1, HAN.out, fun ad e => ⟨⟨(HAG.out ad e).1, (hW4.2.2 ad e).2.2.2⟩, (hW4.2.2 ad e).2.1, (hW4.2.2 ad e).2.2.1⟩⟩⟩
  have HBV := hide hBV
  clear hW4 hBV
  go_wp2_with fail
  refine (blk_give p pd ⟨mo, sz, nx, ((h2 : Nat) : Int), M.bl, ro, 5, ix, sub, b, sm⟩ _ W4 HBV.out (show (5 : Int) ≠ 0 by decide) (by show b.length ≤ 1000; have := HN1.out; omega) h2 rfl (by rw [← HT.out]; exact hlt2) ⟨hb0, hb1⟩).mono ?_
  rintro e w5 ⟨As, ns, cs, ds, rfl, hOM, hBV5, ho5⟩
  have hK5 := blk_only HX4.out.1.out ho5 (fun e => hne1 e.symm)
  have zz4 : w.heap.size + 2 ≤ W4.heap.size := HX4.out.1.2.2.2
  have F1 := putO_blk (As' := As) (ns' := ns) (cs' := cs) (O' := outZ) (A' := none) (n' := 0) (c' := 0) hK5
  have F2 : BOutF w G p pd (bgiveS ⟨mo, sz, nx, ((h2 : Nat) : Int), M.bl, ro, 5, ix, sub, b, sm⟩) (bgiveL ⟨mo, sz, nx, ((h2 : Nat) : Int), M.bl, ro, 5, ix, sub, b, sm⟩) (.returned (.agg (outV As ns cs outZ none 0 0))) (putO w5 (w.heap.size + 1) As ns cs outZ none 0 0) := by
    refine ⟨As, ns, cs, ds, rfl, (hOM.keep (fun g hg _ => putO_heap (show g ≠ w.heap.size + 1 by omega) _ _ _ _ _ _ _)).mono (fun g _ hg => by omega), hBV5.keep (fun q hq _ => putO_heap (by rcases hq with rfl | hq; exact hne1; exact hq.2) _ _ _ _ _ _ _) (by rw [putO_size]; exact Nat.le_refl _) (fun q _ hq => hq.1), putO_only (HX4.out.1.1.trans ho5 (fun _ _ h => h)) (by omega) _ _ _ _ _ _ _⟩
  have HF := hide (And.intro F1 F2)
  unfold outV outZ at hK5
  unfold outV outZ
  dsimp only
  have hK5_c0 := hK5.cell 0 rfl
  have hK5_f0 := hK5.frozen 0
  have hK5_c1 := hK5.cell 1 rfl
  have hK5_f1 := hK5.frozen 1
  have hK5_c2 := hK5.cell 2 rfl
  have hK5_f2 := hK5.frozen 2
  have hK5_c3 := hK5.cell 3 rfl
  have hK5_f3 := hK5.frozen 3
  have hK5_c4 := hK5.cell 4 rfl
  have hK5_f4 := hK5.frozen 4
  clear F1 F2 hOM hBV5 ho5
  go_wp2_with fail
  obtain ⟨F1, F2⟩ := HF.out
  rw [← HP.out] at F2
  unfold putO outZ at F1 F2
  dsimp only at F1 F2
  refine ret_out (O := ⟨[], false, 0, 0, []⟩) rfl rfl rfl F1 ?_
  exact F2
theorem blk_ack_end (p pd : Nat) (mo sz nx ta ro ix sub : Int) (h : Nat) (b : List UInt8) (sm : Bool) (G : Nat → Prop) (M : Ms) (q : Nat) (A3 : Option Addr) (m3 c3 : Nat) (w : World) (hS : BV_ w G p pd ⟨mo, sz, nx, (h : Int), ta, ro, 5, ix, sub, b, sm⟩) (h256 : b.length ≤ 1000) (hq : M.sq = (q : Int)) (hqr : (q : Int) ≤ ro) (hbl : M.bl ≠ 0) (hh : h ≤ 1000) (hq2 : q ≤ 1000) (hb : 0 ≤ M.bl ∧ M.bl ≤ 1000) (h2 : Nat) (hh2 : h2 = h + q) (hlt2 : h2 = btotal b) (em : Nat) (hem : em = 7 * btotal b - b.length) (sumv : Nat) (HSV : Hid (sumv = if sm = true then sum16L b else 0)) :
    Calls Try.prog 48 #[.pointer (some ⟨p, 0, none⟩), .agg (msV M A3 m3 c3)] w (BOutR w G p pd ⟨mo, sz, nx, ((h2 : Nat) : Int), M.bl, ro, 6, ix, sub, b, sm⟩ (outM (bendM ((em : Nat) : Int) sumv))) := by
  obtain ⟨A, n1, c1, hB, hby⟩ := id hS
  obtain ⟨hn1, hc1, hsl, hAn, hAG⟩ := hby (show (5 : Int) ≠ 0 by decide)
  obtain ⟨P, hP⟩ : ∃ P, P = BOutR w G p pd ⟨mo, sz, nx, ((h2 : Nat) : Int), M.bl, ro, 6, ix, sub, b, sm⟩ (outM (bendM ((em : Nat) : Int) sumv)) := ⟨_, rfl⟩
  rw [← hP]
  have HP := hide hP
  have hz := hB.lt
  replace hn1 : n1 = b.length := hn1
  have HN1 := hide hn1
  have HAN := hide hAn
  have hne1 : p ≠ w.heap.size + 1 := by omega
  have hne0 : w.heap.size ≠ p := by omega
  have hbn : n1 ≤ 1000 := by omega
  have HAG := hide hAG
  obtain ⟨tot, ht⟩ : ∃ tot, tot = btotal b := ⟨_, rfl⟩
  have HT := hide ht
  have ht40 : tot ≤ 1000 := by rw [ht]; unfold btotal; omega
  have htl : n1 ≤ 7 * tot ∧ 7 * tot ≤ n1 + 7 := by rw [ht, hn1]; unfold btotal; omega
  obtain ⟨htl1, htl2⟩ := htl
  rw [← ht] at hlt2
  rw [← ht, ← HN1.out] at hem
  have HLT2 := hide hlt2
  clear hlt2
  have HEM := hide hem
  have hem7 : em ≤ 7 := by omega
  have HQ := hide hq
  have HH2 := hide hh2
  have hsum : (h : Int) + (q : Int) = ((h2 : Nat) : Int) := by omega
  have HBL := hide hbl
  have hblb : (M.bl == 0) = false := by simp [hbl]
  obtain ⟨hb0, hb1⟩ := hb
  have HX : Hid (BXS w G p pd (KMO w M A3 m3 c3) ⟨mo, sz, nx, (h : Int), ta, ro, 5, ix, sub, b, sm⟩ A n1 c1 b _) := hide ⟨bx_mk M A3 m3 c3 hB, (hsl.alloc _).alloc _, fun ad e => ⟨.inl (hAG ad e).1, by have := (hAG ad e).2.1; simp; omega, (hAG ad e).2.2, by have := (hAG ad e).2.1; omega⟩⟩
  have HB0 := hide (below_alloc (below_alloc (Below.refl w.heap.size w) (.cells (msV M A3 m3 c3) 39)) (.cells (outV none 0 0 outZ none 0 0) 44))
  have hemt : 7 * tot - n1 = em := hem.symm
  clear hP hS hB hby hn1 hsl hAn hAG ht hq hh2 hbl hem
  unfold msV outV outZ at HX
  unfold msV
  go_enter Try.func48, Try.ntmps48
  go_upto_region 1 with fail
  refine wp_gen (P := BXS w G p pd (KMO w M A3 m3 c3) ⟨mo, sz, nx, (h : Int), ta, ro, 5, ix, sub, b, sm⟩ A n1 c1 b) HX.out (fun W hW => ?_)
  clear HX
  have HX1 := hide hW.drew
  have zW := hW.1.2.1.lt
  have zk1 := hW.1.msg.lt
  have zo1 := hW.1.out.lt
  have b5 : W.cell? ⟨p, 5, none⟩ = some (.int .i64 ro) := hW.1.2.1.cell 5 rfl
  have b10 : W.cell? ⟨w.heap.size, 10, none⟩ = some (.int .i64 (q : Int)) := by rw [← HQ.out]; exact hW.1.msg.cell 10 rfl
  clear hW
  refine wp_region_held_drew (S := (fun w' => (∀ qA : Addr, qA.block < (W).heap.size → w'.cell? qA = (W).cell? qA) ∧ Below (W).heap.size (W) w')) (by kernel_rfl) ?hS39 (fun hHeld => ?rest39)
  case hS39 => ((try dsimp only); (((try go_split_ands); refine sn_of ?_; repeat' (first | with_reducible assumption | with_reducible exact Below.refl _ _ | with_reducible apply below_alloc | with_reducible apply below_drew1 | with_reducible apply below_drewN | (with_reducible apply below_step; with_reducible assumption) | (with_reducible apply below_sg2; (first | exact Nat.le_refl _ | (simp; done) | omega))))))
  case' rest39 => skip
  refine wpAnyH_take (i := 0) (oi := _) (v := ?v40) rfl (by kernel_rfl) (by kernel_rfl) (by kernel_rfl) (fun _ _ _ h => h) (Or.inl ⟨by rfl, ?hy40⟩) (by assumption) ?rest40
  case hy40 => ((intro w hSw; (try dsimp only at hSw); go_simp) <;> with_reducible rfl)
  case' rest40 => try simp only [List.getElem_toArray, List.getElem_cons_zero, List.getElem_cons_succ, Act.put, List.setIfInBounds_toArray, List.set_cons_zero, List.set_cons_succ]
  refine wpAnyH_take (i := 1) (oi := _) (v := ?v41) rfl (by kernel_rfl) (by kernel_rfl) (by kernel_rfl) (fun _ _ _ h => h) (Or.inl ⟨by rfl, ?hy41⟩) (by assumption) ?rest41
  case hy41 => ((intro w hSw; (try dsimp only at hSw); go_simp) <;> with_reducible rfl)
  case' rest41 => try simp only [List.getElem_toArray, List.getElem_cons_zero, List.getElem_cons_succ, Act.put, List.setIfInBounds_toArray, List.set_cons_zero, List.set_cons_succ]
  refine wpAnyH_take (i := 2) (oi := _) (v := ?v42) rfl (by kernel_rfl) (by kernel_rfl) (by kernel_rfl) (fun _ _ _ h => h) (Or.inl ⟨by rfl, ?hy42⟩) (by assumption) ?rest42
  case hy42 => ((intro w hSw; (try dsimp only at hSw); go_simp) <;> with_reducible rfl)
  case' rest42 => try simp only [List.getElem_toArray, List.getElem_cons_zero, List.getElem_cons_succ, Act.put, List.setIfInBounds_toArray, List.set_cons_zero, List.set_cons_succ]
  refine wpAnyH_take (i := 3) (oi := _) (v := ?v43) rfl (by kernel_rfl) (by kernel_rfl) (by kernel_rfl) (fun _ _ _ h => h) (Or.inl ⟨by rfl, ?hy43⟩) (by assumption) ?rest43
  case hy43 => ((intro w hSw; (try dsimp only at hSw); go_simp) <;> with_reducible rfl)
  case' rest43 => try simp only [List.getElem_toArray, List.getElem_cons_zero, List.getElem_cons_succ, Act.put, List.setIfInBounds_toArray, List.set_cons_zero, List.set_cons_succ]
  refine wpAnyH_take (i := 4) (oi := _) (v := ?v44) rfl (by kernel_rfl) (by kernel_rfl) (by kernel_rfl) (fun _ _ _ h => h) (Or.inl ⟨by rfl, ?hy44⟩) (by assumption) ?rest44
  case hy44 => ((intro w hSw; (try dsimp only at hSw); go_simp) <;> with_reducible rfl)
  case' rest44 => try simp only [List.getElem_toArray, List.getElem_cons_zero, List.getElem_cons_succ, Act.put, List.setIfInBounds_toArray, List.set_cons_zero, List.set_cons_succ]
  refine wpAnyH_take (i := 5) (oi := _) (v := ?v45) rfl (by kernel_rfl) (by kernel_rfl) (by kernel_rfl) (fun _ _ _ h => h) (Or.inl ⟨by rfl, ?hy45⟩) (by assumption) ?rest45
  case hy45 => ((intro w hSw; (try dsimp only at hSw); go_simp) <;> with_reducible rfl)
  case' rest45 => try simp only [List.getElem_toArray, List.getElem_cons_zero, List.getElem_cons_succ, Act.put, List.setIfInBounds_toArray, List.set_cons_zero, List.set_cons_succ]
  refine wpAnyH_take (i := 6) (oi := _) (v := ?v46) rfl (by kernel_rfl) (by kernel_rfl) (by kernel_rfl) (fun _ _ _ h => h) (Or.inl ⟨by rfl, ?hy46⟩) (by assumption) ?rest46
  case hy46 => ((intro w hSw; (try dsimp only at hSw); go_simp) <;> with_reducible rfl)
  case' rest46 => try simp only [List.getElem_toArray, List.getElem_cons_zero, List.getElem_cons_succ, Act.put, List.setIfInBounds_toArray, List.set_cons_zero, List.set_cons_succ]
  refine wpAnyH_take (i := 7) (oi := _) (v := ?v47) rfl (by kernel_rfl) (by kernel_rfl) (by kernel_rfl) (fun _ _ _ h => h) (Or.inl ⟨by rfl, ?hy47⟩) (by assumption) ?rest47
  case hy47 => ((intro w hSw; (try dsimp only at hSw); go_simp) <;> with_reducible rfl)
  case' rest47 => try simp only [List.getElem_toArray, List.getElem_cons_zero, List.getElem_cons_succ, Act.put, List.setIfInBounds_toArray, List.set_cons_zero, List.set_cons_succ]
  refine wpAnyH_take (i := 8) (oi := _) (v := ?v48) rfl (by kernel_rfl) (by kernel_rfl) (by kernel_rfl) (fun _ _ _ h => h) (Or.inl ⟨by rfl, ?hy48⟩) (by assumption) ?rest48
  case hy48 => ((intro w hSw; (try dsimp only at hSw); go_simp) <;> with_reducible rfl)
  case' rest48 => try simp only [List.getElem_toArray, List.getElem_cons_zero, List.getElem_cons_succ, Act.put, List.setIfInBounds_toArray, List.set_cons_zero, List.set_cons_succ]
  refine wpAnyH_done (by kernel_rfl) ?_ _
  have hEnd := hHeld.2
  repeat (clear hHeld)
  clear hEnd b5 b10 zW zk1 zo1
  go_upto_region 3 with fail
  refine wp_gen (P := BXS w G p pd (KMO w M A3 m3 c3) ⟨mo, sz, nx, (h : Int), ta, ro, 5, ix, sub, b, sm⟩ A n1 c1 b) HX1.out (fun W1 hW1 => ?_)
  clear HX1
  have HX1 := hide hW1
  have k1 := hW1.1.msg
  have bb := hW1.1.2.1
  have zW := bb.lt
  have zk1 := k1.lt
  have zo1 := hW1.1.out.lt
  have g10 : W1.cell? ⟨w.heap.size, 10, none⟩ = some (.int .i64 (q : Int)) := by rw [← HQ.out]; exact k1.cell 10 rfl
  have g3 : W1.cell? ⟨p, 3, none⟩ = some (.int .i64 (h : Int)) := bb.cell 3 rfl
  have hw2 : IntKind.i64.wrap ((h2 : Nat) : Int) = ((h2 : Nat) : Int) := by unfold IntKind.wrap; simp [IntKind.signed, IntKind.bits]; omega
  have HX2 := hide (hW1.sets (S' := ⟨mo, sz, nx, ((h2 : Nat) : Int), ta, ro, 5, ix, sub, b, sm⟩) [.int .i64 ((h2 : Nat) : Int)] 3 (by simp) rfl).drew
  simp only [World.setCells] at HX2
  unfold msV at k1
  unfold bsrV at bb
  dsimp only at bb
  have k1_c0 := k1.cell 0 rfl
  have k1_f0 := k1.frozen 0
  have k1_c1 := k1.cell 1 rfl
  have k1_f1 := k1.frozen 1
  have k1_c2 := k1.cell 2 rfl
  have k1_f2 := k1.frozen 2
  have k1_c3 := k1.cell 3 rfl
  have k1_f3 := k1.frozen 3
  have k1_c4 := k1.cell 4 rfl
  have k1_f4 := k1.frozen 4
  have k1_c5 := k1.cell 5 rfl
  have k1_f5 := k1.frozen 5
  have k1_c6 := k1.cell 6 rfl
  have k1_f6 := k1.frozen 6
  have k1_c7 := k1.cell 7 rfl
  have k1_f7 := k1.frozen 7
  have k1_c8 := k1.cell 8 rfl
  have k1_f8 := k1.frozen 8
  have k1_c9 := k1.cell 9 rfl
  have k1_f9 := k1.frozen 9
  have k1_c10 := k1.cell 10 rfl
  have k1_f10 := k1.frozen 10
  have k1_c11 := k1.cell 11 rfl
  have k1_f11 := k1.frozen 11
  have k1_c12 := k1.cell 12 rfl
  have k1_f12 := k1.frozen 12
  have k1_c13 := k1.cell 13 rfl
  have k1_f13 := k1.frozen 13
  have bb_c0 := bb.cell 0 rfl
  have bb_f0 := bb.frozen 0
  have bb_c1 := bb.cell 1 rfl
  have bb_f1 := bb.frozen 1
  have bb_c2 := bb.cell 2 rfl
  have bb_f2 := bb.frozen 2
  have bb_c3 := bb.cell 3 rfl
  have bb_f3 := bb.frozen 3
  have bb_c4 := bb.cell 4 rfl
  have bb_f4 := bb.frozen 4
  have bb_c5 := bb.cell 5 rfl
  have bb_f5 := bb.frozen 5
  have bb_c6 := bb.cell 6 rfl
  have bb_f6 := bb.frozen 6
  have bb_c7 := bb.cell 7 rfl
  have bb_f7 := bb.frozen 7
  have bb_c8 := bb.cell 8 rfl
  have bb_f8 := bb.frozen 8
  have bb_c9 := bb.cell 9 rfl
  have bb_f9 := bb.frozen 9
  have bb_c10 := bb.cell 10 rfl
  have bb_f10 := bb.frozen 10
  have bb_c11 := bb.cell 11 rfl
  have bb_f11 := bb.frozen 11
  clear hW1
  go_upto_region 5 with fail
  refine wp_region_T (fun w' => w'.cell? ⟨p, 3, none⟩ = some (.int .i64 (h : Int)) ∧ w'.cell? ⟨w.heap.size, 10, none⟩ = some (.int .i64 (q : Int))) [0, 1, 2, 3, 4, 5, 6, 7, 8, 9, 10] (by kernel_rfl) ?hS50 (fun hHeld => ?rest50)
  case hS50 => ((try dsimp only); exact ⟨g3, g10⟩)
  case' rest50 => skip
  refine wpAnyT_take (by kernel_rfl) (by kernel_rfl) (i := 0) (oi := _) (v := ?v51) rfl (by kernel_rfl) (by kernel_rfl) (by kernel_rfl) (fun _ _ _ h => h) (Or.inl ⟨by rfl, ?hy51⟩) (by assumption) ?rest51
  case hy51 => ((intro w hSw; (try dsimp only at hSw); go_simp) <;> with_reducible rfl)
  case' rest51 => try simp only [List.getElem_toArray, List.getElem_cons_zero, List.getElem_cons_succ, Act.put, List.setIfInBounds_toArray, List.set_cons_zero, List.set_cons_succ]
  refine wpAnyT_take (by kernel_rfl) (by kernel_rfl) (i := 1) (oi := _) (v := ?v52) rfl (by kernel_rfl) (by kernel_rfl) (by kernel_rfl) (fun _ _ _ h => h) (Or.inl ⟨by rfl, ?hy52⟩) (by assumption) ?rest52
  case hy52 => ((intro w hSw; (try dsimp only at hSw); go_simp) <;> with_reducible rfl)
  case' rest52 => try simp only [List.getElem_toArray, List.getElem_cons_zero, List.getElem_cons_succ, Act.put, List.setIfInBounds_toArray, List.set_cons_zero, List.set_cons_succ]
  refine wpAnyT_take (by kernel_rfl) (by kernel_rfl) (i := 2) (oi := _) (v := ?v53) rfl (by kernel_rfl) (by kernel_rfl) (by kernel_rfl) (fun _ _ _ h => h) (Or.inl ⟨by rfl, ?hy53⟩) (by assumption) ?rest53
  case hy53 => ((intro w hSw; (try dsimp only at hSw); go_simp) <;> with_reducible rfl)
  case' rest53 => try simp only [List.getElem_toArray, List.getElem_cons_zero, List.getElem_cons_succ, Act.put, List.setIfInBounds_toArray, List.set_cons_zero, List.set_cons_succ]
  refine wpAnyT_take (by kernel_rfl) (by kernel_rfl) (i := 3) (oi := _) (v := ?v54) rfl (by kernel_rfl) (by kernel_rfl) (by kernel_rfl) (fun _ _ _ h => h) (Or.inl ⟨by rfl, ?hy54⟩) (by assumption) ?rest54
  case hy54 => ((intro w hSw; (try dsimp only at hSw); go_simp) <;> with_reducible rfl)
  case' rest54 => try simp only [List.getElem_toArray, List.getElem_cons_zero, List.getElem_cons_succ, Act.put, List.setIfInBounds_toArray, List.set_cons_zero, List.set_cons_succ]
  refine wpAnyT_take (by kernel_rfl) (by kernel_rfl) (i := 4) (oi := _) (v := ?v55) rfl (by kernel_rfl) (by kernel_rfl) (by kernel_rfl) (fun _ _ _ h => h) (Or.inl ⟨by rfl, ?hy55⟩) (by assumption) ?rest55
  case hy55 => ((intro w hSw; (try dsimp only at hSw); go_simp) <;> with_reducible rfl)
  case' rest55 => try simp only [List.getElem_toArray, List.getElem_cons_zero, List.getElem_cons_succ, Act.put, List.setIfInBounds_toArray, List.set_cons_zero, List.set_cons_succ]
  refine wpAnyT_take (by kernel_rfl) (by kernel_rfl) (i := 5) (oi := _) (v := ?v56) rfl (by kernel_rfl) (by kernel_rfl) (by kernel_rfl) (fun _ _ _ h => h) (Or.inl ⟨by rfl, ?hy56⟩) (by assumption) ?rest56
  case hy56 => ((intro w hSw; (try dsimp only at hSw); go_simp) <;> with_reducible rfl)
  case' rest56 => try simp only [List.getElem_toArray, List.getElem_cons_zero, List.getElem_cons_succ, Act.put, List.setIfInBounds_toArray, List.set_cons_zero, List.set_cons_succ]
  refine wpAnyT_take (by kernel_rfl) (by kernel_rfl) (i := 6) (oi := _) (v := ?v57) rfl (by kernel_rfl) (by kernel_rfl) (by kernel_rfl) (fun _ _ _ h => h) (Or.inl ⟨by rfl, ?hy57⟩) (by assumption) ?rest57
  case hy57 => ((intro w hSw; (try dsimp only at hSw); go_simp) <;> with_reducible rfl)
  case' rest57 => try simp only [List.getElem_toArray, List.getElem_cons_zero, List.getElem_cons_succ, Act.put, List.setIfInBounds_toArray, List.set_cons_zero, List.set_cons_succ]
  refine wpAnyT_take (by kernel_rfl) (by kernel_rfl) (i := 7) (oi := _) (v := ?v58) rfl (by kernel_rfl) (by kernel_rfl) (by kernel_rfl) (fun _ _ _ h => h) (Or.inl ⟨by rfl, ?hy58⟩) (by assumption) ?rest58
  case hy58 => ((intro w hSw; (try dsimp only at hSw); go_simp) <;> with_reducible rfl)
  case' rest58 => try simp only [List.getElem_toArray, List.getElem_cons_zero, List.getElem_cons_succ, Act.put, List.setIfInBounds_toArray, List.set_cons_zero, List.set_cons_succ]
  refine wpAnyT_take (by kernel_rfl) (by kernel_rfl) (i := 8) (oi := _) (v := ?v59) rfl (by kernel_rfl) (by kernel_rfl) (by kernel_rfl) (fun _ _ _ h => h) (Or.inl ⟨by rfl, ?hy59⟩) (by assumption) ?rest59
  case hy59 => ((intro w hSw; (try dsimp only at hSw); go_simp) <;> with_reducible rfl)
  case' rest59 => try simp only [List.getElem_toArray, List.getElem_cons_zero, List.getElem_cons_succ, Act.put, List.setIfInBounds_toArray, List.set_cons_zero, List.set_cons_succ]
  refine wpAnyT_take (by kernel_rfl) (by kernel_rfl) (i := 9) (oi := _) (v := ?v60) rfl (by kernel_rfl) (by kernel_rfl) (by kernel_rfl) (fun _ _ _ h => h) (Or.inl ⟨by rfl, ?hy60⟩) (by assumption) ?rest60
  case hy60 => ((intro w hSw; (try dsimp only at hSw); go_simp) <;> with_reducible rfl)
  case' rest60 => try simp only [List.getElem_toArray, List.getElem_cons_zero, List.getElem_cons_succ, Act.put, List.setIfInBounds_toArray, List.set_cons_zero, List.set_cons_succ]
  refine wpAnyT_take (by kernel_rfl) (by kernel_rfl) (i := 10) (oi := _) (v := ?v61) rfl (by kernel_rfl) (by kernel_rfl) (by kernel_rfl) (fun _ _ _ h => h) (Or.inl ⟨by rfl, ?hy61⟩) (by assumption) ?rest61
  case hy61 => ((intro w hSw; (try dsimp only at hSw); go_simp) <;> with_reducible rfl)
  case' rest61 => try simp only [List.getElem_toArray, List.getElem_cons_zero, List.getElem_cons_succ, Act.put, List.setIfInBounds_toArray, List.set_cons_zero, List.set_cons_succ]
  refine wpAnyT_late (i := 11) (o := _) rfl (by kernel_rfl) (by kernel_rfl) (fun K hK => ?_)
  go_simp
  refine hK.out _ _ ?rest63
  case' rest63 => (clear hK K; try simp only [List.getElem_toArray, List.getElem_cons_zero, List.getElem_cons_succ, Act.put, List.setIfInBounds_toArray, List.set_cons_zero, List.set_cons_succ])
  refine wpAnyT_done (by kernel_rfl) ?_ _
  repeat (clear hHeld)
  clear g3 g10
  go_upto_region 6 with fail
  refine wp_gen (P := BXS w G p pd (KMO w M A3 m3 c3) ⟨mo, sz, nx, ((h2 : Nat) : Int), ta, ro, 5, ix, sub, b, sm⟩ A n1 c1 b) HX2.out (fun W2 hW2 => ?_)
  clear k1_c0 k1_f0 k1_c1 k1_f1 k1_c2 k1_f2 k1_c3 k1_f3 k1_c4 k1_f4 k1_c5 k1_f5 k1_c6 k1_f6 k1_c7 k1_f7 k1_c8 k1_f8 k1_c9 k1_f9 k1_c10 k1_f10 k1_c11 k1_f11 k1_c12 k1_f12 k1_c13 k1_f13
  clear bb_c0 bb_f0 bb_c1 bb_f1 bb_c2 bb_f2 bb_c3 bb_f3 bb_c4 bb_f4 bb_c5 bb_f5 bb_c6 bb_f6 bb_c7 bb_f7 bb_c8 bb_f8 bb_c9 bb_f9 bb_c10 bb_f10 bb_c11 bb_f11
  clear HX1 HX2 k1 bb zW zk1 zo1 hw2
  have k1 := hW2.1.msg
  have bb := hW2.1.2.1
  have zW := bb.lt
  have zk1 := k1.lt
  have HX3 := hide (hW2.sets (S' := ⟨mo, sz, nx, ((h2 : Nat) : Int), M.bl, ro, 5, ix, sub, b, sm⟩) [.int .i64 M.bl] 4 (by simp) rfl)
  simp only [World.setCells] at HX3
  unfold msV at k1
  unfold bsrV at bb
  dsimp only at bb
  have k1_c0 := k1.cell 0 rfl
  have k1_f0 := k1.frozen 0
  have k1_c1 := k1.cell 1 rfl
  have k1_f1 := k1.frozen 1
  have k1_c2 := k1.cell 2 rfl
  have k1_f2 := k1.frozen 2
  have k1_c3 := k1.cell 3 rfl
  have k1_f3 := k1.frozen 3
  have k1_c4 := k1.cell 4 rfl
  have k1_f4 := k1.frozen 4
  have k1_c5 := k1.cell 5 rfl
  have k1_f5 := k1.frozen 5
  have k1_c6 := k1.cell 6 rfl
  have k1_f6 := k1.frozen 6
  have k1_c7 := k1.cell 7 rfl
  have k1_f7 := k1.frozen 7
  have k1_c8 := k1.cell 8 rfl
  have k1_f8 := k1.frozen 8
  have k1_c9 := k1.cell 9 rfl
  have k1_f9 := k1.frozen 9
  have k1_c10 := k1.cell 10 rfl
  have k1_f10 := k1.frozen 10
  have k1_c11 := k1.cell 11 rfl
  have k1_f11 := k1.frozen 11
  have k1_c12 := k1.cell 12 rfl
  have k1_f12 := k1.frozen 12
  have k1_c13 := k1.cell 13 rfl
  have k1_f13 := k1.frozen 13
  have bb_c0 := bb.cell 0 rfl
  have bb_f0 := bb.frozen 0
  have bb_c1 := bb.cell 1 rfl
  have bb_f1 := bb.frozen 1
  have bb_c2 := bb.cell 2 rfl
  have bb_f2 := bb.frozen 2
  have bb_c3 := bb.cell 3 rfl
  have bb_f3 := bb.frozen 3
  have bb_c4 := bb.cell 4 rfl
  have bb_f4 := bb.frozen 4
  have bb_c5 := bb.cell 5 rfl
  have bb_f5 := bb.frozen 5
  have bb_c6 := bb.cell 6 rfl
  have bb_f6 := bb.frozen 6
  have bb_c7 := bb.cell 7 rfl
  have bb_f7 := bb.frozen 7
  have bb_c8 := bb.cell 8 rfl
  have bb_f8 := bb.frozen 8
  have bb_c9 := bb.cell 9 rfl
  have bb_f9 := bb.frozen 9
  have bb_c10 := bb.cell 10 rfl
  have bb_f10 := bb.frozen 10
  have bb_c11 := bb.cell 11 rfl
  have bb_f11 := bb.frozen 11
  clear hW2
  go_upto_region 7 with fail
  refine wp_gen (P := BXS w G p pd (KMO w M A3 m3 c3) ⟨mo, sz, nx, ((h2 : Nat) : Int), M.bl, ro, 5, ix, sub, b, sm⟩ A n1 c1 b) HX3.out (fun W3 hW3 => ?_)
  clear k1_c0 k1_f0 k1_c1 k1_f1 k1_c2 k1_f2 k1_c3 k1_f3 k1_c4 k1_f4 k1_c5 k1_f5 k1_c6 k1_f6 k1_c7 k1_f7 k1_c8 k1_f8 k1_c9 k1_f9 k1_c10 k1_f10 k1_c11 k1_f11 k1_c12 k1_f12 k1_c13 k1_f13
  clear bb_c0 bb_f0 bb_c1 bb_f1 bb_c2 bb_f2 bb_c3 bb_f3 bb_c4 bb_f4 bb_c5 bb_f5 bb_c6 bb_f6 bb_c7 bb_f7 bb_c8 bb_f8 bb_c9 bb_f9 bb_c10 bb_f10 bb_c11 bb_f11
  clear HX3 k1 bb zW zk1
  have HX3 := hide hW3
  have HX4 := hide hW3.drew
  have zW := hW3.1.2.1.lt
  have zk1 := hW3.1.msg.lt
  have zo1 := hW3.1.out.lt
  have b3 : W3.cell? ⟨p, 3, none⟩ = some (.int .i64 ((h2 : Nat) : Int)) := hW3.1.2.1.cell 3 rfl
  clear hW3
  refine wp_region_held_drew (S := (fun w' => (∀ qA : Addr, qA.block < (W3).heap.size → w'.cell? qA = (W3).cell? qA) ∧ Below (W3).heap.size (W3) w')) (by kernel_rfl) ?hS65 (fun hHeld => ?rest65)
  case hS65 => ((try dsimp only); (((try go_split_ands); refine sn_of ?_; repeat' (first | with_reducible assumption | with_reducible exact Below.refl _ _ | with_reducible apply below_alloc | with_reducible apply below_drew1 | with_reducible apply below_drewN | (with_reducible apply below_step; with_reducible assumption) | (with_reducible apply below_sg2; (first | exact Nat.le_refl _ | (simp; done) | omega))))))
  case' rest65 => skip
  refine wpAnyH_take (i := 0) (oi := _) (v := ?v66) rfl (by kernel_rfl) (by kernel_rfl) (by kernel_rfl) (fun _ _ _ h => h) (Or.inl ⟨by rfl, ?hy66⟩) (by assumption) ?rest66
  case hy66 => ((intro w hSw; (try dsimp only at hSw); go_simp) <;> with_reducible rfl)
  case' rest66 => try simp only [List.getElem_toArray, List.getElem_cons_zero, List.getElem_cons_succ, Act.put, List.setIfInBounds_toArray, List.set_cons_zero, List.set_cons_succ]
  refine wpAnyH_take (i := 1) (oi := _) (v := ?v67) rfl (by kernel_rfl) (by kernel_rfl) (by kernel_rfl) (fun _ _ _ h => h) (Or.inl ⟨by rfl, ?hy67⟩) (by assumption) ?rest67
  case hy67 => ((intro w hSw; (try dsimp only at hSw); go_simp) <;> with_reducible rfl)
  case' rest67 => try simp only [List.getElem_toArray, List.getElem_cons_zero, List.getElem_cons_succ, Act.put, List.setIfInBounds_toArray, List.set_cons_zero, List.set_cons_succ]
  refine wpAnyH_take (i := 2) (oi := _) (v := ?v68) rfl (by kernel_rfl) (by kernel_rfl) (by kernel_rfl) (fun _ _ _ h => h) (Or.inl ⟨by rfl, ?hy68⟩) (by assumption) ?rest68
  case hy68 => ((intro w hSw; (try dsimp only at hSw); go_simp) <;> with_reducible rfl)
  case' rest68 => try simp only [List.getElem_toArray, List.getElem_cons_zero, List.getElem_cons_succ, Act.put, List.setIfInBounds_toArray, List.set_cons_zero, List.set_cons_succ]
  refine wpAnyH_take (i := 3) (oi := _) (v := ?v69) rfl (by kernel_rfl) (by kernel_rfl) (by kernel_rfl) (fun _ _ _ h => h) (Or.inl ⟨by rfl, ?hy69⟩) (by assumption) ?rest69
  case hy69 => ((intro w hSw; (try dsimp only at hSw); go_simp) <;> with_reducible rfl)
  case' rest69 => try simp only [List.getElem_toArray, List.getElem_cons_zero, List.getElem_cons_succ, Act.put, List.setIfInBounds_toArray, List.set_cons_zero, List.set_cons_succ]
  refine wpAnyH_take (i := 4) (oi := _) (v := ?v70) rfl (by kernel_rfl) (by kernel_rfl) (by kernel_rfl) (fun _ _ _ h => h) (Or.inl ⟨by rfl, ?hy70⟩) (by assumption) ?rest70
  case hy70 => ((intro w hSw; (try dsimp only at hSw); go_simp) <;> with_reducible rfl)
  case' rest70 => try simp only [List.getElem_toArray, List.getElem_cons_zero, List.getElem_cons_succ, Act.put, List.setIfInBounds_toArray, List.set_cons_zero, List.set_cons_succ]
  refine wpAnyH_take (i := 5) (oi := _) (v := ?v71) rfl (by kernel_rfl) (by kernel_rfl) (by kernel_rfl) (fun _ _ _ h => h) (Or.inl ⟨by rfl, ?hy71⟩) (by assumption) ?rest71
  case hy71 => ((intro w hSw; (try dsimp only at hSw); go_simp) <;> with_reducible rfl)
  case' rest71 => try simp only [List.getElem_toArray, List.getElem_cons_zero, List.getElem_cons_succ, Act.put, List.setIfInBounds_toArray, List.set_cons_zero, List.set_cons_succ]
  refine wpAnyH_ready (rs := [6]) (by kernel_rfl) (by simp) ?_
  refine AllReadyH.cons (o := _) rfl (fun K hK => ?_) AllReadyH.nil
  go_simp
  refine (blk_total p pd ⟨mo, sz, nx, ((h2 : Nat) : Int), M.bl, ro, 5, ix, sub, b, sm⟩ A n1 c1 W3.drew HX3.out.1.2.1 HN1.out (by omega)).mono ?_
  rintro e w8 ⟨rfl, hw8⟩
  subst hw8
  rw [show btotal (BlkS.b ⟨mo, sz, nx, ((h2 : Nat) : Int), M.bl, ro, 5, ix, sub, b, sm⟩) = tot from HT.out.symm]
  dsimp only
  refine hK.out _ _ ?hS74 (fun hHeld => ?rest74)
  case hS74 => ((try dsimp only); (((try go_split_ands); refine sn_of ?_; repeat' (first | with_reducible assumption | with_reducible exact Below.refl _ _ | with_reducible apply below_alloc | with_reducible apply below_drew1 | with_reducible apply below_drewN | (with_reducible apply below_step; with_reducible assumption) | (with_reducible apply below_sg2; (first | exact Nat.le_refl _ | (simp; done) | omega))))))
  case' rest74 => (clear hK K; try simp only [List.getElem_toArray, List.getElem_cons_zero, List.getElem_cons_succ, Act.put, List.setIfInBounds_toArray, List.set_cons_zero, List.set_cons_succ])
  refine wpAnyH_take (i := 7) (oi := _) (v := ?v75) rfl (by kernel_rfl) (by kernel_rfl) (by kernel_rfl) (fun _ _ _ h => h) (Or.inl ⟨by rfl, ?hy75⟩) (by assumption) ?rest75
  case hy75 => ((intro w hSw; (try dsimp only at hSw); go_simp) <;> with_reducible rfl)
  case' rest75 => try simp only [List.getElem_toArray, List.getElem_cons_zero, List.getElem_cons_succ, Act.put, List.setIfInBounds_toArray, List.set_cons_zero, List.set_cons_succ]
  refine wpAnyH_done (by kernel_rfl) ?_ _
  have hEnd := hHeld.2
  repeat (clear hHeld)
  clear hEnd b3
  have hlt3 : ¬ (h2 : Int) < (tot : Int) := by have := HLT2.out; omega
  have hem1 : (7 : Int) * (tot : Int) - (n1 : Int) = (em : Int) := by omega
  clear hemt
  have hwr1 : IntKind.i64.wrap (7 * (tot : Int)) = 7 * (tot : Int) := by unfold IntKind.wrap; simp [IntKind.signed, IntKind.bits]; omega
  have hwr2 : IntKind.i64.wrap (em : Int) = (em : Int) := by unfold IntKind.wrap; simp [IntKind.signed, IntKind.bits]; omega
  have HX5 := hide (HX4.out.sets (S' := ⟨mo, sz, nx, ((h2 : Nat) : Int), M.bl, ro, 6, ix, sub, b, sm⟩) [.int .i64 6] 7 (by simp) rfl)
  simp only [World.setCells] at HX5
  have bb := HX4.out.1.2.1
  unfold bsrV at bb
  dsimp only at bb
  have zp4 : p < W3.drew.heap.size := zW
  have bb_c0 := bb.cell 0 rfl
  have bb_f0 := bb.frozen 0
  have bb_c1 := bb.cell 1 rfl
  have bb_f1 := bb.frozen 1
  have bb_c2 := bb.cell 2 rfl
  have bb_f2 := bb.frozen 2
  have bb_c3 := bb.cell 3 rfl
  have bb_f3 := bb.frozen 3
  have bb_c4 := bb.cell 4 rfl
  have bb_f4 := bb.frozen 4
  have bb_c5 := bb.cell 5 rfl
  have bb_f5 := bb.frozen 5
  have bb_c6 := bb.cell 6 rfl
  have bb_f6 := bb.frozen 6
  have bb_c7 := bb.cell 7 rfl
  have bb_f7 := bb.frozen 7
  have bb_c8 := bb.cell 8 rfl
  have bb_f8 := bb.frozen 8
  have bb_c9 := bb.cell 9 rfl
  have bb_f9 := bb.frozen 9
  have bb_c10 := bb.cell 10 rfl
  have bb_f10 := bb.frozen 10
  have bb_c11 := bb.cell 11 rfl
  have bb_f11 := bb.frozen 11
  go_upto_region 10 with fail
  refine wp_gen (P := BXS w G p pd (KMO w M A3 m3 c3) ⟨mo, sz, nx, ((h2 : Nat) : Int), M.bl, ro, 6, ix, sub, b, sm⟩ A n1 c1 b) HX5.out (fun W5 hW5 => ?_)
  clear bb_c0 bb_f0 bb_c1 bb_f1 bb_c2 bb_f2 bb_c3 bb_f3 bb_c4 bb_f4 bb_c5 bb_f5 bb_c6 bb_f6 bb_c7 bb_f7 bb_c8 bb_f8 bb_c9 bb_f9 bb_c10 bb_f10 bb_c11 bb_f11
  clear HX3 HX4 HX5 bb zW zk1 zo1 zp4
  have HX5 := hide hW5
  have zp5 := hW5.1.2.1.lt
  have zz5 : w.heap.size + 2 ≤ W5.heap.size := hW5.1.2.2.2
  have b10 : W5.cell? ⟨p, 10, none⟩ = some (.slice A n1 c1) := hW5.1.2.1.cell 10 rfl
  have HG5 := hide (Blk.new W5.drew 39 (msV (bendM ((em : Nat) : Int) 0) none 0 0))
  have HX5d := hide (hW5.drew.step (below_alloc (Below.refl _ _) (.cells (msV (bendM ((em : Nat) : Int) 0) none 0 0) 39)))
  unfold msV bendM at HG5 HX5d
  dsimp only at HG5 HX5d
  clear hW5
  go_cut [5] (fun s5 wx => ∃ g, s5 = .pointer (some ⟨g, 0, none⟩) ∧ w.heap.size + 2 ≤ g ∧ Blk wx g 39 (msV (bendM ((em : Nat) : Int) 0) none 0 0) ∧ BXS w G p pd (KMO w M A3 m3 c3) ⟨mo, sz, nx, ((h2 : Nat) : Int), M.bl, ro, 6, ix, sub, b, sm⟩ A n1 c1 b wx)
  case first =>
    refine wp_region_held_drew (S := (fun w' => (∀ qA : Addr, qA.block < (W5).heap.size → w'.cell? qA = (W5).cell? qA) ∧ Below (W5).heap.size (W5) w')) (by kernel_rfl) ?hS77 (fun hHeld => ?rest77)
    case hS77 => ((try dsimp only); (((try go_split_ands); refine sn_of ?_; repeat' (first | with_reducible assumption | with_reducible exact Below.refl _ _ | with_reducible apply below_alloc | with_reducible apply below_drew1 | with_reducible apply below_drewN | (with_reducible apply below_step; with_reducible assumption) | (with_reducible apply below_sg2; (first | exact Nat.le_refl _ | (simp; done) | omega))))))
    case' rest77 => skip
    refine wpAnyH_take (i := 0) (oi := _) (v := ?v78) rfl (by kernel_rfl) (by kernel_rfl) (by kernel_rfl) (fun _ _ _ h => h) (Or.inl ⟨by rfl, ?hy78⟩) (by assumption) ?rest78
    case hy78 => ((intro w hSw; (try dsimp only at hSw); go_simp) <;> with_reducible rfl)
    case' rest78 => try simp only [List.getElem_toArray, List.getElem_cons_zero, List.getElem_cons_succ, Act.put, List.setIfInBounds_toArray, List.set_cons_zero, List.set_cons_succ]
    refine wpAnyH_take (i := 3) (oi := _) (v := ?v79) rfl (by kernel_rfl) (by kernel_rfl) (by kernel_rfl) (fun _ _ _ h => h) (Or.inl ⟨by rfl, ?hy79⟩) (by assumption) ?rest79
    case hy79 => ((intro w hSw; (try dsimp only at hSw); go_simp) <;> with_reducible rfl)
    case' rest79 => try simp only [List.getElem_toArray, List.getElem_cons_zero, List.getElem_cons_succ, Act.put, List.setIfInBounds_toArray, List.set_cons_zero, List.set_cons_succ]
    refine wpAnyH_take (i := 4) (oi := _) (v := ?v80) rfl (by kernel_rfl) (by kernel_rfl) (by kernel_rfl) (fun _ _ _ h => h) (Or.inl ⟨by rfl, ?hy80⟩) (by assumption) ?rest80
    case hy80 => ((intro w hSw; (try dsimp only at hSw); go_simp) <;> with_reducible rfl)
    case' rest80 => try simp only [List.getElem_toArray, List.getElem_cons_zero, List.getElem_cons_succ, Act.put, List.setIfInBounds_toArray, List.set_cons_zero, List.set_cons_succ]
    refine wpAnyH_take (i := 5) (oi := _) (v := ?v81) rfl (by kernel_rfl) (by kernel_rfl) (by kernel_rfl) (fun _ _ _ h => h) (Or.inl ⟨by rfl, ?hy81⟩) (by assumption) ?rest81
    case hy81 => ((intro w hSw; (try dsimp only at hSw); go_simp) <;> with_reducible rfl)
    case' rest81 => try simp only [List.getElem_toArray, List.getElem_cons_zero, List.getElem_cons_succ, Act.put, List.setIfInBounds_toArray, List.set_cons_zero, List.set_cons_succ]
    refine wpAnyH_take (i := 6) (oi := _) (v := ?v82) rfl (by kernel_rfl) (by kernel_rfl) (by kernel_rfl) (fun _ _ _ h => h) (Or.inl ⟨by rfl, ?hy82⟩) (by assumption) ?rest82
    case hy82 => ((intro w hSw; (try dsimp only at hSw); go_simp) <;> with_reducible rfl)
    case' rest82 => try simp only [List.getElem_toArray, List.getElem_cons_zero, List.getElem_cons_succ, Act.put, List.setIfInBounds_toArray, List.set_cons_zero, List.set_cons_succ]
    refine wpAnyH_take (i := 7) (oi := _) (v := ?v83) rfl (by kernel_rfl) (by kernel_rfl) (by kernel_rfl) (fun _ _ _ h => h) (Or.inl ⟨by rfl, ?hy83⟩) (by assumption) ?rest83
    case hy83 => ((intro w hSw; (try dsimp only at hSw); go_simp) <;> with_reducible rfl)
    case' rest83 => try simp only [List.getElem_toArray, List.getElem_cons_zero, List.getElem_cons_succ, Act.put, List.setIfInBounds_toArray, List.set_cons_zero, List.set_cons_succ]
    refine wpAnyH_ready (rs := [1, 10]) (by kernel_rfl) (by simp) (AllReadyH.cons (o := _) rfl (fun K hK => ?_) (AllReadyH.cons (o := _) rfl (fun K hK => ?_) AllReadyH.nil))
    · go_simp
      refine (blk_total p pd ⟨mo, sz, nx, ((h2 : Nat) : Int), M.bl, ro, 6, ix, sub, b, sm⟩ A n1 c1 W5.drew HX5.out.1.2.1 HN1.out (by omega)).mono ?_
      rintro e w8 ⟨rfl, hw8⟩
      subst hw8
      rw [show btotal (BlkS.b ⟨mo, sz, nx, ((h2 : Nat) : Int), M.bl, ro, 6, ix, sub, b, sm⟩) = tot from HT.out.symm]
      dsimp only
      refine hK.out _ _ ?hS85 (fun hHeld => ?rest85)
      case hS85 => ((try dsimp only); (((try go_split_ands); refine sn_of ?_; repeat' (first | with_reducible assumption | with_reducible exact Below.refl _ _ | with_reducible apply below_alloc | with_reducible apply below_drew1 | with_reducible apply below_drewN | (with_reducible apply below_step; with_reducible assumption) | (with_reducible apply below_sg2; (first | exact Nat.le_refl _ | (simp; done) | omega))))))
      case' rest85 => (clear hK K; try simp only [List.getElem_toArray, List.getElem_cons_zero, List.getElem_cons_succ, Act.put, List.setIfInBounds_toArray, List.set_cons_zero, List.set_cons_succ])
      refine wpAnyH_take (i := 2) (oi := _) (v := ?v86) rfl (by kernel_rfl) (by kernel_rfl) (by kernel_rfl) (fun _ _ _ h => h) (Or.inl ⟨by rfl, ?hy86⟩) (by assumption) ?rest86
      case hy86 => ((intro w hSw; (try dsimp only at hSw); go_simp) <;> with_reducible rfl)
      case' rest86 => try simp only [List.getElem_toArray, List.getElem_cons_zero, List.getElem_cons_succ, Act.put, List.setIfInBounds_toArray, List.set_cons_zero, List.set_cons_succ]
      refine wpAnyH_take (i := 8) (oi := _) (v := ?v87) rfl (by kernel_rfl) (by kernel_rfl) (by kernel_rfl) (fun _ _ _ h => h) (Or.inl ⟨by rfl, ?hy87⟩) (by assumption) ?rest87
      case hy87 => ((intro w hSw; (try dsimp only at hSw); go_simp) <;> with_reducible rfl)
      case' rest87 => try simp only [List.getElem_toArray, List.getElem_cons_zero, List.getElem_cons_succ, Act.put, List.setIfInBounds_toArray, List.set_cons_zero, List.set_cons_succ]
      refine wpAnyH_take (i := 9) (oi := _) (v := ?v88) rfl (by kernel_rfl) (by kernel_rfl) (by kernel_rfl) (fun _ _ _ h => h) (Or.inl ⟨by rfl, ?hy88⟩) (by assumption) ?rest88
      case hy88 => ((intro w hSw; (try dsimp only at hSw); go_simp) <;> with_reducible rfl)
      case' rest88 => try simp only [List.getElem_toArray, List.getElem_cons_zero, List.getElem_cons_succ, Act.put, List.setIfInBounds_toArray, List.set_cons_zero, List.set_cons_succ]
      refine wpAnyH_ready (rs := [10]) (by kernel_rfl) (by simp) ?_
      refine AllReadyH.cons (o := _) rfl (fun K hK => ?_) AllReadyH.nil
      go_simp
      refine hK.out _ _ ?hS91 (fun hHeld => ?rest91)
      case hS91 => ((try dsimp only); (((try go_split_ands); refine sn_of ?_; repeat' (first | with_reducible assumption | with_reducible exact Below.refl _ _ | with_reducible apply below_alloc | with_reducible apply below_drew1 | with_reducible apply below_drewN | (with_reducible apply below_step; with_reducible assumption) | (with_reducible apply below_sg2; (first | exact Nat.le_refl _ | (simp; done) | omega))))))
      case' rest91 => (clear hK K; try simp only [List.getElem_toArray, List.getElem_cons_zero, List.getElem_cons_succ, Act.put, List.setIfInBounds_toArray, List.set_cons_zero, List.set_cons_succ])
      refine wpAnyH_ready (rs := [11]) (by kernel_rfl) (by simp) ?_
      refine AllReadyH.cons (o := _) rfl (fun K hK => ?_) AllReadyH.nil
      go_simp
      refine hK.out _ _ ?hS94 (fun hHeld => ?rest94)
      case hS94 => ((try dsimp only); (((try go_split_ands); refine sn_of ?_; repeat' (first | with_reducible assumption | with_reducible exact Below.refl _ _ | with_reducible apply below_alloc | with_reducible apply below_drew1 | with_reducible apply below_drewN | (with_reducible apply below_step; with_reducible assumption) | (with_reducible apply below_sg2; (first | exact Nat.le_refl _ | (simp; done) | omega))))))
      case' rest94 => (clear hK K; try simp only [List.getElem_toArray, List.getElem_cons_zero, List.getElem_cons_succ, Act.put, List.setIfInBounds_toArray, List.set_cons_zero, List.set_cons_succ])
      refine wpAnyH_done (by kernel_rfl) ?_ _
      have hEnd := hHeld.2
      repeat (clear hHeld)
      go_wp2_with fail
      go_meet
      exact ⟨W5.heap.size, rfl, zz5, HG5.out, HX5d.out⟩
    · go_simp
      refine hK.out _ _ ?hS96 (fun hHeld => ?rest96)
      case hS96 => ((try dsimp only); (((try go_split_ands); refine sn_of ?_; repeat' (first | with_reducible assumption | with_reducible exact Below.refl _ _ | with_reducible apply below_alloc | with_reducible apply below_drew1 | with_reducible apply below_drewN | (with_reducible apply below_step; with_reducible assumption) | (with_reducible apply below_sg2; (first | exact Nat.le_refl _ | (simp; done) | omega))))))
      case' rest96 => (clear hK K; try simp only [List.getElem_toArray, List.getElem_cons_zero, List.getElem_cons_succ, Act.put, List.setIfInBounds_toArray, List.set_cons_zero, List.set_cons_succ])
      refine wpAnyH_ready (rs := [1]) (by kernel_rfl) (by simp) ?_
      refine AllReadyH.cons (o := _) rfl (fun K hK => ?_) AllReadyH.nil
      go_simp
      refine (blk_total p pd ⟨mo, sz, nx, ((h2 : Nat) : Int), M.bl, ro, 6, ix, sub, b, sm⟩ A n1 c1 _ ((show Blk W5.drew p 73 _ from HX5.out.1.2.1).alloc _) HN1.out (by omega)).mono ?_
      rintro e w8 ⟨rfl, hw8⟩
      subst hw8
      rw [show btotal (BlkS.b ⟨mo, sz, nx, ((h2 : Nat) : Int), M.bl, ro, 6, ix, sub, b, sm⟩) = tot from HT.out.symm]
      dsimp only
      refine hK.out _ _ ?hS99 (fun hHeld => ?rest99)
      case hS99 => ((try dsimp only); (((try go_split_ands); refine sn_of ?_; repeat' (first | with_reducible assumption | with_reducible exact Below.refl _ _ | with_reducible apply below_alloc | with_reducible apply below_drew1 | with_reducible apply below_drewN | (with_reducible apply below_step; with_reducible assumption) | (with_reducible apply below_sg2; (first | exact Nat.le_refl _ | (simp; done) | omega))))))
      case' rest99 => (clear hK K; try simp only [List.getElem_toArray, List.getElem_cons_zero, List.getElem_cons_succ, Act.put, List.setIfInBounds_toArray, List.set_cons_zero, List.set_cons_succ])
      refine wpAnyH_take (i := 2) (oi := _) (v := ?v100) rfl (by kernel_rfl) (by kernel_rfl) (by kernel_rfl) (fun _ _ _ h => h) (Or.inl ⟨by rfl, ?hy100⟩) (by assumption) ?rest100
      case hy100 => ((intro w hSw; (try dsimp only at hSw); go_simp) <;> with_reducible rfl)
      case' rest100 => try simp only [List.getElem_toArray, List.getElem_cons_zero, List.getElem_cons_succ, Act.put, List.setIfInBounds_toArray, List.set_cons_zero, List.set_cons_succ]
      refine wpAnyH_take (i := 8) (oi := _) (v := ?v101) rfl (by kernel_rfl) (by kernel_rfl) (by kernel_rfl) (fun _ _ _ h => h) (Or.inl ⟨by rfl, ?hy101⟩) (by assumption) ?rest101
      case hy101 => ((intro w hSw; (try dsimp only at hSw); go_simp) <;> with_reducible rfl)
      case' rest101 => try simp only [List.getElem_toArray, List.getElem_cons_zero, List.getElem_cons_succ, Act.put, List.setIfInBounds_toArray, List.set_cons_zero, List.set_cons_succ]
      refine wpAnyH_take (i := 9) (oi := _) (v := ?v102) rfl (by kernel_rfl) (by kernel_rfl) (by kernel_rfl) (fun _ _ _ h => h) (Or.inl ⟨by rfl, ?hy102⟩) (by assumption) ?rest102
      case hy102 => ((intro w hSw; (try dsimp only at hSw); go_simp) <;> with_reducible rfl)
      case' rest102 => try simp only [List.getElem_toArray, List.getElem_cons_zero, List.getElem_cons_succ, Act.put, List.setIfInBounds_toArray, List.set_cons_zero, List.set_cons_succ]
      refine wpAnyH_ready (rs := [11]) (by kernel_rfl) (by simp) ?_
      refine AllReadyH.cons (o := _) rfl (fun K hK => ?_) AllReadyH.nil
      go_simp
      refine hK.out _ _ ?hS105 (fun hHeld => ?rest105)
      case hS105 => ((try dsimp only); (((try go_split_ands); refine sn_of ?_; repeat' (first | with_reducible assumption | with_reducible exact Below.refl _ _ | with_reducible apply below_alloc | with_reducible apply below_drew1 | with_reducible apply below_drewN | (with_reducible apply below_step; with_reducible assumption) | (with_reducible apply below_sg2; (first | exact Nat.le_refl _ | (simp; done) | omega))))))
      case' rest105 => (clear hK K; try simp only [List.getElem_toArray, List.getElem_cons_zero, List.getElem_cons_succ, Act.put, List.setIfInBounds_toArray, List.set_cons_zero, List.set_cons_succ])
      refine wpAnyH_done (by kernel_rfl) ?_ _
      have hEnd := hHeld.2
      repeat (clear hHeld)
      go_wp2_with fail
      go_meet
      exact ⟨W5.heap.size, rfl, zz5, HG5.out, HX5d.out⟩
  case rest =>
    obtain ⟨g, rfl, hgz, hGm, hXm⟩ := hcut
    have HGm0 := hide hGm
    have HXm := hide hXm
    have bb := hXm.1.2.1
    have zpc := bb.lt
    have zgc := hGm.lt
    have hgp : g ≠ p := by omega
    unfold bsrV at bb
    dsimp only at bb
    have bb_c0 := bb.cell 0 rfl
    have bb_f0 := bb.frozen 0
    have bb_c1 := bb.cell 1 rfl
    have bb_f1 := bb.frozen 1
    have bb_c2 := bb.cell 2 rfl
    have bb_f2 := bb.frozen 2
    have bb_c3 := bb.cell 3 rfl
    have bb_f3 := bb.frozen 3
    have bb_c4 := bb.cell 4 rfl
    have bb_f4 := bb.frozen 4
    have bb_c5 := bb.cell 5 rfl
    have bb_f5 := bb.frozen 5
    have bb_c6 := bb.cell 6 rfl
    have bb_f6 := bb.frozen 6
    have bb_c7 := bb.cell 7 rfl
    have bb_f7 := bb.frozen 7
    have bb_c8 := bb.cell 8 rfl
    have bb_f8 := bb.frozen 8
    have bb_c9 := bb.cell 9 rfl
    have bb_f9 := bb.frozen 9
    have bb_c10 := bb.cell 10 rfl
    have bb_f10 := bb.frozen 10
    have bb_c11 := bb.cell 11 rfl
    have bb_f11 := bb.frozen 11
    clear hXm hGm
    cases hsm : sm
    · subst hsm
      go_upto_region 13 with fail
      refine wp_gen (P := fun W9 => Blk W9 g 39 (msV (bendM ((em : Nat) : Int) 0) none 0 0) ∧ BXS w G p pd (KMO w M A3 m3 c3) ⟨mo, sz, nx, ((h2 : Nat) : Int), M.bl, ro, 6, ix, sub, b, false⟩ A n1 c1 b W9) ⟨HGm0.out, HXm.out⟩ (fun W9 hW9 => ?_)
      clear bb_c0 bb_f0 bb_c1 bb_f1 bb_c2 bb_f2 bb_c3 bb_f3 bb_c4 bb_f4 bb_c5 bb_f5 bb_c6 bb_f6 bb_c7 bb_f7 bb_c8 bb_f8 bb_c9 bb_f9 bb_c10 bb_f10 bb_c11 bb_f11
      clear HGm0 HXm bb
      obtain ⟨hG9, hX9⟩ := hW9
      have HGm := hide (Blk.new W9 39 (msV (bendM ((em : Nat) : Int) 0) none 0 0))
      have HX9 := hide (hX9.step (below_alloc (Below.refl _ _) (.cells (msV (bendM ((em : Nat) : Int) 0) none 0 0) 39)))
      have zz9 := hX9.1.2.2.2
      have zg9 := hG9.lt
      unfold msV bendM at HGm HX9 hG9
      have hG9_c0 := hG9.cell 0 rfl
      have hG9_f0 := hG9.frozen 0
      have hG9_c1 := hG9.cell 1 rfl
      have hG9_f1 := hG9.frozen 1
      have hG9_c2 := hG9.cell 2 rfl
      have hG9_f2 := hG9.frozen 2
      have hG9_c3 := hG9.cell 3 rfl
      have hG9_f3 := hG9.frozen 3
      have hG9_c4 := hG9.cell 4 rfl
      have hG9_f4 := hG9.frozen 4
      have hG9_c5 := hG9.cell 5 rfl
      have hG9_f5 := hG9.frozen 5
      have hG9_c6 := hG9.cell 6 rfl
      have hG9_f6 := hG9.frozen 6
      have hG9_c7 := hG9.cell 7 rfl
      have hG9_f7 := hG9.frozen 7
      have hG9_c8 := hG9.cell 8 rfl
      have hG9_f8 := hG9.frozen 8
      have hG9_c9 := hG9.cell 9 rfl
      have hG9_f9 := hG9.frozen 9
      have hG9_c10 := hG9.cell 10 rfl
      have hG9_f10 := hG9.frozen 10
      have hG9_c11 := hG9.cell 11 rfl
      have hG9_f11 := hG9.frozen 11
      have hG9_c12 := hG9.cell 12 rfl
      have hG9_f12 := hG9.frozen 12
      have hG9_c13 := hG9.cell 13 rfl
      have hG9_f13 := hG9.frozen 13
      clear hX9
      go_wp2_with fail
      refine (blk_send (some ⟨W9.heap.size, 0, none⟩) 1 1 _).mono ?_
      rintro e w6 ⟨rfl, hb6⟩
      have HX6 := hide (HX9.out.step hb6)
      have HG6 := hide (HGm.out.below hb6 HGm.out.lt)
      have k2 := HX6.out.1.out
      unfold outV outZ at k2
      unfold outV outZ
      dsimp only
      clear hG9_c0 hG9_f0 hG9_c1 hG9_f1 hG9_c2 hG9_f2 hG9_c3 hG9_f3 hG9_c4 hG9_f4 hG9_c5 hG9_f5 hG9_c6 hG9_f6 hG9_c7 hG9_f7 hG9_c8 hG9_f8 hG9_c9 hG9_f9 hG9_c10 hG9_f10 hG9_c11 hG9_f11 hG9_c12 hG9_f12 hG9_c13 hG9_f13
      have k2_c0 := k2.cell 0 rfl
      have k2_f0 := k2.frozen 0
      have k2_c1 := k2.cell 1 rfl
      have k2_f1 := k2.frozen 1
      have k2_c2 := k2.cell 2 rfl
      have k2_f2 := k2.frozen 2
      have k2_c3 := k2.cell 3 rfl
      have k2_f3 := k2.frozen 3
      have k2_c4 := k2.cell 4 rfl
      have k2_f4 := k2.frozen 4
      clear hb6 hG9
      go_wp2_with fail
      obtain ⟨F1, F2⟩ := bfin_send (fun _ => False) HX6.out.1.out zz9 (M := (bendM ((em : Nat) : Int) 0)) HG6.out (OwnB.nil _ _) (FIn.nil _) (HX6.out.bv rfl HN1.out hc1 HAN.out) HX6.out.1.1 hz
      rw [show (bendM ((em : Nat) : Int) 0) = (bendM ((em : Nat) : Int) sumv) by rw [HSV.out]; simp] at F2
      rw [← HP.out] at F2
      unfold putO outZ at F1 F2
      dsimp only at F1 F2
      refine ret_out (O := ⟨[], false, 0, 0, []⟩) rfl rfl rfl F1 ?_
      exact F2
    · subst hsm
      go_wp2_with fail
      refine (sum16_sum A n1 c1 b _ HN1.out (by omega) HXm.out.2.1).mono ?_
      rintro e w7 ⟨rfl, hb7⟩
      have hG7 := HGm0.out.below hb7 HGm0.out.lt
      have HG7 := hide hG7
      have HX7 := hide (HXm.out.step hb7)
      have zg7 := hG7.lt
      have HGs := hide (hG7.set_ 13 (.int .u16 (sum16L b : Nat)))
      have HXs : Hid (BXS w G p pd (KMO w M A3 m3 c3) ⟨mo, sz, nx, ((h2 : Nat) : Int), M.bl, ro, 6, ix, sub, b, true⟩ A n1 c1 b (w7.setCell ⟨g, 13, none⟩ (.int .u16 (sum16L b : Nat)))) := hide ⟨⟨HX7.out.1.1.setNew (by omega) _, HX7.out.1.2.1.far (show p ≠ g by omega) _, fun q t cs hq => ⟨(HX7.out.1.2.2.1 q t cs hq).1, (HX7.out.1.2.2.1 q t cs hq).2.far (show q ≠ g by rcases hq with ⟨h1, _⟩ | ⟨h1, _⟩ <;> omega) _⟩, by have := HX7.out.1.2.2.2; simp [World.setCell]; omega⟩, sl_blk HX7.out.2.1 (fun ad e => Below.heap_setCell _ _ _ _ (show ad.block ≠ g by have := (HAG.out ad e).2.1; omega)), fun ad e => ⟨(HX7.out.2.2 ad e).1, by have := (HX7.out.2.2 ad e).2.1; simp [World.setCell]; omega, (HX7.out.2.2 ad e).2.2⟩⟩
      clear bb_c0 bb_f0 bb_c1 bb_f1 bb_c2 bb_f2 bb_c3 bb_f3 bb_c4 bb_f4 bb_c5 bb_f5 bb_c6 bb_f6 bb_c7 bb_f7 bb_c8 bb_f8 bb_c9 bb_f9 bb_c10 bb_f10 bb_c11 bb_f11
      clear bb hb7
      unfold msV bendM at hG7
      have hG7_c0 := hG7.cell 0 rfl
      have hG7_f0 := hG7.frozen 0
      have hG7_c1 := hG7.cell 1 rfl
      have hG7_f1 := hG7.frozen 1
      have hG7_c2 := hG7.cell 2 rfl
      have hG7_f2 := hG7.frozen 2
      have hG7_c3 := hG7.cell 3 rfl
      have hG7_f3 := hG7.frozen 3
      have hG7_c4 := hG7.cell 4 rfl
      have hG7_f4 := hG7.frozen 4
      have hG7_c5 := hG7.cell 5 rfl
      have hG7_f5 := hG7.frozen 5
      have hG7_c6 := hG7.cell 6 rfl
      have hG7_f6 := hG7.frozen 6
      have hG7_c7 := hG7.cell 7 rfl
      have hG7_f7 := hG7.frozen 7
      have hG7_c8 := hG7.cell 8 rfl
      have hG7_f8 := hG7.frozen 8
      have hG7_c9 := hG7.cell 9 rfl
      have hG7_f9 := hG7.frozen 9
      have hG7_c10 := hG7.cell 10 rfl
      have hG7_f10 := hG7.frozen 10
      have hG7_c11 := hG7.cell 11 rfl
      have hG7_f11 := hG7.frozen 11
      have hG7_c12 := hG7.cell 12 rfl
      have hG7_f12 := hG7.frozen 12
      have hG7_c13 := hG7.cell 13 rfl
      have hG7_f13 := hG7.frozen 13
      go_upto_region 13 with fail
      refine wp_gen (P := fun W9 => Blk W9 g 39 (msV (bendM ((em : Nat) : Int) (sum16L b)) none 0 0) ∧ BXS w G p pd (KMO w M A3 m3 c3) ⟨mo, sz, nx, ((h2 : Nat) : Int), M.bl, ro, 6, ix, sub, b, true⟩ A n1 c1 b W9) ⟨HGs.out, HXs.out⟩ (fun W9 hW9 => ?_)
      clear hG7_c0 hG7_f0 hG7_c1 hG7_f1 hG7_c2 hG7_f2 hG7_c3 hG7_f3 hG7_c4 hG7_f4 hG7_c5 hG7_f5 hG7_c6 hG7_f6 hG7_c7 hG7_f7 hG7_c8 hG7_f8 hG7_c9 hG7_f9 hG7_c10 hG7_f10 hG7_c11 hG7_f11 hG7_c12 hG7_f12 hG7_c13 hG7_f13
      clear HGm0 HXm HG7 HX7 HGs HXs hG7
      obtain ⟨hG9, hX9⟩ := hW9
      have HGm := hide (Blk.new W9 39 (msV (bendM ((em : Nat) : Int) (sum16L b)) none 0 0))
      have HX9 := hide (hX9.step (below_alloc (Below.refl _ _) (.cells (msV (bendM ((em : Nat) : Int) (sum16L b)) none 0 0) 39)))
      have zz9 := hX9.1.2.2.2
      have zg9 := hG9.lt
      unfold msV bendM at HGm HX9 hG9
      have hG9_c0 := hG9.cell 0 rfl
      have hG9_f0 := hG9.frozen 0
      have hG9_c1 := hG9.cell 1 rfl
      have hG9_f1 := hG9.frozen 1
      have hG9_c2 := hG9.cell 2 rfl
      have hG9_f2 := hG9.frozen 2
      have hG9_c3 := hG9.cell 3 rfl
      have hG9_f3 := hG9.frozen 3
      have hG9_c4 := hG9.cell 4 rfl
      have hG9_f4 := hG9.frozen 4
      have hG9_c5 := hG9.cell 5 rfl
      have hG9_f5 := hG9.frozen 5
      have hG9_c6 := hG9.cell 6 rfl
      have hG9_f6 := hG9.frozen 6
      have hG9_c7 := hG9.cell 7 rfl
      have hG9_f7 := hG9.frozen 7
      have hG9_c8 := hG9.cell 8 rfl
      have hG9_f8 := hG9.frozen 8
      have hG9_c9 := hG9.cell 9 rfl
      have hG9_f9 := hG9.frozen 9
      have hG9_c10 := hG9.cell 10 rfl
      have hG9_f10 := hG9.frozen 10
      have hG9_c11 := hG9.cell 11 rfl
      have hG9_f11 := hG9.frozen 11
      have hG9_c12 := hG9.cell 12 rfl
      have hG9_f12 := hG9.frozen 12
      have hG9_c13 := hG9.cell 13 rfl
      have hG9_f13 := hG9.frozen 13
      clear hX9
      go_wp2_with fail
      refine (blk_send (some ⟨W9.heap.size, 0, none⟩) 1 1 _).mono ?_
      rintro e w6 ⟨rfl, hb6⟩
      have HX6 := hide (HX9.out.step hb6)
      have HG6 := hide (HGm.out.below hb6 HGm.out.lt)
      have k2 := HX6.out.1.out
      unfold outV outZ at k2
      unfold outV outZ
      dsimp only
      clear hG9_c0 hG9_f0 hG9_c1 hG9_f1 hG9_c2 hG9_f2 hG9_c3 hG9_f3 hG9_c4 hG9_f4 hG9_c5 hG9_f5 hG9_c6 hG9_f6 hG9_c7 hG9_f7 hG9_c8 hG9_f8 hG9_c9 hG9_f9 hG9_c10 hG9_f10 hG9_c11 hG9_f11 hG9_c12 hG9_f12 hG9_c13 hG9_f13
      have k2_c0 := k2.cell 0 rfl
      have k2_f0 := k2.frozen 0
      have k2_c1 := k2.cell 1 rfl
      have k2_f1 := k2.frozen 1
      have k2_c2 := k2.cell 2 rfl
      have k2_f2 := k2.frozen 2
      have k2_c3 := k2.cell 3 rfl
      have k2_f3 := k2.frozen 3
      have k2_c4 := k2.cell 4 rfl
      have k2_f4 := k2.frozen 4
      clear hb6 hG9
      go_wp2_with fail
      obtain ⟨F1, F2⟩ := bfin_send (fun _ => False) HX6.out.1.out zz9 (M := (bendM ((em : Nat) : Int) (sum16L b))) HG6.out (OwnB.nil _ _) (FIn.nil _) (HX6.out.bv rfl HN1.out hc1 HAN.out) HX6.out.1.1 hz
      rw [show (bendM ((em : Nat) : Int) (sum16L b)) = (bendM ((em : Nat) : Int) sumv) by rw [HSV.out]; simp] at F2
      rw [← HP.out] at F2
      unfold putO outZ at F1 F2
      dsimp only at F1 F2
      refine ret_out (O := ⟨[], false, 0, 0, []⟩) rfl rfl rfl F1 ?_
      exact F2
end Go.Proofs.Ytimdmhhgomfijaa
