/- Package block: part. -/
import Derived.Test.YtimdmhhgomfijaaBlkD
namespace Go.Proofs.Ytimdmhhgomfijaa
set_option linter.unusedVariables false
set_option linter.unusedSimpArgs false
set_option linter.unnecessarySimpa false
open Go.RowKit
set_option maxRecDepth 100000
set_option maxHeartbeats 4000000
/-- .. and the server's bytes -/
def BXS (w : World) (G : Nat → Prop) (p pd : Nat) (K : Nat → TypeId → Array Value → Prop) (S : BlkS) (A : Option Addr) (n c : Nat) (b : List UInt8) (W : World) : Prop :=
  BX w p pd K S A n c W ∧ Sl W A (b.map bv) ∧ ∀ ad, A = some ad → (G ad.block ∨ w.heap.size ≤ ad.block) ∧ ad.block < W.heap.size ∧ ad.block ≠ p ∧ ad.block ≠ w.heap.size + 1
section
variable {w W W' : World} {G : Nat → Prop} {p pd : Nat} {K : Nat → TypeId → Array Value → Prop} {S S' : BlkS} {A A' : Option Addr} {n c n' c' : Nat} {b b' : List UInt8}
theorem BXS.step (h : BXS w G p pd K S A n c b W) (hb : Below W.heap.size W W') : BXS w G p pd K S A n c b W' :=
  ⟨h.1.step hb, h.2.1.below hb, fun ad e => ⟨(h.2.2 ad e).1, Nat.lt_of_lt_of_le (h.2.2 ad e).2.1 hb.size, (h.2.2 ad e).2.2⟩⟩
theorem BXS.sets (h : BXS w G p pd K S A n c b W) (vs : List Value) (o : Nat) (hl : o + vs.length ≤ 12) (he : ((bsrV S pd A n c).toList.take o ++ vs ++ (bsrV S pd A n c).toList.drop (o + vs.length)).toArray = bsrV S' pd A n c) : BXS w G p pd K S' A n c b (W.setCells p o vs) :=
  ⟨h.1.sets vs o hl he, sl_blk h.2.1 (fun ad e => (only_sets (F := fun q => q = p) rfl vs o (Only.refl _ W)).block ad.block (h.2.2 ad e).2.1 (h.2.2 ad e).2.2.1), fun ad e => ⟨(h.2.2 ad e).1, by rw [size_sets]; exact (h.2.2 ad e).2.1, (h.2.2 ad e).2.2⟩⟩
/-- the bytes are stored -/
theorem BX.put (h : BX w p pd K S A n c W) (he : ((bsrV S pd A n c).toList.take 10 ++ ([.slice A' n' c'] : List Value) ++ (bsrV S pd A n c).toList.drop 11).toArray = bsrV S' pd A' n' c') (hs : Sl W A' (b'.map bv)) (hA : ∀ ad, A' = some ad → (G ad.block ∨ w.heap.size ≤ ad.block) ∧ ad.block < W.heap.size ∧ ad.block ≠ p ∧ ad.block ≠ w.heap.size + 1) : BXS w G p pd K S' A' n' c' b' (W.setCells p 10 [.slice A' n' c']) :=
  ⟨h.sets [.slice A' n' c'] 10 (by simp) he, sl_blk hs (fun ad e => (only_sets (F := fun q => q = p) rfl [.slice A' n' c'] 10 (Only.refl _ W)).block ad.block (hA ad e).2.1 (hA ad e).2.2.1), fun ad e => ⟨(hA ad e).1, by rw [size_sets]; exact (hA ad e).2.1, (hA ad e).2.2⟩⟩
theorem BXS.drew (h : BXS w G p pd K S A n c b W) : BXS w G p pd K S A n c b W.drew := ⟨h.1.drew, h.2.1, h.2.2⟩
theorem BXS.bv (h : BXS w G p pd K S A n c b W) (hb : b = S.b) (hn : n = S.b.length) (hc : n ≤ c) (hAn : A = none → n = 0) : BV_ W (fun q => ((G q ∨ w.heap.size ≤ q) ∧ ¬ False) ∧ q ≠ w.heap.size + 1) p pd S :=
  ⟨A, n, c, h.1.2.1, fun _ => ⟨hn, hc, by rw [← hb]; exact h.2.1, hAn, fun ad e => ⟨⟨⟨(h.2.2 ad e).1, id⟩, (h.2.2 ad e).2.2.2⟩, (h.2.2 ad e).2.1, (h.2.2 ad e).2.2.1⟩⟩⟩
end
theorem blk_part (p pd : Nat) (S : BlkS) (G : Nat → Prop) (M : Ms) (A3 : Option Addr) (m3 c3 : Nat) (w : World) (hS : BV_ w G p pd S) (h1 : S.st = 1) (h256 : S.b.length ≤ 100000) (hnx : 0 ≤ S.nx ∧ S.nx ≤ 1000) (hmo : 0 ≤ S.mo ∧ S.mo ≤ 100000) (hm : m3 = M.data.length) (hm1 : m3 ≤ 100000) (hMd : ∀ W, Only (fun q => q = p) w W → Sl W A3 (M.data.map bv)) :
    Calls Try.prog 45 #[.pointer (some ⟨p, 0, none⟩), .agg (msV M A3 m3 c3)] w (BOutR w G p pd (bpartS S M) (bpartO S M)) := by
  obtain ⟨mo, sz, nx, ha, ta, ro, st, ix, sub, b, sm⟩ := S
  obtain rfl : st = 1 := h1
  obtain ⟨A, n1, c1, hB, hby⟩ := id hS
  obtain ⟨hn1, hc1, hsl, hAn, hAG⟩ := hby (show (1 : Int) ≠ 0 by decide)
  obtain ⟨P, hP⟩ : ∃ P, P = BOutR w G p pd (bpartS ⟨mo, sz, nx, ha, ta, ro, 1, ix, sub, b, sm⟩ M) (bpartO ⟨mo, sz, nx, ha, ta, ro, 1, ix, sub, b, sm⟩ M) := ⟨_, rfl⟩
  rw [← hP]
  have HP := hide hP
  have hz := hB.lt
  replace hn1 : n1 = b.length := hn1
  replace h256 : b.length ≤ 100000 := h256
  replace hnx : 0 ≤ nx ∧ nx ≤ 1000 := hnx
  replace hmo : 0 ≤ mo ∧ mo ≤ 100000 := hmo
  obtain ⟨hnx0, hnx1⟩ := hnx
  obtain ⟨hmo0, hmo1⟩ := hmo
  have HN1 := hide hn1
  have HAN := hide hAn
  have HM := hide hm
  have HMD := hide hMd
  have hne1 : p ≠ w.heap.size + 1 := by omega
  have hne0 : w.heap.size ≠ p := by omega
  have hbn : n1 ≤ 100000 := by omega
  have HAG := hide hAG
  have HX : Hid (BXS w G p pd (KMO w M A3 m3 c3) ⟨mo, sz, nx, ha, ta, ro, 1, ix, sub, b, sm⟩ A n1 c1 b _) := hide ⟨bx_mk M A3 m3 c3 hB, (hsl.alloc _).alloc _, fun ad e => ⟨.inl (hAG ad e).1, by have := (hAG ad e).2.1; simp; omega, (hAG ad e).2.2, by have := (hAG ad e).2.1; omega⟩⟩
  clear hP hS hB hby hn1 hsl hAn h256 hm hMd hAG
  unfold msV outV outZ at HX
  unfold msV
  by_cases h16 : 16 < M.sq
  · go_enter Try.func45, Try.ntmps45
    go_upto_region 1 with fail
    refine wp_gen (P := BXS w G p pd (KMO w M A3 m3 c3) ⟨mo, sz, nx, ha, ta, ro, 1, ix, sub, b, sm⟩ A n1 c1 b) HX.out (fun W hW => ?_)
    clear HX
    have HXW := hide hW
    have k1 := hW.1.msg
    have zk1 := k1.lt
    have zo1 := hW.1.out.lt
    unfold msV at k1
    have k1_c0 := k1.cell 0 rfl
    have k1_f0 := k1.frozen 0
    have k1_c1 := k1.cell 1 rfl
    have k1_f1 := k1.frozen 1
    have k1_c2 := k1.cell 2 rfl
    have k1_f2 := k1.frozen 2
    have k1_c3 := k1.cell 3 rfl
    have k1_f3 := k1.frozen 3
    have k1_c4 := k1.cell 4 rfl
    have k1_f4 := k1.frozen 4
    have k1_c5 := k1.cell 5 rfl
    have k1_f5 := k1.frozen 5
    have k1_c6 := k1.cell 6 rfl
    have k1_f6 := k1.frozen 6
    have k1_c7 := k1.cell 7 rfl
    have k1_f7 := k1.frozen 7
    have k1_c8 := k1.cell 8 rfl
    have k1_f8 := k1.frozen 8
    have k1_c9 := k1.cell 9 rfl
    have k1_f9 := k1.frozen 9
    have k1_c10 := k1.cell 10 rfl
    have k1_f10 := k1.frozen 10
    have k1_c11 := k1.cell 11 rfl
    have k1_f11 := k1.frozen 11
    have k1_c12 := k1.cell 12 rfl
    have k1_f12 := k1.frozen 12
    have k1_c13 := k1.cell 13 rfl
    have k1_f13 := k1.frozen 13
    clear hW
    have HR : Hid (P = BOutR w G p pd (blkIdle ⟨mo, sz, nx, ha, ta, ro, 1, ix, sub, b, sm⟩) (outM (abM ix sub 84148227))) := hide (by
      have hpc : bpcode ⟨mo, sz, nx, ha, ta, ro, 1, ix, sub, b, sm⟩ M = 84148227 := by unfold bpcode; rw [if_pos h16]
      rw [HP.out]
      congr 1
      · unfold bpartS; rw [if_pos h16]; rfl
      · unfold bpartO bAbortL; rw [hpc, if_pos (by decide), if_neg (show ¬ (1 : Int) = 0 by decide)]; rfl)
    go_wp2_with fail
    refine (blk_abort p pd ⟨mo, sz, nx, ha, ta, ro, 1, ix, sub, b, sm⟩ 84148227 A n1 c1 _ HXW.out.1.2.1 (show (1 : Int) ≠ 0 by decide)).mono ?_
    rintro e w5 ⟨g, hg, rfl, hBg, hBp, ho⟩
    have hgz : w.heap.size + 2 ≤ g := Nat.le_trans HXW.out.1.2.2.2 hg
    have k2 := blk_only HXW.out.1.out ho (fun e => hne1 e.symm)
    have HK2 := hide k2
    have HBG := hide hBg
    have HS5 : Hid (BV_ w5 (fun q => ((G q ∨ w.heap.size ≤ q) ∧ ¬ False) ∧ q ≠ w.heap.size + 1) p pd (blkIdle ⟨mo, sz, nx, ha, ta, ro, 1, ix, sub, b, sm⟩)) := hide (bv_idle hBp)
    have HO5 := hide (HXW.out.1.1.trans ho (fun _ _ h => h))
    unfold outV outZ at k2
    unfold outV outZ
    dsimp only
    have k2_c0 := k2.cell 0 rfl
    have k2_f0 := k2.frozen 0
    have k2_c1 := k2.cell 1 rfl
    have k2_f1 := k2.frozen 1
    have k2_c2 := k2.cell 2 rfl
    have k2_f2 := k2.frozen 2
    have k2_c3 := k2.cell 3 rfl
    have k2_f3 := k2.frozen 3
    have k2_c4 := k2.cell 4 rfl
    have k2_f4 := k2.frozen 4
    clear hBg hBp ho
    go_wp2_with fail
    obtain ⟨F1, F2⟩ := bfin_send (fun _ => False) HK2.out hgz (M := abM ix sub 84148227) HBG.out (OwnB.nil _ _) (FIn.nil _) HS5.out HO5.out hz
    rw [← HR.out] at F2
    clear HR
    unfold putO outZ at F1 F2
    dsimp only at F1 F2
    refine ret_out (O := ⟨[], false, 0, 0, []⟩) rfl rfl rfl F1 ?_
    exact F2
  · go_enter Try.func45, Try.ntmps45
    go_upto_region 1 with fail
    refine wp_gen (P := BXS w G p pd (KMO w M A3 m3 c3) ⟨mo, sz, nx, ha, ta, ro, 1, ix, sub, b, sm⟩ A n1 c1 b) HX.out (fun W hW => ?_)
    clear HX
    have HXW := hide hW
    have k1 := hW.1.msg
    have zk1 := k1.lt
    have zo1 := hW.1.out.lt
    have zW := hW.1.2.1.lt
    have b2 : W.cell? ⟨p, 2, none⟩ = some (.int .i64 nx) := hW.1.2.1.cell 2 rfl
    unfold msV at k1
    have k1_c0 := k1.cell 0 rfl
    have k1_f0 := k1.frozen 0
    have k1_c1 := k1.cell 1 rfl
    have k1_f1 := k1.frozen 1
    have k1_c2 := k1.cell 2 rfl
    have k1_f2 := k1.frozen 2
    have k1_c3 := k1.cell 3 rfl
    have k1_f3 := k1.frozen 3
    have k1_c4 := k1.cell 4 rfl
    have k1_f4 := k1.frozen 4
    have k1_c5 := k1.cell 5 rfl
    have k1_f5 := k1.frozen 5
    have k1_c6 := k1.cell 6 rfl
    have k1_f6 := k1.frozen 6
    have k1_c7 := k1.cell 7 rfl
    have k1_f7 := k1.frozen 7
    have k1_c8 := k1.cell 8 rfl
    have k1_f8 := k1.frozen 8
    have k1_c9 := k1.cell 9 rfl
    have k1_f9 := k1.frozen 9
    have k1_c10 := k1.cell 10 rfl
    have k1_f10 := k1.frozen 10
    have k1_c11 := k1.cell 11 rfl
    have k1_f11 := k1.frozen 11
    have k1_c12 := k1.cell 12 rfl
    have k1_f12 := k1.frozen 12
    have k1_c13 := k1.cell 13 rfl
    have k1_f13 := k1.frozen 13
    clear hW
    go_upto_region 3 with fail
    by_cases hsq : M.sq = nx
    · have hse : (M.sq == nx) = true := by simp [hsq]
      have HSQ := hide hsq
      clear hsq
      refine wp_region_held_drew (S := (fun w' => (∀ qA : Addr, qA.block < (W).heap.size → w'.cell? qA = (W).cell? qA) ∧ Below (W).heap.size (W) w')) (by kernel_rfl) ?hS1 (fun hHeld => ?rest1)
      case hS1 => ((try dsimp only); (((try go_split_ands); refine sn_of ?_; repeat' (first | with_reducible assumption | with_reducible exact Below.refl _ _ | with_reducible apply below_alloc | with_reducible apply below_drew1 | with_reducible apply below_drewN | (with_reducible apply below_step; with_reducible assumption) | (with_reducible apply below_sg2; (first | exact Nat.le_refl _ | (simp; done) | omega))))))
      case' rest1 => skip
      refine wpAnyH_take (i := 0) (oi := _) (v := ?v2) rfl (by kernel_rfl) (by kernel_rfl) (by kernel_rfl) (fun _ _ _ h => h) (Or.inl ⟨by rfl, ?hy2⟩) (by assumption) ?rest2
      case hy2 => ((intro w hSw; (try dsimp only at hSw); go_simp) <;> with_reducible rfl)
      case' rest2 => try simp only [List.getElem_toArray, List.getElem_cons_zero, List.getElem_cons_succ, Act.put, List.setIfInBounds_toArray, List.set_cons_zero, List.set_cons_succ]
      refine wpAnyH_take (i := 1) (oi := _) (v := ?v3) rfl (by kernel_rfl) (by kernel_rfl) (by kernel_rfl) (fun _ _ _ h => h) (Or.inl ⟨by rfl, ?hy3⟩) (by assumption) ?rest3
      case hy3 => ((intro w hSw; (try dsimp only at hSw); go_simp) <;> with_reducible rfl)
      case' rest3 => try simp only [List.getElem_toArray, List.getElem_cons_zero, List.getElem_cons_succ, Act.put, List.setIfInBounds_toArray, List.set_cons_zero, List.set_cons_succ]
      refine wpAnyH_take (i := 2) (oi := _) (v := ?v4) rfl (by kernel_rfl) (by kernel_rfl) (by kernel_rfl) (fun _ _ _ h => h) (Or.inl ⟨by rfl, ?hy4⟩) (by assumption) ?rest4
      case hy4 => ((intro w hSw; (try dsimp only at hSw); go_simp) <;> with_reducible rfl)
      case' rest4 => try simp only [List.getElem_toArray, List.getElem_cons_zero, List.getElem_cons_succ, Act.put, List.setIfInBounds_toArray, List.set_cons_zero, List.set_cons_succ]
      refine wpAnyH_take (i := 3) (oi := _) (v := ?v5) rfl (by kernel_rfl) (by kernel_rfl) (by kernel_rfl) (fun _ _ _ h => h) (Or.inl ⟨by rfl, ?hy5⟩) (by assumption) ?rest5
      case hy5 => ((intro w hSw; (try dsimp only at hSw); go_simp) <;> with_reducible rfl)
      case' rest5 => try simp only [List.getElem_toArray, List.getElem_cons_zero, List.getElem_cons_succ, Act.put, List.setIfInBounds_toArray, List.set_cons_zero, List.set_cons_succ]
      refine wpAnyH_take (i := 4) (oi := _) (v := ?v6) rfl (by kernel_rfl) (by kernel_rfl) (by kernel_rfl) (fun _ _ _ h => h) (Or.inl ⟨by rfl, ?hy6⟩) (by assumption) ?rest6
      case hy6 => ((intro w hSw; (try dsimp only at hSw); go_simp) <;> with_reducible rfl)
      case' rest6 => try simp only [List.getElem_toArray, List.getElem_cons_zero, List.getElem_cons_succ, Act.put, List.setIfInBounds_toArray, List.set_cons_zero, List.set_cons_succ]
      refine wpAnyH_take (i := 5) (oi := _) (v := ?v7) rfl (by kernel_rfl) (by kernel_rfl) (by kernel_rfl) (fun _ _ _ h => h) (Or.inl ⟨by rfl, ?hy7⟩) (by assumption) ?rest7
      case hy7 => ((intro w hSw; (try dsimp only at hSw); go_simp) <;> with_reducible rfl)
      case' rest7 => try simp only [List.getElem_toArray, List.getElem_cons_zero, List.getElem_cons_succ, Act.put, List.setIfInBounds_toArray, List.set_cons_zero, List.set_cons_succ]
      refine wpAnyH_take (i := 6) (oi := _) (v := ?v8) rfl (by kernel_rfl) (by kernel_rfl) (by kernel_rfl) (fun _ _ _ h => h) (Or.inl ⟨by rfl, ?hy8⟩) (by assumption) ?rest8
      case hy8 => ((intro w hSw; (try dsimp only at hSw); go_simp) <;> with_reducible rfl)
      case' rest8 => try simp only [List.getElem_toArray, List.getElem_cons_zero, List.getElem_cons_succ, Act.put, List.setIfInBounds_toArray, List.set_cons_zero, List.set_cons_succ]
      refine wpAnyH_take (i := 7) (oi := _) (v := ?v9) rfl (by kernel_rfl) (by kernel_rfl) (by kernel_rfl) (fun _ _ _ h => h) (Or.inl ⟨by rfl, ?hy9⟩) (by assumption) ?rest9
      case hy9 => ((intro w hSw; (try dsimp only at hSw); go_simp) <;> with_reducible rfl)
      case' rest9 => try simp only [List.getElem_toArray, List.getElem_cons_zero, List.getElem_cons_succ, Act.put, List.setIfInBounds_toArray, List.set_cons_zero, List.set_cons_succ]
      refine wpAnyH_done (by kernel_rfl) ?_ _
      have hEnd := hHeld.2
      repeat (clear hHeld)
      clear hEnd
      go_upto_region 4 with fail
      refine wp_gen (P := BXS w G p pd (KMO w M A3 m3 c3) ⟨mo, sz, nx, ha, ta, ro, 1, ix, sub, b, sm⟩ A n1 c1 b) HXW.out.drew (fun W1 hW1 => ?_)
      clear k1_c0 k1_f0 k1_c1 k1_f1 k1_c2 k1_f2 k1_c3 k1_f3 k1_c4 k1_f4 k1_c5 k1_f5 k1_c6 k1_f6 k1_c7 k1_f7 k1_c8 k1_f8 k1_c9 k1_f9 k1_c10 k1_f10 k1_c11 k1_f11 k1_c12 k1_f12 k1_c13 k1_f13
      clear HXW k1 zk1 zo1 zW b2
      have HX1 := hide hW1
      have g6 : W1.cell? ⟨p, 10, none⟩ = some (.slice A n1 c1) := hW1.1.2.1.cell 10 rfl
      have g9 : W1.cell? ⟨w.heap.size, 9, none⟩ = some (.slice A3 m3 c3) := hW1.1.msg.cell 9 rfl
      have zp1 := hW1.1.2.1.lt
      have zk1 := hW1.1.msg.lt
      have HMD1 := hide (HMD.out W1 hW1.1.1)
      have hz1 := hW1.1.1.size
      have hcut := fun W => cuthm_b A n1 c1 n1 n1 (n1 : Int) (n1 : Int) .i64 .i64 rfl rfl (Nat.le_refl _) hc1 W
      clear hW1
      refine wp_region_T (fun w' => w'.cell? ⟨p, 10, none⟩ = some (.slice A n1 c1) ∧ w'.cell? ⟨w.heap.size, 9, none⟩ = some (.slice A3 m3 c3)) [0, 1, 2, 3, 4, 5, 6, 7, 8, 9, 10, 11, 12, 13, 14, 15, 16, 17, 19, 20] (by kernel_rfl) ?hS11 (fun hHeld => ?rest11)
      case hS11 => ((try dsimp only); exact ⟨g6, g9⟩)
      case' rest11 => skip
      refine wpAnyT_take (by kernel_rfl) (by kernel_rfl) (i := 0) (oi := _) (v := ?v12) rfl (by kernel_rfl) (by kernel_rfl) (by kernel_rfl) (fun _ _ _ h => h) (Or.inl ⟨by rfl, ?hy12⟩) (by assumption) ?rest12
      case hy12 => ((intro w hSw; (try dsimp only at hSw); go_simp) <;> with_reducible rfl)
      case' rest12 => try simp only [List.getElem_toArray, List.getElem_cons_zero, List.getElem_cons_succ, Act.put, List.setIfInBounds_toArray, List.set_cons_zero, List.set_cons_succ]
      refine wpAnyT_take (by kernel_rfl) (by kernel_rfl) (i := 1) (oi := _) (v := ?v13) rfl (by kernel_rfl) (by kernel_rfl) (by kernel_rfl) (fun _ _ _ h => h) (Or.inl ⟨by rfl, ?hy13⟩) (by assumption) ?rest13
      case hy13 => ((intro w hSw; (try dsimp only at hSw); go_simp) <;> with_reducible rfl)
      case' rest13 => try simp only [List.getElem_toArray, List.getElem_cons_zero, List.getElem_cons_succ, Act.put, List.setIfInBounds_toArray, List.set_cons_zero, List.set_cons_succ]
      refine wpAnyT_take (by kernel_rfl) (by kernel_rfl) (i := 2) (oi := _) (v := ?v14) rfl (by kernel_rfl) (by kernel_rfl) (by kernel_rfl) (fun _ _ _ h => h) (Or.inl ⟨by rfl, ?hy14⟩) (by assumption) ?rest14
      case hy14 => ((intro w hSw; (try dsimp only at hSw); go_simp) <;> with_reducible rfl)
      case' rest14 => try simp only [List.getElem_toArray, List.getElem_cons_zero, List.getElem_cons_succ, Act.put, List.setIfInBounds_toArray, List.set_cons_zero, List.set_cons_succ]
      refine wpAnyT_take (by kernel_rfl) (by kernel_rfl) (i := 3) (oi := _) (v := ?v15) rfl (by kernel_rfl) (by kernel_rfl) (by kernel_rfl) (fun _ _ _ h => h) (Or.inl ⟨by rfl, ?hy15⟩) (by assumption) ?rest15
      case hy15 => ((intro w hSw; (try dsimp only at hSw); go_simp) <;> with_reducible rfl)
      case' rest15 => try simp only [List.getElem_toArray, List.getElem_cons_zero, List.getElem_cons_succ, Act.put, List.setIfInBounds_toArray, List.set_cons_zero, List.set_cons_succ]
      refine wpAnyT_take (by kernel_rfl) (by kernel_rfl) (i := 4) (oi := _) (v := ?v16) rfl (by kernel_rfl) (by kernel_rfl) (by kernel_rfl) (fun _ _ _ h => h) (Or.inl ⟨by rfl, ?hy16⟩) (by assumption) ?rest16
      case hy16 => ((intro w hSw; (try dsimp only at hSw); go_simp) <;> with_reducible rfl)
      case' rest16 => try simp only [List.getElem_toArray, List.getElem_cons_zero, List.getElem_cons_succ, Act.put, List.setIfInBounds_toArray, List.set_cons_zero, List.set_cons_succ]
      refine wpAnyT_take (by kernel_rfl) (by kernel_rfl) (i := 5) (oi := _) (v := ?v17) rfl (by kernel_rfl) (by kernel_rfl) (by kernel_rfl) (fun _ _ _ h => h) (Or.inl ⟨by rfl, ?hy17⟩) (by assumption) ?rest17
      case hy17 => ((intro w hSw; (try dsimp only at hSw); go_simp) <;> with_reducible rfl)
      case' rest17 => try simp only [List.getElem_toArray, List.getElem_cons_zero, List.getElem_cons_succ, Act.put, List.setIfInBounds_toArray, List.set_cons_zero, List.set_cons_succ]
      refine wpAnyT_take (by kernel_rfl) (by kernel_rfl) (i := 6) (oi := _) (v := ?v18) rfl (by kernel_rfl) (by kernel_rfl) (by kernel_rfl) (fun _ _ _ h => h) (Or.inl ⟨by rfl, ?hy18⟩) (by assumption) ?rest18
      case hy18 => ((intro w hSw; (try dsimp only at hSw); go_simp) <;> with_reducible rfl)
      case' rest18 => try simp only [List.getElem_toArray, List.getElem_cons_zero, List.getElem_cons_succ, Act.put, List.setIfInBounds_toArray, List.set_cons_zero, List.set_cons_succ]
      refine wpAnyT_take (by kernel_rfl) (by kernel_rfl) (i := 7) (oi := _) (v := ?v19) rfl (by kernel_rfl) (by kernel_rfl) (by kernel_rfl) (fun _ _ _ h => h) (Or.inl ⟨by rfl, ?hy19⟩) (by assumption) ?rest19
      case hy19 => ((intro w hSw; (try dsimp only at hSw); go_simp) <;> with_reducible rfl)
      case' rest19 => try simp only [List.getElem_toArray, List.getElem_cons_zero, List.getElem_cons_succ, Act.put, List.setIfInBounds_toArray, List.set_cons_zero, List.set_cons_succ]
      refine wpAnyT_take (by kernel_rfl) (by kernel_rfl) (i := 8) (oi := _) (v := ?v20) rfl (by kernel_rfl) (by kernel_rfl) (by kernel_rfl) (fun _ _ _ h => h) (Or.inl ⟨by rfl, ?hy20⟩) (by assumption) ?rest20
      case hy20 => ((intro w hSw; (try dsimp only at hSw); go_simp) <;> with_reducible rfl)
      case' rest20 => try simp only [List.getElem_toArray, List.getElem_cons_zero, List.getElem_cons_succ, Act.put, List.setIfInBounds_toArray, List.set_cons_zero, List.set_cons_succ]
      refine wpAnyT_take (by kernel_rfl) (by kernel_rfl) (i := 9) (oi := _) (v := ?v21) rfl (by kernel_rfl) (by kernel_rfl) (by kernel_rfl) (fun _ _ _ h => h) (Or.inl ⟨by rfl, ?hy21⟩) (by assumption) ?rest21
      case hy21 => ((intro w hSw; (try dsimp only at hSw); go_simp) <;> with_reducible rfl)
      case' rest21 => try simp only [List.getElem_toArray, List.getElem_cons_zero, List.getElem_cons_succ, Act.put, List.setIfInBounds_toArray, List.set_cons_zero, List.set_cons_succ]
      refine wpAnyT_take (by kernel_rfl) (by kernel_rfl) (i := 10) (oi := _) (v := ?v22) rfl (by kernel_rfl) (by kernel_rfl) (by kernel_rfl) (fun _ _ _ h => h) (Or.inl ⟨by rfl, ?hy22⟩) (by assumption) ?rest22
      case hy22 => ((intro w hSw; (try dsimp only at hSw); go_simp) <;> with_reducible rfl)
      case' rest22 => try simp only [List.getElem_toArray, List.getElem_cons_zero, List.getElem_cons_succ, Act.put, List.setIfInBounds_toArray, List.set_cons_zero, List.set_cons_succ]
      refine wpAnyT_take (by kernel_rfl) (by kernel_rfl) (i := 11) (oi := _) (v := ?v23) rfl (by kernel_rfl) (by kernel_rfl) (by kernel_rfl) (fun _ _ _ h => h) (Or.inl ⟨by rfl, ?hy23⟩) (by assumption) ?rest23
      case hy23 => ((intro w hSw; (try dsimp only at hSw); go_simp) <;> with_reducible rfl)
      case' rest23 => try simp only [List.getElem_toArray, List.getElem_cons_zero, List.getElem_cons_succ, Act.put, List.setIfInBounds_toArray, List.set_cons_zero, List.set_cons_succ]
      refine wpAnyT_take (by kernel_rfl) (by kernel_rfl) (i := 12) (oi := _) (v := ?v24) rfl (by kernel_rfl) (by kernel_rfl) (by kernel_rfl) (fun _ _ _ h => h) (Or.inl ⟨by rfl, ?hy24⟩) (by assumption) ?rest24
      case hy24 => ((intro w hSw; (try dsimp only at hSw); go_simp) <;> with_reducible rfl)
      case' rest24 => try simp only [List.getElem_toArray, List.getElem_cons_zero, List.getElem_cons_succ, Act.put, List.setIfInBounds_toArray, List.set_cons_zero, List.set_cons_succ]
      refine wpAnyT_take (by kernel_rfl) (by kernel_rfl) (i := 13) (oi := _) (v := ?v25) rfl (by kernel_rfl) (by kernel_rfl) (by kernel_rfl) (fun _ _ _ h => h) (Or.inl ⟨by rfl, ?hy25⟩) (by assumption) ?rest25
      case hy25 => ((intro w hSw; (try dsimp only at hSw); go_simp) <;> with_reducible rfl)
      case' rest25 => try simp only [List.getElem_toArray, List.getElem_cons_zero, List.getElem_cons_succ, Act.put, List.setIfInBounds_toArray, List.set_cons_zero, List.set_cons_succ]
      refine wpAnyT_take (by kernel_rfl) (by kernel_rfl) (i := 14) (oi := _) (v := ?v26) rfl (by kernel_rfl) (by kernel_rfl) (by kernel_rfl) (fun _ _ _ h => h) (Or.inl ⟨by rfl, ?hy26⟩) (by assumption) ?rest26
      case hy26 => ((intro w hSw; (try dsimp only at hSw); go_simp) <;> with_reducible rfl)
      case' rest26 => try simp only [List.getElem_toArray, List.getElem_cons_zero, List.getElem_cons_succ, Act.put, List.setIfInBounds_toArray, List.set_cons_zero, List.set_cons_succ]
      refine wpAnyT_take (by kernel_rfl) (by kernel_rfl) (i := 15) (oi := _) (v := ?v27) rfl (by kernel_rfl) (by kernel_rfl) (by kernel_rfl) (fun _ _ _ h => h) (Or.inl ⟨by rfl, ?hy27⟩) (by assumption) ?rest27
      case hy27 => ((intro w hSw; (try dsimp only at hSw); go_simp) <;> with_reducible rfl)
      case' rest27 => try simp only [List.getElem_toArray, List.getElem_cons_zero, List.getElem_cons_succ, Act.put, List.setIfInBounds_toArray, List.set_cons_zero, List.set_cons_succ]
      refine wpAnyT_take (by kernel_rfl) (by kernel_rfl) (i := 16) (oi := _) (v := ?v28) rfl (by kernel_rfl) (by kernel_rfl) (by kernel_rfl) (fun _ _ _ h => h) (Or.inl ⟨by rfl, ?hy28⟩) (by assumption) ?rest28
      case hy28 => ((intro w hSw; (try dsimp only at hSw); go_simp) <;> with_reducible rfl)
      case' rest28 => try simp only [List.getElem_toArray, List.getElem_cons_zero, List.getElem_cons_succ, Act.put, List.setIfInBounds_toArray, List.set_cons_zero, List.set_cons_succ]
      refine wpAnyT_take (by kernel_rfl) (by kernel_rfl) (i := 17) (oi := _) (v := ?v29) rfl (by kernel_rfl) (by kernel_rfl) (by kernel_rfl) (fun _ _ _ h => h) (Or.inl ⟨by rfl, ?hy29⟩) (by assumption) ?rest29
      case hy29 => ((intro w hSw; (try dsimp only at hSw); go_simp) <;> with_reducible rfl)
      case' rest29 => try simp only [List.getElem_toArray, List.getElem_cons_zero, List.getElem_cons_succ, Act.put, List.setIfInBounds_toArray, List.set_cons_zero, List.set_cons_succ]
      refine wpAnyT_one (i := 18) (o := _) rfl (by kernel_rfl) (fun K hK => ?_)
      rw [if_pos (show Region.wanted _ _ = true by kernel_rfl)]
      refine wp_app_full _ _ rfl A n1 b rfl HN1.out (show Sl W1.drew A _ from HX1.out.2.1) HAN.out A3 m3 c3 M.data rfl HM.out (show Sl W1.drew A3 _ from HMD1.out) (by omega) ?_
      intro A4 c4 w3 hs4 hc4 hb4 hA4
      obtain ⟨N, hN⟩ : ∃ N, N = n1 + m3 := ⟨_, rfl⟩
      rw [← hN] at hc4 ⊢
      replace hb4 := below_undrew hb4
      have HX3 := hide (HX1.out.step hb4)
      have HNN : Hid (N = (b ++ M.data).length) := hide (by rw [hN, List.length_append, ← HN1.out, ← HM.out])
      have hN2 : N ≤ 35184372088832 := by omega
      have HCC := hide hc4
      have HA4' : Hid (∀ ad, A4 = some ad → (G ad.block ∨ w.heap.size ≤ ad.block) ∧ ad.block < w3.heap.size ∧ ad.block ≠ p ∧ ad.block ≠ w.heap.size + 1) := hide (fun ad e => by
        have z3 := hb4.size
        have zz := HX1.out.1.2.2.2
        rcases hA4 with ⟨_, h⟩ | h
        · rw [h] at e
          have h1 := HX1.out.2.2 ad e
          exact ⟨h1.1, by omega, h1.2.2⟩
        · obtain ⟨h, z5⟩ := h
          rw [h] at e
          injection e with e
          subst e
          have z5 : W1.heap.size < w3.heap.size := z5
          exact ⟨.inr (show w.heap.size ≤ W1.heap.size by omega), z5, show W1.heap.size ≠ p by omega, show W1.heap.size ≠ w.heap.size + 1 by omega⟩)
      have HAN' : Hid (A4 = none → N = 0) := hide (fun h => by
        rcases hA4 with ⟨h1, h2⟩ | ⟨h1, _⟩
        · have := HAN.out (h2.symm.trans h); omega
        · rw [h] at h1; cases h1)
      have HS4 := hide hs4
      have g63 := (hb4.cell (p := ⟨p, 10, none⟩) zp1).trans g6
      have g93 := (hb4.cell (p := ⟨w.heap.size, 9, none⟩) zk1).trans g9
      have f63 := HX3.out.1.2.1.frozen 10
      have zp3 := HX3.out.1.2.1.lt
      have HNN0 := hide hN
      clear hs4 hc4 hA4 hN hb4
      refine hK.out _ _ ?hS31 (fun hHeld => ?rest31)
      case hS31 => ((try dsimp only); (exact ⟨g63, g93⟩))
      case' rest31 => (clear hK K; try simp only [List.getElem_toArray, List.getElem_cons_zero, List.getElem_cons_succ, Act.put, List.setIfInBounds_toArray, List.set_cons_zero, List.set_cons_succ])
      refine wpAnyT_take (by kernel_rfl) (by kernel_rfl) (i := 19) (oi := _) (v := ?v32) rfl (by kernel_rfl) (by kernel_rfl) (by kernel_rfl) (fun _ _ _ h => h) (Or.inl ⟨by rfl, ?hy32⟩) (by assumption) ?rest32
      case hy32 => ((intro w hSw; (try dsimp only at hSw); go_simp) <;> with_reducible rfl)
      case' rest32 => try simp only [List.getElem_toArray, List.getElem_cons_zero, List.getElem_cons_succ, Act.put, List.setIfInBounds_toArray, List.set_cons_zero, List.set_cons_succ]
      refine wpAnyT_take (by kernel_rfl) (by kernel_rfl) (i := 20) (oi := _) (v := ?v33) rfl (by kernel_rfl) (by kernel_rfl) (by kernel_rfl) (fun _ _ _ h => h) (Or.inl ⟨by rfl, ?hy33⟩) (by assumption) ?rest33
      case hy33 => ((intro w hSw; (try dsimp only at hSw); go_simp) <;> with_reducible rfl)
      case' rest33 => try simp only [List.getElem_toArray, List.getElem_cons_zero, List.getElem_cons_succ, Act.put, List.setIfInBounds_toArray, List.set_cons_zero, List.set_cons_succ]
      refine wpAnyT_late (i := 21) (o := _) rfl (by kernel_rfl) (by kernel_rfl) (fun K hK => ?_)
      go_simp
      refine hK.out _ _ ?rest35
      case' rest35 => (clear hK K; try simp only [List.getElem_toArray, List.getElem_cons_zero, List.getElem_cons_succ, Act.put, List.setIfInBounds_toArray, List.set_cons_zero, List.set_cons_succ])
      refine wpAnyT_done (by kernel_rfl) ?_ _
      repeat (clear hHeld)
      have HX2 := hide ((HX3.out.1.put (G := G) (S' := ⟨mo, sz, nx, ha, ta, ro, 1, ix, sub, (b ++ M.data), sm⟩) (A' := A4) (n' := N) (c' := c4) (b' := b ++ M.data) rfl HS4.out HA4'.out))
      simp only [World.setCells] at HX2
      clear g6 g9 g63 g93 f63
      go_upto_region 5 with fail
      refine wp_gen (P := BXS w G p pd (KMO w M A3 m3 c3) ⟨mo, sz, nx, ha, ta, ro, 1, ix, sub, (b ++ M.data), sm⟩ A4 N c4 (b ++ M.data)) HX2.out (fun W2 hW2 => ?_)
      clear HX2 HX1 HMD1 HX3
      obtain ⟨nx', hnx'⟩ : ∃ nx', nx' = nx + 1 := ⟨_, rfl⟩
      have HNX := hide hnx'
      have hnx2 : 0 ≤ nx' ∧ nx' ≤ 1001 := by omega
      obtain ⟨hnx3, hnx4⟩ := hnx2
      have hwn : IntKind.i64.wrap (nx + 1) = nx' := by rw [hnx']; unfold IntKind.wrap; simp [IntKind.signed, IntKind.bits]; omega
      have HX5 := hide (hW2.sets (S' := ⟨mo, sz, nx', ha, ta, ro, 1, ix, sub, (b ++ M.data), sm⟩) [.int .i64 nx'] 2 (by simp) rfl)
      simp only [World.setCells] at HX5
      have bb := hW2.1.2.1
      have zp2 := bb.lt
      unfold bsrV at bb
      dsimp only at bb
      have bb_c0 := bb.cell 0 rfl
      have bb_f0 := bb.frozen 0
      have bb_c1 := bb.cell 1 rfl
      have bb_f1 := bb.frozen 1
      have bb_c2 := bb.cell 2 rfl
      have bb_f2 := bb.frozen 2
      have bb_c3 := bb.cell 3 rfl
      have bb_f3 := bb.frozen 3
      have bb_c4 := bb.cell 4 rfl
      have bb_f4 := bb.frozen 4
      have bb_c5 := bb.cell 5 rfl
      have bb_f5 := bb.frozen 5
      have bb_c6 := bb.cell 6 rfl
      have bb_f6 := bb.frozen 6
      have bb_c7 := bb.cell 7 rfl
      have bb_f7 := bb.frozen 7
      have bb_c8 := bb.cell 8 rfl
      have bb_f8 := bb.frozen 8
      have bb_c9 := bb.cell 9 rfl
      have bb_f9 := bb.frozen 9
      have bb_c10 := bb.cell 10 rfl
      have bb_f10 := bb.frozen 10
      have bb_c11 := bb.cell 11 rfl
      have bb_f11 := bb.frozen 11
      clear hW2 hnx'
      go_upto_region 6 with fail
      refine wp_gen (P := BXS w G p pd (KMO w M A3 m3 c3) ⟨mo, sz, nx', ha, ta, ro, 1, ix, sub, (b ++ M.data), sm⟩ A4 N c4 (b ++ M.data)) HX5.out (fun W3 hW3 => ?_)
      clear bb_c0 bb_f0 bb_c1 bb_f1 bb_c2 bb_f2 bb_c3 bb_f3 bb_c4 bb_f4 bb_c5 bb_f5 bb_c6 bb_f6 bb_c7 bb_f7 bb_c8 bb_f8 bb_c9 bb_f9 bb_c10 bb_f10 bb_c11 bb_f11
      clear HX5 bb
      have HX6 := hide hW3
      have k1 := hW3.1.msg
      have zk3 := k1.lt
      have zo3 := hW3.1.out.lt
      have zp3 := hW3.1.2.1.lt
      unfold msV at k1
      have k1_c0 := k1.cell 0 rfl
      have k1_f0 := k1.frozen 0
      have k1_c1 := k1.cell 1 rfl
      have k1_f1 := k1.frozen 1
      have k1_c2 := k1.cell 2 rfl
      have k1_f2 := k1.frozen 2
      have k1_c3 := k1.cell 3 rfl
      have k1_f3 := k1.frozen 3
      have k1_c4 := k1.cell 4 rfl
      have k1_f4 := k1.frozen 4
      have k1_c5 := k1.cell 5 rfl
      have k1_f5 := k1.frozen 5
      have k1_c6 := k1.cell 6 rfl
      have k1_f6 := k1.frozen 6
      have k1_c7 := k1.cell 7 rfl
      have k1_f7 := k1.frozen 7
      have k1_c8 := k1.cell 8 rfl
      have k1_f8 := k1.frozen 8
      have k1_c9 := k1.cell 9 rfl
      have k1_f9 := k1.frozen 9
      have k1_c10 := k1.cell 10 rfl
      have k1_f10 := k1.frozen 10
      have k1_c11 := k1.cell 11 rfl
      have k1_f11 := k1.frozen 11
      have k1_c12 := k1.cell 12 rfl
      have k1_f12 := k1.frozen 12
      have k1_c13 := k1.cell 13 rfl
      have k1_f13 := k1.frozen 13
      cases hla : M.la
      · rw [hla] at k1_c4
        have HXW := hide hW3
        have HT : Hid (btake ⟨mo, sz, nx, ha, ta, ro, 1, ix, sub, b, sm⟩ M = ⟨mo, sz, nx', ha, ta, ro, 1, ix, sub, (b ++ M.data), sm⟩) := hide (by unfold btake; rw [if_pos HSQ.out, hla, HNX.out]; rfl)
        have HLA := hide hla
        have b0 : W3.cell? ⟨p, 0, none⟩ = some (.int .i64 mo) := hW3.1.2.1.cell 0 rfl
        have b10 : W3.cell? ⟨p, 10, none⟩ = some (.slice A4 N c4) := hW3.1.2.1.cell 10 rfl
        clear hW3 hla HX6
        go_upto_region 8 with fail
        have hwm : IntKind.i64.wrap (mo + 7) = mo + 7 := by unfold IntKind.wrap; simp [IntKind.signed, IntKind.bits]; omega
        have HX7 := hide HXW.out.drew
        refine wp_region_held_drew (S := (fun w' => (∀ qA : Addr, qA.block < (W3).heap.size → w'.cell? qA = (W3).cell? qA) ∧ Below (W3).heap.size (W3) w')) (by kernel_rfl) ?hS37 (fun hHeld => ?rest37)
        case hS37 => ((try dsimp only); (((try go_split_ands); refine sn_of ?_; repeat' (first | with_reducible assumption | with_reducible exact Below.refl _ _ | with_reducible apply below_alloc | with_reducible apply below_drew1 | with_reducible apply below_drewN | (with_reducible apply below_step; with_reducible assumption) | (with_reducible apply below_sg2; (first | exact Nat.le_refl _ | (simp; done) | omega))))))
        case' rest37 => skip
        refine wpAnyH_take (i := 0) (oi := _) (v := ?v38) rfl (by kernel_rfl) (by kernel_rfl) (by kernel_rfl) (fun _ _ _ h => h) (Or.inl ⟨by rfl, ?hy38⟩) (by assumption) ?rest38
        case hy38 => ((intro w hSw; (try dsimp only at hSw); go_simp) <;> with_reducible rfl)
        case' rest38 => try simp only [List.getElem_toArray, List.getElem_cons_zero, List.getElem_cons_succ, Act.put, List.setIfInBounds_toArray, List.set_cons_zero, List.set_cons_succ]
        refine wpAnyH_take (i := 1) (oi := _) (v := ?v39) rfl (by kernel_rfl) (by kernel_rfl) (by kernel_rfl) (fun _ _ _ h => h) (Or.inl ⟨by rfl, ?hy39⟩) (by assumption) ?rest39
        case hy39 => ((intro w hSw; (try dsimp only at hSw); go_simp) <;> with_reducible rfl)
        case' rest39 => try simp only [List.getElem_toArray, List.getElem_cons_zero, List.getElem_cons_succ, Act.put, List.setIfInBounds_toArray, List.set_cons_zero, List.set_cons_succ]
        refine wpAnyH_take (i := 2) (oi := _) (v := ?v40) rfl (by kernel_rfl) (by kernel_rfl) (by kernel_rfl) (fun _ _ _ h => h) (Or.inl ⟨by rfl, ?hy40⟩) (by assumption) ?rest40
        case hy40 => ((intro w hSw; (try dsimp only at hSw); go_simp) <;> with_reducible rfl)
        case' rest40 => try simp only [List.getElem_toArray, List.getElem_cons_zero, List.getElem_cons_succ, Act.put, List.setIfInBounds_toArray, List.set_cons_zero, List.set_cons_succ]
        refine wpAnyH_take (i := 3) (oi := _) (v := ?v41) rfl (by kernel_rfl) (by kernel_rfl) (by kernel_rfl) (fun _ _ _ h => h) (Or.inl ⟨by rfl, ?hy41⟩) (by assumption) ?rest41
        case hy41 => ((intro w hSw; (try dsimp only at hSw); go_simp) <;> with_reducible rfl)
        case' rest41 => try simp only [List.getElem_toArray, List.getElem_cons_zero, List.getElem_cons_succ, Act.put, List.setIfInBounds_toArray, List.set_cons_zero, List.set_cons_succ]
        refine wpAnyH_take (i := 4) (oi := _) (v := ?v42) rfl (by kernel_rfl) (by kernel_rfl) (by kernel_rfl) (fun _ _ _ h => h) (Or.inl ⟨by rfl, ?hy42⟩) (by assumption) ?rest42
        case hy42 => ((intro w hSw; (try dsimp only at hSw); go_simp) <;> with_reducible rfl)
        case' rest42 => try simp only [List.getElem_toArray, List.getElem_cons_zero, List.getElem_cons_succ, Act.put, List.setIfInBounds_toArray, List.set_cons_zero, List.set_cons_succ]
        refine wpAnyH_take (i := 5) (oi := _) (v := ?v43) rfl (by kernel_rfl) (by kernel_rfl) (by kernel_rfl) (fun _ _ _ h => h) (Or.inl ⟨by rfl, ?hy43⟩) (by assumption) ?rest43
        case hy43 => ((intro w hSw; (try dsimp only at hSw); go_simp) <;> with_reducible rfl)
        case' rest43 => try simp only [List.getElem_toArray, List.getElem_cons_zero, List.getElem_cons_succ, Act.put, List.setIfInBounds_toArray, List.set_cons_zero, List.set_cons_succ]
        refine wpAnyH_take (i := 6) (oi := _) (v := ?v44) rfl (by kernel_rfl) (by kernel_rfl) (by kernel_rfl) (fun _ _ _ h => h) (Or.inl ⟨by rfl, ?hy44⟩) (by assumption) ?rest44
        case hy44 => ((intro w hSw; (try dsimp only at hSw); go_simp) <;> with_reducible rfl)
        case' rest44 => try simp only [List.getElem_toArray, List.getElem_cons_zero, List.getElem_cons_succ, Act.put, List.setIfInBounds_toArray, List.set_cons_zero, List.set_cons_succ]
        refine wpAnyH_take (i := 7) (oi := _) (v := ?v45) rfl (by kernel_rfl) (by kernel_rfl) (by kernel_rfl) (fun _ _ _ h => h) (Or.inl ⟨by rfl, ?hy45⟩) (by assumption) ?rest45
        case hy45 => ((intro w hSw; (try dsimp only at hSw); go_simp) <;> with_reducible rfl)
        case' rest45 => try simp only [List.getElem_toArray, List.getElem_cons_zero, List.getElem_cons_succ, Act.put, List.setIfInBounds_toArray, List.set_cons_zero, List.set_cons_succ]
        refine wpAnyH_take (i := 8) (oi := _) (v := ?v46) rfl (by kernel_rfl) (by kernel_rfl) (by kernel_rfl) (fun _ _ _ h => h) (Or.inl ⟨by rfl, ?hy46⟩) (by assumption) ?rest46
        case hy46 => ((intro w hSw; (try dsimp only at hSw); go_simp) <;> with_reducible rfl)
        case' rest46 => try simp only [List.getElem_toArray, List.getElem_cons_zero, List.getElem_cons_succ, Act.put, List.setIfInBounds_toArray, List.set_cons_zero, List.set_cons_succ]
        refine wpAnyH_take (i := 9) (oi := _) (v := ?v47) rfl (by kernel_rfl) (by kernel_rfl) (by kernel_rfl) (fun _ _ _ h => h) (Or.inl ⟨by rfl, ?hy47⟩) (by assumption) ?rest47
        case hy47 => ((intro w hSw; (try dsimp only at hSw); go_simp) <;> with_reducible rfl)
        case' rest47 => try simp only [List.getElem_toArray, List.getElem_cons_zero, List.getElem_cons_succ, Act.put, List.setIfInBounds_toArray, List.set_cons_zero, List.set_cons_succ]
        refine wpAnyH_take (i := 10) (oi := _) (v := ?v48) rfl (by kernel_rfl) (by kernel_rfl) (by kernel_rfl) (fun _ _ _ h => h) (Or.inl ⟨by rfl, ?hy48⟩) (by assumption) ?rest48
        case hy48 => ((intro w hSw; (try dsimp only at hSw); go_simp) <;> with_reducible rfl)
        case' rest48 => try simp only [List.getElem_toArray, List.getElem_cons_zero, List.getElem_cons_succ, Act.put, List.setIfInBounds_toArray, List.set_cons_zero, List.set_cons_succ]
        refine wpAnyH_take (i := 11) (oi := _) (v := ?v49) rfl (by kernel_rfl) (by kernel_rfl) (by kernel_rfl) (fun _ _ _ h => h) (Or.inl ⟨by rfl, ?hy49⟩) (by assumption) ?rest49
        case hy49 => ((intro w hSw; (try dsimp only at hSw); go_simp) <;> with_reducible rfl)
        case' rest49 => try simp only [List.getElem_toArray, List.getElem_cons_zero, List.getElem_cons_succ, Act.put, List.setIfInBounds_toArray, List.set_cons_zero, List.set_cons_succ]
        refine wpAnyH_done (by kernel_rfl) ?_ _
        have hEnd := hHeld.2
        repeat (clear hHeld)
        clear hEnd HXW
        by_cases hlen : mo + 7 < (N : Int)
        · go_upto_region 9 with fail
          refine wp_gen (P := BXS w G p pd (KMO w M A3 m3 c3) ⟨mo, sz, nx', ha, ta, ro, 1, ix, sub, (b ++ M.data), sm⟩ A4 N c4 (b ++ M.data)) HX7.out (fun W hW => ?_)
          clear k1_c0 k1_f0 k1_c1 k1_f1 k1_c2 k1_f2 k1_c3 k1_f3 k1_c4 k1_f4 k1_c5 k1_f5 k1_c6 k1_f6 k1_c7 k1_f7 k1_c8 k1_f8 k1_c9 k1_f9 k1_c10 k1_f10 k1_c11 k1_f11 k1_c12 k1_f12 k1_c13 k1_f13
          clear HX7 k1
          have HXW := hide hW
          have zk1 := hW.1.msg.lt
          have zo1 := hW.1.out.lt
          clear hW
          have HR : Hid (P = BOutR w G p pd (blkIdle ⟨mo, sz, nx', ha, ta, ro, 1, ix, sub, (b ++ M.data), sm⟩) (outM (abM ix sub 101122066))) := hide (by
            have hpc : bpcode ⟨mo, sz, nx, ha, ta, ro, 1, ix, sub, b, sm⟩ M = 101122066 := by unfold bpcode; rw [if_neg h16, if_pos ⟨HSQ.out, by rw [← HNN.out]; exact hlen⟩]
            rw [HP.out]
            congr 1
            · unfold bpartS; rw [if_neg h16, if_pos (by rw [hpc]; decide), HT.out]; rfl
            · unfold bpartO bAbortL; rw [hpc, if_pos (by decide), if_neg (show ¬ (1 : Int) = 0 by decide)]; rfl)
          go_wp2_with fail
          refine (blk_abort p pd ⟨mo, sz, nx', ha, ta, ro, 1, ix, sub, (b ++ M.data), sm⟩ 101122066 A4 N c4 _ HXW.out.1.2.1 (show (1 : Int) ≠ 0 by decide)).mono ?_
          rintro e w5 ⟨g, hg, rfl, hBg, hBp, ho⟩
          have hgz : w.heap.size + 2 ≤ g := Nat.le_trans HXW.out.1.2.2.2 hg
          have k2 := blk_only HXW.out.1.out ho (fun e => hne1 e.symm)
          have HK2 := hide k2
          have HBG := hide hBg
          have HS5 : Hid (BV_ w5 (fun q => ((G q ∨ w.heap.size ≤ q) ∧ ¬ False) ∧ q ≠ w.heap.size + 1) p pd (blkIdle ⟨mo, sz, nx', ha, ta, ro, 1, ix, sub, (b ++ M.data), sm⟩)) := hide (bv_idle hBp)
          have HO5 := hide (HXW.out.1.1.trans ho (fun _ _ h => h))
          unfold outV outZ at k2
          unfold outV outZ
          dsimp only
          have k2_c0 := k2.cell 0 rfl
          have k2_f0 := k2.frozen 0
          have k2_c1 := k2.cell 1 rfl
          have k2_f1 := k2.frozen 1
          have k2_c2 := k2.cell 2 rfl
          have k2_f2 := k2.frozen 2
          have k2_c3 := k2.cell 3 rfl
          have k2_f3 := k2.frozen 3
          have k2_c4 := k2.cell 4 rfl
          have k2_f4 := k2.frozen 4
          clear hBg hBp ho
          go_wp2_with fail
          obtain ⟨F1, F2⟩ := bfin_send (fun _ => False) HK2.out hgz (M := abM ix sub 101122066) HBG.out (OwnB.nil _ _) (FIn.nil _) HS5.out HO5.out hz
          rw [← HR.out] at F2
          clear HR
          unfold putO outZ at F1 F2
          dsimp only at F1 F2
          refine ret_out (O := ⟨[], false, 0, 0, []⟩) rfl rfl rfl F1 ?_
          exact F2
        · go_upto_region 10 with fail
          refine wp_gen (P := BXS w G p pd (KMO w M A3 m3 c3) ⟨mo, sz, nx', ha, ta, ro, 1, ix, sub, (b ++ M.data), sm⟩ A4 N c4 (b ++ M.data)) HX7.out (fun W hW => ?_)
          clear k1_c0 k1_f0 k1_c1 k1_f1 k1_c2 k1_f2 k1_c3 k1_f3 k1_c4 k1_f4 k1_c5 k1_f5 k1_c6 k1_f6 k1_c7 k1_f7 k1_c8 k1_f8 k1_c9 k1_f9 k1_c10 k1_f10 k1_c11 k1_f11 k1_c12 k1_f12 k1_c13 k1_f13
          clear HX7 k1
          have HXW := hide hW
          have k1 := hW.1.msg
          have zk1 := k1.lt
          have zo1 := hW.1.out.lt
          have HPC : Hid (bpcode ⟨mo, sz, nx, ha, ta, ro, 1, ix, sub, b, sm⟩ M = 0) := hide (by unfold bpcode; rw [if_neg h16, if_neg (fun h => hlen (by rw [HNN.out]; exact h.2))])
          unfold msV at k1
          have k1_c0 := k1.cell 0 rfl
          have k1_f0 := k1.frozen 0
          have k1_c1 := k1.cell 1 rfl
          have k1_f1 := k1.frozen 1
          have k1_c2 := k1.cell 2 rfl
          have k1_f2 := k1.frozen 2
          have k1_c3 := k1.cell 3 rfl
          have k1_f3 := k1.frozen 3
          have k1_c4 := k1.cell 4 rfl
          have k1_f4 := k1.frozen 4
          have k1_c5 := k1.cell 5 rfl
          have k1_f5 := k1.frozen 5
          have k1_c6 := k1.cell 6 rfl
          have k1_f6 := k1.frozen 6
          have k1_c7 := k1.cell 7 rfl
          have k1_f7 := k1.frozen 7
          have k1_c8 := k1.cell 8 rfl
          have k1_f8 := k1.frozen 8
          have k1_c9 := k1.cell 9 rfl
          have k1_f9 := k1.frozen 9
          have k1_c10 := k1.cell 10 rfl
          have k1_f10 := k1.frozen 10
          have k1_c11 := k1.cell 11 rfl
          have k1_f11 := k1.frozen 11
          have k1_c12 := k1.cell 12 rfl
          have k1_f12 := k1.frozen 12
          have k1_c13 := k1.cell 13 rfl
          have k1_f13 := k1.frozen 13
          rw [HLA.out] at k1_c4
          clear hW
          by_cases hs16 : M.sq < 16
          · skip
            have HR : Hid (P = BOutR w G p pd ⟨mo, sz, nx', ha, ta, ro, 1, ix, sub, (b ++ M.data), sm⟩ outZ) := hide (by
              rw [HP.out]
              congr 1
              · unfold bpartS; rw [if_neg h16, if_neg (by rw [HPC.out]; decide), if_pos ⟨hs16, HLA.out⟩, HT.out]
              · unfold bpartO; rw [if_neg (by rw [HPC.out]; decide), if_pos ⟨hs16, HLA.out⟩])
            have k2 := HXW.out.1.out
            unfold outV outZ at k2
            have k2_c0 := k2.cell 0 rfl
            have k2_f0 := k2.frozen 0
            have k2_c1 := k2.cell 1 rfl
            have k2_f1 := k2.frozen 1
            have k2_c2 := k2.cell 2 rfl
            have k2_f2 := k2.frozen 2
            have k2_c3 := k2.cell 3 rfl
            have k2_f3 := k2.frozen 3
            have k2_c4 := k2.cell 4 rfl
            have k2_f4 := k2.frozen 4
            go_wp2_with fail
            obtain ⟨F1, F2⟩ := bfin_none (S' := ⟨mo, sz, nx', ha, ta, ro, 1, ix, sub, (b ++ M.data), sm⟩) (G := G) HXW.out.1.out ((HXW.out.bv rfl HNN.out HCC.out HAN'.out).keep (fun q _ _ => rfl) (Nat.le_refl _) (fun q _ h => ⟨h.1.1, h.2⟩)) HXW.out.1.1 hz
            rw [← HR.out] at F2
            clear HR
            unfold putO outZ at F1 F2
            dsimp only at F1 F2
            refine ret_out (O := ⟨[], false, 0, 0, []⟩) rfl rfl rfl F1 ?_
            exact F2
          · go_upto_region 12 with fail
            have HR : Hid (P = BOutR w G p pd ⟨mo, sz, 1, ha, ta, ro, 1, ix, sub, (b ++ M.data), sm⟩ (outM (ackM (nx' - 1)))) := hide (by
              rw [HP.out]
              congr 1
              · unfold bpartS; rw [if_neg h16, if_neg (by rw [HPC.out]; decide), if_neg (fun h => hs16 h.1), HT.out]
              · unfold bpartO; rw [if_neg (by rw [HPC.out]; decide), if_neg (fun h => hs16 h.1), HT.out])
            have hwr : IntKind.i64.wrap (nx' - 1) = nx' - 1 := by unfold IntKind.wrap; simp [IntKind.signed, IntKind.bits]; omega
            have X1 := (HXW.out.sets (S' := ⟨mo, sz, 1, ha, ta, ro, 1, ix, sub, (b ++ M.data), sm⟩) [.int .i64 1] 2 (by simp) rfl).step (below_alloc (Below.refl _ _) (.cells (msV (ackM (nx' - 1)) none 0 0) 39))
            have HX1 := hide X1
            have hG1 := Blk.new (W.setCell ⟨p, 2, none⟩ (.int .i64 1)) 39 (msV (ackM (nx' - 1)) none 0 0)
            rw [show (W.setCell ⟨p, 2, none⟩ (.int .i64 1)).heap.size = W.heap.size by simp [World.setCell]] at hG1
            have HG1 := hide hG1
            simp only [World.setCells, Nat.reduceAdd] at HX1
            unfold msV ackM at HX1 HG1
            have bb := HXW.out.1.2.1
            have zpb := bb.lt
            have zWz := HXW.out.1.2.2.2
            unfold bsrV at bb
            dsimp only at bb
            have bb_c0 := bb.cell 0 rfl
            have bb_f0 := bb.frozen 0
            have bb_c1 := bb.cell 1 rfl
            have bb_f1 := bb.frozen 1
            have bb_c2 := bb.cell 2 rfl
            have bb_f2 := bb.frozen 2
            have bb_c3 := bb.cell 3 rfl
            have bb_f3 := bb.frozen 3
            have bb_c4 := bb.cell 4 rfl
            have bb_f4 := bb.frozen 4
            have bb_c5 := bb.cell 5 rfl
            have bb_f5 := bb.frozen 5
            have bb_c6 := bb.cell 6 rfl
            have bb_f6 := bb.frozen 6
            have bb_c7 := bb.cell 7 rfl
            have bb_f7 := bb.frozen 7
            have bb_c8 := bb.cell 8 rfl
            have bb_f8 := bb.frozen 8
            have bb_c9 := bb.cell 9 rfl
            have bb_f9 := bb.frozen 9
            have bb_c10 := bb.cell 10 rfl
            have bb_f10 := bb.frozen 10
            have bb_c11 := bb.cell 11 rfl
            have bb_f11 := bb.frozen 11
            clear X1 hG1
            go_upto_region 14 with fail
            refine wp_gen (P := fun W9 => BXS w G p pd (KMO w M A3 m3 c3) ⟨mo, sz, 1, ha, ta, ro, 1, ix, sub, (b ++ M.data), sm⟩ A4 N c4 (b ++ M.data) W9 ∧ Blk W9 W.heap.size 39 (msV (ackM (nx' - 1)) none 0 0)) ⟨HX1.out, HG1.out⟩ (fun W9 hW9 => ?_)
            clear bb_c0 bb_f0 bb_c1 bb_f1 bb_c2 bb_f2 bb_c3 bb_f3 bb_c4 bb_f4 bb_c5 bb_f5 bb_c6 bb_f6 bb_c7 bb_f7 bb_c8 bb_f8 bb_c9 bb_f9 bb_c10 bb_f10 bb_c11 bb_f11
            clear HX1 HG1 bb
            obtain ⟨hX9, hG9⟩ := hW9
            have HX9 := hide (hX9.step (below_alloc (Below.refl _ _) (.cells (msV (ackM (nx' - 1)) none 0 0) 39)))
            have HG9 := hide (Blk.new W9 39 (msV (ackM (nx' - 1)) none 0 0))
            have zz9 := hX9.1.2.2.2
            have zg9 := hG9.lt
            unfold msV ackM at HX9 HG9
            unfold msV ackM at hG9
            have hG9_c0 := hG9.cell 0 rfl
            have hG9_f0 := hG9.frozen 0
            have hG9_c1 := hG9.cell 1 rfl
            have hG9_f1 := hG9.frozen 1
            have hG9_c2 := hG9.cell 2 rfl
            have hG9_f2 := hG9.frozen 2
            have hG9_c3 := hG9.cell 3 rfl
            have hG9_f3 := hG9.frozen 3
            have hG9_c4 := hG9.cell 4 rfl
            have hG9_f4 := hG9.frozen 4
            have hG9_c5 := hG9.cell 5 rfl
            have hG9_f5 := hG9.frozen 5
            have hG9_c6 := hG9.cell 6 rfl
            have hG9_f6 := hG9.frozen 6
            have hG9_c7 := hG9.cell 7 rfl
            have hG9_f7 := hG9.frozen 7
            have hG9_c8 := hG9.cell 8 rfl
            have hG9_f8 := hG9.frozen 8
            have hG9_c9 := hG9.cell 9 rfl
            have hG9_f9 := hG9.frozen 9
            have hG9_c10 := hG9.cell 10 rfl
            have hG9_f10 := hG9.frozen 10
            have hG9_c11 := hG9.cell 11 rfl
            have hG9_f11 := hG9.frozen 11
            have hG9_c12 := hG9.cell 12 rfl
            have hG9_f12 := hG9.frozen 12
            have hG9_c13 := hG9.cell 13 rfl
            have hG9_f13 := hG9.frozen 13
            clear hX9
            go_wp2_with fail
            refine (blk_send (some ⟨W9.heap.size, 0, none⟩) 1 1 _).mono ?_
            rintro e w6 ⟨rfl, hb6⟩
            have HX6 := hide (HX9.out.step hb6)
            have HG6 := hide (HG9.out.below hb6 HG9.out.lt)
            have k2 := HX6.out.1.out
            unfold outV outZ at k2
            unfold outV outZ
            dsimp only
            clear hG9_c0 hG9_f0 hG9_c1 hG9_f1 hG9_c2 hG9_f2 hG9_c3 hG9_f3 hG9_c4 hG9_f4 hG9_c5 hG9_f5 hG9_c6 hG9_f6 hG9_c7 hG9_f7 hG9_c8 hG9_f8 hG9_c9 hG9_f9 hG9_c10 hG9_f10 hG9_c11 hG9_f11 hG9_c12 hG9_f12 hG9_c13 hG9_f13
            have k2_c0 := k2.cell 0 rfl
            have k2_f0 := k2.frozen 0
            have k2_c1 := k2.cell 1 rfl
            have k2_f1 := k2.frozen 1
            have k2_c2 := k2.cell 2 rfl
            have k2_f2 := k2.frozen 2
            have k2_c3 := k2.cell 3 rfl
            have k2_f3 := k2.frozen 3
            have k2_c4 := k2.cell 4 rfl
            have k2_f4 := k2.frozen 4
            clear hb6 hG9
            go_wp2_with fail
            obtain ⟨F1, F2⟩ := bfin_send (fun _ => False) HX6.out.1.out zz9 (M := ackM (nx' - 1)) HG6.out (OwnB.nil _ _) (FIn.nil _) (HX6.out.bv rfl HNN.out HCC.out HAN'.out) HX6.out.1.1 hz
            rw [← HR.out] at F2
            clear HR
            unfold putO outZ at F1 F2
            dsimp only at F1 F2
            refine ret_out (O := ⟨[], false, 0, 0, []⟩) rfl rfl rfl F1 ?_
            exact F2
      · rw [hla] at k1_c4
        have HLA := hide hla
        have HT : Hid (btake ⟨mo, sz, nx, ha, ta, ro, 1, ix, sub, b, sm⟩ M = ⟨mo, sz, nx', ha, ta, ro, 2, ix, sub, (b ++ M.data), sm⟩) := hide (by unfold btake; rw [if_pos HSQ.out, hla, HNX.out]; rfl)
        have X7 := hide (hW3.sets (S' := ⟨mo, sz, nx', ha, ta, ro, 2, ix, sub, (b ++ M.data), sm⟩) [.int .i64 2] 7 (by simp) rfl)
        simp only [World.setCells] at X7
        have bb := hW3.1.2.1
        unfold bsrV at bb
        dsimp only at bb
        have bb_c0 := bb.cell 0 rfl
        have bb_f0 := bb.frozen 0
        have bb_c1 := bb.cell 1 rfl
        have bb_f1 := bb.frozen 1
        have bb_c2 := bb.cell 2 rfl
        have bb_f2 := bb.frozen 2
        have bb_c3 := bb.cell 3 rfl
        have bb_f3 := bb.frozen 3
        have bb_c4 := bb.cell 4 rfl
        have bb_f4 := bb.frozen 4
        have bb_c5 := bb.cell 5 rfl
        have bb_f5 := bb.frozen 5
        have bb_c6 := bb.cell 6 rfl
        have bb_f6 := bb.frozen 6
        have bb_c7 := bb.cell 7 rfl
        have bb_f7 := bb.frozen 7
        have bb_c8 := bb.cell 8 rfl
        have bb_f8 := bb.frozen 8
        have bb_c9 := bb.cell 9 rfl
        have bb_f9 := bb.frozen 9
        have bb_c10 := bb.cell 10 rfl
        have bb_f10 := bb.frozen 10
        have bb_c11 := bb.cell 11 rfl
        have bb_f11 := bb.frozen 11
        clear hW3 hla HX6
        go_upto_region 8 with fail
        refine wp_gen (P := BXS w G p pd (KMO w M A3 m3 c3) ⟨mo, sz, nx', ha, ta, ro, 2, ix, sub, (b ++ M.data), sm⟩ A4 N c4 (b ++ M.data)) X7.out (fun W4 hW4 => ?_)
        clear k1_c0 k1_f0 k1_c1 k1_f1 k1_c2 k1_f2 k1_c3 k1_f3 k1_c4 k1_f4 k1_c5 k1_f5 k1_c6 k1_f6 k1_c7 k1_f7 k1_c8 k1_f8 k1_c9 k1_f9 k1_c10 k1_f10 k1_c11 k1_f11 k1_c12 k1_f12 k1_c13 k1_f13
        clear bb_c0 bb_f0 bb_c1 bb_f1 bb_c2 bb_f2 bb_c3 bb_f3 bb_c4 bb_f4 bb_c5 bb_f5 bb_c6 bb_f6 bb_c7 bb_f7 bb_c8 bb_f8 bb_c9 bb_f9 bb_c10 bb_f10 bb_c11 bb_f11
        clear X7 k1 bb
        have HXW := hide hW4
        have zp4 := hW4.1.2.1.lt
        have b0 : W4.cell? ⟨p, 0, none⟩ = some (.int .i64 mo) := hW4.1.2.1.cell 0 rfl
        have b10 : W4.cell? ⟨p, 10, none⟩ = some (.slice A4 N c4) := hW4.1.2.1.cell 10 rfl
        have hwm : IntKind.i64.wrap (mo + 7) = mo + 7 := by unfold IntKind.wrap; simp [IntKind.signed, IntKind.bits]; omega
        have HX7 := hide HXW.out.drew
        clear hW4
        refine wp_region_held_drew (S := (fun w' => (∀ qA : Addr, qA.block < (W4).heap.size → w'.cell? qA = (W4).cell? qA) ∧ Below (W4).heap.size (W4) w')) (by kernel_rfl) ?hS51 (fun hHeld => ?rest51)
        case hS51 => ((try dsimp only); (((try go_split_ands); refine sn_of ?_; repeat' (first | with_reducible assumption | with_reducible exact Below.refl _ _ | with_reducible apply below_alloc | with_reducible apply below_drew1 | with_reducible apply below_drewN | (with_reducible apply below_step; with_reducible assumption) | (with_reducible apply below_sg2; (first | exact Nat.le_refl _ | (simp; done) | omega))))))
        case' rest51 => skip
        refine wpAnyH_take (i := 0) (oi := _) (v := ?v52) rfl (by kernel_rfl) (by kernel_rfl) (by kernel_rfl) (fun _ _ _ h => h) (Or.inl ⟨by rfl, ?hy52⟩) (by assumption) ?rest52
        case hy52 => ((intro w hSw; (try dsimp only at hSw); go_simp) <;> with_reducible rfl)
        case' rest52 => try simp only [List.getElem_toArray, List.getElem_cons_zero, List.getElem_cons_succ, Act.put, List.setIfInBounds_toArray, List.set_cons_zero, List.set_cons_succ]
        refine wpAnyH_take (i := 1) (oi := _) (v := ?v53) rfl (by kernel_rfl) (by kernel_rfl) (by kernel_rfl) (fun _ _ _ h => h) (Or.inl ⟨by rfl, ?hy53⟩) (by assumption) ?rest53
        case hy53 => ((intro w hSw; (try dsimp only at hSw); go_simp) <;> with_reducible rfl)
        case' rest53 => try simp only [List.getElem_toArray, List.getElem_cons_zero, List.getElem_cons_succ, Act.put, List.setIfInBounds_toArray, List.set_cons_zero, List.set_cons_succ]
        refine wpAnyH_take (i := 2) (oi := _) (v := ?v54) rfl (by kernel_rfl) (by kernel_rfl) (by kernel_rfl) (fun _ _ _ h => h) (Or.inl ⟨by rfl, ?hy54⟩) (by assumption) ?rest54
        case hy54 => ((intro w hSw; (try dsimp only at hSw); go_simp) <;> with_reducible rfl)
        case' rest54 => try simp only [List.getElem_toArray, List.getElem_cons_zero, List.getElem_cons_succ, Act.put, List.setIfInBounds_toArray, List.set_cons_zero, List.set_cons_succ]
        refine wpAnyH_take (i := 3) (oi := _) (v := ?v55) rfl (by kernel_rfl) (by kernel_rfl) (by kernel_rfl) (fun _ _ _ h => h) (Or.inl ⟨by rfl, ?hy55⟩) (by assumption) ?rest55
        case hy55 => ((intro w hSw; (try dsimp only at hSw); go_simp) <;> with_reducible rfl)
        case' rest55 => try simp only [List.getElem_toArray, List.getElem_cons_zero, List.getElem_cons_succ, Act.put, List.setIfInBounds_toArray, List.set_cons_zero, List.set_cons_succ]
        refine wpAnyH_take (i := 4) (oi := _) (v := ?v56) rfl (by kernel_rfl) (by kernel_rfl) (by kernel_rfl) (fun _ _ _ h => h) (Or.inl ⟨by rfl, ?hy56⟩) (by assumption) ?rest56
        case hy56 => ((intro w hSw; (try dsimp only at hSw); go_simp) <;> with_reducible rfl)
        case' rest56 => try simp only [List.getElem_toArray, List.getElem_cons_zero, List.getElem_cons_succ, Act.put, List.setIfInBounds_toArray, List.set_cons_zero, List.set_cons_succ]
        refine wpAnyH_take (i := 5) (oi := _) (v := ?v57) rfl (by kernel_rfl) (by kernel_rfl) (by kernel_rfl) (fun _ _ _ h => h) (Or.inl ⟨by rfl, ?hy57⟩) (by assumption) ?rest57
        case hy57 => ((intro w hSw; (try dsimp only at hSw); go_simp) <;> with_reducible rfl)
        case' rest57 => try simp only [List.getElem_toArray, List.getElem_cons_zero, List.getElem_cons_succ, Act.put, List.setIfInBounds_toArray, List.set_cons_zero, List.set_cons_succ]
        refine wpAnyH_take (i := 6) (oi := _) (v := ?v58) rfl (by kernel_rfl) (by kernel_rfl) (by kernel_rfl) (fun _ _ _ h => h) (Or.inl ⟨by rfl, ?hy58⟩) (by assumption) ?rest58
        case hy58 => ((intro w hSw; (try dsimp only at hSw); go_simp) <;> with_reducible rfl)
        case' rest58 => try simp only [List.getElem_toArray, List.getElem_cons_zero, List.getElem_cons_succ, Act.put, List.setIfInBounds_toArray, List.set_cons_zero, List.set_cons_succ]
        refine wpAnyH_take (i := 7) (oi := _) (v := ?v59) rfl (by kernel_rfl) (by kernel_rfl) (by kernel_rfl) (fun _ _ _ h => h) (Or.inl ⟨by rfl, ?hy59⟩) (by assumption) ?rest59
        case hy59 => ((intro w hSw; (try dsimp only at hSw); go_simp) <;> with_reducible rfl)
        case' rest59 => try simp only [List.getElem_toArray, List.getElem_cons_zero, List.getElem_cons_succ, Act.put, List.setIfInBounds_toArray, List.set_cons_zero, List.set_cons_succ]
        refine wpAnyH_take (i := 8) (oi := _) (v := ?v60) rfl (by kernel_rfl) (by kernel_rfl) (by kernel_rfl) (fun _ _ _ h => h) (Or.inl ⟨by rfl, ?hy60⟩) (by assumption) ?rest60
        case hy60 => ((intro w hSw; (try dsimp only at hSw); go_simp) <;> with_reducible rfl)
        case' rest60 => try simp only [List.getElem_toArray, List.getElem_cons_zero, List.getElem_cons_succ, Act.put, List.setIfInBounds_toArray, List.set_cons_zero, List.set_cons_succ]
        refine wpAnyH_take (i := 9) (oi := _) (v := ?v61) rfl (by kernel_rfl) (by kernel_rfl) (by kernel_rfl) (fun _ _ _ h => h) (Or.inl ⟨by rfl, ?hy61⟩) (by assumption) ?rest61
        case hy61 => ((intro w hSw; (try dsimp only at hSw); go_simp) <;> with_reducible rfl)
        case' rest61 => try simp only [List.getElem_toArray, List.getElem_cons_zero, List.getElem_cons_succ, Act.put, List.setIfInBounds_toArray, List.set_cons_zero, List.set_cons_succ]
        refine wpAnyH_take (i := 10) (oi := _) (v := ?v62) rfl (by kernel_rfl) (by kernel_rfl) (by kernel_rfl) (fun _ _ _ h => h) (Or.inl ⟨by rfl, ?hy62⟩) (by assumption) ?rest62
        case hy62 => ((intro w hSw; (try dsimp only at hSw); go_simp) <;> with_reducible rfl)
        case' rest62 => try simp only [List.getElem_toArray, List.getElem_cons_zero, List.getElem_cons_succ, Act.put, List.setIfInBounds_toArray, List.set_cons_zero, List.set_cons_succ]
        refine wpAnyH_take (i := 11) (oi := _) (v := ?v63) rfl (by kernel_rfl) (by kernel_rfl) (by kernel_rfl) (fun _ _ _ h => h) (Or.inl ⟨by rfl, ?hy63⟩) (by assumption) ?rest63
        case hy63 => ((intro w hSw; (try dsimp only at hSw); go_simp) <;> with_reducible rfl)
        case' rest63 => try simp only [List.getElem_toArray, List.getElem_cons_zero, List.getElem_cons_succ, Act.put, List.setIfInBounds_toArray, List.set_cons_zero, List.set_cons_succ]
        refine wpAnyH_done (by kernel_rfl) ?_ _
        have hEnd := hHeld.2
        repeat (clear hHeld)
        clear hEnd HXW
        by_cases hlen : mo + 7 < (N : Int)
        · go_upto_region 9 with fail
          refine wp_gen (P := BXS w G p pd (KMO w M A3 m3 c3) ⟨mo, sz, nx', ha, ta, ro, 2, ix, sub, (b ++ M.data), sm⟩ A4 N c4 (b ++ M.data)) HX7.out (fun W hW => ?_)
          clear HX7
          have HXW := hide hW
          have zk1 := hW.1.msg.lt
          have zo1 := hW.1.out.lt
          clear hW
          have HR : Hid (P = BOutR w G p pd (blkIdle ⟨mo, sz, nx', ha, ta, ro, 2, ix, sub, (b ++ M.data), sm⟩) (outM (abM ix sub 101122066))) := hide (by
            have hpc : bpcode ⟨mo, sz, nx, ha, ta, ro, 1, ix, sub, b, sm⟩ M = 101122066 := by unfold bpcode; rw [if_neg h16, if_pos ⟨HSQ.out, by rw [← HNN.out]; exact hlen⟩]
            rw [HP.out]
            congr 1
            · unfold bpartS; rw [if_neg h16, if_pos (by rw [hpc]; decide), HT.out]; rfl
            · unfold bpartO bAbortL; rw [hpc, if_pos (by decide), if_neg (show ¬ (1 : Int) = 0 by decide)]; rfl)
          go_wp2_with fail
          refine (blk_abort p pd ⟨mo, sz, nx', ha, ta, ro, 2, ix, sub, (b ++ M.data), sm⟩ 101122066 A4 N c4 _ HXW.out.1.2.1 (show (2 : Int) ≠ 0 by decide)).mono ?_
          rintro e w5 ⟨g, hg, rfl, hBg, hBp, ho⟩
          have hgz : w.heap.size + 2 ≤ g := Nat.le_trans HXW.out.1.2.2.2 hg
          have k2 := blk_only HXW.out.1.out ho (fun e => hne1 e.symm)
          have HK2 := hide k2
          have HBG := hide hBg
          have HS5 : Hid (BV_ w5 (fun q => ((G q ∨ w.heap.size ≤ q) ∧ ¬ False) ∧ q ≠ w.heap.size + 1) p pd (blkIdle ⟨mo, sz, nx', ha, ta, ro, 2, ix, sub, (b ++ M.data), sm⟩)) := hide (bv_idle hBp)
          have HO5 := hide (HXW.out.1.1.trans ho (fun _ _ h => h))
          unfold outV outZ at k2
          unfold outV outZ
          dsimp only
          have k2_c0 := k2.cell 0 rfl
          have k2_f0 := k2.frozen 0
          have k2_c1 := k2.cell 1 rfl
          have k2_f1 := k2.frozen 1
          have k2_c2 := k2.cell 2 rfl
          have k2_f2 := k2.frozen 2
          have k2_c3 := k2.cell 3 rfl
          have k2_f3 := k2.frozen 3
          have k2_c4 := k2.cell 4 rfl
          have k2_f4 := k2.frozen 4
          clear hBg hBp ho
          go_wp2_with fail
          obtain ⟨F1, F2⟩ := bfin_send (fun _ => False) HK2.out hgz (M := abM ix sub 101122066) HBG.out (OwnB.nil _ _) (FIn.nil _) HS5.out HO5.out hz
          rw [← HR.out] at F2
          clear HR
          unfold putO outZ at F1 F2
          dsimp only at F1 F2
          refine ret_out (O := ⟨[], false, 0, 0, []⟩) rfl rfl rfl F1 ?_
          exact F2
        · go_upto_region 10 with fail
          refine wp_gen (P := BXS w G p pd (KMO w M A3 m3 c3) ⟨mo, sz, nx', ha, ta, ro, 2, ix, sub, (b ++ M.data), sm⟩ A4 N c4 (b ++ M.data)) HX7.out (fun W hW => ?_)
          clear HX7
          have HXW := hide hW
          have k1 := hW.1.msg
          have zk1 := k1.lt
          have zo1 := hW.1.out.lt
          have HPC : Hid (bpcode ⟨mo, sz, nx, ha, ta, ro, 1, ix, sub, b, sm⟩ M = 0) := hide (by unfold bpcode; rw [if_neg h16, if_neg (fun h => hlen (by rw [HNN.out]; exact h.2))])
          unfold msV at k1
          have k1_c0 := k1.cell 0 rfl
          have k1_f0 := k1.frozen 0
          have k1_c1 := k1.cell 1 rfl
          have k1_f1 := k1.frozen 1
          have k1_c2 := k1.cell 2 rfl
          have k1_f2 := k1.frozen 2
          have k1_c3 := k1.cell 3 rfl
          have k1_f3 := k1.frozen 3
          have k1_c4 := k1.cell 4 rfl
          have k1_f4 := k1.frozen 4
          have k1_c5 := k1.cell 5 rfl
          have k1_f5 := k1.frozen 5
          have k1_c6 := k1.cell 6 rfl
          have k1_f6 := k1.frozen 6
          have k1_c7 := k1.cell 7 rfl
          have k1_f7 := k1.frozen 7
          have k1_c8 := k1.cell 8 rfl
          have k1_f8 := k1.frozen 8
          have k1_c9 := k1.cell 9 rfl
          have k1_f9 := k1.frozen 9
          have k1_c10 := k1.cell 10 rfl
          have k1_f10 := k1.frozen 10
          have k1_c11 := k1.cell 11 rfl
          have k1_f11 := k1.frozen 11
          have k1_c12 := k1.cell 12 rfl
          have k1_f12 := k1.frozen 12
          have k1_c13 := k1.cell 13 rfl
          have k1_f13 := k1.frozen 13
          rw [HLA.out] at k1_c4
          clear hW
          by_cases hs16 : M.sq < 16
          · go_upto_region 12 with fail
            have HR : Hid (P = BOutR w G p pd ⟨mo, sz, 1, ha, ta, ro, 2, ix, sub, (b ++ M.data), sm⟩ (outM (ackM (nx' - 1)))) := hide (by
              rw [HP.out]
              congr 1
              · unfold bpartS; rw [if_neg h16, if_neg (by rw [HPC.out]; decide), if_neg (fun h => by rw [HLA.out] at h; exact absurd h.2 (by decide)), HT.out]
              · unfold bpartO; rw [if_neg (by rw [HPC.out]; decide), if_neg (fun h => by rw [HLA.out] at h; exact absurd h.2 (by decide)), HT.out])
            have hwr : IntKind.i64.wrap (nx' - 1) = nx' - 1 := by unfold IntKind.wrap; simp [IntKind.signed, IntKind.bits]; omega
            have X1 := (HXW.out.sets (S' := ⟨mo, sz, 1, ha, ta, ro, 2, ix, sub, (b ++ M.data), sm⟩) [.int .i64 1] 2 (by simp) rfl).step (below_alloc (Below.refl _ _) (.cells (msV (ackM (nx' - 1)) none 0 0) 39))
            have HX1 := hide X1
            have hG1 := Blk.new (W.setCell ⟨p, 2, none⟩ (.int .i64 1)) 39 (msV (ackM (nx' - 1)) none 0 0)
            rw [show (W.setCell ⟨p, 2, none⟩ (.int .i64 1)).heap.size = W.heap.size by simp [World.setCell]] at hG1
            have HG1 := hide hG1
            simp only [World.setCells, Nat.reduceAdd] at HX1
            unfold msV ackM at HX1 HG1
            have bb := HXW.out.1.2.1
            have zpb := bb.lt
            have zWz := HXW.out.1.2.2.2
            unfold bsrV at bb
            dsimp only at bb
            have bb_c0 := bb.cell 0 rfl
            have bb_f0 := bb.frozen 0
            have bb_c1 := bb.cell 1 rfl
            have bb_f1 := bb.frozen 1
            have bb_c2 := bb.cell 2 rfl
            have bb_f2 := bb.frozen 2
            have bb_c3 := bb.cell 3 rfl
            have bb_f3 := bb.frozen 3
            have bb_c4 := bb.cell 4 rfl
            have bb_f4 := bb.frozen 4
            have bb_c5 := bb.cell 5 rfl
            have bb_f5 := bb.frozen 5
            have bb_c6 := bb.cell 6 rfl
            have bb_f6 := bb.frozen 6
            have bb_c7 := bb.cell 7 rfl
            have bb_f7 := bb.frozen 7
            have bb_c8 := bb.cell 8 rfl
            have bb_f8 := bb.frozen 8
            have bb_c9 := bb.cell 9 rfl
            have bb_f9 := bb.frozen 9
            have bb_c10 := bb.cell 10 rfl
            have bb_f10 := bb.frozen 10
            have bb_c11 := bb.cell 11 rfl
            have bb_f11 := bb.frozen 11
            clear X1 hG1
            go_upto_region 14 with fail
            refine wp_gen (P := fun W9 => BXS w G p pd (KMO w M A3 m3 c3) ⟨mo, sz, 1, ha, ta, ro, 2, ix, sub, (b ++ M.data), sm⟩ A4 N c4 (b ++ M.data) W9 ∧ Blk W9 W.heap.size 39 (msV (ackM (nx' - 1)) none 0 0)) ⟨HX1.out, HG1.out⟩ (fun W9 hW9 => ?_)
            clear bb_c0 bb_f0 bb_c1 bb_f1 bb_c2 bb_f2 bb_c3 bb_f3 bb_c4 bb_f4 bb_c5 bb_f5 bb_c6 bb_f6 bb_c7 bb_f7 bb_c8 bb_f8 bb_c9 bb_f9 bb_c10 bb_f10 bb_c11 bb_f11
            clear HX1 HG1 bb
            obtain ⟨hX9, hG9⟩ := hW9
            have HX9 := hide (hX9.step (below_alloc (Below.refl _ _) (.cells (msV (ackM (nx' - 1)) none 0 0) 39)))
            have HG9 := hide (Blk.new W9 39 (msV (ackM (nx' - 1)) none 0 0))
            have zz9 := hX9.1.2.2.2
            have zg9 := hG9.lt
            unfold msV ackM at HX9 HG9
            unfold msV ackM at hG9
            have hG9_c0 := hG9.cell 0 rfl
            have hG9_f0 := hG9.frozen 0
            have hG9_c1 := hG9.cell 1 rfl
            have hG9_f1 := hG9.frozen 1
            have hG9_c2 := hG9.cell 2 rfl
            have hG9_f2 := hG9.frozen 2
            have hG9_c3 := hG9.cell 3 rfl
            have hG9_f3 := hG9.frozen 3
            have hG9_c4 := hG9.cell 4 rfl
            have hG9_f4 := hG9.frozen 4
            have hG9_c5 := hG9.cell 5 rfl
            have hG9_f5 := hG9.frozen 5
            have hG9_c6 := hG9.cell 6 rfl
            have hG9_f6 := hG9.frozen 6
            have hG9_c7 := hG9.cell 7 rfl
            have hG9_f7 := hG9.frozen 7
            have hG9_c8 := hG9.cell 8 rfl
            have hG9_f8 := hG9.frozen 8
            have hG9_c9 := hG9.cell 9 rfl
            have hG9_f9 := hG9.frozen 9
            have hG9_c10 := hG9.cell 10 rfl
            have hG9_f10 := hG9.frozen 10
            have hG9_c11 := hG9.cell 11 rfl
            have hG9_f11 := hG9.frozen 11
            have hG9_c12 := hG9.cell 12 rfl
            have hG9_f12 := hG9.frozen 12
            have hG9_c13 := hG9.cell 13 rfl
            have hG9_f13 := hG9.frozen 13
            clear hX9
            go_wp2_with fail
            refine (blk_send (some ⟨W9.heap.size, 0, none⟩) 1 1 _).mono ?_
            rintro e w6 ⟨rfl, hb6⟩
            have HX6 := hide (HX9.out.step hb6)
            have HG6 := hide (HG9.out.below hb6 HG9.out.lt)
            have k2 := HX6.out.1.out
            unfold outV outZ at k2
            unfold outV outZ
            dsimp only
            clear hG9_c0 hG9_f0 hG9_c1 hG9_f1 hG9_c2 hG9_f2 hG9_c3 hG9_f3 hG9_c4 hG9_f4 hG9_c5 hG9_f5 hG9_c6 hG9_f6 hG9_c7 hG9_f7 hG9_c8 hG9_f8 hG9_c9 hG9_f9 hG9_c10 hG9_f10 hG9_c11 hG9_f11 hG9_c12 hG9_f12 hG9_c13 hG9_f13
            have k2_c0 := k2.cell 0 rfl
            have k2_f0 := k2.frozen 0
            have k2_c1 := k2.cell 1 rfl
            have k2_f1 := k2.frozen 1
            have k2_c2 := k2.cell 2 rfl
            have k2_f2 := k2.frozen 2
            have k2_c3 := k2.cell 3 rfl
            have k2_f3 := k2.frozen 3
            have k2_c4 := k2.cell 4 rfl
            have k2_f4 := k2.frozen 4
            clear hb6 hG9
            go_wp2_with fail
            obtain ⟨F1, F2⟩ := bfin_send (fun _ => False) HX6.out.1.out zz9 (M := ackM (nx' - 1)) HG6.out (OwnB.nil _ _) (FIn.nil _) (HX6.out.bv rfl HNN.out HCC.out HAN'.out) HX6.out.1.1 hz
            rw [← HR.out] at F2
            clear HR
            unfold putO outZ at F1 F2
            dsimp only at F1 F2
            refine ret_out (O := ⟨[], false, 0, 0, []⟩) rfl rfl rfl F1 ?_
            exact F2
          · go_upto_region 12 with fail
            have HR : Hid (P = BOutR w G p pd ⟨mo, sz, 1, ha, ta, ro, 2, ix, sub, (b ++ M.data), sm⟩ (outM (ackM (nx' - 1)))) := hide (by
              rw [HP.out]
              congr 1
              · unfold bpartS; rw [if_neg h16, if_neg (by rw [HPC.out]; decide), if_neg (fun h => by rw [HLA.out] at h; exact absurd h.2 (by decide)), HT.out]
              · unfold bpartO; rw [if_neg (by rw [HPC.out]; decide), if_neg (fun h => by rw [HLA.out] at h; exact absurd h.2 (by decide)), HT.out])
            have hwr : IntKind.i64.wrap (nx' - 1) = nx' - 1 := by unfold IntKind.wrap; simp [IntKind.signed, IntKind.bits]; omega
            have X1 := (HXW.out.sets (S' := ⟨mo, sz, 1, ha, ta, ro, 2, ix, sub, (b ++ M.data), sm⟩) [.int .i64 1] 2 (by simp) rfl).step (below_alloc (Below.refl _ _) (.cells (msV (ackM (nx' - 1)) none 0 0) 39))
            have HX1 := hide X1
            have hG1 := Blk.new (W.setCell ⟨p, 2, none⟩ (.int .i64 1)) 39 (msV (ackM (nx' - 1)) none 0 0)
            rw [show (W.setCell ⟨p, 2, none⟩ (.int .i64 1)).heap.size = W.heap.size by simp [World.setCell]] at hG1
            have HG1 := hide hG1
            simp only [World.setCells, Nat.reduceAdd] at HX1
            unfold msV ackM at HX1 HG1
            have bb := HXW.out.1.2.1
            have zpb := bb.lt
            have zWz := HXW.out.1.2.2.2
            unfold bsrV at bb
            dsimp only at bb
            have bb_c0 := bb.cell 0 rfl
            have bb_f0 := bb.frozen 0
            have bb_c1 := bb.cell 1 rfl
            have bb_f1 := bb.frozen 1
            have bb_c2 := bb.cell 2 rfl
            have bb_f2 := bb.frozen 2
            have bb_c3 := bb.cell 3 rfl
            have bb_f3 := bb.frozen 3
            have bb_c4 := bb.cell 4 rfl
            have bb_f4 := bb.frozen 4
            have bb_c5 := bb.cell 5 rfl
            have bb_f5 := bb.frozen 5
            have bb_c6 := bb.cell 6 rfl
            have bb_f6 := bb.frozen 6
            have bb_c7 := bb.cell 7 rfl
            have bb_f7 := bb.frozen 7
            have bb_c8 := bb.cell 8 rfl
            have bb_f8 := bb.frozen 8
            have bb_c9 := bb.cell 9 rfl
            have bb_f9 := bb.frozen 9
            have bb_c10 := bb.cell 10 rfl
            have bb_f10 := bb.frozen 10
            have bb_c11 := bb.cell 11 rfl
            have bb_f11 := bb.frozen 11
            clear X1 hG1
            go_upto_region 14 with fail
            refine wp_gen (P := fun W9 => BXS w G p pd (KMO w M A3 m3 c3) ⟨mo, sz, 1, ha, ta, ro, 2, ix, sub, (b ++ M.data), sm⟩ A4 N c4 (b ++ M.data) W9 ∧ Blk W9 W.heap.size 39 (msV (ackM (nx' - 1)) none 0 0)) ⟨HX1.out, HG1.out⟩ (fun W9 hW9 => ?_)
            clear bb_c0 bb_f0 bb_c1 bb_f1 bb_c2 bb_f2 bb_c3 bb_f3 bb_c4 bb_f4 bb_c5 bb_f5 bb_c6 bb_f6 bb_c7 bb_f7 bb_c8 bb_f8 bb_c9 bb_f9 bb_c10 bb_f10 bb_c11 bb_f11
            clear HX1 HG1 bb
            obtain ⟨hX9, hG9⟩ := hW9
            have HX9 := hide (hX9.step (below_alloc (Below.refl _ _) (.cells (msV (ackM (nx' - 1)) none 0 0) 39)))
            have HG9 := hide (Blk.new W9 39 (msV (ackM (nx' - 1)) none 0 0))
            have zz9 := hX9.1.2.2.2
            have zg9 := hG9.lt
            unfold msV ackM at HX9 HG9
            unfold msV ackM at hG9
            have hG9_c0 := hG9.cell 0 rfl
            have hG9_f0 := hG9.frozen 0
            have hG9_c1 := hG9.cell 1 rfl
            have hG9_f1 := hG9.frozen 1
            have hG9_c2 := hG9.cell 2 rfl
            have hG9_f2 := hG9.frozen 2
            have hG9_c3 := hG9.cell 3 rfl
            have hG9_f3 := hG9.frozen 3
            have hG9_c4 := hG9.cell 4 rfl
            have hG9_f4 := hG9.frozen 4
            have hG9_c5 := hG9.cell 5 rfl
            have hG9_f5 := hG9.frozen 5
            have hG9_c6 := hG9.cell 6 rfl
            have hG9_f6 := hG9.frozen 6
            have hG9_c7 := hG9.cell 7 rfl
            have hG9_f7 := hG9.frozen 7
            have hG9_c8 := hG9.cell 8 rfl
            have hG9_f8 := hG9.frozen 8
            have hG9_c9 := hG9.cell 9 rfl
            have hG9_f9 := hG9.frozen 9
            have hG9_c10 := hG9.cell 10 rfl
            have hG9_f10 := hG9.frozen 10
            have hG9_c11 := hG9.cell 11 rfl
            have hG9_f11 := hG9.frozen 11
            have hG9_c12 := hG9.cell 12 rfl
            have hG9_f12 := hG9.frozen 12
            have hG9_c13 := hG9.cell 13 rfl
            have hG9_f13 := hG9.frozen 13
            clear hX9
            go_wp2_with fail
            refine (blk_send (some ⟨W9.heap.size, 0, none⟩) 1 1 _).mono ?_
            rintro e w6 ⟨rfl, hb6⟩
            have HX6 := hide (HX9.out.step hb6)
            have HG6 := hide (HG9.out.below hb6 HG9.out.lt)
            have k2 := HX6.out.1.out
            unfold outV outZ at k2
            unfold outV outZ
            dsimp only
            clear hG9_c0 hG9_f0 hG9_c1 hG9_f1 hG9_c2 hG9_f2 hG9_c3 hG9_f3 hG9_c4 hG9_f4 hG9_c5 hG9_f5 hG9_c6 hG9_f6 hG9_c7 hG9_f7 hG9_c8 hG9_f8 hG9_c9 hG9_f9 hG9_c10 hG9_f10 hG9_c11 hG9_f11 hG9_c12 hG9_f12 hG9_c13 hG9_f13
            have k2_c0 := k2.cell 0 rfl
            have k2_f0 := k2.frozen 0
            have k2_c1 := k2.cell 1 rfl
            have k2_f1 := k2.frozen 1
            have k2_c2 := k2.cell 2 rfl
            have k2_f2 := k2.frozen 2
            have k2_c3 := k2.cell 3 rfl
            have k2_f3 := k2.frozen 3
            have k2_c4 := k2.cell 4 rfl
            have k2_f4 := k2.frozen 4
            clear hb6 hG9
            go_wp2_with fail
            obtain ⟨F1, F2⟩ := bfin_send (fun _ => False) HX6.out.1.out zz9 (M := ackM (nx' - 1)) HG6.out (OwnB.nil _ _) (FIn.nil _) (HX6.out.bv rfl HNN.out HCC.out HAN'.out) HX6.out.1.1 hz
            rw [← HR.out] at F2
            clear HR
            unfold putO outZ at F1 F2
            dsimp only at F1 F2
            refine ret_out (O := ⟨[], false, 0, 0, []⟩) rfl rfl rfl F1 ?_
            exact F2
    · have hse : (M.sq == nx) = false := by simp [hsq]
      have HSQ := hide hsq
      clear hsq
      have HX7 := hide HXW.out.drew
      refine wp_region_held_drew (S := (fun w' => (∀ qA : Addr, qA.block < (W).heap.size → w'.cell? qA = (W).cell? qA) ∧ Below (W).heap.size (W) w')) (by kernel_rfl) ?hS65 (fun hHeld => ?rest65)
      case hS65 => ((try dsimp only); (((try go_split_ands); refine sn_of ?_; repeat' (first | with_reducible assumption | with_reducible exact Below.refl _ _ | with_reducible apply below_alloc | with_reducible apply below_drew1 | with_reducible apply below_drewN | (with_reducible apply below_step; with_reducible assumption) | (with_reducible apply below_sg2; (first | exact Nat.le_refl _ | (simp; done) | omega))))))
      case' rest65 => skip
      refine wpAnyH_take (i := 0) (oi := _) (v := ?v66) rfl (by kernel_rfl) (by kernel_rfl) (by kernel_rfl) (fun _ _ _ h => h) (Or.inl ⟨by rfl, ?hy66⟩) (by assumption) ?rest66
      case hy66 => ((intro w hSw; (try dsimp only at hSw); go_simp) <;> with_reducible rfl)
      case' rest66 => try simp only [List.getElem_toArray, List.getElem_cons_zero, List.getElem_cons_succ, Act.put, List.setIfInBounds_toArray, List.set_cons_zero, List.set_cons_succ]
      refine wpAnyH_take (i := 1) (oi := _) (v := ?v67) rfl (by kernel_rfl) (by kernel_rfl) (by kernel_rfl) (fun _ _ _ h => h) (Or.inl ⟨by rfl, ?hy67⟩) (by assumption) ?rest67
      case hy67 => ((intro w hSw; (try dsimp only at hSw); go_simp) <;> with_reducible rfl)
      case' rest67 => try simp only [List.getElem_toArray, List.getElem_cons_zero, List.getElem_cons_succ, Act.put, List.setIfInBounds_toArray, List.set_cons_zero, List.set_cons_succ]
      refine wpAnyH_take (i := 2) (oi := _) (v := ?v68) rfl (by kernel_rfl) (by kernel_rfl) (by kernel_rfl) (fun _ _ _ h => h) (Or.inl ⟨by rfl, ?hy68⟩) (by assumption) ?rest68
      case hy68 => ((intro w hSw; (try dsimp only at hSw); go_simp) <;> with_reducible rfl)
      case' rest68 => try simp only [List.getElem_toArray, List.getElem_cons_zero, List.getElem_cons_succ, Act.put, List.setIfInBounds_toArray, List.set_cons_zero, List.set_cons_succ]
      refine wpAnyH_take (i := 3) (oi := _) (v := ?v69) rfl (by kernel_rfl) (by kernel_rfl) (by kernel_rfl) (fun _ _ _ h => h) (Or.inl ⟨by rfl, ?hy69⟩) (by assumption) ?rest69
      case hy69 => ((intro w hSw; (try dsimp only at hSw); go_simp) <;> with_reducible rfl)
      case' rest69 => try simp only [List.getElem_toArray, List.getElem_cons_zero, List.getElem_cons_succ, Act.put, List.setIfInBounds_toArray, List.set_cons_zero, List.set_cons_succ]
      refine wpAnyH_take (i := 4) (oi := _) (v := ?v70) rfl (by kernel_rfl) (by kernel_rfl) (by kernel_rfl) (fun _ _ _ h => h) (Or.inl ⟨by rfl, ?hy70⟩) (by assumption) ?rest70
      case hy70 => ((intro w hSw; (try dsimp only at hSw); go_simp) <;> with_reducible rfl)
      case' rest70 => try simp only [List.getElem_toArray, List.getElem_cons_zero, List.getElem_cons_succ, Act.put, List.setIfInBounds_toArray, List.set_cons_zero, List.set_cons_succ]
      refine wpAnyH_take (i := 5) (oi := _) (v := ?v71) rfl (by kernel_rfl) (by kernel_rfl) (by kernel_rfl) (fun _ _ _ h => h) (Or.inl ⟨by rfl, ?hy71⟩) (by assumption) ?rest71
      case hy71 => ((intro w hSw; (try dsimp only at hSw); go_simp) <;> with_reducible rfl)
      case' rest71 => try simp only [List.getElem_toArray, List.getElem_cons_zero, List.getElem_cons_succ, Act.put, List.setIfInBounds_toArray, List.set_cons_zero, List.set_cons_succ]
      refine wpAnyH_take (i := 6) (oi := _) (v := ?v72) rfl (by kernel_rfl) (by kernel_rfl) (by kernel_rfl) (fun _ _ _ h => h) (Or.inl ⟨by rfl, ?hy72⟩) (by assumption) ?rest72
      case hy72 => ((intro w hSw; (try dsimp only at hSw); go_simp) <;> with_reducible rfl)
      case' rest72 => try simp only [List.getElem_toArray, List.getElem_cons_zero, List.getElem_cons_succ, Act.put, List.setIfInBounds_toArray, List.set_cons_zero, List.set_cons_succ]
      refine wpAnyH_take (i := 7) (oi := _) (v := ?v73) rfl (by kernel_rfl) (by kernel_rfl) (by kernel_rfl) (fun _ _ _ h => h) (Or.inl ⟨by rfl, ?hy73⟩) (by assumption) ?rest73
      case hy73 => ((intro w hSw; (try dsimp only at hSw); go_simp) <;> with_reducible rfl)
      case' rest73 => try simp only [List.getElem_toArray, List.getElem_cons_zero, List.getElem_cons_succ, Act.put, List.setIfInBounds_toArray, List.set_cons_zero, List.set_cons_succ]
      refine wpAnyH_done (by kernel_rfl) ?_ _
      have hEnd := hHeld.2
      repeat (clear hHeld)
      clear hEnd HXW
      go_upto_region 10 with fail
      refine wp_gen (P := BXS w G p pd (KMO w M A3 m3 c3) ⟨mo, sz, nx, ha, ta, ro, 1, ix, sub, b, sm⟩ A n1 c1 b) HX7.out (fun Wq hW => ?_)
      clear k1_c0 k1_f0 k1_c1 k1_f1 k1_c2 k1_f2 k1_c3 k1_f3 k1_c4 k1_f4 k1_c5 k1_f5 k1_c6 k1_f6 k1_c7 k1_f7 k1_c8 k1_f8 k1_c9 k1_f9 k1_c10 k1_f10 k1_c11 k1_f11 k1_c12 k1_f12 k1_c13 k1_f13
      clear HX7 k1 zk1 zo1 zW b2
      have HXW := hide hW
      have k1 := hW.1.msg
      have zk1 := k1.lt
      have zo1 := hW.1.out.lt
      have HCC := hide hc1
      have HAN' := HAN
      have HT : Hid (btake ⟨mo, sz, nx, ha, ta, ro, 1, ix, sub, b, sm⟩ M = ⟨mo, sz, nx, ha, ta, ro, 1, ix, sub, b, sm⟩) := hide (by unfold btake; rw [if_neg HSQ.out])
      have HPC : Hid (bpcode ⟨mo, sz, nx, ha, ta, ro, 1, ix, sub, b, sm⟩ M = 0) := hide (by unfold bpcode; rw [if_neg h16, if_neg (fun h => HSQ.out h.1)])
      unfold msV at k1
      have k1_c0 := k1.cell 0 rfl
      have k1_f0 := k1.frozen 0
      have k1_c1 := k1.cell 1 rfl
      have k1_f1 := k1.frozen 1
      have k1_c2 := k1.cell 2 rfl
      have k1_f2 := k1.frozen 2
      have k1_c3 := k1.cell 3 rfl
      have k1_f3 := k1.frozen 3
      have k1_c4 := k1.cell 4 rfl
      have k1_f4 := k1.frozen 4
      have k1_c5 := k1.cell 5 rfl
      have k1_f5 := k1.frozen 5
      have k1_c6 := k1.cell 6 rfl
      have k1_f6 := k1.frozen 6
      have k1_c7 := k1.cell 7 rfl
      have k1_f7 := k1.frozen 7
      have k1_c8 := k1.cell 8 rfl
      have k1_f8 := k1.frozen 8
      have k1_c9 := k1.cell 9 rfl
      have k1_f9 := k1.frozen 9
      have k1_c10 := k1.cell 10 rfl
      have k1_f10 := k1.frozen 10
      have k1_c11 := k1.cell 11 rfl
      have k1_f11 := k1.frozen 11
      have k1_c12 := k1.cell 12 rfl
      have k1_f12 := k1.frozen 12
      have k1_c13 := k1.cell 13 rfl
      have k1_f13 := k1.frozen 13
      clear hW
      cases hla : M.la
      · rw [hla] at k1_c4
        have HLA := hide hla
        clear hla
        by_cases hs16 : M.sq < 16
        · skip
          have HR : Hid (P = BOutR w G p pd ⟨mo, sz, nx, ha, ta, ro, 1, ix, sub, b, sm⟩ outZ) := hide (by
            rw [HP.out]
            congr 1
            · unfold bpartS; rw [if_neg h16, if_neg (by rw [HPC.out]; decide), if_pos ⟨hs16, HLA.out⟩, HT.out]
            · unfold bpartO; rw [if_neg (by rw [HPC.out]; decide), if_pos ⟨hs16, HLA.out⟩])
          have k2 := HXW.out.1.out
          unfold outV outZ at k2
          have k2_c0 := k2.cell 0 rfl
          have k2_f0 := k2.frozen 0
          have k2_c1 := k2.cell 1 rfl
          have k2_f1 := k2.frozen 1
          have k2_c2 := k2.cell 2 rfl
          have k2_f2 := k2.frozen 2
          have k2_c3 := k2.cell 3 rfl
          have k2_f3 := k2.frozen 3
          have k2_c4 := k2.cell 4 rfl
          have k2_f4 := k2.frozen 4
          go_wp2_with fail
          obtain ⟨F1, F2⟩ := bfin_none (S' := ⟨mo, sz, nx, ha, ta, ro, 1, ix, sub, b, sm⟩) (G := G) HXW.out.1.out ((HXW.out.bv rfl HN1.out HCC.out HAN'.out).keep (fun q _ _ => rfl) (Nat.le_refl _) (fun q _ h => ⟨h.1.1, h.2⟩)) HXW.out.1.1 hz
          rw [← HR.out] at F2
          clear HR
          unfold putO outZ at F1 F2
          dsimp only at F1 F2
          refine ret_out (O := ⟨[], false, 0, 0, []⟩) rfl rfl rfl F1 ?_
          exact F2
        · go_upto_region 12 with fail
          have HR : Hid (P = BOutR w G p pd ⟨mo, sz, 1, ha, ta, ro, 1, ix, sub, b, sm⟩ (outM (ackM (nx - 1)))) := hide (by
            rw [HP.out]
            congr 1
            · unfold bpartS; rw [if_neg h16, if_neg (by rw [HPC.out]; decide), if_neg (fun h => hs16 h.1), HT.out]
            · unfold bpartO; rw [if_neg (by rw [HPC.out]; decide), if_neg (fun h => hs16 h.1), HT.out])
          have hwr : IntKind.i64.wrap (nx - 1) = nx - 1 := by unfold IntKind.wrap; simp [IntKind.signed, IntKind.bits]; omega
          have X1 := (HXW.out.sets (S' := ⟨mo, sz, 1, ha, ta, ro, 1, ix, sub, b, sm⟩) [.int .i64 1] 2 (by simp) rfl).step (below_alloc (Below.refl _ _) (.cells (msV (ackM (nx - 1)) none 0 0) 39))
          have HX1 := hide X1
          have hG1 := Blk.new (Wq.setCell ⟨p, 2, none⟩ (.int .i64 1)) 39 (msV (ackM (nx - 1)) none 0 0)
          rw [show (Wq.setCell ⟨p, 2, none⟩ (.int .i64 1)).heap.size = Wq.heap.size by simp [World.setCell]] at hG1
          have HG1 := hide hG1
          simp only [World.setCells, Nat.reduceAdd] at HX1
          unfold msV ackM at HX1 HG1
          have bb := HXW.out.1.2.1
          have zpb := bb.lt
          have zWz := HXW.out.1.2.2.2
          unfold bsrV at bb
          dsimp only at bb
          have bb_c0 := bb.cell 0 rfl
          have bb_f0 := bb.frozen 0
          have bb_c1 := bb.cell 1 rfl
          have bb_f1 := bb.frozen 1
          have bb_c2 := bb.cell 2 rfl
          have bb_f2 := bb.frozen 2
          have bb_c3 := bb.cell 3 rfl
          have bb_f3 := bb.frozen 3
          have bb_c4 := bb.cell 4 rfl
          have bb_f4 := bb.frozen 4
          have bb_c5 := bb.cell 5 rfl
          have bb_f5 := bb.frozen 5
          have bb_c6 := bb.cell 6 rfl
          have bb_f6 := bb.frozen 6
          have bb_c7 := bb.cell 7 rfl
          have bb_f7 := bb.frozen 7
          have bb_c8 := bb.cell 8 rfl
          have bb_f8 := bb.frozen 8
          have bb_c9 := bb.cell 9 rfl
          have bb_f9 := bb.frozen 9
          have bb_c10 := bb.cell 10 rfl
          have bb_f10 := bb.frozen 10
          have bb_c11 := bb.cell 11 rfl
          have bb_f11 := bb.frozen 11
          clear X1 hG1
          go_upto_region 14 with fail
          refine wp_gen (P := fun W9 => BXS w G p pd (KMO w M A3 m3 c3) ⟨mo, sz, 1, ha, ta, ro, 1, ix, sub, b, sm⟩ A n1 c1 b W9 ∧ Blk W9 Wq.heap.size 39 (msV (ackM (nx - 1)) none 0 0)) ⟨HX1.out, HG1.out⟩ (fun W9 hW9 => ?_)
          clear bb_c0 bb_f0 bb_c1 bb_f1 bb_c2 bb_f2 bb_c3 bb_f3 bb_c4 bb_f4 bb_c5 bb_f5 bb_c6 bb_f6 bb_c7 bb_f7 bb_c8 bb_f8 bb_c9 bb_f9 bb_c10 bb_f10 bb_c11 bb_f11
          clear HX1 HG1 bb
          obtain ⟨hX9, hG9⟩ := hW9
          have HX9 := hide (hX9.step (below_alloc (Below.refl _ _) (.cells (msV (ackM (nx - 1)) none 0 0) 39)))
          have HG9 := hide (Blk.new W9 39 (msV (ackM (nx - 1)) none 0 0))
          have zz9 := hX9.1.2.2.2
          have zg9 := hG9.lt
          unfold msV ackM at HX9 HG9
          unfold msV ackM at hG9
          have hG9_c0 := hG9.cell 0 rfl
          have hG9_f0 := hG9.frozen 0
          have hG9_c1 := hG9.cell 1 rfl
          have hG9_f1 := hG9.frozen 1
          have hG9_c2 := hG9.cell 2 rfl
          have hG9_f2 := hG9.frozen 2
          have hG9_c3 := hG9.cell 3 rfl
          have hG9_f3 := hG9.frozen 3
          have hG9_c4 := hG9.cell 4 rfl
          have hG9_f4 := hG9.frozen 4
          have hG9_c5 := hG9.cell 5 rfl
          have hG9_f5 := hG9.frozen 5
          have hG9_c6 := hG9.cell 6 rfl
          have hG9_f6 := hG9.frozen 6
          have hG9_c7 := hG9.cell 7 rfl
          have hG9_f7 := hG9.frozen 7
          have hG9_c8 := hG9.cell 8 rfl
          have hG9_f8 := hG9.frozen 8
          have hG9_c9 := hG9.cell 9 rfl
          have hG9_f9 := hG9.frozen 9
          have hG9_c10 := hG9.cell 10 rfl
          have hG9_f10 := hG9.frozen 10
          have hG9_c11 := hG9.cell 11 rfl
          have hG9_f11 := hG9.frozen 11
          have hG9_c12 := hG9.cell 12 rfl
          have hG9_f12 := hG9.frozen 12
          have hG9_c13 := hG9.cell 13 rfl
          have hG9_f13 := hG9.frozen 13
          clear hX9
          go_wp2_with fail
          refine (blk_send (some ⟨W9.heap.size, 0, none⟩) 1 1 _).mono ?_
          rintro e w6 ⟨rfl, hb6⟩
          have HX6 := hide (HX9.out.step hb6)
          have HG6 := hide (HG9.out.below hb6 HG9.out.lt)
          have k2 := HX6.out.1.out
          unfold outV outZ at k2
          unfold outV outZ
          dsimp only
          clear hG9_c0 hG9_f0 hG9_c1 hG9_f1 hG9_c2 hG9_f2 hG9_c3 hG9_f3 hG9_c4 hG9_f4 hG9_c5 hG9_f5 hG9_c6 hG9_f6 hG9_c7 hG9_f7 hG9_c8 hG9_f8 hG9_c9 hG9_f9 hG9_c10 hG9_f10 hG9_c11 hG9_f11 hG9_c12 hG9_f12 hG9_c13 hG9_f13
          have k2_c0 := k2.cell 0 rfl
          have k2_f0 := k2.frozen 0
          have k2_c1 := k2.cell 1 rfl
          have k2_f1 := k2.frozen 1
          have k2_c2 := k2.cell 2 rfl
          have k2_f2 := k2.frozen 2
          have k2_c3 := k2.cell 3 rfl
          have k2_f3 := k2.frozen 3
          have k2_c4 := k2.cell 4 rfl
          have k2_f4 := k2.frozen 4
          clear hb6 hG9
          go_wp2_with fail
          obtain ⟨F1, F2⟩ := bfin_send (fun _ => False) HX6.out.1.out zz9 (M := ackM (nx - 1)) HG6.out (OwnB.nil _ _) (FIn.nil _) (HX6.out.bv rfl HN1.out HCC.out HAN'.out) HX6.out.1.1 hz
          rw [← HR.out] at F2
          clear HR
          unfold putO outZ at F1 F2
          dsimp only at F1 F2
          refine ret_out (O := ⟨[], false, 0, 0, []⟩) rfl rfl rfl F1 ?_
          exact F2
      · rw [hla] at k1_c4
        have HLA := hide hla
        clear hla
        by_cases hs16 : M.sq < 16
        · go_upto_region 12 with fail
          have HR : Hid (P = BOutR w G p pd ⟨mo, sz, 1, ha, ta, ro, 1, ix, sub, b, sm⟩ (outM (ackM (nx - 1)))) := hide (by
            rw [HP.out]
            congr 1
            · unfold bpartS; rw [if_neg h16, if_neg (by rw [HPC.out]; decide), if_neg (fun h => by rw [HLA.out] at h; exact absurd h.2 (by decide)), HT.out]
            · unfold bpartO; rw [if_neg (by rw [HPC.out]; decide), if_neg (fun h => by rw [HLA.out] at h; exact absurd h.2 (by decide)), HT.out])
          have hwr : IntKind.i64.wrap (nx - 1) = nx - 1 := by unfold IntKind.wrap; simp [IntKind.signed, IntKind.bits]; omega
          have X1 := (HXW.out.sets (S' := ⟨mo, sz, 1, ha, ta, ro, 1, ix, sub, b, sm⟩) [.int .i64 1] 2 (by simp) rfl).step (below_alloc (Below.refl _ _) (.cells (msV (ackM (nx - 1)) none 0 0) 39))
          have HX1 := hide X1
          have hG1 := Blk.new (Wq.setCell ⟨p, 2, none⟩ (.int .i64 1)) 39 (msV (ackM (nx - 1)) none 0 0)
          rw [show (Wq.setCell ⟨p, 2, none⟩ (.int .i64 1)).heap.size = Wq.heap.size by simp [World.setCell]] at hG1
          have HG1 := hide hG1
          simp only [World.setCells, Nat.reduceAdd] at HX1
          unfold msV ackM at HX1 HG1
          have bb := HXW.out.1.2.1
          have zpb := bb.lt
          have zWz := HXW.out.1.2.2.2
          unfold bsrV at bb
          dsimp only at bb
          have bb_c0 := bb.cell 0 rfl
          have bb_f0 := bb.frozen 0
          have bb_c1 := bb.cell 1 rfl
          have bb_f1 := bb.frozen 1
          have bb_c2 := bb.cell 2 rfl
          have bb_f2 := bb.frozen 2
          have bb_c3 := bb.cell 3 rfl
          have bb_f3 := bb.frozen 3
          have bb_c4 := bb.cell 4 rfl
          have bb_f4 := bb.frozen 4
          have bb_c5 := bb.cell 5 rfl
          have bb_f5 := bb.frozen 5
          have bb_c6 := bb.cell 6 rfl
          have bb_f6 := bb.frozen 6
          have bb_c7 := bb.cell 7 rfl
          have bb_f7 := bb.frozen 7
          have bb_c8 := bb.cell 8 rfl
          have bb_f8 := bb.frozen 8
          have bb_c9 := bb.cell 9 rfl
          have bb_f9 := bb.frozen 9
          have bb_c10 := bb.cell 10 rfl
          have bb_f10 := bb.frozen 10
          have bb_c11 := bb.cell 11 rfl
          have bb_f11 := bb.frozen 11
          clear X1 hG1
          go_upto_region 14 with fail
          refine wp_gen (P := fun W9 => BXS w G p pd (KMO w M A3 m3 c3) ⟨mo, sz, 1, ha, ta, ro, 1, ix, sub, b, sm⟩ A n1 c1 b W9 ∧ Blk W9 Wq.heap.size 39 (msV (ackM (nx - 1)) none 0 0)) ⟨HX1.out, HG1.out⟩ (fun W9 hW9 => ?_)
          clear bb_c0 bb_f0 bb_c1 bb_f1 bb_c2 bb_f2 bb_c3 bb_f3 bb_c4 bb_f4 bb_c5 bb_f5 bb_c6 bb_f6 bb_c7 bb_f7 bb_c8 bb_f8 bb_c9 bb_f9 bb_c10 bb_f10 bb_c11 bb_f11
          clear HX1 HG1 bb
          obtain ⟨hX9, hG9⟩ := hW9
          have HX9 := hide (hX9.step (below_alloc (Below.refl _ _) (.cells (msV (ackM (nx - 1)) none 0 0) 39)))
          have HG9 := hide (Blk.new W9 39 (msV (ackM (nx - 1)) none 0 0))
          have zz9 := hX9.1.2.2.2
          have zg9 := hG9.lt
          unfold msV ackM at HX9 HG9
          unfold msV ackM at hG9
          have hG9_c0 := hG9.cell 0 rfl
          have hG9_f0 := hG9.frozen 0
          have hG9_c1 := hG9.cell 1 rfl
          have hG9_f1 := hG9.frozen 1
          have hG9_c2 := hG9.cell 2 rfl
          have hG9_f2 := hG9.frozen 2
          have hG9_c3 := hG9.cell 3 rfl
          have hG9_f3 := hG9.frozen 3
          have hG9_c4 := hG9.cell 4 rfl
          have hG9_f4 := hG9.frozen 4
          have hG9_c5 := hG9.cell 5 rfl
          have hG9_f5 := hG9.frozen 5
          have hG9_c6 := hG9.cell 6 rfl
          have hG9_f6 := hG9.frozen 6
          have hG9_c7 := hG9.cell 7 rfl
          have hG9_f7 := hG9.frozen 7
          have hG9_c8 := hG9.cell 8 rfl
          have hG9_f8 := hG9.frozen 8
          have hG9_c9 := hG9.cell 9 rfl
          have hG9_f9 := hG9.frozen 9
          have hG9_c10 := hG9.cell 10 rfl
          have hG9_f10 := hG9.frozen 10
          have hG9_c11 := hG9.cell 11 rfl
          have hG9_f11 := hG9.frozen 11
          have hG9_c12 := hG9.cell 12 rfl
          have hG9_f12 := hG9.frozen 12
          have hG9_c13 := hG9.cell 13 rfl
          have hG9_f13 := hG9.frozen 13
          clear hX9
          go_wp2_with fail
          refine (blk_send (some ⟨W9.heap.size, 0, none⟩) 1 1 _).mono ?_
          rintro e w6 ⟨rfl, hb6⟩
          have HX6 := hide (HX9.out.step hb6)
          have HG6 := hide (HG9.out.below hb6 HG9.out.lt)
          have k2 := HX6.out.1.out
          unfold outV outZ at k2
          unfold outV outZ
          dsimp only
          clear hG9_c0 hG9_f0 hG9_c1 hG9_f1 hG9_c2 hG9_f2 hG9_c3 hG9_f3 hG9_c4 hG9_f4 hG9_c5 hG9_f5 hG9_c6 hG9_f6 hG9_c7 hG9_f7 hG9_c8 hG9_f8 hG9_c9 hG9_f9 hG9_c10 hG9_f10 hG9_c11 hG9_f11 hG9_c12 hG9_f12 hG9_c13 hG9_f13
          have k2_c0 := k2.cell 0 rfl
          have k2_f0 := k2.frozen 0
          have k2_c1 := k2.cell 1 rfl
          have k2_f1 := k2.frozen 1
          have k2_c2 := k2.cell 2 rfl
          have k2_f2 := k2.frozen 2
          have k2_c3 := k2.cell 3 rfl
          have k2_f3 := k2.frozen 3
          have k2_c4 := k2.cell 4 rfl
          have k2_f4 := k2.frozen 4
          clear hb6 hG9
          go_wp2_with fail
          obtain ⟨F1, F2⟩ := bfin_send (fun _ => False) HX6.out.1.out zz9 (M := ackM (nx - 1)) HG6.out (OwnB.nil _ _) (FIn.nil _) (HX6.out.bv rfl HN1.out HCC.out HAN'.out) HX6.out.1.1 hz
          rw [← HR.out] at F2
          clear HR
          unfold putO outZ at F1 F2
          dsimp only at F1 F2
          refine ret_out (O := ⟨[], false, 0, 0, []⟩) rfl rfl rfl F1 ?_
          exact F2
        · go_upto_region 12 with fail
          have HR : Hid (P = BOutR w G p pd ⟨mo, sz, 1, ha, ta, ro, 1, ix, sub, b, sm⟩ (outM (ackM (nx - 1)))) := hide (by
            rw [HP.out]
            congr 1
            · unfold bpartS; rw [if_neg h16, if_neg (by rw [HPC.out]; decide), if_neg (fun h => by rw [HLA.out] at h; exact absurd h.2 (by decide)), HT.out]
            · unfold bpartO; rw [if_neg (by rw [HPC.out]; decide), if_neg (fun h => by rw [HLA.out] at h; exact absurd h.2 (by decide)), HT.out])
          have hwr : IntKind.i64.wrap (nx - 1) = nx - 1 := by unfold IntKind.wrap; simp [IntKind.signed, IntKind.bits]; omega
          have X1 := (HXW.out.sets (S' := ⟨mo, sz, 1, ha, ta, ro, 1, ix, sub, b, sm⟩) [.int .i64 1] 2 (by simp) rfl).step (below_alloc (Below.refl _ _) (.cells (msV (ackM (nx - 1)) none 0 0) 39))
          have HX1 := hide X1
          have hG1 := Blk.new (Wq.setCell ⟨p, 2, none⟩ (.int .i64 1)) 39 (msV (ackM (nx - 1)) none 0 0)
          rw [show (Wq.setCell ⟨p, 2, none⟩ (.int .i64 1)).heap.size = Wq.heap.size by simp [World.setCell]] at hG1
          have HG1 := hide hG1
          simp only [World.setCells, Nat.reduceAdd] at HX1
          unfold msV ackM at HX1 HG1
          have bb := HXW.out.1.2.1
          have zpb := bb.lt
          have zWz := HXW.out.1.2.2.2
          unfold bsrV at bb
          dsimp only at bb
          have bb_c0 := bb.cell 0 rfl
          have bb_f0 := bb.frozen 0
          have bb_c1 := bb.cell 1 rfl
          have bb_f1 := bb.frozen 1
          have bb_c2 := bb.cell 2 rfl
          have bb_f2 := bb.frozen 2
          have bb_c3 := bb.cell 3 rfl
          have bb_f3 := bb.frozen 3
          have bb_c4 := bb.cell 4 rfl
          have bb_f4 := bb.frozen 4
          have bb_c5 := bb.cell 5 rfl
          have bb_f5 := bb.frozen 5
          have bb_c6 := bb.cell 6 rfl
          have bb_f6 := bb.frozen 6
          have bb_c7 := bb.cell 7 rfl
          have bb_f7 := bb.frozen 7
          have bb_c8 := bb.cell 8 rfl
          have bb_f8 := bb.frozen 8
          have bb_c9 := bb.cell 9 rfl
          have bb_f9 := bb.frozen 9
          have bb_c10 := bb.cell 10 rfl
          have bb_f10 := bb.frozen 10
          have bb_c11 := bb.cell 11 rfl
          have bb_f11 := bb.frozen 11
          clear X1 hG1
          go_upto_region 14 with fail
          refine wp_gen (P := fun W9 => BXS w G p pd (KMO w M A3 m3 c3) ⟨mo, sz, 1, ha, ta, ro, 1, ix, sub, b, sm⟩ A n1 c1 b W9 ∧ Blk W9 Wq.heap.size 39 (msV (ackM (nx - 1)) none 0 0)) ⟨HX1.out, HG1.out⟩ (fun W9 hW9 => ?_)
          clear bb_c0 bb_f0 bb_c1 bb_f1 bb_c2 bb_f2 bb_c3 bb_f3 bb_c4 bb_f4 bb_c5 bb_f5 bb_c6 bb_f6 bb_c7 bb_f7 bb_c8 bb_f8 bb_c9 bb_f9 bb_c10 bb_f10 bb_c11 bb_f11
          clear HX1 HG1 bb
          obtain ⟨hX9, hG9⟩ := hW9
          have HX9 := hide (hX9.step (below_alloc (Below.refl _ _) (.cells (msV (ackM (nx - 1)) none 0 0) 39)))
          have HG9 := hide (Blk.new W9 39 (msV (ackM (nx - 1)) none 0 0))
          have zz9 := hX9.1.2.2.2
          have zg9 := hG9.lt
          unfold msV ackM at HX9 HG9
          unfold msV ackM at hG9
          have hG9_c0 := hG9.cell 0 rfl
          have hG9_f0 := hG9.frozen 0
          have hG9_c1 := hG9.cell 1 rfl
          have hG9_f1 := hG9.frozen 1
          have hG9_c2 := hG9.cell 2 rfl
          have hG9_f2 := hG9.frozen 2
          have hG9_c3 := hG9.cell 3 rfl
          have hG9_f3 := hG9.frozen 3
          have hG9_c4 := hG9.cell 4 rfl
          have hG9_f4 := hG9.frozen 4
          have hG9_c5 := hG9.cell 5 rfl
          have hG9_f5 := hG9.frozen 5
          have hG9_c6 := hG9.cell 6 rfl
          have hG9_f6 := hG9.frozen 6
          have hG9_c7 := hG9.cell 7 rfl
          have hG9_f7 := hG9.frozen 7
          have hG9_c8 := hG9.cell 8 rfl
          have hG9_f8 := hG9.frozen 8
          have hG9_c9 := hG9.cell 9 rfl
          have hG9_f9 := hG9.frozen 9
          have hG9_c10 := hG9.cell 10 rfl
          have hG9_f10 := hG9.frozen 10
          have hG9_c11 := hG9.cell 11 rfl
          have hG9_f11 := hG9.frozen 11
          have hG9_c12 := hG9.cell 12 rfl
          have hG9_f12 := hG9.frozen 12
          have hG9_c13 := hG9.cell 13 rfl
          have hG9_f13 := hG9.frozen 13
          clear hX9
          go_wp2_with fail
          refine (blk_send (some ⟨W9.heap.size, 0, none⟩) 1 1 _).mono ?_
          rintro e w6 ⟨rfl, hb6⟩
          have HX6 := hide (HX9.out.step hb6)
          have HG6 := hide (HG9.out.below hb6 HG9.out.lt)
          have k2 := HX6.out.1.out
          unfold outV outZ at k2
          unfold outV outZ
          dsimp only
          clear hG9_c0 hG9_f0 hG9_c1 hG9_f1 hG9_c2 hG9_f2 hG9_c3 hG9_f3 hG9_c4 hG9_f4 hG9_c5 hG9_f5 hG9_c6 hG9_f6 hG9_c7 hG9_f7 hG9_c8 hG9_f8 hG9_c9 hG9_f9 hG9_c10 hG9_f10 hG9_c11 hG9_f11 hG9_c12 hG9_f12 hG9_c13 hG9_f13
          have k2_c0 := k2.cell 0 rfl
          have k2_f0 := k2.frozen 0
          have k2_c1 := k2.cell 1 rfl
          have k2_f1 := k2.frozen 1
          have k2_c2 := k2.cell 2 rfl
          have k2_f2 := k2.frozen 2
          have k2_c3 := k2.cell 3 rfl
          have k2_f3 := k2.frozen 3
          have k2_c4 := k2.cell 4 rfl
          have k2_f4 := k2.frozen 4
          clear hb6 hG9
          go_wp2_with fail
          obtain ⟨F1, F2⟩ := bfin_send (fun _ => False) HX6.out.1.out zz9 (M := ackM (nx - 1)) HG6.out (OwnB.nil _ _) (FIn.nil _) (HX6.out.bv rfl HN1.out HCC.out HAN'.out) HX6.out.1.1 hz
          rw [← HR.out] at F2
          clear HR
          unfold putO outZ at F1 F2
          dsimp only at F1 F2
          refine ret_out (O := ⟨[], false, 0, 0, []⟩) rfl rfl rfl F1 ?_
          exact F2
end Go.Proofs.Ytimdmhhgomfijaa
