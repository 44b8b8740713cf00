/- The reference of seg: downSeg. -/
import Derived.Test.YtimdmhhgomfijaaGreatRSgC
import Derived.Test.YtimdmhhgomfijaaGreatSegF
namespace Go.Proofs.YtimdmhhgomfijaaGreat
set_option linter.unusedVariables false
set_option linter.unusedSimpArgs false
set_option linter.unnecessarySimpa false
section
open Go.RowKit
set_option maxRecDepth 100000
set_option maxHeartbeats 40000000
theorem ob_fin {w W3 : World} {A : Option Addr} {n c p : Nat} {l : List UInt8} {G : Nat → Prop} (hO : OwnB W3 (w.heap.size + 2) A n c l) (hp : p < w.heap.size) : n = l.length ∧ n ≤ c ∧ Sl W3 A (l.map bv) ∧ (A = none → n = 0) ∧ ∀ ad, A = some ad → (G ad.block ∨ w.heap.size ≤ ad.block) ∧ ad.block < W3.heap.size ∧ ad.block ≠ p ∧ ad.block ≠ w.heap.size + 1 := by
  refine ⟨hO.hn, hO.le, hO.sl, ?_, ?_⟩
  · rintro rfl
    rcases hO.own.shape with ⟨_, h, _⟩ | ⟨g, h, _⟩
    · exact h
    · cases h
  · rintro ad rfl
    rcases hO.own.shape with ⟨h, _⟩ | ⟨g, h, h1, h2⟩
    · cases h
    · injection h with h
      subst h
      have h1 : w.heap.size + 2 ≤ g := h1
      have h2 : g < W3.heap.size := h2
      exact ⟨.inr (show w.heap.size ≤ g by omega), h2, show g ≠ p by omega, show g ≠ w.heap.size + 1 by omega⟩
theorem rsg_downSeg (p pd : Nat) (R : SegS) (A : Option Addr) (n1 c1 : Nat) (G : Nat → Prop) (M : Ms) (A3 : Option Addr) (m3 c3 : Nat) (w : World) (hB : Blk w p 52 (srvV R pd A n1 c1)) (h2 : R.st = 1) (hz1 : -1 ≤ R.sz) (hn1 : n1 = R.b.length) (hsl : Sl w A (R.b.map bv)) (hAp : ∀ ad, A = some ad → ad.block < w.heap.size ∧ ad.block ≠ p) (h256 : R.b.length ≤ 256) (hm : m3 = M.data.length) (hm1 : m3 ≤ 100000) (hMd : ∀ W, Only (fun q => q = p) w W → Sl W A3 (M.data.map bv)) :
    Calls Tryz.prog 70 #[.pointer (some ⟨p, 0, none⟩), .agg (msV M A3 m3 c3)] w (ROutR w G p pd (partS R M) (partO R M)) := by
  obtain ⟨P, hP⟩ : ∃ P, P = ROutR w G p pd (partS R M) (partO R M) := ⟨_, rfl⟩
  rw [← hP]
  have HP := hide hP
  have hz := hB.lt
  have HN1 := hide hn1
  have H2 := hide h2
  have HM := hide hm
  have HMD := hide hMd
  have hne1 : w.heap.size + 1 ≠ p := by omega
  have hne0 : w.heap.size ≠ p := by omega
  have hb256 : n1 ≤ 256 := by omega
  have HSL := hide (fun W (h : Only (fun q => q = p) w W) => sl_blk hsl (fun ad e => h.block ad.block (hAp ad e).1 (hAp ad e).2))
  have HH0 := (PX.start (cs := srvL R pd A n1 c1) hB).new2 rfl 48 90 (msL_ M A3 m3 c3) (outL_ none 0 0 outZ none 0 0)
  have HH := hide HH0
  have HZ1 := hide hz1
  clear hP hB hn1 hsl hAp h256 h2 hm hMd HH0 hz1
  unfold msL_ outL_ outZ at HH
  unfold msV
  go_enter Tryz.func70, Tryz.ntmps70
  go_wp2_with fail
  refine wp_gen (P := PX w p 52 (srvL R pd A n1 c1) [⟨w.heap.size + 1, 90, outL_ none 0 0 outZ none 0 0⟩, ⟨w.heap.size, 48, msL_ M A3 m3 c3⟩]) HH.out (fun W hW => ?_)
  clear HH
  have HX := hide hW
  have b7 : W.cell? ⟨p, 7, none⟩ = some (.bool R.tg) := hW.blk.cell 7 rfl
  have b3 : W.cell? ⟨w.heap.size, 3, none⟩ = some (.bool M.tg) := hW.k1.cell 3 rfl
  have zW := hW.lt
  have hwz : w.heap.size + 2 ≤ W.heap.size := by
    have := hW.k0.lt
    show w.heap.size + 1 < W.heap.size
    exact this
  have zk1 : w.heap.size < W.heap.size := by omega
  clear hW
  by_cases htg : M.tg = R.tg
  · have hself : (M.tg == R.tg) = true := by simp [htg]
    have HTG := hide htg
    clear htg
    refine wp_region_held_drew (S := (fun w' => (∀ qA : Addr, qA.block < (W).heap.size → w'.cell? qA = (W).cell? qA) ∧ Below (W).heap.size (W) w')) (by kernel_rfl) ?hS1 (fun hHeld => ?rest1)
    case hS1 => ((try dsimp only); (((try go_split_ands); refine sn_of ?_; repeat' (first | with_reducible assumption | with_reducible exact Below.refl _ _ | with_reducible apply below_alloc | with_reducible apply below_drew1 | with_reducible apply below_drewN | (with_reducible apply below_step; with_reducible assumption) | (with_reducible apply below_sg2; (first | exact Nat.le_refl _ | (simp; done) | omega))))))
    case' rest1 => skip
    refine wpAnyH_take (i := 0) (oi := _) (v := ?v2) rfl (by kernel_rfl) (by kernel_rfl) (by kernel_rfl) (fun _ _ _ h => h) (Or.inl ⟨by rfl, ?hy2⟩) (by assumption) ?rest2
    case hy2 => ((intro w hSw; (try dsimp only at hSw); go_simp) <;> with_reducible rfl)
    case' rest2 => try simp only [List.getElem_toArray, List.getElem_cons_zero, List.getElem_cons_succ, Act.put, List.setIfInBounds_toArray, List.set_cons_zero, List.set_cons_succ]
    refine wpAnyH_take (i := 1) (oi := _) (v := ?v3) rfl (by kernel_rfl) (by kernel_rfl) (by kernel_rfl) (fun _ _ _ h => h) (Or.inl ⟨by rfl, ?hy3⟩) (by assumption) ?rest3
    case hy3 => ((intro w hSw; (try dsimp only at hSw); go_simp) <;> with_reducible rfl)
    case' rest3 => try simp only [List.getElem_toArray, List.getElem_cons_zero, List.getElem_cons_succ, Act.put, List.setIfInBounds_toArray, List.set_cons_zero, List.set_cons_succ]
    refine wpAnyH_take (i := 2) (oi := _) (v := ?v4) rfl (by kernel_rfl) (by kernel_rfl) (by kernel_rfl) (fun _ _ _ h => h) (Or.inl ⟨by rfl, ?hy4⟩) (by assumption) ?rest4
    case hy4 => ((intro w hSw; (try dsimp only at hSw); go_simp) <;> with_reducible rfl)
    case' rest4 => try simp only [List.getElem_toArray, List.getElem_cons_zero, List.getElem_cons_succ, Act.put, List.setIfInBounds_toArray, List.set_cons_zero, List.set_cons_succ]
    refine wpAnyH_take (i := 3) (oi := _) (v := ?v5) rfl (by kernel_rfl) (by kernel_rfl) (by kernel_rfl) (fun _ _ _ h => h) (Or.inl ⟨by rfl, ?hy5⟩) (by assumption) ?rest5
    case hy5 => ((intro w hSw; (try dsimp only at hSw); go_simp) <;> with_reducible rfl)
    case' rest5 => try simp only [List.getElem_toArray, List.getElem_cons_zero, List.getElem_cons_succ, Act.put, List.setIfInBounds_toArray, List.set_cons_zero, List.set_cons_succ]
    refine wpAnyH_take (i := 4) (oi := _) (v := ?v6) rfl (by kernel_rfl) (by kernel_rfl) (by kernel_rfl) (fun _ _ _ h => h) (Or.inl ⟨by rfl, ?hy6⟩) (by assumption) ?rest6
    case hy6 => ((intro w hSw; (try dsimp only at hSw); go_simp) <;> with_reducible rfl)
    case' rest6 => try simp only [List.getElem_toArray, List.getElem_cons_zero, List.getElem_cons_succ, Act.put, List.setIfInBounds_toArray, List.set_cons_zero, List.set_cons_succ]
    refine wpAnyH_take (i := 5) (oi := _) (v := ?v7) rfl (by kernel_rfl) (by kernel_rfl) (by kernel_rfl) (fun _ _ _ h => h) (Or.inl ⟨by rfl, ?hy7⟩) (by assumption) ?rest7
    case hy7 => ((intro w hSw; (try dsimp only at hSw); go_simp) <;> with_reducible rfl)
    case' rest7 => try simp only [List.getElem_toArray, List.getElem_cons_zero, List.getElem_cons_succ, Act.put, List.setIfInBounds_toArray, List.set_cons_zero, List.set_cons_succ]
    refine wpAnyH_take (i := 6) (oi := _) (v := ?v8) rfl (by kernel_rfl) (by kernel_rfl) (by kernel_rfl) (fun _ _ _ h => h) (Or.inl ⟨by rfl, ?hy8⟩) (by assumption) ?rest8
    case hy8 => ((intro w hSw; (try dsimp only at hSw); go_simp) <;> with_reducible rfl)
    case' rest8 => try simp only [List.getElem_toArray, List.getElem_cons_zero, List.getElem_cons_succ, Act.put, List.setIfInBounds_toArray, List.set_cons_zero, List.set_cons_succ]
    refine wpAnyH_done (by kernel_rfl) ?_ _
    have hEnd := hHeld.2
    repeat (clear hHeld)
    clear hEnd
    have g6 : W.cell? ⟨p, 6, none⟩ = some (.slice A n1 c1) := HX.out.blk.cell 6 rfl
    have g9 : W.cell? ⟨w.heap.size, 9, none⟩ = some (.slice A3 m3 c3) := HX.out.k1.cell 9 rfl
    go_upto_region 3 with fail
    refine wp_gen (P := fun W' => W' = W ∨ W' = W.drew) (by first | exact .inl rfl | exact .inr rfl) (fun W' hW' => ?_)
    replace HX : Hid (PX w p 52 (srvL R pd A n1 c1) [⟨w.heap.size + 1, 90, outL_ none 0 0 outZ none 0 0⟩, ⟨w.heap.size, 48, msL_ M A3 m3 c3⟩] W') := hide (by rcases hW' with rfl | rfl; exact HX.out; exact HX.out.drew)
    have HS1 := hide (HSL.out W' HX.out.only)
    have HS3 := hide (HMD.out W' HX.out.only)
    replace g6 : W'.cell? ⟨p, 6, none⟩ = some (.slice A n1 c1) := by rcases hW' with rfl | rfl; exact g6; exact g6
    replace g9 : W'.cell? ⟨w.heap.size, 9, none⟩ = some (.slice A3 m3 c3) := by rcases hW' with rfl | rfl; exact g9; exact g9
    replace hwz : w.heap.size + 2 ≤ W'.heap.size := by rcases hW' with rfl | rfl; exact hwz; exact hwz
    replace zk1 : w.heap.size < W'.heap.size := by omega
    clear hW' b7 b3 zW
    have zW : p < W'.heap.size := by omega
    refine wp_region_T (fun w' => w'.cell? ⟨p, 6, none⟩ = some (.slice A n1 c1) ∧ w'.cell? ⟨w.heap.size, 9, none⟩ = some (.slice A3 m3 c3)) [0, 1, 2, 3, 4, 5, 6, 8, 9] (by kernel_rfl) ?hS10 (fun hHeld => ?rest10)
    case hS10 => ((try dsimp only); exact ⟨g6, g9⟩)
    case' rest10 => skip
    refine wpAnyT_take (by kernel_rfl) (by kernel_rfl) (i := 0) (oi := _) (v := ?v11) rfl (by kernel_rfl) (by kernel_rfl) (by kernel_rfl) (fun _ _ _ h => h) (Or.inl ⟨by rfl, ?hy11⟩) (by assumption) ?rest11
    case hy11 => ((intro w hSw; (try dsimp only at hSw); go_simp) <;> with_reducible rfl)
    case' rest11 => try simp only [List.getElem_toArray, List.getElem_cons_zero, List.getElem_cons_succ, Act.put, List.setIfInBounds_toArray, List.set_cons_zero, List.set_cons_succ]
    refine wpAnyT_take (by kernel_rfl) (by kernel_rfl) (i := 1) (oi := _) (v := ?v12) rfl (by kernel_rfl) (by kernel_rfl) (by kernel_rfl) (fun _ _ _ h => h) (Or.inl ⟨by rfl, ?hy12⟩) (by assumption) ?rest12
    case hy12 => ((intro w hSw; (try dsimp only at hSw); go_simp) <;> with_reducible rfl)
    case' rest12 => try simp only [List.getElem_toArray, List.getElem_cons_zero, List.getElem_cons_succ, Act.put, List.setIfInBounds_toArray, List.set_cons_zero, List.set_cons_succ]
    refine wpAnyT_take (by kernel_rfl) (by kernel_rfl) (i := 2) (oi := _) (v := ?v13) rfl (by kernel_rfl) (by kernel_rfl) (by kernel_rfl) (fun _ _ _ h => h) (Or.inl ⟨by rfl, ?hy13⟩) (by assumption) ?rest13
    case hy13 => ((intro w hSw; (try dsimp only at hSw); go_simp) <;> with_reducible rfl)
    case' rest13 => try simp only [List.getElem_toArray, List.getElem_cons_zero, List.getElem_cons_succ, Act.put, List.setIfInBounds_toArray, List.set_cons_zero, List.set_cons_succ]
    refine wpAnyT_take (by kernel_rfl) (by kernel_rfl) (i := 3) (oi := _) (v := ?v14) rfl (by kernel_rfl) (by kernel_rfl) (by kernel_rfl) (fun _ _ _ h => h) (Or.inl ⟨by rfl, ?hy14⟩) (by assumption) ?rest14
    case hy14 => ((intro w hSw; (try dsimp only at hSw); go_simp) <;> with_reducible rfl)
    case' rest14 => try simp only [List.getElem_toArray, List.getElem_cons_zero, List.getElem_cons_succ, Act.put, List.setIfInBounds_toArray, List.set_cons_zero, List.set_cons_succ]
    refine wpAnyT_take (by kernel_rfl) (by kernel_rfl) (i := 4) (oi := _) (v := ?v15) rfl (by kernel_rfl) (by kernel_rfl) (by kernel_rfl) (fun _ _ _ h => h) (Or.inl ⟨by rfl, ?hy15⟩) (by assumption) ?rest15
    case hy15 => ((intro w hSw; (try dsimp only at hSw); go_simp) <;> with_reducible rfl)
    case' rest15 => try simp only [List.getElem_toArray, List.getElem_cons_zero, List.getElem_cons_succ, Act.put, List.setIfInBounds_toArray, List.set_cons_zero, List.set_cons_succ]
    refine wpAnyT_take (by kernel_rfl) (by kernel_rfl) (i := 5) (oi := _) (v := ?v16) rfl (by kernel_rfl) (by kernel_rfl) (by kernel_rfl) (fun _ _ _ h => h) (Or.inl ⟨by rfl, ?hy16⟩) (by assumption) ?rest16
    case hy16 => ((intro w hSw; (try dsimp only at hSw); go_simp) <;> with_reducible rfl)
    case' rest16 => try simp only [List.getElem_toArray, List.getElem_cons_zero, List.getElem_cons_succ, Act.put, List.setIfInBounds_toArray, List.set_cons_zero, List.set_cons_succ]
    refine wpAnyT_take (by kernel_rfl) (by kernel_rfl) (i := 6) (oi := _) (v := ?v17) rfl (by kernel_rfl) (by kernel_rfl) (by kernel_rfl) (fun _ _ _ h => h) (Or.inl ⟨by rfl, ?hy17⟩) (by assumption) ?rest17
    case hy17 => ((intro w hSw; (try dsimp only at hSw); go_simp) <;> with_reducible rfl)
    case' rest17 => try simp only [List.getElem_toArray, List.getElem_cons_zero, List.getElem_cons_succ, Act.put, List.setIfInBounds_toArray, List.set_cons_zero, List.set_cons_succ]
    refine wpAnyT_one (i := 7) (o := _) rfl (by kernel_rfl) (fun K hK => ?_)
    go_simp
    refine (join_any A A3 n1 m3 c1 c3 R.b M.data _ HN1.out HM.out (by omega) (by omega) (HS1.out.below (Below.drew (Below.refl _ _))) (HS3.out.below (Below.drew (Below.refl _ _)))).mono ?_
    rintro e w3 ⟨A4, N, c4, rfl, hO4, hb4⟩
    dsimp only
    replace hb4 := below_undrew hb4
    have HO4 := hide (hO4.mono (B' := w.heap.size + 2) hwz)
    have HX3 := hide (HX.out.step hb4)
    have h6 : w3.cell? ⟨p, 6, none⟩ = some (.slice A n1 c1) := HX3.out.blk.cell 6 rfl
    have h9 : w3.cell? ⟨w.heap.size, 9, none⟩ = some (.slice A3 m3 c3) := HX3.out.k1.cell 9 rfl
    have f6 := HX3.out.blk.frozen 6
    have zp3 := HX3.out.lt
    have HNN : Hid (N = (R.b ++ M.data).length) := hide hO4.hn
    have hwz3 : w.heap.size + 2 ≤ w3.heap.size := Nat.le_trans hwz hb4.size
    have hN5 : N ≤ 100300 := by rw [HNN.out, List.length_append, ← HN1.out, ← HM.out]; omega
    clear hO4 hb4
    refine hK.out _ _ ?hS19 (fun hHeld => ?rest19)
    case hS19 => ((try dsimp only); (exact ⟨h6, h9⟩))
    case' rest19 => (clear hK K; try simp only [List.getElem_toArray, List.getElem_cons_zero, List.getElem_cons_succ, Act.put, List.setIfInBounds_toArray, List.set_cons_zero, List.set_cons_succ])
    refine wpAnyT_take (by kernel_rfl) (by kernel_rfl) (i := 8) (oi := _) (v := ?v20) rfl (by kernel_rfl) (by kernel_rfl) (by kernel_rfl) (fun _ _ _ h => h) (Or.inl ⟨by rfl, ?hy20⟩) (by assumption) ?rest20
    case hy20 => ((intro w hSw; (try dsimp only at hSw); go_simp) <;> with_reducible rfl)
    case' rest20 => try simp only [List.getElem_toArray, List.getElem_cons_zero, List.getElem_cons_succ, Act.put, List.setIfInBounds_toArray, List.set_cons_zero, List.set_cons_succ]
    refine wpAnyT_take (by kernel_rfl) (by kernel_rfl) (i := 9) (oi := _) (v := ?v21) rfl (by kernel_rfl) (by kernel_rfl) (by kernel_rfl) (fun _ _ _ h => h) (Or.inl ⟨by rfl, ?hy21⟩) (by assumption) ?rest21
    case hy21 => ((intro w hSw; (try dsimp only at hSw); go_simp) <;> with_reducible rfl)
    case' rest21 => try simp only [List.getElem_toArray, List.getElem_cons_zero, List.getElem_cons_succ, Act.put, List.setIfInBounds_toArray, List.set_cons_zero, List.set_cons_succ]
    refine wpAnyT_late (i := 10) (o := _) rfl (by kernel_rfl) (by kernel_rfl) (fun K hK => ?_)
    go_simp
    refine hK.out _ _ ?rest23
    case' rest23 => (clear hK K; try simp only [List.getElem_toArray, List.getElem_cons_zero, List.getElem_cons_succ, Act.put, List.setIfInBounds_toArray, List.set_cons_zero, List.set_cons_succ])
    refine wpAnyT_done (by kernel_rfl) ?_ _
    repeat (clear hHeld)
    have X4 : PX w p 52 (srvL { R with b := R.b ++ M.data } pd A4 N c4) [⟨w.heap.size + 1, 90, outL_ none 0 0 outZ none 0 0⟩, ⟨w.heap.size, 48, msL_ M A3 m3 c3⟩] _ := HX3.out.set 6 (.slice A4 N c4)
    have O4 := ownB_only HO4.out (Only.set (fun q => q = p) (Only.refl _ w3) (i := 6) rfl (.slice A4 N c4)) (fun g h1 _ (e : g = p) => by omega)
    have HX4 := hide (And.intro X4 (And.intro O4 (show w.heap.size + 2 ≤ (w3.setCell ⟨p, 6, none⟩ (.slice A4 N c4)).heap.size by simpa [World.setCell] using hwz3)))
    clear X4 O4 g6 g9 h6 h9 f6 zp3 hwz3 hwz
    go_upto_region 4 with fail
    refine wp_gen (P := fun W2 => PX w p 52 (srvL { R with b := R.b ++ M.data } pd A4 N c4) [⟨w.heap.size + 1, 90, outL_ none 0 0 outZ none 0 0⟩, ⟨w.heap.size, 48, msL_ M A3 m3 c3⟩] W2 ∧ OwnB W2 (w.heap.size + 2) A4 N c4 (R.b ++ M.data) ∧ w.heap.size + 2 ≤ W2.heap.size) HX4.out (fun W2 hW2 => ?_)
    clear HX4 HX3 HO4 HX HS1 HS3 zW zk1
    obtain ⟨hX2, hO2, hwz⟩ := hW2
    have HX2 := hide hX2
    have HO2 := hide hO2
    have bb := hX2.blk
    have kk := hX2.k0
    have mm := hX2.k1
    unfold srvL at bb
    unfold outL_ outZ at kk
    unfold msL_ at mm
    have zb := bb.lt
    have zk := kk.lt
    have zm := mm.lt
    clear hX2 hO2
    obtain ⟨bb_c0, bb_c1, bb_c2, bb_c3, bb_c4, bb_c5, bb_c6, bb_c7⟩ := cel8 bb
    have bb_f := bb.frozen
    obtain ⟨kk_c0, kk_c1, kk_c2, kk_c3, kk_c4⟩ := cel5 kk
    have kk_f := kk.frozen
    obtain ⟨mm_c0, mm_c1, mm_c2, mm_c3, mm_c4, mm_c5, mm_c6, mm_c7, mm_c8, mm_c9, mm_c10, mm_c11, mm_c12, mm_c13⟩ := cel14 mm
    have mm_f := mm.frozen
    by_cases hA1 : R.mo < (N : Int)
    · have HR : Hid ((partS R M).st = 0 ∧ P = ROutR w G p pd (partS R M) (outM (abM R.ix R.sub 101122066))) := hide (by
        have hpc : pcode R M = 101122066 := by unfold pcode; rw [if_neg (by rw [HTG.out]; simp), ← HNN.out, if_pos (.inl hA1)]
        refine ⟨by unfold partS; rw [if_neg (by rw [HTG.out]; simp), if_pos (by rw [hpc]; decide)], ?_⟩
        rw [HP.out]
        congr 1
        unfold partO abortL
        rw [hpc, if_pos (by decide), if_neg (by rw [H2.out]; decide)]
        rfl)
      refine wp_region_held_drew (S := (fun w' => (∀ qA : Addr, qA.block < (W2).heap.size → w'.cell? qA = (W2).cell? qA) ∧ Below (W2).heap.size (W2) w')) (by kernel_rfl) ?hS25 (fun hHeld => ?rest25)
      case hS25 => ((try dsimp only); (((try go_split_ands); refine sn_of ?_; repeat' (first | with_reducible assumption | with_reducible exact Below.refl _ _ | with_reducible apply below_alloc | with_reducible apply below_drew1 | with_reducible apply below_drewN | (with_reducible apply below_step; with_reducible assumption) | (with_reducible apply below_sg2; (first | exact Nat.le_refl _ | (simp; done) | omega))))))
      case' rest25 => skip
      refine wpAnyH_take (i := 0) (oi := _) (v := ?v26) rfl (by kernel_rfl) (by kernel_rfl) (by kernel_rfl) (fun _ _ _ h => h) (Or.inl ⟨by rfl, ?hy26⟩) (by assumption) ?rest26
      case hy26 => ((intro w hSw; (try dsimp only at hSw); go_simp) <;> with_reducible rfl)
      case' rest26 => try simp only [List.getElem_toArray, List.getElem_cons_zero, List.getElem_cons_succ, Act.put, List.setIfInBounds_toArray, List.set_cons_zero, List.set_cons_succ]
      refine wpAnyH_take (i := 1) (oi := _) (v := ?v27) rfl (by kernel_rfl) (by kernel_rfl) (by kernel_rfl) (fun _ _ _ h => h) (Or.inl ⟨by rfl, ?hy27⟩) (by assumption) ?rest27
      case hy27 => ((intro w hSw; (try dsimp only at hSw); go_simp) <;> with_reducible rfl)
      case' rest27 => try simp only [List.getElem_toArray, List.getElem_cons_zero, List.getElem_cons_succ, Act.put, List.setIfInBounds_toArray, List.set_cons_zero, List.set_cons_succ]
      refine wpAnyH_take (i := 2) (oi := _) (v := ?v28) rfl (by kernel_rfl) (by kernel_rfl) (by kernel_rfl) (fun _ _ _ h => h) (Or.inl ⟨by rfl, ?hy28⟩) (by assumption) ?rest28
      case hy28 => ((intro w hSw; (try dsimp only at hSw); go_simp) <;> with_reducible rfl)
      case' rest28 => try simp only [List.getElem_toArray, List.getElem_cons_zero, List.getElem_cons_succ, Act.put, List.setIfInBounds_toArray, List.set_cons_zero, List.set_cons_succ]
      refine wpAnyH_take (i := 3) (oi := _) (v := ?v29) rfl (by kernel_rfl) (by kernel_rfl) (by kernel_rfl) (fun _ _ _ h => h) (Or.inl ⟨by rfl, ?hy29⟩) (by assumption) ?rest29
      case hy29 => ((intro w hSw; (try dsimp only at hSw); go_simp) <;> with_reducible rfl)
      case' rest29 => try simp only [List.getElem_toArray, List.getElem_cons_zero, List.getElem_cons_succ, Act.put, List.setIfInBounds_toArray, List.set_cons_zero, List.set_cons_succ]
      refine wpAnyH_take (i := 4) (oi := _) (v := ?v30) rfl (by kernel_rfl) (by kernel_rfl) (by kernel_rfl) (fun _ _ _ h => h) (Or.inl ⟨by rfl, ?hy30⟩) (by assumption) ?rest30
      case hy30 => ((intro w hSw; (try dsimp only at hSw); go_simp) <;> with_reducible rfl)
      case' rest30 => try simp only [List.getElem_toArray, List.getElem_cons_zero, List.getElem_cons_succ, Act.put, List.setIfInBounds_toArray, List.set_cons_zero, List.set_cons_succ]
      refine wpAnyH_take (i := 5) (oi := _) (v := ?v31) rfl (by kernel_rfl) (by kernel_rfl) (by kernel_rfl) (fun _ _ _ h => h) (Or.inl ⟨by rfl, ?hy31⟩) (by assumption) ?rest31
      case hy31 => ((intro w hSw; (try dsimp only at hSw); go_simp) <;> with_reducible rfl)
      case' rest31 => try simp only [List.getElem_toArray, List.getElem_cons_zero, List.getElem_cons_succ, Act.put, List.setIfInBounds_toArray, List.set_cons_zero, List.set_cons_succ]
      refine wpAnyH_take (i := 6) (oi := _) (v := ?v32) rfl (by kernel_rfl) (by kernel_rfl) (by kernel_rfl) (fun _ _ _ h => h) (Or.inl ⟨by rfl, ?hy32⟩) (by assumption) ?rest32
      case hy32 => ((intro w hSw; (try dsimp only at hSw); go_simp) <;> with_reducible rfl)
      case' rest32 => try simp only [List.getElem_toArray, List.getElem_cons_zero, List.getElem_cons_succ, Act.put, List.setIfInBounds_toArray, List.set_cons_zero, List.set_cons_succ]
      refine wpAnyH_take (i := 7) (oi := _) (v := ?v33) rfl (by kernel_rfl) (by kernel_rfl) (by kernel_rfl) (fun _ _ _ h => h) (Or.inl ⟨by rfl, ?hy33⟩) (by assumption) ?rest33
      case hy33 => ((intro w hSw; (try dsimp only at hSw); go_simp) <;> with_reducible rfl)
      case' rest33 => try simp only [List.getElem_toArray, List.getElem_cons_zero, List.getElem_cons_succ, Act.put, List.setIfInBounds_toArray, List.set_cons_zero, List.set_cons_succ]
      refine wpAnyH_take (i := 8) (oi := _) (v := ?v34) rfl (by kernel_rfl) (by kernel_rfl) (by kernel_rfl) (fun _ _ _ h => h) (Or.inl ⟨by rfl, ?hy34⟩) (by assumption) ?rest34
      case hy34 => ((intro w hSw; (try dsimp only at hSw); go_simp) <;> with_reducible rfl)
      case' rest34 => try simp only [List.getElem_toArray, List.getElem_cons_zero, List.getElem_cons_succ, Act.put, List.setIfInBounds_toArray, List.set_cons_zero, List.set_cons_succ]
      refine wpAnyH_take (i := 9) (oi := _) (v := ?v35) rfl (by kernel_rfl) (by kernel_rfl) (by kernel_rfl) (fun _ _ _ h => h) (Or.inl ⟨by rfl, ?hy35⟩) (by assumption) ?rest35
      case hy35 => ((intro w hSw; (try dsimp only at hSw); go_simp) <;> with_reducible rfl)
      case' rest35 => try simp only [List.getElem_toArray, List.getElem_cons_zero, List.getElem_cons_succ, Act.put, List.setIfInBounds_toArray, List.set_cons_zero, List.set_cons_succ]
      refine wpAnyH_take (i := 10) (oi := _) (v := ?v36) rfl (by kernel_rfl) (by kernel_rfl) (by kernel_rfl) (fun _ _ _ h => h) (Or.inl ⟨by rfl, ?hy36⟩) (by assumption) ?rest36
      case hy36 => ((intro w hSw; (try dsimp only at hSw); go_simp) <;> with_reducible rfl)
      case' rest36 => try simp only [List.getElem_toArray, List.getElem_cons_zero, List.getElem_cons_succ, Act.put, List.setIfInBounds_toArray, List.set_cons_zero, List.set_cons_succ]
      refine wpAnyH_take (i := 11) (oi := _) (v := undef) rfl (by kernel_rfl) (by kernel_rfl) (by kernel_rfl) (fun _ _ _ h => h) (Or.inr ⟨by rfl, rfl⟩) (by assumption) ?rest37
      case' rest37 => try simp only [List.getElem_toArray, List.getElem_cons_zero, List.getElem_cons_succ, Act.put, List.setIfInBounds_toArray, List.set_cons_zero, List.set_cons_succ]
      refine wpAnyH_take (i := 12) (oi := _) (v := undef) rfl (by kernel_rfl) (by kernel_rfl) (by kernel_rfl) (fun _ _ _ h => h) (Or.inr ⟨by rfl, rfl⟩) (by assumption) ?rest38
      case' rest38 => try simp only [List.getElem_toArray, List.getElem_cons_zero, List.getElem_cons_succ, Act.put, List.setIfInBounds_toArray, List.set_cons_zero, List.set_cons_succ]
      refine wpAnyH_take (i := 13) (oi := _) (v := undef) rfl (by kernel_rfl) (by kernel_rfl) (by kernel_rfl) (fun _ _ _ h => h) (Or.inr ⟨by rfl, rfl⟩) (by assumption) ?rest39
      case' rest39 => try simp only [List.getElem_toArray, List.getElem_cons_zero, List.getElem_cons_succ, Act.put, List.setIfInBounds_toArray, List.set_cons_zero, List.set_cons_succ]
      refine wpAnyH_take (i := 14) (oi := _) (v := undef) rfl (by kernel_rfl) (by kernel_rfl) (by kernel_rfl) (fun _ _ _ h => h) (Or.inr ⟨by rfl, rfl⟩) (by assumption) ?rest40
      case' rest40 => try simp only [List.getElem_toArray, List.getElem_cons_zero, List.getElem_cons_succ, Act.put, List.setIfInBounds_toArray, List.set_cons_zero, List.set_cons_succ]
      refine wpAnyH_take (i := 15) (oi := _) (v := undef) rfl (by kernel_rfl) (by kernel_rfl) (by kernel_rfl) (fun _ _ _ h => h) (Or.inr ⟨by rfl, rfl⟩) (by assumption) ?rest41
      case' rest41 => try simp only [List.getElem_toArray, List.getElem_cons_zero, List.getElem_cons_succ, Act.put, List.setIfInBounds_toArray, List.set_cons_zero, List.set_cons_succ]
      refine wpAnyH_take (i := 16) (oi := _) (v := undef) rfl (by kernel_rfl) (by kernel_rfl) (by kernel_rfl) (fun _ _ _ h => h) (Or.inr ⟨by rfl, rfl⟩) (by assumption) ?rest42
      case' rest42 => try simp only [List.getElem_toArray, List.getElem_cons_zero, List.getElem_cons_succ, Act.put, List.setIfInBounds_toArray, List.set_cons_zero, List.set_cons_succ]
      refine wpAnyH_take (i := 17) (oi := _) (v := undef) rfl (by kernel_rfl) (by kernel_rfl) (by kernel_rfl) (fun _ _ _ h => h) (Or.inr ⟨by rfl, rfl⟩) (by assumption) ?rest43
      case' rest43 => try simp only [List.getElem_toArray, List.getElem_cons_zero, List.getElem_cons_succ, Act.put, List.setIfInBounds_toArray, List.set_cons_zero, List.set_cons_succ]
      refine wpAnyH_take (i := 18) (oi := _) (v := undef) rfl (by kernel_rfl) (by kernel_rfl) (by kernel_rfl) (fun _ _ _ h => h) (Or.inr ⟨by rfl, rfl⟩) (by assumption) ?rest44
      case' rest44 => try simp only [List.getElem_toArray, List.getElem_cons_zero, List.getElem_cons_succ, Act.put, List.setIfInBounds_toArray, List.set_cons_zero, List.set_cons_succ]
      refine wpAnyH_take (i := 19) (oi := _) (v := undef) rfl (by kernel_rfl) (by kernel_rfl) (by kernel_rfl) (fun _ _ _ h => h) (Or.inr ⟨by rfl, rfl⟩) (by assumption) ?rest45
      case' rest45 => try simp only [List.getElem_toArray, List.getElem_cons_zero, List.getElem_cons_succ, Act.put, List.setIfInBounds_toArray, List.set_cons_zero, List.set_cons_succ]
      refine wpAnyH_take (i := 20) (oi := _) (v := undef) rfl (by kernel_rfl) (by kernel_rfl) (by kernel_rfl) (fun _ _ _ h => h) (Or.inr ⟨by rfl, rfl⟩) (by assumption) ?rest46
      case' rest46 => try simp only [List.getElem_toArray, List.getElem_cons_zero, List.getElem_cons_succ, Act.put, List.setIfInBounds_toArray, List.set_cons_zero, List.set_cons_succ]
      refine wpAnyH_take (i := 21) (oi := _) (v := undef) rfl (by kernel_rfl) (by kernel_rfl) (by kernel_rfl) (fun _ _ _ h => h) (Or.inr ⟨by rfl, rfl⟩) (by assumption) ?rest47
      case' rest47 => try simp only [List.getElem_toArray, List.getElem_cons_zero, List.getElem_cons_succ, Act.put, List.setIfInBounds_toArray, List.set_cons_zero, List.set_cons_succ]
      refine wpAnyH_take (i := 22) (oi := _) (v := undef) rfl (by kernel_rfl) (by kernel_rfl) (by kernel_rfl) (fun _ _ _ h => h) (Or.inr ⟨by rfl, rfl⟩) (by assumption) ?rest48
      case' rest48 => try simp only [List.getElem_toArray, List.getElem_cons_zero, List.getElem_cons_succ, Act.put, List.setIfInBounds_toArray, List.set_cons_zero, List.set_cons_succ]
      refine wpAnyH_take (i := 23) (oi := _) (v := undef) rfl (by kernel_rfl) (by kernel_rfl) (by kernel_rfl) (fun _ _ _ h => h) (Or.inr ⟨by rfl, rfl⟩) (by assumption) ?rest49
      case' rest49 => try simp only [List.getElem_toArray, List.getElem_cons_zero, List.getElem_cons_succ, Act.put, List.setIfInBounds_toArray, List.set_cons_zero, List.set_cons_succ]
      refine wpAnyH_take (i := 24) (oi := _) (v := undef) rfl (by kernel_rfl) (by kernel_rfl) (by kernel_rfl) (fun _ _ _ h => h) (Or.inr ⟨by rfl, rfl⟩) (by assumption) ?rest50
      case' rest50 => try simp only [List.getElem_toArray, List.getElem_cons_zero, List.getElem_cons_succ, Act.put, List.setIfInBounds_toArray, List.set_cons_zero, List.set_cons_succ]
      refine wpAnyH_take (i := 25) (oi := _) (v := undef) rfl (by kernel_rfl) (by kernel_rfl) (by kernel_rfl) (fun _ _ _ h => h) (Or.inr ⟨by rfl, rfl⟩) (by assumption) ?rest51
      case' rest51 => try simp only [List.getElem_toArray, List.getElem_cons_zero, List.getElem_cons_succ, Act.put, List.setIfInBounds_toArray, List.set_cons_zero, List.set_cons_succ]
      refine wpAnyH_take (i := 26) (oi := _) (v := undef) rfl (by kernel_rfl) (by kernel_rfl) (by kernel_rfl) (fun _ _ _ h => h) (Or.inr ⟨by rfl, rfl⟩) (by assumption) ?rest52
      case' rest52 => try simp only [List.getElem_toArray, List.getElem_cons_zero, List.getElem_cons_succ, Act.put, List.setIfInBounds_toArray, List.set_cons_zero, List.set_cons_succ]
      refine wpAnyH_take (i := 27) (oi := _) (v := undef) rfl (by kernel_rfl) (by kernel_rfl) (by kernel_rfl) (fun _ _ _ h => h) (Or.inr ⟨by rfl, rfl⟩) (by assumption) ?rest53
      case' rest53 => try simp only [List.getElem_toArray, List.getElem_cons_zero, List.getElem_cons_succ, Act.put, List.setIfInBounds_toArray, List.set_cons_zero, List.set_cons_succ]
      refine wpAnyH_take (i := 28) (oi := _) (v := ?v54) rfl (by kernel_rfl) (by kernel_rfl) (by kernel_rfl) (fun _ _ _ h => h) (Or.inl ⟨by rfl, ?hy54⟩) (by assumption) ?rest54
      case hy54 => ((intro w hSw; (try dsimp only at hSw); go_simp) <;> with_reducible rfl)
      case' rest54 => try simp only [List.getElem_toArray, List.getElem_cons_zero, List.getElem_cons_succ, Act.put, List.setIfInBounds_toArray, List.set_cons_zero, List.set_cons_succ]
      refine wpAnyH_done (by kernel_rfl) ?_ _
      have hEnd := hHeld.2
      repeat (clear hHeld)
      have HX2 := hide HX2.out.drew
      go_wp2_with fail
      refine (rsg_abort p pd { R with b := R.b ++ M.data } 101122066 A4 N c4 _ HX2.out.blk).mono ?_
      rintro e w8 ⟨_, h5⟩
      obtain ⟨g8, hg8, rfl, hM8, hB8, ho8⟩ := h5 (by show R.st ≠ 0; rw [H2.out]; decide)
      have HX8 : Hid (PX w p 52 (srvL (abortS { R with b := R.b ++ M.data }) pd A4 N c4) [⟨w.heap.size + 1, 90, outL_ none 0 0 outZ none 0 0⟩, ⟨w.heap.size, 48, msL_ M A3 m3 c3⟩] w8) := hide ((HX2.out.sub (by simp)).call ho8 hB8)
      have HM8 := hide hM8
      have zg8 : w.heap.size + 2 ≤ g8 := Nat.le_trans hwz hg8
      have k8 := HX8.out.k0
      unfold outL_ outZ at k8
      have zk8 := k8.lt
      clear kk_c0 kk_c1 kk_c2 kk_c3 kk_c4 kk_f
      clear kk
      obtain ⟨k8_c0, k8_c1, k8_c2, k8_c3, k8_c4⟩ := cel5 k8
      have k8_f := k8.frozen
      clear h5 hM8 hB8 ho8
      go_wp2_with fail
      obtain ⟨F1, F2⟩ := rfin (G := G) (S' := partS R M) (O := outM (abM R.ix R.sub 101122066)) HX8.out hz (rmsR_one zg8 HM8.out (OwnB.nil _ _)) (OwnB.nil _ _) (Ali.idle HR.out.1 rfl) (fun h => absurd h (show ¬ ((0 : Int) = 1 ∨ (0 : Int) = 2) by decide))
      rw [← HR.out.2] at F2
      unfold putO outM at F1 F2
      dsimp only at F1 F2
      exact rret_out (O := outM (abM R.ix R.sub 101122066)) rfl rfl rfl F1 F2
    · by_cases hA2 : 0 ≤ R.sz
      · by_cases hA3 : R.sz < (N : Int)
        · have HR : Hid ((partS R M).st = 0 ∧ P = ROutR w G p pd (partS R M) (outM (abM R.ix R.sub 101122066))) := hide (by
            have hpc : pcode R M = 101122066 := by unfold pcode; rw [if_neg (by rw [HTG.out]; simp), ← HNN.out, if_pos (.inr ⟨by omega, hA3⟩)]
            refine ⟨by unfold partS; rw [if_neg (by rw [HTG.out]; simp), if_pos (by rw [hpc]; decide)], ?_⟩
            rw [HP.out]
            congr 1
            unfold partO abortL
            rw [hpc, if_pos (by decide), if_neg (by rw [H2.out]; decide)]
            rfl)
          refine wp_region_held_drew (S := (fun w' => (∀ qA : Addr, qA.block < (W2).heap.size → w'.cell? qA = (W2).cell? qA) ∧ Below (W2).heap.size (W2) w')) (by kernel_rfl) ?hS56 (fun hHeld => ?rest56)
          case hS56 => ((try dsimp only); (((try go_split_ands); refine sn_of ?_; repeat' (first | with_reducible assumption | with_reducible exact Below.refl _ _ | with_reducible apply below_alloc | with_reducible apply below_drew1 | with_reducible apply below_drewN | (with_reducible apply below_step; with_reducible assumption) | (with_reducible apply below_sg2; (first | exact Nat.le_refl _ | (simp; done) | omega))))))
          case' rest56 => skip
          refine wpAnyH_take (i := 0) (oi := _) (v := ?v57) rfl (by kernel_rfl) (by kernel_rfl) (by kernel_rfl) (fun _ _ _ h => h) (Or.inl ⟨by rfl, ?hy57⟩) (by assumption) ?rest57
          case hy57 => ((intro w hSw; (try dsimp only at hSw); go_simp) <;> with_reducible rfl)
          case' rest57 => try simp only [List.getElem_toArray, List.getElem_cons_zero, List.getElem_cons_succ, Act.put, List.setIfInBounds_toArray, List.set_cons_zero, List.set_cons_succ]
          refine wpAnyH_take (i := 1) (oi := _) (v := ?v58) rfl (by kernel_rfl) (by kernel_rfl) (by kernel_rfl) (fun _ _ _ h => h) (Or.inl ⟨by rfl, ?hy58⟩) (by assumption) ?rest58
          case hy58 => ((intro w hSw; (try dsimp only at hSw); go_simp) <;> with_reducible rfl)
          case' rest58 => try simp only [List.getElem_toArray, List.getElem_cons_zero, List.getElem_cons_succ, Act.put, List.setIfInBounds_toArray, List.set_cons_zero, List.set_cons_succ]
          refine wpAnyH_take (i := 2) (oi := _) (v := ?v59) rfl (by kernel_rfl) (by kernel_rfl) (by kernel_rfl) (fun _ _ _ h => h) (Or.inl ⟨by rfl, ?hy59⟩) (by assumption) ?rest59
          case hy59 => ((intro w hSw; (try dsimp only at hSw); go_simp) <;> with_reducible rfl)
          case' rest59 => try simp only [List.getElem_toArray, List.getElem_cons_zero, List.getElem_cons_succ, Act.put, List.setIfInBounds_toArray, List.set_cons_zero, List.set_cons_succ]
          refine wpAnyH_take (i := 3) (oi := _) (v := ?v60) rfl (by kernel_rfl) (by kernel_rfl) (by kernel_rfl) (fun _ _ _ h => h) (Or.inl ⟨by rfl, ?hy60⟩) (by assumption) ?rest60
          case hy60 => ((intro w hSw; (try dsimp only at hSw); go_simp) <;> with_reducible rfl)
          case' rest60 => try simp only [List.getElem_toArray, List.getElem_cons_zero, List.getElem_cons_succ, Act.put, List.setIfInBounds_toArray, List.set_cons_zero, List.set_cons_succ]
          refine wpAnyH_take (i := 4) (oi := _) (v := ?v61) rfl (by kernel_rfl) (by kernel_rfl) (by kernel_rfl) (fun _ _ _ h => h) (Or.inl ⟨by rfl, ?hy61⟩) (by assumption) ?rest61
          case hy61 => ((intro w hSw; (try dsimp only at hSw); go_simp) <;> with_reducible rfl)
          case' rest61 => try simp only [List.getElem_toArray, List.getElem_cons_zero, List.getElem_cons_succ, Act.put, List.setIfInBounds_toArray, List.set_cons_zero, List.set_cons_succ]
          refine wpAnyH_take (i := 5) (oi := _) (v := ?v62) rfl (by kernel_rfl) (by kernel_rfl) (by kernel_rfl) (fun _ _ _ h => h) (Or.inl ⟨by rfl, ?hy62⟩) (by assumption) ?rest62
          case hy62 => ((intro w hSw; (try dsimp only at hSw); go_simp) <;> with_reducible rfl)
          case' rest62 => try simp only [List.getElem_toArray, List.getElem_cons_zero, List.getElem_cons_succ, Act.put, List.setIfInBounds_toArray, List.set_cons_zero, List.set_cons_succ]
          refine wpAnyH_take (i := 6) (oi := _) (v := ?v63) rfl (by kernel_rfl) (by kernel_rfl) (by kernel_rfl) (fun _ _ _ h => h) (Or.inl ⟨by rfl, ?hy63⟩) (by assumption) ?rest63
          case hy63 => ((intro w hSw; (try dsimp only at hSw); go_simp) <;> with_reducible rfl)
          case' rest63 => try simp only [List.getElem_toArray, List.getElem_cons_zero, List.getElem_cons_succ, Act.put, List.setIfInBounds_toArray, List.set_cons_zero, List.set_cons_succ]
          refine wpAnyH_take (i := 7) (oi := _) (v := ?v64) rfl (by kernel_rfl) (by kernel_rfl) (by kernel_rfl) (fun _ _ _ h => h) (Or.inl ⟨by rfl, ?hy64⟩) (by assumption) ?rest64
          case hy64 => ((intro w hSw; (try dsimp only at hSw); go_simp) <;> with_reducible rfl)
          case' rest64 => try simp only [List.getElem_toArray, List.getElem_cons_zero, List.getElem_cons_succ, Act.put, List.setIfInBounds_toArray, List.set_cons_zero, List.set_cons_succ]
          refine wpAnyH_take (i := 8) (oi := _) (v := ?v65) rfl (by kernel_rfl) (by kernel_rfl) (by kernel_rfl) (fun _ _ _ h => h) (Or.inl ⟨by rfl, ?hy65⟩) (by assumption) ?rest65
          case hy65 => ((intro w hSw; (try dsimp only at hSw); go_simp) <;> with_reducible rfl)
          case' rest65 => try simp only [List.getElem_toArray, List.getElem_cons_zero, List.getElem_cons_succ, Act.put, List.setIfInBounds_toArray, List.set_cons_zero, List.set_cons_succ]
          refine wpAnyH_take (i := 9) (oi := _) (v := ?v66) rfl (by kernel_rfl) (by kernel_rfl) (by kernel_rfl) (fun _ _ _ h => h) (Or.inl ⟨by rfl, ?hy66⟩) (by assumption) ?rest66
          case hy66 => ((intro w hSw; (try dsimp only at hSw); go_simp) <;> with_reducible rfl)
          case' rest66 => try simp only [List.getElem_toArray, List.getElem_cons_zero, List.getElem_cons_succ, Act.put, List.setIfInBounds_toArray, List.set_cons_zero, List.set_cons_succ]
          refine wpAnyH_take (i := 10) (oi := _) (v := ?v67) rfl (by kernel_rfl) (by kernel_rfl) (by kernel_rfl) (fun _ _ _ h => h) (Or.inl ⟨by rfl, ?hy67⟩) (by assumption) ?rest67
          case hy67 => ((intro w hSw; (try dsimp only at hSw); go_simp) <;> with_reducible rfl)
          case' rest67 => try simp only [List.getElem_toArray, List.getElem_cons_zero, List.getElem_cons_succ, Act.put, List.setIfInBounds_toArray, List.set_cons_zero, List.set_cons_succ]
          refine wpAnyH_take (i := 11) (oi := _) (v := ?v68) rfl (by kernel_rfl) (by kernel_rfl) (by kernel_rfl) (fun _ _ _ h => h) (Or.inl ⟨by rfl, ?hy68⟩) (by assumption) ?rest68
          case hy68 => ((intro w hSw; (try dsimp only at hSw); go_simp) <;> with_reducible rfl)
          case' rest68 => try simp only [List.getElem_toArray, List.getElem_cons_zero, List.getElem_cons_succ, Act.put, List.setIfInBounds_toArray, List.set_cons_zero, List.set_cons_succ]
          refine wpAnyH_take (i := 12) (oi := _) (v := ?v69) rfl (by kernel_rfl) (by kernel_rfl) (by kernel_rfl) (fun _ _ _ h => h) (Or.inl ⟨by rfl, ?hy69⟩) (by assumption) ?rest69
          case hy69 => ((intro w hSw; (try dsimp only at hSw); go_simp) <;> with_reducible rfl)
          case' rest69 => try simp only [List.getElem_toArray, List.getElem_cons_zero, List.getElem_cons_succ, Act.put, List.setIfInBounds_toArray, List.set_cons_zero, List.set_cons_succ]
          refine wpAnyH_take (i := 13) (oi := _) (v := ?v70) rfl (by kernel_rfl) (by kernel_rfl) (by kernel_rfl) (fun _ _ _ h => h) (Or.inl ⟨by rfl, ?hy70⟩) (by assumption) ?rest70
          case hy70 => ((intro w hSw; (try dsimp only at hSw); go_simp) <;> with_reducible rfl)
          case' rest70 => try simp only [List.getElem_toArray, List.getElem_cons_zero, List.getElem_cons_succ, Act.put, List.setIfInBounds_toArray, List.set_cons_zero, List.set_cons_succ]
          refine wpAnyH_take (i := 14) (oi := _) (v := ?v71) rfl (by kernel_rfl) (by kernel_rfl) (by kernel_rfl) (fun _ _ _ h => h) (Or.inl ⟨by rfl, ?hy71⟩) (by assumption) ?rest71
          case hy71 => ((intro w hSw; (try dsimp only at hSw); go_simp) <;> with_reducible rfl)
          case' rest71 => try simp only [List.getElem_toArray, List.getElem_cons_zero, List.getElem_cons_succ, Act.put, List.setIfInBounds_toArray, List.set_cons_zero, List.set_cons_succ]
          refine wpAnyH_take (i := 15) (oi := _) (v := ?v72) rfl (by kernel_rfl) (by kernel_rfl) (by kernel_rfl) (fun _ _ _ h => h) (Or.inl ⟨by rfl, ?hy72⟩) (by assumption) ?rest72
          case hy72 => ((intro w hSw; (try dsimp only at hSw); go_simp) <;> with_reducible rfl)
          case' rest72 => try simp only [List.getElem_toArray, List.getElem_cons_zero, List.getElem_cons_succ, Act.put, List.setIfInBounds_toArray, List.set_cons_zero, List.set_cons_succ]
          refine wpAnyH_take (i := 16) (oi := _) (v := ?v73) rfl (by kernel_rfl) (by kernel_rfl) (by kernel_rfl) (fun _ _ _ h => h) (Or.inl ⟨by rfl, ?hy73⟩) (by assumption) ?rest73
          case hy73 => ((intro w hSw; (try dsimp only at hSw); go_simp) <;> with_reducible rfl)
          case' rest73 => try simp only [List.getElem_toArray, List.getElem_cons_zero, List.getElem_cons_succ, Act.put, List.setIfInBounds_toArray, List.set_cons_zero, List.set_cons_succ]
          refine wpAnyH_take (i := 17) (oi := _) (v := ?v74) rfl (by kernel_rfl) (by kernel_rfl) (by kernel_rfl) (fun _ _ _ h => h) (Or.inl ⟨by rfl, ?hy74⟩) (by assumption) ?rest74
          case hy74 => ((intro w hSw; (try dsimp only at hSw); go_simp) <;> with_reducible rfl)
          case' rest74 => try simp only [List.getElem_toArray, List.getElem_cons_zero, List.getElem_cons_succ, Act.put, List.setIfInBounds_toArray, List.set_cons_zero, List.set_cons_succ]
          refine wpAnyH_take (i := 18) (oi := _) (v := ?v75) rfl (by kernel_rfl) (by kernel_rfl) (by kernel_rfl) (fun _ _ _ h => h) (Or.inl ⟨by rfl, ?hy75⟩) (by assumption) ?rest75
          case hy75 => ((intro w hSw; (try dsimp only at hSw); go_simp) <;> with_reducible rfl)
          case' rest75 => try simp only [List.getElem_toArray, List.getElem_cons_zero, List.getElem_cons_succ, Act.put, List.setIfInBounds_toArray, List.set_cons_zero, List.set_cons_succ]
          refine wpAnyH_take (i := 19) (oi := _) (v := ?v76) rfl (by kernel_rfl) (by kernel_rfl) (by kernel_rfl) (fun _ _ _ h => h) (Or.inl ⟨by rfl, ?hy76⟩) (by assumption) ?rest76
          case hy76 => ((intro w hSw; (try dsimp only at hSw); go_simp) <;> with_reducible rfl)
          case' rest76 => try simp only [List.getElem_toArray, List.getElem_cons_zero, List.getElem_cons_succ, Act.put, List.setIfInBounds_toArray, List.set_cons_zero, List.set_cons_succ]
          refine wpAnyH_take (i := 20) (oi := _) (v := ?v77) rfl (by kernel_rfl) (by kernel_rfl) (by kernel_rfl) (fun _ _ _ h => h) (Or.inl ⟨by rfl, ?hy77⟩) (by assumption) ?rest77
          case hy77 => ((intro w hSw; (try dsimp only at hSw); go_simp) <;> with_reducible rfl)
          case' rest77 => try simp only [List.getElem_toArray, List.getElem_cons_zero, List.getElem_cons_succ, Act.put, List.setIfInBounds_toArray, List.set_cons_zero, List.set_cons_succ]
          refine wpAnyH_take (i := 21) (oi := _) (v := ?v78) rfl (by kernel_rfl) (by kernel_rfl) (by kernel_rfl) (fun _ _ _ h => h) (Or.inl ⟨by rfl, ?hy78⟩) (by assumption) ?rest78
          case hy78 => ((intro w hSw; (try dsimp only at hSw); go_simp) <;> with_reducible rfl)
          case' rest78 => try simp only [List.getElem_toArray, List.getElem_cons_zero, List.getElem_cons_succ, Act.put, List.setIfInBounds_toArray, List.set_cons_zero, List.set_cons_succ]
          refine wpAnyH_take (i := 22) (oi := _) (v := ?v79) rfl (by kernel_rfl) (by kernel_rfl) (by kernel_rfl) (fun _ _ _ h => h) (Or.inl ⟨by rfl, ?hy79⟩) (by assumption) ?rest79
          case hy79 => ((intro w hSw; (try dsimp only at hSw); go_simp) <;> with_reducible rfl)
          case' rest79 => try simp only [List.getElem_toArray, List.getElem_cons_zero, List.getElem_cons_succ, Act.put, List.setIfInBounds_toArray, List.set_cons_zero, List.set_cons_succ]
          refine wpAnyH_take (i := 23) (oi := _) (v := ?v80) rfl (by kernel_rfl) (by kernel_rfl) (by kernel_rfl) (fun _ _ _ h => h) (Or.inl ⟨by rfl, ?hy80⟩) (by assumption) ?rest80
          case hy80 => ((intro w hSw; (try dsimp only at hSw); go_simp) <;> with_reducible rfl)
          case' rest80 => try simp only [List.getElem_toArray, List.getElem_cons_zero, List.getElem_cons_succ, Act.put, List.setIfInBounds_toArray, List.set_cons_zero, List.set_cons_succ]
          refine wpAnyH_take (i := 24) (oi := _) (v := ?v81) rfl (by kernel_rfl) (by kernel_rfl) (by kernel_rfl) (fun _ _ _ h => h) (Or.inl ⟨by rfl, ?hy81⟩) (by assumption) ?rest81
          case hy81 => ((intro w hSw; (try dsimp only at hSw); go_simp) <;> with_reducible rfl)
          case' rest81 => try simp only [List.getElem_toArray, List.getElem_cons_zero, List.getElem_cons_succ, Act.put, List.setIfInBounds_toArray, List.set_cons_zero, List.set_cons_succ]
          refine wpAnyH_take (i := 25) (oi := _) (v := ?v82) rfl (by kernel_rfl) (by kernel_rfl) (by kernel_rfl) (fun _ _ _ h => h) (Or.inl ⟨by rfl, ?hy82⟩) (by assumption) ?rest82
          case hy82 => ((intro w hSw; (try dsimp only at hSw); go_simp) <;> with_reducible rfl)
          case' rest82 => try simp only [List.getElem_toArray, List.getElem_cons_zero, List.getElem_cons_succ, Act.put, List.setIfInBounds_toArray, List.set_cons_zero, List.set_cons_succ]
          refine wpAnyH_take (i := 26) (oi := _) (v := ?v83) rfl (by kernel_rfl) (by kernel_rfl) (by kernel_rfl) (fun _ _ _ h => h) (Or.inl ⟨by rfl, ?hy83⟩) (by assumption) ?rest83
          case hy83 => ((intro w hSw; (try dsimp only at hSw); go_simp) <;> with_reducible rfl)
          case' rest83 => try simp only [List.getElem_toArray, List.getElem_cons_zero, List.getElem_cons_succ, Act.put, List.setIfInBounds_toArray, List.set_cons_zero, List.set_cons_succ]
          refine wpAnyH_take (i := 27) (oi := _) (v := ?v84) rfl (by kernel_rfl) (by kernel_rfl) (by kernel_rfl) (fun _ _ _ h => h) (Or.inl ⟨by rfl, ?hy84⟩) (by assumption) ?rest84
          case hy84 => ((intro w hSw; (try dsimp only at hSw); go_simp) <;> with_reducible rfl)
          case' rest84 => try simp only [List.getElem_toArray, List.getElem_cons_zero, List.getElem_cons_succ, Act.put, List.setIfInBounds_toArray, List.set_cons_zero, List.set_cons_succ]
          refine wpAnyH_take (i := 28) (oi := _) (v := ?v85) rfl (by kernel_rfl) (by kernel_rfl) (by kernel_rfl) (fun _ _ _ h => h) (Or.inl ⟨by rfl, ?hy85⟩) (by assumption) ?rest85
          case hy85 => ((intro w hSw; (try dsimp only at hSw); go_simp) <;> with_reducible rfl)
          case' rest85 => try simp only [List.getElem_toArray, List.getElem_cons_zero, List.getElem_cons_succ, Act.put, List.setIfInBounds_toArray, List.set_cons_zero, List.set_cons_succ]
          refine wpAnyH_done (by kernel_rfl) ?_ _
          have hEnd := hHeld.2
          repeat (clear hHeld)
          have HX2 := hide HX2.out.drew
          go_wp2_with fail
          refine (rsg_abort p pd { R with b := R.b ++ M.data } 101122066 A4 N c4 _ HX2.out.blk).mono ?_
          rintro e w8 ⟨_, h5⟩
          obtain ⟨g8, hg8, rfl, hM8, hB8, ho8⟩ := h5 (by show R.st ≠ 0; rw [H2.out]; decide)
          have HX8 : Hid (PX w p 52 (srvL (abortS { R with b := R.b ++ M.data }) pd A4 N c4) [⟨w.heap.size + 1, 90, outL_ none 0 0 outZ none 0 0⟩, ⟨w.heap.size, 48, msL_ M A3 m3 c3⟩] w8) := hide ((HX2.out.sub (by simp)).call ho8 hB8)
          have HM8 := hide hM8
          have zg8 : w.heap.size + 2 ≤ g8 := Nat.le_trans hwz hg8
          have k8 := HX8.out.k0
          unfold outL_ outZ at k8
          have zk8 := k8.lt
          clear kk_c0 kk_c1 kk_c2 kk_c3 kk_c4 kk_f
          clear kk
          obtain ⟨k8_c0, k8_c1, k8_c2, k8_c3, k8_c4⟩ := cel5 k8
          have k8_f := k8.frozen
          clear h5 hM8 hB8 ho8
          go_wp2_with fail
          obtain ⟨F1, F2⟩ := rfin (G := G) (S' := partS R M) (O := outM (abM R.ix R.sub 101122066)) HX8.out hz (rmsR_one zg8 HM8.out (OwnB.nil _ _)) (OwnB.nil _ _) (Ali.idle HR.out.1 rfl) (fun h => absurd h (show ¬ ((0 : Int) = 1 ∨ (0 : Int) = 2) by decide))
          rw [← HR.out.2] at F2
          unfold putO outM at F1 F2
          dsimp only at F1 F2
          exact rret_out (O := outM (abM R.ix R.sub 101122066)) rfl rfl rfl F1 F2
        · skip
          refine wp_region_held_drew (S := (fun w' => (∀ qA : Addr, qA.block < (W2).heap.size → w'.cell? qA = (W2).cell? qA) ∧ Below (W2).heap.size (W2) w')) (by kernel_rfl) ?hS87 (fun hHeld => ?rest87)
          case hS87 => ((try dsimp only); (((try go_split_ands); refine sn_of ?_; repeat' (first | with_reducible assumption | with_reducible exact Below.refl _ _ | with_reducible apply below_alloc | with_reducible apply below_drew1 | with_reducible apply below_drewN | (with_reducible apply below_step; with_reducible assumption) | (with_reducible apply below_sg2; (first | exact Nat.le_refl _ | (simp; done) | omega))))))
          case' rest87 => skip
          refine wpAnyH_take (i := 0) (oi := _) (v := ?v88) rfl (by kernel_rfl) (by kernel_rfl) (by kernel_rfl) (fun _ _ _ h => h) (Or.inl ⟨by rfl, ?hy88⟩) (by assumption) ?rest88
          case hy88 => ((intro w hSw; (try dsimp only at hSw); go_simp) <;> with_reducible rfl)
          case' rest88 => try simp only [List.getElem_toArray, List.getElem_cons_zero, List.getElem_cons_succ, Act.put, List.setIfInBounds_toArray, List.set_cons_zero, List.set_cons_succ]
          refine wpAnyH_take (i := 1) (oi := _) (v := ?v89) rfl (by kernel_rfl) (by kernel_rfl) (by kernel_rfl) (fun _ _ _ h => h) (Or.inl ⟨by rfl, ?hy89⟩) (by assumption) ?rest89
          case hy89 => ((intro w hSw; (try dsimp only at hSw); go_simp) <;> with_reducible rfl)
          case' rest89 => try simp only [List.getElem_toArray, List.getElem_cons_zero, List.getElem_cons_succ, Act.put, List.setIfInBounds_toArray, List.set_cons_zero, List.set_cons_succ]
          refine wpAnyH_take (i := 2) (oi := _) (v := ?v90) rfl (by kernel_rfl) (by kernel_rfl) (by kernel_rfl) (fun _ _ _ h => h) (Or.inl ⟨by rfl, ?hy90⟩) (by assumption) ?rest90
          case hy90 => ((intro w hSw; (try dsimp only at hSw); go_simp) <;> with_reducible rfl)
          case' rest90 => try simp only [List.getElem_toArray, List.getElem_cons_zero, List.getElem_cons_succ, Act.put, List.setIfInBounds_toArray, List.set_cons_zero, List.set_cons_succ]
          refine wpAnyH_take (i := 3) (oi := _) (v := ?v91) rfl (by kernel_rfl) (by kernel_rfl) (by kernel_rfl) (fun _ _ _ h => h) (Or.inl ⟨by rfl, ?hy91⟩) (by assumption) ?rest91
          case hy91 => ((intro w hSw; (try dsimp only at hSw); go_simp) <;> with_reducible rfl)
          case' rest91 => try simp only [List.getElem_toArray, List.getElem_cons_zero, List.getElem_cons_succ, Act.put, List.setIfInBounds_toArray, List.set_cons_zero, List.set_cons_succ]
          refine wpAnyH_take (i := 4) (oi := _) (v := ?v92) rfl (by kernel_rfl) (by kernel_rfl) (by kernel_rfl) (fun _ _ _ h => h) (Or.inl ⟨by rfl, ?hy92⟩) (by assumption) ?rest92
          case hy92 => ((intro w hSw; (try dsimp only at hSw); go_simp) <;> with_reducible rfl)
          case' rest92 => try simp only [List.getElem_toArray, List.getElem_cons_zero, List.getElem_cons_succ, Act.put, List.setIfInBounds_toArray, List.set_cons_zero, List.set_cons_succ]
          refine wpAnyH_take (i := 5) (oi := _) (v := ?v93) rfl (by kernel_rfl) (by kernel_rfl) (by kernel_rfl) (fun _ _ _ h => h) (Or.inl ⟨by rfl, ?hy93⟩) (by assumption) ?rest93
          case hy93 => ((intro w hSw; (try dsimp only at hSw); go_simp) <;> with_reducible rfl)
          case' rest93 => try simp only [List.getElem_toArray, List.getElem_cons_zero, List.getElem_cons_succ, Act.put, List.setIfInBounds_toArray, List.set_cons_zero, List.set_cons_succ]
          refine wpAnyH_take (i := 6) (oi := _) (v := ?v94) rfl (by kernel_rfl) (by kernel_rfl) (by kernel_rfl) (fun _ _ _ h => h) (Or.inl ⟨by rfl, ?hy94⟩) (by assumption) ?rest94
          case hy94 => ((intro w hSw; (try dsimp only at hSw); go_simp) <;> with_reducible rfl)
          case' rest94 => try simp only [List.getElem_toArray, List.getElem_cons_zero, List.getElem_cons_succ, Act.put, List.setIfInBounds_toArray, List.set_cons_zero, List.set_cons_succ]
          refine wpAnyH_take (i := 7) (oi := _) (v := ?v95) rfl (by kernel_rfl) (by kernel_rfl) (by kernel_rfl) (fun _ _ _ h => h) (Or.inl ⟨by rfl, ?hy95⟩) (by assumption) ?rest95
          case hy95 => ((intro w hSw; (try dsimp only at hSw); go_simp) <;> with_reducible rfl)
          case' rest95 => try simp only [List.getElem_toArray, List.getElem_cons_zero, List.getElem_cons_succ, Act.put, List.setIfInBounds_toArray, List.set_cons_zero, List.set_cons_succ]
          refine wpAnyH_take (i := 8) (oi := _) (v := ?v96) rfl (by kernel_rfl) (by kernel_rfl) (by kernel_rfl) (fun _ _ _ h => h) (Or.inl ⟨by rfl, ?hy96⟩) (by assumption) ?rest96
          case hy96 => ((intro w hSw; (try dsimp only at hSw); go_simp) <;> with_reducible rfl)
          case' rest96 => try simp only [List.getElem_toArray, List.getElem_cons_zero, List.getElem_cons_succ, Act.put, List.setIfInBounds_toArray, List.set_cons_zero, List.set_cons_succ]
          refine wpAnyH_take (i := 9) (oi := _) (v := ?v97) rfl (by kernel_rfl) (by kernel_rfl) (by kernel_rfl) (fun _ _ _ h => h) (Or.inl ⟨by rfl, ?hy97⟩) (by assumption) ?rest97
          case hy97 => ((intro w hSw; (try dsimp only at hSw); go_simp) <;> with_reducible rfl)
          case' rest97 => try simp only [List.getElem_toArray, List.getElem_cons_zero, List.getElem_cons_succ, Act.put, List.setIfInBounds_toArray, List.set_cons_zero, List.set_cons_succ]
          refine wpAnyH_take (i := 10) (oi := _) (v := ?v98) rfl (by kernel_rfl) (by kernel_rfl) (by kernel_rfl) (fun _ _ _ h => h) (Or.inl ⟨by rfl, ?hy98⟩) (by assumption) ?rest98
          case hy98 => ((intro w hSw; (try dsimp only at hSw); go_simp) <;> with_reducible rfl)
          case' rest98 => try simp only [List.getElem_toArray, List.getElem_cons_zero, List.getElem_cons_succ, Act.put, List.setIfInBounds_toArray, List.set_cons_zero, List.set_cons_succ]
          refine wpAnyH_take (i := 11) (oi := _) (v := ?v99) rfl (by kernel_rfl) (by kernel_rfl) (by kernel_rfl) (fun _ _ _ h => h) (Or.inl ⟨by rfl, ?hy99⟩) (by assumption) ?rest99
          case hy99 => ((intro w hSw; (try dsimp only at hSw); go_simp) <;> with_reducible rfl)
          case' rest99 => try simp only [List.getElem_toArray, List.getElem_cons_zero, List.getElem_cons_succ, Act.put, List.setIfInBounds_toArray, List.set_cons_zero, List.set_cons_succ]
          refine wpAnyH_take (i := 12) (oi := _) (v := ?v100) rfl (by kernel_rfl) (by kernel_rfl) (by kernel_rfl) (fun _ _ _ h => h) (Or.inl ⟨by rfl, ?hy100⟩) (by assumption) ?rest100
          case hy100 => ((intro w hSw; (try dsimp only at hSw); go_simp) <;> with_reducible rfl)
          case' rest100 => try simp only [List.getElem_toArray, List.getElem_cons_zero, List.getElem_cons_succ, Act.put, List.setIfInBounds_toArray, List.set_cons_zero, List.set_cons_succ]
          refine wpAnyH_take (i := 13) (oi := _) (v := ?v101) rfl (by kernel_rfl) (by kernel_rfl) (by kernel_rfl) (fun _ _ _ h => h) (Or.inl ⟨by rfl, ?hy101⟩) (by assumption) ?rest101
          case hy101 => ((intro w hSw; (try dsimp only at hSw); go_simp) <;> with_reducible rfl)
          case' rest101 => try simp only [List.getElem_toArray, List.getElem_cons_zero, List.getElem_cons_succ, Act.put, List.setIfInBounds_toArray, List.set_cons_zero, List.set_cons_succ]
          refine wpAnyH_take (i := 14) (oi := _) (v := ?v102) rfl (by kernel_rfl) (by kernel_rfl) (by kernel_rfl) (fun _ _ _ h => h) (Or.inl ⟨by rfl, ?hy102⟩) (by assumption) ?rest102
          case hy102 => ((intro w hSw; (try dsimp only at hSw); go_simp) <;> with_reducible rfl)
          case' rest102 => try simp only [List.getElem_toArray, List.getElem_cons_zero, List.getElem_cons_succ, Act.put, List.setIfInBounds_toArray, List.set_cons_zero, List.set_cons_succ]
          refine wpAnyH_take (i := 15) (oi := _) (v := ?v103) rfl (by kernel_rfl) (by kernel_rfl) (by kernel_rfl) (fun _ _ _ h => h) (Or.inl ⟨by rfl, ?hy103⟩) (by assumption) ?rest103
          case hy103 => ((intro w hSw; (try dsimp only at hSw); go_simp) <;> with_reducible rfl)
          case' rest103 => try simp only [List.getElem_toArray, List.getElem_cons_zero, List.getElem_cons_succ, Act.put, List.setIfInBounds_toArray, List.set_cons_zero, List.set_cons_succ]
          refine wpAnyH_take (i := 16) (oi := _) (v := ?v104) rfl (by kernel_rfl) (by kernel_rfl) (by kernel_rfl) (fun _ _ _ h => h) (Or.inl ⟨by rfl, ?hy104⟩) (by assumption) ?rest104
          case hy104 => ((intro w hSw; (try dsimp only at hSw); go_simp) <;> with_reducible rfl)
          case' rest104 => try simp only [List.getElem_toArray, List.getElem_cons_zero, List.getElem_cons_succ, Act.put, List.setIfInBounds_toArray, List.set_cons_zero, List.set_cons_succ]
          refine wpAnyH_take (i := 17) (oi := _) (v := ?v105) rfl (by kernel_rfl) (by kernel_rfl) (by kernel_rfl) (fun _ _ _ h => h) (Or.inl ⟨by rfl, ?hy105⟩) (by assumption) ?rest105
          case hy105 => ((intro w hSw; (try dsimp only at hSw); go_simp) <;> with_reducible rfl)
          case' rest105 => try simp only [List.getElem_toArray, List.getElem_cons_zero, List.getElem_cons_succ, Act.put, List.setIfInBounds_toArray, List.set_cons_zero, List.set_cons_succ]
          refine wpAnyH_take (i := 18) (oi := _) (v := ?v106) rfl (by kernel_rfl) (by kernel_rfl) (by kernel_rfl) (fun _ _ _ h => h) (Or.inl ⟨by rfl, ?hy106⟩) (by assumption) ?rest106
          case hy106 => ((intro w hSw; (try dsimp only at hSw); go_simp) <;> with_reducible rfl)
          case' rest106 => try simp only [List.getElem_toArray, List.getElem_cons_zero, List.getElem_cons_succ, Act.put, List.setIfInBounds_toArray, List.set_cons_zero, List.set_cons_succ]
          refine wpAnyH_take (i := 19) (oi := _) (v := ?v107) rfl (by kernel_rfl) (by kernel_rfl) (by kernel_rfl) (fun _ _ _ h => h) (Or.inl ⟨by rfl, ?hy107⟩) (by assumption) ?rest107
          case hy107 => ((intro w hSw; (try dsimp only at hSw); go_simp) <;> with_reducible rfl)
          case' rest107 => try simp only [List.getElem_toArray, List.getElem_cons_zero, List.getElem_cons_succ, Act.put, List.setIfInBounds_toArray, List.set_cons_zero, List.set_cons_succ]
          refine wpAnyH_take (i := 20) (oi := _) (v := ?v108) rfl (by kernel_rfl) (by kernel_rfl) (by kernel_rfl) (fun _ _ _ h => h) (Or.inl ⟨by rfl, ?hy108⟩) (by assumption) ?rest108
          case hy108 => ((intro w hSw; (try dsimp only at hSw); go_simp) <;> with_reducible rfl)
          case' rest108 => try simp only [List.getElem_toArray, List.getElem_cons_zero, List.getElem_cons_succ, Act.put, List.setIfInBounds_toArray, List.set_cons_zero, List.set_cons_succ]
          refine wpAnyH_take (i := 21) (oi := _) (v := ?v109) rfl (by kernel_rfl) (by kernel_rfl) (by kernel_rfl) (fun _ _ _ h => h) (Or.inl ⟨by rfl, ?hy109⟩) (by assumption) ?rest109
          case hy109 => ((intro w hSw; (try dsimp only at hSw); go_simp) <;> with_reducible rfl)
          case' rest109 => try simp only [List.getElem_toArray, List.getElem_cons_zero, List.getElem_cons_succ, Act.put, List.setIfInBounds_toArray, List.set_cons_zero, List.set_cons_succ]
          refine wpAnyH_take (i := 22) (oi := _) (v := ?v110) rfl (by kernel_rfl) (by kernel_rfl) (by kernel_rfl) (fun _ _ _ h => h) (Or.inl ⟨by rfl, ?hy110⟩) (by assumption) ?rest110
          case hy110 => ((intro w hSw; (try dsimp only at hSw); go_simp) <;> with_reducible rfl)
          case' rest110 => try simp only [List.getElem_toArray, List.getElem_cons_zero, List.getElem_cons_succ, Act.put, List.setIfInBounds_toArray, List.set_cons_zero, List.set_cons_succ]
          refine wpAnyH_take (i := 23) (oi := _) (v := ?v111) rfl (by kernel_rfl) (by kernel_rfl) (by kernel_rfl) (fun _ _ _ h => h) (Or.inl ⟨by rfl, ?hy111⟩) (by assumption) ?rest111
          case hy111 => ((intro w hSw; (try dsimp only at hSw); go_simp) <;> with_reducible rfl)
          case' rest111 => try simp only [List.getElem_toArray, List.getElem_cons_zero, List.getElem_cons_succ, Act.put, List.setIfInBounds_toArray, List.set_cons_zero, List.set_cons_succ]
          refine wpAnyH_take (i := 24) (oi := _) (v := ?v112) rfl (by kernel_rfl) (by kernel_rfl) (by kernel_rfl) (fun _ _ _ h => h) (Or.inl ⟨by rfl, ?hy112⟩) (by assumption) ?rest112
          case hy112 => ((intro w hSw; (try dsimp only at hSw); go_simp) <;> with_reducible rfl)
          case' rest112 => try simp only [List.getElem_toArray, List.getElem_cons_zero, List.getElem_cons_succ, Act.put, List.setIfInBounds_toArray, List.set_cons_zero, List.set_cons_succ]
          refine wpAnyH_take (i := 25) (oi := _) (v := ?v113) rfl (by kernel_rfl) (by kernel_rfl) (by kernel_rfl) (fun _ _ _ h => h) (Or.inl ⟨by rfl, ?hy113⟩) (by assumption) ?rest113
          case hy113 => ((intro w hSw; (try dsimp only at hSw); go_simp) <;> with_reducible rfl)
          case' rest113 => try simp only [List.getElem_toArray, List.getElem_cons_zero, List.getElem_cons_succ, Act.put, List.setIfInBounds_toArray, List.set_cons_zero, List.set_cons_succ]
          refine wpAnyH_take (i := 26) (oi := _) (v := ?v114) rfl (by kernel_rfl) (by kernel_rfl) (by kernel_rfl) (fun _ _ _ h => h) (Or.inl ⟨by rfl, ?hy114⟩) (by assumption) ?rest114
          case hy114 => ((intro w hSw; (try dsimp only at hSw); go_simp) <;> with_reducible rfl)
          case' rest114 => try simp only [List.getElem_toArray, List.getElem_cons_zero, List.getElem_cons_succ, Act.put, List.setIfInBounds_toArray, List.set_cons_zero, List.set_cons_succ]
          refine wpAnyH_take (i := 27) (oi := _) (v := ?v115) rfl (by kernel_rfl) (by kernel_rfl) (by kernel_rfl) (fun _ _ _ h => h) (Or.inl ⟨by rfl, ?hy115⟩) (by assumption) ?rest115
          case hy115 => ((intro w hSw; (try dsimp only at hSw); go_simp) <;> with_reducible rfl)
          case' rest115 => try simp only [List.getElem_toArray, List.getElem_cons_zero, List.getElem_cons_succ, Act.put, List.setIfInBounds_toArray, List.set_cons_zero, List.set_cons_succ]
          refine wpAnyH_take (i := 28) (oi := _) (v := ?v116) rfl (by kernel_rfl) (by kernel_rfl) (by kernel_rfl) (fun _ _ _ h => h) (Or.inl ⟨by rfl, ?hy116⟩) (by assumption) ?rest116
          case hy116 => ((intro w hSw; (try dsimp only at hSw); go_simp) <;> with_reducible rfl)
          case' rest116 => try simp only [List.getElem_toArray, List.getElem_cons_zero, List.getElem_cons_succ, Act.put, List.setIfInBounds_toArray, List.set_cons_zero, List.set_cons_succ]
          refine wpAnyH_done (by kernel_rfl) ?_ _
          have hEnd := hHeld.2
          repeat (clear hHeld)
          have X3 : PX w p 52 (srvL { R with tg := !R.tg, b := R.b ++ M.data } pd A4 N c4) [⟨W2.heap.size, 48, msL_ (okM 13 0 0 M.tg) none 0 0⟩, ⟨w.heap.size + 1, 90, outL_ none 0 0 outZ none 0 0⟩, ⟨w.heap.size, 48, msL_ M A3 m3 c3⟩] _ := (HX2.out.set 7 (.bool !R.tg)).newz (N := W2.heap.size) (by simp [World.setCell]) 48 (msL_ (okM 13 0 0 M.tg) none 0 0)
          have O3 := (ownB_only HO2.out (Only.set (fun q => q = p) (Only.refl _ W2) (i := 7) rfl (.bool !R.tg)) (fun g h1 _ (e : g = p) => by omega)).alloc (.cells (msL_ (okM 13 0 0 M.tg) none 0 0).toArray 48)
          have hX3 := And.intro X3.drew (And.intro O3.drew (show w.heap.size + 2 ≤ (((W2.setCell ⟨p, 7, none⟩ (.bool !R.tg)).alloc (.cells (msL_ (okM 13 0 0 M.tg) none 0 0).toArray 48)).drew).heap.size by simp [World.setCell]; omega))
          simp only [show List.toArray (msL_ (okM 13 0 0 M.tg) none 0 0) = #[.int .i64 13, .int .i64 0, .int .i64 0, .bool M.tg, .bool false, .bool false, .bool false, .int .u32 0, .int .u32 0, .slice none 0 0, .int .i64 0, .int .i64 0, .int .i64 0, .int .u16 0] from rfl] at hX3
          have HX3 := hide hX3
          clear X3 O3 hX3
          go_upto_region 8 with fail
          refine wp_gen (P := fun W3 => PX w p 52 (srvL { R with tg := !R.tg, b := R.b ++ M.data } pd A4 N c4) [⟨W2.heap.size, 48, msL_ (okM 13 0 0 M.tg) none 0 0⟩, ⟨w.heap.size + 1, 90, outL_ none 0 0 outZ none 0 0⟩, ⟨w.heap.size, 48, msL_ M A3 m3 c3⟩] W3 ∧ OwnB W3 (w.heap.size + 2) A4 N c4 (R.b ++ M.data) ∧ w.heap.size + 2 ≤ W3.heap.size) HX3.out (fun W3 hW3 => ?_)
          obtain ⟨gk, hgk⟩ : ∃ gk, gk = W2.heap.size := ⟨_, rfl⟩
          rw [← hgk] at hW3 ⊢
          have hgp : gk ≠ p := by omega
          have hgw : w.heap.size + 2 ≤ gk := by omega
          clear HX3 HX2 HO2 hwz hgk
          obtain ⟨hX2, hO2, hwz⟩ := hW3
          have HX2 := hide hX2
          have HO2 := hide hO2
          clear bb_c0 bb_c1 bb_c2 bb_c3 bb_c4 bb_c5 bb_c6 bb_c7 bb_f
          clear kk_c0 kk_c1 kk_c2 kk_c3 kk_c4 kk_f
          clear mm_c0 mm_c1 mm_c2 mm_c3 mm_c4 mm_c5 mm_c6 mm_c7 mm_c8 mm_c9 mm_c10 mm_c11 mm_c12 mm_c13 mm_f
          clear bb kk mm zb zk zm
          have bb := hX2.blk
          have ok := hX2.k0
          have kk := hX2.k1
          have mm := hX2.k2
          unfold srvL at bb
          unfold msL_ okM at ok
          unfold outL_ outZ at kk
          unfold msL_ at mm
          have zb := bb.lt
          have zo := ok.lt
          have zk := kk.lt
          have zm := mm.lt
          clear hX2 hO2
          obtain ⟨bb_c0, bb_c1, bb_c2, bb_c3, bb_c4, bb_c5, bb_c6, bb_c7⟩ := cel8 bb
          have bb_f := bb.frozen
          obtain ⟨ok_c0, ok_c1, ok_c2, ok_c3, ok_c4, ok_c5, ok_c6, ok_c7, ok_c8, ok_c9, ok_c10, ok_c11, ok_c12, ok_c13⟩ := cel14 ok
          have ok_f := ok.frozen
          obtain ⟨kk_c0, kk_c1, kk_c2, kk_c3, kk_c4⟩ := cel5 kk
          have kk_f := kk.frozen
          obtain ⟨mm_c0, mm_c1, mm_c2, mm_c3, mm_c4, mm_c5, mm_c6, mm_c7, mm_c8, mm_c9, mm_c10, mm_c11, mm_c12, mm_c13⟩ := cel14 mm
          have mm_f := mm.frozen
          cases hla : M.la
          · have HLA := hide hla
            rw [hla] at mm_c4
            have HPC : Hid (pcode R M = 0) := hide (by unfold pcode; rw [if_neg (by rw [HTG.out]; simp), ← HNN.out, if_neg (fun h => h.elim hA1 (fun h => hA3 h.2)), if_neg (by rw [hla]; simp)])
            have HPS : Hid (partS R M = { R with tg := !R.tg, b := R.b ++ M.data }) := hide (by unfold partS; rw [if_neg (by rw [HTG.out]; simp), if_neg (by rw [HPC.out]; simp), if_neg (by rw [HLA.out]; simp)])
            have HR : Hid (P = ROutR w G p pd (partS R M) (outM (okM 13 0 0 M.tg))) := hide (by
              rw [HP.out]
              congr 1
              unfold partO
              rw [if_neg (by rw [HPC.out]; simp), if_neg (by rw [HLA.out]; simp)])
            clear hla
            go_wp2_with fail
            obtain ⟨F1, F2⟩ := rfin_send (G := G) (S' := partS R M) (M := okM 13 0 0 M.tg) (N := W3.heap.size) (HX2.out.sub (ks' := [⟨w.heap.size + 1, 90, outL_ none 0 0 outZ none 0 0⟩]) (by simp)) rfl hz (OwnB.nil _ _) (by
              rw [HPS.out]
              exact Ali.refl1 H2.out HZ1.out) (fun _ => ob_fin HO2.out hz)
            rw [← HR.out] at F2
            unfold putO outZ msV okM at F1 F2
            dsimp only at F1 F2
            exact rret_out (O := outZ) rfl rfl rfl F1 F2
          · have HLA := hide hla
            rw [hla] at mm_c4
            by_cases hA4 : (N : Int) = R.sz
            · have hA5 : ((N : Int) != R.sz) = false := by simp [hA4]
              have HPC : Hid (pcode R M = 0) := hide (by unfold pcode; rw [if_neg (by rw [HTG.out]; simp), ← HNN.out, if_neg (fun h => h.elim hA1 (fun h => hA3 h.2)), if_neg (fun h => h.2.2 hA4)])
              have HPS : Hid (partS R M = writeS { R with tg := !R.tg, b := R.b ++ M.data } (okM 13 0 0 M.tg)) := hide (by unfold partS; rw [if_neg (by rw [HTG.out]; simp), if_neg (by rw [HPC.out]; simp), if_pos HLA.out]; rfl)
              have HR : Hid (P = ROutR w G p pd (partS R M) ⟨[], true, R.ix, R.sub, R.b ++ M.data⟩) := hide (by
                rw [HP.out]
                congr 1
                unfold partO
                rw [if_neg (by rw [HPC.out]; simp), if_pos HLA.out])
              clear hla
              go_upto_region 10 with fail
              refine wp_region_held_drew (S := (fun w' => (∀ qA : Addr, qA.block < (W3).heap.size → w'.cell? qA = (W3).cell? qA) ∧ Below (W3).heap.size (W3) w')) (by kernel_rfl) ?hS118 (fun hHeld => ?rest118)
              case hS118 => ((try dsimp only); (((try go_split_ands); refine sn_of ?_; repeat' (first | with_reducible assumption | with_reducible exact Below.refl _ _ | with_reducible apply below_alloc | with_reducible apply below_drew1 | with_reducible apply below_drewN | (with_reducible apply below_step; with_reducible assumption) | (with_reducible apply below_sg2; (first | exact Nat.le_refl _ | (simp; done) | omega))))))
              case' rest118 => skip
              refine wpAnyH_take (i := 0) (oi := _) (v := ?v119) rfl (by kernel_rfl) (by kernel_rfl) (by kernel_rfl) (fun _ _ _ h => h) (Or.inl ⟨by rfl, ?hy119⟩) (by assumption) ?rest119
              case hy119 => ((intro w hSw; (try dsimp only at hSw); go_simp) <;> with_reducible rfl)
              case' rest119 => try simp only [List.getElem_toArray, List.getElem_cons_zero, List.getElem_cons_succ, Act.put, List.setIfInBounds_toArray, List.set_cons_zero, List.set_cons_succ]
              refine wpAnyH_take (i := 1) (oi := _) (v := ?v120) rfl (by kernel_rfl) (by kernel_rfl) (by kernel_rfl) (fun _ _ _ h => h) (Or.inl ⟨by rfl, ?hy120⟩) (by assumption) ?rest120
              case hy120 => ((intro w hSw; (try dsimp only at hSw); go_simp) <;> with_reducible rfl)
              case' rest120 => try simp only [List.getElem_toArray, List.getElem_cons_zero, List.getElem_cons_succ, Act.put, List.setIfInBounds_toArray, List.set_cons_zero, List.set_cons_succ]
              refine wpAnyH_take (i := 2) (oi := _) (v := ?v121) rfl (by kernel_rfl) (by kernel_rfl) (by kernel_rfl) (fun _ _ _ h => h) (Or.inl ⟨by rfl, ?hy121⟩) (by assumption) ?rest121
              case hy121 => ((intro w hSw; (try dsimp only at hSw); go_simp) <;> with_reducible rfl)
              case' rest121 => try simp only [List.getElem_toArray, List.getElem_cons_zero, List.getElem_cons_succ, Act.put, List.setIfInBounds_toArray, List.set_cons_zero, List.set_cons_succ]
              refine wpAnyH_take (i := 3) (oi := _) (v := ?v122) rfl (by kernel_rfl) (by kernel_rfl) (by kernel_rfl) (fun _ _ _ h => h) (Or.inl ⟨by rfl, ?hy122⟩) (by assumption) ?rest122
              case hy122 => ((intro w hSw; (try dsimp only at hSw); go_simp) <;> with_reducible rfl)
              case' rest122 => try simp only [List.getElem_toArray, List.getElem_cons_zero, List.getElem_cons_succ, Act.put, List.setIfInBounds_toArray, List.set_cons_zero, List.set_cons_succ]
              refine wpAnyH_take (i := 4) (oi := _) (v := ?v123) rfl (by kernel_rfl) (by kernel_rfl) (by kernel_rfl) (fun _ _ _ h => h) (Or.inl ⟨by rfl, ?hy123⟩) (by assumption) ?rest123
              case hy123 => ((intro w hSw; (try dsimp only at hSw); go_simp) <;> with_reducible rfl)
              case' rest123 => try simp only [List.getElem_toArray, List.getElem_cons_zero, List.getElem_cons_succ, Act.put, List.setIfInBounds_toArray, List.set_cons_zero, List.set_cons_succ]
              refine wpAnyH_take (i := 5) (oi := _) (v := ?v124) rfl (by kernel_rfl) (by kernel_rfl) (by kernel_rfl) (fun _ _ _ h => h) (Or.inl ⟨by rfl, ?hy124⟩) (by assumption) ?rest124
              case hy124 => ((intro w hSw; (try dsimp only at hSw); go_simp) <;> with_reducible rfl)
              case' rest124 => try simp only [List.getElem_toArray, List.getElem_cons_zero, List.getElem_cons_succ, Act.put, List.setIfInBounds_toArray, List.set_cons_zero, List.set_cons_succ]
              refine wpAnyH_take (i := 6) (oi := _) (v := ?v125) rfl (by kernel_rfl) (by kernel_rfl) (by kernel_rfl) (fun _ _ _ h => h) (Or.inl ⟨by rfl, ?hy125⟩) (by assumption) ?rest125
              case hy125 => ((intro w hSw; (try dsimp only at hSw); go_simp) <;> with_reducible rfl)
              case' rest125 => try simp only [List.getElem_toArray, List.getElem_cons_zero, List.getElem_cons_succ, Act.put, List.setIfInBounds_toArray, List.set_cons_zero, List.set_cons_succ]
              refine wpAnyH_take (i := 7) (oi := _) (v := ?v126) rfl (by kernel_rfl) (by kernel_rfl) (by kernel_rfl) (fun _ _ _ h => h) (Or.inl ⟨by rfl, ?hy126⟩) (by assumption) ?rest126
              case hy126 => ((intro w hSw; (try dsimp only at hSw); go_simp) <;> with_reducible rfl)
              case' rest126 => try simp only [List.getElem_toArray, List.getElem_cons_zero, List.getElem_cons_succ, Act.put, List.setIfInBounds_toArray, List.set_cons_zero, List.set_cons_succ]
              refine wpAnyH_take (i := 8) (oi := _) (v := ?v127) rfl (by kernel_rfl) (by kernel_rfl) (by kernel_rfl) (fun _ _ _ h => h) (Or.inl ⟨by rfl, ?hy127⟩) (by assumption) ?rest127
              case hy127 => ((intro w hSw; (try dsimp only at hSw); go_simp) <;> with_reducible rfl)
              case' rest127 => try simp only [List.getElem_toArray, List.getElem_cons_zero, List.getElem_cons_succ, Act.put, List.setIfInBounds_toArray, List.set_cons_zero, List.set_cons_succ]
              refine wpAnyH_take (i := 9) (oi := _) (v := ?v128) rfl (by kernel_rfl) (by kernel_rfl) (by kernel_rfl) (fun _ _ _ h => h) (Or.inl ⟨by rfl, ?hy128⟩) (by assumption) ?rest128
              case hy128 => ((intro w hSw; (try dsimp only at hSw); go_simp) <;> with_reducible rfl)
              case' rest128 => try simp only [List.getElem_toArray, List.getElem_cons_zero, List.getElem_cons_succ, Act.put, List.setIfInBounds_toArray, List.set_cons_zero, List.set_cons_succ]
              refine wpAnyH_take (i := 10) (oi := _) (v := ?v129) rfl (by kernel_rfl) (by kernel_rfl) (by kernel_rfl) (fun _ _ _ h => h) (Or.inl ⟨by rfl, ?hy129⟩) (by assumption) ?rest129
              case hy129 => ((intro w hSw; (try dsimp only at hSw); go_simp) <;> with_reducible rfl)
              case' rest129 => try simp only [List.getElem_toArray, List.getElem_cons_zero, List.getElem_cons_succ, Act.put, List.setIfInBounds_toArray, List.set_cons_zero, List.set_cons_succ]
              refine wpAnyH_take (i := 11) (oi := _) (v := ?v130) rfl (by kernel_rfl) (by kernel_rfl) (by kernel_rfl) (fun _ _ _ h => h) (Or.inl ⟨by rfl, ?hy130⟩) (by assumption) ?rest130
              case hy130 => ((intro w hSw; (try dsimp only at hSw); go_simp) <;> with_reducible rfl)
              case' rest130 => try simp only [List.getElem_toArray, List.getElem_cons_zero, List.getElem_cons_succ, Act.put, List.setIfInBounds_toArray, List.set_cons_zero, List.set_cons_succ]
              refine wpAnyH_take (i := 12) (oi := _) (v := ?v131) rfl (by kernel_rfl) (by kernel_rfl) (by kernel_rfl) (fun _ _ _ h => h) (Or.inl ⟨by rfl, ?hy131⟩) (by assumption) ?rest131
              case hy131 => ((intro w hSw; (try dsimp only at hSw); go_simp) <;> with_reducible rfl)
              case' rest131 => try simp only [List.getElem_toArray, List.getElem_cons_zero, List.getElem_cons_succ, Act.put, List.setIfInBounds_toArray, List.set_cons_zero, List.set_cons_succ]
              refine wpAnyH_take (i := 13) (oi := _) (v := ?v132) rfl (by kernel_rfl) (by kernel_rfl) (by kernel_rfl) (fun _ _ _ h => h) (Or.inl ⟨by rfl, ?hy132⟩) (by assumption) ?rest132
              case hy132 => ((intro w hSw; (try dsimp only at hSw); go_simp) <;> with_reducible rfl)
              case' rest132 => try simp only [List.getElem_toArray, List.getElem_cons_zero, List.getElem_cons_succ, Act.put, List.setIfInBounds_toArray, List.set_cons_zero, List.set_cons_succ]
              refine wpAnyH_take (i := 14) (oi := _) (v := ?v133) rfl (by kernel_rfl) (by kernel_rfl) (by kernel_rfl) (fun _ _ _ h => h) (Or.inl ⟨by rfl, ?hy133⟩) (by assumption) ?rest133
              case hy133 => ((intro w hSw; (try dsimp only at hSw); go_simp) <;> with_reducible rfl)
              case' rest133 => try simp only [List.getElem_toArray, List.getElem_cons_zero, List.getElem_cons_succ, Act.put, List.setIfInBounds_toArray, List.set_cons_zero, List.set_cons_succ]
              refine wpAnyH_take (i := 15) (oi := _) (v := ?v134) rfl (by kernel_rfl) (by kernel_rfl) (by kernel_rfl) (fun _ _ _ h => h) (Or.inl ⟨by rfl, ?hy134⟩) (by assumption) ?rest134
              case hy134 => ((intro w hSw; (try dsimp only at hSw); go_simp) <;> with_reducible rfl)
              case' rest134 => try simp only [List.getElem_toArray, List.getElem_cons_zero, List.getElem_cons_succ, Act.put, List.setIfInBounds_toArray, List.set_cons_zero, List.set_cons_succ]
              refine wpAnyH_take (i := 16) (oi := _) (v := ?v135) rfl (by kernel_rfl) (by kernel_rfl) (by kernel_rfl) (fun _ _ _ h => h) (Or.inl ⟨by rfl, ?hy135⟩) (by assumption) ?rest135
              case hy135 => ((intro w hSw; (try dsimp only at hSw); go_simp) <;> with_reducible rfl)
              case' rest135 => try simp only [List.getElem_toArray, List.getElem_cons_zero, List.getElem_cons_succ, Act.put, List.setIfInBounds_toArray, List.set_cons_zero, List.set_cons_succ]
              refine wpAnyH_done (by kernel_rfl) ?_ _
              have hEnd := hHeld.2
              repeat (clear hHeld)
              clear hEnd
              go_upto_region 12 with fail
              have gk2 := HX2.out.k0
              unfold msL_ okM at gk2
              have g6 : W3.cell? ⟨p, 6, none⟩ = some (.slice A4 N c4) := HX2.out.blk.cell 6 rfl
              refine wp_region_T (fun w' => w'.cell? ⟨p, 6, none⟩ = some (.slice A4 N c4) ∧ (w'.cell? ⟨gk, 0, none⟩ = some (.int .i64 13) ∧ w'.cell? ⟨gk, 1, none⟩ = some (.int .i64 0) ∧ w'.cell? ⟨gk, 2, none⟩ = some (.int .i64 0) ∧ w'.cell? ⟨gk, 3, none⟩ = some (.bool M.tg) ∧ w'.cell? ⟨gk, 4, none⟩ = some (.bool false) ∧ w'.cell? ⟨gk, 5, none⟩ = some (.bool false) ∧ w'.cell? ⟨gk, 6, none⟩ = some (.bool false) ∧ w'.cell? ⟨gk, 7, none⟩ = some (.int .u32 0) ∧ w'.cell? ⟨gk, 8, none⟩ = some (.int .u32 0) ∧ w'.cell? ⟨gk, 9, none⟩ = some (.slice none 0 0) ∧ w'.cell? ⟨gk, 10, none⟩ = some (.int .i64 0) ∧ w'.cell? ⟨gk, 11, none⟩ = some (.int .i64 0) ∧ w'.cell? ⟨gk, 12, none⟩ = some (.int .i64 0) ∧ w'.cell? ⟨gk, 13, none⟩ = some (.int .u16 0)) ∧ True) [0, 1, 2, 3, 4, 5] (by kernel_rfl) ?hS137 (fun hHeld => ?rest137)
              case hS137 => ((try dsimp only); exact ⟨g6, blk14 gk2⟩)
              case' rest137 => skip
              refine wpAnyT_take (by kernel_rfl) (by kernel_rfl) (i := 0) (oi := _) (v := ?v138) rfl (by kernel_rfl) (by kernel_rfl) (by kernel_rfl) (fun _ _ _ h => h) (Or.inl ⟨by rfl, ?hy138⟩) (by assumption) ?rest138
              case hy138 => ((intro w hSw; (try dsimp only at hSw); go_simp) <;> with_reducible rfl)
              case' rest138 => try simp only [List.getElem_toArray, List.getElem_cons_zero, List.getElem_cons_succ, Act.put, List.setIfInBounds_toArray, List.set_cons_zero, List.set_cons_succ]
              refine wpAnyT_take (by kernel_rfl) (by kernel_rfl) (i := 1) (oi := _) (v := ?v139) rfl (by kernel_rfl) (by kernel_rfl) (by kernel_rfl) (fun _ _ _ h => h) (Or.inl ⟨by rfl, ?hy139⟩) (by assumption) ?rest139
              case hy139 => ((intro w hSw; (try dsimp only at hSw); go_simp) <;> with_reducible rfl)
              case' rest139 => try simp only [List.getElem_toArray, List.getElem_cons_zero, List.getElem_cons_succ, Act.put, List.setIfInBounds_toArray, List.set_cons_zero, List.set_cons_succ]
              refine wpAnyT_take (by kernel_rfl) (by kernel_rfl) (i := 2) (oi := _) (v := ?v140) rfl (by kernel_rfl) (by kernel_rfl) (by kernel_rfl) (fun _ _ _ h => h) (Or.inl ⟨by rfl, ?hy140⟩) (by assumption) ?rest140
              case hy140 => ((intro w hSw; (try dsimp only at hSw); go_simp) <;> with_reducible rfl)
              case' rest140 => try simp only [List.getElem_toArray, List.getElem_cons_zero, List.getElem_cons_succ, Act.put, List.setIfInBounds_toArray, List.set_cons_zero, List.set_cons_succ]
              refine wpAnyT_take (by kernel_rfl) (by kernel_rfl) (i := 3) (oi := _) (v := ?v141) rfl (by kernel_rfl) (by kernel_rfl) (by kernel_rfl) (fun _ _ _ h => h) (Or.inl ⟨by rfl, ?hy141⟩) (by assumption) ?rest141
              case hy141 => ((intro w hSw; (try dsimp only at hSw); go_simp) <;> with_reducible rfl)
              case' rest141 => try simp only [List.getElem_toArray, List.getElem_cons_zero, List.getElem_cons_succ, Act.put, List.setIfInBounds_toArray, List.set_cons_zero, List.set_cons_succ]
              refine wpAnyT_take (by kernel_rfl) (by kernel_rfl) (i := 4) (oi := _) (v := ?v142) rfl (by kernel_rfl) (by kernel_rfl) (by kernel_rfl) (fun _ _ _ h => h) (Or.inl ⟨by rfl, ?hy142⟩) (by assumption) ?rest142
              case hy142 => ((intro w hSw; (try dsimp only at hSw); go_simp) <;> with_reducible rfl)
              case' rest142 => try simp only [List.getElem_toArray, List.getElem_cons_zero, List.getElem_cons_succ, Act.put, List.setIfInBounds_toArray, List.set_cons_zero, List.set_cons_succ]
              refine wpAnyT_take (by kernel_rfl) (by kernel_rfl) (i := 5) (oi := _) (v := ?v143) rfl (by kernel_rfl) (by kernel_rfl) (by kernel_rfl) (fun _ _ _ h => h) (Or.inl ⟨by rfl, ?hy143⟩) (by assumption) ?rest143
              case hy143 => ((intro w hSw; (try dsimp only at hSw); go_simp) <;> with_reducible rfl)
              case' rest143 => try simp only [List.getElem_toArray, List.getElem_cons_zero, List.getElem_cons_succ, Act.put, List.setIfInBounds_toArray, List.set_cons_zero, List.set_cons_succ]
              refine wpAnyT_late (i := 6) (o := _) rfl (by kernel_rfl) (by kernel_rfl) (fun K hK => ?_)
              go_simp
              refine wp_calls_gen (P := fun W => PX w p 52 (srvL { R with tg := !R.tg, b := R.b ++ M.data } pd A4 N c4) [⟨gk, 48, msL_ (okM 13 0 0 M.tg) none 0 0⟩, ⟨w.heap.size + 1, 90, outL_ none 0 0 outZ none 0 0⟩, ⟨w.heap.size, 48, msL_ M A3 m3 c3⟩] W ∧ OwnB W (w.heap.size + 2) A4 N c4 (R.b ++ M.data) ∧ w.heap.size + 2 ≤ W.heap.size) (by first | exact ⟨HX2.out.drew.drew, HO2.out.drew.drew, hwz⟩ | exact ⟨HX2.out.drew, HO2.out.drew, hwz⟩ | exact ⟨HX2.out, HO2.out, hwz⟩) (fun W4 hW4 => ?_)
              have HW4 := hide hW4
              clear hW4
              refine (rsg_told p pd { R with tg := !R.tg, b := R.b ++ M.data } A4 N c4 A4 N c4 (R.b ++ M.data) 13 0 0 M.tg _ HW4.out.1.blk HNN.out (by omega) (fun W h => sl_blk HW4.out.2.1.sl (fun ad e => h.block ad.block ((ob_fin (G := G) HW4.out.2.1 hz).2.2.2.2 ad e).2.1 ((ob_fin (G := G) HW4.out.2.1 hz).2.2.2.2 ad e).2.2.1))).mono ?_
              rintro e w8 ⟨A5, c5, rfl, hO8, hB8, ho8⟩
              unfold outV
              dsimp only
              have HX8 : Hid (PX w p 52 (srvL (writeS { R with tg := !R.tg, b := R.b ++ M.data } (okM 13 0 0 M.tg)) pd A4 N c4) [⟨w.heap.size + 1, 90, outL_ none 0 0 outZ none 0 0⟩]  w8) := hide ((HW4.out.1.sub (by simp)).call ho8 hB8)
              have HO8 := hide (hO8.mono (B' := w.heap.size + 2) HW4.out.2.2)
              clear mm_c0 mm_c1 mm_c2 mm_c3 mm_c4 mm_c5 mm_c6 mm_c7 mm_c8 mm_c9 mm_c10 mm_c11 mm_c12 mm_c13 mm_f
              clear ok_c0 ok_c1 ok_c2 ok_c3 ok_c4 ok_c5 ok_c6 ok_c7 ok_c8 ok_c9 ok_c10 ok_c11 ok_c12 ok_c13 ok_f
              clear bb_c0 bb_c1 bb_c2 bb_c3 bb_c4 bb_c5 bb_c6 bb_c7 bb_f
              clear kk_c0 kk_c1 kk_c2 kk_c3 kk_c4 kk_f
              clear kk mm ok bb gk2 g6 hO8 hB8 ho8
              have k8 := HX8.out.k0
              unfold outL_ outZ at k8
              have zk8 := k8.lt
              obtain ⟨k8_c0, k8_c1, k8_c2, k8_c3, k8_c4⟩ := cel5 k8
              have k8_f := k8.frozen
              refine hK.out _ _ ?_
              clear hK K
              try simp only [List.getElem_toArray, List.getElem_cons_zero, List.getElem_cons_succ, Act.put, List.setIfInBounds_toArray, List.set_cons_zero, List.set_cons_succ]
              refine wpAnyT_late (i := 7) (o := _) rfl (by kernel_rfl) (by kernel_rfl) (fun K hK => ?_)
              go_simp
              refine hK.out _ _ ?rest145
              case' rest145 => (clear hK K; try simp only [List.getElem_toArray, List.getElem_cons_zero, List.getElem_cons_succ, Act.put, List.setIfInBounds_toArray, List.set_cons_zero, List.set_cons_succ])
              refine wpAnyT_done (by kernel_rfl) ?_ _
              repeat (clear hHeld)
              go_wp2_with fail
              obtain ⟨F1, F2⟩ := rfin (G := G) (S' := partS R M) (O := ⟨[], true, R.ix, R.sub, R.b ++ M.data⟩) HX8.out hz (.inl ⟨rfl, rfl, rfl, rfl⟩) HO8.out (by
                rw [HPS.out]
                exact Ali.refl3 rfl) (fun h => absurd h (show ¬ ((3 : Int) = 1 ∨ (3 : Int) = 2) by decide))
              rw [← HR.out] at F2
              unfold putO at F1 F2
              dsimp only at F1 F2
              exact rret_out (O := ⟨[], true, R.ix, R.sub, R.b ++ M.data⟩) rfl rfl rfl F1 F2
            · have hA5 : ((N : Int) != R.sz) = true := by simp [hA4]
              have HR : Hid ((partS R M).st = 0 ∧ P = ROutR w G p pd (partS R M) (outM (abM R.ix R.sub 101122064))) := hide (by
                have hpc : pcode R M = 101122064 := by unfold pcode; rw [if_neg (by rw [HTG.out]; simp), ← HNN.out, if_neg (fun h => h.elim hA1 (fun h => hA3 h.2)), if_pos ⟨HLA.out, by omega, hA4⟩]
                refine ⟨by unfold partS; rw [if_neg (by rw [HTG.out]; simp), if_pos (by rw [hpc]; decide)], ?_⟩
                rw [HP.out]
                congr 1
                unfold partO abortL
                rw [hpc, if_pos (by decide), if_neg (by rw [H2.out]; decide)]
                rfl)
              clear hla
              go_upto_region 10 with fail
              refine wp_region_held_drew (S := (fun w' => (∀ qA : Addr, qA.block < (W3).heap.size → w'.cell? qA = (W3).cell? qA) ∧ Below (W3).heap.size (W3) w')) (by kernel_rfl) ?hS147 (fun hHeld => ?rest147)
              case hS147 => ((try dsimp only); (((try go_split_ands); refine sn_of ?_; repeat' (first | with_reducible assumption | with_reducible exact Below.refl _ _ | with_reducible apply below_alloc | with_reducible apply below_drew1 | with_reducible apply below_drewN | (with_reducible apply below_step; with_reducible assumption) | (with_reducible apply below_sg2; (first | exact Nat.le_refl _ | (simp; done) | omega))))))
              case' rest147 => skip
              refine wpAnyH_take (i := 0) (oi := _) (v := ?v148) rfl (by kernel_rfl) (by kernel_rfl) (by kernel_rfl) (fun _ _ _ h => h) (Or.inl ⟨by rfl, ?hy148⟩) (by assumption) ?rest148
              case hy148 => ((intro w hSw; (try dsimp only at hSw); go_simp) <;> with_reducible rfl)
              case' rest148 => try simp only [List.getElem_toArray, List.getElem_cons_zero, List.getElem_cons_succ, Act.put, List.setIfInBounds_toArray, List.set_cons_zero, List.set_cons_succ]
              refine wpAnyH_take (i := 1) (oi := _) (v := ?v149) rfl (by kernel_rfl) (by kernel_rfl) (by kernel_rfl) (fun _ _ _ h => h) (Or.inl ⟨by rfl, ?hy149⟩) (by assumption) ?rest149
              case hy149 => ((intro w hSw; (try dsimp only at hSw); go_simp) <;> with_reducible rfl)
              case' rest149 => try simp only [List.getElem_toArray, List.getElem_cons_zero, List.getElem_cons_succ, Act.put, List.setIfInBounds_toArray, List.set_cons_zero, List.set_cons_succ]
              refine wpAnyH_take (i := 2) (oi := _) (v := ?v150) rfl (by kernel_rfl) (by kernel_rfl) (by kernel_rfl) (fun _ _ _ h => h) (Or.inl ⟨by rfl, ?hy150⟩) (by assumption) ?rest150
              case hy150 => ((intro w hSw; (try dsimp only at hSw); go_simp) <;> with_reducible rfl)
              case' rest150 => try simp only [List.getElem_toArray, List.getElem_cons_zero, List.getElem_cons_succ, Act.put, List.setIfInBounds_toArray, List.set_cons_zero, List.set_cons_succ]
              refine wpAnyH_take (i := 3) (oi := _) (v := ?v151) rfl (by kernel_rfl) (by kernel_rfl) (by kernel_rfl) (fun _ _ _ h => h) (Or.inl ⟨by rfl, ?hy151⟩) (by assumption) ?rest151
              case hy151 => ((intro w hSw; (try dsimp only at hSw); go_simp) <;> with_reducible rfl)
              case' rest151 => try simp only [List.getElem_toArray, List.getElem_cons_zero, List.getElem_cons_succ, Act.put, List.setIfInBounds_toArray, List.set_cons_zero, List.set_cons_succ]
              refine wpAnyH_take (i := 4) (oi := _) (v := ?v152) rfl (by kernel_rfl) (by kernel_rfl) (by kernel_rfl) (fun _ _ _ h => h) (Or.inl ⟨by rfl, ?hy152⟩) (by assumption) ?rest152
              case hy152 => ((intro w hSw; (try dsimp only at hSw); go_simp) <;> with_reducible rfl)
              case' rest152 => try simp only [List.getElem_toArray, List.getElem_cons_zero, List.getElem_cons_succ, Act.put, List.setIfInBounds_toArray, List.set_cons_zero, List.set_cons_succ]
              refine wpAnyH_take (i := 5) (oi := _) (v := ?v153) rfl (by kernel_rfl) (by kernel_rfl) (by kernel_rfl) (fun _ _ _ h => h) (Or.inl ⟨by rfl, ?hy153⟩) (by assumption) ?rest153
              case hy153 => ((intro w hSw; (try dsimp only at hSw); go_simp) <;> with_reducible rfl)
              case' rest153 => try simp only [List.getElem_toArray, List.getElem_cons_zero, List.getElem_cons_succ, Act.put, List.setIfInBounds_toArray, List.set_cons_zero, List.set_cons_succ]
              refine wpAnyH_take (i := 6) (oi := _) (v := ?v154) rfl (by kernel_rfl) (by kernel_rfl) (by kernel_rfl) (fun _ _ _ h => h) (Or.inl ⟨by rfl, ?hy154⟩) (by assumption) ?rest154
              case hy154 => ((intro w hSw; (try dsimp only at hSw); go_simp) <;> with_reducible rfl)
              case' rest154 => try simp only [List.getElem_toArray, List.getElem_cons_zero, List.getElem_cons_succ, Act.put, List.setIfInBounds_toArray, List.set_cons_zero, List.set_cons_succ]
              refine wpAnyH_take (i := 7) (oi := _) (v := ?v155) rfl (by kernel_rfl) (by kernel_rfl) (by kernel_rfl) (fun _ _ _ h => h) (Or.inl ⟨by rfl, ?hy155⟩) (by assumption) ?rest155
              case hy155 => ((intro w hSw; (try dsimp only at hSw); go_simp) <;> with_reducible rfl)
              case' rest155 => try simp only [List.getElem_toArray, List.getElem_cons_zero, List.getElem_cons_succ, Act.put, List.setIfInBounds_toArray, List.set_cons_zero, List.set_cons_succ]
              refine wpAnyH_take (i := 8) (oi := _) (v := ?v156) rfl (by kernel_rfl) (by kernel_rfl) (by kernel_rfl) (fun _ _ _ h => h) (Or.inl ⟨by rfl, ?hy156⟩) (by assumption) ?rest156
              case hy156 => ((intro w hSw; (try dsimp only at hSw); go_simp) <;> with_reducible rfl)
              case' rest156 => try simp only [List.getElem_toArray, List.getElem_cons_zero, List.getElem_cons_succ, Act.put, List.setIfInBounds_toArray, List.set_cons_zero, List.set_cons_succ]
              refine wpAnyH_take (i := 9) (oi := _) (v := ?v157) rfl (by kernel_rfl) (by kernel_rfl) (by kernel_rfl) (fun _ _ _ h => h) (Or.inl ⟨by rfl, ?hy157⟩) (by assumption) ?rest157
              case hy157 => ((intro w hSw; (try dsimp only at hSw); go_simp) <;> with_reducible rfl)
              case' rest157 => try simp only [List.getElem_toArray, List.getElem_cons_zero, List.getElem_cons_succ, Act.put, List.setIfInBounds_toArray, List.set_cons_zero, List.set_cons_succ]
              refine wpAnyH_take (i := 10) (oi := _) (v := ?v158) rfl (by kernel_rfl) (by kernel_rfl) (by kernel_rfl) (fun _ _ _ h => h) (Or.inl ⟨by rfl, ?hy158⟩) (by assumption) ?rest158
              case hy158 => ((intro w hSw; (try dsimp only at hSw); go_simp) <;> with_reducible rfl)
              case' rest158 => try simp only [List.getElem_toArray, List.getElem_cons_zero, List.getElem_cons_succ, Act.put, List.setIfInBounds_toArray, List.set_cons_zero, List.set_cons_succ]
              refine wpAnyH_take (i := 11) (oi := _) (v := ?v159) rfl (by kernel_rfl) (by kernel_rfl) (by kernel_rfl) (fun _ _ _ h => h) (Or.inl ⟨by rfl, ?hy159⟩) (by assumption) ?rest159
              case hy159 => ((intro w hSw; (try dsimp only at hSw); go_simp) <;> with_reducible rfl)
              case' rest159 => try simp only [List.getElem_toArray, List.getElem_cons_zero, List.getElem_cons_succ, Act.put, List.setIfInBounds_toArray, List.set_cons_zero, List.set_cons_succ]
              refine wpAnyH_take (i := 12) (oi := _) (v := ?v160) rfl (by kernel_rfl) (by kernel_rfl) (by kernel_rfl) (fun _ _ _ h => h) (Or.inl ⟨by rfl, ?hy160⟩) (by assumption) ?rest160
              case hy160 => ((intro w hSw; (try dsimp only at hSw); go_simp) <;> with_reducible rfl)
              case' rest160 => try simp only [List.getElem_toArray, List.getElem_cons_zero, List.getElem_cons_succ, Act.put, List.setIfInBounds_toArray, List.set_cons_zero, List.set_cons_succ]
              refine wpAnyH_take (i := 13) (oi := _) (v := ?v161) rfl (by kernel_rfl) (by kernel_rfl) (by kernel_rfl) (fun _ _ _ h => h) (Or.inl ⟨by rfl, ?hy161⟩) (by assumption) ?rest161
              case hy161 => ((intro w hSw; (try dsimp only at hSw); go_simp) <;> with_reducible rfl)
              case' rest161 => try simp only [List.getElem_toArray, List.getElem_cons_zero, List.getElem_cons_succ, Act.put, List.setIfInBounds_toArray, List.set_cons_zero, List.set_cons_succ]
              refine wpAnyH_take (i := 14) (oi := _) (v := ?v162) rfl (by kernel_rfl) (by kernel_rfl) (by kernel_rfl) (fun _ _ _ h => h) (Or.inl ⟨by rfl, ?hy162⟩) (by assumption) ?rest162
              case hy162 => ((intro w hSw; (try dsimp only at hSw); go_simp) <;> with_reducible rfl)
              case' rest162 => try simp only [List.getElem_toArray, List.getElem_cons_zero, List.getElem_cons_succ, Act.put, List.setIfInBounds_toArray, List.set_cons_zero, List.set_cons_succ]
              refine wpAnyH_take (i := 15) (oi := _) (v := ?v163) rfl (by kernel_rfl) (by kernel_rfl) (by kernel_rfl) (fun _ _ _ h => h) (Or.inl ⟨by rfl, ?hy163⟩) (by assumption) ?rest163
              case hy163 => ((intro w hSw; (try dsimp only at hSw); go_simp) <;> with_reducible rfl)
              case' rest163 => try simp only [List.getElem_toArray, List.getElem_cons_zero, List.getElem_cons_succ, Act.put, List.setIfInBounds_toArray, List.set_cons_zero, List.set_cons_succ]
              refine wpAnyH_take (i := 16) (oi := _) (v := ?v164) rfl (by kernel_rfl) (by kernel_rfl) (by kernel_rfl) (fun _ _ _ h => h) (Or.inl ⟨by rfl, ?hy164⟩) (by assumption) ?rest164
              case hy164 => ((intro w hSw; (try dsimp only at hSw); go_simp) <;> with_reducible rfl)
              case' rest164 => try simp only [List.getElem_toArray, List.getElem_cons_zero, List.getElem_cons_succ, Act.put, List.setIfInBounds_toArray, List.set_cons_zero, List.set_cons_succ]
              refine wpAnyH_done (by kernel_rfl) ?_ _
              have hEnd := hHeld.2
              repeat (clear hHeld)
              have HX2 := hide HX2.out.drew
              go_wp2_with fail
              refine (rsg_abort p pd { R with tg := !R.tg, b := R.b ++ M.data } 101122064 A4 N c4 _ HX2.out.blk).mono ?_
              rintro e w8 ⟨_, h5⟩
              obtain ⟨g8, hg8, rfl, hM8, hB8, ho8⟩ := h5 (by show R.st ≠ 0; rw [H2.out]; decide)
              have HX8 : Hid (PX w p 52 (srvL (abortS { R with tg := !R.tg, b := R.b ++ M.data }) pd A4 N c4) [⟨w.heap.size + 1, 90, outL_ none 0 0 outZ none 0 0⟩, ⟨w.heap.size, 48, msL_ M A3 m3 c3⟩] w8) := hide ((HX2.out.sub (by simp)).call ho8 hB8)
              have HM8 := hide hM8
              have zg8 : w.heap.size + 2 ≤ g8 := Nat.le_trans hwz hg8
              have k8 := HX8.out.k0
              unfold outL_ outZ at k8
              have zk8 := k8.lt
              clear kk_c0 kk_c1 kk_c2 kk_c3 kk_c4 kk_f
              clear kk
              obtain ⟨k8_c0, k8_c1, k8_c2, k8_c3, k8_c4⟩ := cel5 k8
              have k8_f := k8.frozen
              clear h5 hM8 hB8 ho8
              go_wp2_with fail
              obtain ⟨F1, F2⟩ := rfin (G := G) (S' := partS R M) (O := outM (abM R.ix R.sub 101122064)) HX8.out hz (rmsR_one zg8 HM8.out (OwnB.nil _ _)) (OwnB.nil _ _) (Ali.idle HR.out.1 rfl) (fun h => absurd h (show ¬ ((0 : Int) = 1 ∨ (0 : Int) = 2) by decide))
              rw [← HR.out.2] at F2
              unfold putO outM at F1 F2
              dsimp only at F1 F2
              exact rret_out (O := outM (abM R.ix R.sub 101122064)) rfl rfl rfl F1 F2
      · skip
        refine wp_region_held_drew (S := (fun w' => (∀ qA : Addr, qA.block < (W2).heap.size → w'.cell? qA = (W2).cell? qA) ∧ Below (W2).heap.size (W2) w')) (by kernel_rfl) ?hS166 (fun hHeld => ?rest166)
        case hS166 => ((try dsimp only); (((try go_split_ands); refine sn_of ?_; repeat' (first | with_reducible assumption | with_reducible exact Below.refl _ _ | with_reducible apply below_alloc | with_reducible apply below_drew1 | with_reducible apply below_drewN | (with_reducible apply below_step; with_reducible assumption) | (with_reducible apply below_sg2; (first | exact Nat.le_refl _ | (simp; done) | omega))))))
        case' rest166 => skip
        refine wpAnyH_take (i := 0) (oi := _) (v := ?v167) rfl (by kernel_rfl) (by kernel_rfl) (by kernel_rfl) (fun _ _ _ h => h) (Or.inl ⟨by rfl, ?hy167⟩) (by assumption) ?rest167
        case hy167 => ((intro w hSw; (try dsimp only at hSw); go_simp) <;> with_reducible rfl)
        case' rest167 => try simp only [List.getElem_toArray, List.getElem_cons_zero, List.getElem_cons_succ, Act.put, List.setIfInBounds_toArray, List.set_cons_zero, List.set_cons_succ]
        refine wpAnyH_take (i := 1) (oi := _) (v := ?v168) rfl (by kernel_rfl) (by kernel_rfl) (by kernel_rfl) (fun _ _ _ h => h) (Or.inl ⟨by rfl, ?hy168⟩) (by assumption) ?rest168
        case hy168 => ((intro w hSw; (try dsimp only at hSw); go_simp) <;> with_reducible rfl)
        case' rest168 => try simp only [List.getElem_toArray, List.getElem_cons_zero, List.getElem_cons_succ, Act.put, List.setIfInBounds_toArray, List.set_cons_zero, List.set_cons_succ]
        refine wpAnyH_take (i := 2) (oi := _) (v := ?v169) rfl (by kernel_rfl) (by kernel_rfl) (by kernel_rfl) (fun _ _ _ h => h) (Or.inl ⟨by rfl, ?hy169⟩) (by assumption) ?rest169
        case hy169 => ((intro w hSw; (try dsimp only at hSw); go_simp) <;> with_reducible rfl)
        case' rest169 => try simp only [List.getElem_toArray, List.getElem_cons_zero, List.getElem_cons_succ, Act.put, List.setIfInBounds_toArray, List.set_cons_zero, List.set_cons_succ]
        refine wpAnyH_take (i := 3) (oi := _) (v := ?v170) rfl (by kernel_rfl) (by kernel_rfl) (by kernel_rfl) (fun _ _ _ h => h) (Or.inl ⟨by rfl, ?hy170⟩) (by assumption) ?rest170
        case hy170 => ((intro w hSw; (try dsimp only at hSw); go_simp) <;> with_reducible rfl)
        case' rest170 => try simp only [List.getElem_toArray, List.getElem_cons_zero, List.getElem_cons_succ, Act.put, List.setIfInBounds_toArray, List.set_cons_zero, List.set_cons_succ]
        refine wpAnyH_take (i := 4) (oi := _) (v := ?v171) rfl (by kernel_rfl) (by kernel_rfl) (by kernel_rfl) (fun _ _ _ h => h) (Or.inl ⟨by rfl, ?hy171⟩) (by assumption) ?rest171
        case hy171 => ((intro w hSw; (try dsimp only at hSw); go_simp) <;> with_reducible rfl)
        case' rest171 => try simp only [List.getElem_toArray, List.getElem_cons_zero, List.getElem_cons_succ, Act.put, List.setIfInBounds_toArray, List.set_cons_zero, List.set_cons_succ]
        refine wpAnyH_take (i := 5) (oi := _) (v := ?v172) rfl (by kernel_rfl) (by kernel_rfl) (by kernel_rfl) (fun _ _ _ h => h) (Or.inl ⟨by rfl, ?hy172⟩) (by assumption) ?rest172
        case hy172 => ((intro w hSw; (try dsimp only at hSw); go_simp) <;> with_reducible rfl)
        case' rest172 => try simp only [List.getElem_toArray, List.getElem_cons_zero, List.getElem_cons_succ, Act.put, List.setIfInBounds_toArray, List.set_cons_zero, List.set_cons_succ]
        refine wpAnyH_take (i := 6) (oi := _) (v := ?v173) rfl (by kernel_rfl) (by kernel_rfl) (by kernel_rfl) (fun _ _ _ h => h) (Or.inl ⟨by rfl, ?hy173⟩) (by assumption) ?rest173
        case hy173 => ((intro w hSw; (try dsimp only at hSw); go_simp) <;> with_reducible rfl)
        case' rest173 => try simp only [List.getElem_toArray, List.getElem_cons_zero, List.getElem_cons_succ, Act.put, List.setIfInBounds_toArray, List.set_cons_zero, List.set_cons_succ]
        refine wpAnyH_take (i := 7) (oi := _) (v := ?v174) rfl (by kernel_rfl) (by kernel_rfl) (by kernel_rfl) (fun _ _ _ h => h) (Or.inl ⟨by rfl, ?hy174⟩) (by assumption) ?rest174
        case hy174 => ((intro w hSw; (try dsimp only at hSw); go_simp) <;> with_reducible rfl)
        case' rest174 => try simp only [List.getElem_toArray, List.getElem_cons_zero, List.getElem_cons_succ, Act.put, List.setIfInBounds_toArray, List.set_cons_zero, List.set_cons_succ]
        refine wpAnyH_take (i := 8) (oi := _) (v := ?v175) rfl (by kernel_rfl) (by kernel_rfl) (by kernel_rfl) (fun _ _ _ h => h) (Or.inl ⟨by rfl, ?hy175⟩) (by assumption) ?rest175
        case hy175 => ((intro w hSw; (try dsimp only at hSw); go_simp) <;> with_reducible rfl)
        case' rest175 => try simp only [List.getElem_toArray, List.getElem_cons_zero, List.getElem_cons_succ, Act.put, List.setIfInBounds_toArray, List.set_cons_zero, List.set_cons_succ]
        refine wpAnyH_take (i := 9) (oi := _) (v := ?v176) rfl (by kernel_rfl) (by kernel_rfl) (by kernel_rfl) (fun _ _ _ h => h) (Or.inl ⟨by rfl, ?hy176⟩) (by assumption) ?rest176
        case hy176 => ((intro w hSw; (try dsimp only at hSw); go_simp) <;> with_reducible rfl)
        case' rest176 => try simp only [List.getElem_toArray, List.getElem_cons_zero, List.getElem_cons_succ, Act.put, List.setIfInBounds_toArray, List.set_cons_zero, List.set_cons_succ]
        refine wpAnyH_take (i := 10) (oi := _) (v := ?v177) rfl (by kernel_rfl) (by kernel_rfl) (by kernel_rfl) (fun _ _ _ h => h) (Or.inl ⟨by rfl, ?hy177⟩) (by assumption) ?rest177
        case hy177 => ((intro w hSw; (try dsimp only at hSw); go_simp) <;> with_reducible rfl)
        case' rest177 => try simp only [List.getElem_toArray, List.getElem_cons_zero, List.getElem_cons_succ, Act.put, List.setIfInBounds_toArray, List.set_cons_zero, List.set_cons_succ]
        refine wpAnyH_take (i := 11) (oi := _) (v := ?v178) rfl (by kernel_rfl) (by kernel_rfl) (by kernel_rfl) (fun _ _ _ h => h) (Or.inl ⟨by rfl, ?hy178⟩) (by assumption) ?rest178
        case hy178 => ((intro w hSw; (try dsimp only at hSw); go_simp) <;> with_reducible rfl)
        case' rest178 => try simp only [List.getElem_toArray, List.getElem_cons_zero, List.getElem_cons_succ, Act.put, List.setIfInBounds_toArray, List.set_cons_zero, List.set_cons_succ]
        refine wpAnyH_take (i := 12) (oi := _) (v := ?v179) rfl (by kernel_rfl) (by kernel_rfl) (by kernel_rfl) (fun _ _ _ h => h) (Or.inl ⟨by rfl, ?hy179⟩) (by assumption) ?rest179
        case hy179 => ((intro w hSw; (try dsimp only at hSw); go_simp) <;> with_reducible rfl)
        case' rest179 => try simp only [List.getElem_toArray, List.getElem_cons_zero, List.getElem_cons_succ, Act.put, List.setIfInBounds_toArray, List.set_cons_zero, List.set_cons_succ]
        refine wpAnyH_take (i := 13) (oi := _) (v := ?v180) rfl (by kernel_rfl) (by kernel_rfl) (by kernel_rfl) (fun _ _ _ h => h) (Or.inl ⟨by rfl, ?hy180⟩) (by assumption) ?rest180
        case hy180 => ((intro w hSw; (try dsimp only at hSw); go_simp) <;> with_reducible rfl)
        case' rest180 => try simp only [List.getElem_toArray, List.getElem_cons_zero, List.getElem_cons_succ, Act.put, List.setIfInBounds_toArray, List.set_cons_zero, List.set_cons_succ]
        refine wpAnyH_take (i := 14) (oi := _) (v := ?v181) rfl (by kernel_rfl) (by kernel_rfl) (by kernel_rfl) (fun _ _ _ h => h) (Or.inl ⟨by rfl, ?hy181⟩) (by assumption) ?rest181
        case hy181 => ((intro w hSw; (try dsimp only at hSw); go_simp) <;> with_reducible rfl)
        case' rest181 => try simp only [List.getElem_toArray, List.getElem_cons_zero, List.getElem_cons_succ, Act.put, List.setIfInBounds_toArray, List.set_cons_zero, List.set_cons_succ]
        refine wpAnyH_take (i := 15) (oi := _) (v := ?v182) rfl (by kernel_rfl) (by kernel_rfl) (by kernel_rfl) (fun _ _ _ h => h) (Or.inl ⟨by rfl, ?hy182⟩) (by assumption) ?rest182
        case hy182 => ((intro w hSw; (try dsimp only at hSw); go_simp) <;> with_reducible rfl)
        case' rest182 => try simp only [List.getElem_toArray, List.getElem_cons_zero, List.getElem_cons_succ, Act.put, List.setIfInBounds_toArray, List.set_cons_zero, List.set_cons_succ]
        refine wpAnyH_take (i := 16) (oi := _) (v := ?v183) rfl (by kernel_rfl) (by kernel_rfl) (by kernel_rfl) (fun _ _ _ h => h) (Or.inl ⟨by rfl, ?hy183⟩) (by assumption) ?rest183
        case hy183 => ((intro w hSw; (try dsimp only at hSw); go_simp) <;> with_reducible rfl)
        case' rest183 => try simp only [List.getElem_toArray, List.getElem_cons_zero, List.getElem_cons_succ, Act.put, List.setIfInBounds_toArray, List.set_cons_zero, List.set_cons_succ]
        refine wpAnyH_take (i := 17) (oi := _) (v := undef) rfl (by kernel_rfl) (by kernel_rfl) (by kernel_rfl) (fun _ _ _ h => h) (Or.inr ⟨by rfl, rfl⟩) (by assumption) ?rest184
        case' rest184 => try simp only [List.getElem_toArray, List.getElem_cons_zero, List.getElem_cons_succ, Act.put, List.setIfInBounds_toArray, List.set_cons_zero, List.set_cons_succ]
        refine wpAnyH_take (i := 18) (oi := _) (v := undef) rfl (by kernel_rfl) (by kernel_rfl) (by kernel_rfl) (fun _ _ _ h => h) (Or.inr ⟨by rfl, rfl⟩) (by assumption) ?rest185
        case' rest185 => try simp only [List.getElem_toArray, List.getElem_cons_zero, List.getElem_cons_succ, Act.put, List.setIfInBounds_toArray, List.set_cons_zero, List.set_cons_succ]
        refine wpAnyH_take (i := 19) (oi := _) (v := undef) rfl (by kernel_rfl) (by kernel_rfl) (by kernel_rfl) (fun _ _ _ h => h) (Or.inr ⟨by rfl, rfl⟩) (by assumption) ?rest186
        case' rest186 => try simp only [List.getElem_toArray, List.getElem_cons_zero, List.getElem_cons_succ, Act.put, List.setIfInBounds_toArray, List.set_cons_zero, List.set_cons_succ]
        refine wpAnyH_take (i := 20) (oi := _) (v := undef) rfl (by kernel_rfl) (by kernel_rfl) (by kernel_rfl) (fun _ _ _ h => h) (Or.inr ⟨by rfl, rfl⟩) (by assumption) ?rest187
        case' rest187 => try simp only [List.getElem_toArray, List.getElem_cons_zero, List.getElem_cons_succ, Act.put, List.setIfInBounds_toArray, List.set_cons_zero, List.set_cons_succ]
        refine wpAnyH_take (i := 21) (oi := _) (v := undef) rfl (by kernel_rfl) (by kernel_rfl) (by kernel_rfl) (fun _ _ _ h => h) (Or.inr ⟨by rfl, rfl⟩) (by assumption) ?rest188
        case' rest188 => try simp only [List.getElem_toArray, List.getElem_cons_zero, List.getElem_cons_succ, Act.put, List.setIfInBounds_toArray, List.set_cons_zero, List.set_cons_succ]
        refine wpAnyH_take (i := 22) (oi := _) (v := undef) rfl (by kernel_rfl) (by kernel_rfl) (by kernel_rfl) (fun _ _ _ h => h) (Or.inr ⟨by rfl, rfl⟩) (by assumption) ?rest189
        case' rest189 => try simp only [List.getElem_toArray, List.getElem_cons_zero, List.getElem_cons_succ, Act.put, List.setIfInBounds_toArray, List.set_cons_zero, List.set_cons_succ]
        refine wpAnyH_take (i := 23) (oi := _) (v := undef) rfl (by kernel_rfl) (by kernel_rfl) (by kernel_rfl) (fun _ _ _ h => h) (Or.inr ⟨by rfl, rfl⟩) (by assumption) ?rest190
        case' rest190 => try simp only [List.getElem_toArray, List.getElem_cons_zero, List.getElem_cons_succ, Act.put, List.setIfInBounds_toArray, List.set_cons_zero, List.set_cons_succ]
        refine wpAnyH_take (i := 24) (oi := _) (v := undef) rfl (by kernel_rfl) (by kernel_rfl) (by kernel_rfl) (fun _ _ _ h => h) (Or.inr ⟨by rfl, rfl⟩) (by assumption) ?rest191
        case' rest191 => try simp only [List.getElem_toArray, List.getElem_cons_zero, List.getElem_cons_succ, Act.put, List.setIfInBounds_toArray, List.set_cons_zero, List.set_cons_succ]
        refine wpAnyH_take (i := 25) (oi := _) (v := undef) rfl (by kernel_rfl) (by kernel_rfl) (by kernel_rfl) (fun _ _ _ h => h) (Or.inr ⟨by rfl, rfl⟩) (by assumption) ?rest192
        case' rest192 => try simp only [List.getElem_toArray, List.getElem_cons_zero, List.getElem_cons_succ, Act.put, List.setIfInBounds_toArray, List.set_cons_zero, List.set_cons_succ]
        refine wpAnyH_take (i := 26) (oi := _) (v := undef) rfl (by kernel_rfl) (by kernel_rfl) (by kernel_rfl) (fun _ _ _ h => h) (Or.inr ⟨by rfl, rfl⟩) (by assumption) ?rest193
        case' rest193 => try simp only [List.getElem_toArray, List.getElem_cons_zero, List.getElem_cons_succ, Act.put, List.setIfInBounds_toArray, List.set_cons_zero, List.set_cons_succ]
        refine wpAnyH_take (i := 27) (oi := _) (v := ?v194) rfl (by kernel_rfl) (by kernel_rfl) (by kernel_rfl) (fun _ _ _ h => h) (Or.inl ⟨by rfl, ?hy194⟩) (by assumption) ?rest194
        case hy194 => ((intro w hSw; (try dsimp only at hSw); go_simp) <;> with_reducible rfl)
        case' rest194 => try simp only [List.getElem_toArray, List.getElem_cons_zero, List.getElem_cons_succ, Act.put, List.setIfInBounds_toArray, List.set_cons_zero, List.set_cons_succ]
        refine wpAnyH_take (i := 28) (oi := _) (v := ?v195) rfl (by kernel_rfl) (by kernel_rfl) (by kernel_rfl) (fun _ _ _ h => h) (Or.inl ⟨by rfl, ?hy195⟩) (by assumption) ?rest195
        case hy195 => ((intro w hSw; (try dsimp only at hSw); go_simp) <;> with_reducible rfl)
        case' rest195 => try simp only [List.getElem_toArray, List.getElem_cons_zero, List.getElem_cons_succ, Act.put, List.setIfInBounds_toArray, List.set_cons_zero, List.set_cons_succ]
        refine wpAnyH_done (by kernel_rfl) ?_ _
        have hEnd := hHeld.2
        repeat (clear hHeld)
        have X3 : PX w p 52 (srvL { R with tg := !R.tg, b := R.b ++ M.data } pd A4 N c4) [⟨W2.heap.size, 48, msL_ (okM 13 0 0 M.tg) none 0 0⟩, ⟨w.heap.size + 1, 90, outL_ none 0 0 outZ none 0 0⟩, ⟨w.heap.size, 48, msL_ M A3 m3 c3⟩] _ := (HX2.out.set 7 (.bool !R.tg)).newz (N := W2.heap.size) (by simp [World.setCell]) 48 (msL_ (okM 13 0 0 M.tg) none 0 0)
        have O3 := (ownB_only HO2.out (Only.set (fun q => q = p) (Only.refl _ W2) (i := 7) rfl (.bool !R.tg)) (fun g h1 _ (e : g = p) => by omega)).alloc (.cells (msL_ (okM 13 0 0 M.tg) none 0 0).toArray 48)
        have hX3 := And.intro X3.drew (And.intro O3.drew (show w.heap.size + 2 ≤ (((W2.setCell ⟨p, 7, none⟩ (.bool !R.tg)).alloc (.cells (msL_ (okM 13 0 0 M.tg) none 0 0).toArray 48)).drew).heap.size by simp [World.setCell]; omega))
        simp only [show List.toArray (msL_ (okM 13 0 0 M.tg) none 0 0) = #[.int .i64 13, .int .i64 0, .int .i64 0, .bool M.tg, .bool false, .bool false, .bool false, .int .u32 0, .int .u32 0, .slice none 0 0, .int .i64 0, .int .i64 0, .int .i64 0, .int .u16 0] from rfl] at hX3
        have HX3 := hide hX3
        clear X3 O3 hX3
        go_upto_region 8 with fail
        refine wp_gen (P := fun W3 => PX w p 52 (srvL { R with tg := !R.tg, b := R.b ++ M.data } pd A4 N c4) [⟨W2.heap.size, 48, msL_ (okM 13 0 0 M.tg) none 0 0⟩, ⟨w.heap.size + 1, 90, outL_ none 0 0 outZ none 0 0⟩, ⟨w.heap.size, 48, msL_ M A3 m3 c3⟩] W3 ∧ OwnB W3 (w.heap.size + 2) A4 N c4 (R.b ++ M.data) ∧ w.heap.size + 2 ≤ W3.heap.size) HX3.out (fun W3 hW3 => ?_)
        obtain ⟨gk, hgk⟩ : ∃ gk, gk = W2.heap.size := ⟨_, rfl⟩
        rw [← hgk] at hW3 ⊢
        have hgp : gk ≠ p := by omega
        have hgw : w.heap.size + 2 ≤ gk := by omega
        clear HX3 HX2 HO2 hwz hgk
        obtain ⟨hX2, hO2, hwz⟩ := hW3
        have HX2 := hide hX2
        have HO2 := hide hO2
        clear bb_c0 bb_c1 bb_c2 bb_c3 bb_c4 bb_c5 bb_c6 bb_c7 bb_f
        clear kk_c0 kk_c1 kk_c2 kk_c3 kk_c4 kk_f
        clear mm_c0 mm_c1 mm_c2 mm_c3 mm_c4 mm_c5 mm_c6 mm_c7 mm_c8 mm_c9 mm_c10 mm_c11 mm_c12 mm_c13 mm_f
        clear bb kk mm zb zk zm
        have bb := hX2.blk
        have ok := hX2.k0
        have kk := hX2.k1
        have mm := hX2.k2
        unfold srvL at bb
        unfold msL_ okM at ok
        unfold outL_ outZ at kk
        unfold msL_ at mm
        have zb := bb.lt
        have zo := ok.lt
        have zk := kk.lt
        have zm := mm.lt
        clear hX2 hO2
        obtain ⟨bb_c0, bb_c1, bb_c2, bb_c3, bb_c4, bb_c5, bb_c6, bb_c7⟩ := cel8 bb
        have bb_f := bb.frozen
        obtain ⟨ok_c0, ok_c1, ok_c2, ok_c3, ok_c4, ok_c5, ok_c6, ok_c7, ok_c8, ok_c9, ok_c10, ok_c11, ok_c12, ok_c13⟩ := cel14 ok
        have ok_f := ok.frozen
        obtain ⟨kk_c0, kk_c1, kk_c2, kk_c3, kk_c4⟩ := cel5 kk
        have kk_f := kk.frozen
        obtain ⟨mm_c0, mm_c1, mm_c2, mm_c3, mm_c4, mm_c5, mm_c6, mm_c7, mm_c8, mm_c9, mm_c10, mm_c11, mm_c12, mm_c13⟩ := cel14 mm
        have mm_f := mm.frozen
        cases hla : M.la
        · have HLA := hide hla
          rw [hla] at mm_c4
          have HPC : Hid (pcode R M = 0) := hide (by unfold pcode; rw [if_neg (by rw [HTG.out]; simp), ← HNN.out, if_neg (fun h => h.elim hA1 (fun h => by have := HZ1.out; omega)), if_neg (by rw [hla]; simp)])
          have HPS : Hid (partS R M = { R with tg := !R.tg, b := R.b ++ M.data }) := hide (by unfold partS; rw [if_neg (by rw [HTG.out]; simp), if_neg (by rw [HPC.out]; simp), if_neg (by rw [HLA.out]; simp)])
          have HR : Hid (P = ROutR w G p pd (partS R M) (outM (okM 13 0 0 M.tg))) := hide (by
            rw [HP.out]
            congr 1
            unfold partO
            rw [if_neg (by rw [HPC.out]; simp), if_neg (by rw [HLA.out]; simp)])
          clear hla
          go_wp2_with fail
          obtain ⟨F1, F2⟩ := rfin_send (G := G) (S' := partS R M) (M := okM 13 0 0 M.tg) (N := W3.heap.size) (HX2.out.sub (ks' := [⟨w.heap.size + 1, 90, outL_ none 0 0 outZ none 0 0⟩]) (by simp)) rfl hz (OwnB.nil _ _) (by
            rw [HPS.out]
            exact Ali.refl1 H2.out HZ1.out) (fun _ => ob_fin HO2.out hz)
          rw [← HR.out] at F2
          unfold putO outZ msV okM at F1 F2
          dsimp only at F1 F2
          exact rret_out (O := outZ) rfl rfl rfl F1 F2
        · have HLA := hide hla
          rw [hla] at mm_c4
          have HPC : Hid (pcode R M = 0) := hide (by unfold pcode; rw [if_neg (by rw [HTG.out]; simp), ← HNN.out, if_neg (fun h => h.elim hA1 (fun h => by have := HZ1.out; omega)), if_neg (fun h => h.2.1 (by have := HZ1.out; omega))])
          have HPS : Hid (partS R M = writeS { R with tg := !R.tg, b := R.b ++ M.data } (okM 13 0 0 M.tg)) := hide (by unfold partS; rw [if_neg (by rw [HTG.out]; simp), if_neg (by rw [HPC.out]; simp), if_pos HLA.out]; rfl)
          have HR : Hid (P = ROutR w G p pd (partS R M) ⟨[], true, R.ix, R.sub, R.b ++ M.data⟩) := hide (by
            rw [HP.out]
            congr 1
            unfold partO
            rw [if_neg (by rw [HPC.out]; simp), if_pos HLA.out])
          clear hla
          go_upto_region 10 with fail
          refine wp_region_held_drew (S := (fun w' => (∀ qA : Addr, qA.block < (W3).heap.size → w'.cell? qA = (W3).cell? qA) ∧ Below (W3).heap.size (W3) w')) (by kernel_rfl) ?hS197 (fun hHeld => ?rest197)
          case hS197 => ((try dsimp only); (((try go_split_ands); refine sn_of ?_; repeat' (first | with_reducible assumption | with_reducible exact Below.refl _ _ | with_reducible apply below_alloc | with_reducible apply below_drew1 | with_reducible apply below_drewN | (with_reducible apply below_step; with_reducible assumption) | (with_reducible apply below_sg2; (first | exact Nat.le_refl _ | (simp; done) | omega))))))
          case' rest197 => skip
          refine wpAnyH_take (i := 0) (oi := _) (v := ?v198) rfl (by kernel_rfl) (by kernel_rfl) (by kernel_rfl) (fun _ _ _ h => h) (Or.inl ⟨by rfl, ?hy198⟩) (by assumption) ?rest198
          case hy198 => ((intro w hSw; (try dsimp only at hSw); go_simp) <;> with_reducible rfl)
          case' rest198 => try simp only [List.getElem_toArray, List.getElem_cons_zero, List.getElem_cons_succ, Act.put, List.setIfInBounds_toArray, List.set_cons_zero, List.set_cons_succ]
          refine wpAnyH_take (i := 1) (oi := _) (v := ?v199) rfl (by kernel_rfl) (by kernel_rfl) (by kernel_rfl) (fun _ _ _ h => h) (Or.inl ⟨by rfl, ?hy199⟩) (by assumption) ?rest199
          case hy199 => ((intro w hSw; (try dsimp only at hSw); go_simp) <;> with_reducible rfl)
          case' rest199 => try simp only [List.getElem_toArray, List.getElem_cons_zero, List.getElem_cons_succ, Act.put, List.setIfInBounds_toArray, List.set_cons_zero, List.set_cons_succ]
          refine wpAnyH_take (i := 2) (oi := _) (v := ?v200) rfl (by kernel_rfl) (by kernel_rfl) (by kernel_rfl) (fun _ _ _ h => h) (Or.inl ⟨by rfl, ?hy200⟩) (by assumption) ?rest200
          case hy200 => ((intro w hSw; (try dsimp only at hSw); go_simp) <;> with_reducible rfl)
          case' rest200 => try simp only [List.getElem_toArray, List.getElem_cons_zero, List.getElem_cons_succ, Act.put, List.setIfInBounds_toArray, List.set_cons_zero, List.set_cons_succ]
          refine wpAnyH_take (i := 3) (oi := _) (v := ?v201) rfl (by kernel_rfl) (by kernel_rfl) (by kernel_rfl) (fun _ _ _ h => h) (Or.inl ⟨by rfl, ?hy201⟩) (by assumption) ?rest201
          case hy201 => ((intro w hSw; (try dsimp only at hSw); go_simp) <;> with_reducible rfl)
          case' rest201 => try simp only [List.getElem_toArray, List.getElem_cons_zero, List.getElem_cons_succ, Act.put, List.setIfInBounds_toArray, List.set_cons_zero, List.set_cons_succ]
          refine wpAnyH_take (i := 4) (oi := _) (v := ?v202) rfl (by kernel_rfl) (by kernel_rfl) (by kernel_rfl) (fun _ _ _ h => h) (Or.inl ⟨by rfl, ?hy202⟩) (by assumption) ?rest202
          case hy202 => ((intro w hSw; (try dsimp only at hSw); go_simp) <;> with_reducible rfl)
          case' rest202 => try simp only [List.getElem_toArray, List.getElem_cons_zero, List.getElem_cons_succ, Act.put, List.setIfInBounds_toArray, List.set_cons_zero, List.set_cons_succ]
          refine wpAnyH_take (i := 5) (oi := _) (v := ?v203) rfl (by kernel_rfl) (by kernel_rfl) (by kernel_rfl) (fun _ _ _ h => h) (Or.inl ⟨by rfl, ?hy203⟩) (by assumption) ?rest203
          case hy203 => ((intro w hSw; (try dsimp only at hSw); go_simp) <;> with_reducible rfl)
          case' rest203 => try simp only [List.getElem_toArray, List.getElem_cons_zero, List.getElem_cons_succ, Act.put, List.setIfInBounds_toArray, List.set_cons_zero, List.set_cons_succ]
          refine wpAnyH_take (i := 6) (oi := _) (v := undef) rfl (by kernel_rfl) (by kernel_rfl) (by kernel_rfl) (fun _ _ _ h => h) (Or.inr ⟨by rfl, rfl⟩) (by assumption) ?rest204
          case' rest204 => try simp only [List.getElem_toArray, List.getElem_cons_zero, List.getElem_cons_succ, Act.put, List.setIfInBounds_toArray, List.set_cons_zero, List.set_cons_succ]
          refine wpAnyH_take (i := 7) (oi := _) (v := undef) rfl (by kernel_rfl) (by kernel_rfl) (by kernel_rfl) (fun _ _ _ h => h) (Or.inr ⟨by rfl, rfl⟩) (by assumption) ?rest205
          case' rest205 => try simp only [List.getElem_toArray, List.getElem_cons_zero, List.getElem_cons_succ, Act.put, List.setIfInBounds_toArray, List.set_cons_zero, List.set_cons_succ]
          refine wpAnyH_take (i := 8) (oi := _) (v := undef) rfl (by kernel_rfl) (by kernel_rfl) (by kernel_rfl) (fun _ _ _ h => h) (Or.inr ⟨by rfl, rfl⟩) (by assumption) ?rest206
          case' rest206 => try simp only [List.getElem_toArray, List.getElem_cons_zero, List.getElem_cons_succ, Act.put, List.setIfInBounds_toArray, List.set_cons_zero, List.set_cons_succ]
          refine wpAnyH_take (i := 9) (oi := _) (v := undef) rfl (by kernel_rfl) (by kernel_rfl) (by kernel_rfl) (fun _ _ _ h => h) (Or.inr ⟨by rfl, rfl⟩) (by assumption) ?rest207
          case' rest207 => try simp only [List.getElem_toArray, List.getElem_cons_zero, List.getElem_cons_succ, Act.put, List.setIfInBounds_toArray, List.set_cons_zero, List.set_cons_succ]
          refine wpAnyH_take (i := 10) (oi := _) (v := undef) rfl (by kernel_rfl) (by kernel_rfl) (by kernel_rfl) (fun _ _ _ h => h) (Or.inr ⟨by rfl, rfl⟩) (by assumption) ?rest208
          case' rest208 => try simp only [List.getElem_toArray, List.getElem_cons_zero, List.getElem_cons_succ, Act.put, List.setIfInBounds_toArray, List.set_cons_zero, List.set_cons_succ]
          refine wpAnyH_take (i := 11) (oi := _) (v := undef) rfl (by kernel_rfl) (by kernel_rfl) (by kernel_rfl) (fun _ _ _ h => h) (Or.inr ⟨by rfl, rfl⟩) (by assumption) ?rest209
          case' rest209 => try simp only [List.getElem_toArray, List.getElem_cons_zero, List.getElem_cons_succ, Act.put, List.setIfInBounds_toArray, List.set_cons_zero, List.set_cons_succ]
          refine wpAnyH_take (i := 12) (oi := _) (v := undef) rfl (by kernel_rfl) (by kernel_rfl) (by kernel_rfl) (fun _ _ _ h => h) (Or.inr ⟨by rfl, rfl⟩) (by assumption) ?rest210
          case' rest210 => try simp only [List.getElem_toArray, List.getElem_cons_zero, List.getElem_cons_succ, Act.put, List.setIfInBounds_toArray, List.set_cons_zero, List.set_cons_succ]
          refine wpAnyH_take (i := 13) (oi := _) (v := undef) rfl (by kernel_rfl) (by kernel_rfl) (by kernel_rfl) (fun _ _ _ h => h) (Or.inr ⟨by rfl, rfl⟩) (by assumption) ?rest211
          case' rest211 => try simp only [List.getElem_toArray, List.getElem_cons_zero, List.getElem_cons_succ, Act.put, List.setIfInBounds_toArray, List.set_cons_zero, List.set_cons_succ]
          refine wpAnyH_take (i := 14) (oi := _) (v := undef) rfl (by kernel_rfl) (by kernel_rfl) (by kernel_rfl) (fun _ _ _ h => h) (Or.inr ⟨by rfl, rfl⟩) (by assumption) ?rest212
          case' rest212 => try simp only [List.getElem_toArray, List.getElem_cons_zero, List.getElem_cons_succ, Act.put, List.setIfInBounds_toArray, List.set_cons_zero, List.set_cons_succ]
          refine wpAnyH_take (i := 15) (oi := _) (v := undef) rfl (by kernel_rfl) (by kernel_rfl) (by kernel_rfl) (fun _ _ _ h => h) (Or.inr ⟨by rfl, rfl⟩) (by assumption) ?rest213
          case' rest213 => try simp only [List.getElem_toArray, List.getElem_cons_zero, List.getElem_cons_succ, Act.put, List.setIfInBounds_toArray, List.set_cons_zero, List.set_cons_succ]
          refine wpAnyH_take (i := 16) (oi := _) (v := ?v214) rfl (by kernel_rfl) (by kernel_rfl) (by kernel_rfl) (fun _ _ _ h => h) (Or.inl ⟨by rfl, ?hy214⟩) (by assumption) ?rest214
          case hy214 => ((intro w hSw; (try dsimp only at hSw); go_simp) <;> with_reducible rfl)
          case' rest214 => try simp only [List.getElem_toArray, List.getElem_cons_zero, List.getElem_cons_succ, Act.put, List.setIfInBounds_toArray, List.set_cons_zero, List.set_cons_succ]
          refine wpAnyH_done (by kernel_rfl) ?_ _
          have hEnd := hHeld.2
          repeat (clear hHeld)
          clear hEnd
          go_upto_region 12 with fail
          have gk2 := HX2.out.k0
          unfold msL_ okM at gk2
          have g6 : W3.cell? ⟨p, 6, none⟩ = some (.slice A4 N c4) := HX2.out.blk.cell 6 rfl
          refine wp_region_T (fun w' => w'.cell? ⟨p, 6, none⟩ = some (.slice A4 N c4) ∧ (w'.cell? ⟨gk, 0, none⟩ = some (.int .i64 13) ∧ w'.cell? ⟨gk, 1, none⟩ = some (.int .i64 0) ∧ w'.cell? ⟨gk, 2, none⟩ = some (.int .i64 0) ∧ w'.cell? ⟨gk, 3, none⟩ = some (.bool M.tg) ∧ w'.cell? ⟨gk, 4, none⟩ = some (.bool false) ∧ w'.cell? ⟨gk, 5, none⟩ = some (.bool false) ∧ w'.cell? ⟨gk, 6, none⟩ = some (.bool false) ∧ w'.cell? ⟨gk, 7, none⟩ = some (.int .u32 0) ∧ w'.cell? ⟨gk, 8, none⟩ = some (.int .u32 0) ∧ w'.cell? ⟨gk, 9, none⟩ = some (.slice none 0 0) ∧ w'.cell? ⟨gk, 10, none⟩ = some (.int .i64 0) ∧ w'.cell? ⟨gk, 11, none⟩ = some (.int .i64 0) ∧ w'.cell? ⟨gk, 12, none⟩ = some (.int .i64 0) ∧ w'.cell? ⟨gk, 13, none⟩ = some (.int .u16 0)) ∧ True) [0, 1, 2, 3, 4, 5] (by kernel_rfl) ?hS216 (fun hHeld => ?rest216)
          case hS216 => ((try dsimp only); exact ⟨g6, blk14 gk2⟩)
          case' rest216 => skip
          refine wpAnyT_take (by kernel_rfl) (by kernel_rfl) (i := 0) (oi := _) (v := ?v217) rfl (by kernel_rfl) (by kernel_rfl) (by kernel_rfl) (fun _ _ _ h => h) (Or.inl ⟨by rfl, ?hy217⟩) (by assumption) ?rest217
          case hy217 => ((intro w hSw; (try dsimp only at hSw); go_simp) <;> with_reducible rfl)
          case' rest217 => try simp only [List.getElem_toArray, List.getElem_cons_zero, List.getElem_cons_succ, Act.put, List.setIfInBounds_toArray, List.set_cons_zero, List.set_cons_succ]
          refine wpAnyT_take (by kernel_rfl) (by kernel_rfl) (i := 1) (oi := _) (v := ?v218) rfl (by kernel_rfl) (by kernel_rfl) (by kernel_rfl) (fun _ _ _ h => h) (Or.inl ⟨by rfl, ?hy218⟩) (by assumption) ?rest218
          case hy218 => ((intro w hSw; (try dsimp only at hSw); go_simp) <;> with_reducible rfl)
          case' rest218 => try simp only [List.getElem_toArray, List.getElem_cons_zero, List.getElem_cons_succ, Act.put, List.setIfInBounds_toArray, List.set_cons_zero, List.set_cons_succ]
          refine wpAnyT_take (by kernel_rfl) (by kernel_rfl) (i := 2) (oi := _) (v := ?v219) rfl (by kernel_rfl) (by kernel_rfl) (by kernel_rfl) (fun _ _ _ h => h) (Or.inl ⟨by rfl, ?hy219⟩) (by assumption) ?rest219
          case hy219 => ((intro w hSw; (try dsimp only at hSw); go_simp) <;> with_reducible rfl)
          case' rest219 => try simp only [List.getElem_toArray, List.getElem_cons_zero, List.getElem_cons_succ, Act.put, List.setIfInBounds_toArray, List.set_cons_zero, List.set_cons_succ]
          refine wpAnyT_take (by kernel_rfl) (by kernel_rfl) (i := 3) (oi := _) (v := ?v220) rfl (by kernel_rfl) (by kernel_rfl) (by kernel_rfl) (fun _ _ _ h => h) (Or.inl ⟨by rfl, ?hy220⟩) (by assumption) ?rest220
          case hy220 => ((intro w hSw; (try dsimp only at hSw); go_simp) <;> with_reducible rfl)
          case' rest220 => try simp only [List.getElem_toArray, List.getElem_cons_zero, List.getElem_cons_succ, Act.put, List.setIfInBounds_toArray, List.set_cons_zero, List.set_cons_succ]
          refine wpAnyT_take (by kernel_rfl) (by kernel_rfl) (i := 4) (oi := _) (v := ?v221) rfl (by kernel_rfl) (by kernel_rfl) (by kernel_rfl) (fun _ _ _ h => h) (Or.inl ⟨by rfl, ?hy221⟩) (by assumption) ?rest221
          case hy221 => ((intro w hSw; (try dsimp only at hSw); go_simp) <;> with_reducible rfl)
          case' rest221 => try simp only [List.getElem_toArray, List.getElem_cons_zero, List.getElem_cons_succ, Act.put, List.setIfInBounds_toArray, List.set_cons_zero, List.set_cons_succ]
          refine wpAnyT_take (by kernel_rfl) (by kernel_rfl) (i := 5) (oi := _) (v := ?v222) rfl (by kernel_rfl) (by kernel_rfl) (by kernel_rfl) (fun _ _ _ h => h) (Or.inl ⟨by rfl, ?hy222⟩) (by assumption) ?rest222
          case hy222 => ((intro w hSw; (try dsimp only at hSw); go_simp) <;> with_reducible rfl)
          case' rest222 => try simp only [List.getElem_toArray, List.getElem_cons_zero, List.getElem_cons_succ, Act.put, List.setIfInBounds_toArray, List.set_cons_zero, List.set_cons_succ]
          refine wpAnyT_late (i := 6) (o := _) rfl (by kernel_rfl) (by kernel_rfl) (fun K hK => ?_)
          go_simp
          refine wp_calls_gen (P := fun W => PX w p 52 (srvL { R with tg := !R.tg, b := R.b ++ M.data } pd A4 N c4) [⟨gk, 48, msL_ (okM 13 0 0 M.tg) none 0 0⟩, ⟨w.heap.size + 1, 90, outL_ none 0 0 outZ none 0 0⟩, ⟨w.heap.size, 48, msL_ M A3 m3 c3⟩] W ∧ OwnB W (w.heap.size + 2) A4 N c4 (R.b ++ M.data) ∧ w.heap.size + 2 ≤ W.heap.size) (by first | exact ⟨HX2.out.drew.drew, HO2.out.drew.drew, hwz⟩ | exact ⟨HX2.out.drew, HO2.out.drew, hwz⟩ | exact ⟨HX2.out, HO2.out, hwz⟩) (fun W4 hW4 => ?_)
          have HW4 := hide hW4
          clear hW4
          refine (rsg_told p pd { R with tg := !R.tg, b := R.b ++ M.data } A4 N c4 A4 N c4 (R.b ++ M.data) 13 0 0 M.tg _ HW4.out.1.blk HNN.out (by omega) (fun W h => sl_blk HW4.out.2.1.sl (fun ad e => h.block ad.block ((ob_fin (G := G) HW4.out.2.1 hz).2.2.2.2 ad e).2.1 ((ob_fin (G := G) HW4.out.2.1 hz).2.2.2.2 ad e).2.2.1))).mono ?_
          rintro e w8 ⟨A5, c5, rfl, hO8, hB8, ho8⟩
          unfold outV
          dsimp only
          have HX8 : Hid (PX w p 52 (srvL (writeS { R with tg := !R.tg, b := R.b ++ M.data } (okM 13 0 0 M.tg)) pd A4 N c4) [⟨w.heap.size + 1, 90, outL_ none 0 0 outZ none 0 0⟩]  w8) := hide ((HW4.out.1.sub (by simp)).call ho8 hB8)
          have HO8 := hide (hO8.mono (B' := w.heap.size + 2) HW4.out.2.2)
          clear mm_c0 mm_c1 mm_c2 mm_c3 mm_c4 mm_c5 mm_c6 mm_c7 mm_c8 mm_c9 mm_c10 mm_c11 mm_c12 mm_c13 mm_f
          clear ok_c0 ok_c1 ok_c2 ok_c3 ok_c4 ok_c5 ok_c6 ok_c7 ok_c8 ok_c9 ok_c10 ok_c11 ok_c12 ok_c13 ok_f
          clear bb_c0 bb_c1 bb_c2 bb_c3 bb_c4 bb_c5 bb_c6 bb_c7 bb_f
          clear kk_c0 kk_c1 kk_c2 kk_c3 kk_c4 kk_f
          clear kk mm ok bb gk2 g6 hO8 hB8 ho8
          have k8 := HX8.out.k0
          unfold outL_ outZ at k8
          have zk8 := k8.lt
          obtain ⟨k8_c0, k8_c1, k8_c2, k8_c3, k8_c4⟩ := cel5 k8
          have k8_f := k8.frozen
          refine hK.out _ _ ?_
          clear hK K
          try simp only [List.getElem_toArray, List.getElem_cons_zero, List.getElem_cons_succ, Act.put, List.setIfInBounds_toArray, List.set_cons_zero, List.set_cons_succ]
          refine wpAnyT_late (i := 7) (o := _) rfl (by kernel_rfl) (by kernel_rfl) (fun K hK => ?_)
          go_simp
          refine hK.out _ _ ?rest224
          case' rest224 => (clear hK K; try simp only [List.getElem_toArray, List.getElem_cons_zero, List.getElem_cons_succ, Act.put, List.setIfInBounds_toArray, List.set_cons_zero, List.set_cons_succ])
          refine wpAnyT_done (by kernel_rfl) ?_ _
          repeat (clear hHeld)
          go_wp2_with fail
          obtain ⟨F1, F2⟩ := rfin (G := G) (S' := partS R M) (O := ⟨[], true, R.ix, R.sub, R.b ++ M.data⟩) HX8.out hz (.inl ⟨rfl, rfl, rfl, rfl⟩) HO8.out (by
            rw [HPS.out]
            exact Ali.refl3 rfl) (fun h => absurd h (show ¬ ((3 : Int) = 1 ∨ (3 : Int) = 2) by decide))
          rw [← HR.out] at F2
          unfold putO at F1 F2
          dsimp only at F1 F2
          exact rret_out (O := ⟨[], true, R.ix, R.sub, R.b ++ M.data⟩) rfl rfl rfl F1 F2
  · have hself : (M.tg == R.tg) = false := by simp [htg]
    have HR : Hid ((partS R M).st = 0 ∧ P = ROutR w G p pd (partS R M) (outM (abM R.ix R.sub 84082688))) := hide (by
      have hpc : pcode R M = 84082688 := by unfold pcode; rw [if_pos htg]
      refine ⟨by unfold partS; rw [if_pos htg], ?_⟩
      rw [HP.out]
      congr 1
      unfold partO abortL
      rw [hpc, if_pos (by decide), if_neg (by rw [H2.out]; decide)]
      rfl)
    clear htg
    refine wp_region_held_drew (S := (fun w' => (∀ qA : Addr, qA.block < (W).heap.size → w'.cell? qA = (W).cell? qA) ∧ Below (W).heap.size (W) w')) (by kernel_rfl) ?hS226 (fun hHeld => ?rest226)
    case hS226 => ((try dsimp only); (((try go_split_ands); refine sn_of ?_; repeat' (first | with_reducible assumption | with_reducible exact Below.refl _ _ | with_reducible apply below_alloc | with_reducible apply below_drew1 | with_reducible apply below_drewN | (with_reducible apply below_step; with_reducible assumption) | (with_reducible apply below_sg2; (first | exact Nat.le_refl _ | (simp; done) | omega))))))
    case' rest226 => skip
    refine wpAnyH_take (i := 0) (oi := _) (v := ?v227) rfl (by kernel_rfl) (by kernel_rfl) (by kernel_rfl) (fun _ _ _ h => h) (Or.inl ⟨by rfl, ?hy227⟩) (by assumption) ?rest227
    case hy227 => ((intro w hSw; (try dsimp only at hSw); go_simp) <;> with_reducible rfl)
    case' rest227 => try simp only [List.getElem_toArray, List.getElem_cons_zero, List.getElem_cons_succ, Act.put, List.setIfInBounds_toArray, List.set_cons_zero, List.set_cons_succ]
    refine wpAnyH_take (i := 1) (oi := _) (v := ?v228) rfl (by kernel_rfl) (by kernel_rfl) (by kernel_rfl) (fun _ _ _ h => h) (Or.inl ⟨by rfl, ?hy228⟩) (by assumption) ?rest228
    case hy228 => ((intro w hSw; (try dsimp only at hSw); go_simp) <;> with_reducible rfl)
    case' rest228 => try simp only [List.getElem_toArray, List.getElem_cons_zero, List.getElem_cons_succ, Act.put, List.setIfInBounds_toArray, List.set_cons_zero, List.set_cons_succ]
    refine wpAnyH_take (i := 2) (oi := _) (v := ?v229) rfl (by kernel_rfl) (by kernel_rfl) (by kernel_rfl) (fun _ _ _ h => h) (Or.inl ⟨by rfl, ?hy229⟩) (by assumption) ?rest229
    case hy229 => ((intro w hSw; (try dsimp only at hSw); go_simp) <;> with_reducible rfl)
    case' rest229 => try simp only [List.getElem_toArray, List.getElem_cons_zero, List.getElem_cons_succ, Act.put, List.setIfInBounds_toArray, List.set_cons_zero, List.set_cons_succ]
    refine wpAnyH_take (i := 3) (oi := _) (v := ?v230) rfl (by kernel_rfl) (by kernel_rfl) (by kernel_rfl) (fun _ _ _ h => h) (Or.inl ⟨by rfl, ?hy230⟩) (by assumption) ?rest230
    case hy230 => ((intro w hSw; (try dsimp only at hSw); go_simp) <;> with_reducible rfl)
    case' rest230 => try simp only [List.getElem_toArray, List.getElem_cons_zero, List.getElem_cons_succ, Act.put, List.setIfInBounds_toArray, List.set_cons_zero, List.set_cons_succ]
    refine wpAnyH_take (i := 4) (oi := _) (v := ?v231) rfl (by kernel_rfl) (by kernel_rfl) (by kernel_rfl) (fun _ _ _ h => h) (Or.inl ⟨by rfl, ?hy231⟩) (by assumption) ?rest231
    case hy231 => ((intro w hSw; (try dsimp only at hSw); go_simp) <;> with_reducible rfl)
    case' rest231 => try simp only [List.getElem_toArray, List.getElem_cons_zero, List.getElem_cons_succ, Act.put, List.setIfInBounds_toArray, List.set_cons_zero, List.set_cons_succ]
    refine wpAnyH_take (i := 5) (oi := _) (v := ?v232) rfl (by kernel_rfl) (by kernel_rfl) (by kernel_rfl) (fun _ _ _ h => h) (Or.inl ⟨by rfl, ?hy232⟩) (by assumption) ?rest232
    case hy232 => ((intro w hSw; (try dsimp only at hSw); go_simp) <;> with_reducible rfl)
    case' rest232 => try simp only [List.getElem_toArray, List.getElem_cons_zero, List.getElem_cons_succ, Act.put, List.setIfInBounds_toArray, List.set_cons_zero, List.set_cons_succ]
    refine wpAnyH_take (i := 6) (oi := _) (v := ?v233) rfl (by kernel_rfl) (by kernel_rfl) (by kernel_rfl) (fun _ _ _ h => h) (Or.inl ⟨by rfl, ?hy233⟩) (by assumption) ?rest233
    case hy233 => ((intro w hSw; (try dsimp only at hSw); go_simp) <;> with_reducible rfl)
    case' rest233 => try simp only [List.getElem_toArray, List.getElem_cons_zero, List.getElem_cons_succ, Act.put, List.setIfInBounds_toArray, List.set_cons_zero, List.set_cons_succ]
    refine wpAnyH_done (by kernel_rfl) ?_ _
    have hEnd := hHeld.2
    repeat (clear hHeld)
    have HX2 := hide HX.out.drew
    go_wp2_with fail
    refine (rsg_abort p pd R 84082688 A n1 c1 _ HX2.out.blk).mono ?_
    rintro e w8 ⟨_, h5⟩
    obtain ⟨g8, hg8, rfl, hM8, hB8, ho8⟩ := h5 (by show R.st ≠ 0; rw [H2.out]; decide)
    have HX8 : Hid (PX w p 52 (srvL (abortS R) pd A n1 c1) [⟨w.heap.size + 1, 90, outL_ none 0 0 outZ none 0 0⟩, ⟨w.heap.size, 48, msL_ M A3 m3 c3⟩] w8) := hide ((HX2.out.sub (by simp)).call ho8 hB8)
    have HM8 := hide hM8
    have zg8 : w.heap.size + 2 ≤ g8 := Nat.le_trans hwz hg8
    have k8 := HX8.out.k0
    unfold outL_ outZ at k8
    have zk8 := k8.lt
    clear b7
    obtain ⟨k8_c0, k8_c1, k8_c2, k8_c3, k8_c4⟩ := cel5 k8
    have k8_f := k8.frozen
    clear h5 hM8 hB8 ho8
    go_wp2_with fail
    obtain ⟨F1, F2⟩ := rfin (G := G) (S' := partS R M) (O := outM (abM R.ix R.sub 84082688)) HX8.out hz (rmsR_one zg8 HM8.out (OwnB.nil _ _)) (OwnB.nil _ _) (Ali.idle HR.out.1 rfl) (fun h => absurd h (show ¬ ((0 : Int) = 1 ∨ (0 : Int) = 2) by decide))
    rw [← HR.out.2] at F2
    unfold putO outM at F1 F2
    dsimp only at F1 F2
    exact rret_out (O := outM (abM R.ix R.sub 84082688)) rfl rfl rfl F1 F2
end
section
open Go.RowKit
set_option maxRecDepth 100000
set_option maxHeartbeats 40000000
/-- a message is made with bytes of its own: where it lies -/
def OkC (W : World) (M : Ms) (n : Nat) (d : List UInt8) (s : Value) (wx : World) : Prop :=
  ∃ gk A5 c5, s = .pointer (some ⟨gk, 0, none⟩) ∧ W.heap.size ≤ gk ∧ Below W.heap.size W wx ∧ Blk wx gk 48 (msL_ M A5 n c5).toArray ∧ OwnB wx W.heap.size A5 n c5 d
theorem okc_mk {W w3 : World} {M : Ms} {n : Nat} {d : List UInt8} {A5 : Option Addr} {c5 : Nat} (hb : Below W.heap.size W w3) (hO : OwnB w3 W.heap.size A5 n c5 d) : OkC W M n d (.pointer (some ⟨w3.heap.size, 0, none⟩)) (w3.alloc (.cells (msL_ M A5 n c5).toArray 48)) :=
  ⟨w3.heap.size, A5, c5, rfl, hb.size, below_alloc hb _, Blk.new _ _ _, hO.alloc _⟩
theorem okc_mk2 {W w3 : World} {M : Ms} {n : Nat} {d : List UInt8} {A5 : Option Addr} {c5 : Nat} (hb : Below W.heap.size W w3) (hZ : Blk w3 W.heap.size 48 (msV msZ none 0 0)) (hO : OwnB w3 (W.heap.size + 1) A5 n c5 d) : OkC W M n d (.pointer (some ⟨W.heap.size, 0, none⟩)) (w3.setCells W.heap.size 0 (msL_ M A5 n c5)) := by
  have h1 := blk_sets (msL_ M A5 n c5) 0 (l := (msV msZ none 0 0).toList) hZ (by simp [msL_, msV])
  have o1 := only_sets (F := fun q => q = W.heap.size) rfl (msL_ M A5 n c5) 0 (Only.refl _ w3)
  exact ⟨W.heap.size, A5, c5, rfl, Nat.le_refl _, hb.trans (o1.below hb.size (fun i h => by omega)), h1, (ownB_only hO o1 (fun g h1 _ (e : g = W.heap.size) => by omega)).mono (by omega)⟩
theorem rsg_upSeg (p pd : Nat) (R : SegS) (A : Option Addr) (n1 c1 : Nat) (G : Nat → Prop) (M : Ms) (A3 : Option Addr) (m3 c3 : Nat) (w : World) (hB : Blk w p 52 (srvV R pd A n1 c1)) (h2 : R.st = 2) (hn1 : n1 = R.b.length) (hc1 : n1 ≤ c1) (hsl : Sl w A (R.b.map bv)) (hAn : A = none → n1 = 0) (hAG : ∀ ad, A = some ad → G ad.block ∧ ad.block < w.heap.size ∧ ad.block ≠ p) (h256 : R.b.length ≤ 256) :
    Calls Tryz.prog 72 #[.pointer (some ⟨p, 0, none⟩), .agg (msV M A3 m3 c3)] w (ROutR w G p pd (nextS R M) (nextO R M)) := by
  obtain ⟨P, hP⟩ : ∃ P, P = ROutR w G p pd (nextS R M) (nextO R M) := ⟨_, rfl⟩
  rw [← hP]
  have HP := hide hP
  have hz := hB.lt
  have HN1 := hide hn1
  have H2 := hide h2
  have HAG := hide hAG
  have HAN := hide hAn
  have hne1 : w.heap.size + 1 ≠ p := by omega
  have hne0 : w.heap.size ≠ p := by omega
  have hb256 : n1 ≤ 256 := by omega
  have HSL := hide (fun W (h : Only (fun q => q = p) w W) => sl_blk hsl (fun ad e => h.block ad.block (hAG ad e).2.1 (hAG ad e).2.2))
  have HH0 := (PX.start (cs := srvL R pd A n1 c1) hB).new2 rfl 48 90 (msL_ M A3 m3 c3) (outL_ none 0 0 outZ none 0 0)
  have HH := hide HH0
  clear hP hB hn1 hsl hAG hAn h256 h2 HH0
  unfold msL_ outL_ outZ at HH
  unfold msV
  go_enter Tryz.func72, Tryz.ntmps72
  go_wp2_with fail
  refine wp_gen (P := PX w p 52 (srvL R pd A n1 c1) [⟨w.heap.size + 1, 90, outL_ none 0 0 outZ none 0 0⟩, ⟨w.heap.size, 48, msL_ M A3 m3 c3⟩]) HH.out (fun W hW => ?_)
  clear HH
  have HX := hide hW
  have b7 : W.cell? ⟨p, 7, none⟩ = some (.bool R.tg) := hW.blk.cell 7 rfl
  have b3 : W.cell? ⟨w.heap.size, 3, none⟩ = some (.bool M.tg) := hW.k1.cell 3 rfl
  have zW := hW.lt
  have hwz : w.heap.size + 2 ≤ W.heap.size := by
    have := hW.k0.lt
    show w.heap.size + 1 < W.heap.size
    exact this
  have zk1 : w.heap.size < W.heap.size := by omega
  clear hW
  by_cases htg : M.tg = R.tg
  · have hself : (M.tg == R.tg) = true := by simp [htg]
    have HTG := hide htg
    clear htg
    refine wp_region_held_drew (S := (fun w' => (∀ qA : Addr, qA.block < (W).heap.size → w'.cell? qA = (W).cell? qA) ∧ Below (W).heap.size (W) w')) (by kernel_rfl) ?hS235 (fun hHeld => ?rest235)
    case hS235 => ((try dsimp only); (((try go_split_ands); refine sn_of ?_; repeat' (first | with_reducible assumption | with_reducible exact Below.refl _ _ | with_reducible apply below_alloc | with_reducible apply below_drew1 | with_reducible apply below_drewN | (with_reducible apply below_step; with_reducible assumption) | (with_reducible apply below_sg2; (first | exact Nat.le_refl _ | (simp; done) | omega))))))
    case' rest235 => skip
    refine wpAnyH_take (i := 0) (oi := _) (v := ?v236) rfl (by kernel_rfl) (by kernel_rfl) (by kernel_rfl) (fun _ _ _ h => h) (Or.inl ⟨by rfl, ?hy236⟩) (by assumption) ?rest236
    case hy236 => ((intro w hSw; (try dsimp only at hSw); go_simp) <;> with_reducible rfl)
    case' rest236 => try simp only [List.getElem_toArray, List.getElem_cons_zero, List.getElem_cons_succ, Act.put, List.setIfInBounds_toArray, List.set_cons_zero, List.set_cons_succ]
    refine wpAnyH_take (i := 1) (oi := _) (v := ?v237) rfl (by kernel_rfl) (by kernel_rfl) (by kernel_rfl) (fun _ _ _ h => h) (Or.inl ⟨by rfl, ?hy237⟩) (by assumption) ?rest237
    case hy237 => ((intro w hSw; (try dsimp only at hSw); go_simp) <;> with_reducible rfl)
    case' rest237 => try simp only [List.getElem_toArray, List.getElem_cons_zero, List.getElem_cons_succ, Act.put, List.setIfInBounds_toArray, List.set_cons_zero, List.set_cons_succ]
    refine wpAnyH_take (i := 2) (oi := _) (v := ?v238) rfl (by kernel_rfl) (by kernel_rfl) (by kernel_rfl) (fun _ _ _ h => h) (Or.inl ⟨by rfl, ?hy238⟩) (by assumption) ?rest238
    case hy238 => ((intro w hSw; (try dsimp only at hSw); go_simp) <;> with_reducible rfl)
    case' rest238 => try simp only [List.getElem_toArray, List.getElem_cons_zero, List.getElem_cons_succ, Act.put, List.setIfInBounds_toArray, List.set_cons_zero, List.set_cons_succ]
    refine wpAnyH_take (i := 3) (oi := _) (v := ?v239) rfl (by kernel_rfl) (by kernel_rfl) (by kernel_rfl) (fun _ _ _ h => h) (Or.inl ⟨by rfl, ?hy239⟩) (by assumption) ?rest239
    case hy239 => ((intro w hSw; (try dsimp only at hSw); go_simp) <;> with_reducible rfl)
    case' rest239 => try simp only [List.getElem_toArray, List.getElem_cons_zero, List.getElem_cons_succ, Act.put, List.setIfInBounds_toArray, List.set_cons_zero, List.set_cons_succ]
    refine wpAnyH_take (i := 4) (oi := _) (v := ?v240) rfl (by kernel_rfl) (by kernel_rfl) (by kernel_rfl) (fun _ _ _ h => h) (Or.inl ⟨by rfl, ?hy240⟩) (by assumption) ?rest240
    case hy240 => ((intro w hSw; (try dsimp only at hSw); go_simp) <;> with_reducible rfl)
    case' rest240 => try simp only [List.getElem_toArray, List.getElem_cons_zero, List.getElem_cons_succ, Act.put, List.setIfInBounds_toArray, List.set_cons_zero, List.set_cons_succ]
    refine wpAnyH_take (i := 5) (oi := _) (v := ?v241) rfl (by kernel_rfl) (by kernel_rfl) (by kernel_rfl) (fun _ _ _ h => h) (Or.inl ⟨by rfl, ?hy241⟩) (by assumption) ?rest241
    case hy241 => ((intro w hSw; (try dsimp only at hSw); go_simp) <;> with_reducible rfl)
    case' rest241 => try simp only [List.getElem_toArray, List.getElem_cons_zero, List.getElem_cons_succ, Act.put, List.setIfInBounds_toArray, List.set_cons_zero, List.set_cons_succ]
    refine wpAnyH_take (i := 6) (oi := _) (v := ?v242) rfl (by kernel_rfl) (by kernel_rfl) (by kernel_rfl) (fun _ _ _ h => h) (Or.inl ⟨by rfl, ?hy242⟩) (by assumption) ?rest242
    case hy242 => ((intro w hSw; (try dsimp only at hSw); go_simp) <;> with_reducible rfl)
    case' rest242 => try simp only [List.getElem_toArray, List.getElem_cons_zero, List.getElem_cons_succ, Act.put, List.setIfInBounds_toArray, List.set_cons_zero, List.set_cons_succ]
    refine wpAnyH_done (by kernel_rfl) ?_ _
    have hEnd := hHeld.2
    repeat (clear hHeld)
    clear hEnd
    have bb := HX.out.blk
    unfold srvL at bb
    obtain ⟨bb_c0, bb_c1, bb_c2, bb_c3, bb_c4, bb_c5, bb_c6, bb_c7⟩ := cel8 bb
    have bb_f := bb.frozen
    by_cases hle : n1 ≤ 7
    · skip
      go_upto_region 6 with fail
      have hgt : ¬ (7 : Int) < (n1 : Int) := by omega
      clear bb_c0 bb_c1 bb_c2 bb_c3 bb_c4 bb_c5 bb_c6 bb_c7 bb_f
      clear bb b7 b3
      refine wp_gen (P := fun W' => PX w p 52 (srvL R pd A n1 c1) [⟨w.heap.size + 1, 90, outL_ none 0 0 outZ none 0 0⟩, ⟨w.heap.size, 48, msL_ M A3 m3 c3⟩] W' ∧ w.heap.size + 2 ≤ W'.heap.size) (by first | exact ⟨HX.out.drew, hwz⟩ | exact ⟨HX.out, hwz⟩) (fun W1 hW1 => ?_)
      clear HX hwz zW zk1
      obtain ⟨hX, hwz⟩ := hW1
      have HX := hide hX
      have HS1 := hide (HSL.out W1 hX.only)
      have y6 : W1.cell? ⟨p, 6, none⟩ = some (.slice A n1 c1) := hX.blk.cell 6 rfl
      have y3 : W1.cell? ⟨w.heap.size, 3, none⟩ = some (.bool M.tg) := hX.k1.cell 3 rfl
      have zp1 := hX.lt
      have zk1 : w.heap.size < W1.heap.size := by omega
      have hcut := fun W => cuth_b A n1 c1 n1 ((n1 : Int)) .i64 rfl (by omega) W

      clear hX
      go_cut [6] (fun s wx => OkC W1 (segM M.tg true (R.b.take n1)) n1 (R.b.take n1) s wx)
      case first =>
        refine wp_region_held_drew (S := (fun w' => (∀ qA : Addr, qA.block < (W1).heap.size → w'.cell? qA = (W1).cell? qA) ∧ Below (W1).heap.size (W1) w')) (by kernel_rfl) ?hS244 (fun hHeld => ?rest244)
        case hS244 => ((try dsimp only); (((try go_split_ands); refine sn_of ?_; repeat' (first | with_reducible assumption | with_reducible exact Below.refl _ _ | with_reducible apply below_alloc | with_reducible apply below_drew1 | with_reducible apply below_drewN | (with_reducible apply below_step; with_reducible assumption) | (with_reducible apply below_sg2; (first | exact Nat.le_refl _ | (simp; done) | omega))))))
        case' rest244 => skip
        refine wpAnyH_take (i := 0) (oi := _) (v := ?v245) rfl (by kernel_rfl) (by kernel_rfl) (by kernel_rfl) (fun _ _ _ h => h) (Or.inl ⟨by rfl, ?hy245⟩) (by assumption) ?rest245
        case hy245 => ((intro w hSw; (try dsimp only at hSw); go_simp) <;> with_reducible rfl)
        case' rest245 => try simp only [List.getElem_toArray, List.getElem_cons_zero, List.getElem_cons_succ, Act.put, List.setIfInBounds_toArray, List.set_cons_zero, List.set_cons_succ]
        refine wpAnyH_take (i := 1) (oi := _) (v := ?v246) rfl (by kernel_rfl) (by kernel_rfl) (by kernel_rfl) (fun _ _ _ h => h) (Or.inl ⟨by rfl, ?hy246⟩) (by assumption) ?rest246
        case hy246 => ((intro w hSw; (try dsimp only at hSw); go_simp) <;> with_reducible rfl)
        case' rest246 => try simp only [List.getElem_toArray, List.getElem_cons_zero, List.getElem_cons_succ, Act.put, List.setIfInBounds_toArray, List.set_cons_zero, List.set_cons_succ]
        refine wpAnyH_take (i := 2) (oi := _) (v := ?v247) rfl (by kernel_rfl) (by kernel_rfl) (by kernel_rfl) (fun _ _ _ h => h) (Or.inl ⟨by rfl, ?hy247⟩) (by assumption) ?rest247
        case hy247 => ((intro w hSw; (try dsimp only at hSw); go_simp) <;> with_reducible rfl)
        case' rest247 => try simp only [List.getElem_toArray, List.getElem_cons_zero, List.getElem_cons_succ, Act.put, List.setIfInBounds_toArray, List.set_cons_zero, List.set_cons_succ]
        refine wpAnyH_take (i := 3) (oi := _) (v := ?v248) rfl (by kernel_rfl) (by kernel_rfl) (by kernel_rfl) (fun _ _ _ h => h) (Or.inl ⟨by rfl, ?hy248⟩) (by assumption) ?rest248
        case hy248 => ((intro w hSw; (try dsimp only at hSw); go_simp) <;> with_reducible rfl)
        case' rest248 => try simp only [List.getElem_toArray, List.getElem_cons_zero, List.getElem_cons_succ, Act.put, List.setIfInBounds_toArray, List.set_cons_zero, List.set_cons_succ]
        refine wpAnyH_take (i := 4) (oi := _) (v := ?v249) rfl (by kernel_rfl) (by kernel_rfl) (by kernel_rfl) (fun _ _ _ h => h) (Or.inl ⟨by rfl, ?hy249⟩) (by assumption) ?rest249
        case hy249 => ((intro w hSw; (try dsimp only at hSw); go_simp) <;> with_reducible rfl)
        case' rest249 => try simp only [List.getElem_toArray, List.getElem_cons_zero, List.getElem_cons_succ, Act.put, List.setIfInBounds_toArray, List.set_cons_zero, List.set_cons_succ]
        refine wpAnyH_take (i := 5) (oi := _) (v := ?v250) rfl (by kernel_rfl) (by kernel_rfl) (by kernel_rfl) (fun _ _ _ h => h) (Or.inl ⟨by rfl, ?hy250⟩) (by assumption) ?rest250
        case hy250 => ((intro w hSw; (try dsimp only at hSw); go_simp) <;> with_reducible rfl)
        case' rest250 => try simp only [List.getElem_toArray, List.getElem_cons_zero, List.getElem_cons_succ, Act.put, List.setIfInBounds_toArray, List.set_cons_zero, List.set_cons_succ]
        refine wpAnyH_take (i := 6) (oi := _) (v := ?v251) rfl (by kernel_rfl) (by kernel_rfl) (by kernel_rfl) (fun _ _ _ h => h) (Or.inl ⟨by rfl, ?hy251⟩) (by assumption) ?rest251
        case hy251 => ((intro w hSw; (try dsimp only at hSw); go_simp) <;> with_reducible rfl)
        case' rest251 => try simp only [List.getElem_toArray, List.getElem_cons_zero, List.getElem_cons_succ, Act.put, List.setIfInBounds_toArray, List.set_cons_zero, List.set_cons_succ]
        refine wpAnyH_take (i := 7) (oi := _) (v := ?v252) rfl (by kernel_rfl) (by kernel_rfl) (by kernel_rfl) (fun _ _ _ h => h) (Or.inl ⟨by rfl, ?hy252⟩) (by assumption) ?rest252
        case hy252 => ((intro w hSw; (try dsimp only at hSw); go_simp) <;> with_reducible rfl)
        case' rest252 => try simp only [List.getElem_toArray, List.getElem_cons_zero, List.getElem_cons_succ, Act.put, List.setIfInBounds_toArray, List.set_cons_zero, List.set_cons_succ]
        refine wpAnyH_take (i := 8) (oi := _) (v := ?v253) rfl (by kernel_rfl) (by kernel_rfl) (by kernel_rfl) (fun _ _ _ h => h) (Or.inl ⟨by rfl, ?hy253⟩) (by assumption) ?rest253
        case hy253 => ((intro w hSw; (try dsimp only at hSw); go_simp) <;> with_reducible rfl)
        case' rest253 => try simp only [List.getElem_toArray, List.getElem_cons_zero, List.getElem_cons_succ, Act.put, List.setIfInBounds_toArray, List.set_cons_zero, List.set_cons_succ]
        refine wpAnyH_take (i := 9) (oi := _) (v := ?v254) rfl (by kernel_rfl) (by kernel_rfl) (by kernel_rfl) (fun _ _ _ h => h) (Or.inl ⟨by rfl, ?hy254⟩) (by assumption) ?rest254
        case hy254 => ((intro w hSw; (try dsimp only at hSw); go_simp) <;> with_reducible rfl)
        case' rest254 => try simp only [List.getElem_toArray, List.getElem_cons_zero, List.getElem_cons_succ, Act.put, List.setIfInBounds_toArray, List.set_cons_zero, List.set_cons_succ]
        refine wpAnyH_take (i := 10) (oi := _) (v := ?v255) rfl (by kernel_rfl) (by kernel_rfl) (by kernel_rfl) (fun _ _ _ h => h) (Or.inl ⟨by rfl, ?hy255⟩) (by assumption) ?rest255
        case hy255 => ((intro w hSw; (try dsimp only at hSw); go_simp) <;> with_reducible rfl)
        case' rest255 => try simp only [List.getElem_toArray, List.getElem_cons_zero, List.getElem_cons_succ, Act.put, List.setIfInBounds_toArray, List.set_cons_zero, List.set_cons_succ]
        refine wpAnyH_take (i := 11) (oi := _) (v := ?v256) rfl (by kernel_rfl) (by kernel_rfl) (by kernel_rfl) (fun _ _ _ h => h) (Or.inl ⟨by rfl, ?hy256⟩) (by assumption) ?rest256
        case hy256 => ((intro w hSw; (try dsimp only at hSw); go_simp) <;> with_reducible rfl)
        case' rest256 => try simp only [List.getElem_toArray, List.getElem_cons_zero, List.getElem_cons_succ, Act.put, List.setIfInBounds_toArray, List.set_cons_zero, List.set_cons_succ]
        refine wpAnyH_take (i := 12) (oi := _) (v := ?v257) rfl (by kernel_rfl) (by kernel_rfl) (by kernel_rfl) (fun _ _ _ h => h) (Or.inl ⟨by rfl, ?hy257⟩) (by assumption) ?rest257
        case hy257 => ((intro w hSw; (try dsimp only at hSw); go_simp) <;> with_reducible rfl)
        case' rest257 => try simp only [List.getElem_toArray, List.getElem_cons_zero, List.getElem_cons_succ, Act.put, List.setIfInBounds_toArray, List.set_cons_zero, List.set_cons_succ]
        refine wpAnyH_take (i := 13) (oi := _) (v := ?v258) rfl (by kernel_rfl) (by kernel_rfl) (by kernel_rfl) (fun _ _ _ h => h) (Or.inl ⟨by rfl, ?hy258⟩) (by assumption) ?rest258
        case hy258 => ((intro w hSw; (try dsimp only at hSw); go_simp) <;> with_reducible rfl)
        case' rest258 => try simp only [List.getElem_toArray, List.getElem_cons_zero, List.getElem_cons_succ, Act.put, List.setIfInBounds_toArray, List.set_cons_zero, List.set_cons_succ]
        refine wpAnyH_take (i := 14) (oi := _) (v := ?v259) rfl (by kernel_rfl) (by kernel_rfl) (by kernel_rfl) (fun _ _ _ h => h) (Or.inl ⟨by rfl, ?hy259⟩) (by assumption) ?rest259
        case hy259 => ((intro w hSw; (try dsimp only at hSw); go_simp) <;> with_reducible rfl)
        case' rest259 => try simp only [List.getElem_toArray, List.getElem_cons_zero, List.getElem_cons_succ, Act.put, List.setIfInBounds_toArray, List.set_cons_zero, List.set_cons_succ]
        refine wpAnyH_ready (rs := [15, 17]) (by kernel_rfl) (by simp) (AllReadyH.cons (o := _) rfl (fun K hK => ?_) (AllReadyH.cons (o := _) rfl (fun K hK => ?_) AllReadyH.nil))
        · go_simp
          refine (join_nil A n1 c1 (R.b.take n1) _ (by simp; have := HN1.out; omega) (by omega) (by rw [List.map_take]; exact (HS1.out.take _).below (Below.drew (Below.refl _ _)))).mono ?_
          rintro e w3 ⟨A5, c5, rfl, hO5, hb5⟩
          dsimp only
          replace hb5 := below_undrew hb5
          have HO5 := hide (hO5.mono (B' := W1.heap.size) (Nat.le_refl _))
          clear hO5
          refine hK.out _ _ ?hS261 (fun hHeld => ?rest261)
          case hS261 => ((try dsimp only); (((try go_split_ands); refine sn_of ?_; repeat' (first | with_reducible assumption | with_reducible exact Below.refl _ _ | with_reducible apply below_alloc | with_reducible apply below_drew1 | with_reducible apply below_drewN | (with_reducible apply below_step; with_reducible assumption) | (with_reducible apply below_sg2; (first | exact Nat.le_refl _ | (simp; done) | omega))))))
          case' rest261 => (clear hK K; try simp only [List.getElem_toArray, List.getElem_cons_zero, List.getElem_cons_succ, Act.put, List.setIfInBounds_toArray, List.set_cons_zero, List.set_cons_succ])
          refine wpAnyH_take (i := 16) (oi := _) (v := ?v262) rfl (by kernel_rfl) (by kernel_rfl) (by kernel_rfl) (fun _ _ _ h => h) (Or.inl ⟨by rfl, ?hy262⟩) (by assumption) ?rest262
          case hy262 => ((intro w hSw; (try dsimp only at hSw); go_simp) <;> with_reducible rfl)
          case' rest262 => try simp only [List.getElem_toArray, List.getElem_cons_zero, List.getElem_cons_succ, Act.put, List.setIfInBounds_toArray, List.set_cons_zero, List.set_cons_succ]
          refine wpAnyH_ready (rs := [17]) (by kernel_rfl) (by simp) ?_
          refine AllReadyH.cons (o := _) rfl (fun K hK => ?_) AllReadyH.nil
          go_simp
          refine hK.out _ _ ?hS265 (fun hHeld => ?rest265)
          case hS265 => ((try dsimp only); (((try go_split_ands); refine sn_of ?_; repeat' (first | with_reducible assumption | with_reducible exact Below.refl _ _ | with_reducible apply below_alloc | with_reducible apply below_drew1 | with_reducible apply below_drewN | (with_reducible apply below_step; with_reducible assumption) | (with_reducible apply below_sg2; (first | exact Nat.le_refl _ | (simp; done) | omega))))))
          case' rest265 => (clear hK K; try simp only [List.getElem_toArray, List.getElem_cons_zero, List.getElem_cons_succ, Act.put, List.setIfInBounds_toArray, List.set_cons_zero, List.set_cons_succ])
          refine wpAnyH_ready (rs := [18]) (by kernel_rfl) (by simp) ?_
          refine AllReadyH.cons (o := _) rfl (fun K hK => ?_) AllReadyH.nil
          go_simp
          refine hK.out _ _ ?hS268 (fun hHeld => ?rest268)
          case hS268 => ((try dsimp only); (((try go_split_ands); refine sn_of ?_; repeat' (first | with_reducible assumption | with_reducible exact Below.refl _ _ | with_reducible apply below_alloc | with_reducible apply below_drew1 | with_reducible apply below_drewN | (with_reducible apply below_step; with_reducible assumption) | (with_reducible apply below_sg2; (first | exact Nat.le_refl _ | (simp; done) | omega))))))
          case' rest268 => (clear hK K; try simp only [List.getElem_toArray, List.getElem_cons_zero, List.getElem_cons_succ, Act.put, List.setIfInBounds_toArray, List.set_cons_zero, List.set_cons_succ])
          refine wpAnyH_done (by kernel_rfl) ?_ _
          have hEnd := hHeld.2
          repeat (clear hHeld)
          go_wp2_with fail
          go_meet
          exact okc_mk (M := (segM M.tg true (R.b.take n1))) hb5 HO5.out
        · go_simp
          refine hK.out _ _ ?hS270 (fun hHeld => ?rest270)
          case hS270 => ((try dsimp only); (((try go_split_ands); refine sn_of ?_; repeat' (first | with_reducible assumption | with_reducible exact Below.refl _ _ | with_reducible apply below_alloc | with_reducible apply below_drew1 | with_reducible apply below_drewN | (with_reducible apply below_step; with_reducible assumption) | (with_reducible apply below_sg2; (first | exact Nat.le_refl _ | (simp; done) | omega))))))
          case' rest270 => (clear hK K; try simp only [List.getElem_toArray, List.getElem_cons_zero, List.getElem_cons_succ, Act.put, List.setIfInBounds_toArray, List.set_cons_zero, List.set_cons_succ])
          refine wpAnyH_ready (rs := [15]) (by kernel_rfl) (by simp) ?_
          refine AllReadyH.cons (o := _) rfl (fun K hK => ?_) AllReadyH.nil
          go_simp
          refine (join_nil A n1 c1 (R.b.take n1) _ (by simp; have := HN1.out; omega) (by omega) (by rw [List.map_take]; exact (HS1.out.take _).below (by repeat' (first | with_reducible assumption | with_reducible exact Below.refl _ _ | with_reducible apply below_alloc | with_reducible apply below_drew1 | with_reducible apply below_drewN | (with_reducible apply below_step; with_reducible assumption) | (with_reducible apply below_sg2; (first | exact Nat.le_refl _ | (simp; done) | omega)))))).mono ?_
          rintro e w3 ⟨A5, c5, rfl, hO5, hb4⟩
          dsimp only
          have hb5 : Below W1.heap.size W1 w3 := below_zd (z := .cells (msV msZ none 0 0) 48) (by simpa [msV, msZ] using hb4)
          have hZ3 : Blk w3 W1.heap.size 48 (msV msZ none 0 0) := blk_zd (by simpa [msV, msZ] using hb4)
          have HZ3 := hide hZ3
          have HO5 : Hid (OwnB w3 (W1.heap.size + 1) A5 n1 c5 (R.b.take n1)) := hide (hO5.mono (by simp))
          unfold msV msZ at hZ3
          obtain ⟨hZ3_c0, hZ3_c1, hZ3_c2, hZ3_c3, hZ3_c4, hZ3_c5, hZ3_c6, hZ3_c7, hZ3_c8, hZ3_c9, hZ3_c10, hZ3_c11, hZ3_c12, hZ3_c13⟩ := cel14 hZ3
          have hZ3_f := hZ3.frozen
          clear hO5 hb4
          refine hK.out _ _ ?hS273 (fun hHeld => ?rest273)
          case hS273 => ((try dsimp only); (((try go_split_ands); refine sn_of ?_; repeat' (first | with_reducible assumption | with_reducible exact Below.refl _ _ | with_reducible apply below_alloc | with_reducible apply below_drew1 | with_reducible apply below_drewN | (with_reducible apply below_step; with_reducible assumption) | (with_reducible apply below_sg2; (first | exact Nat.le_refl _ | (simp; done) | omega))))))
          case' rest273 => (clear hK K; try simp only [List.getElem_toArray, List.getElem_cons_zero, List.getElem_cons_succ, Act.put, List.setIfInBounds_toArray, List.set_cons_zero, List.set_cons_succ])
          refine wpAnyH_take (i := 16) (oi := _) (v := ?v274) rfl (by kernel_rfl) (by kernel_rfl) (by kernel_rfl) (fun _ _ _ h => h) (Or.inl ⟨by rfl, ?hy274⟩) (by assumption) ?rest274
          case hy274 => ((intro w hSw; (try dsimp only at hSw); go_simp) <;> with_reducible rfl)
          case' rest274 => try simp only [List.getElem_toArray, List.getElem_cons_zero, List.getElem_cons_succ, Act.put, List.setIfInBounds_toArray, List.set_cons_zero, List.set_cons_succ]
          refine wpAnyH_ready (rs := [18]) (by kernel_rfl) (by simp) ?_
          refine AllReadyH.cons (o := _) rfl (fun K hK => ?_) AllReadyH.nil
          go_simp
          refine hK.out _ _ ?hS277 (fun hHeld => ?rest277)
          case hS277 => ((try dsimp only); (((try go_split_ands); refine sn_of ?_; repeat' (first | with_reducible assumption | with_reducible exact Below.refl _ _ | with_reducible apply below_alloc | with_reducible apply below_drew1 | with_reducible apply below_drewN | (with_reducible apply below_step; with_reducible assumption) | (with_reducible apply below_sg2; (first | exact Nat.le_refl _ | (simp; done) | omega))))))
          case' rest277 => (clear hK K; try simp only [List.getElem_toArray, List.getElem_cons_zero, List.getElem_cons_succ, Act.put, List.setIfInBounds_toArray, List.set_cons_zero, List.set_cons_succ])
          refine wpAnyH_done (by kernel_rfl) ?_ _
          have hEnd := hHeld.2
          repeat (clear hHeld)
          go_wp2_with fail
          go_meet
          have F := okc_mk2 (M := (segM M.tg true (R.b.take n1))) hb5 HZ3.out HO5.out
          simp only [World.setCells, msL_, segM, Nat.reduceAdd] at F
          exact F
      case rest =>
        obtain ⟨gk, A5, c5, rfl, hgk, hb5, hKb, hO5⟩ := hcut
        have hgp : gk ≠ p := by omega
        have hgw : w.heap.size + 2 ≤ gk := by omega
        have HX4 := hide ((HX.out.step hb5).add gk 48 (msL_ (segM M.tg true (R.b.take n1)) A5 n1 c5) hgp hKb)
        have HS4 := hide (HSL.out _ HX4.out.only)
        have HO5 := hide (hO5.mono (B' := w.heap.size + 2) hwz)
        have ok := HX4.out.k0
        have kk := HX4.out.k1
        have bb := HX4.out.blk
        unfold msL_ segM at ok
        unfold outL_ outZ at kk
        unfold srvL at bb
        have zo := ok.lt
        have zk := kk.lt
        have zb := bb.lt
        obtain ⟨ok_c0, ok_c1, ok_c2, ok_c3, ok_c4, ok_c5, ok_c6, ok_c7, ok_c8, ok_c9, ok_c10, ok_c11, ok_c12, ok_c13⟩ := cel14 ok
        have ok_f := ok.frozen
        obtain ⟨kk_c0, kk_c1, kk_c2, kk_c3, kk_c4⟩ := cel5 kk
        have kk_f := kk.frozen
        obtain ⟨bb_c0, bb_c1, bb_c2, bb_c3, bb_c4, bb_c5, bb_c6, bb_c7⟩ := cel8 bb
        have bb_f := bb.frozen
        obtain ⟨nr, hnr⟩ : ∃ nr, nr = n1 - n1 := ⟨_, rfl⟩
        have hcutl : ∀ W, (Instr.slice 39 (.slice A n1 c1) (some (.int .i64 (n1 : Int))) none none).run Tryz.prog W = .ok (.slice (cutA A c1 n1 1) nr (c1 - n1)) W := fun W => by have := cut_b A n1 c1 n1 (n1 : Int) .i64 rfl (by omega) hc1 W; rw [← hnr] at this; exact this
        have X9 : PX w p 52 (srvL { R with st := 0, tg := !R.tg, b := R.b.drop n1 } pd (cutA A c1 n1 1) nr (c1 - n1)) [⟨w.heap.size + 1, 90, outL_ none 0 0 outZ none 0 0⟩] _ := (((HX4.out.sub (ks' := [⟨w.heap.size + 1, 90, outL_ none 0 0 outZ none 0 0⟩]) (by simp)).set 6 (.slice (cutA A c1 n1 1) nr (c1 - n1))).set 7 (.bool !R.tg)).set 1 (.int .i64 0)
        have O9 := ownB_only HO5.out (Only.set (fun q => q = p) (Only.set (fun q => q = p) (Only.set (fun q => q = p) (Only.refl _ wc) (i := 6) rfl (.slice (cutA A c1 n1 1) nr (c1 - n1))) (i := 7) rfl (.bool !R.tg)) (i := 1) rfl (.int .i64 0)) (fun g h1 _ (e : g = p) => by omega)
        have HR : Hid ((nextS R M).st = 0 ∧ P = ROutR w G p pd (nextS R M) (outM (segM M.tg true (R.b.take n1)))) := hide (by
          refine ⟨by unfold nextS; rw [if_neg (by rw [HTG.out]; simp), if_pos (by rw [← HN1.out]; exact hle)], ?_⟩
          rw [HP.out]
          congr 1
          unfold nextO
          rw [if_neg (by rw [HTG.out]; simp), show decide (R.b.length ≤ 7) = true by rw [← HN1.out]; simp [hle], List.take_of_length_le (by rw [← HN1.out]; exact hle), List.take_of_length_le (by rw [← HN1.out]; exact Nat.le_refl _)])
        have HX9 := hide (And.intro X9 O9)
        clear X9 O9 hnr hcut hO5 hKb
        go_wp2_with fail
        obtain ⟨F1, F2⟩ := rfin_send (G := G) (S' := nextS R M) (M := (segM M.tg true (R.b.take n1))) (N := wc.heap.size) HX9.out.1 (by simp [World.setCell]) hz HX9.out.2 (Ali.idle HR.out.1 rfl) (fun h => absurd h (show ¬ ((0 : Int) = 1 ∨ (0 : Int) = 2) by decide))
        rw [← HR.out.2] at F2
        unfold putO outZ msV segM at F1 F2
        dsimp only at F1 F2
        exact rret_out (O := outZ) rfl rfl rfl F1 F2
    · skip
      go_upto_region 6 with fail
      have hgt : (7 : Int) < (n1 : Int) := by omega
      clear bb_c0 bb_c1 bb_c2 bb_c3 bb_c4 bb_c5 bb_c6 bb_c7 bb_f
      clear bb b7 b3
      refine wp_gen (P := fun W' => PX w p 52 (srvL R pd A n1 c1) [⟨w.heap.size + 1, 90, outL_ none 0 0 outZ none 0 0⟩, ⟨w.heap.size, 48, msL_ M A3 m3 c3⟩] W' ∧ w.heap.size + 2 ≤ W'.heap.size) (by first | exact ⟨HX.out.drew, hwz⟩ | exact ⟨HX.out, hwz⟩) (fun W1 hW1 => ?_)
      clear HX hwz zW zk1
      obtain ⟨hX, hwz⟩ := hW1
      have HX := hide hX
      have HS1 := hide (HSL.out W1 hX.only)
      have y6 : W1.cell? ⟨p, 6, none⟩ = some (.slice A n1 c1) := hX.blk.cell 6 rfl
      have y3 : W1.cell? ⟨w.heap.size, 3, none⟩ = some (.bool M.tg) := hX.k1.cell 3 rfl
      have zp1 := hX.lt
      have zk1 : w.heap.size < W1.heap.size := by omega
      have hcut := fun W => cuth_b A n1 c1 7 ((7 : Int)) .i64 rfl (by omega) W
      have h7 : ((7 : Int) == (n1 : Int)) = false := by simp; omega
      clear hX
      go_cut [6] (fun s wx => OkC W1 (segM M.tg false (R.b.take 7)) 7 (R.b.take 7) s wx)
      case first =>
        refine wp_region_held_drew (S := (fun w' => (∀ qA : Addr, qA.block < (W1).heap.size → w'.cell? qA = (W1).cell? qA) ∧ Below (W1).heap.size (W1) w')) (by kernel_rfl) ?hS279 (fun hHeld => ?rest279)
        case hS279 => ((try dsimp only); (((try go_split_ands); refine sn_of ?_; repeat' (first | with_reducible assumption | with_reducible exact Below.refl _ _ | with_reducible apply below_alloc | with_reducible apply below_drew1 | with_reducible apply below_drewN | (with_reducible apply below_step; with_reducible assumption) | (with_reducible apply below_sg2; (first | exact Nat.le_refl _ | (simp; done) | omega))))))
        case' rest279 => skip
        refine wpAnyH_take (i := 0) (oi := _) (v := ?v280) rfl (by kernel_rfl) (by kernel_rfl) (by kernel_rfl) (fun _ _ _ h => h) (Or.inl ⟨by rfl, ?hy280⟩) (by assumption) ?rest280
        case hy280 => ((intro w hSw; (try dsimp only at hSw); go_simp) <;> with_reducible rfl)
        case' rest280 => try simp only [List.getElem_toArray, List.getElem_cons_zero, List.getElem_cons_succ, Act.put, List.setIfInBounds_toArray, List.set_cons_zero, List.set_cons_succ]
        refine wpAnyH_take (i := 1) (oi := _) (v := ?v281) rfl (by kernel_rfl) (by kernel_rfl) (by kernel_rfl) (fun _ _ _ h => h) (Or.inl ⟨by rfl, ?hy281⟩) (by assumption) ?rest281
        case hy281 => ((intro w hSw; (try dsimp only at hSw); go_simp) <;> with_reducible rfl)
        case' rest281 => try simp only [List.getElem_toArray, List.getElem_cons_zero, List.getElem_cons_succ, Act.put, List.setIfInBounds_toArray, List.set_cons_zero, List.set_cons_succ]
        refine wpAnyH_take (i := 2) (oi := _) (v := ?v282) rfl (by kernel_rfl) (by kernel_rfl) (by kernel_rfl) (fun _ _ _ h => h) (Or.inl ⟨by rfl, ?hy282⟩) (by assumption) ?rest282
        case hy282 => ((intro w hSw; (try dsimp only at hSw); go_simp) <;> with_reducible rfl)
        case' rest282 => try simp only [List.getElem_toArray, List.getElem_cons_zero, List.getElem_cons_succ, Act.put, List.setIfInBounds_toArray, List.set_cons_zero, List.set_cons_succ]
        refine wpAnyH_take (i := 3) (oi := _) (v := ?v283) rfl (by kernel_rfl) (by kernel_rfl) (by kernel_rfl) (fun _ _ _ h => h) (Or.inl ⟨by rfl, ?hy283⟩) (by assumption) ?rest283
        case hy283 => ((intro w hSw; (try dsimp only at hSw); go_simp) <;> with_reducible rfl)
        case' rest283 => try simp only [List.getElem_toArray, List.getElem_cons_zero, List.getElem_cons_succ, Act.put, List.setIfInBounds_toArray, List.set_cons_zero, List.set_cons_succ]
        refine wpAnyH_take (i := 4) (oi := _) (v := ?v284) rfl (by kernel_rfl) (by kernel_rfl) (by kernel_rfl) (fun _ _ _ h => h) (Or.inl ⟨by rfl, ?hy284⟩) (by assumption) ?rest284
        case hy284 => ((intro w hSw; (try dsimp only at hSw); go_simp) <;> with_reducible rfl)
        case' rest284 => try simp only [List.getElem_toArray, List.getElem_cons_zero, List.getElem_cons_succ, Act.put, List.setIfInBounds_toArray, List.set_cons_zero, List.set_cons_succ]
        refine wpAnyH_take (i := 5) (oi := _) (v := ?v285) rfl (by kernel_rfl) (by kernel_rfl) (by kernel_rfl) (fun _ _ _ h => h) (Or.inl ⟨by rfl, ?hy285⟩) (by assumption) ?rest285
        case hy285 => ((intro w hSw; (try dsimp only at hSw); go_simp) <;> with_reducible rfl)
        case' rest285 => try simp only [List.getElem_toArray, List.getElem_cons_zero, List.getElem_cons_succ, Act.put, List.setIfInBounds_toArray, List.set_cons_zero, List.set_cons_succ]
        refine wpAnyH_take (i := 6) (oi := _) (v := ?v286) rfl (by kernel_rfl) (by kernel_rfl) (by kernel_rfl) (fun _ _ _ h => h) (Or.inl ⟨by rfl, ?hy286⟩) (by assumption) ?rest286
        case hy286 => ((intro w hSw; (try dsimp only at hSw); go_simp) <;> with_reducible rfl)
        case' rest286 => try simp only [List.getElem_toArray, List.getElem_cons_zero, List.getElem_cons_succ, Act.put, List.setIfInBounds_toArray, List.set_cons_zero, List.set_cons_succ]
        refine wpAnyH_take (i := 7) (oi := _) (v := ?v287) rfl (by kernel_rfl) (by kernel_rfl) (by kernel_rfl) (fun _ _ _ h => h) (Or.inl ⟨by rfl, ?hy287⟩) (by assumption) ?rest287
        case hy287 => ((intro w hSw; (try dsimp only at hSw); go_simp) <;> with_reducible rfl)
        case' rest287 => try simp only [List.getElem_toArray, List.getElem_cons_zero, List.getElem_cons_succ, Act.put, List.setIfInBounds_toArray, List.set_cons_zero, List.set_cons_succ]
        refine wpAnyH_take (i := 8) (oi := _) (v := ?v288) rfl (by kernel_rfl) (by kernel_rfl) (by kernel_rfl) (fun _ _ _ h => h) (Or.inl ⟨by rfl, ?hy288⟩) (by assumption) ?rest288
        case hy288 => ((intro w hSw; (try dsimp only at hSw); go_simp) <;> with_reducible rfl)
        case' rest288 => try simp only [List.getElem_toArray, List.getElem_cons_zero, List.getElem_cons_succ, Act.put, List.setIfInBounds_toArray, List.set_cons_zero, List.set_cons_succ]
        refine wpAnyH_take (i := 9) (oi := _) (v := ?v289) rfl (by kernel_rfl) (by kernel_rfl) (by kernel_rfl) (fun _ _ _ h => h) (Or.inl ⟨by rfl, ?hy289⟩) (by assumption) ?rest289
        case hy289 => ((intro w hSw; (try dsimp only at hSw); go_simp) <;> with_reducible rfl)
        case' rest289 => try simp only [List.getElem_toArray, List.getElem_cons_zero, List.getElem_cons_succ, Act.put, List.setIfInBounds_toArray, List.set_cons_zero, List.set_cons_succ]
        refine wpAnyH_take (i := 10) (oi := _) (v := ?v290) rfl (by kernel_rfl) (by kernel_rfl) (by kernel_rfl) (fun _ _ _ h => h) (Or.inl ⟨by rfl, ?hy290⟩) (by assumption) ?rest290
        case hy290 => ((intro w hSw; (try dsimp only at hSw); go_simp) <;> with_reducible rfl)
        case' rest290 => try simp only [List.getElem_toArray, List.getElem_cons_zero, List.getElem_cons_succ, Act.put, List.setIfInBounds_toArray, List.set_cons_zero, List.set_cons_succ]
        refine wpAnyH_take (i := 11) (oi := _) (v := ?v291) rfl (by kernel_rfl) (by kernel_rfl) (by kernel_rfl) (fun _ _ _ h => h) (Or.inl ⟨by rfl, ?hy291⟩) (by assumption) ?rest291
        case hy291 => ((intro w hSw; (try dsimp only at hSw); go_simp) <;> with_reducible rfl)
        case' rest291 => try simp only [List.getElem_toArray, List.getElem_cons_zero, List.getElem_cons_succ, Act.put, List.setIfInBounds_toArray, List.set_cons_zero, List.set_cons_succ]
        refine wpAnyH_take (i := 12) (oi := _) (v := ?v292) rfl (by kernel_rfl) (by kernel_rfl) (by kernel_rfl) (fun _ _ _ h => h) (Or.inl ⟨by rfl, ?hy292⟩) (by assumption) ?rest292
        case hy292 => ((intro w hSw; (try dsimp only at hSw); go_simp) <;> with_reducible rfl)
        case' rest292 => try simp only [List.getElem_toArray, List.getElem_cons_zero, List.getElem_cons_succ, Act.put, List.setIfInBounds_toArray, List.set_cons_zero, List.set_cons_succ]
        refine wpAnyH_take (i := 13) (oi := _) (v := ?v293) rfl (by kernel_rfl) (by kernel_rfl) (by kernel_rfl) (fun _ _ _ h => h) (Or.inl ⟨by rfl, ?hy293⟩) (by assumption) ?rest293
        case hy293 => ((intro w hSw; (try dsimp only at hSw); go_simp) <;> with_reducible rfl)
        case' rest293 => try simp only [List.getElem_toArray, List.getElem_cons_zero, List.getElem_cons_succ, Act.put, List.setIfInBounds_toArray, List.set_cons_zero, List.set_cons_succ]
        refine wpAnyH_take (i := 14) (oi := _) (v := ?v294) rfl (by kernel_rfl) (by kernel_rfl) (by kernel_rfl) (fun _ _ _ h => h) (Or.inl ⟨by rfl, ?hy294⟩) (by assumption) ?rest294
        case hy294 => ((intro w hSw; (try dsimp only at hSw); go_simp) <;> with_reducible rfl)
        case' rest294 => try simp only [List.getElem_toArray, List.getElem_cons_zero, List.getElem_cons_succ, Act.put, List.setIfInBounds_toArray, List.set_cons_zero, List.set_cons_succ]
        refine wpAnyH_ready (rs := [15, 17]) (by kernel_rfl) (by simp) (AllReadyH.cons (o := _) rfl (fun K hK => ?_) (AllReadyH.cons (o := _) rfl (fun K hK => ?_) AllReadyH.nil))
        · go_simp
          refine (join_nil A 7 c1 (R.b.take 7) _ (by simp; have := HN1.out; omega) (by omega) (by rw [List.map_take]; exact (HS1.out.take _).below (Below.drew (Below.refl _ _)))).mono ?_
          rintro e w3 ⟨A5, c5, rfl, hO5, hb5⟩
          dsimp only
          replace hb5 := below_undrew hb5
          have HO5 := hide (hO5.mono (B' := W1.heap.size) (Nat.le_refl _))
          clear hO5
          refine hK.out _ _ ?hS296 (fun hHeld => ?rest296)
          case hS296 => ((try dsimp only); (((try go_split_ands); refine sn_of ?_; repeat' (first | with_reducible assumption | with_reducible exact Below.refl _ _ | with_reducible apply below_alloc | with_reducible apply below_drew1 | with_reducible apply below_drewN | (with_reducible apply below_step; with_reducible assumption) | (with_reducible apply below_sg2; (first | exact Nat.le_refl _ | (simp; done) | omega))))))
          case' rest296 => (clear hK K; try simp only [List.getElem_toArray, List.getElem_cons_zero, List.getElem_cons_succ, Act.put, List.setIfInBounds_toArray, List.set_cons_zero, List.set_cons_succ])
          refine wpAnyH_take (i := 16) (oi := _) (v := ?v297) rfl (by kernel_rfl) (by kernel_rfl) (by kernel_rfl) (fun _ _ _ h => h) (Or.inl ⟨by rfl, ?hy297⟩) (by assumption) ?rest297
          case hy297 => ((intro w hSw; (try dsimp only at hSw); go_simp) <;> with_reducible rfl)
          case' rest297 => try simp only [List.getElem_toArray, List.getElem_cons_zero, List.getElem_cons_succ, Act.put, List.setIfInBounds_toArray, List.set_cons_zero, List.set_cons_succ]
          refine wpAnyH_ready (rs := [17]) (by kernel_rfl) (by simp) ?_
          refine AllReadyH.cons (o := _) rfl (fun K hK => ?_) AllReadyH.nil
          go_simp
          refine hK.out _ _ ?hS300 (fun hHeld => ?rest300)
          case hS300 => ((try dsimp only); (((try go_split_ands); refine sn_of ?_; repeat' (first | with_reducible assumption | with_reducible exact Below.refl _ _ | with_reducible apply below_alloc | with_reducible apply below_drew1 | with_reducible apply below_drewN | (with_reducible apply below_step; with_reducible assumption) | (with_reducible apply below_sg2; (first | exact Nat.le_refl _ | (simp; done) | omega))))))
          case' rest300 => (clear hK K; try simp only [List.getElem_toArray, List.getElem_cons_zero, List.getElem_cons_succ, Act.put, List.setIfInBounds_toArray, List.set_cons_zero, List.set_cons_succ])
          refine wpAnyH_ready (rs := [18]) (by kernel_rfl) (by simp) ?_
          refine AllReadyH.cons (o := _) rfl (fun K hK => ?_) AllReadyH.nil
          go_simp
          refine hK.out _ _ ?hS303 (fun hHeld => ?rest303)
          case hS303 => ((try dsimp only); (((try go_split_ands); refine sn_of ?_; repeat' (first | with_reducible assumption | with_reducible exact Below.refl _ _ | with_reducible apply below_alloc | with_reducible apply below_drew1 | with_reducible apply below_drewN | (with_reducible apply below_step; with_reducible assumption) | (with_reducible apply below_sg2; (first | exact Nat.le_refl _ | (simp; done) | omega))))))
          case' rest303 => (clear hK K; try simp only [List.getElem_toArray, List.getElem_cons_zero, List.getElem_cons_succ, Act.put, List.setIfInBounds_toArray, List.set_cons_zero, List.set_cons_succ])
          refine wpAnyH_done (by kernel_rfl) ?_ _
          have hEnd := hHeld.2
          repeat (clear hHeld)
          go_wp2_with fail
          go_meet
          exact okc_mk (M := (segM M.tg false (R.b.take 7))) hb5 HO5.out
        · go_simp
          refine hK.out _ _ ?hS305 (fun hHeld => ?rest305)
          case hS305 => ((try dsimp only); (((try go_split_ands); refine sn_of ?_; repeat' (first | with_reducible assumption | with_reducible exact Below.refl _ _ | with_reducible apply below_alloc | with_reducible apply below_drew1 | with_reducible apply below_drewN | (with_reducible apply below_step; with_reducible assumption) | (with_reducible apply below_sg2; (first | exact Nat.le_refl _ | (simp; done) | omega))))))
          case' rest305 => (clear hK K; try simp only [List.getElem_toArray, List.getElem_cons_zero, List.getElem_cons_succ, Act.put, List.setIfInBounds_toArray, List.set_cons_zero, List.set_cons_succ])
          refine wpAnyH_ready (rs := [15]) (by kernel_rfl) (by simp) ?_
          refine AllReadyH.cons (o := _) rfl (fun K hK => ?_) AllReadyH.nil
          go_simp
          refine (join_nil A 7 c1 (R.b.take 7) _ (by simp; have := HN1.out; omega) (by omega) (by rw [List.map_take]; exact (HS1.out.take _).below (by repeat' (first | with_reducible assumption | with_reducible exact Below.refl _ _ | with_reducible apply below_alloc | with_reducible apply below_drew1 | with_reducible apply below_drewN | (with_reducible apply below_step; with_reducible assumption) | (with_reducible apply below_sg2; (first | exact Nat.le_refl _ | (simp; done) | omega)))))).mono ?_
          rintro e w3 ⟨A5, c5, rfl, hO5, hb4⟩
          dsimp only
          have hb5 : Below W1.heap.size W1 w3 := below_zd (z := .cells (msV msZ none 0 0) 48) (by simpa [msV, msZ] using hb4)
          have hZ3 : Blk w3 W1.heap.size 48 (msV msZ none 0 0) := blk_zd (by simpa [msV, msZ] using hb4)
          have HZ3 := hide hZ3
          have HO5 : Hid (OwnB w3 (W1.heap.size + 1) A5 7 c5 (R.b.take 7)) := hide (hO5.mono (by simp))
          unfold msV msZ at hZ3
          obtain ⟨hZ3_c0, hZ3_c1, hZ3_c2, hZ3_c3, hZ3_c4, hZ3_c5, hZ3_c6, hZ3_c7, hZ3_c8, hZ3_c9, hZ3_c10, hZ3_c11, hZ3_c12, hZ3_c13⟩ := cel14 hZ3
          have hZ3_f := hZ3.frozen
          clear hO5 hb4
          refine hK.out _ _ ?hS308 (fun hHeld => ?rest308)
          case hS308 => ((try dsimp only); (((try go_split_ands); refine sn_of ?_; repeat' (first | with_reducible assumption | with_reducible exact Below.refl _ _ | with_reducible apply below_alloc | with_reducible apply below_drew1 | with_reducible apply below_drewN | (with_reducible apply below_step; with_reducible assumption) | (with_reducible apply below_sg2; (first | exact Nat.le_refl _ | (simp; done) | omega))))))
          case' rest308 => (clear hK K; try simp only [List.getElem_toArray, List.getElem_cons_zero, List.getElem_cons_succ, Act.put, List.setIfInBounds_toArray, List.set_cons_zero, List.set_cons_succ])
          refine wpAnyH_take (i := 16) (oi := _) (v := ?v309) rfl (by kernel_rfl) (by kernel_rfl) (by kernel_rfl) (fun _ _ _ h => h) (Or.inl ⟨by rfl, ?hy309⟩) (by assumption) ?rest309
          case hy309 => ((intro w hSw; (try dsimp only at hSw); go_simp) <;> with_reducible rfl)
          case' rest309 => try simp only [List.getElem_toArray, List.getElem_cons_zero, List.getElem_cons_succ, Act.put, List.setIfInBounds_toArray, List.set_cons_zero, List.set_cons_succ]
          refine wpAnyH_ready (rs := [18]) (by kernel_rfl) (by simp) ?_
          refine AllReadyH.cons (o := _) rfl (fun K hK => ?_) AllReadyH.nil
          go_simp
          refine hK.out _ _ ?hS312 (fun hHeld => ?rest312)
          case hS312 => ((try dsimp only); (((try go_split_ands); refine sn_of ?_; repeat' (first | with_reducible assumption | with_reducible exact Below.refl _ _ | with_reducible apply below_alloc | with_reducible apply below_drew1 | with_reducible apply below_drewN | (with_reducible apply below_step; with_reducible assumption) | (with_reducible apply below_sg2; (first | exact Nat.le_refl _ | (simp; done) | omega))))))
          case' rest312 => (clear hK K; try simp only [List.getElem_toArray, List.getElem_cons_zero, List.getElem_cons_succ, Act.put, List.setIfInBounds_toArray, List.set_cons_zero, List.set_cons_succ])
          refine wpAnyH_done (by kernel_rfl) ?_ _
          have hEnd := hHeld.2
          repeat (clear hHeld)
          go_wp2_with fail
          go_meet
          have F := okc_mk2 (M := (segM M.tg false (R.b.take 7))) hb5 HZ3.out HO5.out
          simp only [World.setCells, msL_, segM, Nat.reduceAdd] at F
          exact F
      case rest =>
        obtain ⟨gk, A5, c5, rfl, hgk, hb5, hKb, hO5⟩ := hcut
        have hgp : gk ≠ p := by omega
        have hgw : w.heap.size + 2 ≤ gk := by omega
        have HX4 := hide ((HX.out.step hb5).add gk 48 (msL_ (segM M.tg false (R.b.take 7)) A5 7 c5) hgp hKb)
        have HS4 := hide (HSL.out _ HX4.out.only)
        have HO5 := hide (hO5.mono (B' := w.heap.size + 2) hwz)
        have ok := HX4.out.k0
        have kk := HX4.out.k1
        have bb := HX4.out.blk
        unfold msL_ segM at ok
        unfold outL_ outZ at kk
        unfold srvL at bb
        have zo := ok.lt
        have zk := kk.lt
        have zb := bb.lt
        obtain ⟨ok_c0, ok_c1, ok_c2, ok_c3, ok_c4, ok_c5, ok_c6, ok_c7, ok_c8, ok_c9, ok_c10, ok_c11, ok_c12, ok_c13⟩ := cel14 ok
        have ok_f := ok.frozen
        obtain ⟨kk_c0, kk_c1, kk_c2, kk_c3, kk_c4⟩ := cel5 kk
        have kk_f := kk.frozen
        obtain ⟨bb_c0, bb_c1, bb_c2, bb_c3, bb_c4, bb_c5, bb_c6, bb_c7⟩ := cel8 bb
        have bb_f := bb.frozen
        obtain ⟨nr, hnr⟩ : ∃ nr, nr = n1 - 7 := ⟨_, rfl⟩
        have hcutl : ∀ W, (Instr.slice 39 (.slice A n1 c1) (some (.int .i64 (7 : Int))) none none).run Tryz.prog W = .ok (.slice (cutA A c1 7 1) nr (c1 - 7)) W := fun W => by have := cut_b A n1 c1 7 (7 : Int) .i64 rfl (by omega) hc1 W; rw [← hnr] at this; exact this
        have X9 : PX w p 52 (srvL { R with tg := !R.tg, b := R.b.drop 7 } pd (cutA A c1 7 1) nr (c1 - 7)) [⟨w.heap.size + 1, 90, outL_ none 0 0 outZ none 0 0⟩] _ := ((HX4.out.sub (ks' := [⟨w.heap.size + 1, 90, outL_ none 0 0 outZ none 0 0⟩]) (by simp)).set 6 (.slice (cutA A c1 7 1) nr (c1 - 7))).set 7 (.bool !R.tg)
        have o9 := Only.set (fun q => q = p) (Only.set (fun q => q = p) (Only.refl _ wc) (i := 6) rfl (.slice (cutA A c1 7 1) nr (c1 - 7))) (i := 7) rfl (.bool !R.tg)
        have O9 := ownB_only HO5.out o9 (fun g h1 _ (e : g = p) => by omega)
        have Y9 : nr = (R.b.drop 7).length ∧ nr ≤ c1 - 7 ∧ Sl ((wc.setCell ⟨p, 6, none⟩ (.slice (cutA A c1 7 1) nr (c1 - 7))).setCell ⟨p, 7, none⟩ (.bool !R.tg)) (cutA A c1 7 1) ((R.b.drop 7).map bv) ∧ (cutA A c1 7 1 = none → nr = 0) ∧ ∀ ad, cutA A c1 7 1 = some ad → (G ad.block ∨ w.heap.size ≤ ad.block) ∧ ad.block < ((wc.setCell ⟨p, 6, none⟩ (.slice (cutA A c1 7 1) nr (c1 - 7))).setCell ⟨p, 7, none⟩ (.bool !R.tg)).heap.size ∧ ad.block ≠ p ∧ ad.block ≠ w.heap.size + 1 := by
          refine ⟨by rw [hnr, HN1.out, List.length_drop], by omega, ?_, ?_, ?_⟩
          · rw [List.map_drop]
            have h1 := HSL.out _ X9.only
            exact h1.cut1 (by have := HN1.out; simp; omega)
          · intro h
            unfold cutA at h
            split at h
            · have := HAN.out h; omega
            · cases hA : A with
              | none => have := HAN.out hA; omega
              | some a0 => rw [hA] at h; simp at h
          · intro ad h
            obtain ⟨a0, h0, h1⟩ := cutA_block h
            obtain ⟨g1, g2, g3⟩ := HAG.out a0 h0
            rw [← h1] at g1 g2 g3
            have := X9.only.size
            exact ⟨.inl g1, by omega, g3, by omega⟩
        have HNS : Hid (nextS R M = { R with tg := !R.tg, b := R.b.drop 7 }) := hide (by unfold nextS; rw [if_neg (by rw [HTG.out]; simp), if_neg (by rw [← HN1.out]; exact hle)])
        have HR : Hid (P = ROutR w G p pd (nextS R M) (outM (segM M.tg false (R.b.take 7)))) := hide (by
          rw [HP.out]
          congr 1
          unfold nextO
          rw [if_neg (by rw [HTG.out]; simp), show decide (R.b.length ≤ 7) = false by rw [← HN1.out]; simp; omega])
        have HX9 := hide (And.intro X9 (And.intro O9 Y9))
        clear X9 O9 Y9 o9 hnr hcut hO5 hKb
        go_wp2_with fail
        obtain ⟨F1, F2⟩ := rfin_send (G := G) (S' := nextS R M) (M := (segM M.tg false (R.b.take 7))) (N := wc.heap.size) HX9.out.1 (by simp [World.setCell]) hz HX9.out.2.1 (by rw [HNS.out]; exact Ali.refl2 H2.out) (fun _ => HX9.out.2.2)
        rw [← HR.out] at F2
        unfold putO outZ msV segM at F1 F2
        dsimp only at F1 F2
        exact rret_out (O := outZ) rfl rfl rfl F1 F2
  · have hself : (M.tg == R.tg) = false := by simp [htg]
    have HR : Hid ((nextS R M).st = 0 ∧ P = ROutR w G p pd (nextS R M) (outM (abM R.ix R.sub 84082688))) := hide (by
      refine ⟨by unfold nextS; rw [if_pos htg], ?_⟩
      rw [HP.out]
      congr 1
      unfold nextO abortL
      rw [if_pos htg, if_neg (by rw [H2.out]; decide)]
      rfl)
    clear htg
    refine wp_region_held_drew (S := (fun w' => (∀ qA : Addr, qA.block < (W).heap.size → w'.cell? qA = (W).cell? qA) ∧ Below (W).heap.size (W) w')) (by kernel_rfl) ?hS314 (fun hHeld => ?rest314)
    case hS314 => ((try dsimp only); (((try go_split_ands); refine sn_of ?_; repeat' (first | with_reducible assumption | with_reducible exact Below.refl _ _ | with_reducible apply below_alloc | with_reducible apply below_drew1 | with_reducible apply below_drewN | (with_reducible apply below_step; with_reducible assumption) | (with_reducible apply below_sg2; (first | exact Nat.le_refl _ | (simp; done) | omega))))))
    case' rest314 => skip
    refine wpAnyH_take (i := 0) (oi := _) (v := ?v315) rfl (by kernel_rfl) (by kernel_rfl) (by kernel_rfl) (fun _ _ _ h => h) (Or.inl ⟨by rfl, ?hy315⟩) (by assumption) ?rest315
    case hy315 => ((intro w hSw; (try dsimp only at hSw); go_simp) <;> with_reducible rfl)
    case' rest315 => try simp only [List.getElem_toArray, List.getElem_cons_zero, List.getElem_cons_succ, Act.put, List.setIfInBounds_toArray, List.set_cons_zero, List.set_cons_succ]
    refine wpAnyH_take (i := 1) (oi := _) (v := ?v316) rfl (by kernel_rfl) (by kernel_rfl) (by kernel_rfl) (fun _ _ _ h => h) (Or.inl ⟨by rfl, ?hy316⟩) (by assumption) ?rest316
    case hy316 => ((intro w hSw; (try dsimp only at hSw); go_simp) <;> with_reducible rfl)
    case' rest316 => try simp only [List.getElem_toArray, List.getElem_cons_zero, List.getElem_cons_succ, Act.put, List.setIfInBounds_toArray, List.set_cons_zero, List.set_cons_succ]
    refine wpAnyH_take (i := 2) (oi := _) (v := ?v317) rfl (by kernel_rfl) (by kernel_rfl) (by kernel_rfl) (fun _ _ _ h => h) (Or.inl ⟨by rfl, ?hy317⟩) (by assumption) ?rest317
    case hy317 => ((intro w hSw; (try dsimp only at hSw); go_simp) <;> with_reducible rfl)
    case' rest317 => try simp only [List.getElem_toArray, List.getElem_cons_zero, List.getElem_cons_succ, Act.put, List.setIfInBounds_toArray, List.set_cons_zero, List.set_cons_succ]
    refine wpAnyH_take (i := 3) (oi := _) (v := ?v318) rfl (by kernel_rfl) (by kernel_rfl) (by kernel_rfl) (fun _ _ _ h => h) (Or.inl ⟨by rfl, ?hy318⟩) (by assumption) ?rest318
    case hy318 => ((intro w hSw; (try dsimp only at hSw); go_simp) <;> with_reducible rfl)
    case' rest318 => try simp only [List.getElem_toArray, List.getElem_cons_zero, List.getElem_cons_succ, Act.put, List.setIfInBounds_toArray, List.set_cons_zero, List.set_cons_succ]
    refine wpAnyH_take (i := 4) (oi := _) (v := ?v319) rfl (by kernel_rfl) (by kernel_rfl) (by kernel_rfl) (fun _ _ _ h => h) (Or.inl ⟨by rfl, ?hy319⟩) (by assumption) ?rest319
    case hy319 => ((intro w hSw; (try dsimp only at hSw); go_simp) <;> with_reducible rfl)
    case' rest319 => try simp only [List.getElem_toArray, List.getElem_cons_zero, List.getElem_cons_succ, Act.put, List.setIfInBounds_toArray, List.set_cons_zero, List.set_cons_succ]
    refine wpAnyH_take (i := 5) (oi := _) (v := ?v320) rfl (by kernel_rfl) (by kernel_rfl) (by kernel_rfl) (fun _ _ _ h => h) (Or.inl ⟨by rfl, ?hy320⟩) (by assumption) ?rest320
    case hy320 => ((intro w hSw; (try dsimp only at hSw); go_simp) <;> with_reducible rfl)
    case' rest320 => try simp only [List.getElem_toArray, List.getElem_cons_zero, List.getElem_cons_succ, Act.put, List.setIfInBounds_toArray, List.set_cons_zero, List.set_cons_succ]
    refine wpAnyH_take (i := 6) (oi := _) (v := ?v321) rfl (by kernel_rfl) (by kernel_rfl) (by kernel_rfl) (fun _ _ _ h => h) (Or.inl ⟨by rfl, ?hy321⟩) (by assumption) ?rest321
    case hy321 => ((intro w hSw; (try dsimp only at hSw); go_simp) <;> with_reducible rfl)
    case' rest321 => try simp only [List.getElem_toArray, List.getElem_cons_zero, List.getElem_cons_succ, Act.put, List.setIfInBounds_toArray, List.set_cons_zero, List.set_cons_succ]
    refine wpAnyH_done (by kernel_rfl) ?_ _
    have hEnd := hHeld.2
    repeat (clear hHeld)
    have HX2 := hide HX.out.drew
    go_wp2_with fail
    refine (rsg_abort p pd R 84082688 A n1 c1 _ HX2.out.blk).mono ?_
    rintro e w8 ⟨_, h5⟩
    obtain ⟨g8, hg8, rfl, hM8, hB8, ho8⟩ := h5 (by show R.st ≠ 0; rw [H2.out]; decide)
    have HX8 : Hid (PX w p 52 (srvL (abortS R) pd A n1 c1) [⟨w.heap.size + 1, 90, outL_ none 0 0 outZ none 0 0⟩, ⟨w.heap.size, 48, msL_ M A3 m3 c3⟩] w8) := hide ((HX2.out.sub (by simp)).call ho8 hB8)
    have HM8 := hide hM8
    have zg8 : w.heap.size + 2 ≤ g8 := Nat.le_trans hwz hg8
    have k8 := HX8.out.k0
    unfold outL_ outZ at k8
    have zk8 := k8.lt
    clear b7
    obtain ⟨k8_c0, k8_c1, k8_c2, k8_c3, k8_c4⟩ := cel5 k8
    have k8_f := k8.frozen
    clear h5 hM8 hB8 ho8
    go_wp2_with fail
    obtain ⟨F1, F2⟩ := rfin (G := G) (S' := nextS R M) (O := outM (abM R.ix R.sub 84082688)) HX8.out hz (rmsR_one zg8 HM8.out (OwnB.nil _ _)) (OwnB.nil _ _) (Ali.idle HR.out.1 rfl) (fun h => absurd h (show ¬ ((0 : Int) = 1 ∨ (0 : Int) = 2) by decide))
    rw [← HR.out.2] at F2
    unfold putO outM at F1 F2
    dsimp only at F1 F2
    exact rret_out (O := outM (abM R.ix R.sub 84082688)) rfl rfl rfl F1 F2
end
end Go.Proofs.YtimdmhhgomfijaaGreat
