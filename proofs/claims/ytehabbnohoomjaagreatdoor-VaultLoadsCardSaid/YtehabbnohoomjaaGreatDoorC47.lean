/- The walk of VaultLoads. -/
import Derived.Test.YtehabbnohoomjaaGreatDoorC01
import Derived.Test.YtehabbnohoomjaaGreatDoorC44
import Derived.Test.YtehabbnohoomjaaGreatDoorC45
import Derived.Test.YtehabbnohoomjaaGreatDoorC46
import Derived.Deep.CutBlock
import Derived.Deep.DeepCutAuto
import Derived.BigQuiet
import Derived.Deep.QuietTactic
namespace Go.Proofs.YtehabbnohoomjaaGreatDoor
section
set_option linter.unusedVariables false
set_option linter.unusedSimpArgs false
set_option linter.unnecessarySimpa false
open Go.RowKit
set_option maxRecDepth 100000
set_option maxHeartbeats 8000000

theorem Beg.below {w w' : World} {lo m1 m2 pw pd gl n cl cv : Nat} {Av : Option Addr} {L : List Ent} {V : List (List UInt8)} {ds es : List (Option Addr × Nat)} {Fd : Nat → Prop} {q : FP} {S : FS} {pt pr : Nat} (h : Beg w lo m1 m2 pw pd gl n cl cv Av L V ds es Fd q S pt pr) (hb : Below w.heap.size w w') : Beg w' lo m1 m2 pw pd gl n cl cv Av L V ds es Fd q S pt pr := by
  have hz := hb.size
  refine ⟨h.blk.below hb h.blk.lt, h.db.below hb, h.hn, h.fd.below hb, fun g hg => ?_, fun g hg => ?_, h.lo_pw⟩
  · obtain ⟨h1, h2, h3, h4⟩ := h.inD g hg
    exact ⟨h1, by omega, h3, h4⟩
  · obtain ⟨h1, h2, h3⟩ := h.inQ g hg
    exact ⟨h1, by omega, h3⟩
theorem lightC_L {L : List Ent} {nf : Nat} {S : List SOp} (h : lightC L nf S = true) : lightL L = true ∧ ∀ k o, k < 30 → S[k]? = some o → o.b.length ≤ 1000 := by
  simp only [lightC, Bool.and_eq_true] at h
  refine ⟨h.1.1, fun k o hk ho => ?_⟩
  have h9 : (S.take 30)[k]? = some o := by rw [List.getElem?_take, if_pos hk]; exact ho
  have := List.all_eq_true.1 h.2 o (List.mem_of_getElem? h9)
  exact of_decide_eq_true this
theorem vaultLoads_walk (a : Nat → Addr) (M : Nat) (A : Option Addr) (n c : Nat) (L : List Ent) (Af : Option Addr) (nf cf : Nat) (mo : Int) (As : Option Addr) (ns cs : Nat) (S : List SOp) (A2 : Option Addr) (m c2 : Nat) (X : List SV) (w : World)
    (hn : n = L.length) (hL : SlE w A L) (hs : ns = S.length) (hS : SlS w As S) (hm : m = X.length) (hc2 : m ≤ c2) (hX : SlV w A2 X) (hG : GV w a M) (hM : M ≤ w.heap.size) :
    Calls Tryz.prog 3 #[.agg #[.slice A n c, .slice Af nf cf, .int .i64 mo, .slice As ns cs], .slice A2 m c2] w (TrueB w) := by
  have q0 := blk_one w 26 #[.slice A n c, .slice Af nf cf, .int .i64 mo, .slice As ns cs]
  have hb0 := below_alloc (Below.refl w.heap.size w) (.cells #[.slice A n c, .slice Af nf cf, .int .i64 mo, .slice As ns cs] 26)
  have HKN := hide (fun W (hb : Below w.heap.size w W) => known_19 a M W (hG.below hb) (Nat.le_trans hM hb.size))
  have HN := hide hn
  have HL := hide hL
  have HNS := hide hs
  have HS := hide hS
  have HMM := hide hm
  have HC2 := hide hc2
  have HX := hide hX
  have HG := hide hG
  have HM := hide hM
  have HB0 := hide hb0
  have HQ0 := hide q0
  have HLI := hide (vlight A n c L Af nf cf mo As ns cs S _ hn (hL.below hb0) hs (hS.below hb0))
  obtain ⟨q0_c0, q0_c1, q0_c2, q0_c3⟩ := cel4 q0
  have q0_f := q0.frozen
  clear q0 hb0 hn hL hs hS hm hX hG hM
  cases hli : lightC L nf S
  · rw [hli] at HLI
    clear hli
    go_enter Tryz.func3, Tryz.ntmps3
    go_wp2_with fail
    refine HLI.out.mono ?_
    rintro e w1 ⟨rfl, hb1⟩
    have HB1 := hide (below_step hb1 HB0.out)
    clear hb1
    go_wp2_with fail
    refine (HKN.out _ HB1.out).mono ?_
    rintro e w2 ⟨rfl, hb2⟩
    have HB2 := hide (below_step hb2 HB1.out)
    clear hb2
    go_wp2_with fail
    go_ret
    exact (⟨rfl, HB2.out⟩ : TrueB w _ _)
  rw [hli] at HLI
  have HLC := hide hli
  clear hli
  cases hlx : lightB X
  · have HLX := hide hlx
    clear hlx
    go_enter Tryz.func3, Tryz.ntmps3
    go_wp2_with fail
    refine HLI.out.mono ?_
    rintro e w1 ⟨rfl, hb1⟩
    have HB1 := hide (below_step hb1 HB0.out)
    clear hb1
    go_wp2_with fail
    refine (light_any A2 m c2 X _ HMM.out HC2.out (HX.out.below HB1.out)).mono ?_
    rintro e w2 ⟨rfl, rfl⟩
    rw [HLX.out]
    go_wp2_with fail
    refine (HKN.out _ HB1.out).mono ?_
    rintro e w2 ⟨rfl, hb2⟩
    have HB2 := hide (below_step hb2 HB1.out)
    clear hb2
    go_wp2_with fail
    go_ret
    exact (⟨rfl, HB2.out⟩ : TrueB w _ _)
  have HLX := hide hlx
  clear hlx
  go_enter Tryz.func3, Tryz.ntmps3
  go_wp2_with fail
  refine HLI.out.mono ?_
  rintro e w1 ⟨rfl, hb1⟩
  have HB1 := hide (below_step hb1 HB0.out)
  have HQ1 := hide (HQ0.out.below hb1 HQ0.out.lt)
  have q1 := HQ1.out
  clear q0_c0 q0_c1 q0_c2 q0_c3 q0_f
  obtain ⟨q1_c0, q1_c1, q1_c2, q1_c3⟩ := cel4 q1
  have q1_f := q1.frozen
  clear hb1 q1
  go_wp2_with fail
  refine (light_any A2 m c2 X _ HMM.out HC2.out (HX.out.below HB1.out)).mono ?_
  rintro e w2 ⟨rfl, rfl⟩
  rw [HLX.out]
  go_wp2_with fail
  have qb := blk_setL (l := [.slice A n c, .slice Af nf cf, .int .i64 mo, .slice As ns cs]) HQ1.out 1 (.slice none 0 0)
  have qc := blk_setL qb 2 (.int .i64 49)
  have hbB := below_set (below_set HB1.out (p := ⟨w.heap.size, 1, none⟩) (Nat.le_refl _) (.slice none 0 0)) (p := ⟨w.heap.size, 2, none⟩) (Nat.le_refl _) (.int .i64 49)
  obtain ⟨wB, hwB⟩ : ∃ W, W = (w1.setCell ⟨w.heap.size, 1, none⟩ (.slice none 0 0)).setCell ⟨w.heap.size, 2, none⟩ (.int .i64 49) := ⟨_, rfl⟩
  rw [← hwB] at qc hbB ⊢
  have HQB : Hid (Blk wB w.heap.size 26 #[.slice A n c, .slice none 0 0, .int .i64 49, .slice As ns cs]) := hide qc
  have HBB := hide hbB
  have HLB := hide (HL.out.below hbB)
  have HLL := hide (lightC_L HLC.out)
  clear qb qc hbB hwB
  clear q1_c0 q1_c1 q1_c2 q1_c3 q1_f
  refine (begin0 A n c L As ns cs wB HN.out HLB.out HLL.out.1).mono ?_
  rintro e w2 ⟨v, ok, rfl, hno, hok, hb2⟩
  have HB2 := hide (below_step hb2 HBB.out)
  have HBC := hide hb2
  cases ok
  · obtain rfl := hno rfl
    clear hno hok hb2
    go_wp2_with fail
    refine (HKN.out _ HB2.out).mono ?_
    rintro e w3 ⟨rfl, hb3⟩
    have HB3 := hide (below_step hb3 HB2.out)
    clear hb3
    go_wp2_with fail
    go_ret
    exact (⟨rfl, HB3.out⟩ : TrueB w _ _)
  obtain ⟨hSo, hR, hNP, pw, pd, gl, n', cl, cv, Av, ds, es, Fd, q, pt, pr, rfl, m1, m2, hBeg⟩ := hok rfl
  obtain rfl : n' = n := hBeg.hn.trans HN.out.symm
  have HSR := hide (And.intro hSo hR)
  have HBG := hide hBeg
  have HLO : Hid (M ≤ wB.heap.size) := hide (Nat.le_trans HM.out HBB.out.size)
  have h200 : n' ≤ 200 := by rw [HN.out]; exact light_len HLL.out.1
  have H200 := hide h200
  have hc0 := hBeg.blk.cell 0 (u := .pointer (some ⟨pd, 0, none⟩)) rfl
  have hc2 := hBeg.blk.cell 2 (u := .pointer (some ⟨q.p, 0, none⟩)) rfl
  clear hno hok hb2 hSo hR hNP hBeg h200
  go_wp2_with fail
  refine wp_region_held_drew (S := (fun w' => w'.cell? ⟨pw, 0, none⟩ = some (.pointer (some ⟨pd, 0, none⟩)) ∧ w'.cell? ⟨pw, 2, none⟩ = some (.pointer (some ⟨q.p, 0, none⟩)))) (by kernel_rfl) ?hS1 (fun hHeld => ?rest1)
  case hS1 => ((try dsimp only); (exact ⟨hc0, hc2⟩))
  case' rest1 => skip
  refine tkH 0 ?_
  try simp only [PqL, Act.put]
  refine tkH 1 ?_
  try simp only [PqL, Act.put]
  refine tkH 2 ?_
  try simp only [PqL, Act.put]
  refine tkH 3 ?_
  try simp only [PqL, Act.put]
  refine tkH 4 ?_
  try simp only [PqL, Act.put]
  refine tkH 5 ?_
  try simp only [PqL, Act.put]
  refine tkH 6 ?_
  try simp only [PqL, Act.put]
  refine tkH 7 ?_
  try simp only [PqL, Act.put]
  refine wpAnyH_ready (rs := [8]) (by kernel_rfl) (by simp) ?_
  refine AllReadyH.cons (o := _) rfl (fun K hK => ?_) AllReadyH.nil
  go_simp
  refine (sit_first _ (HBG.out.below (Below.drew (Below.refl _ _))) HLO.out HSR.out.1 (by have := H200.out; omega) rfl (by decide)).mono ?_
  rintro e w3 ⟨pv, rfl, hS3, hb3⟩
  rw [newF_recX] at hS3
  dsimp only at hS3 ⊢
  obtain ⟨F0, hF0⟩ : ∃ F, F = newF 3 50 := ⟨_, rfl⟩
  rw [← hF0] at hS3
  have HF0 := hide (show Fresh F0 0 ∧ F0.off = false ∧ F0.ahead < 0 ∧ F0.most = 50 ∧ F0.ops = 0 ∧ 3 ≤ F0.wear.length from by rw [hF0]; exact ⟨newF_fresh 3 50 (by decide) (by decide), rfl, by decide, rfl, rfl, by decide⟩)
  have HS3 := hide hS3
  have HBL := hide (HBC.out.trans (((Below.drew (Below.refl w2.heap.size w2)).trans hb3).mono HBC.out.size))
  clear hF0
  have HB3 := hide (below_step ((Below.drew (Below.refl _ _)).trans hb3) HB2.out)
  obtain ⟨pt', pr', k0, _, k2, _⟩ := hS3.cells
  refine hK.out _ _ ?hS12 (fun hHeld => ?rest12)
  case hS12 => ((try dsimp only); (exact ⟨k0, k2⟩))
  case' rest12 => (clear hK K; try simp only [PqL, Act.put])
  refine tkH 9 ?_
  try simp only [PqL, Act.put]
  refine tkH 10 ?_
  try simp only [PqL, Act.put]
  refine tkH 11 ?_
  try simp only [PqL, Act.put]
  refine tkH 12 ?_
  try simp only [PqL, Act.put]
  refine tkH 13 ?_
  try simp only [PqL, Act.put]
  refine wpAnyH_done (by kernel_rfl) ?_ _
  have hEnd := hHeld.2
  repeat (clear hHeld)
  clear hEnd hc0 hc2 hS3 hb3 k0 k2
  have HVP : Hid (ValsP L (L.map Ent.df)) := hide (vals_df HSR.out.2)
  have HLS := hide HL.out
  go_upto_block 0 with fail
  go_cut [] (fun wx => ∃ V, Hid (ValsP L V) ∧ Hid (SitE (fun _ => False) M wB.heap.size wx pw pd pv q n' L V (openJ F0) F0 [] false false) ∧ Hid (Below wB.heap.size wB wx))
  case first =>
    go_wp2_with fail
    go_loopw [9] (fun i wr => ∃ k V, k ≤ ns ∧ k ≤ 25 ∧ i = .int .i64 (k : Nat) ∧ Hid (ValsP L V) ∧ Hid (SitE (fun _ => False) M wB.heap.size wr pw pd pv q n' L V (openJ F0) F0 [] false false) ∧ Hid (Below wB.heap.size wB wr)) (fun i _ => 25 - (intOf i).toNat)
    case atStart => exact ⟨0, _, by omega, by omega, rfl, HVP, HS3, HBL⟩
    case round =>
      clear HVP HS3 HBL HB3 HBG HB2
      obtain ⟨k, V, hk, hk2, rfl, HVP, HSi, HBr⟩ := hrel
      have qr := HQB.out.below HBr.out HQB.out.lt
      obtain ⟨qr_c0, qr_c1, qr_c2, qr_c3⟩ := cel4 qr
      have qr_f := qr.frozen
      have HQr := hide qr
      obtain ⟨pt', pr', k0, _, k2, _⟩ := HSi.out.cells
      clear qr
      by_cases hlt1 : k < ns
      · by_cases hlt2 : k < 25
        · obtain ⟨o, ho⟩ : ∃ o, S[k]? = some o := ⟨S[k]'(by rw [← HNS.out]; exact hlt1), List.getElem?_eq_getElem _⟩
          obtain ⟨b, off, Aj, cj, rfl, ⟨c0, c1, c2', c3, c4, c5⟩, hcj, hsj⟩ := HS.out k o ho
          have HCL := hide (fun W (h : Below w.heap.size w W) => (⟨(h.cell (lt_of_cell c1)).trans c1, (h.cell (lt_of_cell c2')).trans c2', (h.cell (lt_of_cell c5)).trans c5⟩ : W.cell? ⟨b, off + k * 6 + 1, none⟩ = some (.int .i64 o.ix) ∧ W.cell? ⟨b, off + k * 6 + 2, none⟩ = some (.int .i64 o.sub) ∧ W.cell? ⟨b, off + k * 6 + 5, none⟩ = some (.slice Aj o.b.length cj)))
          obtain ⟨i1, i2, i3⟩ := idx_at hlt1
          have HO := hide (And.intro hcj (And.intro hsj (HLL.out.2 k o (by omega) ho)))
          clear c0 c1 c2' c3 c4 c5 hcj hsj ho
          obtain ⟨e1, e2, e5⟩ := HCL.out _ (below_step HBr.out HBB.out)
          go_wp2_with fail
          refine wp_region_held_drew (S := (fun w' => w'.cell? ⟨pw, 0, none⟩ = some (.pointer (some ⟨pd, 0, none⟩)) ∧ w'.cell? ⟨w.heap.size, 3, none⟩ = some (.slice (some ⟨b, off, none⟩) ns cs) ∧ w'.cell? ⟨b, off + k * 6 + 1, none⟩ = some (.int .i64 o.ix) ∧ w'.cell? ⟨b, off + k * 6 + 2, none⟩ = some (.int .i64 o.sub) ∧ w'.cell? ⟨b, off + k * 6 + 5, none⟩ = some (.slice Aj o.b.length cj))) (by kernel_rfl) ?hS19 (fun hHeld => ?rest19)
          case hS19 => ((try dsimp only); (exact ⟨k0, qr_c3, e1, e2, e5⟩))
          case' rest19 => skip
          refine tkH 0 ?_
          try simp only [PqL, Act.put]
          refine tkH 1 ?_
          try simp only [PqL, Act.put]
          refine tkH 2 ?_
          try simp only [PqL, Act.put]
          refine tkH 3 ?_
          try simp only [PqL, Act.put]
          refine tkH 4 ?_
          try simp only [PqL, Act.put]
          refine tkH 5 ?_
          try simp only [PqL, Act.put]
          refine tkH 6 ?_
          try simp only [PqL, Act.put]
          refine tkH 7 ?_
          try simp only [PqL, Act.put]
          refine tkH 8 ?_
          try simp only [PqL, Act.put]
          refine tkH 9 ?_
          try simp only [PqL, Act.put]
          refine tkH 10 ?_
          try simp only [PqL, Act.put]
          refine tkH 11 ?_
          try simp only [PqL, Act.put]
          refine tkH 12 ?_
          try simp only [PqL, Act.put]
          refine tkH 13 ?_
          try simp only [PqL, Act.put]
          refine tkH 14 ?_
          try simp only [PqL, Act.put]
          refine tkH 15 ?_
          try simp only [PqL, Act.put]
          refine tkH 16 ?_
          try simp only [PqL, Act.put]
          refine tkH 17 ?_
          try simp only [PqL, Act.put]
          refine tkH 18 ?_
          try simp only [PqL, Act.put]
          refine tkH 19 ?_
          try simp only [PqL, Act.put]
          refine tkH 20 ?_
          try simp only [PqL, Act.put]
          refine tkH 21 ?_
          try simp only [PqL, Act.put]
          refine wpAnyH_ready (rs := [22]) (by kernel_rfl) (by simp) ?_
          refine AllReadyH.cons (o := _) rfl (fun K hK => ?_) AllReadyH.nil
          go_simp
          refine (sit_poke o.ix o.sub Aj o.b.length cj o.b _ (HSi.out.below (Below.drew (Below.refl _ _))) HSR.out.1 (by have := H200.out; omega) rfl HO.out.1 (by have := HO.out.2.2; omega) (HO.out.2.1.below (Below.drew (below_step HBr.out HBB.out)))).mono ?_
          rintro e w5 ⟨rfl, hS5, ho5⟩
          have HB5 := hide (free_below ho5 (Below.drew HBr.out) (Nat.le_refl _) (Nat.le_refl _))
          have HS5 := hide hS5
          have HVP5 := hide (vals_put HSR.out.1 HSi.out.lenV HVP.out o.ix o.sub o.b true)
          obtain ⟨_, _, m0, _⟩ := hS5.cells
          obtain ⟨f1, f2, f5⟩ := HCL.out _ (below_step HB5.out HBB.out)
          have qq := HQB.out.below HB5.out HQB.out.lt
          dsimp only
          refine hK.out _ _ ?hS44 (fun hHeld => ?rest44)
          case hS44 => ((try dsimp only); (exact ⟨m0, qq.cell 3 rfl, f1, f2, f5⟩))
          case' rest44 => (clear hK K; try simp only [PqL, Act.put])
          refine wpAnyH_done (by kernel_rfl) ?_ _
          have hEnd := hHeld.2
          repeat (clear hHeld)
          clear hEnd hS5 ho5 m0 f1 f2 f5 qq
          go_wp2_with fail
          go_roundw
          case rel => exact ⟨k + 1, _, by omega, by omega, by go_num, HVP5, HS5, HB5⟩
          case measure => simp [intOf]; omega
        · have u1 : decide ((k : Int) < 25) = false := by simp; omega
          have u2 : decide (k < 25) = false := by simp; omega
          go_wp2_with fail
          go_meet
          case rel => exact ⟨_, HVP, HSi, HBr⟩
      · go_wp2_with fail
        go_meet
        case rel => exact ⟨_, HVP, HSi, HBr⟩
  case rest =>
    clear HVP HS3 HBL HB3 HBG HB2
    obtain ⟨V, HVP, HSi, HBr⟩ := hcut
    obtain ⟨pt', pr', k0, _, k2, _⟩ := HSi.out.cells
    go_wp2_with fail
    refine (sit_values _ HSi.out (by have := H200.out; omega)).mono ?_
    rintro e w6 ⟨A6, n6, c6, ds6, rfl, hO6, _, hb6⟩
    have hn6 : n' = n6 := by rw [hO6.hn, svL_len _ _ HSi.out.lenV, HN.out]
    subst hn6
    have HS6 := hide (HSi.out.ext hb6)
    have HO6 := hide (OwnF.mono hO6 (G := fun g => wc.heap.size ≤ g ∧ g < w6.heap.size) (fun g h1 h2 => ⟨h2, h1⟩))
    have HB6 := hide (below_step hb6 HBr.out)
    have HLV := hide HSi.out.lenV
    have HVL := hide (fun v (hv : v ∈ V) => Nat.le_trans (vals_le9 HVP.out HLV.out v hv) (show 256 ≤ 2000 by decide))
    obtain ⟨pt6, pr6, m0, _⟩ := HS6.out.cells
    clear hO6 hb6 k0 k2
    go_wp2_with fail
    refine (sit_store a 1 w6 HS6.out (HG.out.below (below_step HB6.out HBB.out)) (.inr ⟨rfl, HF0.out.2.1⟩) (by rw [HF0.out.2.2.2.2.1]; decide) ⟨by decide, by decide⟩ H200.out HVL.out).mono ?_
    rintro e w7 ⟨R, hW, rfl, hS7, ho7⟩
    obtain ⟨Z, hZ⟩ : ∃ Z, Z = ofV L V 1 := ⟨_, rfl⟩
    have hgZ : GoodX L Z := by rw [hZ]; exact good_ofV HSR.out.1 HVP.out 1
    have hj : joinV (dropL [] 1) (ofV L V 1) = Z := by
      rw [← hZ, show dropL [] 1 = [] from rfl]
      exact join_none hgZ.1
    rw [hj] at hW hS7
    have HB7 := hide (free_below ho7 HB6.out (Nat.le_refl _) (Nat.le_refl _))
    have hz6 := HB6.out.size
    have HO7 := hide (OwnF.keep HO6.out (fun g hg hlt => ho7.block g hlt (fun hx => hx.2 (.inr hg))))
    have hSP := store_plain HSR.out.1 HSR.out.2 HF0.out.1 HF0.out.2.1 HF0.out.2.2.1 HF0.out.2.2.2.1 (by rw [HF0.out.2.2.2.2.1]; decide) (by decide) hgZ (.inl rfl) hW
    have HGZ := hide hgZ
    have HZ := hide hZ
    clear hW hj hgZ hZ ho7 m0
    rcases hSP with ⟨h3, _⟩ | ⟨T, rfl, hT1, hT2, hT3, hT4, hT5, hT6⟩
    · rw [show ((codeV R.2.2 : Nat) : Int) = 84148229 by rw [h3]; rfl]
      clear h3 hS7
      go_wp2_with fail
      refine (HKN.out _ (below_step HB7.out HBB.out)).mono ?_
      rintro e w8 ⟨rfl, hb8⟩
      have HB8 := hide (below_step hb8 (below_step HB7.out HBB.out))
      clear hb8
      go_wp2_with fail
      go_ret
      exact (⟨rfl, HB8.out⟩ : TrueB w _ _)
    rw [show ((codeV ((openJ T, T, (0 : Int)) : JS × FS × Int).2.2 : Nat) : Int) = 0 from rfl]
    have hS7' : SitE (fun g => False ∨ (wc.heap.size ≤ g ∧ g < w6.heap.size)) M wB.heap.size w7 pw pd pv q n' L V (openJ T) T Z false false := by
      have h := hS7
      rw [if_pos rfl, if_pos rfl] at h
      exact h
    have HS7 := hide hS7'
    have HT := hide (And.intro hT1 (And.intro hT2 (And.intro hT3 (And.intro hT4 (And.intro hT5 hT6)))))
    have hXL := lightB_fit HLX.out
    have HXL := hide hXL
    clear hS7 hS7' hT1 hT2 hT3 hT4 hT5 hT6 hXL HS6
    go_wp2_with fail
    go_loopw [12] (fun i wr => ∃ k V, k ≤ m ∧ i = .int .i64 (k : Nat) ∧ Hid (ValsP L V) ∧ Hid (SitE (fun g => False ∨ (wc.heap.size ≤ g ∧ g < w6.heap.size)) M wB.heap.size wr pw pd pv q n' L V (openJ T) T Z false false) ∧ Hid (Below wB.heap.size wB wr) ∧ Hid (∀ g, (wc.heap.size ≤ g ∧ g < w6.heap.size) → wr.heap[g]? = w7.heap[g]?)) (fun i _ => m - (intOf i).toNat)
    case atStart => exact ⟨0, _, by omega, rfl, HVP, HS7, HB7, hide (fun _ _ => rfl)⟩
    case round =>
      obtain ⟨k, V9, hk, rfl, HVPr, HSr, HBr, HKr⟩ := hrel
      have hm200 : m ≤ 200 := by rw [HMM.out]; exact HXL.out.1
      obtain ⟨pt', pr', k0, _, k2, _⟩ := HSr.out.cells
      by_cases hlt : k < m
      · obtain ⟨v, hv⟩ : ∃ v, X[k]? = some v := ⟨X[k]'(by rw [← HMM.out]; exact hlt), List.getElem?_eq_getElem _⟩
        obtain ⟨b, off, Aj, cj, rfl, c0, c1, c2', hcj, hsj⟩ := HX.out k v hv
        have HCL := hide (fun W (h : Below w.heap.size w W) => (⟨(h.cell (lt_of_cell c0)).trans c0, (h.cell (lt_of_cell c1)).trans c1, (h.cell (lt_of_cell c2')).trans c2'⟩ : W.cell? ⟨b, off + k * 3, none⟩ = some (.int .i64 v.ix) ∧ W.cell? ⟨b, off + k * 3 + 1, none⟩ = some (.int .i64 v.sub) ∧ W.cell? ⟨b, off + k * 3 + 2, none⟩ = some (.slice Aj v.data.length cj)))
        obtain ⟨i1, i2, i3⟩ := idx_at hlt
        have HO := hide (And.intro hcj (And.intro hsj (HXL.out.2 v (List.mem_of_getElem? hv))))
        clear c0 c1 c2' hcj hsj hv
        obtain ⟨e1, e2, e5⟩ := HCL.out _ (below_step HBr.out HBB.out)
        go_wp2_with fail
        refine wp_region_held_drew (S := (fun w' => w'.cell? ⟨pw, 0, none⟩ = some (.pointer (some ⟨pd, 0, none⟩)) ∧ w'.cell? ⟨b, off + k * 3, none⟩ = some (.int .i64 v.ix) ∧ w'.cell? ⟨b, off + k * 3 + 1, none⟩ = some (.int .i64 v.sub) ∧ w'.cell? ⟨b, off + k * 3 + 2, none⟩ = some (.slice Aj v.data.length cj))) (by kernel_rfl) ?hS46 (fun hHeld => ?rest46)
        case hS46 => ((try dsimp only); (exact ⟨k0, e1, e2, e5⟩))
        case' rest46 => skip
        refine tkH 0 ?_
        try simp only [PqL, Act.put]
        refine tkH 1 ?_
        try simp only [PqL, Act.put]
        refine tkH 2 ?_
        try simp only [PqL, Act.put]
        refine tkH 3 ?_
        try simp only [PqL, Act.put]
        refine tkH 4 ?_
        try simp only [PqL, Act.put]
        refine tkH 5 ?_
        try simp only [PqL, Act.put]
        refine tkH 6 ?_
        try simp only [PqL, Act.put]
        refine tkH 7 ?_
        try simp only [PqL, Act.put]
        refine tkH 8 ?_
        try simp only [PqL, Act.put]
        refine tkH 9 ?_
        try simp only [PqL, Act.put]
        refine tkH 10 ?_
        try simp only [PqL, Act.put]
        refine tkH 11 ?_
        try simp only [PqL, Act.put]
        refine tkH 12 ?_
        try simp only [PqL, Act.put]
        refine tkH 13 ?_
        try simp only [PqL, Act.put]
        refine tkH 14 ?_
        try simp only [PqL, Act.put]
        refine tkH 15 ?_
        try simp only [PqL, Act.put]
        refine tkH 16 ?_
        try simp only [PqL, Act.put]
        refine tkH 17 ?_
        try simp only [PqL, Act.put]
        refine tkH 18 ?_
        try simp only [PqL, Act.put]
        refine wpAnyH_ready (rs := [19]) (by kernel_rfl) (by simp) ?_
        refine AllReadyH.cons (o := _) rfl (fun K hK => ?_) AllReadyH.nil
        go_simp
        refine (sit_poke v.ix v.sub Aj v.data.length cj v.data _ (HSr.out.below (Below.drew (Below.refl _ _))) HSR.out.1 (by have := H200.out; omega) rfl HO.out.1 (by have := HO.out.2.2; omega) (HO.out.2.1.below (Below.drew (below_step HBr.out HBB.out)))).mono ?_
        rintro e w8 ⟨rfl, hS8, ho8⟩
        have HB8 := hide (free_below ho8 (Below.drew HBr.out) (Nat.le_refl _) (Nat.le_refl _))
        have HS8 := hide hS8
        have HVP8 := hide (vals_put HSR.out.1 HSr.out.lenV HVPr.out v.ix v.sub v.data true)
        have hz8 := HBr.out.size
        have hz7 := HB7.out.size
        have HK8 := hide (fun g (hg : wc.heap.size ≤ g ∧ g < w6.heap.size) => (ho8.block g (show g < wr.heap.size from HSr.out.ltK g (.inr hg)) (fun hx => hx.2 (.inr hg))).trans (HKr.out g hg))
        obtain ⟨_, _, m0, _⟩ := hS8.cells
        obtain ⟨f1, f2, f5⟩ := HCL.out _ (below_step HB8.out HBB.out)
        dsimp only
        refine hK.out _ _ ?hS68 (fun hHeld => ?rest68)
        case hS68 => ((try dsimp only); (exact ⟨m0, f1, f2, f5⟩))
        case' rest68 => (clear hK K; try simp only [PqL, Act.put])
        refine wpAnyH_done (by kernel_rfl) ?_ _
        have hEnd := hHeld.2
        repeat (clear hHeld)
        clear hEnd hS8 ho8 m0 f1 f2 f5
        go_wp2_with fail
        go_roundw
        case rel => exact ⟨k + 1, _, by omega, by go_num, HVP8, HS8, HB8, HK8⟩
        case measure => simp [intOf]; omega
      · have HO8 := hide (OwnF.keep HO7.out (fun g hg _ => HKr.out g hg))
        have HTT := hide (And.intro HT.out.2.1 HT.out.1.three)
        clear HS7 HO7 HKr
        go_wp2_with fail
        refine wp_region_held_drew (S := (fun w' => w'.cell? ⟨pw, 0, none⟩ = some (.pointer (some ⟨pd, 0, none⟩)) ∧ w'.cell? ⟨pw, 2, none⟩ = some (.pointer (some ⟨q.p, 0, none⟩)))) (by kernel_rfl) ?hS70 (fun hHeld => ?rest70)
        case hS70 => ((try dsimp only); (exact ⟨k0, k2⟩))
        case' rest70 => skip
        refine tkH 0 ?_
        try simp only [PqL, Act.put]
        refine tkH 1 ?_
        try simp only [PqL, Act.put]
        refine tkH 2 ?_
        try simp only [PqL, Act.put]
        refine tkH 3 ?_
        try simp only [PqL, Act.put]
        refine tkH 4 ?_
        try simp only [PqL, Act.put]
        refine tkH 5 ?_
        try simp only [PqL, Act.put]
        refine tkH 6 ?_
        try simp only [PqL, Act.put]
        refine tkH 7 ?_
        try simp only [PqL, Act.put]
        refine wpAnyH_ready (rs := [8]) (by kernel_rfl) (by simp) ?_
        refine AllReadyH.cons (o := _) rfl (fun K hK => ?_) AllReadyH.nil
        go_simp
        refine (sit_open _ (HSr.out.below (Below.drew (Below.refl _ _))) HSR.out.1 (by have := H200.out; omega) HTT.out.1 HTT.out.2).mono ?_
        rintro e w9 ⟨pv2, rfl, hS9, hb9⟩
        rw [HT.out.2.2.2.2.2] at hS9
        dsimp only at hS9 ⊢
        have HS9 := hide hS9
        have hbb := (Below.drew (Below.refl wr.heap.size wr)).trans hb9
        have HB9 := hide (below_step hbb HBr.out)
        have HO9 := hide (OwnF.below HO8.out hbb)
        obtain ⟨_, _, m0, _, m2, _⟩ := hS9.cells
        refine hK.out _ _ ?hS81 (fun hHeld => ?rest81)
        case hS81 => ((try dsimp only); (exact ⟨m0, m2⟩))
        case' rest81 => (clear hK K; try simp only [PqL, Act.put])
        refine tkH 9 ?_
        try simp only [PqL, Act.put]
        refine tkH 10 ?_
        try simp only [PqL, Act.put]
        refine tkH 11 ?_
        try simp only [PqL, Act.put]
        refine tkH 12 ?_
        try simp only [PqL, Act.put]
        refine tkH 13 ?_
        try simp only [PqL, Act.put]
        refine wpAnyH_done (by kernel_rfl) ?_ _
        have hEnd := hHeld.2
        repeat (clear hHeld)
        obtain ⟨hc0, hBK⟩ := load_back HSR.out.1 HSR.out.2 HLV.out HVP.out
        rw [← HZ.out] at hc0 hBK
        have HBK := hide hBK
        have HLO := hide (sit_load w9 HS9.out HSR.out.1 (by have := H200.out; omega))
        rw [hc0] at HLO
        clear hEnd hS9 hb9 hbb m2 hc0 hBK
        go_wp2_with fail
        refine HLO.out.mono ?_
        rintro e w10 ⟨rfl, hS10, ho10⟩
        have HS10 := hide hS10
        have HB10 := hide (free_below ho10 HB9.out (Nat.le_refl _) (Nat.le_refl _))
        have HO10 := hide (OwnF.keep HO9.out (fun g hg hlt => ho10.block g hlt (fun hx => hx.2 (.inr hg))))
        obtain ⟨V3, hV3⟩ : ∃ V, V = applyV L (L.map Ent.df) Z := ⟨_, rfl⟩
        rw [← hV3] at HS10 HBK
        obtain ⟨_, _, m0, _⟩ := hS10.cells
        clear hS10 ho10 hV3
        go_wp2_with fail
        refine (sit_values _ HS10.out (by have := H200.out; omega)).mono ?_
        rintro e w11 ⟨A11, n11, c11, ds11, rfl, hO11, _, hb11⟩
        have hn11 : n' = n11 := by rw [hO11.hn, svL_len _ _ HS10.out.lenV, HN.out]
        subst hn11
        have HO11 := hide hO11
        have HB11 := hide (below_step hb11 HB10.out)
        have HO11b := hide (OwnF.below HO10.out hb11)
        have HS11 := hide (HS10.out.below hb11)
        have HLV3 := hide HS10.out.lenV
        have q11 := HQB.out.below HB11.out HQB.out.lt
        obtain ⟨q11_c0, q11_c1, q11_c2, q11_c3⟩ := cel4 q11
        have q11_f := q11.frozen
        have HQ11 := hide q11
        have HEL := hide (fun W (h : Below w11.heap.size w11 W) => HL.out.below (below_step (below_step h HB11.out) HBB.out))
        clear hO11 hb11 m0 q11
        go_wp2_with fail
        go_loopw [16] (fun i wr => ∃ k, k ≤ n' ∧ i = .int .i64 (k : Nat) ∧ Hid (Below w11.heap.size w11 wr)) (fun i _ => n' - (intOf i).toNat)
        case atStart => exact ⟨0, by omega, rfl, hide (Below.refl _ _)⟩
        case round =>
          obtain ⟨k, hk, rfl, HBx⟩ := hrel
          have h200 : n' ≤ 200 := H200.out
          have qx := HQ11.out.below HBx.out HQ11.out.lt
          clear q11_c0 q11_c1 q11_c2 q11_c3 q11_f
          obtain ⟨qx_c0, qx_c1, qx_c2, qx_c3⟩ := cel4 qx
          have qx_f := qx.frozen
          have HQX := hide qx
          clear qx
          by_cases hlt : k < n'
          · obtain ⟨E, hE⟩ : ∃ E, L[k]? = some E := ⟨L[k]'(by rw [← HN.out]; exact hlt), List.getElem?_eq_getElem _⟩
            obtain ⟨v, hv⟩ : ∃ v, V3[k]? = some v := ⟨V3[k]'(by rw [HLV3.out, ← HN.out]; exact hlt), List.getElem?_eq_getElem _⟩
            obtain ⟨u, hu⟩ : ∃ u, V[k]? = some u := ⟨V[k]'(by rw [HLV.out, ← HN.out]; exact hlt), List.getElem?_eq_getElem _⟩
            obtain ⟨b9, off9, Aj9, cj9, hA9, ⟨e0, e1, e2, e3, e4, e5, e6, e7, e8, e9, e10⟩, hj9, hs9⟩ := (HEL.out _ HBx.out) k E hE
            subst hA9
            obtain ⟨i1, i2, i3⟩ := idx_at hlt
            obtain ⟨d8, hd8, hOd8, _⟩ := (OwnF.below HO11.out HBx.out).elem (svL_at hE hv)
            obtain ⟨g8, hA8, z8', hc8⟩ := (OwnF.below HO11.out HBx.out).cells svF_len (svL_at hE hv) hd8 (by omega)
            have c82 : wr.cell? ⟨g8, k * 3 + 2, none⟩ = some (.slice d8.1 v.length d8.2) := hc8 2 _ rfl
            obtain ⟨d4, hd4, hOd4, _⟩ := (OwnF.below HO11b.out HBx.out).elem (svL_at hE hu)
            obtain ⟨g4, hA4, z4', hc4⟩ := (OwnF.below HO11b.out HBx.out).cells svF_len (svL_at hE hu) hd4 (by omega)
            have c42 : wr.cell? ⟨g4, k * 3 + 2, none⟩ = some (.slice d4.1 u.length d4.2) := hc4 2 _ rfl
            subst hA8 hA4
            have k1 := fun nq => str_b (w := wr.drewN nq) d8.2 rfl (l := v) (show Sl (wr.drewN nq) d8.1 (v.map bv) from hOd8.sl)
            have hvk := HBK.out k E hE
            have HBX := HBx
            clear hd8 hOd8 hc8 hd4 hc4 e0 e1 e2 e3 e4 e5 e7 e8 e9
            cases hst : E.st
            · rw [if_neg (by rw [hst]; decide), hv] at hvk
              injection hvk with hvk
              subst hvk
              rw [hst] at e6
              have k2 := fun nq => str_b (w := wr.drewN nq) cj9 rfl (l := E.df) (show Sl (wr.drewN nq) Aj9 (E.df.map bv) from hs9)
              clear hE hv hu hst c42 hOd4 hs9 hj9
              go_wp2_with fail
              go_quiet (fail)
              go_wp2_with fail
              go_roundw
              case rel => exact ⟨k + 1, by omega, by go_num, hide (below_drewN HBX.out _)⟩
              case measure => simp [intOf]; omega
            · rw [if_pos hst, hu, hv] at hvk
              injection hvk with hvk
              subst hvk
              rw [hst] at e6
              have k2 := fun nq => str_b (w := wr.drewN nq) d4.2 rfl (l := v) (show Sl (wr.drewN nq) d4.1 (v.map bv) from hOd4.sl)
              clear hE hv hu hst hOd4 hs9 hj9
              go_wp2_with fail
              go_quiet (fail)
              go_wp2_with fail
              go_roundw
              case rel => exact ⟨k + 1, by omega, by go_num, hide (below_drewN HBX.out _)⟩
              case measure => simp [intOf]; omega
          · have HSx := hide (HS11.out.below HBx.out)
            have HBf := hide (below_step HBx.out HB11.out)
            clear HO11 HO11b HEL
            go_wp2_with fail
            refine (sit_restore a 1 wr HSx.out (HG.out.below (below_step HBf.out HBB.out)) (.inr ⟨rfl, HT.out.2.1⟩) (by have := HT.out.2.2.2.2.1; omega) ⟨by decide, by decide⟩).mono ?_
            rintro e w12 ⟨R2, hW2, rfl, hS12, ho12⟩
            rw [dropL_one] at hW2 hS12
            have hSP2 := store_plain HSR.out.1 HSR.out.2 HT.out.1 HT.out.2.1 HT.out.2.2.1 HT.out.2.2.2.1 HT.out.2.2.2.2.1 (by decide) (good_nil L) (.inr ⟨by simp, rfl⟩) hW2
            rcases hSP2 with ⟨_, b2, hb2⟩ | ⟨T2, rfl, _⟩
            · exact absurd (nil_built hb2).1 (by decide)
            rw [if_pos rfl] at hS12
            rw [show ((codeV ((openJ T2, T2, (0 : Int)) : JS × FS × Int).2.2 : Nat) : Int) = 0 from rfl]
            have HS12 := hide hS12
            have HB12 := hide (free_below ho12 HBf.out (Nat.le_refl _) (Nat.le_refl _))
            clear hW2 hS12 ho12
            go_wp2_with fail
            refine (sit_vvalues _ HS12.out).mono ?_
            rintro e w13 ⟨A13, n13, c13, ds13, rfl, hO13, hb13⟩
            have hn13 : n13 = 0 := hO13.hn
            subst hn13
            have HB13 := hide (below_step hb13 HB12.out)
            clear hO13 hb13
            go_wp2_with fail
            refine (HKN.out _ (below_step HB13.out HBB.out)).mono ?_
            rintro e w14 ⟨rfl, hb14⟩
            have HB14 := hide (below_step hb14 (below_step HB13.out HBB.out))
            clear hb14
            go_wp2_with fail
            go_ret
            exact (⟨rfl, HB14.out⟩ : TrueB w _ _)
end
end Go.Proofs.YtehabbnohoomjaaGreatDoor
