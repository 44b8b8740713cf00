/- The walk of VaultCrashes. -/
import Derived.Test.YtehabbnohoomjaaGreatDoorC01
import Derived.Test.YtehabbnohoomjaaGreatDoorC47
import Derived.Test.YtehabbnohoomjaaGreatDoorC49
import Derived.Test.YtehabbnohoomjaaGreatDoorC51
import Derived.Test.YtehabbnohoomjaaGreatDoorC50
import Derived.Deep.DeepCutAuto
namespace Go.Proofs.YtehabbnohoomjaaGreatDoor
section
set_option linter.unusedVariables false
set_option linter.unusedSimpArgs false
set_option linter.unnecessarySimpa false
open Go.RowKit
set_option maxRecDepth 100000
set_option maxHeartbeats 16000000

theorem OwnV.keep9 {w w' : World} {B n c : Nat} {A : Option Addr} {L : List SV} {ds : List (Option Addr × Nat)} (h : OwnV w B A n c L ds) (hk : ∀ g, B ≤ g → g < w.heap.size → w'.heap[g]? = w.heap[g]?) : OwnV w' B A n c L ds :=
  ⟨h.hn, h.hd, h.own.keep (fun g hB hlt _ => hk g hB hlt), fun j v d h1 h2 => ⟨(h.data j v d h1 h2).hn, (h.data j v d h1 h2).own.keep (fun g hB hlt _ => hk g hB hlt)⟩, h.pw⟩
theorem Only.cell9 {F : Nat → Prop} {w w' : World} (h : Only F w w') {p : Addr} (hp : p.block < w.heap.size) (hF : ¬ F p.block) : w'.cell? p = w.cell? p := by
  unfold World.cell?
  rw [h.block _ hp hF]
/-- what was new between a and the world wK is as it was -/
structure KP (a : Nat) (wK W : World) : Prop where
  sz : wK.heap.size ≤ W.heap.size
  same : ∀ g, a ≤ g ∧ g < wK.heap.size → W.heap[g]? = wK.heap[g]?
section
variable {a : Nat} {wK W W' : World}
theorem KP.refl (a : Nat) (w : World) : KP a w w := ⟨Nat.le_refl _, fun _ _ => rfl⟩
theorem KP.only {lo : Nat} (h : KP a wK W) (ho : Only (FreeK (fun g => False ∨ (a ≤ g ∧ g < wK.heap.size)) lo) W W') : KP a wK W' :=
  ⟨Nat.le_trans h.sz ho.size, fun g hg => (ho.block g (Nat.lt_of_lt_of_le hg.2 h.sz) (fun hx => hx.2 (.inr hg))).trans (h.same g hg)⟩
theorem KP.below (h : KP a wK W) (hb : Below W.heap.size W W') : KP a wK W' :=
  ⟨Nat.le_trans h.sz hb.size, fun g hg => (hb.block g (Nat.lt_of_lt_of_le hg.2 h.sz)).trans (h.same g hg)⟩
theorem KP.blk {g : Nat} {t : TypeId} {cs : Array Value} (h : KP a wK W) (hB : Blk wK g t cs) (hg : a ≤ g) : Blk W g t cs := (h.same g ⟨hg, hB.lt⟩).trans hB
theorem KP.ownV {B n c : Nat} {A : Option Addr} {L : List SV} {ds : List (Option Addr × Nat)} (h : KP a wK W) (hO : OwnV wK B A n c L ds) (hB : a ≤ B) : OwnV W B A n c L ds := hO.keep9 (fun g h1 h2 => h.same g ⟨Nat.le_trans hB h1, h2⟩)
end
theorem code_zero9 {e : Int} (h : e = 0 ∨ e = 3 ∨ e = 7) : (((codeV e : Nat) : Int) = 0 ∧ e = 0) ∨ ((((codeV e : Nat) : Int) == 0) = false ∧ e ≠ 0) := by
  rcases h with rfl | rfl | rfl
  · exact .inl ⟨rfl, rfl⟩
  · exact .inr ⟨rfl, by decide⟩
  · exact .inr ⟨rfl, by decide⟩
theorem vaultCrashes_walk (a : Nat → Addr) (M : Nat) (A : Option Addr) (n c : Nat) (L : List Ent) (Af : Option Addr) (nf cf : Nat) (mo : Int) (As : Option Addr) (ns cs : Nat) (S : List SOp) (w : World)
    (hn : n = L.length) (hL : SlE w A L) (hs : ns = S.length) (hS : SlS w As S) (hU : ∀ o ∈ S, o.w ≤ 4294967295) (hG : GV w a M) (hM : M ≤ w.heap.size) :
    Calls Tryz.prog 5 #[.agg #[.slice A n c, .slice Af nf cf, .int .i64 mo, .slice As ns cs]] w (TrueB w) := by
  have q0 := blk_one w 26 #[.slice A n c, .slice Af nf cf, .int .i64 mo, .slice As ns cs]
  have hb0 := below_alloc (Below.refl w.heap.size w) (.cells #[.slice A n c, .slice Af nf cf, .int .i64 mo, .slice As ns cs] 26)
  have HKN := hide (fun W (hb : Below w.heap.size w W) => known_19 a M W (hG.below hb) (Nat.le_trans hM hb.size))
  have HN := hide hn
  have HL := hide hL
  have HNS := hide hs
  have HS := hide hS
  have HU := hide hU
  have HG := hide hG
  have HM := hide hM
  have HB0 := hide hb0
  have HQ0 := hide q0
  have HLI := hide (vlight A n c L Af nf cf mo As ns cs S _ hn (hL.below hb0) hs (hS.below hb0))
  obtain ⟨q0_c0, q0_c1, q0_c2, q0_c3⟩ := cel4 q0
  have q0_f := q0.frozen
  clear q0 hb0 hn hL hs hS hU hG hM
  cases hli : lightC L nf S
  · rw [hli] at HLI
    clear hli
    go_enter Tryz.func5, Tryz.ntmps5
    go_wp2_with fail
    refine HLI.out.mono ?_
    rintro e w1 ⟨rfl, hb1⟩
    have HB1 := hide (below_step hb1 HB0.out)
    clear hb1
    go_wp2_with fail
    refine (HKN.out _ HB1.out).mono ?_
    rintro e w2 ⟨rfl, hb2⟩
    have HB2 := hide (below_step hb2 HB1.out)
    clear hb2
    go_wp2_with fail
    go_ret
    exact (⟨rfl, HB2.out⟩ : TrueB w _ _)
  rw [hli] at HLI
  have HLC := hide hli
  clear hli
  go_enter Tryz.func5, Tryz.ntmps5
  go_wp2_with fail
  refine HLI.out.mono ?_
  rintro e w1 ⟨rfl, hb1⟩
  have HB1 := hide (below_step hb1 HB0.out)
  have HQ1 := hide (HQ0.out.below hb1 HQ0.out.lt)
  have q1 := HQ1.out
  clear q0_c0 q0_c1 q0_c2 q0_c3 q0_f
  obtain ⟨q1_c0, q1_c1, q1_c2, q1_c3⟩ := cel4 q1
  have q1_f := q1.frozen
  clear hb1 q1
  go_wp2_with fail
  have qb := blk_setL (l := [.slice A n c, .slice Af nf cf, .int .i64 mo, .slice As ns cs]) HQ1.out 1 (.slice none 0 0)
  have qc := blk_setL qb 2 (.int .i64 49)
  have hbB := below_set (below_set HB1.out (p := ⟨w.heap.size, 1, none⟩) (Nat.le_refl _) (.slice none 0 0)) (p := ⟨w.heap.size, 2, none⟩) (Nat.le_refl _) (.int .i64 49)
  obtain ⟨wB, hwB⟩ : ∃ W, W = (w1.setCell ⟨w.heap.size, 1, none⟩ (.slice none 0 0)).setCell ⟨w.heap.size, 2, none⟩ (.int .i64 49) := ⟨_, rfl⟩
  rw [← hwB] at qc hbB ⊢
  have HQB : Hid (Blk wB w.heap.size 26 #[.slice A n c, .slice none 0 0, .int .i64 49, .slice As ns cs]) := hide qc
  have HBB := hide hbB
  have HLB := hide (HL.out.below hbB)
  have HLL := hide (lightC_L HLC.out)
  clear qb qc hbB hwB
  clear q1_c0 q1_c1 q1_c2 q1_c3 q1_f
  refine (begin0 A n c L As ns cs wB HN.out HLB.out HLL.out.1).mono ?_
  rintro e w2 ⟨v, ok, rfl, hno, hok, hb2⟩
  have HB2 := hide (below_step hb2 HBB.out)
  have HBC := hide hb2
  cases ok
  · obtain rfl := hno rfl
    clear hno hok hb2
    go_wp2_with fail
    refine (HKN.out _ HB2.out).mono ?_
    rintro e w3 ⟨rfl, hb3⟩
    have HB3 := hide (below_step hb3 HB2.out)
    clear hb3
    go_wp2_with fail
    go_ret
    exact (⟨rfl, HB3.out⟩ : TrueB w _ _)
  obtain ⟨hSo, hR, hNP, pw, pd, gl, n', cl, cv, Av, ds, es, Fd, q, pt, pr, rfl, m1, m2, hBeg⟩ := hok rfl
  obtain rfl : n' = n := hBeg.hn.trans HN.out.symm
  have HSR := hide (And.intro hSo hR)
  have HNP := hide hNP
  have HFT := hide (light_fit HLL.out.1)
  have HL9 := hide (show L.length ≤ 200 from light_len HLL.out.1)
  have HBG := hide hBeg
  have HLO : Hid (M ≤ wB.heap.size) := hide (Nat.le_trans HM.out HBB.out.size)
  have h200 : n' ≤ 200 := by rw [HN.out]; exact light_len HLL.out.1
  have H200 := hide h200
  have hc0 := hBeg.blk.cell 0 (u := .pointer (some ⟨pd, 0, none⟩)) rfl
  have hc2 := hBeg.blk.cell 2 (u := .pointer (some ⟨q.p, 0, none⟩)) rfl
  clear hno hok hb2 hSo hR hNP hBeg h200
  go_wp2_with fail
  refine wp_region_held_drew (S := (fun w' => w'.cell? ⟨pw, 0, none⟩ = some (.pointer (some ⟨pd, 0, none⟩)) ∧ w'.cell? ⟨pw, 2, none⟩ = some (.pointer (some ⟨q.p, 0, none⟩)))) (by kernel_rfl) ?hS1 (fun hHeld => ?rest1)
  case hS1 => ((try dsimp only); (exact ⟨hc0, hc2⟩))
  case' rest1 => skip
  refine tkH 0 ?_
  try simp only [PqL, Act.put]
  refine tkH 1 ?_
  try simp only [PqL, Act.put]
  refine tkH 2 ?_
  try simp only [PqL, Act.put]
  refine tkH 3 ?_
  try simp only [PqL, Act.put]
  refine tkH 4 ?_
  try simp only [PqL, Act.put]
  refine tkH 5 ?_
  try simp only [PqL, Act.put]
  refine tkH 6 ?_
  try simp only [PqL, Act.put]
  refine tkH 7 ?_
  try simp only [PqL, Act.put]
  refine wpAnyH_ready (rs := [8]) (by kernel_rfl) (by simp) ?_
  refine AllReadyH.cons (o := _) rfl (fun K hK => ?_) AllReadyH.nil
  go_simp
  refine (sit_first _ (HBG.out.below (Below.drew (Below.refl _ _))) HLO.out HSR.out.1 (by have := H200.out; omega) rfl (by decide)).mono ?_
  rintro e w3 ⟨pv, rfl, hS3, hb3⟩
  rw [newF_recX] at hS3
  dsimp only at hS3 ⊢
  obtain ⟨F0, hF0⟩ : ∃ F, F = newF 3 50 := ⟨_, rfl⟩
  rw [← hF0] at hS3
  have HF0 := hide (show CrS L F0 [] 0 from by rw [hF0]; exact crs_zero L)
  have HS3 := hide hS3
  have HBL := hide (HBC.out.trans (((Below.drew (Below.refl w2.heap.size w2)).trans hb3).mono HBC.out.size))
  clear hF0
  have HB3 := hide (below_step ((Below.drew (Below.refl _ _)).trans hb3) HB2.out)
  obtain ⟨pt', pr', k0, _, k2, _⟩ := hS3.cells
  refine hK.out _ _ ?hS12 (fun hHeld => ?rest12)
  case hS12 => ((try dsimp only); (exact ⟨k0, k2⟩))
  case' rest12 => (clear hK K; try simp only [PqL, Act.put])
  refine tkH 9 ?_
  try simp only [PqL, Act.put]
  refine tkH 10 ?_
  try simp only [PqL, Act.put]
  refine tkH 11 ?_
  try simp only [PqL, Act.put]
  refine tkH 12 ?_
  try simp only [PqL, Act.put]
  refine tkH 13 ?_
  try simp only [PqL, Act.put]
  refine wpAnyH_done (by kernel_rfl) ?_ _
  have hEnd := hHeld.2
  repeat (clear hHeld)
  clear hEnd hc0 hc2 hS3 hb3 k0 k2
  have HVP : Hid (ValsP L (L.map Ent.df)) := hide (vals_df HSR.out.2)
  go_wp2_with fail
  go_loopw [5, 7] (fun v i wr => ∃ k V X pv T, k ≤ ns ∧ k ≤ 25 ∧ i = .int .i64 (k : Nat) ∧ v = .pointer (some ⟨pv, 0, none⟩) ∧ Hid (ValsP L V ∧ CrS L T X k) ∧ Hid (SitE (fun _ => False) M wB.heap.size wr pw pd pv q n' L V (openJ T) T X false false) ∧ Hid (Below wB.heap.size wB wr)) (fun _ i _ => 25 - (intOf i).toNat)
  case atStart => exact ⟨0, _, _, pv, F0, by omega, by omega, rfl, rfl, hide ⟨HVP.out, HF0.out⟩, HS3, HBL⟩
  case round =>
    clear HVP HS3 HBL HB3 HBG HB2 HF0
    obtain ⟨k, V, X, pv, T, hk, hk2, rfl, rfl, HVC, HSi, HBr⟩ := hrel
    obtain ⟨wo, rfl⟩ : ∃ wo : World, wo = wr := ⟨_, rfl⟩
    have qr := HQB.out.below HBr.out HQB.out.lt
    obtain ⟨qr_c0, qr_c1, qr_c2, qr_c3⟩ := cel4 qr
    have qr_f := qr.frozen
    clear qr
    by_cases hlt1 : k < ns
    · by_cases hlt2 : k < 25
      · obtain ⟨o, ho⟩ : ∃ o, S[k]? = some o := ⟨S[k]'(by rw [← HNS.out]; exact hlt1), List.getElem?_eq_getElem _⟩
        obtain ⟨b, off, Aj, cj, rfl, ⟨c0, c1, c2', c3, c4', c5⟩, hcj, hsj⟩ := (HS.out.below (below_step HBr.out HBB.out)) k o ho
        obtain ⟨i1, i2, i3⟩ := idx_at hlt1
        have HO := hide (And.intro hcj (And.intro hsj (And.intro (HLL.out.2 k o (by omega) ho) (HU.out o (List.mem_of_getElem? ho)))))
        clear hcj hsj ho
        obtain ⟨kd, ix, sb, on, ow, ob⟩ := o
        dsimp only at c0 c1 c2' c3 c4' c5 HO
        have q8 := blk_one wo 48 #[.int .i64 kd, .int .i64 ix, .int .i64 sb, .int .i64 on, .int .u32 (ow : Nat), .slice Aj ob.length cj]
        have hb8 := below_alloc (Below.refl wo.heap.size wo) (.cells #[.int .i64 kd, .int .i64 ix, .int .i64 sb, .int .i64 on, .int .u32 (ow : Nat), .slice Aj ob.length cj] 48)
        by_cases hk0 : kd = 0
        · subst hk0
          have HQ8 := hide q8
          have HB8 := hide hb8
          have HS8 := hide (HSi.out.ext hb8)
          obtain ⟨_, _, p0, _⟩ := HS8.out.cells
          have e1 := q8.cell 1 (u := .int .i64 ix) rfl
          have e2 := q8.cell 2 (u := .int .i64 sb) rfl
          have e5 := q8.cell 5 (u := .slice Aj ob.length cj) rfl
          have e0 := q8.cell 0 (u := .int .i64 0) rfl
          clear q8 hb8
          go_wp2_with fail
          refine wp_region_held_drew (S := (fun w' => w'.cell? ⟨pw, 0, none⟩ = some (.pointer (some ⟨pd, 0, none⟩)) ∧ w'.cell? ⟨wo.heap.size, 1, none⟩ = some (.int .i64 ix) ∧ w'.cell? ⟨wo.heap.size, 2, none⟩ = some (.int .i64 sb) ∧ w'.cell? ⟨wo.heap.size, 5, none⟩ = some (.slice Aj ob.length cj))) (by kernel_rfl) ?hS19 (fun hHeld => ?rest19)
          case hS19 => ((try dsimp only); (exact ⟨p0, e1, e2, e5⟩))
          case' rest19 => skip
          refine tkH 0 ?_
          try simp only [PqL, Act.put]
          refine tkH 1 ?_
          try simp only [PqL, Act.put]
          refine tkH 2 ?_
          try simp only [PqL, Act.put]
          refine tkH 3 ?_
          try simp only [PqL, Act.put]
          refine tkH 4 ?_
          try simp only [PqL, Act.put]
          refine tkH 5 ?_
          try simp only [PqL, Act.put]
          refine tkH 6 ?_
          try simp only [PqL, Act.put]
          refine tkH 7 ?_
          try simp only [PqL, Act.put]
          refine tkH 8 ?_
          try simp only [PqL, Act.put]
          refine tkH 9 ?_
          try simp only [PqL, Act.put]
          refine wpAnyH_ready (rs := [10]) (by kernel_rfl) (by simp) ?_
          refine AllReadyH.cons (o := _) rfl (fun K hK => ?_) AllReadyH.nil
          go_simp
          refine (sit_poke ix sb Aj ob.length cj ob _ (HS8.out.below (Below.drew (Below.refl _ _))) HSR.out.1 (by have := H200.out; omega) rfl HO.out.1 (by have := HO.out.2.2.1; omega) (HO.out.2.1.below (Below.drew HB8.out))).mono ?_
          rintro e w5 ⟨rfl, hS5, ho5⟩
          have HQ5 := hide (blk_only (HQ8.out.below (Below.drew (Below.refl _ _)) HQ8.out.lt) ho5 (fun hx => hx.2 (.inr ⟨Nat.le_refl _, HQ8.out.lt⟩)))
          have HB5 := hide (free_below ho5 (Below.drew (below_step HB8.out HBr.out)) (Nat.le_refl _) (Nat.le_refl _))
          have HS5 := hide (hS5.less (K' := fun _ => False) (fun g h => h.elim))
          have HVC5 := hide (And.intro (vals_put HSR.out.1 HSi.out.lenV HVC.out.1 ix sb ob true) (crs_more HVC.out.2 (show k < 30 by omega)))
          obtain ⟨_, _, m0, _⟩ := hS5.cells
          dsimp only
          refine hK.out _ _ ?hS32 (fun hHeld => ?rest32)
          case hS32 => ((try dsimp only); (exact ⟨m0, HQ5.out.cell 1 rfl, HQ5.out.cell 2 rfl, HQ5.out.cell 5 rfl⟩))
          case' rest32 => (clear hK K; try simp only [PqL, Act.put])
          refine wpAnyH_done (by kernel_rfl) ?_ _
          have hEnd := hHeld.2
          repeat (clear hHeld)
          have f0 := HQ5.out.cell 0 (u := .int .i64 0) rfl
          clear hEnd hS5 ho5 m0 p0 e0 e1 e2 e5
          go_wp2_with fail
          go_roundw
          case rel => exact ⟨k + 1, _, _, pv, T, by omega, by omega, by go_num, rfl, HVC5, HS5, HB5⟩
          case measure => simp [intOf]; omega
        · by_cases hk1 : kd = 1
          · subst hk1
            as_aux_lemma =>
              have HQ8 := hide q8
              have HB8 := hide hb8
              have HS8 := hide (HSi.out.below hb8)
              have hgl : X.length ≤ 200 := by
                have := good_len HSR.out.1 HVC.out.2.good.1 (fun v hv => by
                  obtain ⟨j, E, h1, _, _, h5, h6⟩ := HVC.out.2.good.2 v hv
                  exact ⟨j, E, h1, h5, h6⟩)
                have := HL9.out
                omega
              have HGL := hide hgl
              obtain ⟨c4, hc4⟩ : ∃ x : Int, x = on % 4 := ⟨_, rfl⟩
              have h4a : 0 ≤ c4 := by omega
              have h4b : c4 < 4 := by omega
              have H4 := hide (And.intro h4a h4b)
              have hw4 : IntKind.i64.wrap (1 + c4) = 1 + c4 := by rw [IntKind.wrap_i64]; omega
              have HCN := hide (fun W => count_any on 4 W (by decide) (by decide))
              rw [← hc4] at HCN
              have e0 := q8.cell 0 (u := .int .i64 1) rfl
              have e3 := q8.cell 3 (u := .int .i64 on) rfl
              clear q8 hb8 hgl hc4
              go_wp2_with fail
              refine (HCN.out _).mono ?_
              rintro e w9 ⟨rfl, rfl⟩
              go_wp2_with fail
              refine (sit_vvalues _ HS8.out).mono ?_
              rintro e w10 ⟨A10, n10, c10, ds10, rfl, hO10, hb10⟩
              rw [drop_zero] at hO10
              have HO10 := hide hO10
              have HB10 := hide (below_step hb10 HB8.out)
              have HQ10 := hide (HQ8.out.below hb10 HQ8.out.lt)
              have h10 : n10 ≤ 200 := by rw [hO10.hn]; exact HGL.out
              have z8 := HB8.out.size
              clear hO10 hb10 e0 e3
              go_wp2_with fail
              refine (rsnap_drop A10 n10 c10 X (1 + c4) _ HO10.out.hn (by omega) HO10.out.slV (good_fits HVC.out.2.good) (good_I64 HSR.out.2 HVC.out.2.good)).mono ?_
              rintro e w11 ⟨A11, n11, c11, ds11, rfl, hO11, hb11⟩
              have HO11 := hide hO11
              have HO10b := hide (HO10.out.below hb11)
              have HB11 := hide (below_step hb11 HB10.out)
              have HQ11 := hide (HQ10.out.below hb11 HQ10.out.lt)
              have e0 := HQ11.out.cell 0 (u := .int .i64 1) rfl
              have z10 := HB10.out.size
              clear hO11 hb11
              have x0 := (HQB.out.below (below_step HB11.out HBr.out) HQB.out.lt).cell 0 (u := .slice A n' c) rfl
              go_wp2_with fail
              refine (rdic_new A n' c L _ HN.out (HL.out.below (below_step HB11.out (below_step HBr.out HBB.out))) HFT.out).mono ?_
              rintro e w12 ⟨pr2, er, at', rfl, hnp, h3, hb12⟩
              obtain ⟨at0, hNP0⟩ := HNP.out
              obtain ⟨rfl, rfl⟩ := new_one hNP0 hnp
              obtain ⟨Al, n2, cl2, Av2, cv2, ds2, es2, hn2, hD2⟩ := h3 rfl
              have h2000 : n2 ≤ 1000 := by rw [hn2]; have := HL9.out; omega
              have HD12 := hide (hD2.mono (G := fun g => w11.heap.size ≤ g ∧ g < w12.heap.size) (fun g h1 h2 => ⟨h2, h1⟩))
              have HB12 := hide (below_step hb12 HB11.out)
              have HBy12 := hide hb12
              have HQ12 := hide (HQ11.out.below hb12 HQ11.out.lt)
              have HO11b := hide (HO11.out.below hb12)
              have HO10c := hide (HO10b.out.below hb12)
              have z11 := HB11.out.size
              have z12 := hb12.size
              have HS12 := hide (HSi.out.below HB12.out)
              obtain ⟨_, _, p0, _⟩ := HS12.out.cells
              clear hnp h3 hD2 hb12 e0 x0
              go_wp2_with fail
              refine (sit_values _ HS12.out (by have := H200.out; omega)).mono ?_
              rintro e w15 ⟨A15, n15, c15, ds15, rfl, hO15, _, hb15⟩
              have hn15 : n' = n15 := by rw [hO15.hn, svL_len _ _ HSi.out.lenV, HN.out]
              subst hn15
              have HO15 := hide (OwnF.mono hO15 (G := fun g => w12.heap.size ≤ g ∧ g < w15.heap.size) (fun g h1 h2 => ⟨h2, h1⟩))
              have HB15 := hide (below_step hb15 HB12.out)
              have HB1115 := hide (below_step hb15 HBy12.out)
              have HD15 := hide ((HD12.out.below hb15).mono (G := fun g => (w11.heap.size ≤ g ∧ g < w12.heap.size) ∨ w15.heap.size ≤ g) (fun g h1 h2 => .inl h2))
              have z15 := hb15.size
              have HLV := hide HSi.out.lenV
              clear hO15 hb15 p0 HD12
              go_wp2_with fail
              go_loopw [16] (fun j wr => ∃ k9 es9, k9 ≤ n' ∧ j = .int .i64 (k9 : Nat) ∧ Hid (DB 112 wr (fun g => (w11.heap.size ≤ g ∧ g < w12.heap.size) ∨ w15.heap.size ≤ g) pr2 Al n2 cl2 Av2 cv2 L (pokeAll L (L.map Ent.df) ((svL L V).take k9)) ds2 es9) ∧ Hid (OwnSV wr (fun g => w12.heap.size ≤ g ∧ g < w15.heap.size) A15 n' c15 (svL L V) ds15) ∧ Hid (Below w11.heap.size w11 wr) ∧ Hid (w15.heap.size ≤ wr.heap.size)) (fun j _ => n' - (intOf j).toNat)
              case atStart => exact ⟨0, es2, by omega, rfl, HD15, HO15, HB1115, hide (Nat.le_refl _)⟩
              case round =>
                obtain ⟨k9, es9, hk9, rfl, HD9, HO9, HB9, HZ9⟩ := hrel
                have h200v : n' ≤ 200 := H200.out
                by_cases hlt9 : k9 < n'
                · obtain ⟨E, hE⟩ : ∃ E, L[k9]? = some E := ⟨L[k9]'(by rw [← HN.out]; exact hlt9), List.getElem?_eq_getElem _⟩
                  obtain ⟨u, hu⟩ : ∃ u, V[k9]? = some u := ⟨V[k9]'(by rw [HLV.out, ← HN.out]; exact hlt9), List.getElem?_eq_getElem _⟩
                  obtain ⟨d9, hd9, hOd9, _⟩ := HO9.out.elem (svL_at hE hu)
                  obtain ⟨g9, hA9, z9, hc9⟩ := HO9.out.cells svF_len (svL_at hE hu) hd9 (by omega)
                  have e1 : wr.cell? ⟨g9, k9 * 3, none⟩ = some (.int .i64 E.ix) := hc9 0 _ rfl
                  have e2 : wr.cell? ⟨g9, k9 * 3 + 1, none⟩ = some (.int .i64 E.sub) := hc9 1 _ rfl
                  have e5 : wr.cell? ⟨g9, k9 * 3 + 2, none⟩ = some (.slice d9.1 u.length d9.2) := hc9 2 _ rfl
                  have HOd := hide hOd9
                  have HPT := hide (pokeAll_take (L := L) (V := L.map Ent.df) (svL_at hE hu))
                  have hul : u.length ≤ 35184372088832 := by
                    have := vals_le9 HVC.out.1 HLV.out u (List.mem_of_getElem? hu)
                    omega
                  have HUL := hide hul
                  have HOV := hide (fun W (h : Below wr.heap.size wr W) => OwnF.below HO9.out h)
                  have HG9 : Hid (¬ ((w11.heap.size ≤ g9 ∧ g9 < w12.heap.size) ∨ w15.heap.size ≤ g9)) := hide (by have h := HO9.out.inF g9 hA9; rintro (hh | hh) <;> omega)
                  subst hA9
                  obtain ⟨i1', i2', i3'⟩ := idx_at hlt9
                  clear hE hu hd9 hOd9 hc9 hul
                  go_wp2_with fail
                  refine wp_region_held_drew (S := (fun w' => w'.cell? ⟨g9, k9 * 3, none⟩ = some (.int .i64 E.ix) ∧ w'.cell? ⟨g9, k9 * 3 + 1, none⟩ = some (.int .i64 E.sub) ∧ w'.cell? ⟨g9, k9 * 3 + 2, none⟩ = some (.slice d9.1 u.length d9.2))) (by kernel_rfl) ?hS34 (fun hHeld => ?rest34)
                  case hS34 => ((try dsimp only); (exact ⟨e1, e2, e5⟩))
                  case' rest34 => skip
                  refine tkH 0 ?_
                  try simp only [PqL, Act.put]
                  refine tkH 1 ?_
                  try simp only [PqL, Act.put]
                  refine tkH 2 ?_
                  try simp only [PqL, Act.put]
                  refine tkH 3 ?_
                  try simp only [PqL, Act.put]
                  refine tkH 4 ?_
                  try simp only [PqL, Act.put]
                  refine tkH 5 ?_
                  try simp only [PqL, Act.put]
                  refine tkH 6 ?_
                  try simp only [PqL, Act.put]
                  refine tkH 7 ?_
                  try simp only [PqL, Act.put]
                  refine tkH 8 ?_
                  try simp only [PqL, Act.put]
                  refine tkH 9 ?_
                  try simp only [PqL, Act.put]
                  refine tkH 10 ?_
                  try simp only [PqL, Act.put]
                  refine tkH 11 ?_
                  try simp only [PqL, Act.put]
                  refine tkH 12 ?_
                  try simp only [PqL, Act.put]
                  refine tkH 13 ?_
                  try simp only [PqL, Act.put]
                  refine tkH 14 ?_
                  try simp only [PqL, Act.put]
                  refine tkH 15 ?_
                  try simp only [PqL, Act.put]
                  refine wpAnyH_ready (rs := [16]) (by kernel_rfl) (by simp) ?_
                  refine AllReadyH.cons (o := _) rfl (fun K hK => ?_) AllReadyH.nil
                  go_simp
                  refine (rdic_poke E.ix E.sub d9.1 u.length d9.2 u _ (HD9.out.below (Below.drew (Below.refl _ _))) h2000 rfl HOd.out.own.le HUL.out (HOd.out.sl.below (Below.drew (Below.refl _ _)))).mono ?_
                  rintro e w6 ⟨V6, es6, rfl, hV6, hD6, ho6'⟩
                  have ho6 := only_undrew' ho6'
                  rw [← HPT.out] at hV6
                  subst hV6
                  have HZ6 := hide (Nat.le_trans HZ9.out ho6.size)
                  have HD6 := hide (hD6.mono (G := fun g => (w11.heap.size ≤ g ∧ g < w12.heap.size) ∨ w15.heap.size ≤ g) (fun g h1 h2 => h2.elim id (fun h => .inr (Nat.le_trans HZ9.out h))))
                  have HO6 := hide (OwnF.keep HO9.out (fun g hg hlt => ho6.block g hlt (fun hf => by rcases hf with h | h <;> omega)))
                  have HB6 := hide (HB9.out.trans (ho6.below HB9.out.size (fun i hi => by rcases hi with h | h <;> omega)))
                  have c1' : w6.cell? ⟨g9, k9 * 3, none⟩ = some (.int .i64 E.ix) := (ho6.cell9 (p := ⟨g9, k9 * 3, none⟩) z9 (HG9.out)).trans e1
                  have c2'' : w6.cell? ⟨g9, k9 * 3 + 1, none⟩ = some (.int .i64 E.sub) := (ho6.cell9 (p := ⟨g9, k9 * 3 + 1, none⟩) z9 (HG9.out)).trans e2
                  have c5' : w6.cell? ⟨g9, k9 * 3 + 2, none⟩ = some (.slice d9.1 u.length d9.2) := (ho6.cell9 (p := ⟨g9, k9 * 3 + 2, none⟩) z9 (HG9.out)).trans e5
                  dsimp only
                  refine hK.out _ _ ?hS53 (fun hHeld => ?rest53)
                  case hS53 => ((try dsimp only); (exact ⟨c1', c2'', c5'⟩))
                  case' rest53 => (clear hK K; try simp only [PqL, Act.put])
                  refine wpAnyH_done (by kernel_rfl) ?_ _
                  have hEnd := hHeld.2
                  repeat (clear hHeld)
                  clear hEnd hD6 ho6 ho6' e1 e2 e5 c1' c2'' c5'
                  go_wp2_with fail
                  go_roundw
                  case rel => exact ⟨k9 + 1, es6, by omega, by go_num, HD6, HO6, HB6, HZ6⟩
                  case measure => simp [intOf]; omega
                · have hkn : k9 = n' := by omega
                  have hDx := HD9.out
                  rw [List.take_of_length_le (by rw [svL_len _ _ HLV.out, hkn, HN.out]; exact Nat.le_refl _), poke_self HSR.out.1 (by simp) HLV.out HVC.out.1] at hDx
                  have HDx := hide hDx
                  have HBx := hide (below_step (HB9.out) HB11.out)
                  have HO11x := hide (HO11.out.below HB9.out)
                  have HO10x := hide (HO10b.out.below HB9.out)
                  have HQx := hide (HQ11.out.below HB9.out HQ11.out.lt)
                  have zx := HB9.out.size
                  clear hDx HD9 HO9 HD15 HO15 HQ12 HO11b HO10c HS12
                  go_wp2_with fail
                  refine (rsnap_of (1 + c4) _ HDx.out h2000 (right_I64 HSR.out.2)).mono ?_
                  rintro e w16 ⟨A16, n16, c16, ds16, rfl, hO16, hb16⟩
                  have HO16 := hide hO16
                  have HB16 := hide (below_step hb16 HBx.out)
                  have HO11y := hide (HO11x.out.below hb16)
                  have HO10y := hide (HO10x.out.below hb16)
                  have HQy := hide (HQx.out.below hb16 (by have := HQ11.out.lt; omega))
                  have z16 := HBx.out.size
                  have zy := hb16.size
                  clear hO16 hb16
                  have HGD := hide (good_drop HVC.out.2.good (1 + c4))
                  have HGO := hide (good_ofV HSR.out.1 HVC.out.1 (1 + c4))
                  go_wp2_with fail
                  refine (rsnap_join A11 n11 c11 (dropL X (1 + c4)) A16 n16 c16 (ofV L V (1 + c4)) _ HO11y.out.hn HO11y.out.slV HO16.out.hn HO16.out.slV (good_light HSR.out.1 HGD.out HL9.out) (good_light HSR.out.1 HGO.out HL9.out) (once_sort HGD.out.1) (once_sort HGO.out.1)).mono ?_
                  rintro e wK ⟨Aw, nw, cw, dw, rfl, hOw, hbK⟩
                  have HOw := hide hOw
                  have HBK := hide (below_step hbK HB16.out)
                  have HOs := hide (HO10y.out.below hbK)
                  have HQK := hide (HQy.out.below hbK (by have := HQ11.out.lt; omega))
                  have HWB : Hid (wo.heap.size ≤ w16.heap.size) := hide (by omega)
                  obtain ⟨LW, hLW⟩ : ∃ l, l = joinV (dropL X (1 + c4)) (ofV L V (1 + c4)) := ⟨_, rfl⟩
                  have HGW := hide (show GoodX L LW from by rw [hLW]; exact good_join HGD.out HGO.out)
                  rw [← hLW] at HOw
                  have HLW := hide hLW
                  obtain ⟨bw, hbw⟩ : ∃ x, x = w16.heap.size := ⟨_, rfl⟩
                  rw [← hbw] at HOw HWB
                  clear hOw hbK hbw hLW HDx HB16 HBx HO11x HO10x HO11y HO10y HQx HQy HO16 HB9 HZ9
                  have HSK := hide (HSi.out.ext HBK.out)
                  have HKK := hide (KP.refl wo.heap.size wK)
                  obtain ⟨_, _, p0, _, p2, _⟩ := HSK.out.cells
                  have HWS : Hid (wo.heap.size ≤ (wo.alloc (.cells #[.int .i64 1, .int .i64 ix, .int .i64 sb, .int .i64 on, .int .u32 (ow : Nat), .slice Aj ob.length cj] 48)).heap.size) := hide (by simp)
                  go_wp2_with fail
                  refine (sit_cut 1099511627776 0 _ HSK.out (by decide) (by show (0 : Nat) < _; decide)).mono ?_
                  rintro e w18 ⟨rfl, hS18, ho18⟩
                  have HS18 := hide hS18
                  have HO18 := hide ho18
                  have HK18 := hide (HKK.out.only ho18)
                  have HQ18 := hide (HK18.out.blk HQK.out (Nat.le_refl _))
                  obtain ⟨_, _, p0', _, p2', _⟩ := hS18.cells
                  have e3 := HQ18.out.cell 3 (u := .int .i64 on) rfl
                  have e4 := HQ18.out.cell 4 (u := .int .u32 (ow : Nat)) rfl
                  obtain ⟨cn, hcn⟩ : ∃ cn : Nat, on % (200 : Int) = ((cn : Nat) : Int) := Int.eq_ofNat_of_zero_le (Int.emod_nonneg _ (by omega))
                  have hcnb : cn ≤ 2000 := by have := Int.emod_lt_of_pos on (show (0 : Int) < 200 by omega); omega
                  have HC2 := hide (fun W => count_any on 200 W (by decide) (by decide))
                  rw [hcn] at HC2
                  have HCC := hide (fun W (h : SitE (fun g => False ∨ (wo.heap.size ≤ g ∧ g < wK.heap.size)) M wB.heap.size W pw pd pv q n' L V (openJ T) { T with ahead := ((1099511627776 : Nat) : Int), mask := 0 } X false false) => sit_cut cn ow W h (by omega) (by show ow < _; have := HO.out.2.2.2; omega))
                  clear hS18 ho18 hcn hcnb p0 p2
                  go_upto_if 151 with fail
                  go_cut [] (fun wx => ∃ (ah : Int) (mk : Nat), Hid (SitE (fun g => False ∨ (wo.heap.size ≤ g ∧ g < wK.heap.size)) M wB.heap.size wx pw pd pv q n' L V (openJ T) { T with ahead := ah, mask := mk } X false false) ∧ Hid (Only (FreeK (fun g => False ∨ (wo.heap.size ≤ g ∧ g < wK.heap.size)) wB.heap.size) wK wx))
                  case first =>
                    obtain ⟨ev, hev⟩ : ∃ b, ((ow : Int) % 3 != 0) = b := ⟨_, rfl⟩
                    cases ev
                    · go_wp2_with fail
                      go_meet
                      case rel => exact ⟨_, _, HS18, HO18⟩
                    · go_wp2_with fail
                      refine wp_region_held_drew (S := (fun w' => w'.cell? ⟨pw, 2, none⟩ = some (.pointer (some ⟨q.p, 0, none⟩)) ∧ w'.cell? ⟨wo.heap.size, 3, none⟩ = some (.int .i64 on) ∧ w'.cell? ⟨wo.heap.size, 4, none⟩ = some (.int .u32 (ow : Nat)))) (by kernel_rfl) ?hS55 (fun hHeld => ?rest55)
                      case hS55 => ((try dsimp only); (exact ⟨p2', e3, e4⟩))
                      case' rest55 => skip
                      refine tkH 0 ?_
                      try simp only [PqL, Act.put]
                      refine tkH 1 ?_
                      try simp only [PqL, Act.put]
                      refine tkH 2 ?_
                      try simp only [PqL, Act.put]
                      refine tkH 3 ?_
                      try simp only [PqL, Act.put]
                      refine tkH 4 ?_
                      try simp only [PqL, Act.put]
                      refine tkH 5 ?_
                      try simp only [PqL, Act.put]
                      refine tkH 7 ?_
                      try simp only [PqL, Act.put]
                      refine tkH 8 ?_
                      try simp only [PqL, Act.put]
                      refine wpAnyH_ready (rs := [6]) (by kernel_rfl) (by simp) ?_
                      refine AllReadyH.cons (o := _) rfl (fun K hK => ?_) AllReadyH.nil
                      go_simp
                      refine (HC2.out _).mono ?_
                      rintro e w5 ⟨rfl, rfl⟩
                      try dsimp only
                      refine hK.out _ _ ?hS66 (fun hHeld => ?rest66)
                      case hS66 => ((try dsimp only); (exact ⟨p2', e3, e4⟩))
                      case' rest66 => (clear hK K; try simp only [PqL, Act.put])
                      refine wpAnyH_ready (rs := [9]) (by kernel_rfl) (by simp) ?_
                      refine AllReadyH.cons (o := _) rfl (fun K hK => ?_) AllReadyH.nil
                      go_simp
                      refine (HCC.out _ (HS18.out.below (below_drew1 (Below.refl _ _)))).mono ?_
                      rintro e w6 ⟨rfl, hS6, hO6⟩
                      have HS6 := hide hS6
                      have hO6' : Only _ w18 w6 := ⟨hO6.os, hO6.tape, hO6.output, hO6.size, hO6.block⟩
                      have HO6 := hide (Only.trans HO18.out hO6' (fun _ _ h => h))
                      have HK6 := hide (HK18.out.only hO6')
                      have q6 := HK6.out.blk HQK.out (Nat.le_refl _)
                      obtain ⟨_, _, _, _, m2, _⟩ := hS6.cells
                      clear hS6 hO6 hO6'
                      try dsimp only
                      refine hK.out _ _ ?hS69 (fun hHeld => ?rest69)
                      case hS69 => ((try dsimp only); (exact ⟨m2, q6.cell 3 rfl, q6.cell 4 rfl⟩))
                      case' rest69 => (clear hK K; try simp only [PqL, Act.put])
                      refine wpAnyH_done (by kernel_rfl) ?_ _
                      have hEnd := hHeld.2
                      repeat (clear hHeld)
                      go_wp2_with fail
                      go_meet
                      case rel => exact ⟨_, _, HS6, HO6⟩
                  case rest =>
                    obtain ⟨ah, mk, HS19, HO19⟩ := hcut
                    have HC19 := hide (crs_cut HVC.out.2 ah mk)
                    have hop : openJ { T with ahead := ah, mask := mk } = openJ T := rfl
                    obtain ⟨T1, hT1⟩ : ∃ S1 : FS, S1 = { T with ahead := ah, mask := mk } := ⟨_, rfl⟩
                    rw [← hT1] at HS19 HC19 hop
                    have HOP := hide hop
                    have HK19 := hide (HKK.out.only HO19.out)
                    have q19 := HK19.out.blk HQK.out (Nat.le_refl _)
                    have e0' := q19.cell 0 (u := .int .i64 1) rfl
                    obtain ⟨_, _, y0, _⟩ := HS19.out.cells
                    have HB19 := hide (free_below HO19.out (below_step HBK.out HBr.out) (Nat.le_refl _) (Nat.le_refl _))
                    have HVL := hide (fun v (hv : v ∈ V) => Nat.le_trans (vals_le9 HVC.out.1 HSi.out.lenV v hv) (show 256 ≤ 2000 by decide))
                    have hops : T1.ops + 2000 < 4611686018427387904 := by have := HC19.out.ops; omega
                    have HOPS := hide hops
                    clear p0' p2' e3 e4 HS18 HO18 HK18 HQ18 q19 hT1 hop hops
                    go_wp2_with fail
                    refine (sit_store a (1 + c4) wc HS19.out (HG.out.below (below_step HB19.out HBB.out)) (.inr ⟨HOP.out.symm, HC19.out.off⟩) HOPS.out ⟨by have := H4.out; omega, by have := H4.out; omega⟩ H200.out HVL.out).mono ?_
                    rintro e w20 ⟨R, hW, rfl, hS20, ho20⟩
                    rw [← HLW.out, ← HOP.out] at hW
                    have hSt := crs_step HSR.out.1 HSR.out.2 HC19.out (show k < 30 by omega) HGW.out (.inl rfl) hW
                    obtain ⟨X2, hC2, hor, h00, hcs⟩ := hSt
                    have HCD := hide (code_zero9 hcs)
                    have HC2' := hide hC2
                    have HOR := hide hor
                    have H00 := hide h00
                    obtain ⟨cd, hcd⟩ : ∃ x : Int, x = ((codeV R.2.2 : Nat) : Int) := ⟨_, rfl⟩
                    rw [← hcd] at HCD ⊢
                    have HK20 := hide (HK19.out.only ho20)
                    have HB20 := hide (free_below ho20 HB19.out (Nat.le_refl _) (Nat.le_refl _))
                    have HS20 := hide hS20
                    obtain ⟨_, _, _, _, y2, _⟩ := hS20.cells
                    clear hW hC2 hor h00 hcs hcd hS20 ho20 y0 e0'
                    go_wp2_with fail
                    refine (sit_start _ HS20.out).mono ?_
                    rintro e w21 ⟨rfl, hS21, ho21⟩
                    have HK21 := hide (HK20.out.only ho21)
                    have HB21 := hide (free_below ho21 HB20.out (Nat.le_refl _) (Nat.le_refl _))
                    have HS21 := hide hS21
                    obtain ⟨_, _, y0, _, y2, _⟩ := hS21.cells
                    clear hS21 ho21
                    go_wp2_with fail
                    refine wp_region_held_drew (S := (fun w' => w'.cell? ⟨pw, 0, none⟩ = some (.pointer (some ⟨pd, 0, none⟩)) ∧ w'.cell? ⟨pw, 2, none⟩ = some (.pointer (some ⟨q.p, 0, none⟩)))) (by kernel_rfl) ?hS71 (fun hHeld => ?rest71)
                    case hS71 => ((try dsimp only); (exact ⟨y0, y2⟩))
                    case' rest71 => skip
                    refine tkH 0 ?_
                    try simp only [PqL, Act.put]
                    refine tkH 1 ?_
                    try simp only [PqL, Act.put]
                    refine tkH 2 ?_
                    try simp only [PqL, Act.put]
                    refine tkH 3 ?_
                    try simp only [PqL, Act.put]
                    refine tkH 4 ?_
                    try simp only [PqL, Act.put]
                    refine tkH 5 ?_
                    try simp only [PqL, Act.put]
                    refine tkH 6 ?_
                    try simp only [PqL, Act.put]
                    refine tkH 7 ?_
                    try simp only [PqL, Act.put]
                    refine wpAnyH_ready (rs := [8]) (by kernel_rfl) (by simp) ?_
                    refine AllReadyH.cons (o := _) rfl (fun K hK => ?_) AllReadyH.nil
                    go_simp
                    refine (sit_open _ (HS21.out.below (Below.drew (Below.refl _ _))) HSR.out.1 (by have := H200.out; omega) rfl HC2'.out.fresh.three).mono ?_
                    rintro e w22 ⟨pv2, rfl, hS22, hb22⟩
                    rw [HC2'.out.rcx] at hS22
                    dsimp only at hS22 ⊢
                    have HS22 := hide hS22
                    have hbb := (Below.drew (Below.refl w21.heap.size w21)).trans hb22
                    have HK22 := hide (HK21.out.below hbb)
                    have HB22 := hide (below_step hbb HB21.out)
                    obtain ⟨_, _, m0, _, m2, _⟩ := hS22.cells
                    refine hK.out _ _ ?hS82 (fun hHeld => ?rest82)
                    case hS82 => ((try dsimp only); (exact ⟨m0, m2⟩))
                    case' rest82 => (clear hK K; try simp only [PqL, Act.put])
                    refine tkH 9 ?_
                    try simp only [PqL, Act.put]
                    refine tkH 10 ?_
                    try simp only [PqL, Act.put]
                    refine tkH 11 ?_
                    try simp only [PqL, Act.put]
                    refine tkH 12 ?_
                    try simp only [PqL, Act.put]
                    refine tkH 13 ?_
                    try simp only [PqL, Act.put]
                    refine wpAnyH_done (by kernel_rfl) ?_ _
                    have hEnd := hHeld.2
                    repeat (clear hHeld)
                    clear hEnd hS22 hb22 hbb m0 m2 y0 y2
                    go_wp2_with fail
                    refine (sit_odd _ HS22.out).mono ?_
                    rintro e w23 ⟨rfl, rfl⟩
                    go_wp2_with fail
                    refine (sit_vvalues _ HS22.out).mono ?_
                    rintro e w24 ⟨A24, n24, c24, ds24, rfl, hO24, hb24⟩
                    rw [drop_zero] at hO24
                    have HO24 := hide hO24
                    have HK24 := hide (HK22.out.below hb24)
                    have HB24 := hide (below_step hb24 HB22.out)
                    have HS24 := hide ((HS22.out.less (K' := fun _ => False) (fun g h => h.elim)).below hb24)
                    have h24 : n24 ≤ 35184372088 := by
                      have := good_len HSR.out.1 HC2'.out.good.1 (fun v hv => by
                        obtain ⟨j, E, h1, _, _, h5, h6⟩ := HC2'.out.good.2 v hv
                        exact ⟨j, E, h1, h5, h6⟩)
                      have := HL9.out
                      rw [hO24.hn]
                      omega
                    have HWA := hide (fun W (h : KP wo.heap.size wK W) (h2 : OwnV W (w22.heap.size) A24 n24 c24 X2 ds24) => same_any A24 Aw n24 nw c24 cw X2 LW W h2.hn HOw.out.hn h2.own.le HOw.out.own.le h24 h2.slV (h.ownV HOw.out HWB.out).slV)
                    have HWS2 := hide (fun W (h : KP wo.heap.size wK W) (h2 : OwnV W (w22.heap.size) A24 n24 c24 X2 ds24) => same_any A24 A10 n24 n10 c24 c10 X2 X W h2.hn HOs.out.hn h2.own.le HOs.out.own.le h24 h2.slV (h.ownV HOs.out HWS.out).slV)
                    have HVC5 := hide (And.intro HVC.out.1 HC2'.out)
                    clear hO24 hb24
                    rcases HCD.out with ⟨rfl, hR0⟩ | ⟨hcz, hR0⟩
                    · have hX2 := H00.out hR0
                      have HX2 := hide hX2
                      clear hX2 hR0
                      go_wp2_with fail
                      refine (HWA.out _ HK24.out HO24.out).mono ?_
                      rintro e w25 ⟨b1, rfl, hb1, hb25⟩
                      obtain rfl := hb1 HX2.out
                      have HK25 := hide (HK24.out.below hb25)
                      have HB25 := hide (below_step hb25 HB24.out)
                      have HS25 := hide (HS24.out.below hb25)
                      have HO25 := hide (HO24.out.below hb25)
                      clear hb1 hb25
                      go_wp2_with fail
                      refine (HWS2.out _ HK25.out HO25.out).mono ?_
                      rintro e w26 ⟨b2, rfl, hb2, hb26⟩
                      have HK26 := hide (HK25.out.below hb26)
                      have HB26 := hide (below_step hb26 HB25.out)
                      have HS26 := hide (HS25.out.below hb26)
                      have HO26 := hide (HO25.out.below hb26)
                      clear hb2 hb26
                      cases b2
                      · go_wp2_with fail
                        refine (HWA.out _ HK26.out HO26.out).mono ?_
                        rintro e w27 ⟨b3, rfl, hb3, hb27⟩
                        obtain rfl := hb3 HX2.out
                        have HB27 := hide (below_step hb27 HB26.out)
                        have HS27 := hide (HS26.out.below hb27)
                        clear hb3 hb27
                        go_wp2_with fail
                        go_roundw
                        case rel => exact ⟨k + 1, _, _, pv2, _, by omega, by omega, by go_num, rfl, HVC5, HS27, HB27⟩
                        case measure => simp [intOf]; omega
                      · go_wp2_with fail
                        go_roundw
                        case rel => exact ⟨k + 1, _, _, pv2, _, by omega, by omega, by go_num, rfl, HVC5, HS26, HB26⟩
                        case measure => simp [intOf]; omega
                    · clear hR0
                      go_wp2_with fail
                      refine (HWS2.out _ HK24.out HO24.out).mono ?_
                      rintro e w26 ⟨b2, rfl, hb2, hb26⟩
                      have HK26 := hide (HK24.out.below hb26)
                      have HB26 := hide (below_step hb26 HB24.out)
                      have HS26 := hide (HS24.out.below hb26)
                      have HO26 := hide (HO24.out.below hb26)
                      have HB2' := hide hb2
                      clear hb2 hb26
                      cases b2
                      · have HX2 : Hid (X2 = LW) := hide (HOR.out.elim id (fun h => by have := HB2'.out h; cases this))
                        go_wp2_with fail
                        refine (HWA.out _ HK26.out HO26.out).mono ?_
                        rintro e w27 ⟨b3, rfl, hb3, hb27⟩
                        obtain rfl := hb3 HX2.out
                        have HB27 := hide (below_step hb27 HB26.out)
                        have HS27 := hide (HS26.out.below hb27)
                        clear hb3 hb27
                        go_wp2_with fail
                        go_roundw
                        case rel => exact ⟨k + 1, _, _, pv2, _, by omega, by omega, by go_num, rfl, HVC5, HS27, HB27⟩
                        case measure => simp [intOf]; omega
                      · go_wp2_with fail
                        go_roundw
                        case rel => exact ⟨k + 1, _, _, pv2, _, by omega, by omega, by go_num, rfl, HVC5, HS26, HB26⟩
                        case measure => simp [intOf]; omega
          · by_cases hk3 : kd = 2
            · subst hk3
              as_aux_lemma =>
                have HQ8 := hide q8
                have HB8 := hide hb8
                have HS8 := hide (HSi.out.below hb8)
                have hgl : X.length ≤ 200 := by
                  have := good_len HSR.out.1 HVC.out.2.good.1 (fun v hv => by
                    obtain ⟨j, E, h1, _, _, h5, h6⟩ := HVC.out.2.good.2 v hv
                    exact ⟨j, E, h1, h5, h6⟩)
                  have := HL9.out
                  omega
                have HGL := hide hgl
                obtain ⟨c4, hc4⟩ : ∃ x : Int, x = on % 4 := ⟨_, rfl⟩
                have h4a : 0 ≤ c4 := by omega
                have h4b : c4 < 4 := by omega
                have H4 := hide (And.intro h4a h4b)
                have hw4 : IntKind.i64.wrap (1 + c4) = 1 + c4 := by rw [IntKind.wrap_i64]; omega
                have HCN := hide (fun W => count_any on 4 W (by decide) (by decide))
                rw [← hc4] at HCN
                have e0 := q8.cell 0 (u := .int .i64 2) rfl
                have e3 := q8.cell 3 (u := .int .i64 on) rfl
                clear q8 hb8 hgl hc4
                go_wp2_with fail
                refine (HCN.out _).mono ?_
                rintro e w9 ⟨rfl, rfl⟩
                go_wp2_with fail
                refine (sit_vvalues _ HS8.out).mono ?_
                rintro e w10 ⟨A10, n10, c10, ds10, rfl, hO10, hb10⟩
                rw [drop_zero] at hO10
                have HO10 := hide hO10
                have HB10 := hide (below_step hb10 HB8.out)
                have HQ10 := hide (HQ8.out.below hb10 HQ8.out.lt)
                have h10 : n10 ≤ 200 := by rw [hO10.hn]; exact HGL.out
                have z8 := HB8.out.size
                clear hO10 hb10 e0 e3
                go_wp2_with fail
                refine (rsnap_drop A10 n10 c10 X (1 + c4) _ HO10.out.hn (by omega) HO10.out.slV (good_fits HVC.out.2.good) (good_I64 HSR.out.2 HVC.out.2.good)).mono ?_
                rintro e w11 ⟨A11, n11, c11, ds11, rfl, hO11, hb11⟩
                have HO11 := hide hO11
                have HO10b := hide (HO10.out.below hb11)
                have HB11 := hide (below_step hb11 HB10.out)
                have HQ11 := hide (HQ10.out.below hb11 HQ10.out.lt)
                have e0 := HQ11.out.cell 0 (u := .int .i64 2) rfl
                have z10 := HB10.out.size
                clear hO11 hb11
                obtain ⟨wK, hwK⟩ : ∃ W, W = w11 := ⟨_, rfl⟩
                subst hwK
                have HBK := HB11
                have HOs := HO10b
                have HQK := HQ11
                have HWB : Hid (wo.heap.size ≤ w10.heap.size) := hide (by omega)
                obtain ⟨LW, hLW⟩ : ∃ l, l = dropL X (1 + c4) := ⟨_, rfl⟩
                have HGW := hide (show GoodX L LW from by rw [hLW]; exact good_drop HVC.out.2.good (1 + c4))
                have HOw := HO11
                rw [← hLW] at HOw
                have HLW := hide hLW
                obtain ⟨bw, hbw⟩ : ∃ x, x = w10.heap.size := ⟨_, rfl⟩
                rw [← hbw] at HOw HWB
                obtain ⟨Aw, hAw⟩ : ∃ x, x = A11 := ⟨_, rfl⟩
                obtain ⟨nw, hnw⟩ : ∃ x, x = n11 := ⟨_, rfl⟩
                obtain ⟨cw, hcw⟩ : ∃ x, x = c11 := ⟨_, rfl⟩
                subst hAw hnw hcw
                clear hbw hLW HO11 HB11 HQ11
                have HSK := hide (HSi.out.ext HBK.out)
                have HKK := hide (KP.refl wo.heap.size wK)
                obtain ⟨_, _, p0, _, p2, _⟩ := HSK.out.cells
                have HWS : Hid (wo.heap.size ≤ (wo.alloc (.cells #[.int .i64 2, .int .i64 ix, .int .i64 sb, .int .i64 on, .int .u32 (ow : Nat), .slice Aj ob.length cj] 48)).heap.size) := hide (by simp)
                have e0 := HQK.out.cell 0 (u := .int .i64 2) rfl
                go_wp2_with fail
                refine (sit_cut 1099511627776 0 _ HSK.out (by decide) (by show (0 : Nat) < _; decide)).mono ?_
                rintro e w18 ⟨rfl, hS18, ho18⟩
                have HS18 := hide hS18
                have HO18 := hide ho18
                have HK18 := hide (HKK.out.only ho18)
                have HQ18 := hide (HK18.out.blk HQK.out (Nat.le_refl _))
                obtain ⟨_, _, p0', _, p2', _⟩ := hS18.cells
                have e3 := HQ18.out.cell 3 (u := .int .i64 on) rfl
                have e4 := HQ18.out.cell 4 (u := .int .u32 (ow : Nat)) rfl
                obtain ⟨cn, hcn⟩ : ∃ cn : Nat, on % (200 : Int) = ((cn : Nat) : Int) := Int.eq_ofNat_of_zero_le (Int.emod_nonneg _ (by omega))
                have hcnb : cn ≤ 2000 := by have := Int.emod_lt_of_pos on (show (0 : Int) < 200 by omega); omega
                have HC2 := hide (fun W => count_any on 200 W (by decide) (by decide))
                rw [hcn] at HC2
                have HCC := hide (fun W (h : SitE (fun g => False ∨ (wo.heap.size ≤ g ∧ g < wK.heap.size)) M wB.heap.size W pw pd pv q n' L V (openJ T) { T with ahead := ((1099511627776 : Nat) : Int), mask := 0 } X false false) => sit_cut cn ow W h (by omega) (by show ow < _; have := HO.out.2.2.2; omega))
                clear hS18 ho18 hcn hcnb p0 p2
                go_upto_if 151 with fail
                go_cut [] (fun wx => ∃ (ah : Int) (mk : Nat), Hid (SitE (fun g => False ∨ (wo.heap.size ≤ g ∧ g < wK.heap.size)) M wB.heap.size wx pw pd pv q n' L V (openJ T) { T with ahead := ah, mask := mk } X false false) ∧ Hid (Only (FreeK (fun g => False ∨ (wo.heap.size ≤ g ∧ g < wK.heap.size)) wB.heap.size) wK wx))
                case first =>
                  obtain ⟨ev, hev⟩ : ∃ b, ((ow : Int) % 3 != 0) = b := ⟨_, rfl⟩
                  cases ev
                  · go_wp2_with fail
                    go_meet
                    case rel => exact ⟨_, _, HS18, HO18⟩
                  · go_wp2_with fail
                    refine wp_region_held_drew (S := (fun w' => w'.cell? ⟨pw, 2, none⟩ = some (.pointer (some ⟨q.p, 0, none⟩)) ∧ w'.cell? ⟨wo.heap.size, 3, none⟩ = some (.int .i64 on) ∧ w'.cell? ⟨wo.heap.size, 4, none⟩ = some (.int .u32 (ow : Nat)))) (by kernel_rfl) ?hS89 (fun hHeld => ?rest89)
                    case hS89 => ((try dsimp only); (exact ⟨p2', e3, e4⟩))
                    case' rest89 => skip
                    refine tkH 0 ?_
                    try simp only [PqL, Act.put]
                    refine tkH 1 ?_
                    try simp only [PqL, Act.put]
                    refine tkH 2 ?_
                    try simp only [PqL, Act.put]
                    refine tkH 3 ?_
                    try simp only [PqL, Act.put]
                    refine tkH 4 ?_
                    try simp only [PqL, Act.put]
                    refine tkH 5 ?_
                    try simp only [PqL, Act.put]
                    refine tkH 7 ?_
                    try simp only [PqL, Act.put]
                    refine tkH 8 ?_
                    try simp only [PqL, Act.put]
                    refine wpAnyH_ready (rs := [6]) (by kernel_rfl) (by simp) ?_
                    refine AllReadyH.cons (o := _) rfl (fun K hK => ?_) AllReadyH.nil
                    go_simp
                    refine (HC2.out _).mono ?_
                    rintro e w5 ⟨rfl, rfl⟩
                    try dsimp only
                    refine hK.out _ _ ?hS100 (fun hHeld => ?rest100)
                    case hS100 => ((try dsimp only); (exact ⟨p2', e3, e4⟩))
                    case' rest100 => (clear hK K; try simp only [PqL, Act.put])
                    refine wpAnyH_ready (rs := [9]) (by kernel_rfl) (by simp) ?_
                    refine AllReadyH.cons (o := _) rfl (fun K hK => ?_) AllReadyH.nil
                    go_simp
                    refine (HCC.out _ (HS18.out.below (below_drew1 (Below.refl _ _)))).mono ?_
                    rintro e w6 ⟨rfl, hS6, hO6⟩
                    have HS6 := hide hS6
                    have hO6' : Only _ w18 w6 := ⟨hO6.os, hO6.tape, hO6.output, hO6.size, hO6.block⟩
                    have HO6 := hide (Only.trans HO18.out hO6' (fun _ _ h => h))
                    have HK6 := hide (HK18.out.only hO6')
                    have q6 := HK6.out.blk HQK.out (Nat.le_refl _)
                    obtain ⟨_, _, _, _, m2, _⟩ := hS6.cells
                    clear hS6 hO6 hO6'
                    try dsimp only
                    refine hK.out _ _ ?hS103 (fun hHeld => ?rest103)
                    case hS103 => ((try dsimp only); (exact ⟨m2, q6.cell 3 rfl, q6.cell 4 rfl⟩))
                    case' rest103 => (clear hK K; try simp only [PqL, Act.put])
                    refine wpAnyH_done (by kernel_rfl) ?_ _
                    have hEnd := hHeld.2
                    repeat (clear hHeld)
                    go_wp2_with fail
                    go_meet
                    case rel => exact ⟨_, _, HS6, HO6⟩
                case rest =>
                  obtain ⟨ah, mk, HS19, HO19⟩ := hcut
                  have HC19 := hide (crs_cut HVC.out.2 ah mk)
                  have hop : openJ { T with ahead := ah, mask := mk } = openJ T := rfl
                  obtain ⟨T1, hT1⟩ : ∃ S1 : FS, S1 = { T with ahead := ah, mask := mk } := ⟨_, rfl⟩
                  rw [← hT1] at HS19 HC19 hop
                  have HOP := hide hop
                  have HK19 := hide (HKK.out.only HO19.out)
                  have q19 := HK19.out.blk HQK.out (Nat.le_refl _)
                  have e0' := q19.cell 0 (u := .int .i64 2) rfl
                  obtain ⟨_, _, y0, _⟩ := HS19.out.cells
                  have HB19 := hide (free_below HO19.out (below_step HBK.out HBr.out) (Nat.le_refl _) (Nat.le_refl _))
                  have HVL := hide (fun v (hv : v ∈ V) => Nat.le_trans (vals_le9 HVC.out.1 HSi.out.lenV v hv) (show 256 ≤ 2000 by decide))
                  have hops : T1.ops + 2000 < 4611686018427387904 := by have := HC19.out.ops; omega
                  have HOPS := hide hops
                  clear p0' p2' e3 e4 HS18 HO18 HK18 HQ18 q19 hT1 hop hops e0
                  go_wp2_with fail
                  refine (sit_restore a (1 + c4) wc HS19.out (HG.out.below (below_step HB19.out HBB.out)) (.inr ⟨HOP.out.symm, HC19.out.off⟩) HOPS.out ⟨by have := H4.out; omega, by have := H4.out; omega⟩).mono ?_
                  rintro e w20 ⟨R, hW, rfl, hS20, ho20⟩
                  rw [← HLW.out, ← HOP.out] at hW
                  have hSt := crs_step HSR.out.1 HSR.out.2 HC19.out (show k < 30 by omega) HGW.out (by by_cases h0 : LW.length = 0; exact .inr ⟨by rw [if_pos h0], List.eq_nil_of_length_eq_zero h0⟩; exact .inl (by rw [if_neg h0])) hW
                  obtain ⟨X2, hC2, hor, h00, hcs⟩ := hSt
                  have HCD := hide (code_zero9 hcs)
                  have HC2' := hide hC2
                  have HOR := hide hor
                  have H00 := hide h00
                  obtain ⟨cd, hcd⟩ : ∃ x : Int, x = ((codeV R.2.2 : Nat) : Int) := ⟨_, rfl⟩
                  rw [← hcd] at HCD ⊢
                  have HK20 := hide (HK19.out.only ho20)
                  have HB20 := hide (free_below ho20 HB19.out (Nat.le_refl _) (Nat.le_refl _))
                  have HS20 := hide hS20
                  obtain ⟨_, _, _, _, y2, _⟩ := hS20.cells
                  clear hW hC2 hor h00 hcs hcd hS20 ho20 y0 e0'
                  go_wp2_with fail
                  refine (sit_start _ HS20.out).mono ?_
                  rintro e w21 ⟨rfl, hS21, ho21⟩
                  have HK21 := hide (HK20.out.only ho21)
                  have HB21 := hide (free_below ho21 HB20.out (Nat.le_refl _) (Nat.le_refl _))
                  have HS21 := hide hS21
                  obtain ⟨_, _, y0, _, y2, _⟩ := hS21.cells
                  clear hS21 ho21
                  go_wp2_with fail
                  refine wp_region_held_drew (S := (fun w' => w'.cell? ⟨pw, 0, none⟩ = some (.pointer (some ⟨pd, 0, none⟩)) ∧ w'.cell? ⟨pw, 2, none⟩ = some (.pointer (some ⟨q.p, 0, none⟩)))) (by kernel_rfl) ?hS105 (fun hHeld => ?rest105)
                  case hS105 => ((try dsimp only); (exact ⟨y0, y2⟩))
                  case' rest105 => skip
                  refine tkH 0 ?_
                  try simp only [PqL, Act.put]
                  refine tkH 1 ?_
                  try simp only [PqL, Act.put]
                  refine tkH 2 ?_
                  try simp only [PqL, Act.put]
                  refine tkH 3 ?_
                  try simp only [PqL, Act.put]
                  refine tkH 4 ?_
                  try simp only [PqL, Act.put]
                  refine tkH 5 ?_
                  try simp only [PqL, Act.put]
                  refine tkH 6 ?_
                  try simp only [PqL, Act.put]
                  refine tkH 7 ?_
                  try simp only [PqL, Act.put]
                  refine wpAnyH_ready (rs := [8]) (by kernel_rfl) (by simp) ?_
                  refine AllReadyH.cons (o := _) rfl (fun K hK => ?_) AllReadyH.nil
                  go_simp
                  refine (sit_open _ (HS21.out.below (Below.drew (Below.refl _ _))) HSR.out.1 (by have := H200.out; omega) rfl HC2'.out.fresh.three).mono ?_
                  rintro e w22 ⟨pv2, rfl, hS22, hb22⟩
                  rw [HC2'.out.rcx] at hS22
                  dsimp only at hS22 ⊢
                  have HS22 := hide hS22
                  have hbb := (Below.drew (Below.refl w21.heap.size w21)).trans hb22
                  have HK22 := hide (HK21.out.below hbb)
                  have HB22 := hide (below_step hbb HB21.out)
                  obtain ⟨_, _, m0, _, m2, _⟩ := hS22.cells
                  refine hK.out _ _ ?hS116 (fun hHeld => ?rest116)
                  case hS116 => ((try dsimp only); (exact ⟨m0, m2⟩))
                  case' rest116 => (clear hK K; try simp only [PqL, Act.put])
                  refine tkH 9 ?_
                  try simp only [PqL, Act.put]
                  refine tkH 10 ?_
                  try simp only [PqL, Act.put]
                  refine tkH 11 ?_
                  try simp only [PqL, Act.put]
                  refine tkH 12 ?_
                  try simp only [PqL, Act.put]
                  refine tkH 13 ?_
                  try simp only [PqL, Act.put]
                  refine wpAnyH_done (by kernel_rfl) ?_ _
                  have hEnd := hHeld.2
                  repeat (clear hHeld)
                  clear hEnd hS22 hb22 hbb m0 m2 y0 y2
                  go_wp2_with fail
                  refine (sit_odd _ HS22.out).mono ?_
                  rintro e w23 ⟨rfl, rfl⟩
                  go_wp2_with fail
                  refine (sit_vvalues _ HS22.out).mono ?_
                  rintro e w24 ⟨A24, n24, c24, ds24, rfl, hO24, hb24⟩
                  rw [drop_zero] at hO24
                  have HO24 := hide hO24
                  have HK24 := hide (HK22.out.below hb24)
                  have HB24 := hide (below_step hb24 HB22.out)
                  have HS24 := hide ((HS22.out.less (K' := fun _ => False) (fun g h => h.elim)).below hb24)
                  have h24 : n24 ≤ 35184372088 := by
                    have := good_len HSR.out.1 HC2'.out.good.1 (fun v hv => by
                      obtain ⟨j, E, h1, _, _, h5, h6⟩ := HC2'.out.good.2 v hv
                      exact ⟨j, E, h1, h5, h6⟩)
                    have := HL9.out
                    rw [hO24.hn]
                    omega
                  have HWA := hide (fun W (h : KP wo.heap.size wK W) (h2 : OwnV W (w22.heap.size) A24 n24 c24 X2 ds24) => same_any A24 Aw n24 nw c24 cw X2 LW W h2.hn HOw.out.hn h2.own.le HOw.out.own.le h24 h2.slV (h.ownV HOw.out HWB.out).slV)
                  have HWS2 := hide (fun W (h : KP wo.heap.size wK W) (h2 : OwnV W (w22.heap.size) A24 n24 c24 X2 ds24) => same_any A24 A10 n24 n10 c24 c10 X2 X W h2.hn HOs.out.hn h2.own.le HOs.out.own.le h24 h2.slV (h.ownV HOs.out HWS.out).slV)
                  have HVC5 := hide (And.intro HVC.out.1 HC2'.out)
                  clear hO24 hb24
                  rcases HCD.out with ⟨rfl, hR0⟩ | ⟨hcz, hR0⟩
                  · have hX2 := H00.out hR0
                    have HX2 := hide hX2
                    clear hX2 hR0
                    go_wp2_with fail
                    refine (HWA.out _ HK24.out HO24.out).mono ?_
                    rintro e w25 ⟨b1, rfl, hb1, hb25⟩
                    obtain rfl := hb1 HX2.out
                    have HK25 := hide (HK24.out.below hb25)
                    have HB25 := hide (below_step hb25 HB24.out)
                    have HS25 := hide (HS24.out.below hb25)
                    have HO25 := hide (HO24.out.below hb25)
                    clear hb1 hb25
                    go_wp2_with fail
                    refine (HWS2.out _ HK25.out HO25.out).mono ?_
                    rintro e w26 ⟨b2, rfl, hb2, hb26⟩
                    have HK26 := hide (HK25.out.below hb26)
                    have HB26 := hide (below_step hb26 HB25.out)
                    have HS26 := hide (HS25.out.below hb26)
                    have HO26 := hide (HO25.out.below hb26)
                    clear hb2 hb26
                    cases b2
                    · go_wp2_with fail
                      refine (HWA.out _ HK26.out HO26.out).mono ?_
                      rintro e w27 ⟨b3, rfl, hb3, hb27⟩
                      obtain rfl := hb3 HX2.out
                      have HB27 := hide (below_step hb27 HB26.out)
                      have HS27 := hide (HS26.out.below hb27)
                      clear hb3 hb27
                      go_wp2_with fail
                      go_roundw
                      case rel => exact ⟨k + 1, _, _, pv2, _, by omega, by omega, by go_num, rfl, HVC5, HS27, HB27⟩
                      case measure => simp [intOf]; omega
                    · go_wp2_with fail
                      go_roundw
                      case rel => exact ⟨k + 1, _, _, pv2, _, by omega, by omega, by go_num, rfl, HVC5, HS26, HB26⟩
                      case measure => simp [intOf]; omega
                  · clear hR0
                    go_wp2_with fail
                    refine (HWS2.out _ HK24.out HO24.out).mono ?_
                    rintro e w26 ⟨b2, rfl, hb2, hb26⟩
                    have HK26 := hide (HK24.out.below hb26)
                    have HB26 := hide (below_step hb26 HB24.out)
                    have HS26 := hide (HS24.out.below hb26)
                    have HO26 := hide (HO24.out.below hb26)
                    have HB2' := hide hb2
                    clear hb2 hb26
                    cases b2
                    · have HX2 : Hid (X2 = LW) := hide (HOR.out.elim id (fun h => by have := HB2'.out h; cases this))
                      go_wp2_with fail
                      refine (HWA.out _ HK26.out HO26.out).mono ?_
                      rintro e w27 ⟨b3, rfl, hb3, hb27⟩
                      obtain rfl := hb3 HX2.out
                      have HB27 := hide (below_step hb27 HB26.out)
                      have HS27 := hide (HS26.out.below hb27)
                      clear hb3 hb27
                      go_wp2_with fail
                      go_roundw
                      case rel => exact ⟨k + 1, _, _, pv2, _, by omega, by omega, by go_num, rfl, HVC5, HS27, HB27⟩
                      case measure => simp [intOf]; omega
                    · go_wp2_with fail
                      go_roundw
                      case rel => exact ⟨k + 1, _, _, pv2, _, by omega, by omega, by go_num, rfl, HVC5, HS26, HB26⟩
                      case measure => simp [intOf]; omega
            · have u0 : (kd == 0) = false := by simp [hk0]
              have u1 : (kd == 1) = false := by simp [hk1]
              have u2 : (kd == 2) = false := by simp [hk3]
              have v1 : (kd != 1) = true := by simp [hk1]
              have v2 : (kd != 2) = true := by simp [hk3]
              have HS8 := hide (HSi.out.below hb8)
              have HB8 := hide (below_step hb8 HBr.out)
              have HVC5 := hide (And.intro HVC.out.1 (crs_more HVC.out.2 (show k < 30 by omega)))
              clear q8 hb8
              go_wp2_with fail
              go_roundw
              case rel => exact ⟨k + 1, _, _, pv, T, by omega, by omega, by go_num, rfl, HVC5, HS8, HB8⟩
              case measure => simp [intOf]; omega
      · have u1 : decide ((k : Int) < 25) = false := by simp; omega
        have u2 : decide (k < 25) = false := by simp; omega
        go_wp2_with fail
        refine (HKN.out _ (below_step HBr.out HBB.out)).mono ?_
        rintro e w9 ⟨rfl, hb9⟩
        have HB9 := hide (below_step hb9 (below_step HBr.out HBB.out))
        clear hb9
        go_wp2_with fail
        go_ret
        exact (⟨rfl, HB9.out⟩ : TrueB w _ _)
    · go_wp2_with fail
      refine (HKN.out _ (below_step HBr.out HBB.out)).mono ?_
      rintro e w9 ⟨rfl, hb9⟩
      have HB9 := hide (below_step hb9 (below_step HBr.out HBB.out))
      clear hb9
      go_wp2_with fail
      go_ret
      exact (⟨rfl, HB9.out⟩ : TrueB w _ _)
end
end Go.Proofs.YtehabbnohoomjaaGreatDoor
