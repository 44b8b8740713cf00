/- The reference of seg: up. -/
import Derived.Test.YtimdmhhgomfijaaGreatRSgD
namespace Go.Proofs.YtimdmhhgomfijaaGreat
set_option linter.unusedVariables false
set_option linter.unusedSimpArgs false
set_option linter.unnecessarySimpa false
section
open Go.RowKit
set_option maxRecDepth 100000
set_option maxHeartbeats 40000000
section
variable {F : Nat → Prop} {pd n cl cv : Nat} {Al Av : Option Addr} {L : List Ent} {V : List (List UInt8)} {ds es : List (Option Addr × Nat)}
theorem rsg_up (p : Nat) (S : SegS) (G : Nat → Prop) (M : Ms) (A3 : Option Addr) (m3 c3 : Nat) (w : World) (hD : DB 82 w F pd Al n cl Av cv L V ds es) (hn : n ≤ 1000) (hv : ∀ v ∈ V, v.length ≤ 256)
    (hp : ¬ F p) (hS : RV_ w G p pd S) (h0 : S.st = 0) :
    Calls Tryz.prog 71 #[.pointer (some ⟨p, 0, none⟩), .agg (msV M A3 m3 c3)] w (ROutR w G p pd (upS L V S M) (upO L V M)) := by
  obtain ⟨R, A, n1, c1, hal, hB, _⟩ := id hS
  have hR0 : R.st = 0 := hal.1.symm.trans h0
  obtain ⟨P, hP⟩ : ∃ P, P = ROutR w G p pd (upS L V S M) (upO L V M) := ⟨_, rfl⟩
  rw [← hP]
  have HP := hide hP
  have hz := hB.lt
  have H1 := hide hn
  have HV := hide hv
  have HR0 := hide hR0
  have hne1 : w.heap.size + 1 ≠ p := by omega
  have hne0 : w.heap.size ≠ p := by omega
  have HD := hide (fun W (h : Only (fun q => q = p) w W) => hD.keep (w' := W) (fun g hg hlt => h.block g hlt (fun e => hp (e ▸ hg))))
  have HH0 := (PX.start (cs := srvL R pd A n1 c1) hB).new2 rfl 48 90 (msL_ M A3 m3 c3) (outL_ none 0 0 outZ none 0 0)
  have HH := hide HH0
  have HS0 := hide h0
  clear hP hS hB hD hn hv HH0 hal hR0 h0
  unfold msL_ outL_ outZ at HH
  unfold msV
  go_enter Tryz.func71, Tryz.ntmps71
  go_wp2_with fail
  refine wp_gen (P := PX w p 52 (srvL R pd A n1 c1) [⟨w.heap.size + 1, 90, outL_ none 0 0 outZ none 0 0⟩, ⟨w.heap.size, 48, msL_ M A3 m3 c3⟩]) HH.out (fun W hW => ?_)
  clear HH
  have HX := hide hW
  have zW := hW.lt
  have hwz : w.heap.size + 2 ≤ W.heap.size := by
    have := hW.k0.lt
    show w.heap.size + 1 < W.heap.size
    exact this
  have zk1 : w.heap.size < W.heap.size := by omega
  have b0 : W.cell? ⟨p, 0, none⟩ = some (.pointer (some ⟨pd, 0, none⟩)) := hW.blk.cell 0 rfl
  have b1 : W.cell? ⟨w.heap.size, 1, none⟩ = some (.int .i64 M.ix) := hW.k1.cell 1 rfl
  have b2 : W.cell? ⟨w.heap.size, 2, none⟩ = some (.int .i64 M.sub) := hW.k1.cell 2 rfl
  have HDW := hide (HD.out W hW.only)
  clear hW
  refine wp_region_held_drew (S := (fun w' => (∀ qA : Addr, qA.block < (W).heap.size → w'.cell? qA = (W).cell? qA) ∧ Below (W).heap.size (W) w')) (by kernel_rfl) ?hS1 (fun hHeld => ?rest1)
  case hS1 => ((try dsimp only); (((try go_split_ands); refine sn_of ?_; repeat' (first | with_reducible assumption | with_reducible exact Below.refl _ _ | with_reducible apply below_alloc | with_reducible apply below_drew1 | with_reducible apply below_drewN | (with_reducible apply below_step; with_reducible assumption) | (with_reducible apply below_sg2; (first | exact Nat.le_refl _ | (simp; done) | omega))))))
  case' rest1 => skip
  refine wpAnyH_take (i := 0) (oi := _) (v := ?v2) rfl (by kernel_rfl) (by kernel_rfl) (by kernel_rfl) (fun _ _ _ h => h) (Or.inl ⟨by rfl, ?hy2⟩) (by assumption) ?rest2
  case hy2 => ((intro w hSw; (try dsimp only at hSw); go_simp) <;> with_reducible rfl)
  case' rest2 => try simp only [List.getElem_toArray, List.getElem_cons_zero, List.getElem_cons_succ, Act.put, List.setIfInBounds_toArray, List.set_cons_zero, List.set_cons_succ]
  refine wpAnyH_take (i := 1) (oi := _) (v := ?v3) rfl (by kernel_rfl) (by kernel_rfl) (by kernel_rfl) (fun _ _ _ h => h) (Or.inl ⟨by rfl, ?hy3⟩) (by assumption) ?rest3
  case hy3 => ((intro w hSw; (try dsimp only at hSw); go_simp) <;> with_reducible rfl)
  case' rest3 => try simp only [List.getElem_toArray, List.getElem_cons_zero, List.getElem_cons_succ, Act.put, List.setIfInBounds_toArray, List.set_cons_zero, List.set_cons_succ]
  refine wpAnyH_take (i := 2) (oi := _) (v := ?v4) rfl (by kernel_rfl) (by kernel_rfl) (by kernel_rfl) (fun _ _ _ h => h) (Or.inl ⟨by rfl, ?hy4⟩) (by assumption) ?rest4
  case hy4 => ((intro w hSw; (try dsimp only at hSw); go_simp) <;> with_reducible rfl)
  case' rest4 => try simp only [List.getElem_toArray, List.getElem_cons_zero, List.getElem_cons_succ, Act.put, List.setIfInBounds_toArray, List.set_cons_zero, List.set_cons_succ]
  refine wpAnyH_take (i := 3) (oi := _) (v := ?v5) rfl (by kernel_rfl) (by kernel_rfl) (by kernel_rfl) (fun _ _ _ h => h) (Or.inl ⟨by rfl, ?hy5⟩) (by assumption) ?rest5
  case hy5 => ((intro w hSw; (try dsimp only at hSw); go_simp) <;> with_reducible rfl)
  case' rest5 => try simp only [List.getElem_toArray, List.getElem_cons_zero, List.getElem_cons_succ, Act.put, List.setIfInBounds_toArray, List.set_cons_zero, List.set_cons_succ]
  refine wpAnyH_take (i := 4) (oi := _) (v := ?v6) rfl (by kernel_rfl) (by kernel_rfl) (by kernel_rfl) (fun _ _ _ h => h) (Or.inl ⟨by rfl, ?hy6⟩) (by assumption) ?rest6
  case hy6 => ((intro w hSw; (try dsimp only at hSw); go_simp) <;> with_reducible rfl)
  case' rest6 => try simp only [List.getElem_toArray, List.getElem_cons_zero, List.getElem_cons_succ, Act.put, List.setIfInBounds_toArray, List.set_cons_zero, List.set_cons_succ]
  refine wpAnyH_take (i := 5) (oi := _) (v := ?v7) rfl (by kernel_rfl) (by kernel_rfl) (by kernel_rfl) (fun _ _ _ h => h) (Or.inl ⟨by rfl, ?hy7⟩) (by assumption) ?rest7
  case hy7 => ((intro w hSw; (try dsimp only at hSw); go_simp) <;> with_reducible rfl)
  case' rest7 => try simp only [List.getElem_toArray, List.getElem_cons_zero, List.getElem_cons_succ, Act.put, List.setIfInBounds_toArray, List.set_cons_zero, List.set_cons_succ]
  refine wpAnyH_take (i := 6) (oi := _) (v := ?v8) rfl (by kernel_rfl) (by kernel_rfl) (by kernel_rfl) (fun _ _ _ h => h) (Or.inl ⟨by rfl, ?hy8⟩) (by assumption) ?rest8
  case hy8 => ((intro w hSw; (try dsimp only at hSw); go_simp) <;> with_reducible rfl)
  case' rest8 => try simp only [List.getElem_toArray, List.getElem_cons_zero, List.getElem_cons_succ, Act.put, List.setIfInBounds_toArray, List.set_cons_zero, List.set_cons_succ]
  refine wpAnyH_take (i := 7) (oi := _) (v := ?v9) rfl (by kernel_rfl) (by kernel_rfl) (by kernel_rfl) (fun _ _ _ h => h) (Or.inl ⟨by rfl, ?hy9⟩) (by assumption) ?rest9
  case hy9 => ((intro w hSw; (try dsimp only at hSw); go_simp) <;> with_reducible rfl)
  case' rest9 => try simp only [List.getElem_toArray, List.getElem_cons_zero, List.getElem_cons_succ, Act.put, List.setIfInBounds_toArray, List.set_cons_zero, List.set_cons_succ]
  refine wpAnyH_ready (rs := [8]) (by kernel_rfl) (by simp) ?_
  refine AllReadyH.cons (o := _) rfl (fun K hK => ?_) AllReadyH.nil
  go_simp
  refine (rdic_get M.ix M.sub _ (HDW.out.below (Below.drew (Below.refl _ _))) H1.out).mono ?_
  rintro e w2 ⟨A4, n4, c4, b, rfl, hO4, hb4, hb2⟩
  have HO4 := hide (hO4.mono (B' := w.heap.size + 2) hwz)
  have HB4 := hide hb4
  clear hO4 hb4
  dsimp only
  refine hK.out _ _ ?hS12 (fun hHeld => ?rest12)
  case hS12 => ((try dsimp only); (((try go_split_ands); refine sn_of ?_; repeat' (first | with_reducible assumption | with_reducible exact Below.refl _ _ | with_reducible apply below_alloc | with_reducible apply below_drew1 | with_reducible apply below_drewN | (with_reducible apply below_step; with_reducible assumption) | (with_reducible apply below_sg2; (first | exact Nat.le_refl _ | (simp; done) | omega))))))
  case' rest12 => (clear hK K; try simp only [List.getElem_toArray, List.getElem_cons_zero, List.getElem_cons_succ, Act.put, List.setIfInBounds_toArray, List.set_cons_zero, List.set_cons_succ])
  refine wpAnyH_take (i := 9) (oi := _) (v := ?v13) rfl (by kernel_rfl) (by kernel_rfl) (by kernel_rfl) (fun _ _ _ h => h) (Or.inl ⟨by rfl, ?hy13⟩) (by assumption) ?rest13
  case hy13 => ((intro w hSw; (try dsimp only at hSw); go_simp) <;> with_reducible rfl)
  case' rest13 => try simp only [List.getElem_toArray, List.getElem_cons_zero, List.getElem_cons_succ, Act.put, List.setIfInBounds_toArray, List.set_cons_zero, List.set_cons_succ]
  refine wpAnyH_take (i := 10) (oi := _) (v := ?v14) rfl (by kernel_rfl) (by kernel_rfl) (by kernel_rfl) (fun _ _ _ h => h) (Or.inl ⟨by rfl, ?hy14⟩) (by assumption) ?rest14
  case hy14 => ((intro w hSw; (try dsimp only at hSw); go_simp) <;> with_reducible rfl)
  case' rest14 => try simp only [List.getElem_toArray, List.getElem_cons_zero, List.getElem_cons_succ, Act.put, List.setIfInBounds_toArray, List.set_cons_zero, List.set_cons_succ]
  refine wpAnyH_take (i := 11) (oi := _) (v := ?v15) rfl (by kernel_rfl) (by kernel_rfl) (by kernel_rfl) (fun _ _ _ h => h) (Or.inl ⟨by rfl, ?hy15⟩) (by assumption) ?rest15
  case hy15 => ((intro w hSw; (try dsimp only at hSw); go_simp) <;> with_reducible rfl)
  case' rest15 => try simp only [List.getElem_toArray, List.getElem_cons_zero, List.getElem_cons_succ, Act.put, List.setIfInBounds_toArray, List.set_cons_zero, List.set_cons_succ]
  refine wpAnyH_take (i := 12) (oi := _) (v := ?v16) rfl (by kernel_rfl) (by kernel_rfl) (by kernel_rfl) (fun _ _ _ h => h) (Or.inl ⟨by rfl, ?hy16⟩) (by assumption) ?rest16
  case hy16 => ((intro w hSw; (try dsimp only at hSw); go_simp) <;> with_reducible rfl)
  case' rest16 => try simp only [List.getElem_toArray, List.getElem_cons_zero, List.getElem_cons_succ, Act.put, List.setIfInBounds_toArray, List.set_cons_zero, List.set_cons_succ]
  refine wpAnyH_take (i := 13) (oi := _) (v := ?v17) rfl (by kernel_rfl) (by kernel_rfl) (by kernel_rfl) (fun _ _ _ h => h) (Or.inl ⟨by rfl, ?hy17⟩) (by assumption) ?rest17
  case hy17 => ((intro w hSw; (try dsimp only at hSw); go_simp) <;> with_reducible rfl)
  case' rest17 => try simp only [List.getElem_toArray, List.getElem_cons_zero, List.getElem_cons_succ, Act.put, List.setIfInBounds_toArray, List.set_cons_zero, List.set_cons_succ]
  refine wpAnyH_done (by kernel_rfl) ?_ _
  have hEnd := hHeld.2
  repeat (clear hHeld)
  have HX2 := hide (HX.out.step hEnd)
  have hwz2 : w.heap.size + 2 ≤ w2.heap.size := Nat.le_trans hwz hEnd.size
  have k1 := HX2.out.k1
  have kk := HX2.out.k0
  have bb := HX2.out.blk
  unfold msL_ at k1
  unfold outL_ outZ at kk
  unfold srvL at bb
  have zk := k1.lt
  have zkk := kk.lt
  have zb := bb.lt
  clear b0 b1 b2 hb2 hEnd
  obtain ⟨k1_c0, k1_c1, k1_c2, k1_c3, k1_c4, k1_c5, k1_c6, k1_c7, k1_c8, k1_c9, k1_c10, k1_c11, k1_c12, k1_c13⟩ := cel14 k1
  have k1_f := k1.frozen
  obtain ⟨kk_c0, kk_c1, kk_c2, kk_c3, kk_c4⟩ := cel5 kk
  have kk_f := kk.frozen
  obtain ⟨bb_c0, bb_c1, bb_c2, bb_c3, bb_c4, bb_c5, bb_c6, bb_c7⟩ := cel8 bb
  have bb_f := bb.frozen
  obtain ⟨cc, hcc⟩ := getC_nn L M.ix M.sub
  rw [hcc] at HB4 ⊢
  by_cases hc : cc = 0
  · have hgc : getC L M.ix M.sub = 0 := by rw [hcc, hc]; rfl
    have hgb : getB L V M.ix M.sub = b := by unfold getB; rw [HB4.out, hgc, hc]; rfl
    have hn4 : n4 = b.length := HO4.out.hn
    have hb256 : n4 ≤ 256 := by
      rw [hn4, HB4.out, hc, if_pos (show ((0 : Nat) : Int) = 0 from rfl)]
      unfold valK
      rw [List.getD_eq_getElem?_getD]
      cases hx : V[locK L M.ix M.sub]? with
      | none => simp
      | some v => exact HV.out v (List.mem_of_getElem? hx)
    have hmod : (n4 : Int) % 4294967296 = (n4 : Int) := by omega
    subst hc
    by_cases hsh : 0 < n4 ∧ n4 ≤ 4
    · have HUS : Hid (upS L V S M = S) := hide (by unfold upS; rw [if_neg (by rw [hgc]; simp), if_pos (by rw [hgb, ← hn4]; exact hsh)])
      have HR : Hid (P = ROutR w G p pd (upS L V S M) (outM (upM M.ix M.sub 0 b))) := hide (by
        rw [HP.out]
        congr 1
        unfold upO; rw [if_neg (by rw [hgc]; simp), if_pos (by rw [hgb, ← hn4]; exact hsh), hgb])
      obtain ⟨h1, h2⟩ := hsh
      have X5 : PX w p 52 (srvL R pd A n1 c1) [⟨w2.heap.size, 48, msL_ (upM M.ix M.sub 0 b) A4 n4 c4⟩, ⟨w.heap.size + 1, 90, outL_ none 0 0 outZ none 0 0⟩, ⟨w.heap.size, 48, msL_ M A3 m3 c3⟩] _ := HX2.out.newz (N := w2.heap.size) rfl 48 (msL_ (upM M.ix M.sub 0 b) A4 n4 c4)
      have hX5 := And.intro X5 (HO4.out.alloc (.cells (msL_ (upM M.ix M.sub 0 b) A4 n4 c4).toArray 48))
      simp only [show List.toArray (msL_ (upM M.ix M.sub 0 b) A4 n4 c4) = #[.int .i64 14, .int .i64 M.ix, .int .i64 M.sub, .bool false, .bool false, .bool false, .bool true, .int .u32 0, .int .u32 0, .slice A4 n4 c4, .int .i64 0, .int .i64 0, .int .i64 0, .int .u16 0] from rfl] at hX5
      have HX5 := hide hX5
      clear hX5 X5 hgc hgb hn4 hmod
      go_upto_region 7 with fail
      refine wp_gen (P := fun W5 => PX w p 52 (srvL R pd A n1 c1) [⟨w2.heap.size, 48, msL_ (upM M.ix M.sub 0 b) A4 n4 c4⟩, ⟨w.heap.size + 1, 90, outL_ none 0 0 outZ none 0 0⟩, ⟨w.heap.size, 48, msL_ M A3 m3 c3⟩] W5 ∧ OwnB W5 (w.heap.size + 2) A4 n4 c4 b) HX5.out (fun W5 hW5 => ?_)
      clear HX5
      obtain ⟨hX5, hO5⟩ := hW5
      have HX5 := hide hX5
      have HO5 := hide hO5
      clear k1_c0 k1_c1 k1_c2 k1_c3 k1_c4 k1_c5 k1_c6 k1_c7 k1_c8 k1_c9 k1_c10 k1_c11 k1_c12 k1_c13 k1_f
      clear kk_c0 kk_c1 kk_c2 kk_c3 kk_c4 kk_f
      clear bb_c0 bb_c1 bb_c2 bb_c3 bb_c4 bb_c5 bb_c6 bb_c7 bb_f
      clear k1 kk bb hO5
      have ok := hX5.k0
      have kk := hX5.k1
      unfold msL_ upM at ok
      unfold outL_ outZ at kk
      have zo := ok.lt
      have zk5 := kk.lt
      clear hX5
      obtain ⟨ok_c0, ok_c1, ok_c2, ok_c3, ok_c4, ok_c5, ok_c6, ok_c7, ok_c8, ok_c9, ok_c10, ok_c11, ok_c12, ok_c13⟩ := cel14 ok
      have ok_f := ok.frozen
      obtain ⟨kk_c0, kk_c1, kk_c2, kk_c3, kk_c4⟩ := cel5 kk
      have kk_f := kk.frozen
      go_wp2_with fail
      obtain ⟨F1, F2⟩ := rfin_send (G := G) (S' := upS L V S M) (M := upM M.ix M.sub 0 b) (N := W5.heap.size) (HX5.out.sub (ks' := [⟨w.heap.size + 1, 90, outL_ none 0 0 outZ none 0 0⟩]) (by simp)) rfl hz HO5.out (by rw [HUS.out]; exact Ali.idle HS0.out HR0.out) (fun h => by have := HR0.out; rcases h with h | h <;> (try simp at h) <;> omega)
      rw [← HR.out] at F2
      unfold putO outZ msV upM at F1 F2
      dsimp only at F1 F2
      exact rret_out (O := outZ) rfl rfl rfl F1 F2
    · have HUS : Hid (upS L V S M = { S with st := 2, ix := M.ix, sub := M.sub, b := b, tg := false }) := hide (by unfold upS; rw [if_neg (by rw [hgc]; simp), if_neg (by rw [hgb, ← hn4]; exact hsh), hgb])
      have HR : Hid (P = ROutR w G p pd (upS L V S M) (outM (upM M.ix M.sub n4 []))) := hide (by
        rw [HP.out]
        congr 1
        unfold upO; rw [if_neg (by rw [hgc]; simp), if_neg (by rw [hgb, ← hn4]; exact hsh), hgb, ← hn4])
      have X5 : PX w p 52 (srvL { R with st := 2, ix := M.ix, sub := M.sub, b := b, tg := false } pd A4 n4 c4) [⟨w2.heap.size, 48, msL_ (upM M.ix M.sub n4 []) none 0 0⟩, ⟨w.heap.size + 1, 90, outL_ none 0 0 outZ none 0 0⟩, ⟨w.heap.size, 48, msL_ M A3 m3 c3⟩] _ := (((((HX2.out.set 1 (.int .i64 2)).set 2 (.int .i64 M.ix)).set 3 (.int .i64 M.sub)).set 6 (.slice A4 n4 c4)).set 7 (.bool false)).newz (N := w2.heap.size) (by simp [World.setCell]) 48 (msL_ (upM M.ix M.sub n4 []) none 0 0)
      have o5 := Only.set (fun q => q = p) (Only.set (fun q => q = p) (Only.set (fun q => q = p) (Only.set (fun q => q = p) (Only.set (fun q => q = p) (Only.refl _ w2) (i := 1) rfl (.int .i64 2)) (i := 2) rfl (.int .i64 M.ix)) (i := 3) rfl (.int .i64 M.sub)) (i := 6) rfl (.slice A4 n4 c4)) (i := 7) rfl (.bool false)
      have O5 := (ownB_only HO4.out o5 (fun g h1 _ (e : g = p) => by omega)).alloc (.cells (msL_ (upM M.ix M.sub n4 []) none 0 0).toArray 48)
      have hX5 := And.intro X5 O5
      simp only [show List.toArray (msL_ (upM M.ix M.sub n4 []) none 0 0) = #[.int .i64 14, .int .i64 M.ix, .int .i64 M.sub, .bool false, .bool false, .bool false, .bool true, .int .u32 (n4 : Nat), .int .u32 0, .slice none 0 0, .int .i64 0, .int .i64 0, .int .i64 0, .int .u16 0] from rfl] at hX5
      have HX5 := hide hX5
      have HSH : Hid (n4 = 0 ∨ 4 < n4) := hide (by omega)
      clear hX5 X5 o5 O5 hgc hgb hn4 hsh
      rcases HSH.out with hcs | hcs
      · skip
        subst hcs
        clear hmod
        go_upto_region 14 with fail
        refine wp_gen (P := fun W5 => PX w p 52 (srvL { R with st := 2, ix := M.ix, sub := M.sub, b := b, tg := false } pd A4 0 c4) [⟨w2.heap.size, 48, msL_ (upM M.ix M.sub 0 []) none 0 0⟩, ⟨w.heap.size + 1, 90, outL_ none 0 0 outZ none 0 0⟩, ⟨w.heap.size, 48, msL_ M A3 m3 c3⟩] W5 ∧ OwnB W5 (w.heap.size + 2) A4 0 c4 b) HX5.out (fun W5 hW5 => ?_)
        clear HX5
        obtain ⟨hX5, hO5⟩ := hW5
        have HX5 := hide hX5
        have HO5 := hide hO5
        clear k1_c0 k1_c1 k1_c2 k1_c3 k1_c4 k1_c5 k1_c6 k1_c7 k1_c8 k1_c9 k1_c10 k1_c11 k1_c12 k1_c13 k1_f
        clear kk_c0 kk_c1 kk_c2 kk_c3 kk_c4 kk_f
        clear bb_c0 bb_c1 bb_c2 bb_c3 bb_c4 bb_c5 bb_c6 bb_c7 bb_f
        clear k1 kk bb hO5
        have ok := hX5.k0
        have kk := hX5.k1
        unfold msL_ upM at ok
        unfold outL_ outZ at kk
        have zo := ok.lt
        have zk5 := kk.lt
        clear hX5
        obtain ⟨ok_c0, ok_c1, ok_c2, ok_c3, ok_c4, ok_c5, ok_c6, ok_c7, ok_c8, ok_c9, ok_c10, ok_c11, ok_c12, ok_c13⟩ := cel14 ok
        have ok_f := ok.frozen
        obtain ⟨kk_c0, kk_c1, kk_c2, kk_c3, kk_c4⟩ := cel5 kk
        have kk_f := kk.frozen
        go_wp2_with fail
        obtain ⟨F1, F2⟩ := rfin_send (G := G) (S' := upS L V S M) (M := upM M.ix M.sub 0 []) (N := W5.heap.size) (HX5.out.sub (ks' := [⟨w.heap.size + 1, 90, outL_ none 0 0 outZ none 0 0⟩]) (by simp)) rfl hz (OwnB.nil _ _) (by
          rw [HUS.out]
          exact ⟨rfl, fun _ => ⟨rfl, rfl⟩, fun h => absurd h (show ¬ (2 : Int) = 1 by decide), fun _ => ⟨rfl, rfl⟩, fun h => absurd h (show ¬ (2 : Int) = 3 by decide)⟩) (fun _ => ob_fin HO5.out hz)
        rw [← HR.out] at F2
        unfold putO outZ msV upM at F1 F2
        dsimp only at F1 F2
        exact rret_out (O := outZ) rfl rfl rfl F1 F2
      · skip
        go_upto_region 14 with fail
        refine wp_gen (P := fun W5 => PX w p 52 (srvL { R with st := 2, ix := M.ix, sub := M.sub, b := b, tg := false } pd A4 n4 c4) [⟨w2.heap.size, 48, msL_ (upM M.ix M.sub n4 []) none 0 0⟩, ⟨w.heap.size + 1, 90, outL_ none 0 0 outZ none 0 0⟩, ⟨w.heap.size, 48, msL_ M A3 m3 c3⟩] W5 ∧ OwnB W5 (w.heap.size + 2) A4 n4 c4 b) HX5.out (fun W5 hW5 => ?_)
        clear HX5
        obtain ⟨hX5, hO5⟩ := hW5
        have HX5 := hide hX5
        have HO5 := hide hO5
        clear k1_c0 k1_c1 k1_c2 k1_c3 k1_c4 k1_c5 k1_c6 k1_c7 k1_c8 k1_c9 k1_c10 k1_c11 k1_c12 k1_c13 k1_f
        clear kk_c0 kk_c1 kk_c2 kk_c3 kk_c4 kk_f
        clear bb_c0 bb_c1 bb_c2 bb_c3 bb_c4 bb_c5 bb_c6 bb_c7 bb_f
        clear k1 kk bb hO5
        have ok := hX5.k0
        have kk := hX5.k1
        unfold msL_ upM at ok
        unfold outL_ outZ at kk
        have zo := ok.lt
        have zk5 := kk.lt
        clear hX5
        obtain ⟨ok_c0, ok_c1, ok_c2, ok_c3, ok_c4, ok_c5, ok_c6, ok_c7, ok_c8, ok_c9, ok_c10, ok_c11, ok_c12, ok_c13⟩ := cel14 ok
        have ok_f := ok.frozen
        obtain ⟨kk_c0, kk_c1, kk_c2, kk_c3, kk_c4⟩ := cel5 kk
        have kk_f := kk.frozen
        go_wp2_with fail
        obtain ⟨F1, F2⟩ := rfin_send (G := G) (S' := upS L V S M) (M := upM M.ix M.sub n4 []) (N := W5.heap.size) (HX5.out.sub (ks' := [⟨w.heap.size + 1, 90, outL_ none 0 0 outZ none 0 0⟩]) (by simp)) rfl hz (OwnB.nil _ _) (by
          rw [HUS.out]
          exact ⟨rfl, fun _ => ⟨rfl, rfl⟩, fun h => absurd h (show ¬ (2 : Int) = 1 by decide), fun _ => ⟨rfl, rfl⟩, fun h => absurd h (show ¬ (2 : Int) = 3 by decide)⟩) (fun _ => ob_fin HO5.out hz)
        rw [← HR.out] at F2
        unfold putO outZ msV upM at F1 F2
        dsimp only at F1 F2
        exact rret_out (O := outZ) rfl rfl rfl F1 F2
  · have hkz : ¬ (cc : Int) = 0 := by omega
    have HUS : Hid (upS L V S M = S) := hide (by unfold upS; rw [if_pos (by rw [hcc]; omega)])
    have HR : Hid (P = ROutR w G p pd S (outM (abM M.ix M.sub cc))) := hide (by
      rw [HP.out, HUS.out]
      congr 1
      unfold upO
      rw [if_pos (by rw [hcc]; omega), hcc]
      rfl)
    clear hcc
    go_wp2_with fail
    refine (rsg_refuse M A3 m3 c3 cc _).mono ?_
    rintro e w8 ⟨g8, hg8, rfl, hM8, hb8⟩
    unfold outV outZ
    dsimp only
    have HX8 := hide (HX2.out.step hb8)
    have zg8 : w.heap.size + 2 ≤ g8 := by omega
    have HM8 := hide hM8
    have k2 := HX8.out.k0
    unfold outL_ outZ at k2
    have zk2 := k2.lt
    clear kk_c0 kk_c1 kk_c2 kk_c3 kk_c4 kk_f
    obtain ⟨k2_c0, k2_c1, k2_c2, k2_c3, k2_c4⟩ := cel5 k2
    have k2_f := k2.frozen
    clear hM8 hb8
    go_wp2_with fail
    obtain ⟨F1, F2⟩ := rfin (G := G) (S' := S) (O := outM (abM M.ix M.sub cc)) (HX8.out.sub (ks' := [⟨w.heap.size + 1, 90, outL_ none 0 0 outZ none 0 0⟩]) (by simp)) hz (rmsR_one zg8 HM8.out (OwnB.nil _ _)) (OwnB.nil _ _) (Ali.idle HS0.out HR0.out) (fun h => by have := HR0.out; rcases h with h | h <;> (try simp at h) <;> omega)
    rw [← HR.out] at F2
    unfold putO outM at F1 F2
    dsimp only at F1 F2
    exact rret_out (O := outM (abM M.ix M.sub cc)) rfl rfl rfl F1 F2
end
end
section
open Go.RowKit
set_option maxRecDepth 100000
set_option maxHeartbeats 40000000
theorem Ali.trans {A B C : SegS} (h : Ali A B) (k : Ali B C) : Ali A C := by
  obtain ⟨h0, h1, h2, h3, h4⟩ := h
  obtain ⟨k0, k1, k2, k3, k4⟩ := k
  rw [k0] at h1 h2 h3 h4
  refine ⟨h0.trans k0, fun h => ⟨(h1 h).1.trans (k1 h).1, (h1 h).2.trans (k1 h).2⟩, fun h => ?_, fun h => ⟨(h3 h).1.trans (k3 h).1, (h3 h).2.trans (k3 h).2⟩, fun h => (h4 h).trans (k4 h)⟩
  obtain ⟨a1, a2, a3, a4, a5⟩ := h2 h
  obtain ⟨b1, b2, b3, b4, b5⟩ := k2 h
  exact ⟨a1.trans b1, a2.trans b2, a3.trans b3, a4.trans b4, b5⟩
theorem RV_.ali {w : World} {G : Nat → Prop} {p pd : Nat} {S S' : SegS} (h : RV_ w G p pd S') (ha : Ali S S') : RV_ w G p pd S := by
  obtain ⟨R, A, n, c, h1, h2⟩ := h
  exact ⟨R, A, n, c, ha.trans h1, h2⟩
theorem part_ali {S R : SegS} (h : Ali S R) (h1 : R.st = 1) (M : Ms) : partO S M = partO R M ∧ Ali (partS S M) (partS R M) := by
  obtain ⟨k0, k1, k2, k3, k4⟩ := h
  obtain ⟨i1, i2⟩ := k1 (by omega)
  obtain ⟨j1, j2, j3, j4, j5⟩ := k2 h1
  have hp : pcode S M = pcode R M := by unfold pcode; rw [j1, j2, j3, j4]
  have ha : ∀ c, abortL S c = abortL R c := fun c => by unfold abortL; rw [k0, i1, i2]
  refine ⟨by unfold partO; rw [hp, ha, i1, i2, j3], ?_⟩
  unfold partS
  rw [hp, j4, j3]
  split
  · exact Ali.idle rfl rfl
  · split
    · exact Ali.idle rfl rfl
    · split
      · exact ⟨rfl, fun _ => ⟨i1, i2⟩, fun h => absurd h (show ¬ (3 : Int) = 1 by decide), fun h => absurd h (show ¬ (3 : Int) = 2 by decide), fun _ => rfl⟩
      · exact ⟨k0, fun _ => ⟨i1, i2⟩, fun _ => ⟨j1, j2, rfl, rfl, j5⟩, fun h => absurd h (show ¬ R.st = 2 by omega), fun h => absurd h (show ¬ R.st = 3 by omega)⟩
theorem next_ali {S R : SegS} (h : Ali S R) (h1 : R.st = 2) (M : Ms) : nextO S M = nextO R M ∧ Ali (nextS S M) (nextS R M) := by
  obtain ⟨k0, k1, k2, k3, k4⟩ := h
  obtain ⟨i1, i2⟩ := k1 (by omega)
  obtain ⟨j1, j2⟩ := k3 h1
  have ha : ∀ c, abortL S c = abortL R c := fun c => by unfold abortL; rw [k0, i1, i2]
  refine ⟨by unfold nextO; rw [ha, j1, j2], ?_⟩
  unfold nextS
  rw [j1, j2]
  split
  · exact Ali.idle rfl rfl
  · split
    · exact Ali.idle rfl rfl
    · exact ⟨k0, fun _ => ⟨i1, i2⟩, fun h => absurd h (show ¬ R.st = 1 by omega), fun _ => ⟨rfl, rfl⟩, fun h => absurd h (show ¬ R.st = 3 by omega)⟩
/-- what an inner call answered is handed on -/
theorem rfin_lift {w W1 w8 : World} {G : Nat → Prop} {p pd ns cs n c : Nat} {S' : SegS} {O : SegO} {As A : Option Addr} {cs0 : List Value} {ks : List KB} (hX : PX w p 52 cs0 (⟨w.heap.size + 1, 90, outL_ none 0 0 outZ none 0 0⟩ :: ks) W1) (hp : p < w.heap.size) (hwz : w.heap.size + 2 ≤ W1.heap.size)
    (h1 : RMsR w8 W1.heap.size As ns cs O.ms) (h2 : OwnB w8 W1.heap.size A n c O.b) (h4 : RV_ w8 (fun g => (G g ∧ g < w.heap.size) ∨ W1.heap.size ≤ g) p pd S') (h5 : Only (fun q => q = p) W1 w8) :
    Blk (putO w8 (w.heap.size + 1) As ns cs O A n c) (w.heap.size + 1) 90 (outV As ns cs O A n c) ∧ ROutR w G p pd S' O (.returned (.agg (outV As ns cs O A n c))) (putO w8 (w.heap.size + 1) As ns cs O A n c) := by
  have hK : Blk w8 (w.heap.size + 1) 90 (outV none 0 0 outZ none 0 0) := (h5.block _ hX.k0.lt (show w.heap.size + 1 ≠ p by omega)).trans hX.k0
  obtain ⟨R, A', n', c', ha, hB, hb⟩ := h4
  refine ⟨putO_blkT hK, As, ns, cs, A, n, c, rfl, ?_, (putO_own h2 (by omega) _ _ _ _ _ _ _).mono (by omega), ⟨R, A', n', c', ha, putO_far hB (by omega) _ _ _ _ _ _ _, fun h0 => ?_⟩, putO_only (hX.only.trans h5 (fun _ _ h => h)) (by omega) _ _ _ _ _ _ _⟩
  · rcases h1 with h | ⟨M, g, A2, n2, c2, e1, e2, e3, e4, e5, e6, e7⟩
    · exact .inl h
    · exact .inr ⟨M, g, A2, n2, c2, e1, e2, e3, e4, by omega, putO_far e6 (by omega) _ _ _ _ _ _ _, (putO_own e7 (by omega) _ _ _ _ _ _ _).mono (by omega)⟩
  · obtain ⟨g1, g2, g3, g4, g5⟩ := hb h0
    refine ⟨g1, g2, sl_blk g3 (fun ad e => putO_heap (by rcases (g5 ad e).1 with h | h; (have := h.2; omega); omega) _ _ _ _ _ _ _), g4, fun ad e => ⟨?_, by rw [putO_size]; exact (g5 ad e).2.1, (g5 ad e).2.2⟩⟩
    rcases (g5 ad e).1 with h | h
    · exact .inl h.1
    · exact .inr (by omega)
section
variable {F : Nat → Prop} {pd n cl cv : Nat} {Al Av : Option Addr} {L : List Ent} {V : List (List UInt8)} {ds es : List (Option Addr × Nat)}
theorem rsg_recv2 (p : Nat) (S : SegS) (G : Nat → Prop) (ix sub : Int) (tg la cr sz : Bool) (size code : Nat) (data : List UInt8) (sq bl em : Int) (sum : Nat) (A3 : Option Addr) (m3 c3 : Nat) (w : World) (hD : DB 82 w F pd Al n cl Av cv L V ds es) (hn : n ≤ 1000) (hv : ∀ v ∈ V, v.length ≤ 256)
    (hp : ¬ F p) (hS : RV_ w G p pd S) (hm : m3 = data.length) (hm1 : m3 ≤ 100000) (hMd : ∀ W, Only (fun q => q = p) w W → Sl W A3 (data.map bv)) (hsz : size ≤ 4294967295) (hb : S.st = 1 ∨ S.st = 2 → S.b.length ≤ 256) :
    Calls Tryz.prog 34 #[.pointer (some ⟨p, 0, none⟩), .agg (msV (⟨2, ix, sub, tg, la, cr, sz, size, code, data, sq, bl, em, sum⟩ : Ms) A3 m3 c3)] w (ROutR w G p pd (recvS L V S (⟨2, ix, sub, tg, la, cr, sz, size, code, data, sq, bl, em, sum⟩ : Ms)) (recvO L V S (⟨2, ix, sub, tg, la, cr, sz, size, code, data, sq, bl, em, sum⟩ : Ms))) := by
  obtain ⟨R, A, n1, c1, hal, hB, hby⟩ := id hS
  obtain ⟨P, hP⟩ : ∃ P, P = ROutR w G p pd (recvS L V S (⟨2, ix, sub, tg, la, cr, sz, size, code, data, sq, bl, em, sum⟩ : Ms)) (recvO L V S (⟨2, ix, sub, tg, la, cr, sz, size, code, data, sq, bl, em, sum⟩ : Ms)) := ⟨_, rfl⟩
  rw [← hP]
  have HP := hide hP
  have hz := hB.lt
  have HAL := hide hal
  have HBY := hide hby
  have HDA := hide (And.intro hm (And.intro hMd (And.intro hsz (And.intro hb hm1))))
  have HVV := hide (And.intro hn hv)
  have hne1 : w.heap.size + 1 ≠ p := by omega
  have hne0 : w.heap.size ≠ p := by omega
  have HD := hide (fun W (h : Only (fun q => q = p) w W) => hD.keep (w' := W) (fun g hg hlt => h.block g hlt (fun e => hp (e ▸ hg))))
  have HH0 := (PX.start (cs := srvL R pd A n1 c1) hB).new2 rfl 48 90 (msL_ (⟨2, ix, sub, tg, la, cr, sz, size, code, data, sq, bl, em, sum⟩ : Ms) A3 m3 c3) (outL_ none 0 0 outZ none 0 0)
  have HH := hide HH0
  have HB0 := hide hB
  clear hP hS hB hD hn hv HH0 hal hby hm hMd hsz hb
  unfold msL_ outL_ outZ at HH
  dsimp only at HH
  unfold msV
  dsimp only
  go_enter Tryz.func34, Tryz.ntmps34
  go_upto_region 1 with fail
  refine wp_gen (P := PX w p 52 (srvL R pd A n1 c1) [⟨w.heap.size + 1, 90, outL_ none 0 0 outZ none 0 0⟩, ⟨w.heap.size, 48, msL_ (⟨2, ix, sub, tg, la, cr, sz, size, code, data, sq, bl, em, sum⟩ : Ms) A3 m3 c3⟩]) HH.out (fun W hW => ?_)
  clear HH
  have HX := hide hW
  have hwz : w.heap.size + 2 ≤ W.heap.size := by
    have := hW.k0.lt
    show w.heap.size + 1 < W.heap.size
    exact this
  have k1 := hW.k1
  have kk := hW.k0
  have bb := hW.blk
  unfold msL_ at k1
  dsimp only at k1
  unfold outL_ outZ at kk
  unfold srvL at bb
  have zk := k1.lt
  have zkk := kk.lt
  have zb := bb.lt
  clear hW
  obtain ⟨k1_c0, k1_c1, k1_c2, k1_c3, k1_c4, k1_c5, k1_c6, k1_c7, k1_c8, k1_c9, k1_c10, k1_c11, k1_c12, k1_c13⟩ := cel14 k1
  have k1_f := k1.frozen
  obtain ⟨kk_c0, kk_c1, kk_c2, kk_c3, kk_c4⟩ := cel5 kk
  have kk_f := kk.frozen
  obtain ⟨bb_c0, bb_c1, bb_c2, bb_c3, bb_c4, bb_c5, bb_c6, bb_c7⟩ := cel8 bb
  have bb_f := bb.frozen
  by_cases h3 : R.st = 3
  · rw [h3] at bb_c1
    have HR : Hid (P = ROutR w G p pd (downS L (segIdle S) (⟨2, ix, sub, tg, la, cr, sz, size, code, data, sq, bl, em, sum⟩ : Ms)) (downO L (⟨2, ix, sub, tg, la, cr, sz, size, code, data, sq, bl, em, sum⟩ : Ms))) := hide (by
      rw [HP.out]
      congr 1
      all_goals first | (unfold recvS; rw [if_neg (by decide), if_pos rfl]; done) | (unfold recvO; rw [if_neg (by decide), if_pos rfl]; done) | (unfold recvS; rw [if_neg (by decide), if_pos rfl]) | (unfold recvO; rw [if_neg (by decide), if_pos rfl]))
    have X1 : PX w p 52 (srvL (segIdle R) pd A n1 c1) [⟨w.heap.size + 1, 90, outL_ none 0 0 outZ none 0 0⟩, ⟨w.heap.size, 48, msL_ (⟨2, ix, sub, tg, la, cr, sz, size, code, data, sq, bl, em, sum⟩ : Ms) A3 m3 c3⟩] _ := HX.out.set 1 (.int .i64 0)
    have HX1 := hide X1
    have HW1 : Hid (w.heap.size + 2 ≤ (W.setCell ⟨p, 1, none⟩ (.int .i64 0)).heap.size) := hide (by simp [World.setCell]; omega)
    clear X1
    go_wp2_with fail
    refine (rsg_down p (segIdle S) (fun q => G q ∧ q < w.heap.size) (⟨2, ix, sub, tg, la, cr, sz, size, code, data, sq, bl, em, sum⟩ : Ms) A3 m3 c3 _ (HD.out _ HX1.out.only) HVV.out.1 hp ⟨segIdle R, A, n1, c1, Ali.idle rfl rfl, HX1.out.blk, fun h => absurd h (show ¬ ((0 : Int) = 1 ∨ (0 : Int) = 2) by decide)⟩ rfl HDA.out.1 HDA.out.2.2.2.2 (fun W h => HDA.out.2.1 _ (HX1.out.only.trans h (fun _ _ h => h))) HDA.out.2.2.1).mono ?_
    rintro e w8 ⟨As, ns, cs, A5, n5, c5, rfl, hM5, hO5, hV5, ho5⟩
    have kk8 : Blk w8 (w.heap.size + 1) 90 #[.slice none 0 0, .bool false, .int .i64 0, .int .i64 0, .slice none 0 0] := (ho5.block _ HX1.out.k0.lt (show w.heap.size + 1 ≠ p by omega)).trans HX1.out.k0
    have zk8 := kk8.lt
    unfold outV
    dsimp only
    obtain ⟨F1, F2⟩ := rfin_lift (S' := downS L (segIdle S) (⟨2, ix, sub, tg, la, cr, sz, size, code, data, sq, bl, em, sum⟩ : Ms)) (O := downO L (⟨2, ix, sub, tg, la, cr, sz, size, code, data, sq, bl, em, sum⟩ : Ms)) HX1.out hz HW1.out hM5 hO5 (hV5) ho5
    rw [← HR.out] at F2
    have HF := hide (And.intro F1 F2)
    unfold putO at HF
    clear k1_c0 k1_c1 k1_c2 k1_c3 k1_c4 k1_c5 k1_c6 k1_c7 k1_c8 k1_c9 k1_c10 k1_c11 k1_c12 k1_c13 k1_f
    clear kk_c0 kk_c1 kk_c2 kk_c3 kk_c4 kk_f
    clear bb_c0 bb_c1 bb_c2 bb_c3 bb_c4 bb_c5 bb_c6 bb_c7 bb_f
    clear k1 kk bb zk zkk zb
    obtain ⟨kk8_c0, kk8_c1, kk8_c2, kk8_c3, kk8_c4⟩ := cel5 kk8
    have kk8_f := kk8.frozen
    clear hM5 hO5 hV5 ho5 F1 F2
    go_wp2_with fail
    unfold outV at HF
    exact rret_out (O := downO L (⟨2, ix, sub, tg, la, cr, sz, size, code, data, sq, bl, em, sum⟩ : Ms)) rfl rfl rfl HF.out.1 HF.out.2
  · have h3b : (R.st == 3) = false := by simp [h3]
    have HR : Hid (P = ROutR w G p pd (downS L (segIdle S) (⟨2, ix, sub, tg, la, cr, sz, size, code, data, sq, bl, em, sum⟩ : Ms)) (downO L (⟨2, ix, sub, tg, la, cr, sz, size, code, data, sq, bl, em, sum⟩ : Ms))) := hide (by
      rw [HP.out]
      congr 1
      all_goals first | (unfold recvS; rw [if_neg (by decide), if_pos rfl]; done) | (unfold recvO; rw [if_neg (by decide), if_pos rfl]; done) | (unfold recvS; rw [if_neg (by decide), if_pos rfl]) | (unfold recvO; rw [if_neg (by decide), if_pos rfl]))
    have X1 : PX w p 52 (srvL (segIdle R) pd A n1 c1) [⟨w.heap.size + 1, 90, outL_ none 0 0 outZ none 0 0⟩, ⟨w.heap.size, 48, msL_ (⟨2, ix, sub, tg, la, cr, sz, size, code, data, sq, bl, em, sum⟩ : Ms) A3 m3 c3⟩] _ := HX.out.set 1 (.int .i64 0)
    have HX1 := hide X1
    have HW1 : Hid (w.heap.size + 2 ≤ (W.setCell ⟨p, 1, none⟩ (.int .i64 0)).heap.size) := hide (by simp [World.setCell]; omega)
    clear X1
    go_wp2_with fail
    refine (rsg_down p (segIdle S) (fun q => G q ∧ q < w.heap.size) (⟨2, ix, sub, tg, la, cr, sz, size, code, data, sq, bl, em, sum⟩ : Ms) A3 m3 c3 _ (HD.out _ HX1.out.only) HVV.out.1 hp ⟨segIdle R, A, n1, c1, Ali.idle rfl rfl, HX1.out.blk, fun h => absurd h (show ¬ ((0 : Int) = 1 ∨ (0 : Int) = 2) by decide)⟩ rfl HDA.out.1 HDA.out.2.2.2.2 (fun W h => HDA.out.2.1 _ (HX1.out.only.trans h (fun _ _ h => h))) HDA.out.2.2.1).mono ?_
    rintro e w8 ⟨As, ns, cs, A5, n5, c5, rfl, hM5, hO5, hV5, ho5⟩
    have kk8 : Blk w8 (w.heap.size + 1) 90 #[.slice none 0 0, .bool false, .int .i64 0, .int .i64 0, .slice none 0 0] := (ho5.block _ HX1.out.k0.lt (show w.heap.size + 1 ≠ p by omega)).trans HX1.out.k0
    have zk8 := kk8.lt
    unfold outV
    dsimp only
    obtain ⟨F1, F2⟩ := rfin_lift (S' := downS L (segIdle S) (⟨2, ix, sub, tg, la, cr, sz, size, code, data, sq, bl, em, sum⟩ : Ms)) (O := downO L (⟨2, ix, sub, tg, la, cr, sz, size, code, data, sq, bl, em, sum⟩ : Ms)) HX1.out hz HW1.out hM5 hO5 (hV5) ho5
    rw [← HR.out] at F2
    have HF := hide (And.intro F1 F2)
    unfold putO at HF
    clear k1_c0 k1_c1 k1_c2 k1_c3 k1_c4 k1_c5 k1_c6 k1_c7 k1_c8 k1_c9 k1_c10 k1_c11 k1_c12 k1_c13 k1_f
    clear kk_c0 kk_c1 kk_c2 kk_c3 kk_c4 kk_f
    clear bb_c0 bb_c1 bb_c2 bb_c3 bb_c4 bb_c5 bb_c6 bb_c7 bb_f
    clear k1 kk bb zk zkk zb
    obtain ⟨kk8_c0, kk8_c1, kk8_c2, kk8_c3, kk8_c4⟩ := cel5 kk8
    have kk8_f := kk8.frozen
    clear hM5 hO5 hV5 ho5 F1 F2
    go_wp2_with fail
    unfold outV at HF
    exact rret_out (O := downO L (⟨2, ix, sub, tg, la, cr, sz, size, code, data, sq, bl, em, sum⟩ : Ms)) rfl rfl rfl HF.out.1 HF.out.2
theorem rsg_recv4 (p : Nat) (S : SegS) (G : Nat → Prop) (ix sub : Int) (tg la cr sz : Bool) (size code : Nat) (data : List UInt8) (sq bl em : Int) (sum : Nat) (A3 : Option Addr) (m3 c3 : Nat) (w : World) (hD : DB 82 w F pd Al n cl Av cv L V ds es) (hn : n ≤ 1000) (hv : ∀ v ∈ V, v.length ≤ 256)
    (hp : ¬ F p) (hS : RV_ w G p pd S) (hm : m3 = data.length) (hm1 : m3 ≤ 100000) (hMd : ∀ W, Only (fun q => q = p) w W → Sl W A3 (data.map bv)) (hsz : size ≤ 4294967295) (hb : S.st = 1 ∨ S.st = 2 → S.b.length ≤ 256) :
    Calls Tryz.prog 34 #[.pointer (some ⟨p, 0, none⟩), .agg (msV (⟨4, ix, sub, tg, la, cr, sz, size, code, data, sq, bl, em, sum⟩ : Ms) A3 m3 c3)] w (ROutR w G p pd (recvS L V S (⟨4, ix, sub, tg, la, cr, sz, size, code, data, sq, bl, em, sum⟩ : Ms)) (recvO L V S (⟨4, ix, sub, tg, la, cr, sz, size, code, data, sq, bl, em, sum⟩ : Ms))) := by
  obtain ⟨R, A, n1, c1, hal, hB, hby⟩ := id hS
  obtain ⟨P, hP⟩ : ∃ P, P = ROutR w G p pd (recvS L V S (⟨4, ix, sub, tg, la, cr, sz, size, code, data, sq, bl, em, sum⟩ : Ms)) (recvO L V S (⟨4, ix, sub, tg, la, cr, sz, size, code, data, sq, bl, em, sum⟩ : Ms)) := ⟨_, rfl⟩
  rw [← hP]
  have HP := hide hP
  have hz := hB.lt
  have HAL := hide hal
  have HBY := hide hby
  have HDA := hide (And.intro hm (And.intro hMd (And.intro hsz (And.intro hb hm1))))
  have HVV := hide (And.intro hn hv)
  have hne1 : w.heap.size + 1 ≠ p := by omega
  have hne0 : w.heap.size ≠ p := by omega
  have HD := hide (fun W (h : Only (fun q => q = p) w W) => hD.keep (w' := W) (fun g hg hlt => h.block g hlt (fun e => hp (e ▸ hg))))
  have HH0 := (PX.start (cs := srvL R pd A n1 c1) hB).new2 rfl 48 90 (msL_ (⟨4, ix, sub, tg, la, cr, sz, size, code, data, sq, bl, em, sum⟩ : Ms) A3 m3 c3) (outL_ none 0 0 outZ none 0 0)
  have HH := hide HH0
  have HB0 := hide hB
  clear hP hS hB hD hn hv HH0 hal hby hm hMd hsz hb
  unfold msL_ outL_ outZ at HH
  dsimp only at HH
  unfold msV
  dsimp only
  go_enter Tryz.func34, Tryz.ntmps34
  go_upto_region 1 with fail
  refine wp_gen (P := PX w p 52 (srvL R pd A n1 c1) [⟨w.heap.size + 1, 90, outL_ none 0 0 outZ none 0 0⟩, ⟨w.heap.size, 48, msL_ (⟨4, ix, sub, tg, la, cr, sz, size, code, data, sq, bl, em, sum⟩ : Ms) A3 m3 c3⟩]) HH.out (fun W hW => ?_)
  clear HH
  have HX := hide hW
  have hwz : w.heap.size + 2 ≤ W.heap.size := by
    have := hW.k0.lt
    show w.heap.size + 1 < W.heap.size
    exact this
  have k1 := hW.k1
  have kk := hW.k0
  have bb := hW.blk
  unfold msL_ at k1
  dsimp only at k1
  unfold outL_ outZ at kk
  unfold srvL at bb
  have zk := k1.lt
  have zkk := kk.lt
  have zb := bb.lt
  clear hW
  obtain ⟨k1_c0, k1_c1, k1_c2, k1_c3, k1_c4, k1_c5, k1_c6, k1_c7, k1_c8, k1_c9, k1_c10, k1_c11, k1_c12, k1_c13⟩ := cel14 k1
  have k1_f := k1.frozen
  obtain ⟨kk_c0, kk_c1, kk_c2, kk_c3, kk_c4⟩ := cel5 kk
  have kk_f := kk.frozen
  obtain ⟨bb_c0, bb_c1, bb_c2, bb_c3, bb_c4, bb_c5, bb_c6, bb_c7⟩ := cel8 bb
  have bb_f := bb.frozen
  by_cases h3 : R.st = 3
  · rw [h3] at bb_c1
    have HR : Hid (P = ROutR w G p pd (upS L V (segIdle S) (⟨4, ix, sub, tg, la, cr, sz, size, code, data, sq, bl, em, sum⟩ : Ms)) (upO L V (⟨4, ix, sub, tg, la, cr, sz, size, code, data, sq, bl, em, sum⟩ : Ms))) := hide (by
      rw [HP.out]
      congr 1
      all_goals first | (unfold recvS; rw [if_neg (by decide), if_neg (by decide), if_pos rfl]; done) | (unfold recvO; rw [if_neg (by decide), if_neg (by decide), if_pos rfl]; done) | (unfold recvS; rw [if_neg (by decide), if_neg (by decide), if_pos rfl]) | (unfold recvO; rw [if_neg (by decide), if_neg (by decide), if_pos rfl]))
    have X1 : PX w p 52 (srvL (segIdle R) pd A n1 c1) [⟨w.heap.size + 1, 90, outL_ none 0 0 outZ none 0 0⟩, ⟨w.heap.size, 48, msL_ (⟨4, ix, sub, tg, la, cr, sz, size, code, data, sq, bl, em, sum⟩ : Ms) A3 m3 c3⟩] _ := HX.out.set 1 (.int .i64 0)
    have HX1 := hide X1
    have HW1 : Hid (w.heap.size + 2 ≤ (W.setCell ⟨p, 1, none⟩ (.int .i64 0)).heap.size) := hide (by simp [World.setCell]; omega)
    clear X1
    go_wp2_with fail
    refine (rsg_up p (segIdle S) (fun q => G q ∧ q < w.heap.size) (⟨4, ix, sub, tg, la, cr, sz, size, code, data, sq, bl, em, sum⟩ : Ms) A3 m3 c3 _ (HD.out _ HX1.out.only) HVV.out.1 HVV.out.2 hp ⟨segIdle R, A, n1, c1, Ali.idle rfl rfl, HX1.out.blk, fun h => absurd h (show ¬ ((0 : Int) = 1 ∨ (0 : Int) = 2) by decide)⟩ rfl).mono ?_
    rintro e w8 ⟨As, ns, cs, A5, n5, c5, rfl, hM5, hO5, hV5, ho5⟩
    have kk8 : Blk w8 (w.heap.size + 1) 90 #[.slice none 0 0, .bool false, .int .i64 0, .int .i64 0, .slice none 0 0] := (ho5.block _ HX1.out.k0.lt (show w.heap.size + 1 ≠ p by omega)).trans HX1.out.k0
    have zk8 := kk8.lt
    unfold outV
    dsimp only
    obtain ⟨F1, F2⟩ := rfin_lift (S' := upS L V (segIdle S) (⟨4, ix, sub, tg, la, cr, sz, size, code, data, sq, bl, em, sum⟩ : Ms)) (O := upO L V (⟨4, ix, sub, tg, la, cr, sz, size, code, data, sq, bl, em, sum⟩ : Ms)) HX1.out hz HW1.out hM5 hO5 (hV5) ho5
    rw [← HR.out] at F2
    have HF := hide (And.intro F1 F2)
    unfold putO at HF
    clear k1_c0 k1_c1 k1_c2 k1_c3 k1_c4 k1_c5 k1_c6 k1_c7 k1_c8 k1_c9 k1_c10 k1_c11 k1_c12 k1_c13 k1_f
    clear kk_c0 kk_c1 kk_c2 kk_c3 kk_c4 kk_f
    clear bb_c0 bb_c1 bb_c2 bb_c3 bb_c4 bb_c5 bb_c6 bb_c7 bb_f
    clear k1 kk bb zk zkk zb
    obtain ⟨kk8_c0, kk8_c1, kk8_c2, kk8_c3, kk8_c4⟩ := cel5 kk8
    have kk8_f := kk8.frozen
    clear hM5 hO5 hV5 ho5 F1 F2
    go_wp2_with fail
    unfold outV at HF
    exact rret_out (O := upO L V (⟨4, ix, sub, tg, la, cr, sz, size, code, data, sq, bl, em, sum⟩ : Ms)) rfl rfl rfl HF.out.1 HF.out.2
  · have h3b : (R.st == 3) = false := by simp [h3]
    have HR : Hid (P = ROutR w G p pd (upS L V (segIdle S) (⟨4, ix, sub, tg, la, cr, sz, size, code, data, sq, bl, em, sum⟩ : Ms)) (upO L V (⟨4, ix, sub, tg, la, cr, sz, size, code, data, sq, bl, em, sum⟩ : Ms))) := hide (by
      rw [HP.out]
      congr 1
      all_goals first | (unfold recvS; rw [if_neg (by decide), if_neg (by decide), if_pos rfl]; done) | (unfold recvO; rw [if_neg (by decide), if_neg (by decide), if_pos rfl]; done) | (unfold recvS; rw [if_neg (by decide), if_neg (by decide), if_pos rfl]) | (unfold recvO; rw [if_neg (by decide), if_neg (by decide), if_pos rfl]))
    have X1 : PX w p 52 (srvL (segIdle R) pd A n1 c1) [⟨w.heap.size + 1, 90, outL_ none 0 0 outZ none 0 0⟩, ⟨w.heap.size, 48, msL_ (⟨4, ix, sub, tg, la, cr, sz, size, code, data, sq, bl, em, sum⟩ : Ms) A3 m3 c3⟩] _ := HX.out.set 1 (.int .i64 0)
    have HX1 := hide X1
    have HW1 : Hid (w.heap.size + 2 ≤ (W.setCell ⟨p, 1, none⟩ (.int .i64 0)).heap.size) := hide (by simp [World.setCell]; omega)
    clear X1
    go_wp2_with fail
    refine (rsg_up p (segIdle S) (fun q => G q ∧ q < w.heap.size) (⟨4, ix, sub, tg, la, cr, sz, size, code, data, sq, bl, em, sum⟩ : Ms) A3 m3 c3 _ (HD.out _ HX1.out.only) HVV.out.1 HVV.out.2 hp ⟨segIdle R, A, n1, c1, Ali.idle rfl rfl, HX1.out.blk, fun h => absurd h (show ¬ ((0 : Int) = 1 ∨ (0 : Int) = 2) by decide)⟩ rfl).mono ?_
    rintro e w8 ⟨As, ns, cs, A5, n5, c5, rfl, hM5, hO5, hV5, ho5⟩
    have kk8 : Blk w8 (w.heap.size + 1) 90 #[.slice none 0 0, .bool false, .int .i64 0, .int .i64 0, .slice none 0 0] := (ho5.block _ HX1.out.k0.lt (show w.heap.size + 1 ≠ p by omega)).trans HX1.out.k0
    have zk8 := kk8.lt
    unfold outV
    dsimp only
    obtain ⟨F1, F2⟩ := rfin_lift (S' := upS L V (segIdle S) (⟨4, ix, sub, tg, la, cr, sz, size, code, data, sq, bl, em, sum⟩ : Ms)) (O := upO L V (⟨4, ix, sub, tg, la, cr, sz, size, code, data, sq, bl, em, sum⟩ : Ms)) HX1.out hz HW1.out hM5 hO5 (hV5) ho5
    rw [← HR.out] at F2
    have HF := hide (And.intro F1 F2)
    unfold putO at HF
    clear k1_c0 k1_c1 k1_c2 k1_c3 k1_c4 k1_c5 k1_c6 k1_c7 k1_c8 k1_c9 k1_c10 k1_c11 k1_c12 k1_c13 k1_f
    clear kk_c0 kk_c1 kk_c2 kk_c3 kk_c4 kk_f
    clear bb_c0 bb_c1 bb_c2 bb_c3 bb_c4 bb_c5 bb_c6 bb_c7 bb_f
    clear k1 kk bb zk zkk zb
    obtain ⟨kk8_c0, kk8_c1, kk8_c2, kk8_c3, kk8_c4⟩ := cel5 kk8
    have kk8_f := kk8.frozen
    clear hM5 hO5 hV5 ho5 F1 F2
    go_wp2_with fail
    unfold outV at HF
    exact rret_out (O := upO L V (⟨4, ix, sub, tg, la, cr, sz, size, code, data, sq, bl, em, sum⟩ : Ms)) rfl rfl rfl HF.out.1 HF.out.2
theorem rsg_recv1 (p : Nat) (S : SegS) (G : Nat → Prop) (ix sub : Int) (tg la cr sz : Bool) (size code : Nat) (data : List UInt8) (sq bl em : Int) (sum : Nat) (A3 : Option Addr) (m3 c3 : Nat) (w : World) (hD : DB 82 w F pd Al n cl Av cv L V ds es) (hn : n ≤ 1000) (hv : ∀ v ∈ V, v.length ≤ 256)
    (hp : ¬ F p) (hS : RV_ w G p pd S) (hm : m3 = data.length) (hm1 : m3 ≤ 100000) (hMd : ∀ W, Only (fun q => q = p) w W → Sl W A3 (data.map bv)) (hsz : size ≤ 4294967295) (hb : S.st = 1 ∨ S.st = 2 → S.b.length ≤ 256) :
    Calls Tryz.prog 34 #[.pointer (some ⟨p, 0, none⟩), .agg (msV (⟨1, ix, sub, tg, la, cr, sz, size, code, data, sq, bl, em, sum⟩ : Ms) A3 m3 c3)] w (ROutR w G p pd (recvS L V S (⟨1, ix, sub, tg, la, cr, sz, size, code, data, sq, bl, em, sum⟩ : Ms)) (recvO L V S (⟨1, ix, sub, tg, la, cr, sz, size, code, data, sq, bl, em, sum⟩ : Ms))) := by
  obtain ⟨R, A, n1, c1, hal, hB, hby⟩ := id hS
  obtain ⟨P, hP⟩ : ∃ P, P = ROutR w G p pd (recvS L V S (⟨1, ix, sub, tg, la, cr, sz, size, code, data, sq, bl, em, sum⟩ : Ms)) (recvO L V S (⟨1, ix, sub, tg, la, cr, sz, size, code, data, sq, bl, em, sum⟩ : Ms)) := ⟨_, rfl⟩
  rw [← hP]
  have HP := hide hP
  have hz := hB.lt
  have HAL := hide hal
  have HBY := hide hby
  have HDA := hide (And.intro hm (And.intro hMd (And.intro hsz (And.intro hb hm1))))
  have HVV := hide (And.intro hn hv)
  have hne1 : w.heap.size + 1 ≠ p := by omega
  have hne0 : w.heap.size ≠ p := by omega
  have HD := hide (fun W (h : Only (fun q => q = p) w W) => hD.keep (w' := W) (fun g hg hlt => h.block g hlt (fun e => hp (e ▸ hg))))
  have HH0 := (PX.start (cs := srvL R pd A n1 c1) hB).new2 rfl 48 90 (msL_ (⟨1, ix, sub, tg, la, cr, sz, size, code, data, sq, bl, em, sum⟩ : Ms) A3 m3 c3) (outL_ none 0 0 outZ none 0 0)
  have HH := hide HH0
  have HB0 := hide hB
  clear hP hS hB hD hn hv HH0 hal hby hm hMd hsz hb
  unfold msL_ outL_ outZ at HH
  dsimp only at HH
  unfold msV
  dsimp only
  go_enter Tryz.func34, Tryz.ntmps34
  go_upto_region 1 with fail
  refine wp_gen (P := PX w p 52 (srvL R pd A n1 c1) [⟨w.heap.size + 1, 90, outL_ none 0 0 outZ none 0 0⟩, ⟨w.heap.size, 48, msL_ (⟨1, ix, sub, tg, la, cr, sz, size, code, data, sq, bl, em, sum⟩ : Ms) A3 m3 c3⟩]) HH.out (fun W hW => ?_)
  clear HH
  have HX := hide hW
  have hwz : w.heap.size + 2 ≤ W.heap.size := by
    have := hW.k0.lt
    show w.heap.size + 1 < W.heap.size
    exact this
  have k1 := hW.k1
  have kk := hW.k0
  have bb := hW.blk
  unfold msL_ at k1
  dsimp only at k1
  unfold outL_ outZ at kk
  unfold srvL at bb
  have zk := k1.lt
  have zkk := kk.lt
  have zb := bb.lt
  clear hW
  obtain ⟨k1_c0, k1_c1, k1_c2, k1_c3, k1_c4, k1_c5, k1_c6, k1_c7, k1_c8, k1_c9, k1_c10, k1_c11, k1_c12, k1_c13⟩ := cel14 k1
  have k1_f := k1.frozen
  obtain ⟨kk_c0, kk_c1, kk_c2, kk_c3, kk_c4⟩ := cel5 kk
  have kk_f := kk.frozen
  obtain ⟨bb_c0, bb_c1, bb_c2, bb_c3, bb_c4, bb_c5, bb_c6, bb_c7⟩ := cel8 bb
  have bb_f := bb.frozen
  by_cases h3 : R.st = 3
  · rw [h3] at bb_c1
    have X1 : PX w p 52 (srvL (segIdle R) pd A n1 c1) [⟨w.heap.size + 1, 90, outL_ none 0 0 outZ none 0 0⟩, ⟨w.heap.size, 48, msL_ (⟨1, ix, sub, tg, la, cr, sz, size, code, data, sq, bl, em, sum⟩ : Ms) A3 m3 c3⟩] _ := HX.out.set 1 (.int .i64 0)
    have HX1 := hide X1
    have HW1 : Hid (w.heap.size + 2 ≤ (W.setCell ⟨p, 1, none⟩ (.int .i64 0)).heap.size) := hide (by simp [World.setCell]; omega)
    clear X1
    have HR : Hid (P = ROutR w G p pd (segIdle S) outZ) := hide (by
      rw [HP.out]
      congr 1)
    go_wp2_with fail
    obtain ⟨F1, F2⟩ := rfin (G := G) (S' := segIdle S) (O := outZ) (HX1.out.sub (ks' := [⟨w.heap.size + 1, 90, outL_ none 0 0 outZ none 0 0⟩]) (by simp)) hz (.inl ⟨rfl, rfl, rfl, rfl⟩) (OwnB.nil _ _) (Ali.idle rfl rfl) (fun h => absurd h (show ¬ ((0 : Int) = 1 ∨ (0 : Int) = 2) by decide))
    rw [← HR.out] at F2
    unfold putO outZ at F1 F2
    dsimp only at F1 F2
    exact rret_out (O := outZ) rfl rfl rfl F1 F2
  · have h3b : (R.st == 3) = false := by simp [h3]
    have X1 : PX w p 52 (srvL (segIdle R) pd A n1 c1) [⟨w.heap.size + 1, 90, outL_ none 0 0 outZ none 0 0⟩, ⟨w.heap.size, 48, msL_ (⟨1, ix, sub, tg, la, cr, sz, size, code, data, sq, bl, em, sum⟩ : Ms) A3 m3 c3⟩] _ := HX.out.set 1 (.int .i64 0)
    have HX1 := hide X1
    have HW1 : Hid (w.heap.size + 2 ≤ (W.setCell ⟨p, 1, none⟩ (.int .i64 0)).heap.size) := hide (by simp [World.setCell]; omega)
    clear X1
    have HR : Hid (P = ROutR w G p pd (segIdle S) outZ) := hide (by
      rw [HP.out]
      congr 1)
    go_wp2_with fail
    obtain ⟨F1, F2⟩ := rfin (G := G) (S' := segIdle S) (O := outZ) (HX1.out.sub (ks' := [⟨w.heap.size + 1, 90, outL_ none 0 0 outZ none 0 0⟩]) (by simp)) hz (.inl ⟨rfl, rfl, rfl, rfl⟩) (OwnB.nil _ _) (Ali.idle rfl rfl) (fun h => absurd h (show ¬ ((0 : Int) = 1 ∨ (0 : Int) = 2) by decide))
    rw [← HR.out] at F2
    unfold putO outZ at F1 F2
    dsimp only at F1 F2
    exact rret_out (O := outZ) rfl rfl rfl F1 F2
theorem rsg_recv3 (p : Nat) (S : SegS) (G : Nat → Prop) (ix sub : Int) (tg la cr sz : Bool) (size code : Nat) (data : List UInt8) (sq bl em : Int) (sum : Nat) (A3 : Option Addr) (m3 c3 : Nat) (w : World) (hD : DB 82 w F pd Al n cl Av cv L V ds es) (hn : n ≤ 1000) (hv : ∀ v ∈ V, v.length ≤ 256)
    (hp : ¬ F p) (hS : RV_ w G p pd S) (hm : m3 = data.length) (hm1 : m3 ≤ 100000) (hMd : ∀ W, Only (fun q => q = p) w W → Sl W A3 (data.map bv)) (hsz : size ≤ 4294967295) (hb : S.st = 1 ∨ S.st = 2 → S.b.length ≤ 256) :
    Calls Tryz.prog 34 #[.pointer (some ⟨p, 0, none⟩), .agg (msV (⟨3, ix, sub, tg, la, cr, sz, size, code, data, sq, bl, em, sum⟩ : Ms) A3 m3 c3)] w (ROutR w G p pd (recvS L V S (⟨3, ix, sub, tg, la, cr, sz, size, code, data, sq, bl, em, sum⟩ : Ms)) (recvO L V S (⟨3, ix, sub, tg, la, cr, sz, size, code, data, sq, bl, em, sum⟩ : Ms))) := by
  obtain ⟨R, A, n1, c1, hal, hB, hby⟩ := id hS
  obtain ⟨P, hP⟩ : ∃ P, P = ROutR w G p pd (recvS L V S (⟨3, ix, sub, tg, la, cr, sz, size, code, data, sq, bl, em, sum⟩ : Ms)) (recvO L V S (⟨3, ix, sub, tg, la, cr, sz, size, code, data, sq, bl, em, sum⟩ : Ms)) := ⟨_, rfl⟩
  rw [← hP]
  have HP := hide hP
  have hz := hB.lt
  have HAL := hide hal
  have HBY := hide hby
  have HDA := hide (And.intro hm (And.intro hMd (And.intro hsz (And.intro hb hm1))))
  have HVV := hide (And.intro hn hv)
  have hne1 : w.heap.size + 1 ≠ p := by omega
  have hne0 : w.heap.size ≠ p := by omega
  have HD := hide (fun W (h : Only (fun q => q = p) w W) => hD.keep (w' := W) (fun g hg hlt => h.block g hlt (fun e => hp (e ▸ hg))))
  have HH0 := (PX.start (cs := srvL R pd A n1 c1) hB).new2 rfl 48 90 (msL_ (⟨3, ix, sub, tg, la, cr, sz, size, code, data, sq, bl, em, sum⟩ : Ms) A3 m3 c3) (outL_ none 0 0 outZ none 0 0)
  have HH := hide HH0
  have HB0 := hide hB
  clear hP hS hB hD hn hv HH0 hal hby hm hMd hsz hb
  unfold msL_ outL_ outZ at HH
  dsimp only at HH
  unfold msV
  dsimp only
  go_enter Tryz.func34, Tryz.ntmps34
  go_upto_region 1 with fail
  refine wp_gen (P := PX w p 52 (srvL R pd A n1 c1) [⟨w.heap.size + 1, 90, outL_ none 0 0 outZ none 0 0⟩, ⟨w.heap.size, 48, msL_ (⟨3, ix, sub, tg, la, cr, sz, size, code, data, sq, bl, em, sum⟩ : Ms) A3 m3 c3⟩]) HH.out (fun W hW => ?_)
  clear HH
  have HX := hide hW
  have hwz : w.heap.size + 2 ≤ W.heap.size := by
    have := hW.k0.lt
    show w.heap.size + 1 < W.heap.size
    exact this
  have k1 := hW.k1
  have kk := hW.k0
  have bb := hW.blk
  unfold msL_ at k1
  dsimp only at k1
  unfold outL_ outZ at kk
  unfold srvL at bb
  have zk := k1.lt
  have zkk := kk.lt
  have zb := bb.lt
  clear hW
  obtain ⟨k1_c0, k1_c1, k1_c2, k1_c3, k1_c4, k1_c5, k1_c6, k1_c7, k1_c8, k1_c9, k1_c10, k1_c11, k1_c12, k1_c13⟩ := cel14 k1
  have k1_f := k1.frozen
  obtain ⟨kk_c0, kk_c1, kk_c2, kk_c3, kk_c4⟩ := cel5 kk
  have kk_f := kk.frozen
  obtain ⟨bb_c0, bb_c1, bb_c2, bb_c3, bb_c4, bb_c5, bb_c6, bb_c7⟩ := cel8 bb
  have bb_f := bb.frozen
  by_cases h3 : R.st = 3
  · rw [h3] at bb_c1
    have HS3 : Hid (S.st = 3) := hide (HAL.out.1.trans h3)
    have X1 : PX w p 52 (srvL (segIdle R) pd A n1 c1) [⟨w.heap.size + 1, 90, outL_ none 0 0 outZ none 0 0⟩, ⟨w.heap.size, 48, msL_ (⟨3, ix, sub, tg, la, cr, sz, size, code, data, sq, bl, em, sum⟩ : Ms) A3 m3 c3⟩] _ := HX.out.set 1 (.int .i64 0)
    have HX1 := hide X1
    have HW1 : Hid (w.heap.size + 2 ≤ (W.setCell ⟨p, 1, none⟩ (.int .i64 0)).heap.size) := hide (by simp [World.setCell]; omega)
    clear X1
    have HR : Hid (P = ROutR w G p pd (segIdle S) (outM (abM 0 0 84148225))) := hide (by
      rw [HP.out]
      congr 1
      all_goals first | (unfold recvS; rw [if_neg (show ¬ (3 : Int) = 1 by decide), if_neg (show ¬ (3 : Int) = 2 by decide), if_neg (show ¬ (3 : Int) = 4 by decide), if_neg (fun h => by have := h.2; have := HS3.out; omega), if_neg (fun h => absurd h.1 (show ¬ (3 : Int) = 5 by decide))]; done) | (unfold recvO; rw [if_neg (show ¬ (3 : Int) = 1 by decide), if_neg (show ¬ (3 : Int) = 2 by decide), if_neg (show ¬ (3 : Int) = 4 by decide), if_neg (fun h => by have := h.2; have := HS3.out; omega), if_neg (fun h => absurd h.1 (show ¬ (3 : Int) = 5 by decide)), if_neg (by unfold wokeS; rw [if_pos HS3.out]; simp)]; done) | (unfold recvS; rw [if_neg (show ¬ (3 : Int) = 1 by decide), if_neg (show ¬ (3 : Int) = 2 by decide), if_neg (show ¬ (3 : Int) = 4 by decide), if_neg (fun h => by have := h.2; have := HS3.out; omega), if_neg (fun h => absurd h.1 (show ¬ (3 : Int) = 5 by decide))]) | (unfold recvO; rw [if_neg (show ¬ (3 : Int) = 1 by decide), if_neg (show ¬ (3 : Int) = 2 by decide), if_neg (show ¬ (3 : Int) = 4 by decide), if_neg (fun h => by have := h.2; have := HS3.out; omega), if_neg (fun h => absurd h.1 (show ¬ (3 : Int) = 5 by decide)), if_neg (by unfold wokeS; rw [if_pos HS3.out]; simp)]))
    go_wp2_with fail
    refine (rsg_refuse msZ none 0 0 84148225 _).mono ?_
    rintro e w8 ⟨g8, hg8, rfl, hM8, hb8⟩
    unfold outV outZ
    dsimp only
    have HX8 := hide (HX1.out.step hb8)
    have zg8 : w.heap.size + 2 ≤ g8 := Nat.le_trans HW1.out hg8
    have HM8 := hide hM8
    have k2 := HX8.out.k0
    unfold outL_ outZ at k2
    have zk2 := k2.lt
    clear k1_c0 k1_c1 k1_c2 k1_c3 k1_c4 k1_c5 k1_c6 k1_c7 k1_c8 k1_c9 k1_c10 k1_c11 k1_c12 k1_c13 k1_f
    clear kk_c0 kk_c1 kk_c2 kk_c3 kk_c4 kk_f
    clear bb_c0 bb_c1 bb_c2 bb_c3 bb_c4 bb_c5 bb_c6 bb_c7 bb_f
    clear k1 kk bb zk zkk zb
    obtain ⟨k2_c0, k2_c1, k2_c2, k2_c3, k2_c4⟩ := cel5 k2
    have k2_f := k2.frozen
    clear hM8 hb8
    go_wp2_with fail
    obtain ⟨F1, F2⟩ := rfin (G := G) (S' := segIdle S) (O := outM (abM 0 0 84148225)) (HX8.out.sub (ks' := [⟨w.heap.size + 1, 90, outL_ none 0 0 outZ none 0 0⟩]) (by simp)) hz (rmsR_one zg8 HM8.out (OwnB.nil _ _)) (OwnB.nil _ _) (Ali.idle rfl rfl) (fun h => absurd h (show ¬ ((0 : Int) = 1 ∨ (0 : Int) = 2) by decide))
    rw [← HR.out] at F2
    unfold putO outM at F1 F2
    dsimp only at F1 F2
    exact rret_out (O := outM (abM 0 0 84148225)) rfl rfl rfl F1 F2
  · have h3b : (R.st == 3) = false := by simp [h3]
    by_cases hst : R.st = 0
    · rw [hst] at bb_c1
      have HST0 := hide hst
      have HS3 : Hid (S.st = 0) := hide (HAL.out.1.trans hst)
      have HX1 := HX
      have HW1 := hide hwz
      have HR : Hid (P = ROutR w G p pd (segIdle S) (outM (abM 0 0 84148225))) := hide (by
        rw [HP.out]
        congr 1
        all_goals first | (unfold recvS; rw [if_neg (show ¬ (3 : Int) = 1 by decide), if_neg (show ¬ (3 : Int) = 2 by decide), if_neg (show ¬ (3 : Int) = 4 by decide), if_neg (fun h => by have := h.2; have := HS3.out; omega), if_neg (fun h => absurd h.1 (show ¬ (3 : Int) = 5 by decide))]; done) | (unfold recvO; rw [if_neg (show ¬ (3 : Int) = 1 by decide), if_neg (show ¬ (3 : Int) = 2 by decide), if_neg (show ¬ (3 : Int) = 4 by decide), if_neg (fun h => by have := h.2; have := HS3.out; omega), if_neg (fun h => absurd h.1 (show ¬ (3 : Int) = 5 by decide)), if_neg (by unfold wokeS; rw [if_neg (by rw [HS3.out]; omega)]; rw [HS3.out]; simp)]; done) | (unfold recvS; rw [if_neg (show ¬ (3 : Int) = 1 by decide), if_neg (show ¬ (3 : Int) = 2 by decide), if_neg (show ¬ (3 : Int) = 4 by decide), if_neg (fun h => by have := h.2; have := HS3.out; omega), if_neg (fun h => absurd h.1 (show ¬ (3 : Int) = 5 by decide))]) | (unfold recvO; rw [if_neg (show ¬ (3 : Int) = 1 by decide), if_neg (show ¬ (3 : Int) = 2 by decide), if_neg (show ¬ (3 : Int) = 4 by decide), if_neg (fun h => by have := h.2; have := HS3.out; omega), if_neg (fun h => absurd h.1 (show ¬ (3 : Int) = 5 by decide)), if_neg (by unfold wokeS; rw [if_neg (by rw [HS3.out]; omega)]; rw [HS3.out]; simp)]))
      go_wp2_with fail
      refine (rsg_refuse msZ none 0 0 84148225 _).mono ?_
      rintro e w8 ⟨g8, hg8, rfl, hM8, hb8⟩
      unfold outV outZ
      dsimp only
      have HX8 := hide (HX1.out.step hb8)
      have zg8 : w.heap.size + 2 ≤ g8 := Nat.le_trans HW1.out hg8
      have HM8 := hide hM8
      have k2 := HX8.out.k0
      unfold outL_ outZ at k2
      have zk2 := k2.lt
      clear k1_c0 k1_c1 k1_c2 k1_c3 k1_c4 k1_c5 k1_c6 k1_c7 k1_c8 k1_c9 k1_c10 k1_c11 k1_c12 k1_c13 k1_f
      clear kk_c0 kk_c1 kk_c2 kk_c3 kk_c4 kk_f
      clear bb_c0 bb_c1 bb_c2 bb_c3 bb_c4 bb_c5 bb_c6 bb_c7 bb_f
      clear k1 kk bb zk zkk zb
      obtain ⟨k2_c0, k2_c1, k2_c2, k2_c3, k2_c4⟩ := cel5 k2
      have k2_f := k2.frozen
      clear hM8 hb8
      go_wp2_with fail
      obtain ⟨F1, F2⟩ := rfin (G := G) (S' := segIdle S) (O := outM (abM 0 0 84148225)) (HX8.out.sub (ks' := [⟨w.heap.size + 1, 90, outL_ none 0 0 outZ none 0 0⟩]) (by simp)) hz (rmsR_one zg8 HM8.out (OwnB.nil _ _)) (OwnB.nil _ _) (Ali.idle rfl (show R.st = 0 from HST0.out)) (fun h => by have h5 := HST0.out; rcases h with h | h <;> omega)
      rw [← HR.out] at F2
      unfold putO outM at F1 F2
      dsimp only at F1 F2
      exact rret_out (O := outM (abM 0 0 84148225)) rfl rfl rfl F1 F2
    · by_cases hk : R.st = 1
      · skip
        have HST := hide hk
        have HR : Hid (P = ROutR w G p pd (partS S (⟨3, ix, sub, tg, la, cr, sz, size, code, data, sq, bl, em, sum⟩ : Ms)) (partO R (⟨3, ix, sub, tg, la, cr, sz, size, code, data, sq, bl, em, sum⟩ : Ms))) := hide (by
          rw [HP.out]
          congr 1
          all_goals first | (unfold recvS; rw [if_neg (show ¬ (3 : Int) = 1 by decide), if_neg (show ¬ (3 : Int) = 2 by decide), if_neg (show ¬ (3 : Int) = 4 by decide), if_pos ⟨rfl, HAL.out.1.trans hk⟩]; done) | (unfold recvO; rw [if_neg (show ¬ (3 : Int) = 1 by decide), if_neg (show ¬ (3 : Int) = 2 by decide), if_neg (show ¬ (3 : Int) = 4 by decide), if_pos ⟨rfl, HAL.out.1.trans hk⟩, (part_ali HAL.out hk _).1]; done) | (unfold recvS; rw [if_neg (show ¬ (3 : Int) = 1 by decide), if_neg (show ¬ (3 : Int) = 2 by decide), if_neg (show ¬ (3 : Int) = 4 by decide), if_pos ⟨rfl, HAL.out.1.trans hk⟩]) | (unfold recvO; rw [if_neg (show ¬ (3 : Int) = 1 by decide), if_neg (show ¬ (3 : Int) = 2 by decide), if_neg (show ¬ (3 : Int) = 4 by decide), if_pos ⟨rfl, HAL.out.1.trans hk⟩, (part_ali HAL.out hk _).1]))
        rw [hk] at bb_c1
        have HX1 := HX
        have HW1 := hide hwz
        go_wp2_with fail
        refine (rsg_downSeg p pd R A n1 c1 (fun q => G q ∧ q < w.heap.size) (⟨3, ix, sub, tg, la, cr, sz, size, code, data, sq, bl, em, sum⟩ : Ms) A3 m3 c3 _ HX1.out.blk HST.out (HAL.out.2.2.1 HST.out).2.2.2.2 (HBY.out (.inl HST.out)).1 (sl_blk (HBY.out (.inl HST.out)).2.2.1 (fun ad e => HX1.out.only.block ad.block ((HBY.out (.inl HST.out)).2.2.2.2 ad e).2.1 ((HBY.out (.inl HST.out)).2.2.2.2 ad e).2.2)) (fun ad e => ⟨by have h1 := ((HBY.out (.inl HST.out)).2.2.2.2 ad e).2.1; have := HX1.out.only.size; omega, ((HBY.out (.inl HST.out)).2.2.2.2 ad e).2.2⟩) (by rw [← (HAL.out.2.2.1 HST.out).2.2.1]; exact HDA.out.2.2.2.1 (.inl (HAL.out.1.trans HST.out))) HDA.out.1 HDA.out.2.2.2.2 (fun W h => HDA.out.2.1 _ (HX1.out.only.trans h (fun _ _ h => h)))).mono ?_
        rintro e w8 ⟨As, ns, cs, A5, n5, c5, rfl, hM5, hO5, hV5, ho5⟩
        have kk8 : Blk w8 (w.heap.size + 1) 90 #[.slice none 0 0, .bool false, .int .i64 0, .int .i64 0, .slice none 0 0] := (ho5.block _ HX1.out.k0.lt (show w.heap.size + 1 ≠ p by omega)).trans HX1.out.k0
        have zk8 := kk8.lt
        unfold outV
        dsimp only
        obtain ⟨F1, F2⟩ := rfin_lift (S' := partS S (⟨3, ix, sub, tg, la, cr, sz, size, code, data, sq, bl, em, sum⟩ : Ms)) (O := partO R (⟨3, ix, sub, tg, la, cr, sz, size, code, data, sq, bl, em, sum⟩ : Ms)) HX1.out hz HW1.out hM5 hO5 (hV5.ali (part_ali HAL.out HST.out _).2) ho5
        rw [← HR.out] at F2
        have HF := hide (And.intro F1 F2)
        unfold putO at HF
        clear k1_c0 k1_c1 k1_c2 k1_c3 k1_c4 k1_c5 k1_c6 k1_c7 k1_c8 k1_c9 k1_c10 k1_c11 k1_c12 k1_c13 k1_f
        clear kk_c0 kk_c1 kk_c2 kk_c3 kk_c4 kk_f
        clear bb_c0 bb_c1 bb_c2 bb_c3 bb_c4 bb_c5 bb_c6 bb_c7 bb_f
        clear k1 kk bb zk zkk zb
        obtain ⟨kk8_c0, kk8_c1, kk8_c2, kk8_c3, kk8_c4⟩ := cel5 kk8
        have kk8_f := kk8.frozen
        clear hM5 hO5 hV5 ho5 F1 F2
        go_wp2_with fail
        unfold outV at HF
        exact rret_out (O := partO R (⟨3, ix, sub, tg, la, cr, sz, size, code, data, sq, bl, em, sum⟩ : Ms)) rfl rfl rfl HF.out.1 HF.out.2
      · skip
        have hkb : (R.st == 1) = false := by simp [hk]
        have HA5 := HAL.out.2.1 hst
        have HR : Hid (P = ROutR w G p pd (segIdle S) (outM (abM R.ix R.sub 84148225))) := hide (by
          rw [HP.out]
          congr 1
          all_goals first | (unfold recvS; rw [if_neg (show ¬ (3 : Int) = 1 by decide), if_neg (show ¬ (3 : Int) = 2 by decide), if_neg (show ¬ (3 : Int) = 4 by decide), if_neg (fun h => hk (HAL.out.1.symm.trans h.2)), if_neg (fun h => absurd h.1 (show ¬ (3 : Int) = 5 by decide))]; done) | (unfold recvO; rw [if_neg (show ¬ (3 : Int) = 1 by decide), if_neg (show ¬ (3 : Int) = 2 by decide), if_neg (show ¬ (3 : Int) = 4 by decide), if_neg (fun h => hk (HAL.out.1.symm.trans h.2)), if_neg (fun h => absurd h.1 (show ¬ (3 : Int) = 5 by decide)), if_pos (by unfold wokeS; rw [if_neg (by rw [HAL.out.1]; exact h3)]; rw [HAL.out.1]; exact hst), HA5.1, HA5.2]; done) | (unfold recvS; rw [if_neg (show ¬ (3 : Int) = 1 by decide), if_neg (show ¬ (3 : Int) = 2 by decide), if_neg (show ¬ (3 : Int) = 4 by decide), if_neg (fun h => hk (HAL.out.1.symm.trans h.2)), if_neg (fun h => absurd h.1 (show ¬ (3 : Int) = 5 by decide))]) | (unfold recvO; rw [if_neg (show ¬ (3 : Int) = 1 by decide), if_neg (show ¬ (3 : Int) = 2 by decide), if_neg (show ¬ (3 : Int) = 4 by decide), if_neg (fun h => hk (HAL.out.1.symm.trans h.2)), if_neg (fun h => absurd h.1 (show ¬ (3 : Int) = 5 by decide)), if_pos (by unfold wokeS; rw [if_neg (by rw [HAL.out.1]; exact h3)]; rw [HAL.out.1]; exact hst), HA5.1, HA5.2]))
        have hstn : (R.st != 0) = true := by simp [hst]
        have hstn2 : (R.st == 0) = false := by simp [hst]
        have HST := hide hst
        go_wp2_with fail
        refine (rsg_abort p pd R 84148225 A n1 c1 _ HX.out.blk).mono ?_
        rintro e w8 ⟨_, h5⟩
        obtain ⟨g8, hg8, rfl, hM8, hB8, ho8⟩ := h5 HST.out
        have HX8 : Hid (PX w p 52 (srvL (abortS R) pd A n1 c1) [⟨w.heap.size + 1, 90, outL_ none 0 0 outZ none 0 0⟩, ⟨w.heap.size, 48, msL_ (⟨3, ix, sub, tg, la, cr, sz, size, code, data, sq, bl, em, sum⟩ : Ms) A3 m3 c3⟩] w8) := hide (HX.out.call ho8 hB8)
        have HM8 := hide hM8
        have zg8 : w.heap.size + 2 ≤ g8 := Nat.le_trans hwz hg8
        have k8 := HX8.out.k0
        unfold outL_ outZ at k8
        have zk8 := k8.lt
        clear k1_c0 k1_c1 k1_c2 k1_c3 k1_c4 k1_c5 k1_c6 k1_c7 k1_c8 k1_c9 k1_c10 k1_c11 k1_c12 k1_c13 k1_f
        clear kk_c0 kk_c1 kk_c2 kk_c3 kk_c4 kk_f
        clear bb_c0 bb_c1 bb_c2 bb_c3 bb_c4 bb_c5 bb_c6 bb_c7 bb_f
        clear k1 kk bb zk zkk zb
        obtain ⟨k8_c0, k8_c1, k8_c2, k8_c3, k8_c4⟩ := cel5 k8
        have k8_f := k8.frozen
        clear h5 hM8 hB8 ho8
        go_wp2_with fail
        obtain ⟨F1, F2⟩ := rfin (G := G) (S' := segIdle S) (O := outM (abM R.ix R.sub 84148225)) HX8.out hz (rmsR_one zg8 HM8.out (OwnB.nil _ _)) (OwnB.nil _ _) (Ali.idle rfl rfl) (fun h => absurd h (show ¬ ((0 : Int) = 1 ∨ (0 : Int) = 2) by decide))
        rw [← HR.out] at F2
        unfold putO outM at F1 F2
        dsimp only at F1 F2
        exact rret_out (O := outM (abM R.ix R.sub 84148225)) rfl rfl rfl F1 F2
theorem rsg_recv5 (p : Nat) (S : SegS) (G : Nat → Prop) (ix sub : Int) (tg la cr sz : Bool) (size code : Nat) (data : List UInt8) (sq bl em : Int) (sum : Nat) (A3 : Option Addr) (m3 c3 : Nat) (w : World) (hD : DB 82 w F pd Al n cl Av cv L V ds es) (hn : n ≤ 1000) (hv : ∀ v ∈ V, v.length ≤ 256)
    (hp : ¬ F p) (hS : RV_ w G p pd S) (hm : m3 = data.length) (hm1 : m3 ≤ 100000) (hMd : ∀ W, Only (fun q => q = p) w W → Sl W A3 (data.map bv)) (hsz : size ≤ 4294967295) (hb : S.st = 1 ∨ S.st = 2 → S.b.length ≤ 256) :
    Calls Tryz.prog 34 #[.pointer (some ⟨p, 0, none⟩), .agg (msV (⟨5, ix, sub, tg, la, cr, sz, size, code, data, sq, bl, em, sum⟩ : Ms) A3 m3 c3)] w (ROutR w G p pd (recvS L V S (⟨5, ix, sub, tg, la, cr, sz, size, code, data, sq, bl, em, sum⟩ : Ms)) (recvO L V S (⟨5, ix, sub, tg, la, cr, sz, size, code, data, sq, bl, em, sum⟩ : Ms))) := by
  obtain ⟨R, A, n1, c1, hal, hB, hby⟩ := id hS
  obtain ⟨P, hP⟩ : ∃ P, P = ROutR w G p pd (recvS L V S (⟨5, ix, sub, tg, la, cr, sz, size, code, data, sq, bl, em, sum⟩ : Ms)) (recvO L V S (⟨5, ix, sub, tg, la, cr, sz, size, code, data, sq, bl, em, sum⟩ : Ms)) := ⟨_, rfl⟩
  rw [← hP]
  have HP := hide hP
  have hz := hB.lt
  have HAL := hide hal
  have HBY := hide hby
  have HDA := hide (And.intro hm (And.intro hMd (And.intro hsz (And.intro hb hm1))))
  have HVV := hide (And.intro hn hv)
  have hne1 : w.heap.size + 1 ≠ p := by omega
  have hne0 : w.heap.size ≠ p := by omega
  have HD := hide (fun W (h : Only (fun q => q = p) w W) => hD.keep (w' := W) (fun g hg hlt => h.block g hlt (fun e => hp (e ▸ hg))))
  have HH0 := (PX.start (cs := srvL R pd A n1 c1) hB).new2 rfl 48 90 (msL_ (⟨5, ix, sub, tg, la, cr, sz, size, code, data, sq, bl, em, sum⟩ : Ms) A3 m3 c3) (outL_ none 0 0 outZ none 0 0)
  have HH := hide HH0
  have HB0 := hide hB
  clear hP hS hB hD hn hv HH0 hal hby hm hMd hsz hb
  unfold msL_ outL_ outZ at HH
  dsimp only at HH
  unfold msV
  dsimp only
  go_enter Tryz.func34, Tryz.ntmps34
  go_upto_region 1 with fail
  refine wp_gen (P := PX w p 52 (srvL R pd A n1 c1) [⟨w.heap.size + 1, 90, outL_ none 0 0 outZ none 0 0⟩, ⟨w.heap.size, 48, msL_ (⟨5, ix, sub, tg, la, cr, sz, size, code, data, sq, bl, em, sum⟩ : Ms) A3 m3 c3⟩]) HH.out (fun W hW => ?_)
  clear HH
  have HX := hide hW
  have hwz : w.heap.size + 2 ≤ W.heap.size := by
    have := hW.k0.lt
    show w.heap.size + 1 < W.heap.size
    exact this
  have k1 := hW.k1
  have kk := hW.k0
  have bb := hW.blk
  unfold msL_ at k1
  dsimp only at k1
  unfold outL_ outZ at kk
  unfold srvL at bb
  have zk := k1.lt
  have zkk := kk.lt
  have zb := bb.lt
  clear hW
  obtain ⟨k1_c0, k1_c1, k1_c2, k1_c3, k1_c4, k1_c5, k1_c6, k1_c7, k1_c8, k1_c9, k1_c10, k1_c11, k1_c12, k1_c13⟩ := cel14 k1
  have k1_f := k1.frozen
  obtain ⟨kk_c0, kk_c1, kk_c2, kk_c3, kk_c4⟩ := cel5 kk
  have kk_f := kk.frozen
  obtain ⟨bb_c0, bb_c1, bb_c2, bb_c3, bb_c4, bb_c5, bb_c6, bb_c7⟩ := cel8 bb
  have bb_f := bb.frozen
  by_cases h3 : R.st = 3
  · rw [h3] at bb_c1
    have HS3 : Hid (S.st = 3) := hide (HAL.out.1.trans h3)
    have X1 : PX w p 52 (srvL (segIdle R) pd A n1 c1) [⟨w.heap.size + 1, 90, outL_ none 0 0 outZ none 0 0⟩, ⟨w.heap.size, 48, msL_ (⟨5, ix, sub, tg, la, cr, sz, size, code, data, sq, bl, em, sum⟩ : Ms) A3 m3 c3⟩] _ := HX.out.set 1 (.int .i64 0)
    have HX1 := hide X1
    have HW1 : Hid (w.heap.size + 2 ≤ (W.setCell ⟨p, 1, none⟩ (.int .i64 0)).heap.size) := hide (by simp [World.setCell]; omega)
    clear X1
    have HR : Hid (P = ROutR w G p pd (segIdle S) (outM (abM 0 0 84148225))) := hide (by
      rw [HP.out]
      congr 1
      all_goals first | (unfold recvS; rw [if_neg (show ¬ (5 : Int) = 1 by decide), if_neg (show ¬ (5 : Int) = 2 by decide), if_neg (show ¬ (5 : Int) = 4 by decide), if_neg (fun h => absurd h.1 (show ¬ (5 : Int) = 3 by decide)), if_neg (fun h => by have := h.2; have := HS3.out; omega)]; done) | (unfold recvO; rw [if_neg (show ¬ (5 : Int) = 1 by decide), if_neg (show ¬ (5 : Int) = 2 by decide), if_neg (show ¬ (5 : Int) = 4 by decide), if_neg (fun h => absurd h.1 (show ¬ (5 : Int) = 3 by decide)), if_neg (fun h => by have := h.2; have := HS3.out; omega), if_neg (by unfold wokeS; rw [if_pos HS3.out]; simp)]; done) | (unfold recvS; rw [if_neg (show ¬ (5 : Int) = 1 by decide), if_neg (show ¬ (5 : Int) = 2 by decide), if_neg (show ¬ (5 : Int) = 4 by decide), if_neg (fun h => absurd h.1 (show ¬ (5 : Int) = 3 by decide)), if_neg (fun h => by have := h.2; have := HS3.out; omega)]) | (unfold recvO; rw [if_neg (show ¬ (5 : Int) = 1 by decide), if_neg (show ¬ (5 : Int) = 2 by decide), if_neg (show ¬ (5 : Int) = 4 by decide), if_neg (fun h => absurd h.1 (show ¬ (5 : Int) = 3 by decide)), if_neg (fun h => by have := h.2; have := HS3.out; omega), if_neg (by unfold wokeS; rw [if_pos HS3.out]; simp)]))
    go_wp2_with fail
    refine (rsg_refuse msZ none 0 0 84148225 _).mono ?_
    rintro e w8 ⟨g8, hg8, rfl, hM8, hb8⟩
    unfold outV outZ
    dsimp only
    have HX8 := hide (HX1.out.step hb8)
    have zg8 : w.heap.size + 2 ≤ g8 := Nat.le_trans HW1.out hg8
    have HM8 := hide hM8
    have k2 := HX8.out.k0
    unfold outL_ outZ at k2
    have zk2 := k2.lt
    clear k1_c0 k1_c1 k1_c2 k1_c3 k1_c4 k1_c5 k1_c6 k1_c7 k1_c8 k1_c9 k1_c10 k1_c11 k1_c12 k1_c13 k1_f
    clear kk_c0 kk_c1 kk_c2 kk_c3 kk_c4 kk_f
    clear bb_c0 bb_c1 bb_c2 bb_c3 bb_c4 bb_c5 bb_c6 bb_c7 bb_f
    clear k1 kk bb zk zkk zb
    obtain ⟨k2_c0, k2_c1, k2_c2, k2_c3, k2_c4⟩ := cel5 k2
    have k2_f := k2.frozen
    clear hM8 hb8
    go_wp2_with fail
    obtain ⟨F1, F2⟩ := rfin (G := G) (S' := segIdle S) (O := outM (abM 0 0 84148225)) (HX8.out.sub (ks' := [⟨w.heap.size + 1, 90, outL_ none 0 0 outZ none 0 0⟩]) (by simp)) hz (rmsR_one zg8 HM8.out (OwnB.nil _ _)) (OwnB.nil _ _) (Ali.idle rfl rfl) (fun h => absurd h (show ¬ ((0 : Int) = 1 ∨ (0 : Int) = 2) by decide))
    rw [← HR.out] at F2
    unfold putO outM at F1 F2
    dsimp only at F1 F2
    exact rret_out (O := outM (abM 0 0 84148225)) rfl rfl rfl F1 F2
  · have h3b : (R.st == 3) = false := by simp [h3]
    by_cases hst : R.st = 0
    · rw [hst] at bb_c1
      have HST0 := hide hst
      have HS3 : Hid (S.st = 0) := hide (HAL.out.1.trans hst)
      have HX1 := HX
      have HW1 := hide hwz
      have HR : Hid (P = ROutR w G p pd (segIdle S) (outM (abM 0 0 84148225))) := hide (by
        rw [HP.out]
        congr 1
        all_goals first | (unfold recvS; rw [if_neg (show ¬ (5 : Int) = 1 by decide), if_neg (show ¬ (5 : Int) = 2 by decide), if_neg (show ¬ (5 : Int) = 4 by decide), if_neg (fun h => absurd h.1 (show ¬ (5 : Int) = 3 by decide)), if_neg (fun h => by have := h.2; have := HS3.out; omega)]; done) | (unfold recvO; rw [if_neg (show ¬ (5 : Int) = 1 by decide), if_neg (show ¬ (5 : Int) = 2 by decide), if_neg (show ¬ (5 : Int) = 4 by decide), if_neg (fun h => absurd h.1 (show ¬ (5 : Int) = 3 by decide)), if_neg (fun h => by have := h.2; have := HS3.out; omega), if_neg (by unfold wokeS; rw [if_neg (by rw [HS3.out]; omega)]; rw [HS3.out]; simp)]; done) | (unfold recvS; rw [if_neg (show ¬ (5 : Int) = 1 by decide), if_neg (show ¬ (5 : Int) = 2 by decide), if_neg (show ¬ (5 : Int) = 4 by decide), if_neg (fun h => absurd h.1 (show ¬ (5 : Int) = 3 by decide)), if_neg (fun h => by have := h.2; have := HS3.out; omega)]) | (unfold recvO; rw [if_neg (show ¬ (5 : Int) = 1 by decide), if_neg (show ¬ (5 : Int) = 2 by decide), if_neg (show ¬ (5 : Int) = 4 by decide), if_neg (fun h => absurd h.1 (show ¬ (5 : Int) = 3 by decide)), if_neg (fun h => by have := h.2; have := HS3.out; omega), if_neg (by unfold wokeS; rw [if_neg (by rw [HS3.out]; omega)]; rw [HS3.out]; simp)]))
      go_wp2_with fail
      refine (rsg_refuse msZ none 0 0 84148225 _).mono ?_
      rintro e w8 ⟨g8, hg8, rfl, hM8, hb8⟩
      unfold outV outZ
      dsimp only
      have HX8 := hide (HX1.out.step hb8)
      have zg8 : w.heap.size + 2 ≤ g8 := Nat.le_trans HW1.out hg8
      have HM8 := hide hM8
      have k2 := HX8.out.k0
      unfold outL_ outZ at k2
      have zk2 := k2.lt
      clear k1_c0 k1_c1 k1_c2 k1_c3 k1_c4 k1_c5 k1_c6 k1_c7 k1_c8 k1_c9 k1_c10 k1_c11 k1_c12 k1_c13 k1_f
      clear kk_c0 kk_c1 kk_c2 kk_c3 kk_c4 kk_f
      clear bb_c0 bb_c1 bb_c2 bb_c3 bb_c4 bb_c5 bb_c6 bb_c7 bb_f
      clear k1 kk bb zk zkk zb
      obtain ⟨k2_c0, k2_c1, k2_c2, k2_c3, k2_c4⟩ := cel5 k2
      have k2_f := k2.frozen
      clear hM8 hb8
      go_wp2_with fail
      obtain ⟨F1, F2⟩ := rfin (G := G) (S' := segIdle S) (O := outM (abM 0 0 84148225)) (HX8.out.sub (ks' := [⟨w.heap.size + 1, 90, outL_ none 0 0 outZ none 0 0⟩]) (by simp)) hz (rmsR_one zg8 HM8.out (OwnB.nil _ _)) (OwnB.nil _ _) (Ali.idle rfl (show R.st = 0 from HST0.out)) (fun h => by have h5 := HST0.out; rcases h with h | h <;> omega)
      rw [← HR.out] at F2
      unfold putO outM at F1 F2
      dsimp only at F1 F2
      exact rret_out (O := outM (abM 0 0 84148225)) rfl rfl rfl F1 F2
    · by_cases hk : R.st = 2
      · skip
        have HST := hide hk
        have HR : Hid (P = ROutR w G p pd (nextS S (⟨5, ix, sub, tg, la, cr, sz, size, code, data, sq, bl, em, sum⟩ : Ms)) (nextO R (⟨5, ix, sub, tg, la, cr, sz, size, code, data, sq, bl, em, sum⟩ : Ms))) := hide (by
          rw [HP.out]
          congr 1
          all_goals first | (unfold recvS; rw [if_neg (show ¬ (5 : Int) = 1 by decide), if_neg (show ¬ (5 : Int) = 2 by decide), if_neg (show ¬ (5 : Int) = 4 by decide), if_neg (fun h => absurd h.1 (show ¬ (5 : Int) = 3 by decide)), if_pos ⟨rfl, HAL.out.1.trans hk⟩]; done) | (unfold recvO; rw [if_neg (show ¬ (5 : Int) = 1 by decide), if_neg (show ¬ (5 : Int) = 2 by decide), if_neg (show ¬ (5 : Int) = 4 by decide), if_neg (fun h => absurd h.1 (show ¬ (5 : Int) = 3 by decide)), if_pos ⟨rfl, HAL.out.1.trans hk⟩, (next_ali HAL.out hk _).1]; done) | (unfold recvS; rw [if_neg (show ¬ (5 : Int) = 1 by decide), if_neg (show ¬ (5 : Int) = 2 by decide), if_neg (show ¬ (5 : Int) = 4 by decide), if_neg (fun h => absurd h.1 (show ¬ (5 : Int) = 3 by decide)), if_pos ⟨rfl, HAL.out.1.trans hk⟩]) | (unfold recvO; rw [if_neg (show ¬ (5 : Int) = 1 by decide), if_neg (show ¬ (5 : Int) = 2 by decide), if_neg (show ¬ (5 : Int) = 4 by decide), if_neg (fun h => absurd h.1 (show ¬ (5 : Int) = 3 by decide)), if_pos ⟨rfl, HAL.out.1.trans hk⟩, (next_ali HAL.out hk _).1]))
        rw [hk] at bb_c1
        have HX1 := HX
        have HW1 := hide hwz
        go_wp2_with fail
        refine (rsg_upSeg p pd R A n1 c1 (fun q => G q ∧ q < w.heap.size) (⟨5, ix, sub, tg, la, cr, sz, size, code, data, sq, bl, em, sum⟩ : Ms) A3 m3 c3 _ HX1.out.blk HST.out (HBY.out (.inr HST.out)).1 (HBY.out (.inr HST.out)).2.1 (sl_blk (HBY.out (.inr HST.out)).2.2.1 (fun ad e => HX1.out.only.block ad.block ((HBY.out (.inr HST.out)).2.2.2.2 ad e).2.1 ((HBY.out (.inr HST.out)).2.2.2.2 ad e).2.2)) (HBY.out (.inr HST.out)).2.2.2.1 (fun ad e => ⟨⟨((HBY.out (.inr HST.out)).2.2.2.2 ad e).1, ((HBY.out (.inr HST.out)).2.2.2.2 ad e).2.1⟩, by have h1 := ((HBY.out (.inr HST.out)).2.2.2.2 ad e).2.1; have := HX1.out.only.size; omega, ((HBY.out (.inr HST.out)).2.2.2.2 ad e).2.2⟩) (by rw [← (HAL.out.2.2.2.1 HST.out).1]; exact HDA.out.2.2.2.1 (.inr (HAL.out.1.trans HST.out)))).mono ?_
        rintro e w8 ⟨As, ns, cs, A5, n5, c5, rfl, hM5, hO5, hV5, ho5⟩
        have kk8 : Blk w8 (w.heap.size + 1) 90 #[.slice none 0 0, .bool false, .int .i64 0, .int .i64 0, .slice none 0 0] := (ho5.block _ HX1.out.k0.lt (show w.heap.size + 1 ≠ p by omega)).trans HX1.out.k0
        have zk8 := kk8.lt
        unfold outV
        dsimp only
        obtain ⟨F1, F2⟩ := rfin_lift (S' := nextS S (⟨5, ix, sub, tg, la, cr, sz, size, code, data, sq, bl, em, sum⟩ : Ms)) (O := nextO R (⟨5, ix, sub, tg, la, cr, sz, size, code, data, sq, bl, em, sum⟩ : Ms)) HX1.out hz HW1.out hM5 hO5 (hV5.ali (next_ali HAL.out HST.out _).2) ho5
        rw [← HR.out] at F2
        have HF := hide (And.intro F1 F2)
        unfold putO at HF
        clear k1_c0 k1_c1 k1_c2 k1_c3 k1_c4 k1_c5 k1_c6 k1_c7 k1_c8 k1_c9 k1_c10 k1_c11 k1_c12 k1_c13 k1_f
        clear kk_c0 kk_c1 kk_c2 kk_c3 kk_c4 kk_f
        clear bb_c0 bb_c1 bb_c2 bb_c3 bb_c4 bb_c5 bb_c6 bb_c7 bb_f
        clear k1 kk bb zk zkk zb
        obtain ⟨kk8_c0, kk8_c1, kk8_c2, kk8_c3, kk8_c4⟩ := cel5 kk8
        have kk8_f := kk8.frozen
        clear hM5 hO5 hV5 ho5 F1 F2
        go_wp2_with fail
        unfold outV at HF
        exact rret_out (O := nextO R (⟨5, ix, sub, tg, la, cr, sz, size, code, data, sq, bl, em, sum⟩ : Ms)) rfl rfl rfl HF.out.1 HF.out.2
      · skip
        have hkb : (R.st == 2) = false := by simp [hk]
        have HA5 := HAL.out.2.1 hst
        have HR : Hid (P = ROutR w G p pd (segIdle S) (outM (abM R.ix R.sub 84148225))) := hide (by
          rw [HP.out]
          congr 1
          all_goals first | (unfold recvS; rw [if_neg (show ¬ (5 : Int) = 1 by decide), if_neg (show ¬ (5 : Int) = 2 by decide), if_neg (show ¬ (5 : Int) = 4 by decide), if_neg (fun h => absurd h.1 (show ¬ (5 : Int) = 3 by decide)), if_neg (fun h => hk (HAL.out.1.symm.trans h.2))]; done) | (unfold recvO; rw [if_neg (show ¬ (5 : Int) = 1 by decide), if_neg (show ¬ (5 : Int) = 2 by decide), if_neg (show ¬ (5 : Int) = 4 by decide), if_neg (fun h => absurd h.1 (show ¬ (5 : Int) = 3 by decide)), if_neg (fun h => hk (HAL.out.1.symm.trans h.2)), if_pos (by unfold wokeS; rw [if_neg (by rw [HAL.out.1]; exact h3)]; rw [HAL.out.1]; exact hst), HA5.1, HA5.2]; done) | (unfold recvS; rw [if_neg (show ¬ (5 : Int) = 1 by decide), if_neg (show ¬ (5 : Int) = 2 by decide), if_neg (show ¬ (5 : Int) = 4 by decide), if_neg (fun h => absurd h.1 (show ¬ (5 : Int) = 3 by decide)), if_neg (fun h => hk (HAL.out.1.symm.trans h.2))]) | (unfold recvO; rw [if_neg (show ¬ (5 : Int) = 1 by decide), if_neg (show ¬ (5 : Int) = 2 by decide), if_neg (show ¬ (5 : Int) = 4 by decide), if_neg (fun h => absurd h.1 (show ¬ (5 : Int) = 3 by decide)), if_neg (fun h => hk (HAL.out.1.symm.trans h.2)), if_pos (by unfold wokeS; rw [if_neg (by rw [HAL.out.1]; exact h3)]; rw [HAL.out.1]; exact hst), HA5.1, HA5.2]))
        have hstn : (R.st != 0) = true := by simp [hst]
        have hstn2 : (R.st == 0) = false := by simp [hst]
        have HST := hide hst
        go_wp2_with fail
        refine (rsg_abort p pd R 84148225 A n1 c1 _ HX.out.blk).mono ?_
        rintro e w8 ⟨_, h5⟩
        obtain ⟨g8, hg8, rfl, hM8, hB8, ho8⟩ := h5 HST.out
        have HX8 : Hid (PX w p 52 (srvL (abortS R) pd A n1 c1) [⟨w.heap.size + 1, 90, outL_ none 0 0 outZ none 0 0⟩, ⟨w.heap.size, 48, msL_ (⟨5, ix, sub, tg, la, cr, sz, size, code, data, sq, bl, em, sum⟩ : Ms) A3 m3 c3⟩] w8) := hide (HX.out.call ho8 hB8)
        have HM8 := hide hM8
        have zg8 : w.heap.size + 2 ≤ g8 := Nat.le_trans hwz hg8
        have k8 := HX8.out.k0
        unfold outL_ outZ at k8
        have zk8 := k8.lt
        clear k1_c0 k1_c1 k1_c2 k1_c3 k1_c4 k1_c5 k1_c6 k1_c7 k1_c8 k1_c9 k1_c10 k1_c11 k1_c12 k1_c13 k1_f
        clear kk_c0 kk_c1 kk_c2 kk_c3 kk_c4 kk_f
        clear bb_c0 bb_c1 bb_c2 bb_c3 bb_c4 bb_c5 bb_c6 bb_c7 bb_f
        clear k1 kk bb zk zkk zb
        obtain ⟨k8_c0, k8_c1, k8_c2, k8_c3, k8_c4⟩ := cel5 k8
        have k8_f := k8.frozen
        clear h5 hM8 hB8 ho8
        go_wp2_with fail
        obtain ⟨F1, F2⟩ := rfin (G := G) (S' := segIdle S) (O := outM (abM R.ix R.sub 84148225)) HX8.out hz (rmsR_one zg8 HM8.out (OwnB.nil _ _)) (OwnB.nil _ _) (Ali.idle rfl rfl) (fun h => absurd h (show ¬ ((0 : Int) = 1 ∨ (0 : Int) = 2) by decide))
        rw [← HR.out] at F2
        unfold putO outM at F1 F2
        dsimp only at F1 F2
        exact rret_out (O := outM (abM R.ix R.sub 84148225)) rfl rfl rfl F1 F2
theorem rsg_recvx (p : Nat) (S : SegS) (G : Nat → Prop) (kind : Int) (ix sub : Int) (tg la cr sz : Bool) (size code : Nat) (data : List UInt8) (sq bl em : Int) (sum : Nat) (A3 : Option Addr) (m3 c3 : Nat) (w : World) (hD : DB 82 w F pd Al n cl Av cv L V ds es) (hn : n ≤ 1000) (hv : ∀ v ∈ V, v.length ≤ 256)
    (hp : ¬ F p) (hS : RV_ w G p pd S) (hm : m3 = data.length) (hm1 : m3 ≤ 100000) (hMd : ∀ W, Only (fun q => q = p) w W → Sl W A3 (data.map bv)) (hsz : size ≤ 4294967295) (hb : S.st = 1 ∨ S.st = 2 → S.b.length ≤ 256) (hk1 : kind ≠ 1) (hk2 : kind ≠ 2) (hk3 : kind ≠ 3) (hk4 : kind ≠ 4) (hk5 : kind ≠ 5) :
    Calls Tryz.prog 34 #[.pointer (some ⟨p, 0, none⟩), .agg (msV (⟨kind, ix, sub, tg, la, cr, sz, size, code, data, sq, bl, em, sum⟩ : Ms) A3 m3 c3)] w (ROutR w G p pd (recvS L V S (⟨kind, ix, sub, tg, la, cr, sz, size, code, data, sq, bl, em, sum⟩ : Ms)) (recvO L V S (⟨kind, ix, sub, tg, la, cr, sz, size, code, data, sq, bl, em, sum⟩ : Ms))) := by
  obtain ⟨R, A, n1, c1, hal, hB, hby⟩ := id hS
  obtain ⟨P, hP⟩ : ∃ P, P = ROutR w G p pd (recvS L V S (⟨kind, ix, sub, tg, la, cr, sz, size, code, data, sq, bl, em, sum⟩ : Ms)) (recvO L V S (⟨kind, ix, sub, tg, la, cr, sz, size, code, data, sq, bl, em, sum⟩ : Ms)) := ⟨_, rfl⟩
  rw [← hP]
  have HP := hide hP
  have hz := hB.lt
  have HAL := hide hal
  have HBY := hide hby
  have HDA := hide (And.intro hm (And.intro hMd (And.intro hsz (And.intro hb hm1))))
  have HVV := hide (And.intro hn hv)
  have hne1 : w.heap.size + 1 ≠ p := by omega
  have hne0 : w.heap.size ≠ p := by omega
  have HD := hide (fun W (h : Only (fun q => q = p) w W) => hD.keep (w' := W) (fun g hg hlt => h.block g hlt (fun e => hp (e ▸ hg))))
  have HH0 := (PX.start (cs := srvL R pd A n1 c1) hB).new2 rfl 48 90 (msL_ (⟨kind, ix, sub, tg, la, cr, sz, size, code, data, sq, bl, em, sum⟩ : Ms) A3 m3 c3) (outL_ none 0 0 outZ none 0 0)
  have HH := hide HH0
  have HB0 := hide hB
  clear hP hS hB hD hn hv HH0 hal hby hm hMd hsz hb
  unfold msL_ outL_ outZ at HH
  dsimp only at HH
  unfold msV
  dsimp only
  go_enter Tryz.func34, Tryz.ntmps34
  go_upto_region 1 with fail
  refine wp_gen (P := PX w p 52 (srvL R pd A n1 c1) [⟨w.heap.size + 1, 90, outL_ none 0 0 outZ none 0 0⟩, ⟨w.heap.size, 48, msL_ (⟨kind, ix, sub, tg, la, cr, sz, size, code, data, sq, bl, em, sum⟩ : Ms) A3 m3 c3⟩]) HH.out (fun W hW => ?_)
  clear HH
  have HX := hide hW
  have hwz : w.heap.size + 2 ≤ W.heap.size := by
    have := hW.k0.lt
    show w.heap.size + 1 < W.heap.size
    exact this
  have k1 := hW.k1
  have kk := hW.k0
  have bb := hW.blk
  unfold msL_ at k1
  dsimp only at k1
  unfold outL_ outZ at kk
  unfold srvL at bb
  have zk := k1.lt
  have zkk := kk.lt
  have zb := bb.lt
  clear hW
  obtain ⟨k1_c0, k1_c1, k1_c2, k1_c3, k1_c4, k1_c5, k1_c6, k1_c7, k1_c8, k1_c9, k1_c10, k1_c11, k1_c12, k1_c13⟩ := cel14 k1
  have k1_f := k1.frozen
  obtain ⟨kk_c0, kk_c1, kk_c2, kk_c3, kk_c4⟩ := cel5 kk
  have kk_f := kk.frozen
  obtain ⟨bb_c0, bb_c1, bb_c2, bb_c3, bb_c4, bb_c5, bb_c6, bb_c7⟩ := cel8 bb
  have bb_f := bb.frozen
  have hk1b : (kind == 1) = false := by simp [hk1]
  have hk2b : (kind == 2) = false := by simp [hk2]
  have hk3b : (kind == 3) = false := by simp [hk3]
  have hk4b : (kind == 4) = false := by simp [hk4]
  have hk5b : (kind == 5) = false := by simp [hk5]
  by_cases h3 : R.st = 3
  · rw [h3] at bb_c1
    have HS3 : Hid (S.st = 3) := hide (HAL.out.1.trans h3)
    have X1 : PX w p 52 (srvL (segIdle R) pd A n1 c1) [⟨w.heap.size + 1, 90, outL_ none 0 0 outZ none 0 0⟩, ⟨w.heap.size, 48, msL_ (⟨kind, ix, sub, tg, la, cr, sz, size, code, data, sq, bl, em, sum⟩ : Ms) A3 m3 c3⟩] _ := HX.out.set 1 (.int .i64 0)
    have HX1 := hide X1
    have HW1 : Hid (w.heap.size + 2 ≤ (W.setCell ⟨p, 1, none⟩ (.int .i64 0)).heap.size) := hide (by simp [World.setCell]; omega)
    clear X1
    have HR : Hid (P = ROutR w G p pd (segIdle S) (outM (abM 0 0 84148225))) := hide (by
      rw [HP.out]
      congr 1
      all_goals first | (unfold recvS; rw [if_neg hk1, if_neg hk2, if_neg hk4, if_neg (fun h => hk3 h.1), if_neg (fun h => hk5 h.1)]; done) | (unfold recvO; rw [if_neg hk1, if_neg hk2, if_neg hk4, if_neg (fun h => hk3 h.1), if_neg (fun h => hk5 h.1), if_neg (by unfold wokeS; rw [if_pos HS3.out]; simp)]; done) | (unfold recvS; rw [if_neg hk1, if_neg hk2, if_neg hk4, if_neg (fun h => hk3 h.1), if_neg (fun h => hk5 h.1)]) | (unfold recvO; rw [if_neg hk1, if_neg hk2, if_neg hk4, if_neg (fun h => hk3 h.1), if_neg (fun h => hk5 h.1), if_neg (by unfold wokeS; rw [if_pos HS3.out]; simp)]))
    go_wp2_with fail
    refine (rsg_refuse msZ none 0 0 84148225 _).mono ?_
    rintro e w8 ⟨g8, hg8, rfl, hM8, hb8⟩
    unfold outV outZ
    dsimp only
    have HX8 := hide (HX1.out.step hb8)
    have zg8 : w.heap.size + 2 ≤ g8 := Nat.le_trans HW1.out hg8
    have HM8 := hide hM8
    have k2 := HX8.out.k0
    unfold outL_ outZ at k2
    have zk2 := k2.lt
    clear k1_c0 k1_c1 k1_c2 k1_c3 k1_c4 k1_c5 k1_c6 k1_c7 k1_c8 k1_c9 k1_c10 k1_c11 k1_c12 k1_c13 k1_f
    clear kk_c0 kk_c1 kk_c2 kk_c3 kk_c4 kk_f
    clear bb_c0 bb_c1 bb_c2 bb_c3 bb_c4 bb_c5 bb_c6 bb_c7 bb_f
    clear k1 kk bb zk zkk zb
    obtain ⟨k2_c0, k2_c1, k2_c2, k2_c3, k2_c4⟩ := cel5 k2
    have k2_f := k2.frozen
    clear hM8 hb8
    go_wp2_with fail
    obtain ⟨F1, F2⟩ := rfin (G := G) (S' := segIdle S) (O := outM (abM 0 0 84148225)) (HX8.out.sub (ks' := [⟨w.heap.size + 1, 90, outL_ none 0 0 outZ none 0 0⟩]) (by simp)) hz (rmsR_one zg8 HM8.out (OwnB.nil _ _)) (OwnB.nil _ _) (Ali.idle rfl rfl) (fun h => absurd h (show ¬ ((0 : Int) = 1 ∨ (0 : Int) = 2) by decide))
    rw [← HR.out] at F2
    unfold putO outM at F1 F2
    dsimp only at F1 F2
    exact rret_out (O := outM (abM 0 0 84148225)) rfl rfl rfl F1 F2
  · have h3b : (R.st == 3) = false := by simp [h3]
    by_cases hst : R.st = 0
    · rw [hst] at bb_c1
      have HST0 := hide hst
      have HS3 : Hid (S.st = 0) := hide (HAL.out.1.trans hst)
      have HX1 := HX
      have HW1 := hide hwz
      have HR : Hid (P = ROutR w G p pd (segIdle S) (outM (abM 0 0 84148225))) := hide (by
        rw [HP.out]
        congr 1
        all_goals first | (unfold recvS; rw [if_neg hk1, if_neg hk2, if_neg hk4, if_neg (fun h => hk3 h.1), if_neg (fun h => hk5 h.1)]; done) | (unfold recvO; rw [if_neg hk1, if_neg hk2, if_neg hk4, if_neg (fun h => hk3 h.1), if_neg (fun h => hk5 h.1), if_neg (by unfold wokeS; rw [if_neg (by rw [HS3.out]; omega)]; rw [HS3.out]; simp)]; done) | (unfold recvS; rw [if_neg hk1, if_neg hk2, if_neg hk4, if_neg (fun h => hk3 h.1), if_neg (fun h => hk5 h.1)]) | (unfold recvO; rw [if_neg hk1, if_neg hk2, if_neg hk4, if_neg (fun h => hk3 h.1), if_neg (fun h => hk5 h.1), if_neg (by unfold wokeS; rw [if_neg (by rw [HS3.out]; omega)]; rw [HS3.out]; simp)]))
      go_wp2_with fail
      refine (rsg_refuse msZ none 0 0 84148225 _).mono ?_
      rintro e w8 ⟨g8, hg8, rfl, hM8, hb8⟩
      unfold outV outZ
      dsimp only
      have HX8 := hide (HX1.out.step hb8)
      have zg8 : w.heap.size + 2 ≤ g8 := Nat.le_trans HW1.out hg8
      have HM8 := hide hM8
      have k2 := HX8.out.k0
      unfold outL_ outZ at k2
      have zk2 := k2.lt
      clear k1_c0 k1_c1 k1_c2 k1_c3 k1_c4 k1_c5 k1_c6 k1_c7 k1_c8 k1_c9 k1_c10 k1_c11 k1_c12 k1_c13 k1_f
      clear kk_c0 kk_c1 kk_c2 kk_c3 kk_c4 kk_f
      clear bb_c0 bb_c1 bb_c2 bb_c3 bb_c4 bb_c5 bb_c6 bb_c7 bb_f
      clear k1 kk bb zk zkk zb
      obtain ⟨k2_c0, k2_c1, k2_c2, k2_c3, k2_c4⟩ := cel5 k2
      have k2_f := k2.frozen
      clear hM8 hb8
      go_wp2_with fail
      obtain ⟨F1, F2⟩ := rfin (G := G) (S' := segIdle S) (O := outM (abM 0 0 84148225)) (HX8.out.sub (ks' := [⟨w.heap.size + 1, 90, outL_ none 0 0 outZ none 0 0⟩]) (by simp)) hz (rmsR_one zg8 HM8.out (OwnB.nil _ _)) (OwnB.nil _ _) (Ali.idle rfl (show R.st = 0 from HST0.out)) (fun h => by have h5 := HST0.out; rcases h with h | h <;> omega)
      rw [← HR.out] at F2
      unfold putO outM at F1 F2
      dsimp only at F1 F2
      exact rret_out (O := outM (abM 0 0 84148225)) rfl rfl rfl F1 F2
    · skip
      have HA5 := HAL.out.2.1 hst
      have HR : Hid (P = ROutR w G p pd (segIdle S) (outM (abM R.ix R.sub 84148225))) := hide (by
        rw [HP.out]
        congr 1
        all_goals first | (unfold recvS; rw [if_neg hk1, if_neg hk2, if_neg hk4, if_neg (fun h => hk3 h.1), if_neg (fun h => hk5 h.1)]; done) | (unfold recvO; rw [if_neg hk1, if_neg hk2, if_neg hk4, if_neg (fun h => hk3 h.1), if_neg (fun h => hk5 h.1), if_pos (by unfold wokeS; rw [if_neg (by rw [HAL.out.1]; exact h3)]; rw [HAL.out.1]; exact hst), HA5.1, HA5.2]; done) | (unfold recvS; rw [if_neg hk1, if_neg hk2, if_neg hk4, if_neg (fun h => hk3 h.1), if_neg (fun h => hk5 h.1)]) | (unfold recvO; rw [if_neg hk1, if_neg hk2, if_neg hk4, if_neg (fun h => hk3 h.1), if_neg (fun h => hk5 h.1), if_pos (by unfold wokeS; rw [if_neg (by rw [HAL.out.1]; exact h3)]; rw [HAL.out.1]; exact hst), HA5.1, HA5.2]))
      have hstn : (R.st != 0) = true := by simp [hst]
      have hstn2 : (R.st == 0) = false := by simp [hst]
      have HST := hide hst
      go_wp2_with fail
      refine (rsg_abort p pd R 84148225 A n1 c1 _ HX.out.blk).mono ?_
      rintro e w8 ⟨_, h5⟩
      obtain ⟨g8, hg8, rfl, hM8, hB8, ho8⟩ := h5 HST.out
      have HX8 : Hid (PX w p 52 (srvL (abortS R) pd A n1 c1) [⟨w.heap.size + 1, 90, outL_ none 0 0 outZ none 0 0⟩, ⟨w.heap.size, 48, msL_ (⟨kind, ix, sub, tg, la, cr, sz, size, code, data, sq, bl, em, sum⟩ : Ms) A3 m3 c3⟩] w8) := hide (HX.out.call ho8 hB8)
      have HM8 := hide hM8
      have zg8 : w.heap.size + 2 ≤ g8 := Nat.le_trans hwz hg8
      have k8 := HX8.out.k0
      unfold outL_ outZ at k8
      have zk8 := k8.lt
      clear k1_c0 k1_c1 k1_c2 k1_c3 k1_c4 k1_c5 k1_c6 k1_c7 k1_c8 k1_c9 k1_c10 k1_c11 k1_c12 k1_c13 k1_f
      clear kk_c0 kk_c1 kk_c2 kk_c3 kk_c4 kk_f
      clear bb_c0 bb_c1 bb_c2 bb_c3 bb_c4 bb_c5 bb_c6 bb_c7 bb_f
      clear k1 kk bb zk zkk zb
      obtain ⟨k8_c0, k8_c1, k8_c2, k8_c3, k8_c4⟩ := cel5 k8
      have k8_f := k8.frozen
      clear h5 hM8 hB8 ho8
      go_wp2_with fail
      obtain ⟨F1, F2⟩ := rfin (G := G) (S' := segIdle S) (O := outM (abM R.ix R.sub 84148225)) HX8.out hz (rmsR_one zg8 HM8.out (OwnB.nil _ _)) (OwnB.nil _ _) (Ali.idle rfl rfl) (fun h => absurd h (show ¬ ((0 : Int) = 1 ∨ (0 : Int) = 2) by decide))
      rw [← HR.out] at F2
      unfold putO outM at F1 F2
      dsimp only at F1 F2
      exact rret_out (O := outM (abM R.ix R.sub 84148225)) rfl rfl rfl F1 F2
theorem rsg_recv (p : Nat) (S : SegS) (G : Nat → Prop) (M : Ms) (A3 : Option Addr) (m3 c3 : Nat) (w : World) (hD : DB 82 w F pd Al n cl Av cv L V ds es) (hn : n ≤ 1000) (hv : ∀ v ∈ V, v.length ≤ 256)
    (hp : ¬ F p) (hS : RV_ w G p pd S) (hm : m3 = M.data.length) (hm1 : m3 ≤ 100000) (hMd : ∀ W, Only (fun q => q = p) w W → Sl W A3 (M.data.map bv)) (hsz : M.size ≤ 4294967295) (hb : S.st = 1 ∨ S.st = 2 → S.b.length ≤ 256) :
    Calls Tryz.prog 34 #[.pointer (some ⟨p, 0, none⟩), .agg (msV M A3 m3 c3)] w (ROutR w G p pd (recvS L V S M) (recvO L V S M)) := by
  obtain ⟨kind, ix, sub, tg, la, cr, sz, size, code, data, sq, bl, em, sum⟩ := M
  by_cases hk1 : kind = 1
  · subst hk1; exact rsg_recv1 p S G ix sub tg la cr sz size code data sq bl em sum A3 m3 c3 w hD hn hv hp hS hm hm1 hMd hsz hb
  by_cases hk2 : kind = 2
  · subst hk2; exact rsg_recv2 p S G ix sub tg la cr sz size code data sq bl em sum A3 m3 c3 w hD hn hv hp hS hm hm1 hMd hsz hb
  by_cases hk3 : kind = 3
  · subst hk3; exact rsg_recv3 p S G ix sub tg la cr sz size code data sq bl em sum A3 m3 c3 w hD hn hv hp hS hm hm1 hMd hsz hb
  by_cases hk4 : kind = 4
  · subst hk4; exact rsg_recv4 p S G ix sub tg la cr sz size code data sq bl em sum A3 m3 c3 w hD hn hv hp hS hm hm1 hMd hsz hb
  by_cases hk5 : kind = 5
  · subst hk5; exact rsg_recv5 p S G ix sub tg la cr sz size code data sq bl em sum A3 m3 c3 w hD hn hv hp hS hm hm1 hMd hsz hb
  exact rsg_recvx p S G kind ix sub tg la cr sz size code data sq bl em sum A3 m3 c3 w hD hn hv hp hS hm hm1 hMd hsz hb hk1 hk2 hk3 hk4 hk5
end
end
end Go.Proofs.YtimdmhhgomfijaaGreat
