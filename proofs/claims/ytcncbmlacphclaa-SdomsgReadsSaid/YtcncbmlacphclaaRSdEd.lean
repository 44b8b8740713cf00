/- The reference of sdomsg: laid. -/
import Derived.Test.YtcncbmlacphclaaRSdE0
import Derived.Deep.DeepCutAuto
import Derived.Deep.CutBlock
namespace Go.Proofs.Ytcncbmlacphclaa
set_option linter.unusedVariables false
set_option linter.unusedSimpArgs false
set_option linter.unnecessarySimpa false
open Go.RowKit
set_option maxRecDepth 100000
set_option maxHeartbeats 16000000

theorem rsd_laid_d (kind : Int) (ix sub sq bl em size code sum n c : Nat) (tg la cr sz : Bool) (A : Option Addr) (data : List UInt8) (w : World) (k1 : 1 ≤ kind) (k2 : kind ≤ 21) (hu1 : size ≤ 4294967295) (hu2 : code ≤ 4294967295) (hu3 : sum ≤ 65535)
    (A2 : ix ≤ 65535) (B2 : sub ≤ 255) (C2 : sq ≤ 127) (D2 : bl ≤ 127) (E2 : em ≤ 7) (hn : n = data.length) (hn7 : n ≤ 7) (hn4 : kind = 2 ∨ kind = 14 → n ≤ 4) (hs : Sl w A (data.map bv)) (hg : kind = 15 ∨ kind = 19 ∨ kind = 20 ∨ kind = 21) :
    Calls Try.prog 68 #[.agg #[.int .i64 kind, .int .i64 (ix : Nat), .int .i64 (sub : Nat), .bool tg, .bool la, .bool cr, .bool sz, .int .u32 (size : Nat), .int .u32 (code : Nat), .slice A n c, .int .i64 (sq : Nat), .int .i64 (bl : Nat), .int .i64 (em : Nat), .int .u16 (sum : Nat)]] w (LaidR w (rlaidL kind n ix sub size code sq bl em sum tg la cr sz data)) := by
  have q0 := blk_one w 43 #[.int .i64 kind, .int .i64 (ix : Nat), .int .i64 (sub : Nat), .bool tg, .bool la, .bool cr, .bool sz, .int .u32 (size : Nat), .int .u32 (code : Nat), .slice A n c, .int .i64 (sq : Nat), .int .i64 (bl : Nat), .int .i64 (em : Nat), .int .u16 (sum : Nat)]
  have hbw := below_alloc (Below.refl w.heap.size w) (.cells #[.int .i64 kind, .int .i64 (ix : Nat), .int .i64 (sub : Nat), .bool tg, .bool la, .bool cr, .bool sz, .int .u32 (size : Nat), .int .u32 (code : Nat), .slice A n c, .int .i64 (sq : Nat), .int .i64 (bl : Nat), .int .i64 (em : Nat), .int .u16 (sum : Nat)] 43)
  have HG := hide hg
  clear hg
  have HN := hide hn
  have H4 := hide hn4
  clear hn hn4
  go_enter Try.func68, Try.ntmps68
  go_upto_block 0 with (at_make; refine mk_b _ rfl _ _ rfl _ _ _ _ 8 8 rfl rfl rfl (by omega) (by omega) (by omega) (w.heap.size + 1) (by simp) ?_; intro w1 hO1 hlt1 hb1; have c0 := (Blk.below q0 hb1 (by omega)).cell 0 rfl)
  have h0 : Rt w1 w1 w.heap.size (w.heap.size + 1) (w.heap.size + 1) z8 #[.int .i64 kind, .int .i64 (ix : Nat), .int .i64 (sub : Nat), .bool tg, .bool la, .bool cr, .bool sz, .int .u32 (size : Nat), .int .u32 (code : Nat), .slice A n c, .int .i64 (sq : Nat), .int .i64 (bl : Nat), .int .i64 (em : Nat), .int .u16 (sum : Nat)] :=
    ⟨q0.below hb1 (by omega), hO1, by omega, World.grownBy.refl _ _, rfl⟩
  have hs1 : Hid (Sl w1 A (data.map bv)) := hide (hs.below (hbw.trans (hb1.mono (by omega))))
  have hbw1 : Hid (Below w.heap.size w w1) := hide (hbw.trans (hb1.mono (by omega)))
  have hsW : Hid (∀ W, w1.grownBy W (some (w.heap.size + 1)) → Sl W A (data.map bv)) := hide (fun W hg => by
    intro j u hu
    obtain ⟨ad, e, hc⟩ := hs j u hu
    have hlt := lt_of_cell hc
    refine ⟨ad, e, ?_⟩
    obtain ⟨_, _, e', hc'⟩ : ∃ x y : Unit, A = some ad ∧ w1.cell? (ad.add j) = some u := ⟨(), (), e, (hbw1.out.cell hlt).trans hc⟩
    rw [World.cell?_of_block (hg.block _ (lt_of_cell hc') (by intro e2; injection e2 with e2; omega))]
    exact hc')
  clear q0 hbw hs hO1 hb1 c0
  go_cut [4, 5] (fun s4 s5 wx => s4 = .int .i64 ((rfirB kind n tg la cr sz sq em : Nat) : Int) ∧ s5 = .bool (rplcB kind) ∧ Rt w1 wx w.heap.size (w.heap.size + 1) (w.heap.size + 1) (rbodL kind n size code sq bl sum data) #[.int .i64 kind, .int .i64 (ix : Nat), .int .i64 (sub : Nat), .bool tg, .bool la, .bool cr, .bool sz, .int .u32 (size : Nat), .int .u32 (code : Nat), .slice A n c, .int .i64 (sq : Nat), .int .i64 (bl : Nat), .int .i64 (em : Nat), .int .u16 (sum : Nat)])
  case first =>
    rcases HG.out with rfl | rfl | rfl | rfl
    · have i1 : IntKind.i64.wrap (7 - (n : Int)) = 7 - (n : Int) := IntWalk.i64_in _ (by omega)
      have i2 : IntKind.i64.wrap ((7 - (n : Int)) * 2) = (7 - (n : Int)) * 2 := IntWalk.i64_in _ (by omega)
      have i2' : IntKind.i64.wrap (2 * (7 - (n : Int))) = 2 * (7 - (n : Int)) := IntWalk.i64_in _ (by omega)
      cases tg
      · cases la
        · have qm := h0.m
          have qm_c0 := qm.cell 0 rfl
          have qm_f0 := qm.frozen 0
          have qm_c1 := qm.cell 1 rfl
          have qm_f1 := qm.frozen 1
          have qm_c2 := qm.cell 2 rfl
          have qm_f2 := qm.frozen 2
          have qm_c3 := qm.cell 3 rfl
          have qm_f3 := qm.frozen 3
          have qm_c4 := qm.cell 4 rfl
          have qm_f4 := qm.frozen 4
          have qm_c5 := qm.cell 5 rfl
          have qm_f5 := qm.frozen 5
          have qm_c6 := qm.cell 6 rfl
          have qm_f6 := qm.frozen 6
          have qm_c7 := qm.cell 7 rfl
          have qm_f7 := qm.frozen 7
          have qm_c8 := qm.cell 8 rfl
          have qm_f8 := qm.frozen 8
          have qm_c9 := qm.cell 9 rfl
          have qm_f9 := qm.frozen 9
          have qm_c10 := qm.cell 10 rfl
          have qm_f10 := qm.frozen 10
          have qm_c11 := qm.cell 11 rfl
          have qm_f11 := qm.frozen 11
          have qm_c12 := qm.cell 12 rfl
          have qm_f12 := qm.frozen 12
          have qm_c13 := qm.cell 13 rfl
          have qm_f13 := qm.frozen 13
          have zm := qm.lt
          go_wp2_with fail
          refine wp_region_held_drew (S := (fun w' => (∀ p : Addr, p.block < (w1).heap.size → w'.cell? p = (w1).cell? p) ∧ Below (w1).heap.size (w1) w')) (by kernel_rfl) ?hS1 (fun hHeld => ?rest1)
          case hS1 => ((try dsimp only); (((try go_split_ands); refine sn_of ?_; repeat' (first | with_reducible assumption | with_reducible exact Below.refl _ _ | with_reducible apply below_alloc | with_reducible apply below_drew1 | with_reducible apply below_drewN | (with_reducible apply below_step; with_reducible assumption) | (with_reducible apply below_sg2; (first | exact Nat.le_refl _ | (simp; done) | omega))))))
          case' rest1 => skip
          refine wpAnyH_take (i := 0) (oi := _) (v := ?v2) rfl (by kernel_rfl) (by kernel_rfl) (by kernel_rfl) (fun _ _ _ h => h) (Or.inl ⟨by rfl, ?hy2⟩) (by assumption) ?rest2
          case hy2 => ((intro w hSw; (try dsimp only at hSw); go_simp) <;> with_reducible rfl)
          case' rest2 => try simp only [List.getElem_toArray, List.getElem_cons_zero, List.getElem_cons_succ, Act.put, List.setIfInBounds_toArray, List.set_cons_zero, List.set_cons_succ]
          refine wpAnyH_take (i := 1) (oi := _) (v := ?v3) rfl (by kernel_rfl) (by kernel_rfl) (by kernel_rfl) (fun _ _ _ h => h) (Or.inl ⟨by rfl, ?hy3⟩) (by assumption) ?rest3
          case hy3 => ((intro w hSw; (try dsimp only at hSw); go_simp) <;> with_reducible rfl)
          case' rest3 => try simp only [List.getElem_toArray, List.getElem_cons_zero, List.getElem_cons_succ, Act.put, List.setIfInBounds_toArray, List.set_cons_zero, List.set_cons_succ]
          refine wpAnyH_take (i := 3) (oi := _) (v := ?v4) rfl (by kernel_rfl) (by kernel_rfl) (by kernel_rfl) (fun _ _ _ h => h) (Or.inl ⟨by rfl, ?hy4⟩) (by assumption) ?rest4
          case hy4 => ((intro w hSw; (try dsimp only at hSw); go_simp) <;> with_reducible rfl)
          case' rest4 => try simp only [List.getElem_toArray, List.getElem_cons_zero, List.getElem_cons_succ, Act.put, List.setIfInBounds_toArray, List.set_cons_zero, List.set_cons_succ]
          refine wpAnyH_take (i := 4) (oi := _) (v := ?v5) rfl (by kernel_rfl) (by kernel_rfl) (by kernel_rfl) (fun _ _ _ h => h) (Or.inl ⟨by rfl, ?hy5⟩) (by assumption) ?rest5
          case hy5 => ((intro w hSw; (try dsimp only at hSw); go_simp) <;> with_reducible rfl)
          case' rest5 => try simp only [List.getElem_toArray, List.getElem_cons_zero, List.getElem_cons_succ, Act.put, List.setIfInBounds_toArray, List.set_cons_zero, List.set_cons_succ]
          refine wpAnyH_take (i := 5) (oi := _) (v := ?v6) rfl (by kernel_rfl) (by kernel_rfl) (by kernel_rfl) (fun _ _ _ h => h) (Or.inl ⟨by rfl, ?hy6⟩) (by assumption) ?rest6
          case hy6 => ((intro w hSw; (try dsimp only at hSw); go_simp) <;> with_reducible rfl)
          case' rest6 => try simp only [List.getElem_toArray, List.getElem_cons_zero, List.getElem_cons_succ, Act.put, List.setIfInBounds_toArray, List.set_cons_zero, List.set_cons_succ]
          refine wpAnyH_take (i := 6) (oi := _) (v := ?v7) rfl (by kernel_rfl) (by kernel_rfl) (by kernel_rfl) (fun _ _ _ h => h) (Or.inl ⟨by rfl, ?hy7⟩) (by assumption) ?rest7
          case hy7 => ((intro w hSw; (try dsimp only at hSw); go_simp) <;> with_reducible rfl)
          case' rest7 => try simp only [List.getElem_toArray, List.getElem_cons_zero, List.getElem_cons_succ, Act.put, List.setIfInBounds_toArray, List.set_cons_zero, List.set_cons_succ]
          refine wpAnyH_take (i := 7) (oi := _) (v := ?v8) rfl (by kernel_rfl) (by kernel_rfl) (by kernel_rfl) (fun _ _ _ h => h) (Or.inl ⟨by rfl, ?hy8⟩) (by assumption) ?rest8
          case hy8 => ((intro w hSw; (try dsimp only at hSw); go_simp) <;> with_reducible rfl)
          case' rest8 => try simp only [List.getElem_toArray, List.getElem_cons_zero, List.getElem_cons_succ, Act.put, List.setIfInBounds_toArray, List.set_cons_zero, List.set_cons_succ]
          refine wpAnyH_take (i := 9) (oi := _) (v := ?v9) rfl (by kernel_rfl) (by kernel_rfl) (by kernel_rfl) (fun _ _ _ h => h) (Or.inl ⟨by rfl, ?hy9⟩) (by assumption) ?rest9
          case hy9 => ((intro w hSw; (try dsimp only at hSw); go_simp) <;> with_reducible rfl)
          case' rest9 => try simp only [List.getElem_toArray, List.getElem_cons_zero, List.getElem_cons_succ, Act.put, List.setIfInBounds_toArray, List.set_cons_zero, List.set_cons_succ]
          refine wpAnyH_take (i := 10) (oi := _) (v := ?v10) rfl (by kernel_rfl) (by kernel_rfl) (by kernel_rfl) (fun _ _ _ h => h) (Or.inl ⟨by rfl, ?hy10⟩) (by assumption) ?rest10
          case hy10 => ((intro w hSw; (try dsimp only at hSw); go_simp) <;> with_reducible rfl)
          case' rest10 => try simp only [List.getElem_toArray, List.getElem_cons_zero, List.getElem_cons_succ, Act.put, List.setIfInBounds_toArray, List.set_cons_zero, List.set_cons_succ]
          refine wpAnyH_ready (rs := [2]) (by kernel_rfl) (by simp) ?_
          refine AllReadyH.cons (o := _) rfl (fun K hK => ?_) AllReadyH.nil
          go_simp
          refine (rsd_flag _ 16 _).mono ?_
          rintro e w3 ⟨rfl, rfl⟩
          try dsimp only
          refine hK.out _ _ ?hS13 (fun hHeld => ?rest13)
          case hS13 => ((try dsimp only); (((try go_split_ands); refine sn_of ?_; repeat' (first | with_reducible assumption | with_reducible exact Below.refl _ _ | with_reducible apply below_alloc | with_reducible apply below_drew1 | with_reducible apply below_drewN | (with_reducible apply below_step; with_reducible assumption) | (with_reducible apply below_sg2; (first | exact Nat.le_refl _ | (simp; done) | omega))))))
          case' rest13 => (clear hK K; try simp only [List.getElem_toArray, List.getElem_cons_zero, List.getElem_cons_succ, Act.put, List.setIfInBounds_toArray, List.set_cons_zero, List.set_cons_succ])
          refine wpAnyH_take (i := 8) (oi := _) (v := ?v14) rfl (by kernel_rfl) (by kernel_rfl) (by kernel_rfl) (fun _ _ _ h => h) (Or.inl ⟨by rfl, ?hy14⟩) (by assumption) ?rest14
          case hy14 => ((intro w hSw; (try dsimp only at hSw); go_simp) <;> with_reducible rfl)
          case' rest14 => try simp only [List.getElem_toArray, List.getElem_cons_zero, List.getElem_cons_succ, Act.put, List.setIfInBounds_toArray, List.set_cons_zero, List.set_cons_succ]
          refine wpAnyH_ready (rs := [11]) (by kernel_rfl) (by simp) ?_
          refine AllReadyH.cons (o := _) rfl (fun K hK => ?_) AllReadyH.nil
          go_simp
          refine (rsd_flag _ 1 _).mono ?_
          rintro e w4 ⟨rfl, rfl⟩
          try dsimp only
          refine hK.out _ _ ?hS17 (fun hHeld => ?rest17)
          case hS17 => ((try dsimp only); (((try go_split_ands); refine sn_of ?_; repeat' (first | with_reducible assumption | with_reducible exact Below.refl _ _ | with_reducible apply below_alloc | with_reducible apply below_drew1 | with_reducible apply below_drewN | (with_reducible apply below_step; with_reducible assumption) | (with_reducible apply below_sg2; (first | exact Nat.le_refl _ | (simp; done) | omega))))))
          case' rest17 => (clear hK K; try simp only [List.getElem_toArray, List.getElem_cons_zero, List.getElem_cons_succ, Act.put, List.setIfInBounds_toArray, List.set_cons_zero, List.set_cons_succ])
          refine wpAnyH_ready (rs := [12]) (by kernel_rfl) (by simp) ?_
          refine AllReadyH.cons (o := _) rfl (fun K hK => ?_) AllReadyH.nil
          go_simp
          refine hK.out _ _ ?hS20 (fun hHeld => ?rest20)
          case hS20 => ((try dsimp only); (((try go_split_ands); refine sn_of ?_; repeat' (first | with_reducible assumption | with_reducible exact Below.refl _ _ | with_reducible apply below_alloc | with_reducible apply below_drew1 | with_reducible apply below_drewN | (with_reducible apply below_step; with_reducible assumption) | (with_reducible apply below_sg2; (first | exact Nat.le_refl _ | (simp; done) | omega))))))
          case' rest20 => (clear hK K; try simp only [List.getElem_toArray, List.getElem_cons_zero, List.getElem_cons_succ, Act.put, List.setIfInBounds_toArray, List.set_cons_zero, List.set_cons_succ])
          refine wpAnyH_ready (rs := [13]) (by kernel_rfl) (by simp) ?_
          refine AllReadyH.cons (o := _) rfl (fun K hK => ?_) AllReadyH.nil
          go_simp
          refine hK.out _ _ ?hS23 (fun hHeld => ?rest23)
          case hS23 => ((try dsimp only); (((try go_split_ands); refine sn_of ?_; repeat' (first | with_reducible assumption | with_reducible exact Below.refl _ _ | with_reducible apply below_alloc | with_reducible apply below_drew1 | with_reducible apply below_drewN | (with_reducible apply below_step; with_reducible assumption) | (with_reducible apply below_sg2; (first | exact Nat.le_refl _ | (simp; done) | omega))))))
          case' rest23 => (clear hK K; try simp only [List.getElem_toArray, List.getElem_cons_zero, List.getElem_cons_succ, Act.put, List.setIfInBounds_toArray, List.set_cons_zero, List.set_cons_succ])
          refine wpAnyH_done (by kernel_rfl) ?_ _
          have hEnd := hHeld.2
          repeat (clear hHeld)
          clear hEnd i1 i2 i2'
          have g0 := h0.drew
          go_wp2_with fail
          generalize w1.drew = W0 at *
          obtain ⟨W9, hrun, g9, _⟩ := rt_copy A n c 1 7 data g0.drew HN.out rfl (by omega) (hsW.out _ g0.drew.gr)
          refine wp_region_held_drew (S := (fun w' => w'.cell? ⟨w.heap.size, 9, none⟩ = some (.slice A n c))) (by kernel_rfl) ?hS25 (fun hHeld => ?rest25)
          case hS25 => ((try dsimp only); (exact g0.m.cell 9 rfl))
          case' rest25 => skip
          refine wpAnyH_take (i := 0) (oi := _) (v := ?v26) rfl (by kernel_rfl) (by kernel_rfl) (by kernel_rfl) (fun _ _ _ h => h) (Or.inl ⟨by rfl, ?hy26⟩) (by assumption) ?rest26
          case hy26 => ((intro w hSw; (try dsimp only at hSw); go_simp) <;> with_reducible rfl)
          case' rest26 => try simp only [List.getElem_toArray, List.getElem_cons_zero, List.getElem_cons_succ, Act.put, List.setIfInBounds_toArray, List.set_cons_zero, List.set_cons_succ]
          refine wpAnyH_take (i := 1) (oi := _) (v := ?v27) rfl (by kernel_rfl) (by kernel_rfl) (by kernel_rfl) (fun _ _ _ h => h) (Or.inl ⟨by rfl, ?hy27⟩) (by assumption) ?rest27
          case hy27 => ((intro w hSw; (try dsimp only at hSw); go_simp) <;> with_reducible rfl)
          case' rest27 => try simp only [List.getElem_toArray, List.getElem_cons_zero, List.getElem_cons_succ, Act.put, List.setIfInBounds_toArray, List.set_cons_zero, List.set_cons_succ]
          refine wpAnyH_take (i := 2) (oi := _) (v := ?v28) rfl (by kernel_rfl) (by kernel_rfl) (by kernel_rfl) (fun _ _ _ h => h) (Or.inl ⟨by rfl, ?hy28⟩) (by assumption) ?rest28
          case hy28 => ((intro w hSw; (try dsimp only at hSw); go_simp) <;> with_reducible rfl)
          case' rest28 => try simp only [List.getElem_toArray, List.getElem_cons_zero, List.getElem_cons_succ, Act.put, List.setIfInBounds_toArray, List.set_cons_zero, List.set_cons_succ]
          refine wpAnyH_take (i := 3) (oi := _) (v := ?v29) rfl (by kernel_rfl) (by kernel_rfl) (by kernel_rfl) (fun _ _ _ h => h) (Or.inl ⟨by rfl, ?hy29⟩) (by assumption) ?rest29
          case hy29 => ((intro w hSw; (try dsimp only at hSw); go_simp) <;> with_reducible rfl)
          case' rest29 => try simp only [List.getElem_toArray, List.getElem_cons_zero, List.getElem_cons_succ, Act.put, List.setIfInBounds_toArray, List.set_cons_zero, List.set_cons_succ]
          refine wpAnyH_ready (rs := [4]) (by kernel_rfl) (by simp) ?_
          refine AllReadyH.cons (o := _) rfl (fun K hK => ?_) AllReadyH.nil
          go_simp
          refine hK.out _ _ ?hS32 (fun hHeld => ?rest32)
          case hS32 => ((try dsimp only); (exact g9.m.cell 9 rfl))
          case' rest32 => (clear hK K; try simp only [List.getElem_toArray, List.getElem_cons_zero, List.getElem_cons_succ, Act.put, List.setIfInBounds_toArray, List.set_cons_zero, List.set_cons_succ])
          refine wpAnyH_done (by kernel_rfl) ?_ _
          repeat (clear hHeld)
          clear zm
          clear qm_c0 qm_f0 qm_c1 qm_f1 qm_c2 qm_f2 qm_c3 qm_f3 qm_c4 qm_f4 qm_c5 qm_f5 qm_c6 qm_f6 qm_c7 qm_f7 qm_c8 qm_f8 qm_c9 qm_f9 qm_c10 qm_f10 qm_c11 qm_f11 qm_c12 qm_f12 qm_c13 qm_f13
          clear qm
          go_wp2_with fail
          go_meet
          exact ⟨by simp [rfirB, plB, IntKind.wrap_i64] <;> first | rfl | omega, by simp [rplcB], by simpa [rbodL] using g9⟩
        · have qm := h0.m
          have qm_c0 := qm.cell 0 rfl
          have qm_f0 := qm.frozen 0
          have qm_c1 := qm.cell 1 rfl
          have qm_f1 := qm.frozen 1
          have qm_c2 := qm.cell 2 rfl
          have qm_f2 := qm.frozen 2
          have qm_c3 := qm.cell 3 rfl
          have qm_f3 := qm.frozen 3
          have qm_c4 := qm.cell 4 rfl
          have qm_f4 := qm.frozen 4
          have qm_c5 := qm.cell 5 rfl
          have qm_f5 := qm.frozen 5
          have qm_c6 := qm.cell 6 rfl
          have qm_f6 := qm.frozen 6
          have qm_c7 := qm.cell 7 rfl
          have qm_f7 := qm.frozen 7
          have qm_c8 := qm.cell 8 rfl
          have qm_f8 := qm.frozen 8
          have qm_c9 := qm.cell 9 rfl
          have qm_f9 := qm.frozen 9
          have qm_c10 := qm.cell 10 rfl
          have qm_f10 := qm.frozen 10
          have qm_c11 := qm.cell 11 rfl
          have qm_f11 := qm.frozen 11
          have qm_c12 := qm.cell 12 rfl
          have qm_f12 := qm.frozen 12
          have qm_c13 := qm.cell 13 rfl
          have qm_f13 := qm.frozen 13
          have zm := qm.lt
          go_wp2_with fail
          refine wp_region_held_drew (S := (fun w' => (∀ p : Addr, p.block < (w1).heap.size → w'.cell? p = (w1).cell? p) ∧ Below (w1).heap.size (w1) w')) (by kernel_rfl) ?hS33 (fun hHeld => ?rest33)
          case hS33 => ((try dsimp only); (((try go_split_ands); refine sn_of ?_; repeat' (first | with_reducible assumption | with_reducible exact Below.refl _ _ | with_reducible apply below_alloc | with_reducible apply below_drew1 | with_reducible apply below_drewN | (with_reducible apply below_step; with_reducible assumption) | (with_reducible apply below_sg2; (first | exact Nat.le_refl _ | (simp; done) | omega))))))
          case' rest33 => skip
          refine wpAnyH_take (i := 0) (oi := _) (v := ?v34) rfl (by kernel_rfl) (by kernel_rfl) (by kernel_rfl) (fun _ _ _ h => h) (Or.inl ⟨by rfl, ?hy34⟩) (by assumption) ?rest34
          case hy34 => ((intro w hSw; (try dsimp only at hSw); go_simp) <;> with_reducible rfl)
          case' rest34 => try simp only [List.getElem_toArray, List.getElem_cons_zero, List.getElem_cons_succ, Act.put, List.setIfInBounds_toArray, List.set_cons_zero, List.set_cons_succ]
          refine wpAnyH_take (i := 1) (oi := _) (v := ?v35) rfl (by kernel_rfl) (by kernel_rfl) (by kernel_rfl) (fun _ _ _ h => h) (Or.inl ⟨by rfl, ?hy35⟩) (by assumption) ?rest35
          case hy35 => ((intro w hSw; (try dsimp only at hSw); go_simp) <;> with_reducible rfl)
          case' rest35 => try simp only [List.getElem_toArray, List.getElem_cons_zero, List.getElem_cons_succ, Act.put, List.setIfInBounds_toArray, List.set_cons_zero, List.set_cons_succ]
          refine wpAnyH_take (i := 3) (oi := _) (v := ?v36) rfl (by kernel_rfl) (by kernel_rfl) (by kernel_rfl) (fun _ _ _ h => h) (Or.inl ⟨by rfl, ?hy36⟩) (by assumption) ?rest36
          case hy36 => ((intro w hSw; (try dsimp only at hSw); go_simp) <;> with_reducible rfl)
          case' rest36 => try simp only [List.getElem_toArray, List.getElem_cons_zero, List.getElem_cons_succ, Act.put, List.setIfInBounds_toArray, List.set_cons_zero, List.set_cons_succ]
          refine wpAnyH_take (i := 4) (oi := _) (v := ?v37) rfl (by kernel_rfl) (by kernel_rfl) (by kernel_rfl) (fun _ _ _ h => h) (Or.inl ⟨by rfl, ?hy37⟩) (by assumption) ?rest37
          case hy37 => ((intro w hSw; (try dsimp only at hSw); go_simp) <;> with_reducible rfl)
          case' rest37 => try simp only [List.getElem_toArray, List.getElem_cons_zero, List.getElem_cons_succ, Act.put, List.setIfInBounds_toArray, List.set_cons_zero, List.set_cons_succ]
          refine wpAnyH_take (i := 5) (oi := _) (v := ?v38) rfl (by kernel_rfl) (by kernel_rfl) (by kernel_rfl) (fun _ _ _ h => h) (Or.inl ⟨by rfl, ?hy38⟩) (by assumption) ?rest38
          case hy38 => ((intro w hSw; (try dsimp only at hSw); go_simp) <;> with_reducible rfl)
          case' rest38 => try simp only [List.getElem_toArray, List.getElem_cons_zero, List.getElem_cons_succ, Act.put, List.setIfInBounds_toArray, List.set_cons_zero, List.set_cons_succ]
          refine wpAnyH_take (i := 6) (oi := _) (v := ?v39) rfl (by kernel_rfl) (by kernel_rfl) (by kernel_rfl) (fun _ _ _ h => h) (Or.inl ⟨by rfl, ?hy39⟩) (by assumption) ?rest39
          case hy39 => ((intro w hSw; (try dsimp only at hSw); go_simp) <;> with_reducible rfl)
          case' rest39 => try simp only [List.getElem_toArray, List.getElem_cons_zero, List.getElem_cons_succ, Act.put, List.setIfInBounds_toArray, List.set_cons_zero, List.set_cons_succ]
          refine wpAnyH_take (i := 7) (oi := _) (v := ?v40) rfl (by kernel_rfl) (by kernel_rfl) (by kernel_rfl) (fun _ _ _ h => h) (Or.inl ⟨by rfl, ?hy40⟩) (by assumption) ?rest40
          case hy40 => ((intro w hSw; (try dsimp only at hSw); go_simp) <;> with_reducible rfl)
          case' rest40 => try simp only [List.getElem_toArray, List.getElem_cons_zero, List.getElem_cons_succ, Act.put, List.setIfInBounds_toArray, List.set_cons_zero, List.set_cons_succ]
          refine wpAnyH_take (i := 9) (oi := _) (v := ?v41) rfl (by kernel_rfl) (by kernel_rfl) (by kernel_rfl) (fun _ _ _ h => h) (Or.inl ⟨by rfl, ?hy41⟩) (by assumption) ?rest41
          case hy41 => ((intro w hSw; (try dsimp only at hSw); go_simp) <;> with_reducible rfl)
          case' rest41 => try simp only [List.getElem_toArray, List.getElem_cons_zero, List.getElem_cons_succ, Act.put, List.setIfInBounds_toArray, List.set_cons_zero, List.set_cons_succ]
          refine wpAnyH_take (i := 10) (oi := _) (v := ?v42) rfl (by kernel_rfl) (by kernel_rfl) (by kernel_rfl) (fun _ _ _ h => h) (Or.inl ⟨by rfl, ?hy42⟩) (by assumption) ?rest42
          case hy42 => ((intro w hSw; (try dsimp only at hSw); go_simp) <;> with_reducible rfl)
          case' rest42 => try simp only [List.getElem_toArray, List.getElem_cons_zero, List.getElem_cons_succ, Act.put, List.setIfInBounds_toArray, List.set_cons_zero, List.set_cons_succ]
          refine wpAnyH_ready (rs := [2]) (by kernel_rfl) (by simp) ?_
          refine AllReadyH.cons (o := _) rfl (fun K hK => ?_) AllReadyH.nil
          go_simp
          refine (rsd_flag _ 16 _).mono ?_
          rintro e w3 ⟨rfl, rfl⟩
          try dsimp only
          refine hK.out _ _ ?hS45 (fun hHeld => ?rest45)
          case hS45 => ((try dsimp only); (((try go_split_ands); refine sn_of ?_; repeat' (first | with_reducible assumption | with_reducible exact Below.refl _ _ | with_reducible apply below_alloc | with_reducible apply below_drew1 | with_reducible apply below_drewN | (with_reducible apply below_step; with_reducible assumption) | (with_reducible apply below_sg2; (first | exact Nat.le_refl _ | (simp; done) | omega))))))
          case' rest45 => (clear hK K; try simp only [List.getElem_toArray, List.getElem_cons_zero, List.getElem_cons_succ, Act.put, List.setIfInBounds_toArray, List.set_cons_zero, List.set_cons_succ])
          refine wpAnyH_take (i := 8) (oi := _) (v := ?v46) rfl (by kernel_rfl) (by kernel_rfl) (by kernel_rfl) (fun _ _ _ h => h) (Or.inl ⟨by rfl, ?hy46⟩) (by assumption) ?rest46
          case hy46 => ((intro w hSw; (try dsimp only at hSw); go_simp) <;> with_reducible rfl)
          case' rest46 => try simp only [List.getElem_toArray, List.getElem_cons_zero, List.getElem_cons_succ, Act.put, List.setIfInBounds_toArray, List.set_cons_zero, List.set_cons_succ]
          refine wpAnyH_ready (rs := [11]) (by kernel_rfl) (by simp) ?_
          refine AllReadyH.cons (o := _) rfl (fun K hK => ?_) AllReadyH.nil
          go_simp
          refine (rsd_flag _ 1 _).mono ?_
          rintro e w4 ⟨rfl, rfl⟩
          try dsimp only
          refine hK.out _ _ ?hS49 (fun hHeld => ?rest49)
          case hS49 => ((try dsimp only); (((try go_split_ands); refine sn_of ?_; repeat' (first | with_reducible assumption | with_reducible exact Below.refl _ _ | with_reducible apply below_alloc | with_reducible apply below_drew1 | with_reducible apply below_drewN | (with_reducible apply below_step; with_reducible assumption) | (with_reducible apply below_sg2; (first | exact Nat.le_refl _ | (simp; done) | omega))))))
          case' rest49 => (clear hK K; try simp only [List.getElem_toArray, List.getElem_cons_zero, List.getElem_cons_succ, Act.put, List.setIfInBounds_toArray, List.set_cons_zero, List.set_cons_succ])
          refine wpAnyH_ready (rs := [12]) (by kernel_rfl) (by simp) ?_
          refine AllReadyH.cons (o := _) rfl (fun K hK => ?_) AllReadyH.nil
          go_simp
          refine hK.out _ _ ?hS52 (fun hHeld => ?rest52)
          case hS52 => ((try dsimp only); (((try go_split_ands); refine sn_of ?_; repeat' (first | with_reducible assumption | with_reducible exact Below.refl _ _ | with_reducible apply below_alloc | with_reducible apply below_drew1 | with_reducible apply below_drewN | (with_reducible apply below_step; with_reducible assumption) | (with_reducible apply below_sg2; (first | exact Nat.le_refl _ | (simp; done) | omega))))))
          case' rest52 => (clear hK K; try simp only [List.getElem_toArray, List.getElem_cons_zero, List.getElem_cons_succ, Act.put, List.setIfInBounds_toArray, List.set_cons_zero, List.set_cons_succ])
          refine wpAnyH_ready (rs := [13]) (by kernel_rfl) (by simp) ?_
          refine AllReadyH.cons (o := _) rfl (fun K hK => ?_) AllReadyH.nil
          go_simp
          refine hK.out _ _ ?hS55 (fun hHeld => ?rest55)
          case hS55 => ((try dsimp only); (((try go_split_ands); refine sn_of ?_; repeat' (first | with_reducible assumption | with_reducible exact Below.refl _ _ | with_reducible apply below_alloc | with_reducible apply below_drew1 | with_reducible apply below_drewN | (with_reducible apply below_step; with_reducible assumption) | (with_reducible apply below_sg2; (first | exact Nat.le_refl _ | (simp; done) | omega))))))
          case' rest55 => (clear hK K; try simp only [List.getElem_toArray, List.getElem_cons_zero, List.getElem_cons_succ, Act.put, List.setIfInBounds_toArray, List.set_cons_zero, List.set_cons_succ])
          refine wpAnyH_done (by kernel_rfl) ?_ _
          have hEnd := hHeld.2
          repeat (clear hHeld)
          clear hEnd i1 i2 i2'
          have g0 := h0.drew
          go_wp2_with fail
          generalize w1.drew = W0 at *
          obtain ⟨W9, hrun, g9, _⟩ := rt_copy A n c 1 7 data g0.drew HN.out rfl (by omega) (hsW.out _ g0.drew.gr)
          refine wp_region_held_drew (S := (fun w' => w'.cell? ⟨w.heap.size, 9, none⟩ = some (.slice A n c))) (by kernel_rfl) ?hS57 (fun hHeld => ?rest57)
          case hS57 => ((try dsimp only); (exact g0.m.cell 9 rfl))
          case' rest57 => skip
          refine wpAnyH_take (i := 0) (oi := _) (v := ?v58) rfl (by kernel_rfl) (by kernel_rfl) (by kernel_rfl) (fun _ _ _ h => h) (Or.inl ⟨by rfl, ?hy58⟩) (by assumption) ?rest58
          case hy58 => ((intro w hSw; (try dsimp only at hSw); go_simp) <;> with_reducible rfl)
          case' rest58 => try simp only [List.getElem_toArray, List.getElem_cons_zero, List.getElem_cons_succ, Act.put, List.setIfInBounds_toArray, List.set_cons_zero, List.set_cons_succ]
          refine wpAnyH_take (i := 1) (oi := _) (v := ?v59) rfl (by kernel_rfl) (by kernel_rfl) (by kernel_rfl) (fun _ _ _ h => h) (Or.inl ⟨by rfl, ?hy59⟩) (by assumption) ?rest59
          case hy59 => ((intro w hSw; (try dsimp only at hSw); go_simp) <;> with_reducible rfl)
          case' rest59 => try simp only [List.getElem_toArray, List.getElem_cons_zero, List.getElem_cons_succ, Act.put, List.setIfInBounds_toArray, List.set_cons_zero, List.set_cons_succ]
          refine wpAnyH_take (i := 2) (oi := _) (v := ?v60) rfl (by kernel_rfl) (by kernel_rfl) (by kernel_rfl) (fun _ _ _ h => h) (Or.inl ⟨by rfl, ?hy60⟩) (by assumption) ?rest60
          case hy60 => ((intro w hSw; (try dsimp only at hSw); go_simp) <;> with_reducible rfl)
          case' rest60 => try simp only [List.getElem_toArray, List.getElem_cons_zero, List.getElem_cons_succ, Act.put, List.setIfInBounds_toArray, List.set_cons_zero, List.set_cons_succ]
          refine wpAnyH_take (i := 3) (oi := _) (v := ?v61) rfl (by kernel_rfl) (by kernel_rfl) (by kernel_rfl) (fun _ _ _ h => h) (Or.inl ⟨by rfl, ?hy61⟩) (by assumption) ?rest61
          case hy61 => ((intro w hSw; (try dsimp only at hSw); go_simp) <;> with_reducible rfl)
          case' rest61 => try simp only [List.getElem_toArray, List.getElem_cons_zero, List.getElem_cons_succ, Act.put, List.setIfInBounds_toArray, List.set_cons_zero, List.set_cons_succ]
          refine wpAnyH_ready (rs := [4]) (by kernel_rfl) (by simp) ?_
          refine AllReadyH.cons (o := _) rfl (fun K hK => ?_) AllReadyH.nil
          go_simp
          refine hK.out _ _ ?hS64 (fun hHeld => ?rest64)
          case hS64 => ((try dsimp only); (exact g9.m.cell 9 rfl))
          case' rest64 => (clear hK K; try simp only [List.getElem_toArray, List.getElem_cons_zero, List.getElem_cons_succ, Act.put, List.setIfInBounds_toArray, List.set_cons_zero, List.set_cons_succ])
          refine wpAnyH_done (by kernel_rfl) ?_ _
          repeat (clear hHeld)
          clear zm
          clear qm_c0 qm_f0 qm_c1 qm_f1 qm_c2 qm_f2 qm_c3 qm_f3 qm_c4 qm_f4 qm_c5 qm_f5 qm_c6 qm_f6 qm_c7 qm_f7 qm_c8 qm_f8 qm_c9 qm_f9 qm_c10 qm_f10 qm_c11 qm_f11 qm_c12 qm_f12 qm_c13 qm_f13
          clear qm
          go_wp2_with fail
          go_meet
          exact ⟨by simp [rfirB, plB, IntKind.wrap_i64] <;> first | rfl | omega, by simp [rplcB], by simpa [rbodL] using g9⟩
      · cases la
        · have qm := h0.m
          have qm_c0 := qm.cell 0 rfl
          have qm_f0 := qm.frozen 0
          have qm_c1 := qm.cell 1 rfl
          have qm_f1 := qm.frozen 1
          have qm_c2 := qm.cell 2 rfl
          have qm_f2 := qm.frozen 2
          have qm_c3 := qm.cell 3 rfl
          have qm_f3 := qm.frozen 3
          have qm_c4 := qm.cell 4 rfl
          have qm_f4 := qm.frozen 4
          have qm_c5 := qm.cell 5 rfl
          have qm_f5 := qm.frozen 5
          have qm_c6 := qm.cell 6 rfl
          have qm_f6 := qm.frozen 6
          have qm_c7 := qm.cell 7 rfl
          have qm_f7 := qm.frozen 7
          have qm_c8 := qm.cell 8 rfl
          have qm_f8 := qm.frozen 8
          have qm_c9 := qm.cell 9 rfl
          have qm_f9 := qm.frozen 9
          have qm_c10 := qm.cell 10 rfl
          have qm_f10 := qm.frozen 10
          have qm_c11 := qm.cell 11 rfl
          have qm_f11 := qm.frozen 11
          have qm_c12 := qm.cell 12 rfl
          have qm_f12 := qm.frozen 12
          have qm_c13 := qm.cell 13 rfl
          have qm_f13 := qm.frozen 13
          have zm := qm.lt
          go_wp2_with fail
          refine wp_region_held_drew (S := (fun w' => (∀ p : Addr, p.block < (w1).heap.size → w'.cell? p = (w1).cell? p) ∧ Below (w1).heap.size (w1) w')) (by kernel_rfl) ?hS65 (fun hHeld => ?rest65)
          case hS65 => ((try dsimp only); (((try go_split_ands); refine sn_of ?_; repeat' (first | with_reducible assumption | with_reducible exact Below.refl _ _ | with_reducible apply below_alloc | with_reducible apply below_drew1 | with_reducible apply below_drewN | (with_reducible apply below_step; with_reducible assumption) | (with_reducible apply below_sg2; (first | exact Nat.le_refl _ | (simp; done) | omega))))))
          case' rest65 => skip
          refine wpAnyH_take (i := 0) (oi := _) (v := ?v66) rfl (by kernel_rfl) (by kernel_rfl) (by kernel_rfl) (fun _ _ _ h => h) (Or.inl ⟨by rfl, ?hy66⟩) (by assumption) ?rest66
          case hy66 => ((intro w hSw; (try dsimp only at hSw); go_simp) <;> with_reducible rfl)
          case' rest66 => try simp only [List.getElem_toArray, List.getElem_cons_zero, List.getElem_cons_succ, Act.put, List.setIfInBounds_toArray, List.set_cons_zero, List.set_cons_succ]
          refine wpAnyH_take (i := 1) (oi := _) (v := ?v67) rfl (by kernel_rfl) (by kernel_rfl) (by kernel_rfl) (fun _ _ _ h => h) (Or.inl ⟨by rfl, ?hy67⟩) (by assumption) ?rest67
          case hy67 => ((intro w hSw; (try dsimp only at hSw); go_simp) <;> with_reducible rfl)
          case' rest67 => try simp only [List.getElem_toArray, List.getElem_cons_zero, List.getElem_cons_succ, Act.put, List.setIfInBounds_toArray, List.set_cons_zero, List.set_cons_succ]
          refine wpAnyH_take (i := 3) (oi := _) (v := ?v68) rfl (by kernel_rfl) (by kernel_rfl) (by kernel_rfl) (fun _ _ _ h => h) (Or.inl ⟨by rfl, ?hy68⟩) (by assumption) ?rest68
          case hy68 => ((intro w hSw; (try dsimp only at hSw); go_simp) <;> with_reducible rfl)
          case' rest68 => try simp only [List.getElem_toArray, List.getElem_cons_zero, List.getElem_cons_succ, Act.put, List.setIfInBounds_toArray, List.set_cons_zero, List.set_cons_succ]
          refine wpAnyH_take (i := 4) (oi := _) (v := ?v69) rfl (by kernel_rfl) (by kernel_rfl) (by kernel_rfl) (fun _ _ _ h => h) (Or.inl ⟨by rfl, ?hy69⟩) (by assumption) ?rest69
          case hy69 => ((intro w hSw; (try dsimp only at hSw); go_simp) <;> with_reducible rfl)
          case' rest69 => try simp only [List.getElem_toArray, List.getElem_cons_zero, List.getElem_cons_succ, Act.put, List.setIfInBounds_toArray, List.set_cons_zero, List.set_cons_succ]
          refine wpAnyH_take (i := 5) (oi := _) (v := ?v70) rfl (by kernel_rfl) (by kernel_rfl) (by kernel_rfl) (fun _ _ _ h => h) (Or.inl ⟨by rfl, ?hy70⟩) (by assumption) ?rest70
          case hy70 => ((intro w hSw; (try dsimp only at hSw); go_simp) <;> with_reducible rfl)
          case' rest70 => try simp only [List.getElem_toArray, List.getElem_cons_zero, List.getElem_cons_succ, Act.put, List.setIfInBounds_toArray, List.set_cons_zero, List.set_cons_succ]
          refine wpAnyH_take (i := 6) (oi := _) (v := ?v71) rfl (by kernel_rfl) (by kernel_rfl) (by kernel_rfl) (fun _ _ _ h => h) (Or.inl ⟨by rfl, ?hy71⟩) (by assumption) ?rest71
          case hy71 => ((intro w hSw; (try dsimp only at hSw); go_simp) <;> with_reducible rfl)
          case' rest71 => try simp only [List.getElem_toArray, List.getElem_cons_zero, List.getElem_cons_succ, Act.put, List.setIfInBounds_toArray, List.set_cons_zero, List.set_cons_succ]
          refine wpAnyH_take (i := 7) (oi := _) (v := ?v72) rfl (by kernel_rfl) (by kernel_rfl) (by kernel_rfl) (fun _ _ _ h => h) (Or.inl ⟨by rfl, ?hy72⟩) (by assumption) ?rest72
          case hy72 => ((intro w hSw; (try dsimp only at hSw); go_simp) <;> with_reducible rfl)
          case' rest72 => try simp only [List.getElem_toArray, List.getElem_cons_zero, List.getElem_cons_succ, Act.put, List.setIfInBounds_toArray, List.set_cons_zero, List.set_cons_succ]
          refine wpAnyH_take (i := 9) (oi := _) (v := ?v73) rfl (by kernel_rfl) (by kernel_rfl) (by kernel_rfl) (fun _ _ _ h => h) (Or.inl ⟨by rfl, ?hy73⟩) (by assumption) ?rest73
          case hy73 => ((intro w hSw; (try dsimp only at hSw); go_simp) <;> with_reducible rfl)
          case' rest73 => try simp only [List.getElem_toArray, List.getElem_cons_zero, List.getElem_cons_succ, Act.put, List.setIfInBounds_toArray, List.set_cons_zero, List.set_cons_succ]
          refine wpAnyH_take (i := 10) (oi := _) (v := ?v74) rfl (by kernel_rfl) (by kernel_rfl) (by kernel_rfl) (fun _ _ _ h => h) (Or.inl ⟨by rfl, ?hy74⟩) (by assumption) ?rest74
          case hy74 => ((intro w hSw; (try dsimp only at hSw); go_simp) <;> with_reducible rfl)
          case' rest74 => try simp only [List.getElem_toArray, List.getElem_cons_zero, List.getElem_cons_succ, Act.put, List.setIfInBounds_toArray, List.set_cons_zero, List.set_cons_succ]
          refine wpAnyH_ready (rs := [2]) (by kernel_rfl) (by simp) ?_
          refine AllReadyH.cons (o := _) rfl (fun K hK => ?_) AllReadyH.nil
          go_simp
          refine (rsd_flag _ 16 _).mono ?_
          rintro e w3 ⟨rfl, rfl⟩
          try dsimp only
          refine hK.out _ _ ?hS77 (fun hHeld => ?rest77)
          case hS77 => ((try dsimp only); (((try go_split_ands); refine sn_of ?_; repeat' (first | with_reducible assumption | with_reducible exact Below.refl _ _ | with_reducible apply below_alloc | with_reducible apply below_drew1 | with_reducible apply below_drewN | (with_reducible apply below_step; with_reducible assumption) | (with_reducible apply below_sg2; (first | exact Nat.le_refl _ | (simp; done) | omega))))))
          case' rest77 => (clear hK K; try simp only [List.getElem_toArray, List.getElem_cons_zero, List.getElem_cons_succ, Act.put, List.setIfInBounds_toArray, List.set_cons_zero, List.set_cons_succ])
          refine wpAnyH_take (i := 8) (oi := _) (v := ?v78) rfl (by kernel_rfl) (by kernel_rfl) (by kernel_rfl) (fun _ _ _ h => h) (Or.inl ⟨by rfl, ?hy78⟩) (by assumption) ?rest78
          case hy78 => ((intro w hSw; (try dsimp only at hSw); go_simp) <;> with_reducible rfl)
          case' rest78 => try simp only [List.getElem_toArray, List.getElem_cons_zero, List.getElem_cons_succ, Act.put, List.setIfInBounds_toArray, List.set_cons_zero, List.set_cons_succ]
          refine wpAnyH_ready (rs := [11]) (by kernel_rfl) (by simp) ?_
          refine AllReadyH.cons (o := _) rfl (fun K hK => ?_) AllReadyH.nil
          go_simp
          refine (rsd_flag _ 1 _).mono ?_
          rintro e w4 ⟨rfl, rfl⟩
          try dsimp only
          refine hK.out _ _ ?hS81 (fun hHeld => ?rest81)
          case hS81 => ((try dsimp only); (((try go_split_ands); refine sn_of ?_; repeat' (first | with_reducible assumption | with_reducible exact Below.refl _ _ | with_reducible apply below_alloc | with_reducible apply below_drew1 | with_reducible apply below_drewN | (with_reducible apply below_step; with_reducible assumption) | (with_reducible apply below_sg2; (first | exact Nat.le_refl _ | (simp; done) | omega))))))
          case' rest81 => (clear hK K; try simp only [List.getElem_toArray, List.getElem_cons_zero, List.getElem_cons_succ, Act.put, List.setIfInBounds_toArray, List.set_cons_zero, List.set_cons_succ])
          refine wpAnyH_ready (rs := [12]) (by kernel_rfl) (by simp) ?_
          refine AllReadyH.cons (o := _) rfl (fun K hK => ?_) AllReadyH.nil
          go_simp
          refine hK.out _ _ ?hS84 (fun hHeld => ?rest84)
          case hS84 => ((try dsimp only); (((try go_split_ands); refine sn_of ?_; repeat' (first | with_reducible assumption | with_reducible exact Below.refl _ _ | with_reducible apply below_alloc | with_reducible apply below_drew1 | with_reducible apply below_drewN | (with_reducible apply below_step; with_reducible assumption) | (with_reducible apply below_sg2; (first | exact Nat.le_refl _ | (simp; done) | omega))))))
          case' rest84 => (clear hK K; try simp only [List.getElem_toArray, List.getElem_cons_zero, List.getElem_cons_succ, Act.put, List.setIfInBounds_toArray, List.set_cons_zero, List.set_cons_succ])
          refine wpAnyH_ready (rs := [13]) (by kernel_rfl) (by simp) ?_
          refine AllReadyH.cons (o := _) rfl (fun K hK => ?_) AllReadyH.nil
          go_simp
          refine hK.out _ _ ?hS87 (fun hHeld => ?rest87)
          case hS87 => ((try dsimp only); (((try go_split_ands); refine sn_of ?_; repeat' (first | with_reducible assumption | with_reducible exact Below.refl _ _ | with_reducible apply below_alloc | with_reducible apply below_drew1 | with_reducible apply below_drewN | (with_reducible apply below_step; with_reducible assumption) | (with_reducible apply below_sg2; (first | exact Nat.le_refl _ | (simp; done) | omega))))))
          case' rest87 => (clear hK K; try simp only [List.getElem_toArray, List.getElem_cons_zero, List.getElem_cons_succ, Act.put, List.setIfInBounds_toArray, List.set_cons_zero, List.set_cons_succ])
          refine wpAnyH_done (by kernel_rfl) ?_ _
          have hEnd := hHeld.2
          repeat (clear hHeld)
          clear hEnd i1 i2 i2'
          have g0 := h0.drew
          go_wp2_with fail
          generalize w1.drew = W0 at *
          obtain ⟨W9, hrun, g9, _⟩ := rt_copy A n c 1 7 data g0.drew HN.out rfl (by omega) (hsW.out _ g0.drew.gr)
          refine wp_region_held_drew (S := (fun w' => w'.cell? ⟨w.heap.size, 9, none⟩ = some (.slice A n c))) (by kernel_rfl) ?hS89 (fun hHeld => ?rest89)
          case hS89 => ((try dsimp only); (exact g0.m.cell 9 rfl))
          case' rest89 => skip
          refine wpAnyH_take (i := 0) (oi := _) (v := ?v90) rfl (by kernel_rfl) (by kernel_rfl) (by kernel_rfl) (fun _ _ _ h => h) (Or.inl ⟨by rfl, ?hy90⟩) (by assumption) ?rest90
          case hy90 => ((intro w hSw; (try dsimp only at hSw); go_simp) <;> with_reducible rfl)
          case' rest90 => try simp only [List.getElem_toArray, List.getElem_cons_zero, List.getElem_cons_succ, Act.put, List.setIfInBounds_toArray, List.set_cons_zero, List.set_cons_succ]
          refine wpAnyH_take (i := 1) (oi := _) (v := ?v91) rfl (by kernel_rfl) (by kernel_rfl) (by kernel_rfl) (fun _ _ _ h => h) (Or.inl ⟨by rfl, ?hy91⟩) (by assumption) ?rest91
          case hy91 => ((intro w hSw; (try dsimp only at hSw); go_simp) <;> with_reducible rfl)
          case' rest91 => try simp only [List.getElem_toArray, List.getElem_cons_zero, List.getElem_cons_succ, Act.put, List.setIfInBounds_toArray, List.set_cons_zero, List.set_cons_succ]
          refine wpAnyH_take (i := 2) (oi := _) (v := ?v92) rfl (by kernel_rfl) (by kernel_rfl) (by kernel_rfl) (fun _ _ _ h => h) (Or.inl ⟨by rfl, ?hy92⟩) (by assumption) ?rest92
          case hy92 => ((intro w hSw; (try dsimp only at hSw); go_simp) <;> with_reducible rfl)
          case' rest92 => try simp only [List.getElem_toArray, List.getElem_cons_zero, List.getElem_cons_succ, Act.put, List.setIfInBounds_toArray, List.set_cons_zero, List.set_cons_succ]
          refine wpAnyH_take (i := 3) (oi := _) (v := ?v93) rfl (by kernel_rfl) (by kernel_rfl) (by kernel_rfl) (fun _ _ _ h => h) (Or.inl ⟨by rfl, ?hy93⟩) (by assumption) ?rest93
          case hy93 => ((intro w hSw; (try dsimp only at hSw); go_simp) <;> with_reducible rfl)
          case' rest93 => try simp only [List.getElem_toArray, List.getElem_cons_zero, List.getElem_cons_succ, Act.put, List.setIfInBounds_toArray, List.set_cons_zero, List.set_cons_succ]
          refine wpAnyH_ready (rs := [4]) (by kernel_rfl) (by simp) ?_
          refine AllReadyH.cons (o := _) rfl (fun K hK => ?_) AllReadyH.nil
          go_simp
          refine hK.out _ _ ?hS96 (fun hHeld => ?rest96)
          case hS96 => ((try dsimp only); (exact g9.m.cell 9 rfl))
          case' rest96 => (clear hK K; try simp only [List.getElem_toArray, List.getElem_cons_zero, List.getElem_cons_succ, Act.put, List.setIfInBounds_toArray, List.set_cons_zero, List.set_cons_succ])
          refine wpAnyH_done (by kernel_rfl) ?_ _
          repeat (clear hHeld)
          clear zm
          clear qm_c0 qm_f0 qm_c1 qm_f1 qm_c2 qm_f2 qm_c3 qm_f3 qm_c4 qm_f4 qm_c5 qm_f5 qm_c6 qm_f6 qm_c7 qm_f7 qm_c8 qm_f8 qm_c9 qm_f9 qm_c10 qm_f10 qm_c11 qm_f11 qm_c12 qm_f12 qm_c13 qm_f13
          clear qm
          go_wp2_with fail
          go_meet
          exact ⟨by simp [rfirB, plB, IntKind.wrap_i64] <;> first | rfl | omega, by simp [rplcB], by simpa [rbodL] using g9⟩
        · have qm := h0.m
          have qm_c0 := qm.cell 0 rfl
          have qm_f0 := qm.frozen 0
          have qm_c1 := qm.cell 1 rfl
          have qm_f1 := qm.frozen 1
          have qm_c2 := qm.cell 2 rfl
          have qm_f2 := qm.frozen 2
          have qm_c3 := qm.cell 3 rfl
          have qm_f3 := qm.frozen 3
          have qm_c4 := qm.cell 4 rfl
          have qm_f4 := qm.frozen 4
          have qm_c5 := qm.cell 5 rfl
          have qm_f5 := qm.frozen 5
          have qm_c6 := qm.cell 6 rfl
          have qm_f6 := qm.frozen 6
          have qm_c7 := qm.cell 7 rfl
          have qm_f7 := qm.frozen 7
          have qm_c8 := qm.cell 8 rfl
          have qm_f8 := qm.frozen 8
          have qm_c9 := qm.cell 9 rfl
          have qm_f9 := qm.frozen 9
          have qm_c10 := qm.cell 10 rfl
          have qm_f10 := qm.frozen 10
          have qm_c11 := qm.cell 11 rfl
          have qm_f11 := qm.frozen 11
          have qm_c12 := qm.cell 12 rfl
          have qm_f12 := qm.frozen 12
          have qm_c13 := qm.cell 13 rfl
          have qm_f13 := qm.frozen 13
          have zm := qm.lt
          go_wp2_with fail
          refine wp_region_held_drew (S := (fun w' => (∀ p : Addr, p.block < (w1).heap.size → w'.cell? p = (w1).cell? p) ∧ Below (w1).heap.size (w1) w')) (by kernel_rfl) ?hS97 (fun hHeld => ?rest97)
          case hS97 => ((try dsimp only); (((try go_split_ands); refine sn_of ?_; repeat' (first | with_reducible assumption | with_reducible exact Below.refl _ _ | with_reducible apply below_alloc | with_reducible apply below_drew1 | with_reducible apply below_drewN | (with_reducible apply below_step; with_reducible assumption) | (with_reducible apply below_sg2; (first | exact Nat.le_refl _ | (simp; done) | omega))))))
          case' rest97 => skip
          refine wpAnyH_take (i := 0) (oi := _) (v := ?v98) rfl (by kernel_rfl) (by kernel_rfl) (by kernel_rfl) (fun _ _ _ h => h) (Or.inl ⟨by rfl, ?hy98⟩) (by assumption) ?rest98
          case hy98 => ((intro w hSw; (try dsimp only at hSw); go_simp) <;> with_reducible rfl)
          case' rest98 => try simp only [List.getElem_toArray, List.getElem_cons_zero, List.getElem_cons_succ, Act.put, List.setIfInBounds_toArray, List.set_cons_zero, List.set_cons_succ]
          refine wpAnyH_take (i := 1) (oi := _) (v := ?v99) rfl (by kernel_rfl) (by kernel_rfl) (by kernel_rfl) (fun _ _ _ h => h) (Or.inl ⟨by rfl, ?hy99⟩) (by assumption) ?rest99
          case hy99 => ((intro w hSw; (try dsimp only at hSw); go_simp) <;> with_reducible rfl)
          case' rest99 => try simp only [List.getElem_toArray, List.getElem_cons_zero, List.getElem_cons_succ, Act.put, List.setIfInBounds_toArray, List.set_cons_zero, List.set_cons_succ]
          refine wpAnyH_take (i := 3) (oi := _) (v := ?v100) rfl (by kernel_rfl) (by kernel_rfl) (by kernel_rfl) (fun _ _ _ h => h) (Or.inl ⟨by rfl, ?hy100⟩) (by assumption) ?rest100
          case hy100 => ((intro w hSw; (try dsimp only at hSw); go_simp) <;> with_reducible rfl)
          case' rest100 => try simp only [List.getElem_toArray, List.getElem_cons_zero, List.getElem_cons_succ, Act.put, List.setIfInBounds_toArray, List.set_cons_zero, List.set_cons_succ]
          refine wpAnyH_take (i := 4) (oi := _) (v := ?v101) rfl (by kernel_rfl) (by kernel_rfl) (by kernel_rfl) (fun _ _ _ h => h) (Or.inl ⟨by rfl, ?hy101⟩) (by assumption) ?rest101
          case hy101 => ((intro w hSw; (try dsimp only at hSw); go_simp) <;> with_reducible rfl)
          case' rest101 => try simp only [List.getElem_toArray, List.getElem_cons_zero, List.getElem_cons_succ, Act.put, List.setIfInBounds_toArray, List.set_cons_zero, List.set_cons_succ]
          refine wpAnyH_take (i := 5) (oi := _) (v := ?v102) rfl (by kernel_rfl) (by kernel_rfl) (by kernel_rfl) (fun _ _ _ h => h) (Or.inl ⟨by rfl, ?hy102⟩) (by assumption) ?rest102
          case hy102 => ((intro w hSw; (try dsimp only at hSw); go_simp) <;> with_reducible rfl)
          case' rest102 => try simp only [List.getElem_toArray, List.getElem_cons_zero, List.getElem_cons_succ, Act.put, List.setIfInBounds_toArray, List.set_cons_zero, List.set_cons_succ]
          refine wpAnyH_take (i := 6) (oi := _) (v := ?v103) rfl (by kernel_rfl) (by kernel_rfl) (by kernel_rfl) (fun _ _ _ h => h) (Or.inl ⟨by rfl, ?hy103⟩) (by assumption) ?rest103
          case hy103 => ((intro w hSw; (try dsimp only at hSw); go_simp) <;> with_reducible rfl)
          case' rest103 => try simp only [List.getElem_toArray, List.getElem_cons_zero, List.getElem_cons_succ, Act.put, List.setIfInBounds_toArray, List.set_cons_zero, List.set_cons_succ]
          refine wpAnyH_take (i := 7) (oi := _) (v := ?v104) rfl (by kernel_rfl) (by kernel_rfl) (by kernel_rfl) (fun _ _ _ h => h) (Or.inl ⟨by rfl, ?hy104⟩) (by assumption) ?rest104
          case hy104 => ((intro w hSw; (try dsimp only at hSw); go_simp) <;> with_reducible rfl)
          case' rest104 => try simp only [List.getElem_toArray, List.getElem_cons_zero, List.getElem_cons_succ, Act.put, List.setIfInBounds_toArray, List.set_cons_zero, List.set_cons_succ]
          refine wpAnyH_take (i := 9) (oi := _) (v := ?v105) rfl (by kernel_rfl) (by kernel_rfl) (by kernel_rfl) (fun _ _ _ h => h) (Or.inl ⟨by rfl, ?hy105⟩) (by assumption) ?rest105
          case hy105 => ((intro w hSw; (try dsimp only at hSw); go_simp) <;> with_reducible rfl)
          case' rest105 => try simp only [List.getElem_toArray, List.getElem_cons_zero, List.getElem_cons_succ, Act.put, List.setIfInBounds_toArray, List.set_cons_zero, List.set_cons_succ]
          refine wpAnyH_take (i := 10) (oi := _) (v := ?v106) rfl (by kernel_rfl) (by kernel_rfl) (by kernel_rfl) (fun _ _ _ h => h) (Or.inl ⟨by rfl, ?hy106⟩) (by assumption) ?rest106
          case hy106 => ((intro w hSw; (try dsimp only at hSw); go_simp) <;> with_reducible rfl)
          case' rest106 => try simp only [List.getElem_toArray, List.getElem_cons_zero, List.getElem_cons_succ, Act.put, List.setIfInBounds_toArray, List.set_cons_zero, List.set_cons_succ]
          refine wpAnyH_ready (rs := [2]) (by kernel_rfl) (by simp) ?_
          refine AllReadyH.cons (o := _) rfl (fun K hK => ?_) AllReadyH.nil
          go_simp
          refine (rsd_flag _ 16 _).mono ?_
          rintro e w3 ⟨rfl, rfl⟩
          try dsimp only
          refine hK.out _ _ ?hS109 (fun hHeld => ?rest109)
          case hS109 => ((try dsimp only); (((try go_split_ands); refine sn_of ?_; repeat' (first | with_reducible assumption | with_reducible exact Below.refl _ _ | with_reducible apply below_alloc | with_reducible apply below_drew1 | with_reducible apply below_drewN | (with_reducible apply below_step; with_reducible assumption) | (with_reducible apply below_sg2; (first | exact Nat.le_refl _ | (simp; done) | omega))))))
          case' rest109 => (clear hK K; try simp only [List.getElem_toArray, List.getElem_cons_zero, List.getElem_cons_succ, Act.put, List.setIfInBounds_toArray, List.set_cons_zero, List.set_cons_succ])
          refine wpAnyH_take (i := 8) (oi := _) (v := ?v110) rfl (by kernel_rfl) (by kernel_rfl) (by kernel_rfl) (fun _ _ _ h => h) (Or.inl ⟨by rfl, ?hy110⟩) (by assumption) ?rest110
          case hy110 => ((intro w hSw; (try dsimp only at hSw); go_simp) <;> with_reducible rfl)
          case' rest110 => try simp only [List.getElem_toArray, List.getElem_cons_zero, List.getElem_cons_succ, Act.put, List.setIfInBounds_toArray, List.set_cons_zero, List.set_cons_succ]
          refine wpAnyH_ready (rs := [11]) (by kernel_rfl) (by simp) ?_
          refine AllReadyH.cons (o := _) rfl (fun K hK => ?_) AllReadyH.nil
          go_simp
          refine (rsd_flag _ 1 _).mono ?_
          rintro e w4 ⟨rfl, rfl⟩
          try dsimp only
          refine hK.out _ _ ?hS113 (fun hHeld => ?rest113)
          case hS113 => ((try dsimp only); (((try go_split_ands); refine sn_of ?_; repeat' (first | with_reducible assumption | with_reducible exact Below.refl _ _ | with_reducible apply below_alloc | with_reducible apply below_drew1 | with_reducible apply below_drewN | (with_reducible apply below_step; with_reducible assumption) | (with_reducible apply below_sg2; (first | exact Nat.le_refl _ | (simp; done) | omega))))))
          case' rest113 => (clear hK K; try simp only [List.getElem_toArray, List.getElem_cons_zero, List.getElem_cons_succ, Act.put, List.setIfInBounds_toArray, List.set_cons_zero, List.set_cons_succ])
          refine wpAnyH_ready (rs := [12]) (by kernel_rfl) (by simp) ?_
          refine AllReadyH.cons (o := _) rfl (fun K hK => ?_) AllReadyH.nil
          go_simp
          refine hK.out _ _ ?hS116 (fun hHeld => ?rest116)
          case hS116 => ((try dsimp only); (((try go_split_ands); refine sn_of ?_; repeat' (first | with_reducible assumption | with_reducible exact Below.refl _ _ | with_reducible apply below_alloc | with_reducible apply below_drew1 | with_reducible apply below_drewN | (with_reducible apply below_step; with_reducible assumption) | (with_reducible apply below_sg2; (first | exact Nat.le_refl _ | (simp; done) | omega))))))
          case' rest116 => (clear hK K; try simp only [List.getElem_toArray, List.getElem_cons_zero, List.getElem_cons_succ, Act.put, List.setIfInBounds_toArray, List.set_cons_zero, List.set_cons_succ])
          refine wpAnyH_ready (rs := [13]) (by kernel_rfl) (by simp) ?_
          refine AllReadyH.cons (o := _) rfl (fun K hK => ?_) AllReadyH.nil
          go_simp
          refine hK.out _ _ ?hS119 (fun hHeld => ?rest119)
          case hS119 => ((try dsimp only); (((try go_split_ands); refine sn_of ?_; repeat' (first | with_reducible assumption | with_reducible exact Below.refl _ _ | with_reducible apply below_alloc | with_reducible apply below_drew1 | with_reducible apply below_drewN | (with_reducible apply below_step; with_reducible assumption) | (with_reducible apply below_sg2; (first | exact Nat.le_refl _ | (simp; done) | omega))))))
          case' rest119 => (clear hK K; try simp only [List.getElem_toArray, List.getElem_cons_zero, List.getElem_cons_succ, Act.put, List.setIfInBounds_toArray, List.set_cons_zero, List.set_cons_succ])
          refine wpAnyH_done (by kernel_rfl) ?_ _
          have hEnd := hHeld.2
          repeat (clear hHeld)
          clear hEnd i1 i2 i2'
          have g0 := h0.drew
          go_wp2_with fail
          generalize w1.drew = W0 at *
          obtain ⟨W9, hrun, g9, _⟩ := rt_copy A n c 1 7 data g0.drew HN.out rfl (by omega) (hsW.out _ g0.drew.gr)
          refine wp_region_held_drew (S := (fun w' => w'.cell? ⟨w.heap.size, 9, none⟩ = some (.slice A n c))) (by kernel_rfl) ?hS121 (fun hHeld => ?rest121)
          case hS121 => ((try dsimp only); (exact g0.m.cell 9 rfl))
          case' rest121 => skip
          refine wpAnyH_take (i := 0) (oi := _) (v := ?v122) rfl (by kernel_rfl) (by kernel_rfl) (by kernel_rfl) (fun _ _ _ h => h) (Or.inl ⟨by rfl, ?hy122⟩) (by assumption) ?rest122
          case hy122 => ((intro w hSw; (try dsimp only at hSw); go_simp) <;> with_reducible rfl)
          case' rest122 => try simp only [List.getElem_toArray, List.getElem_cons_zero, List.getElem_cons_succ, Act.put, List.setIfInBounds_toArray, List.set_cons_zero, List.set_cons_succ]
          refine wpAnyH_take (i := 1) (oi := _) (v := ?v123) rfl (by kernel_rfl) (by kernel_rfl) (by kernel_rfl) (fun _ _ _ h => h) (Or.inl ⟨by rfl, ?hy123⟩) (by assumption) ?rest123
          case hy123 => ((intro w hSw; (try dsimp only at hSw); go_simp) <;> with_reducible rfl)
          case' rest123 => try simp only [List.getElem_toArray, List.getElem_cons_zero, List.getElem_cons_succ, Act.put, List.setIfInBounds_toArray, List.set_cons_zero, List.set_cons_succ]
          refine wpAnyH_take (i := 2) (oi := _) (v := ?v124) rfl (by kernel_rfl) (by kernel_rfl) (by kernel_rfl) (fun _ _ _ h => h) (Or.inl ⟨by rfl, ?hy124⟩) (by assumption) ?rest124
          case hy124 => ((intro w hSw; (try dsimp only at hSw); go_simp) <;> with_reducible rfl)
          case' rest124 => try simp only [List.getElem_toArray, List.getElem_cons_zero, List.getElem_cons_succ, Act.put, List.setIfInBounds_toArray, List.set_cons_zero, List.set_cons_succ]
          refine wpAnyH_take (i := 3) (oi := _) (v := ?v125) rfl (by kernel_rfl) (by kernel_rfl) (by kernel_rfl) (fun _ _ _ h => h) (Or.inl ⟨by rfl, ?hy125⟩) (by assumption) ?rest125
          case hy125 => ((intro w hSw; (try dsimp only at hSw); go_simp) <;> with_reducible rfl)
          case' rest125 => try simp only [List.getElem_toArray, List.getElem_cons_zero, List.getElem_cons_succ, Act.put, List.setIfInBounds_toArray, List.set_cons_zero, List.set_cons_succ]
          refine wpAnyH_ready (rs := [4]) (by kernel_rfl) (by simp) ?_
          refine AllReadyH.cons (o := _) rfl (fun K hK => ?_) AllReadyH.nil
          go_simp
          refine hK.out _ _ ?hS128 (fun hHeld => ?rest128)
          case hS128 => ((try dsimp only); (exact g9.m.cell 9 rfl))
          case' rest128 => (clear hK K; try simp only [List.getElem_toArray, List.getElem_cons_zero, List.getElem_cons_succ, Act.put, List.setIfInBounds_toArray, List.set_cons_zero, List.set_cons_succ])
          refine wpAnyH_done (by kernel_rfl) ?_ _
          repeat (clear hHeld)
          clear zm
          clear qm_c0 qm_f0 qm_c1 qm_f1 qm_c2 qm_f2 qm_c3 qm_f3 qm_c4 qm_f4 qm_c5 qm_f5 qm_c6 qm_f6 qm_c7 qm_f7 qm_c8 qm_f8 qm_c9 qm_f9 qm_c10 qm_f10 qm_c11 qm_f11 qm_c12 qm_f12 qm_c13 qm_f13
          clear qm
          go_wp2_with fail
          go_meet
          exact ⟨by simp [rfirB, plB, IntKind.wrap_i64] <;> first | rfl | omega, by simp [rplcB], by simpa [rbodL] using g9⟩
    · cases cr
      · cases sz
        · have qm := h0.m
          have qm_c0 := qm.cell 0 rfl
          have qm_f0 := qm.frozen 0
          have qm_c1 := qm.cell 1 rfl
          have qm_f1 := qm.frozen 1
          have qm_c2 := qm.cell 2 rfl
          have qm_f2 := qm.frozen 2
          have qm_c3 := qm.cell 3 rfl
          have qm_f3 := qm.frozen 3
          have qm_c4 := qm.cell 4 rfl
          have qm_f4 := qm.frozen 4
          have qm_c5 := qm.cell 5 rfl
          have qm_f5 := qm.frozen 5
          have qm_c6 := qm.cell 6 rfl
          have qm_f6 := qm.frozen 6
          have qm_c7 := qm.cell 7 rfl
          have qm_f7 := qm.frozen 7
          have qm_c8 := qm.cell 8 rfl
          have qm_f8 := qm.frozen 8
          have qm_c9 := qm.cell 9 rfl
          have qm_f9 := qm.frozen 9
          have qm_c10 := qm.cell 10 rfl
          have qm_f10 := qm.frozen 10
          have qm_c11 := qm.cell 11 rfl
          have qm_f11 := qm.frozen 11
          have qm_c12 := qm.cell 12 rfl
          have qm_f12 := qm.frozen 12
          have qm_c13 := qm.cell 13 rfl
          have qm_f13 := qm.frozen 13
          have zm := qm.lt
          go_wp2_with fail
          refine wp_region_held_drew (S := (fun w' => (∀ p : Addr, p.block < (w1).heap.size → w'.cell? p = (w1).cell? p) ∧ Below (w1).heap.size (w1) w')) (by kernel_rfl) ?hS129 (fun hHeld => ?rest129)
          case hS129 => ((try dsimp only); (((try go_split_ands); refine sn_of ?_; repeat' (first | with_reducible assumption | with_reducible exact Below.refl _ _ | with_reducible apply below_alloc | with_reducible apply below_drew1 | with_reducible apply below_drewN | (with_reducible apply below_step; with_reducible assumption) | (with_reducible apply below_sg2; (first | exact Nat.le_refl _ | (simp; done) | omega))))))
          case' rest129 => skip
          refine wpAnyH_take (i := 0) (oi := _) (v := ?v130) rfl (by kernel_rfl) (by kernel_rfl) (by kernel_rfl) (fun _ _ _ h => h) (Or.inl ⟨by rfl, ?hy130⟩) (by assumption) ?rest130
          case hy130 => ((intro w hSw; (try dsimp only at hSw); go_simp) <;> with_reducible rfl)
          case' rest130 => try simp only [List.getElem_toArray, List.getElem_cons_zero, List.getElem_cons_succ, Act.put, List.setIfInBounds_toArray, List.set_cons_zero, List.set_cons_succ]
          refine wpAnyH_take (i := 1) (oi := _) (v := ?v131) rfl (by kernel_rfl) (by kernel_rfl) (by kernel_rfl) (fun _ _ _ h => h) (Or.inl ⟨by rfl, ?hy131⟩) (by assumption) ?rest131
          case hy131 => ((intro w hSw; (try dsimp only at hSw); go_simp) <;> with_reducible rfl)
          case' rest131 => try simp only [List.getElem_toArray, List.getElem_cons_zero, List.getElem_cons_succ, Act.put, List.setIfInBounds_toArray, List.set_cons_zero, List.set_cons_succ]
          refine wpAnyH_take (i := 4) (oi := _) (v := ?v132) rfl (by kernel_rfl) (by kernel_rfl) (by kernel_rfl) (fun _ _ _ h => h) (Or.inl ⟨by rfl, ?hy132⟩) (by assumption) ?rest132
          case hy132 => ((intro w hSw; (try dsimp only at hSw); go_simp) <;> with_reducible rfl)
          case' rest132 => try simp only [List.getElem_toArray, List.getElem_cons_zero, List.getElem_cons_succ, Act.put, List.setIfInBounds_toArray, List.set_cons_zero, List.set_cons_succ]
          refine wpAnyH_take (i := 5) (oi := _) (v := ?v133) rfl (by kernel_rfl) (by kernel_rfl) (by kernel_rfl) (fun _ _ _ h => h) (Or.inl ⟨by rfl, ?hy133⟩) (by assumption) ?rest133
          case hy133 => ((intro w hSw; (try dsimp only at hSw); go_simp) <;> with_reducible rfl)
          case' rest133 => try simp only [List.getElem_toArray, List.getElem_cons_zero, List.getElem_cons_succ, Act.put, List.setIfInBounds_toArray, List.set_cons_zero, List.set_cons_succ]
          refine wpAnyH_ready (rs := [2]) (by kernel_rfl) (by simp) ?_
          refine AllReadyH.cons (o := _) rfl (fun K hK => ?_) AllReadyH.nil
          go_simp
          refine (rsd_flag _ 4 _).mono ?_
          rintro e w3 ⟨rfl, rfl⟩
          try dsimp only
          refine hK.out _ _ ?hS136 (fun hHeld => ?rest136)
          case hS136 => ((try dsimp only); (((try go_split_ands); refine sn_of ?_; repeat' (first | with_reducible assumption | with_reducible exact Below.refl _ _ | with_reducible apply below_alloc | with_reducible apply below_drew1 | with_reducible apply below_drewN | (with_reducible apply below_step; with_reducible assumption) | (with_reducible apply below_sg2; (first | exact Nat.le_refl _ | (simp; done) | omega))))))
          case' rest136 => (clear hK K; try simp only [List.getElem_toArray, List.getElem_cons_zero, List.getElem_cons_succ, Act.put, List.setIfInBounds_toArray, List.set_cons_zero, List.set_cons_succ])
          refine wpAnyH_take (i := 3) (oi := _) (v := ?v137) rfl (by kernel_rfl) (by kernel_rfl) (by kernel_rfl) (fun _ _ _ h => h) (Or.inl ⟨by rfl, ?hy137⟩) (by assumption) ?rest137
          case hy137 => ((intro w hSw; (try dsimp only at hSw); go_simp) <;> with_reducible rfl)
          case' rest137 => try simp only [List.getElem_toArray, List.getElem_cons_zero, List.getElem_cons_succ, Act.put, List.setIfInBounds_toArray, List.set_cons_zero, List.set_cons_succ]
          refine wpAnyH_ready (rs := [6]) (by kernel_rfl) (by simp) ?_
          refine AllReadyH.cons (o := _) rfl (fun K hK => ?_) AllReadyH.nil
          go_simp
          refine (rsd_flag _ 2 _).mono ?_
          rintro e w4 ⟨rfl, rfl⟩
          try dsimp only
          refine hK.out _ _ ?hS140 (fun hHeld => ?rest140)
          case hS140 => ((try dsimp only); (((try go_split_ands); refine sn_of ?_; repeat' (first | with_reducible assumption | with_reducible exact Below.refl _ _ | with_reducible apply below_alloc | with_reducible apply below_drew1 | with_reducible apply below_drewN | (with_reducible apply below_step; with_reducible assumption) | (with_reducible apply below_sg2; (first | exact Nat.le_refl _ | (simp; done) | omega))))))
          case' rest140 => (clear hK K; try simp only [List.getElem_toArray, List.getElem_cons_zero, List.getElem_cons_succ, Act.put, List.setIfInBounds_toArray, List.set_cons_zero, List.set_cons_succ])
          refine wpAnyH_ready (rs := [7]) (by kernel_rfl) (by simp) ?_
          refine AllReadyH.cons (o := _) rfl (fun K hK => ?_) AllReadyH.nil
          go_simp
          refine hK.out _ _ ?hS143 (fun hHeld => ?rest143)
          case hS143 => ((try dsimp only); (((try go_split_ands); refine sn_of ?_; repeat' (first | with_reducible assumption | with_reducible exact Below.refl _ _ | with_reducible apply below_alloc | with_reducible apply below_drew1 | with_reducible apply below_drewN | (with_reducible apply below_step; with_reducible assumption) | (with_reducible apply below_sg2; (first | exact Nat.le_refl _ | (simp; done) | omega))))))
          case' rest143 => (clear hK K; try simp only [List.getElem_toArray, List.getElem_cons_zero, List.getElem_cons_succ, Act.put, List.setIfInBounds_toArray, List.set_cons_zero, List.set_cons_succ])
          refine wpAnyH_ready (rs := [8]) (by kernel_rfl) (by simp) ?_
          refine AllReadyH.cons (o := _) rfl (fun K hK => ?_) AllReadyH.nil
          go_simp
          refine hK.out _ _ ?hS146 (fun hHeld => ?rest146)
          case hS146 => ((try dsimp only); (((try go_split_ands); refine sn_of ?_; repeat' (first | with_reducible assumption | with_reducible exact Below.refl _ _ | with_reducible apply below_alloc | with_reducible apply below_drew1 | with_reducible apply below_drewN | (with_reducible apply below_step; with_reducible assumption) | (with_reducible apply below_sg2; (first | exact Nat.le_refl _ | (simp; done) | omega))))))
          case' rest146 => (clear hK K; try simp only [List.getElem_toArray, List.getElem_cons_zero, List.getElem_cons_succ, Act.put, List.setIfInBounds_toArray, List.set_cons_zero, List.set_cons_succ])
          refine wpAnyH_done (by kernel_rfl) ?_ _
          have hEnd := hHeld.2
          repeat (clear hHeld)
          clear hEnd
          have g0 := h0.drew
          go_wp2_with fail
          refine (rt_put 4 4 size g0 (by omega) (by omega)).mono ?_
          rintro e W1 ⟨rfl, g1⟩
          clear zm
          clear qm_c0 qm_f0 qm_c1 qm_f1 qm_c2 qm_f2 qm_c3 qm_f3 qm_c4 qm_f4 qm_c5 qm_f5 qm_c6 qm_f6 qm_c7 qm_f7 qm_c8 qm_f8 qm_c9 qm_f9 qm_c10 qm_f10 qm_c11 qm_f11 qm_c12 qm_f12 qm_c13 qm_f13
          clear qm
          have qm := g1.m
          have qm_c0 := qm.cell 0 rfl
          have qm_f0 := qm.frozen 0
          have qm_c1 := qm.cell 1 rfl
          have qm_f1 := qm.frozen 1
          have qm_c2 := qm.cell 2 rfl
          have qm_f2 := qm.frozen 2
          have qm_c3 := qm.cell 3 rfl
          have qm_f3 := qm.frozen 3
          have qm_c4 := qm.cell 4 rfl
          have qm_f4 := qm.frozen 4
          have qm_c5 := qm.cell 5 rfl
          have qm_f5 := qm.frozen 5
          have qm_c6 := qm.cell 6 rfl
          have qm_f6 := qm.frozen 6
          have qm_c7 := qm.cell 7 rfl
          have qm_f7 := qm.frozen 7
          have qm_c8 := qm.cell 8 rfl
          have qm_f8 := qm.frozen 8
          have qm_c9 := qm.cell 9 rfl
          have qm_f9 := qm.frozen 9
          have qm_c10 := qm.cell 10 rfl
          have qm_f10 := qm.frozen 10
          have qm_c11 := qm.cell 11 rfl
          have qm_f11 := qm.frozen 11
          have qm_c12 := qm.cell 12 rfl
          have qm_f12 := qm.frozen 12
          have qm_c13 := qm.cell 13 rfl
          have qm_f13 := qm.frozen 13
          have zm := qm.lt
          go_wp2_with fail
          go_meet
          exact ⟨by simp [rfirB, plB] <;> first | rfl | omega, by simp [rplcB], by simpa [rbodL] using g1⟩
        · have qm := h0.m
          have qm_c0 := qm.cell 0 rfl
          have qm_f0 := qm.frozen 0
          have qm_c1 := qm.cell 1 rfl
          have qm_f1 := qm.frozen 1
          have qm_c2 := qm.cell 2 rfl
          have qm_f2 := qm.frozen 2
          have qm_c3 := qm.cell 3 rfl
          have qm_f3 := qm.frozen 3
          have qm_c4 := qm.cell 4 rfl
          have qm_f4 := qm.frozen 4
          have qm_c5 := qm.cell 5 rfl
          have qm_f5 := qm.frozen 5
          have qm_c6 := qm.cell 6 rfl
          have qm_f6 := qm.frozen 6
          have qm_c7 := qm.cell 7 rfl
          have qm_f7 := qm.frozen 7
          have qm_c8 := qm.cell 8 rfl
          have qm_f8 := qm.frozen 8
          have qm_c9 := qm.cell 9 rfl
          have qm_f9 := qm.frozen 9
          have qm_c10 := qm.cell 10 rfl
          have qm_f10 := qm.frozen 10
          have qm_c11 := qm.cell 11 rfl
          have qm_f11 := qm.frozen 11
          have qm_c12 := qm.cell 12 rfl
          have qm_f12 := qm.frozen 12
          have qm_c13 := qm.cell 13 rfl
          have qm_f13 := qm.frozen 13
          have zm := qm.lt
          go_wp2_with fail
          refine wp_region_held_drew (S := (fun w' => (∀ p : Addr, p.block < (w1).heap.size → w'.cell? p = (w1).cell? p) ∧ Below (w1).heap.size (w1) w')) (by kernel_rfl) ?hS148 (fun hHeld => ?rest148)
          case hS148 => ((try dsimp only); (((try go_split_ands); refine sn_of ?_; repeat' (first | with_reducible assumption | with_reducible exact Below.refl _ _ | with_reducible apply below_alloc | with_reducible apply below_drew1 | with_reducible apply below_drewN | (with_reducible apply below_step; with_reducible assumption) | (with_reducible apply below_sg2; (first | exact Nat.le_refl _ | (simp; done) | omega))))))
          case' rest148 => skip
          refine wpAnyH_take (i := 0) (oi := _) (v := ?v149) rfl (by kernel_rfl) (by kernel_rfl) (by kernel_rfl) (fun _ _ _ h => h) (Or.inl ⟨by rfl, ?hy149⟩) (by assumption) ?rest149
          case hy149 => ((intro w hSw; (try dsimp only at hSw); go_simp) <;> with_reducible rfl)
          case' rest149 => try simp only [List.getElem_toArray, List.getElem_cons_zero, List.getElem_cons_succ, Act.put, List.setIfInBounds_toArray, List.set_cons_zero, List.set_cons_succ]
          refine wpAnyH_take (i := 1) (oi := _) (v := ?v150) rfl (by kernel_rfl) (by kernel_rfl) (by kernel_rfl) (fun _ _ _ h => h) (Or.inl ⟨by rfl, ?hy150⟩) (by assumption) ?rest150
          case hy150 => ((intro w hSw; (try dsimp only at hSw); go_simp) <;> with_reducible rfl)
          case' rest150 => try simp only [List.getElem_toArray, List.getElem_cons_zero, List.getElem_cons_succ, Act.put, List.setIfInBounds_toArray, List.set_cons_zero, List.set_cons_succ]
          refine wpAnyH_take (i := 4) (oi := _) (v := ?v151) rfl (by kernel_rfl) (by kernel_rfl) (by kernel_rfl) (fun _ _ _ h => h) (Or.inl ⟨by rfl, ?hy151⟩) (by assumption) ?rest151
          case hy151 => ((intro w hSw; (try dsimp only at hSw); go_simp) <;> with_reducible rfl)
          case' rest151 => try simp only [List.getElem_toArray, List.getElem_cons_zero, List.getElem_cons_succ, Act.put, List.setIfInBounds_toArray, List.set_cons_zero, List.set_cons_succ]
          refine wpAnyH_take (i := 5) (oi := _) (v := ?v152) rfl (by kernel_rfl) (by kernel_rfl) (by kernel_rfl) (fun _ _ _ h => h) (Or.inl ⟨by rfl, ?hy152⟩) (by assumption) ?rest152
          case hy152 => ((intro w hSw; (try dsimp only at hSw); go_simp) <;> with_reducible rfl)
          case' rest152 => try simp only [List.getElem_toArray, List.getElem_cons_zero, List.getElem_cons_succ, Act.put, List.setIfInBounds_toArray, List.set_cons_zero, List.set_cons_succ]
          refine wpAnyH_ready (rs := [2]) (by kernel_rfl) (by simp) ?_
          refine AllReadyH.cons (o := _) rfl (fun K hK => ?_) AllReadyH.nil
          go_simp
          refine (rsd_flag _ 4 _).mono ?_
          rintro e w3 ⟨rfl, rfl⟩
          try dsimp only
          refine hK.out _ _ ?hS155 (fun hHeld => ?rest155)
          case hS155 => ((try dsimp only); (((try go_split_ands); refine sn_of ?_; repeat' (first | with_reducible assumption | with_reducible exact Below.refl _ _ | with_reducible apply below_alloc | with_reducible apply below_drew1 | with_reducible apply below_drewN | (with_reducible apply below_step; with_reducible assumption) | (with_reducible apply below_sg2; (first | exact Nat.le_refl _ | (simp; done) | omega))))))
          case' rest155 => (clear hK K; try simp only [List.getElem_toArray, List.getElem_cons_zero, List.getElem_cons_succ, Act.put, List.setIfInBounds_toArray, List.set_cons_zero, List.set_cons_succ])
          refine wpAnyH_take (i := 3) (oi := _) (v := ?v156) rfl (by kernel_rfl) (by kernel_rfl) (by kernel_rfl) (fun _ _ _ h => h) (Or.inl ⟨by rfl, ?hy156⟩) (by assumption) ?rest156
          case hy156 => ((intro w hSw; (try dsimp only at hSw); go_simp) <;> with_reducible rfl)
          case' rest156 => try simp only [List.getElem_toArray, List.getElem_cons_zero, List.getElem_cons_succ, Act.put, List.setIfInBounds_toArray, List.set_cons_zero, List.set_cons_succ]
          refine wpAnyH_ready (rs := [6]) (by kernel_rfl) (by simp) ?_
          refine AllReadyH.cons (o := _) rfl (fun K hK => ?_) AllReadyH.nil
          go_simp
          refine (rsd_flag _ 2 _).mono ?_
          rintro e w4 ⟨rfl, rfl⟩
          try dsimp only
          refine hK.out _ _ ?hS159 (fun hHeld => ?rest159)
          case hS159 => ((try dsimp only); (((try go_split_ands); refine sn_of ?_; repeat' (first | with_reducible assumption | with_reducible exact Below.refl _ _ | with_reducible apply below_alloc | with_reducible apply below_drew1 | with_reducible apply below_drewN | (with_reducible apply below_step; with_reducible assumption) | (with_reducible apply below_sg2; (first | exact Nat.le_refl _ | (simp; done) | omega))))))
          case' rest159 => (clear hK K; try simp only [List.getElem_toArray, List.getElem_cons_zero, List.getElem_cons_succ, Act.put, List.setIfInBounds_toArray, List.set_cons_zero, List.set_cons_succ])
          refine wpAnyH_ready (rs := [7]) (by kernel_rfl) (by simp) ?_
          refine AllReadyH.cons (o := _) rfl (fun K hK => ?_) AllReadyH.nil
          go_simp
          refine hK.out _ _ ?hS162 (fun hHeld => ?rest162)
          case hS162 => ((try dsimp only); (((try go_split_ands); refine sn_of ?_; repeat' (first | with_reducible assumption | with_reducible exact Below.refl _ _ | with_reducible apply below_alloc | with_reducible apply below_drew1 | with_reducible apply below_drewN | (with_reducible apply below_step; with_reducible assumption) | (with_reducible apply below_sg2; (first | exact Nat.le_refl _ | (simp; done) | omega))))))
          case' rest162 => (clear hK K; try simp only [List.getElem_toArray, List.getElem_cons_zero, List.getElem_cons_succ, Act.put, List.setIfInBounds_toArray, List.set_cons_zero, List.set_cons_succ])
          refine wpAnyH_ready (rs := [8]) (by kernel_rfl) (by simp) ?_
          refine AllReadyH.cons (o := _) rfl (fun K hK => ?_) AllReadyH.nil
          go_simp
          refine hK.out _ _ ?hS165 (fun hHeld => ?rest165)
          case hS165 => ((try dsimp only); (((try go_split_ands); refine sn_of ?_; repeat' (first | with_reducible assumption | with_reducible exact Below.refl _ _ | with_reducible apply below_alloc | with_reducible apply below_drew1 | with_reducible apply below_drewN | (with_reducible apply below_step; with_reducible assumption) | (with_reducible apply below_sg2; (first | exact Nat.le_refl _ | (simp; done) | omega))))))
          case' rest165 => (clear hK K; try simp only [List.getElem_toArray, List.getElem_cons_zero, List.getElem_cons_succ, Act.put, List.setIfInBounds_toArray, List.set_cons_zero, List.set_cons_succ])
          refine wpAnyH_done (by kernel_rfl) ?_ _
          have hEnd := hHeld.2
          repeat (clear hHeld)
          clear hEnd
          have g0 := h0.drew
          go_wp2_with fail
          refine (rt_put 4 4 size g0 (by omega) (by omega)).mono ?_
          rintro e W1 ⟨rfl, g1⟩
          clear zm
          clear qm_c0 qm_f0 qm_c1 qm_f1 qm_c2 qm_f2 qm_c3 qm_f3 qm_c4 qm_f4 qm_c5 qm_f5 qm_c6 qm_f6 qm_c7 qm_f7 qm_c8 qm_f8 qm_c9 qm_f9 qm_c10 qm_f10 qm_c11 qm_f11 qm_c12 qm_f12 qm_c13 qm_f13
          clear qm
          have qm := g1.m
          have qm_c0 := qm.cell 0 rfl
          have qm_f0 := qm.frozen 0
          have qm_c1 := qm.cell 1 rfl
          have qm_f1 := qm.frozen 1
          have qm_c2 := qm.cell 2 rfl
          have qm_f2 := qm.frozen 2
          have qm_c3 := qm.cell 3 rfl
          have qm_f3 := qm.frozen 3
          have qm_c4 := qm.cell 4 rfl
          have qm_f4 := qm.frozen 4
          have qm_c5 := qm.cell 5 rfl
          have qm_f5 := qm.frozen 5
          have qm_c6 := qm.cell 6 rfl
          have qm_f6 := qm.frozen 6
          have qm_c7 := qm.cell 7 rfl
          have qm_f7 := qm.frozen 7
          have qm_c8 := qm.cell 8 rfl
          have qm_f8 := qm.frozen 8
          have qm_c9 := qm.cell 9 rfl
          have qm_f9 := qm.frozen 9
          have qm_c10 := qm.cell 10 rfl
          have qm_f10 := qm.frozen 10
          have qm_c11 := qm.cell 11 rfl
          have qm_f11 := qm.frozen 11
          have qm_c12 := qm.cell 12 rfl
          have qm_f12 := qm.frozen 12
          have qm_c13 := qm.cell 13 rfl
          have qm_f13 := qm.frozen 13
          have zm := qm.lt
          go_wp2_with fail
          go_meet
          exact ⟨by simp [rfirB, plB] <;> first | rfl | omega, by simp [rplcB], by simpa [rbodL] using g1⟩
      · cases sz
        · have qm := h0.m
          have qm_c0 := qm.cell 0 rfl
          have qm_f0 := qm.frozen 0
          have qm_c1 := qm.cell 1 rfl
          have qm_f1 := qm.frozen 1
          have qm_c2 := qm.cell 2 rfl
          have qm_f2 := qm.frozen 2
          have qm_c3 := qm.cell 3 rfl
          have qm_f3 := qm.frozen 3
          have qm_c4 := qm.cell 4 rfl
          have qm_f4 := qm.frozen 4
          have qm_c5 := qm.cell 5 rfl
          have qm_f5 := qm.frozen 5
          have qm_c6 := qm.cell 6 rfl
          have qm_f6 := qm.frozen 6
          have qm_c7 := qm.cell 7 rfl
          have qm_f7 := qm.frozen 7
          have qm_c8 := qm.cell 8 rfl
          have qm_f8 := qm.frozen 8
          have qm_c9 := qm.cell 9 rfl
          have qm_f9 := qm.frozen 9
          have qm_c10 := qm.cell 10 rfl
          have qm_f10 := qm.frozen 10
          have qm_c11 := qm.cell 11 rfl
          have qm_f11 := qm.frozen 11
          have qm_c12 := qm.cell 12 rfl
          have qm_f12 := qm.frozen 12
          have qm_c13 := qm.cell 13 rfl
          have qm_f13 := qm.frozen 13
          have zm := qm.lt
          go_wp2_with fail
          refine wp_region_held_drew (S := (fun w' => (∀ p : Addr, p.block < (w1).heap.size → w'.cell? p = (w1).cell? p) ∧ Below (w1).heap.size (w1) w')) (by kernel_rfl) ?hS167 (fun hHeld => ?rest167)
          case hS167 => ((try dsimp only); (((try go_split_ands); refine sn_of ?_; repeat' (first | with_reducible assumption | with_reducible exact Below.refl _ _ | with_reducible apply below_alloc | with_reducible apply below_drew1 | with_reducible apply below_drewN | (with_reducible apply below_step; with_reducible assumption) | (with_reducible apply below_sg2; (first | exact Nat.le_refl _ | (simp; done) | omega))))))
          case' rest167 => skip
          refine wpAnyH_take (i := 0) (oi := _) (v := ?v168) rfl (by kernel_rfl) (by kernel_rfl) (by kernel_rfl) (fun _ _ _ h => h) (Or.inl ⟨by rfl, ?hy168⟩) (by assumption) ?rest168
          case hy168 => ((intro w hSw; (try dsimp only at hSw); go_simp) <;> with_reducible rfl)
          case' rest168 => try simp only [List.getElem_toArray, List.getElem_cons_zero, List.getElem_cons_succ, Act.put, List.setIfInBounds_toArray, List.set_cons_zero, List.set_cons_succ]
          refine wpAnyH_take (i := 1) (oi := _) (v := ?v169) rfl (by kernel_rfl) (by kernel_rfl) (by kernel_rfl) (fun _ _ _ h => h) (Or.inl ⟨by rfl, ?hy169⟩) (by assumption) ?rest169
          case hy169 => ((intro w hSw; (try dsimp only at hSw); go_simp) <;> with_reducible rfl)
          case' rest169 => try simp only [List.getElem_toArray, List.getElem_cons_zero, List.getElem_cons_succ, Act.put, List.setIfInBounds_toArray, List.set_cons_zero, List.set_cons_succ]
          refine wpAnyH_take (i := 4) (oi := _) (v := ?v170) rfl (by kernel_rfl) (by kernel_rfl) (by kernel_rfl) (fun _ _ _ h => h) (Or.inl ⟨by rfl, ?hy170⟩) (by assumption) ?rest170
          case hy170 => ((intro w hSw; (try dsimp only at hSw); go_simp) <;> with_reducible rfl)
          case' rest170 => try simp only [List.getElem_toArray, List.getElem_cons_zero, List.getElem_cons_succ, Act.put, List.setIfInBounds_toArray, List.set_cons_zero, List.set_cons_succ]
          refine wpAnyH_take (i := 5) (oi := _) (v := ?v171) rfl (by kernel_rfl) (by kernel_rfl) (by kernel_rfl) (fun _ _ _ h => h) (Or.inl ⟨by rfl, ?hy171⟩) (by assumption) ?rest171
          case hy171 => ((intro w hSw; (try dsimp only at hSw); go_simp) <;> with_reducible rfl)
          case' rest171 => try simp only [List.getElem_toArray, List.getElem_cons_zero, List.getElem_cons_succ, Act.put, List.setIfInBounds_toArray, List.set_cons_zero, List.set_cons_succ]
          refine wpAnyH_ready (rs := [2]) (by kernel_rfl) (by simp) ?_
          refine AllReadyH.cons (o := _) rfl (fun K hK => ?_) AllReadyH.nil
          go_simp
          refine (rsd_flag _ 4 _).mono ?_
          rintro e w3 ⟨rfl, rfl⟩
          try dsimp only
          refine hK.out _ _ ?hS174 (fun hHeld => ?rest174)
          case hS174 => ((try dsimp only); (((try go_split_ands); refine sn_of ?_; repeat' (first | with_reducible assumption | with_reducible exact Below.refl _ _ | with_reducible apply below_alloc | with_reducible apply below_drew1 | with_reducible apply below_drewN | (with_reducible apply below_step; with_reducible assumption) | (with_reducible apply below_sg2; (first | exact Nat.le_refl _ | (simp; done) | omega))))))
          case' rest174 => (clear hK K; try simp only [List.getElem_toArray, List.getElem_cons_zero, List.getElem_cons_succ, Act.put, List.setIfInBounds_toArray, List.set_cons_zero, List.set_cons_succ])
          refine wpAnyH_take (i := 3) (oi := _) (v := ?v175) rfl (by kernel_rfl) (by kernel_rfl) (by kernel_rfl) (fun _ _ _ h => h) (Or.inl ⟨by rfl, ?hy175⟩) (by assumption) ?rest175
          case hy175 => ((intro w hSw; (try dsimp only at hSw); go_simp) <;> with_reducible rfl)
          case' rest175 => try simp only [List.getElem_toArray, List.getElem_cons_zero, List.getElem_cons_succ, Act.put, List.setIfInBounds_toArray, List.set_cons_zero, List.set_cons_succ]
          refine wpAnyH_ready (rs := [6]) (by kernel_rfl) (by simp) ?_
          refine AllReadyH.cons (o := _) rfl (fun K hK => ?_) AllReadyH.nil
          go_simp
          refine (rsd_flag _ 2 _).mono ?_
          rintro e w4 ⟨rfl, rfl⟩
          try dsimp only
          refine hK.out _ _ ?hS178 (fun hHeld => ?rest178)
          case hS178 => ((try dsimp only); (((try go_split_ands); refine sn_of ?_; repeat' (first | with_reducible assumption | with_reducible exact Below.refl _ _ | with_reducible apply below_alloc | with_reducible apply below_drew1 | with_reducible apply below_drewN | (with_reducible apply below_step; with_reducible assumption) | (with_reducible apply below_sg2; (first | exact Nat.le_refl _ | (simp; done) | omega))))))
          case' rest178 => (clear hK K; try simp only [List.getElem_toArray, List.getElem_cons_zero, List.getElem_cons_succ, Act.put, List.setIfInBounds_toArray, List.set_cons_zero, List.set_cons_succ])
          refine wpAnyH_ready (rs := [7]) (by kernel_rfl) (by simp) ?_
          refine AllReadyH.cons (o := _) rfl (fun K hK => ?_) AllReadyH.nil
          go_simp
          refine hK.out _ _ ?hS181 (fun hHeld => ?rest181)
          case hS181 => ((try dsimp only); (((try go_split_ands); refine sn_of ?_; repeat' (first | with_reducible assumption | with_reducible exact Below.refl _ _ | with_reducible apply below_alloc | with_reducible apply below_drew1 | with_reducible apply below_drewN | (with_reducible apply below_step; with_reducible assumption) | (with_reducible apply below_sg2; (first | exact Nat.le_refl _ | (simp; done) | omega))))))
          case' rest181 => (clear hK K; try simp only [List.getElem_toArray, List.getElem_cons_zero, List.getElem_cons_succ, Act.put, List.setIfInBounds_toArray, List.set_cons_zero, List.set_cons_succ])
          refine wpAnyH_ready (rs := [8]) (by kernel_rfl) (by simp) ?_
          refine AllReadyH.cons (o := _) rfl (fun K hK => ?_) AllReadyH.nil
          go_simp
          refine hK.out _ _ ?hS184 (fun hHeld => ?rest184)
          case hS184 => ((try dsimp only); (((try go_split_ands); refine sn_of ?_; repeat' (first | with_reducible assumption | with_reducible exact Below.refl _ _ | with_reducible apply below_alloc | with_reducible apply below_drew1 | with_reducible apply below_drewN | (with_reducible apply below_step; with_reducible assumption) | (with_reducible apply below_sg2; (first | exact Nat.le_refl _ | (simp; done) | omega))))))
          case' rest184 => (clear hK K; try simp only [List.getElem_toArray, List.getElem_cons_zero, List.getElem_cons_succ, Act.put, List.setIfInBounds_toArray, List.set_cons_zero, List.set_cons_succ])
          refine wpAnyH_done (by kernel_rfl) ?_ _
          have hEnd := hHeld.2
          repeat (clear hHeld)
          clear hEnd
          have g0 := h0.drew
          go_wp2_with fail
          refine (rt_put 4 4 size g0 (by omega) (by omega)).mono ?_
          rintro e W1 ⟨rfl, g1⟩
          clear zm
          clear qm_c0 qm_f0 qm_c1 qm_f1 qm_c2 qm_f2 qm_c3 qm_f3 qm_c4 qm_f4 qm_c5 qm_f5 qm_c6 qm_f6 qm_c7 qm_f7 qm_c8 qm_f8 qm_c9 qm_f9 qm_c10 qm_f10 qm_c11 qm_f11 qm_c12 qm_f12 qm_c13 qm_f13
          clear qm
          have qm := g1.m
          have qm_c0 := qm.cell 0 rfl
          have qm_f0 := qm.frozen 0
          have qm_c1 := qm.cell 1 rfl
          have qm_f1 := qm.frozen 1
          have qm_c2 := qm.cell 2 rfl
          have qm_f2 := qm.frozen 2
          have qm_c3 := qm.cell 3 rfl
          have qm_f3 := qm.frozen 3
          have qm_c4 := qm.cell 4 rfl
          have qm_f4 := qm.frozen 4
          have qm_c5 := qm.cell 5 rfl
          have qm_f5 := qm.frozen 5
          have qm_c6 := qm.cell 6 rfl
          have qm_f6 := qm.frozen 6
          have qm_c7 := qm.cell 7 rfl
          have qm_f7 := qm.frozen 7
          have qm_c8 := qm.cell 8 rfl
          have qm_f8 := qm.frozen 8
          have qm_c9 := qm.cell 9 rfl
          have qm_f9 := qm.frozen 9
          have qm_c10 := qm.cell 10 rfl
          have qm_f10 := qm.frozen 10
          have qm_c11 := qm.cell 11 rfl
          have qm_f11 := qm.frozen 11
          have qm_c12 := qm.cell 12 rfl
          have qm_f12 := qm.frozen 12
          have qm_c13 := qm.cell 13 rfl
          have qm_f13 := qm.frozen 13
          have zm := qm.lt
          go_wp2_with fail
          go_meet
          exact ⟨by simp [rfirB, plB] <;> first | rfl | omega, by simp [rplcB], by simpa [rbodL] using g1⟩
        · have qm := h0.m
          have qm_c0 := qm.cell 0 rfl
          have qm_f0 := qm.frozen 0
          have qm_c1 := qm.cell 1 rfl
          have qm_f1 := qm.frozen 1
          have qm_c2 := qm.cell 2 rfl
          have qm_f2 := qm.frozen 2
          have qm_c3 := qm.cell 3 rfl
          have qm_f3 := qm.frozen 3
          have qm_c4 := qm.cell 4 rfl
          have qm_f4 := qm.frozen 4
          have qm_c5 := qm.cell 5 rfl
          have qm_f5 := qm.frozen 5
          have qm_c6 := qm.cell 6 rfl
          have qm_f6 := qm.frozen 6
          have qm_c7 := qm.cell 7 rfl
          have qm_f7 := qm.frozen 7
          have qm_c8 := qm.cell 8 rfl
          have qm_f8 := qm.frozen 8
          have qm_c9 := qm.cell 9 rfl
          have qm_f9 := qm.frozen 9
          have qm_c10 := qm.cell 10 rfl
          have qm_f10 := qm.frozen 10
          have qm_c11 := qm.cell 11 rfl
          have qm_f11 := qm.frozen 11
          have qm_c12 := qm.cell 12 rfl
          have qm_f12 := qm.frozen 12
          have qm_c13 := qm.cell 13 rfl
          have qm_f13 := qm.frozen 13
          have zm := qm.lt
          go_wp2_with fail
          refine wp_region_held_drew (S := (fun w' => (∀ p : Addr, p.block < (w1).heap.size → w'.cell? p = (w1).cell? p) ∧ Below (w1).heap.size (w1) w')) (by kernel_rfl) ?hS186 (fun hHeld => ?rest186)
          case hS186 => ((try dsimp only); (((try go_split_ands); refine sn_of ?_; repeat' (first | with_reducible assumption | with_reducible exact Below.refl _ _ | with_reducible apply below_alloc | with_reducible apply below_drew1 | with_reducible apply below_drewN | (with_reducible apply below_step; with_reducible assumption) | (with_reducible apply below_sg2; (first | exact Nat.le_refl _ | (simp; done) | omega))))))
          case' rest186 => skip
          refine wpAnyH_take (i := 0) (oi := _) (v := ?v187) rfl (by kernel_rfl) (by kernel_rfl) (by kernel_rfl) (fun _ _ _ h => h) (Or.inl ⟨by rfl, ?hy187⟩) (by assumption) ?rest187
          case hy187 => ((intro w hSw; (try dsimp only at hSw); go_simp) <;> with_reducible rfl)
          case' rest187 => try simp only [List.getElem_toArray, List.getElem_cons_zero, List.getElem_cons_succ, Act.put, List.setIfInBounds_toArray, List.set_cons_zero, List.set_cons_succ]
          refine wpAnyH_take (i := 1) (oi := _) (v := ?v188) rfl (by kernel_rfl) (by kernel_rfl) (by kernel_rfl) (fun _ _ _ h => h) (Or.inl ⟨by rfl, ?hy188⟩) (by assumption) ?rest188
          case hy188 => ((intro w hSw; (try dsimp only at hSw); go_simp) <;> with_reducible rfl)
          case' rest188 => try simp only [List.getElem_toArray, List.getElem_cons_zero, List.getElem_cons_succ, Act.put, List.setIfInBounds_toArray, List.set_cons_zero, List.set_cons_succ]
          refine wpAnyH_take (i := 4) (oi := _) (v := ?v189) rfl (by kernel_rfl) (by kernel_rfl) (by kernel_rfl) (fun _ _ _ h => h) (Or.inl ⟨by rfl, ?hy189⟩) (by assumption) ?rest189
          case hy189 => ((intro w hSw; (try dsimp only at hSw); go_simp) <;> with_reducible rfl)
          case' rest189 => try simp only [List.getElem_toArray, List.getElem_cons_zero, List.getElem_cons_succ, Act.put, List.setIfInBounds_toArray, List.set_cons_zero, List.set_cons_succ]
          refine wpAnyH_take (i := 5) (oi := _) (v := ?v190) rfl (by kernel_rfl) (by kernel_rfl) (by kernel_rfl) (fun _ _ _ h => h) (Or.inl ⟨by rfl, ?hy190⟩) (by assumption) ?rest190
          case hy190 => ((intro w hSw; (try dsimp only at hSw); go_simp) <;> with_reducible rfl)
          case' rest190 => try simp only [List.getElem_toArray, List.getElem_cons_zero, List.getElem_cons_succ, Act.put, List.setIfInBounds_toArray, List.set_cons_zero, List.set_cons_succ]
          refine wpAnyH_ready (rs := [2]) (by kernel_rfl) (by simp) ?_
          refine AllReadyH.cons (o := _) rfl (fun K hK => ?_) AllReadyH.nil
          go_simp
          refine (rsd_flag _ 4 _).mono ?_
          rintro e w3 ⟨rfl, rfl⟩
          try dsimp only
          refine hK.out _ _ ?hS193 (fun hHeld => ?rest193)
          case hS193 => ((try dsimp only); (((try go_split_ands); refine sn_of ?_; repeat' (first | with_reducible assumption | with_reducible exact Below.refl _ _ | with_reducible apply below_alloc | with_reducible apply below_drew1 | with_reducible apply below_drewN | (with_reducible apply below_step; with_reducible assumption) | (with_reducible apply below_sg2; (first | exact Nat.le_refl _ | (simp; done) | omega))))))
          case' rest193 => (clear hK K; try simp only [List.getElem_toArray, List.getElem_cons_zero, List.getElem_cons_succ, Act.put, List.setIfInBounds_toArray, List.set_cons_zero, List.set_cons_succ])
          refine wpAnyH_take (i := 3) (oi := _) (v := ?v194) rfl (by kernel_rfl) (by kernel_rfl) (by kernel_rfl) (fun _ _ _ h => h) (Or.inl ⟨by rfl, ?hy194⟩) (by assumption) ?rest194
          case hy194 => ((intro w hSw; (try dsimp only at hSw); go_simp) <;> with_reducible rfl)
          case' rest194 => try simp only [List.getElem_toArray, List.getElem_cons_zero, List.getElem_cons_succ, Act.put, List.setIfInBounds_toArray, List.set_cons_zero, List.set_cons_succ]
          refine wpAnyH_ready (rs := [6]) (by kernel_rfl) (by simp) ?_
          refine AllReadyH.cons (o := _) rfl (fun K hK => ?_) AllReadyH.nil
          go_simp
          refine (rsd_flag _ 2 _).mono ?_
          rintro e w4 ⟨rfl, rfl⟩
          try dsimp only
          refine hK.out _ _ ?hS197 (fun hHeld => ?rest197)
          case hS197 => ((try dsimp only); (((try go_split_ands); refine sn_of ?_; repeat' (first | with_reducible assumption | with_reducible exact Below.refl _ _ | with_reducible apply below_alloc | with_reducible apply below_drew1 | with_reducible apply below_drewN | (with_reducible apply below_step; with_reducible assumption) | (with_reducible apply below_sg2; (first | exact Nat.le_refl _ | (simp; done) | omega))))))
          case' rest197 => (clear hK K; try simp only [List.getElem_toArray, List.getElem_cons_zero, List.getElem_cons_succ, Act.put, List.setIfInBounds_toArray, List.set_cons_zero, List.set_cons_succ])
          refine wpAnyH_ready (rs := [7]) (by kernel_rfl) (by simp) ?_
          refine AllReadyH.cons (o := _) rfl (fun K hK => ?_) AllReadyH.nil
          go_simp
          refine hK.out _ _ ?hS200 (fun hHeld => ?rest200)
          case hS200 => ((try dsimp only); (((try go_split_ands); refine sn_of ?_; repeat' (first | with_reducible assumption | with_reducible exact Below.refl _ _ | with_reducible apply below_alloc | with_reducible apply below_drew1 | with_reducible apply below_drewN | (with_reducible apply below_step; with_reducible assumption) | (with_reducible apply below_sg2; (first | exact Nat.le_refl _ | (simp; done) | omega))))))
          case' rest200 => (clear hK K; try simp only [List.getElem_toArray, List.getElem_cons_zero, List.getElem_cons_succ, Act.put, List.setIfInBounds_toArray, List.set_cons_zero, List.set_cons_succ])
          refine wpAnyH_ready (rs := [8]) (by kernel_rfl) (by simp) ?_
          refine AllReadyH.cons (o := _) rfl (fun K hK => ?_) AllReadyH.nil
          go_simp
          refine hK.out _ _ ?hS203 (fun hHeld => ?rest203)
          case hS203 => ((try dsimp only); (((try go_split_ands); refine sn_of ?_; repeat' (first | with_reducible assumption | with_reducible exact Below.refl _ _ | with_reducible apply below_alloc | with_reducible apply below_drew1 | with_reducible apply below_drewN | (with_reducible apply below_step; with_reducible assumption) | (with_reducible apply below_sg2; (first | exact Nat.le_refl _ | (simp; done) | omega))))))
          case' rest203 => (clear hK K; try simp only [List.getElem_toArray, List.getElem_cons_zero, List.getElem_cons_succ, Act.put, List.setIfInBounds_toArray, List.set_cons_zero, List.set_cons_succ])
          refine wpAnyH_done (by kernel_rfl) ?_ _
          have hEnd := hHeld.2
          repeat (clear hHeld)
          clear hEnd
          have g0 := h0.drew
          go_wp2_with fail
          refine (rt_put 4 4 size g0 (by omega) (by omega)).mono ?_
          rintro e W1 ⟨rfl, g1⟩
          clear zm
          clear qm_c0 qm_f0 qm_c1 qm_f1 qm_c2 qm_f2 qm_c3 qm_f3 qm_c4 qm_f4 qm_c5 qm_f5 qm_c6 qm_f6 qm_c7 qm_f7 qm_c8 qm_f8 qm_c9 qm_f9 qm_c10 qm_f10 qm_c11 qm_f11 qm_c12 qm_f12 qm_c13 qm_f13
          clear qm
          have qm := g1.m
          have qm_c0 := qm.cell 0 rfl
          have qm_f0 := qm.frozen 0
          have qm_c1 := qm.cell 1 rfl
          have qm_f1 := qm.frozen 1
          have qm_c2 := qm.cell 2 rfl
          have qm_f2 := qm.frozen 2
          have qm_c3 := qm.cell 3 rfl
          have qm_f3 := qm.frozen 3
          have qm_c4 := qm.cell 4 rfl
          have qm_f4 := qm.frozen 4
          have qm_c5 := qm.cell 5 rfl
          have qm_f5 := qm.frozen 5
          have qm_c6 := qm.cell 6 rfl
          have qm_f6 := qm.frozen 6
          have qm_c7 := qm.cell 7 rfl
          have qm_f7 := qm.frozen 7
          have qm_c8 := qm.cell 8 rfl
          have qm_f8 := qm.frozen 8
          have qm_c9 := qm.cell 9 rfl
          have qm_f9 := qm.frozen 9
          have qm_c10 := qm.cell 10 rfl
          have qm_f10 := qm.frozen 10
          have qm_c11 := qm.cell 11 rfl
          have qm_f11 := qm.frozen 11
          have qm_c12 := qm.cell 12 rfl
          have qm_f12 := qm.frozen 12
          have qm_c13 := qm.cell 13 rfl
          have qm_f13 := qm.frozen 13
          have zm := qm.lt
          go_wp2_with fail
          go_meet
          exact ⟨by simp [rfirB, plB] <;> first | rfl | omega, by simp [rplcB], by simpa [rbodL] using g1⟩
    · have qm := h0.m
      have qm_c0 := qm.cell 0 rfl
      have qm_f0 := qm.frozen 0
      have qm_c1 := qm.cell 1 rfl
      have qm_f1 := qm.frozen 1
      have qm_c2 := qm.cell 2 rfl
      have qm_f2 := qm.frozen 2
      have qm_c3 := qm.cell 3 rfl
      have qm_f3 := qm.frozen 3
      have qm_c4 := qm.cell 4 rfl
      have qm_f4 := qm.frozen 4
      have qm_c5 := qm.cell 5 rfl
      have qm_f5 := qm.frozen 5
      have qm_c6 := qm.cell 6 rfl
      have qm_f6 := qm.frozen 6
      have qm_c7 := qm.cell 7 rfl
      have qm_f7 := qm.frozen 7
      have qm_c8 := qm.cell 8 rfl
      have qm_f8 := qm.frozen 8
      have qm_c9 := qm.cell 9 rfl
      have qm_f9 := qm.frozen 9
      have qm_c10 := qm.cell 10 rfl
      have qm_f10 := qm.frozen 10
      have qm_c11 := qm.cell 11 rfl
      have qm_f11 := qm.frozen 11
      have qm_c12 := qm.cell 12 rfl
      have qm_f12 := qm.frozen 12
      have qm_c13 := qm.cell 13 rfl
      have qm_f13 := qm.frozen 13
      have zm := qm.lt
      go_wp2_with fail
      refine (rsd_later20 ix sub sq bl em size code sum n c tg la cr sz A data (w.heap.size + 1) (w.heap.size + 1) _ hu3 D2 C2 E2 HN.out hn7 (hsW.out _ h0.gr) h0.b hlt1).mono ?_
      rintro e W1 ⟨rfl, hb, hg⟩
      clear zm
      clear qm_c0 qm_f0 qm_c1 qm_f1 qm_c2 qm_f2 qm_c3 qm_f3 qm_c4 qm_f4 qm_c5 qm_f5 qm_c6 qm_f6 qm_c7 qm_f7 qm_c8 qm_f8 qm_c9 qm_f9 qm_c10 qm_f10 qm_c11 qm_f11 qm_c12 qm_f12 qm_c13 qm_f13
      clear qm
      have g1 := h0.step hb (by simp [putL_len, cpL, z8]; try omega) hg
      have qm := g1.m
      have qm_c0 := qm.cell 0 rfl
      have qm_f0 := qm.frozen 0
      have qm_c1 := qm.cell 1 rfl
      have qm_f1 := qm.frozen 1
      have qm_c2 := qm.cell 2 rfl
      have qm_f2 := qm.frozen 2
      have qm_c3 := qm.cell 3 rfl
      have qm_f3 := qm.frozen 3
      have qm_c4 := qm.cell 4 rfl
      have qm_f4 := qm.frozen 4
      have qm_c5 := qm.cell 5 rfl
      have qm_f5 := qm.frozen 5
      have qm_c6 := qm.cell 6 rfl
      have qm_f6 := qm.frozen 6
      have qm_c7 := qm.cell 7 rfl
      have qm_f7 := qm.frozen 7
      have qm_c8 := qm.cell 8 rfl
      have qm_f8 := qm.frozen 8
      have qm_c9 := qm.cell 9 rfl
      have qm_f9 := qm.frozen 9
      have qm_c10 := qm.cell 10 rfl
      have qm_f10 := qm.frozen 10
      have qm_c11 := qm.cell 11 rfl
      have qm_f11 := qm.frozen 11
      have qm_c12 := qm.cell 12 rfl
      have qm_f12 := qm.frozen 12
      have qm_c13 := qm.cell 13 rfl
      have qm_f13 := qm.frozen 13
      have zm := qm.lt
      go_wp2_with fail
      go_meet
      exact ⟨by simp [rfirB, plB] <;> first | rfl | omega, by simp [rplcB], by simpa [rbodL] using g1⟩
    · have qm := h0.m
      have qm_c0 := qm.cell 0 rfl
      have qm_f0 := qm.frozen 0
      have qm_c1 := qm.cell 1 rfl
      have qm_f1 := qm.frozen 1
      have qm_c2 := qm.cell 2 rfl
      have qm_f2 := qm.frozen 2
      have qm_c3 := qm.cell 3 rfl
      have qm_f3 := qm.frozen 3
      have qm_c4 := qm.cell 4 rfl
      have qm_f4 := qm.frozen 4
      have qm_c5 := qm.cell 5 rfl
      have qm_f5 := qm.frozen 5
      have qm_c6 := qm.cell 6 rfl
      have qm_f6 := qm.frozen 6
      have qm_c7 := qm.cell 7 rfl
      have qm_f7 := qm.frozen 7
      have qm_c8 := qm.cell 8 rfl
      have qm_f8 := qm.frozen 8
      have qm_c9 := qm.cell 9 rfl
      have qm_f9 := qm.frozen 9
      have qm_c10 := qm.cell 10 rfl
      have qm_f10 := qm.frozen 10
      have qm_c11 := qm.cell 11 rfl
      have qm_f11 := qm.frozen 11
      have qm_c12 := qm.cell 12 rfl
      have qm_f12 := qm.frozen 12
      have qm_c13 := qm.cell 13 rfl
      have qm_f13 := qm.frozen 13
      have zm := qm.lt
      go_wp2_with fail
      refine (rsd_later21 ix sub sq bl em size code sum n c tg la cr sz A data (w.heap.size + 1) (w.heap.size + 1) _ hu3 D2 C2 E2 HN.out hn7 (hsW.out _ h0.gr) h0.b hlt1).mono ?_
      rintro e W1 ⟨rfl, hb, hg⟩
      clear zm
      clear qm_c0 qm_f0 qm_c1 qm_f1 qm_c2 qm_f2 qm_c3 qm_f3 qm_c4 qm_f4 qm_c5 qm_f5 qm_c6 qm_f6 qm_c7 qm_f7 qm_c8 qm_f8 qm_c9 qm_f9 qm_c10 qm_f10 qm_c11 qm_f11 qm_c12 qm_f12 qm_c13 qm_f13
      clear qm
      have g1 := h0.step hb (by rw [cp_len _ _ _ (by have := HN.out; simp [z8]; omega)]; rfl) hg
      have qm := g1.m
      have qm_c0 := qm.cell 0 rfl
      have qm_f0 := qm.frozen 0
      have qm_c1 := qm.cell 1 rfl
      have qm_f1 := qm.frozen 1
      have qm_c2 := qm.cell 2 rfl
      have qm_f2 := qm.frozen 2
      have qm_c3 := qm.cell 3 rfl
      have qm_f3 := qm.frozen 3
      have qm_c4 := qm.cell 4 rfl
      have qm_f4 := qm.frozen 4
      have qm_c5 := qm.cell 5 rfl
      have qm_f5 := qm.frozen 5
      have qm_c6 := qm.cell 6 rfl
      have qm_f6 := qm.frozen 6
      have qm_c7 := qm.cell 7 rfl
      have qm_f7 := qm.frozen 7
      have qm_c8 := qm.cell 8 rfl
      have qm_f8 := qm.frozen 8
      have qm_c9 := qm.cell 9 rfl
      have qm_f9 := qm.frozen 9
      have qm_c10 := qm.cell 10 rfl
      have qm_f10 := qm.frozen 10
      have qm_c11 := qm.cell 11 rfl
      have qm_f11 := qm.frozen 11
      have qm_c12 := qm.cell 12 rfl
      have qm_f12 := qm.frozen 12
      have qm_c13 := qm.cell 13 rfl
      have qm_f13 := qm.frozen 13
      have zm := qm.lt
      go_wp2_with fail
      go_meet
      exact ⟨by simp [rfirB, plB] <;> first | rfl | omega, by simp [rplcB], by simpa [rbodL] using g1⟩
  case rest =>
    obtain ⟨rfl, rfl, h1⟩ := hcut
    clear h0 hlt1
    obtain ⟨x, hx⟩ : ∃ x, x = rfirB kind n tg la cr sz sq em := ⟨_, rfl⟩
    obtain ⟨l, hl⟩ : ∃ l, l = rbodL kind n size code sq bl sum data := ⟨_, rfl⟩
    obtain ⟨pb, hpb⟩ : ∃ b, b = rplcB kind := ⟨_, rfl⟩
    rw [← hl] at h1
    rw [← hx, ← hpb]
    have HLL : Hid (rlaidL kind n ix sub size code sq bl em sum tg la cr sz data = if pb = true then (putL (l.set 0 (UInt8.ofNat x)) 1 2 ix).set 3 (UInt8.ofNat sub) else l.set 0 (UInt8.ofNat x)) := hide (by rw [hx, hl, hpb]; rfl)
    clear hx hl hpb
    obtain ⟨v0, k0, j0⟩ := h1.b.at8 0 (by omega)
    have h2 := h1.byte 0 (UInt8.ofNat x)
    rw [← mod_byte] at h2
    have qm := h1.m
    have qm_c0 := qm.cell 0 rfl
    have qm_f0 := qm.frozen 0
    have qm_c1 := qm.cell 1 rfl
    have qm_f1 := qm.frozen 1
    have qm_c2 := qm.cell 2 rfl
    have qm_f2 := qm.frozen 2
    have qm_c3 := qm.cell 3 rfl
    have qm_f3 := qm.frozen 3
    have qm_c4 := qm.cell 4 rfl
    have qm_f4 := qm.frozen 4
    have qm_c5 := qm.cell 5 rfl
    have qm_f5 := qm.frozen 5
    have qm_c6 := qm.cell 6 rfl
    have qm_f6 := qm.frozen 6
    have qm_c7 := qm.cell 7 rfl
    have qm_f7 := qm.frozen 7
    have qm_c8 := qm.cell 8 rfl
    have qm_f8 := qm.frozen 8
    have qm_c9 := qm.cell 9 rfl
    have qm_f9 := qm.frozen 9
    have qm_c10 := qm.cell 10 rfl
    have qm_f10 := qm.frozen 10
    have qm_c11 := qm.cell 11 rfl
    have qm_f11 := qm.frozen 11
    have qm_c12 := qm.cell 12 rfl
    have qm_f12 := qm.frozen 12
    have qm_c13 := qm.cell 13 rfl
    have qm_f13 := qm.frozen 13
    have zm := qm.lt
    cases pb
    · go_wp2_with fail
      go_ret
      exact ⟨_, rfl, by rw [HLL.out]; exact ⟨h2.b.hn, h2.b.own.mono (by omega)⟩, below_of_grown hbw1.out h2.gr (by omega) hbw1.out.size⟩
    · go_wp2_with fail
      refine (rt_put 1 2 ix h2 (by omega) (by omega)).mono ?_
      rintro e W1 ⟨rfl, g1⟩
      clear zm
      clear qm_c0 qm_f0 qm_c1 qm_f1 qm_c2 qm_f2 qm_c3 qm_f3 qm_c4 qm_f4 qm_c5 qm_f5 qm_c6 qm_f6 qm_c7 qm_f7 qm_c8 qm_f8 qm_c9 qm_f9 qm_c10 qm_f10 qm_c11 qm_f11 qm_c12 qm_f12 qm_c13 qm_f13
      clear qm
      have qm := g1.m
      have qm_c0 := qm.cell 0 rfl
      have qm_f0 := qm.frozen 0
      have qm_c1 := qm.cell 1 rfl
      have qm_f1 := qm.frozen 1
      have qm_c2 := qm.cell 2 rfl
      have qm_f2 := qm.frozen 2
      have qm_c3 := qm.cell 3 rfl
      have qm_f3 := qm.frozen 3
      have qm_c4 := qm.cell 4 rfl
      have qm_f4 := qm.frozen 4
      have qm_c5 := qm.cell 5 rfl
      have qm_f5 := qm.frozen 5
      have qm_c6 := qm.cell 6 rfl
      have qm_f6 := qm.frozen 6
      have qm_c7 := qm.cell 7 rfl
      have qm_f7 := qm.frozen 7
      have qm_c8 := qm.cell 8 rfl
      have qm_f8 := qm.frozen 8
      have qm_c9 := qm.cell 9 rfl
      have qm_f9 := qm.frozen 9
      have qm_c10 := qm.cell 10 rfl
      have qm_f10 := qm.frozen 10
      have qm_c11 := qm.cell 11 rfl
      have qm_f11 := qm.frozen 11
      have qm_c12 := qm.cell 12 rfl
      have qm_f12 := qm.frozen 12
      have qm_c13 := qm.cell 13 rfl
      have qm_f13 := qm.frozen 13
      have zm := qm.lt
      obtain ⟨v3, k3, j3⟩ := g1.b.at8 3 (by omega)
      have g2 := g1.byte 3 (UInt8.ofNat sub)
      rw [← bv_small (show sub < 256 by omega)] at g2
      go_wp2_with fail
      go_ret
      exact ⟨_, rfl, by rw [HLL.out]; show OwnB _ _ _ _ _ ((putL (l.set 0 (UInt8.ofNat x)) 1 2 ix).set 3 (UInt8.ofNat sub)); exact ⟨g2.b.hn, g2.b.own.mono (by omega)⟩, below_of_grown hbw1.out g2.gr (by omega) hbw1.out.size⟩
end Go.Proofs.Ytcncbmlacphclaa
