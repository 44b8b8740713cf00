/- The reference of sdomsg: laid. -/
import Derived.Test.YtcncbmlacphclaaRSdE0
import Derived.Deep.DeepCutAuto
import Derived.Deep.CutBlock
namespace Go.Proofs.Ytcncbmlacphclaa
set_option linter.unusedVariables false
set_option linter.unusedSimpArgs false
set_option linter.unnecessarySimpa false
open Go.RowKit
set_option maxRecDepth 100000
set_option maxHeartbeats 16000000

theorem rsd_laid_c (kind : Int) (ix sub sq bl em size code sum n c : Nat) (tg la cr sz : Bool) (A : Option Addr) (data : List UInt8) (w : World) (k1 : 1 ≤ kind) (k2 : kind ≤ 21) (hu1 : size ≤ 4294967295) (hu2 : code ≤ 4294967295) (hu3 : sum ≤ 65535)
    (A2 : ix ≤ 65535) (B2 : sub ≤ 255) (C2 : sq ≤ 127) (D2 : bl ≤ 127) (E2 : em ≤ 7) (hn : n = data.length) (hn7 : n ≤ 7) (hn4 : kind = 2 ∨ kind = 14 → n ≤ 4) (hs : Sl w A (data.map bv)) (hg : kind = 14 ∨ kind = 16 ∨ kind = 17 ∨ kind = 18) :
    Calls Try.prog 68 #[.agg #[.int .i64 kind, .int .i64 (ix : Nat), .int .i64 (sub : Nat), .bool tg, .bool la, .bool cr, .bool sz, .int .u32 (size : Nat), .int .u32 (code : Nat), .slice A n c, .int .i64 (sq : Nat), .int .i64 (bl : Nat), .int .i64 (em : Nat), .int .u16 (sum : Nat)]] w (LaidR w (rlaidL kind n ix sub size code sq bl em sum tg la cr sz data)) := by
  have q0 := blk_one w 43 #[.int .i64 kind, .int .i64 (ix : Nat), .int .i64 (sub : Nat), .bool tg, .bool la, .bool cr, .bool sz, .int .u32 (size : Nat), .int .u32 (code : Nat), .slice A n c, .int .i64 (sq : Nat), .int .i64 (bl : Nat), .int .i64 (em : Nat), .int .u16 (sum : Nat)]
  have hbw := below_alloc (Below.refl w.heap.size w) (.cells #[.int .i64 kind, .int .i64 (ix : Nat), .int .i64 (sub : Nat), .bool tg, .bool la, .bool cr, .bool sz, .int .u32 (size : Nat), .int .u32 (code : Nat), .slice A n c, .int .i64 (sq : Nat), .int .i64 (bl : Nat), .int .i64 (em : Nat), .int .u16 (sum : Nat)] 43)
  have HG := hide hg
  clear hg
  have HN := hide hn
  have H4 := hide hn4
  clear hn hn4
  go_enter Try.func68, Try.ntmps68
  go_upto_block 0 with (at_make; refine mk_b _ rfl _ _ rfl _ _ _ _ 8 8 rfl rfl rfl (by omega) (by omega) (by omega) (w.heap.size + 1) (by simp) ?_; intro w1 hO1 hlt1 hb1; have c0 := (Blk.below q0 hb1 (by omega)).cell 0 rfl)
  have h0 : Rt w1 w1 w.heap.size (w.heap.size + 1) (w.heap.size + 1) z8 #[.int .i64 kind, .int .i64 (ix : Nat), .int .i64 (sub : Nat), .bool tg, .bool la, .bool cr, .bool sz, .int .u32 (size : Nat), .int .u32 (code : Nat), .slice A n c, .int .i64 (sq : Nat), .int .i64 (bl : Nat), .int .i64 (em : Nat), .int .u16 (sum : Nat)] :=
    ⟨q0.below hb1 (by omega), hO1, by omega, World.grownBy.refl _ _, rfl⟩
  have hs1 : Hid (Sl w1 A (data.map bv)) := hide (hs.below (hbw.trans (hb1.mono (by omega))))
  have hbw1 : Hid (Below w.heap.size w w1) := hide (hbw.trans (hb1.mono (by omega)))
  have hsW : Hid (∀ W, w1.grownBy W (some (w.heap.size + 1)) → Sl W A (data.map bv)) := hide (fun W hg => by
    intro j u hu
    obtain ⟨ad, e, hc⟩ := hs j u hu
    have hlt := lt_of_cell hc
    refine ⟨ad, e, ?_⟩
    obtain ⟨_, _, e', hc'⟩ : ∃ x y : Unit, A = some ad ∧ w1.cell? (ad.add j) = some u := ⟨(), (), e, (hbw1.out.cell hlt).trans hc⟩
    rw [World.cell?_of_block (hg.block _ (lt_of_cell hc') (by intro e2; injection e2 with e2; omega))]
    exact hc')
  clear q0 hbw hs hO1 hb1 c0
  go_cut [4, 5] (fun s4 s5 wx => s4 = .int .i64 ((rfirB kind n tg la cr sz sq em : Nat) : Int) ∧ s5 = .bool (rplcB kind) ∧ Rt w1 wx w.heap.size (w.heap.size + 1) (w.heap.size + 1) (rbodL kind n size code sq bl sum data) #[.int .i64 kind, .int .i64 (ix : Nat), .int .i64 (sub : Nat), .bool tg, .bool la, .bool cr, .bool sz, .int .u32 (size : Nat), .int .u32 (code : Nat), .slice A n c, .int .i64 (sq : Nat), .int .i64 (bl : Nat), .int .i64 (em : Nat), .int .u16 (sum : Nat)])
  case first =>
    rcases HG.out with rfl | rfl | rfl | rfl
    · have hn4 : n ≤ 4 := H4.out (by omega)
      cases sz
      · have qm := h0.m
        have qm_c0 := qm.cell 0 rfl
        have qm_f0 := qm.frozen 0
        have qm_c1 := qm.cell 1 rfl
        have qm_f1 := qm.frozen 1
        have qm_c2 := qm.cell 2 rfl
        have qm_f2 := qm.frozen 2
        have qm_c3 := qm.cell 3 rfl
        have qm_f3 := qm.frozen 3
        have qm_c4 := qm.cell 4 rfl
        have qm_f4 := qm.frozen 4
        have qm_c5 := qm.cell 5 rfl
        have qm_f5 := qm.frozen 5
        have qm_c6 := qm.cell 6 rfl
        have qm_f6 := qm.frozen 6
        have qm_c7 := qm.cell 7 rfl
        have qm_f7 := qm.frozen 7
        have qm_c8 := qm.cell 8 rfl
        have qm_f8 := qm.frozen 8
        have qm_c9 := qm.cell 9 rfl
        have qm_f9 := qm.frozen 9
        have qm_c10 := qm.cell 10 rfl
        have qm_f10 := qm.frozen 10
        have qm_c11 := qm.cell 11 rfl
        have qm_f11 := qm.frozen 11
        have qm_c12 := qm.cell 12 rfl
        have qm_f12 := qm.frozen 12
        have qm_c13 := qm.cell 13 rfl
        have qm_f13 := qm.frozen 13
        have zm := qm.lt
        go_wp2_with fail
        refine (rsd_flag _ 1 _).mono ?_
        rintro e w2 ⟨rfl, rfl⟩
        go_wp2_with fail
        refine (rsd_flag _ 1 _).mono ?_
        rintro e w2 ⟨rfl, rfl⟩
        go_wp2_with fail
        refine (rt_put 4 4 size h0 (by omega) (by omega)).mono ?_
        rintro e W1 ⟨rfl, g1⟩
        clear zm
        clear qm_c0 qm_f0 qm_c1 qm_f1 qm_c2 qm_f2 qm_c3 qm_f3 qm_c4 qm_f4 qm_c5 qm_f5 qm_c6 qm_f6 qm_c7 qm_f7 qm_c8 qm_f8 qm_c9 qm_f9 qm_c10 qm_f10 qm_c11 qm_f11 qm_c12 qm_f12 qm_c13 qm_f13
        clear qm
        have qm := g1.m
        have qm_c0 := qm.cell 0 rfl
        have qm_f0 := qm.frozen 0
        have qm_c1 := qm.cell 1 rfl
        have qm_f1 := qm.frozen 1
        have qm_c2 := qm.cell 2 rfl
        have qm_f2 := qm.frozen 2
        have qm_c3 := qm.cell 3 rfl
        have qm_f3 := qm.frozen 3
        have qm_c4 := qm.cell 4 rfl
        have qm_f4 := qm.frozen 4
        have qm_c5 := qm.cell 5 rfl
        have qm_f5 := qm.frozen 5
        have qm_c6 := qm.cell 6 rfl
        have qm_f6 := qm.frozen 6
        have qm_c7 := qm.cell 7 rfl
        have qm_f7 := qm.frozen 7
        have qm_c8 := qm.cell 8 rfl
        have qm_f8 := qm.frozen 8
        have qm_c9 := qm.cell 9 rfl
        have qm_f9 := qm.frozen 9
        have qm_c10 := qm.cell 10 rfl
        have qm_f10 := qm.frozen 10
        have qm_c11 := qm.cell 11 rfl
        have qm_f11 := qm.frozen 11
        have qm_c12 := qm.cell 12 rfl
        have qm_f12 := qm.frozen 12
        have qm_c13 := qm.cell 13 rfl
        have qm_f13 := qm.frozen 13
        have zm := qm.lt
        by_cases hn0 : n = 0
        · have hn0' : (n : Int) ≤ 0 := by omega
          have HN0 := hide hn0
          clear hn0
          go_wp2_with fail
          go_meet
          exact ⟨by simp [rfirB, plB, HN0.out] <;> first | rfl | omega, by simp [rplcB], by simpa [rbodL, HN0.out] using g1⟩
        · have hn0' : (0 : Int) < (n : Int) := by omega
          have HN0 := hide hn0
          clear hn0
          go_wp2_with fail
          obtain ⟨W9, hrun, g9, _⟩ := rt_copy A n c 4 4 data g1.drew HN.out rfl (by omega) (hsW.out _ g1.drew.gr)
          refine wp_region_held_drew (S := (fun w' => w'.cell? ⟨w.heap.size, 9, none⟩ = some (.slice A n c))) (by kernel_rfl) ?hS1 (fun hHeld => ?rest1)
          case hS1 => ((try dsimp only); (exact g1.m.cell 9 rfl))
          case' rest1 => skip
          refine wpAnyH_take (i := 0) (oi := _) (v := ?v2) rfl (by kernel_rfl) (by kernel_rfl) (by kernel_rfl) (fun _ _ _ h => h) (Or.inl ⟨by rfl, ?hy2⟩) (by assumption) ?rest2
          case hy2 => ((intro w hSw; (try dsimp only at hSw); go_simp) <;> with_reducible rfl)
          case' rest2 => try simp only [List.getElem_toArray, List.getElem_cons_zero, List.getElem_cons_succ, Act.put, List.setIfInBounds_toArray, List.set_cons_zero, List.set_cons_succ]
          refine wpAnyH_take (i := 1) (oi := _) (v := ?v3) rfl (by kernel_rfl) (by kernel_rfl) (by kernel_rfl) (fun _ _ _ h => h) (Or.inl ⟨by rfl, ?hy3⟩) (by assumption) ?rest3
          case hy3 => ((intro w hSw; (try dsimp only at hSw); go_simp) <;> with_reducible rfl)
          case' rest3 => try simp only [List.getElem_toArray, List.getElem_cons_zero, List.getElem_cons_succ, Act.put, List.setIfInBounds_toArray, List.set_cons_zero, List.set_cons_succ]
          refine wpAnyH_take (i := 2) (oi := _) (v := ?v4) rfl (by kernel_rfl) (by kernel_rfl) (by kernel_rfl) (fun _ _ _ h => h) (Or.inl ⟨by rfl, ?hy4⟩) (by assumption) ?rest4
          case hy4 => ((intro w hSw; (try dsimp only at hSw); go_simp) <;> with_reducible rfl)
          case' rest4 => try simp only [List.getElem_toArray, List.getElem_cons_zero, List.getElem_cons_succ, Act.put, List.setIfInBounds_toArray, List.set_cons_zero, List.set_cons_succ]
          refine wpAnyH_take (i := 3) (oi := _) (v := ?v5) rfl (by kernel_rfl) (by kernel_rfl) (by kernel_rfl) (fun _ _ _ h => h) (Or.inl ⟨by rfl, ?hy5⟩) (by assumption) ?rest5
          case hy5 => ((intro w hSw; (try dsimp only at hSw); go_simp) <;> with_reducible rfl)
          case' rest5 => try simp only [List.getElem_toArray, List.getElem_cons_zero, List.getElem_cons_succ, Act.put, List.setIfInBounds_toArray, List.set_cons_zero, List.set_cons_succ]
          refine wpAnyH_ready (rs := [4]) (by kernel_rfl) (by simp) ?_
          refine AllReadyH.cons (o := _) rfl (fun K hK => ?_) AllReadyH.nil
          go_simp
          refine hK.out _ _ ?hS8 (fun hHeld => ?rest8)
          case hS8 => ((try dsimp only); (exact g9.m.cell 9 rfl))
          case' rest8 => (clear hK K; try simp only [List.getElem_toArray, List.getElem_cons_zero, List.getElem_cons_succ, Act.put, List.setIfInBounds_toArray, List.set_cons_zero, List.set_cons_succ])
          refine wpAnyH_done (by kernel_rfl) ?_ _
          repeat (clear hHeld)
          clear zm
          clear qm_c0 qm_f0 qm_c1 qm_f1 qm_c2 qm_f2 qm_c3 qm_f3 qm_c4 qm_f4 qm_c5 qm_f5 qm_c6 qm_f6 qm_c7 qm_f7 qm_c8 qm_f8 qm_c9 qm_f9 qm_c10 qm_f10 qm_c11 qm_f11 qm_c12 qm_f12 qm_c13 qm_f13
          clear qm
          go_wp2_with fail
          go_meet
          exact ⟨by simp [rfirB, plB, HN0.out] <;> first | rfl | omega, by simp [rplcB], by simpa [rbodL, HN0.out] using g9⟩
      · have qm := h0.m
        have qm_c0 := qm.cell 0 rfl
        have qm_f0 := qm.frozen 0
        have qm_c1 := qm.cell 1 rfl
        have qm_f1 := qm.frozen 1
        have qm_c2 := qm.cell 2 rfl
        have qm_f2 := qm.frozen 2
        have qm_c3 := qm.cell 3 rfl
        have qm_f3 := qm.frozen 3
        have qm_c4 := qm.cell 4 rfl
        have qm_f4 := qm.frozen 4
        have qm_c5 := qm.cell 5 rfl
        have qm_f5 := qm.frozen 5
        have qm_c6 := qm.cell 6 rfl
        have qm_f6 := qm.frozen 6
        have qm_c7 := qm.cell 7 rfl
        have qm_f7 := qm.frozen 7
        have qm_c8 := qm.cell 8 rfl
        have qm_f8 := qm.frozen 8
        have qm_c9 := qm.cell 9 rfl
        have qm_f9 := qm.frozen 9
        have qm_c10 := qm.cell 10 rfl
        have qm_f10 := qm.frozen 10
        have qm_c11 := qm.cell 11 rfl
        have qm_f11 := qm.frozen 11
        have qm_c12 := qm.cell 12 rfl
        have qm_f12 := qm.frozen 12
        have qm_c13 := qm.cell 13 rfl
        have qm_f13 := qm.frozen 13
        have zm := qm.lt
        go_wp2_with fail
        refine (rsd_flag _ 1 _).mono ?_
        rintro e w2 ⟨rfl, rfl⟩
        go_wp2_with fail
        refine (rsd_flag _ 1 _).mono ?_
        rintro e w2 ⟨rfl, rfl⟩
        go_wp2_with fail
        refine (rt_put 4 4 size h0 (by omega) (by omega)).mono ?_
        rintro e W1 ⟨rfl, g1⟩
        clear zm
        clear qm_c0 qm_f0 qm_c1 qm_f1 qm_c2 qm_f2 qm_c3 qm_f3 qm_c4 qm_f4 qm_c5 qm_f5 qm_c6 qm_f6 qm_c7 qm_f7 qm_c8 qm_f8 qm_c9 qm_f9 qm_c10 qm_f10 qm_c11 qm_f11 qm_c12 qm_f12 qm_c13 qm_f13
        clear qm
        have qm := g1.m
        have qm_c0 := qm.cell 0 rfl
        have qm_f0 := qm.frozen 0
        have qm_c1 := qm.cell 1 rfl
        have qm_f1 := qm.frozen 1
        have qm_c2 := qm.cell 2 rfl
        have qm_f2 := qm.frozen 2
        have qm_c3 := qm.cell 3 rfl
        have qm_f3 := qm.frozen 3
        have qm_c4 := qm.cell 4 rfl
        have qm_f4 := qm.frozen 4
        have qm_c5 := qm.cell 5 rfl
        have qm_f5 := qm.frozen 5
        have qm_c6 := qm.cell 6 rfl
        have qm_f6 := qm.frozen 6
        have qm_c7 := qm.cell 7 rfl
        have qm_f7 := qm.frozen 7
        have qm_c8 := qm.cell 8 rfl
        have qm_f8 := qm.frozen 8
        have qm_c9 := qm.cell 9 rfl
        have qm_f9 := qm.frozen 9
        have qm_c10 := qm.cell 10 rfl
        have qm_f10 := qm.frozen 10
        have qm_c11 := qm.cell 11 rfl
        have qm_f11 := qm.frozen 11
        have qm_c12 := qm.cell 12 rfl
        have qm_f12 := qm.frozen 12
        have qm_c13 := qm.cell 13 rfl
        have qm_f13 := qm.frozen 13
        have zm := qm.lt
        by_cases hn0 : n = 0
        · have hn0' : (n : Int) ≤ 0 := by omega
          have HN0 := hide hn0
          clear hn0
          go_wp2_with fail
          go_meet
          exact ⟨by simp [rfirB, plB, HN0.out] <;> first | rfl | omega, by simp [rplcB], by simpa [rbodL, HN0.out] using g1⟩
        · have hn0' : (0 : Int) < (n : Int) := by omega
          have HN0 := hide hn0
          clear hn0
          go_wp2_with fail
          obtain ⟨W9, hrun, g9, _⟩ := rt_copy A n c 4 4 data g1.drew HN.out rfl (by omega) (hsW.out _ g1.drew.gr)
          refine wp_region_held_drew (S := (fun w' => w'.cell? ⟨w.heap.size, 9, none⟩ = some (.slice A n c))) (by kernel_rfl) ?hS9 (fun hHeld => ?rest9)
          case hS9 => ((try dsimp only); (exact g1.m.cell 9 rfl))
          case' rest9 => skip
          refine wpAnyH_take (i := 0) (oi := _) (v := ?v10) rfl (by kernel_rfl) (by kernel_rfl) (by kernel_rfl) (fun _ _ _ h => h) (Or.inl ⟨by rfl, ?hy10⟩) (by assumption) ?rest10
          case hy10 => ((intro w hSw; (try dsimp only at hSw); go_simp) <;> with_reducible rfl)
          case' rest10 => try simp only [List.getElem_toArray, List.getElem_cons_zero, List.getElem_cons_succ, Act.put, List.setIfInBounds_toArray, List.set_cons_zero, List.set_cons_succ]
          refine wpAnyH_take (i := 1) (oi := _) (v := ?v11) rfl (by kernel_rfl) (by kernel_rfl) (by kernel_rfl) (fun _ _ _ h => h) (Or.inl ⟨by rfl, ?hy11⟩) (by assumption) ?rest11
          case hy11 => ((intro w hSw; (try dsimp only at hSw); go_simp) <;> with_reducible rfl)
          case' rest11 => try simp only [List.getElem_toArray, List.getElem_cons_zero, List.getElem_cons_succ, Act.put, List.setIfInBounds_toArray, List.set_cons_zero, List.set_cons_succ]
          refine wpAnyH_take (i := 2) (oi := _) (v := ?v12) rfl (by kernel_rfl) (by kernel_rfl) (by kernel_rfl) (fun _ _ _ h => h) (Or.inl ⟨by rfl, ?hy12⟩) (by assumption) ?rest12
          case hy12 => ((intro w hSw; (try dsimp only at hSw); go_simp) <;> with_reducible rfl)
          case' rest12 => try simp only [List.getElem_toArray, List.getElem_cons_zero, List.getElem_cons_succ, Act.put, List.setIfInBounds_toArray, List.set_cons_zero, List.set_cons_succ]
          refine wpAnyH_take (i := 3) (oi := _) (v := ?v13) rfl (by kernel_rfl) (by kernel_rfl) (by kernel_rfl) (fun _ _ _ h => h) (Or.inl ⟨by rfl, ?hy13⟩) (by assumption) ?rest13
          case hy13 => ((intro w hSw; (try dsimp only at hSw); go_simp) <;> with_reducible rfl)
          case' rest13 => try simp only [List.getElem_toArray, List.getElem_cons_zero, List.getElem_cons_succ, Act.put, List.setIfInBounds_toArray, List.set_cons_zero, List.set_cons_succ]
          refine wpAnyH_ready (rs := [4]) (by kernel_rfl) (by simp) ?_
          refine AllReadyH.cons (o := _) rfl (fun K hK => ?_) AllReadyH.nil
          go_simp
          refine hK.out _ _ ?hS16 (fun hHeld => ?rest16)
          case hS16 => ((try dsimp only); (exact g9.m.cell 9 rfl))
          case' rest16 => (clear hK K; try simp only [List.getElem_toArray, List.getElem_cons_zero, List.getElem_cons_succ, Act.put, List.setIfInBounds_toArray, List.set_cons_zero, List.set_cons_succ])
          refine wpAnyH_done (by kernel_rfl) ?_ _
          repeat (clear hHeld)
          clear zm
          clear qm_c0 qm_f0 qm_c1 qm_f1 qm_c2 qm_f2 qm_c3 qm_f3 qm_c4 qm_f4 qm_c5 qm_f5 qm_c6 qm_f6 qm_c7 qm_f7 qm_c8 qm_f8 qm_c9 qm_f9 qm_c10 qm_f10 qm_c11 qm_f11 qm_c12 qm_f12 qm_c13 qm_f13
          clear qm
          go_wp2_with fail
          go_meet
          exact ⟨by simp [rfirB, plB, HN0.out] <;> first | rfl | omega, by simp [rplcB], by simpa [rbodL, HN0.out] using g9⟩
    · have qm := h0.m
      have qm_c0 := qm.cell 0 rfl
      have qm_f0 := qm.frozen 0
      have qm_c1 := qm.cell 1 rfl
      have qm_f1 := qm.frozen 1
      have qm_c2 := qm.cell 2 rfl
      have qm_f2 := qm.frozen 2
      have qm_c3 := qm.cell 3 rfl
      have qm_f3 := qm.frozen 3
      have qm_c4 := qm.cell 4 rfl
      have qm_f4 := qm.frozen 4
      have qm_c5 := qm.cell 5 rfl
      have qm_f5 := qm.frozen 5
      have qm_c6 := qm.cell 6 rfl
      have qm_f6 := qm.frozen 6
      have qm_c7 := qm.cell 7 rfl
      have qm_f7 := qm.frozen 7
      have qm_c8 := qm.cell 8 rfl
      have qm_f8 := qm.frozen 8
      have qm_c9 := qm.cell 9 rfl
      have qm_f9 := qm.frozen 9
      have qm_c10 := qm.cell 10 rfl
      have qm_f10 := qm.frozen 10
      have qm_c11 := qm.cell 11 rfl
      have qm_f11 := qm.frozen 11
      have qm_c12 := qm.cell 12 rfl
      have qm_f12 := qm.frozen 12
      have qm_c13 := qm.cell 13 rfl
      have qm_f13 := qm.frozen 13
      have zm := qm.lt
      go_wp2_with fail
      refine (rsd_later16 ix sub sq bl em size code sum n c tg la cr sz A data (w.heap.size + 1) (w.heap.size + 1) _ hu3 D2 C2 E2 HN.out hn7 (hsW.out _ h0.gr) h0.b hlt1).mono ?_
      rintro e W1 ⟨rfl, hb, hg⟩
      clear zm
      clear qm_c0 qm_f0 qm_c1 qm_f1 qm_c2 qm_f2 qm_c3 qm_f3 qm_c4 qm_f4 qm_c5 qm_f5 qm_c6 qm_f6 qm_c7 qm_f7 qm_c8 qm_f8 qm_c9 qm_f9 qm_c10 qm_f10 qm_c11 qm_f11 qm_c12 qm_f12 qm_c13 qm_f13
      clear qm
      have g1 := h0.step hb (by simp [putL_len, cpL, z8]; try omega) hg
      have qm := g1.m
      have qm_c0 := qm.cell 0 rfl
      have qm_f0 := qm.frozen 0
      have qm_c1 := qm.cell 1 rfl
      have qm_f1 := qm.frozen 1
      have qm_c2 := qm.cell 2 rfl
      have qm_f2 := qm.frozen 2
      have qm_c3 := qm.cell 3 rfl
      have qm_f3 := qm.frozen 3
      have qm_c4 := qm.cell 4 rfl
      have qm_f4 := qm.frozen 4
      have qm_c5 := qm.cell 5 rfl
      have qm_f5 := qm.frozen 5
      have qm_c6 := qm.cell 6 rfl
      have qm_f6 := qm.frozen 6
      have qm_c7 := qm.cell 7 rfl
      have qm_f7 := qm.frozen 7
      have qm_c8 := qm.cell 8 rfl
      have qm_f8 := qm.frozen 8
      have qm_c9 := qm.cell 9 rfl
      have qm_f9 := qm.frozen 9
      have qm_c10 := qm.cell 10 rfl
      have qm_f10 := qm.frozen 10
      have qm_c11 := qm.cell 11 rfl
      have qm_f11 := qm.frozen 11
      have qm_c12 := qm.cell 12 rfl
      have qm_f12 := qm.frozen 12
      have qm_c13 := qm.cell 13 rfl
      have qm_f13 := qm.frozen 13
      have zm := qm.lt
      go_wp2_with fail
      go_meet
      exact ⟨by simp [rfirB, plB] <;> first | rfl | omega, by simp [rplcB], by simpa [rbodL] using g1⟩
    · have qm := h0.m
      have qm_c0 := qm.cell 0 rfl
      have qm_f0 := qm.frozen 0
      have qm_c1 := qm.cell 1 rfl
      have qm_f1 := qm.frozen 1
      have qm_c2 := qm.cell 2 rfl
      have qm_f2 := qm.frozen 2
      have qm_c3 := qm.cell 3 rfl
      have qm_f3 := qm.frozen 3
      have qm_c4 := qm.cell 4 rfl
      have qm_f4 := qm.frozen 4
      have qm_c5 := qm.cell 5 rfl
      have qm_f5 := qm.frozen 5
      have qm_c6 := qm.cell 6 rfl
      have qm_f6 := qm.frozen 6
      have qm_c7 := qm.cell 7 rfl
      have qm_f7 := qm.frozen 7
      have qm_c8 := qm.cell 8 rfl
      have qm_f8 := qm.frozen 8
      have qm_c9 := qm.cell 9 rfl
      have qm_f9 := qm.frozen 9
      have qm_c10 := qm.cell 10 rfl
      have qm_f10 := qm.frozen 10
      have qm_c11 := qm.cell 11 rfl
      have qm_f11 := qm.frozen 11
      have qm_c12 := qm.cell 12 rfl
      have qm_f12 := qm.frozen 12
      have qm_c13 := qm.cell 13 rfl
      have qm_f13 := qm.frozen 13
      have zm := qm.lt
      go_wp2_with fail
      refine (rsd_later17 ix sub sq bl em size code sum n c tg la cr sz A data (w.heap.size + 1) (w.heap.size + 1) _ hu3 D2 C2 E2 HN.out hn7 (hsW.out _ h0.gr) h0.b hlt1).mono ?_
      rintro e W1 ⟨rfl, hb, hg⟩
      clear zm
      clear qm_c0 qm_f0 qm_c1 qm_f1 qm_c2 qm_f2 qm_c3 qm_f3 qm_c4 qm_f4 qm_c5 qm_f5 qm_c6 qm_f6 qm_c7 qm_f7 qm_c8 qm_f8 qm_c9 qm_f9 qm_c10 qm_f10 qm_c11 qm_f11 qm_c12 qm_f12 qm_c13 qm_f13
      clear qm
      have g1 := h0.step hb (by simp [putL_len, cpL, z8]; try omega) hg
      have qm := g1.m
      have qm_c0 := qm.cell 0 rfl
      have qm_f0 := qm.frozen 0
      have qm_c1 := qm.cell 1 rfl
      have qm_f1 := qm.frozen 1
      have qm_c2 := qm.cell 2 rfl
      have qm_f2 := qm.frozen 2
      have qm_c3 := qm.cell 3 rfl
      have qm_f3 := qm.frozen 3
      have qm_c4 := qm.cell 4 rfl
      have qm_f4 := qm.frozen 4
      have qm_c5 := qm.cell 5 rfl
      have qm_f5 := qm.frozen 5
      have qm_c6 := qm.cell 6 rfl
      have qm_f6 := qm.frozen 6
      have qm_c7 := qm.cell 7 rfl
      have qm_f7 := qm.frozen 7
      have qm_c8 := qm.cell 8 rfl
      have qm_f8 := qm.frozen 8
      have qm_c9 := qm.cell 9 rfl
      have qm_f9 := qm.frozen 9
      have qm_c10 := qm.cell 10 rfl
      have qm_f10 := qm.frozen 10
      have qm_c11 := qm.cell 11 rfl
      have qm_f11 := qm.frozen 11
      have qm_c12 := qm.cell 12 rfl
      have qm_f12 := qm.frozen 12
      have qm_c13 := qm.cell 13 rfl
      have qm_f13 := qm.frozen 13
      have zm := qm.lt
      go_wp2_with fail
      go_meet
      exact ⟨by simp [rfirB, plB] <;> first | rfl | omega, by simp [rplcB], by simpa [rbodL] using g1⟩
    · have qm := h0.m
      have qm_c0 := qm.cell 0 rfl
      have qm_f0 := qm.frozen 0
      have qm_c1 := qm.cell 1 rfl
      have qm_f1 := qm.frozen 1
      have qm_c2 := qm.cell 2 rfl
      have qm_f2 := qm.frozen 2
      have qm_c3 := qm.cell 3 rfl
      have qm_f3 := qm.frozen 3
      have qm_c4 := qm.cell 4 rfl
      have qm_f4 := qm.frozen 4
      have qm_c5 := qm.cell 5 rfl
      have qm_f5 := qm.frozen 5
      have qm_c6 := qm.cell 6 rfl
      have qm_f6 := qm.frozen 6
      have qm_c7 := qm.cell 7 rfl
      have qm_f7 := qm.frozen 7
      have qm_c8 := qm.cell 8 rfl
      have qm_f8 := qm.frozen 8
      have qm_c9 := qm.cell 9 rfl
      have qm_f9 := qm.frozen 9
      have qm_c10 := qm.cell 10 rfl
      have qm_f10 := qm.frozen 10
      have qm_c11 := qm.cell 11 rfl
      have qm_f11 := qm.frozen 11
      have qm_c12 := qm.cell 12 rfl
      have qm_f12 := qm.frozen 12
      have qm_c13 := qm.cell 13 rfl
      have qm_f13 := qm.frozen 13
      have zm := qm.lt
      go_wp2_with fail
      refine (rsd_later18 ix sub sq bl em size code sum n c tg la cr sz A data (w.heap.size + 1) (w.heap.size + 1) _ hu3 D2 C2 E2 HN.out hn7 (hsW.out _ h0.gr) h0.b hlt1).mono ?_
      rintro e W1 ⟨rfl, hb, hg⟩
      clear zm
      clear qm_c0 qm_f0 qm_c1 qm_f1 qm_c2 qm_f2 qm_c3 qm_f3 qm_c4 qm_f4 qm_c5 qm_f5 qm_c6 qm_f6 qm_c7 qm_f7 qm_c8 qm_f8 qm_c9 qm_f9 qm_c10 qm_f10 qm_c11 qm_f11 qm_c12 qm_f12 qm_c13 qm_f13
      clear qm
      have g1 := h0.step hb (by simp [putL_len, cpL, z8]; try omega) hg
      have qm := g1.m
      have qm_c0 := qm.cell 0 rfl
      have qm_f0 := qm.frozen 0
      have qm_c1 := qm.cell 1 rfl
      have qm_f1 := qm.frozen 1
      have qm_c2 := qm.cell 2 rfl
      have qm_f2 := qm.frozen 2
      have qm_c3 := qm.cell 3 rfl
      have qm_f3 := qm.frozen 3
      have qm_c4 := qm.cell 4 rfl
      have qm_f4 := qm.frozen 4
      have qm_c5 := qm.cell 5 rfl
      have qm_f5 := qm.frozen 5
      have qm_c6 := qm.cell 6 rfl
      have qm_f6 := qm.frozen 6
      have qm_c7 := qm.cell 7 rfl
      have qm_f7 := qm.frozen 7
      have qm_c8 := qm.cell 8 rfl
      have qm_f8 := qm.frozen 8
      have qm_c9 := qm.cell 9 rfl
      have qm_f9 := qm.frozen 9
      have qm_c10 := qm.cell 10 rfl
      have qm_f10 := qm.frozen 10
      have qm_c11 := qm.cell 11 rfl
      have qm_f11 := qm.frozen 11
      have qm_c12 := qm.cell 12 rfl
      have qm_f12 := qm.frozen 12
      have qm_c13 := qm.cell 13 rfl
      have qm_f13 := qm.frozen 13
      have zm := qm.lt
      go_wp2_with fail
      go_meet
      exact ⟨by simp [rfirB, plB] <;> first | rfl | omega, by simp [rplcB], by simpa [rbodL] using g1⟩
  case rest =>
    obtain ⟨rfl, rfl, h1⟩ := hcut
    clear h0 hlt1
    obtain ⟨x, hx⟩ : ∃ x, x = rfirB kind n tg la cr sz sq em := ⟨_, rfl⟩
    obtain ⟨l, hl⟩ : ∃ l, l = rbodL kind n size code sq bl sum data := ⟨_, rfl⟩
    obtain ⟨pb, hpb⟩ : ∃ b, b = rplcB kind := ⟨_, rfl⟩
    rw [← hl] at h1
    rw [← hx, ← hpb]
    have HLL : Hid (rlaidL kind n ix sub size code sq bl em sum tg la cr sz data = if pb = true then (putL (l.set 0 (UInt8.ofNat x)) 1 2 ix).set 3 (UInt8.ofNat sub) else l.set 0 (UInt8.ofNat x)) := hide (by rw [hx, hl, hpb]; rfl)
    clear hx hl hpb
    obtain ⟨v0, k0, j0⟩ := h1.b.at8 0 (by omega)
    have h2 := h1.byte 0 (UInt8.ofNat x)
    rw [← mod_byte] at h2
    have qm := h1.m
    have qm_c0 := qm.cell 0 rfl
    have qm_f0 := qm.frozen 0
    have qm_c1 := qm.cell 1 rfl
    have qm_f1 := qm.frozen 1
    have qm_c2 := qm.cell 2 rfl
    have qm_f2 := qm.frozen 2
    have qm_c3 := qm.cell 3 rfl
    have qm_f3 := qm.frozen 3
    have qm_c4 := qm.cell 4 rfl
    have qm_f4 := qm.frozen 4
    have qm_c5 := qm.cell 5 rfl
    have qm_f5 := qm.frozen 5
    have qm_c6 := qm.cell 6 rfl
    have qm_f6 := qm.frozen 6
    have qm_c7 := qm.cell 7 rfl
    have qm_f7 := qm.frozen 7
    have qm_c8 := qm.cell 8 rfl
    have qm_f8 := qm.frozen 8
    have qm_c9 := qm.cell 9 rfl
    have qm_f9 := qm.frozen 9
    have qm_c10 := qm.cell 10 rfl
    have qm_f10 := qm.frozen 10
    have qm_c11 := qm.cell 11 rfl
    have qm_f11 := qm.frozen 11
    have qm_c12 := qm.cell 12 rfl
    have qm_f12 := qm.frozen 12
    have qm_c13 := qm.cell 13 rfl
    have qm_f13 := qm.frozen 13
    have zm := qm.lt
    cases pb
    · go_wp2_with fail
      go_ret
      exact ⟨_, rfl, by rw [HLL.out]; exact ⟨h2.b.hn, h2.b.own.mono (by omega)⟩, below_of_grown hbw1.out h2.gr (by omega) hbw1.out.size⟩
    · go_wp2_with fail
      refine (rt_put 1 2 ix h2 (by omega) (by omega)).mono ?_
      rintro e W1 ⟨rfl, g1⟩
      clear zm
      clear qm_c0 qm_f0 qm_c1 qm_f1 qm_c2 qm_f2 qm_c3 qm_f3 qm_c4 qm_f4 qm_c5 qm_f5 qm_c6 qm_f6 qm_c7 qm_f7 qm_c8 qm_f8 qm_c9 qm_f9 qm_c10 qm_f10 qm_c11 qm_f11 qm_c12 qm_f12 qm_c13 qm_f13
      clear qm
      have qm := g1.m
      have qm_c0 := qm.cell 0 rfl
      have qm_f0 := qm.frozen 0
      have qm_c1 := qm.cell 1 rfl
      have qm_f1 := qm.frozen 1
      have qm_c2 := qm.cell 2 rfl
      have qm_f2 := qm.frozen 2
      have qm_c3 := qm.cell 3 rfl
      have qm_f3 := qm.frozen 3
      have qm_c4 := qm.cell 4 rfl
      have qm_f4 := qm.frozen 4
      have qm_c5 := qm.cell 5 rfl
      have qm_f5 := qm.frozen 5
      have qm_c6 := qm.cell 6 rfl
      have qm_f6 := qm.frozen 6
      have qm_c7 := qm.cell 7 rfl
      have qm_f7 := qm.frozen 7
      have qm_c8 := qm.cell 8 rfl
      have qm_f8 := qm.frozen 8
      have qm_c9 := qm.cell 9 rfl
      have qm_f9 := qm.frozen 9
      have qm_c10 := qm.cell 10 rfl
      have qm_f10 := qm.frozen 10
      have qm_c11 := qm.cell 11 rfl
      have qm_f11 := qm.frozen 11
      have qm_c12 := qm.cell 12 rfl
      have qm_f12 := qm.frozen 12
      have qm_c13 := qm.cell 13 rfl
      have qm_f13 := qm.frozen 13
      have zm := qm.lt
      obtain ⟨v3, k3, j3⟩ := g1.b.at8 3 (by omega)
      have g2 := g1.byte 3 (UInt8.ofNat sub)
      rw [← bv_small (show sub < 256 by omega)] at g2
      go_wp2_with fail
      go_ret
      exact ⟨_, rfl, by rw [HLL.out]; show OwnB _ _ _ _ _ ((putL (l.set 0 (UInt8.ofNat x)) 1 2 ix).set 3 (UInt8.ofNat sub)); exact ⟨g2.b.hn, g2.b.own.mono (by omega)⟩, below_of_grown hbw1.out g2.gr (by omega) hbw1.out.size⟩
end Go.Proofs.Ytcncbmlacphclaa
