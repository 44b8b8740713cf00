/- The reference of sdomsg: laid. -/
import Derived.Test.YtcncbmlacphclaaRSdE0
import Derived.Deep.DeepCutAuto
import Derived.Deep.CutBlock
namespace Go.Proofs.Ytcncbmlacphclaa
set_option linter.unusedVariables false
set_option linter.unusedSimpArgs false
set_option linter.unnecessarySimpa false
open Go.RowKit
set_option maxRecDepth 100000
set_option maxHeartbeats 16000000

theorem rsd_laid_a (kind : Int) (ix sub sq bl em size code sum n c : Nat) (tg la cr sz : Bool) (A : Option Addr) (data : List UInt8) (w : World) (k1 : 1 ≤ kind) (k2 : kind ≤ 21) (hu1 : size ≤ 4294967295) (hu2 : code ≤ 4294967295) (hu3 : sum ≤ 65535)
    (A2 : ix ≤ 65535) (B2 : sub ≤ 255) (C2 : sq ≤ 127) (D2 : bl ≤ 127) (E2 : em ≤ 7) (hn : n = data.length) (hn7 : n ≤ 7) (hn4 : kind = 2 ∨ kind = 14 → n ≤ 4) (hs : Sl w A (data.map bv)) (hg : kind = 1 ∨ kind = 2 ∨ kind = 3 ∨ kind = 4 ∨ kind = 5) :
    Calls Try.prog 68 #[.agg #[.int .i64 kind, .int .i64 (ix : Nat), .int .i64 (sub : Nat), .bool tg, .bool la, .bool cr, .bool sz, .int .u32 (size : Nat), .int .u32 (code : Nat), .slice A n c, .int .i64 (sq : Nat), .int .i64 (bl : Nat), .int .i64 (em : Nat), .int .u16 (sum : Nat)]] w (LaidR w (rlaidL kind n ix sub size code sq bl em sum tg la cr sz data)) := by
  have q0 := blk_one w 43 #[.int .i64 kind, .int .i64 (ix : Nat), .int .i64 (sub : Nat), .bool tg, .bool la, .bool cr, .bool sz, .int .u32 (size : Nat), .int .u32 (code : Nat), .slice A n c, .int .i64 (sq : Nat), .int .i64 (bl : Nat), .int .i64 (em : Nat), .int .u16 (sum : Nat)]
  have hbw := below_alloc (Below.refl w.heap.size w) (.cells #[.int .i64 kind, .int .i64 (ix : Nat), .int .i64 (sub : Nat), .bool tg, .bool la, .bool cr, .bool sz, .int .u32 (size : Nat), .int .u32 (code : Nat), .slice A n c, .int .i64 (sq : Nat), .int .i64 (bl : Nat), .int .i64 (em : Nat), .int .u16 (sum : Nat)] 43)
  have HG := hide hg
  clear hg
  have HN := hide hn
  have H4 := hide hn4
  clear hn hn4
  go_enter Try.func68, Try.ntmps68
  go_upto_block 0 with (at_make; refine mk_b _ rfl _ _ rfl _ _ _ _ 8 8 rfl rfl rfl (by omega) (by omega) (by omega) (w.heap.size + 1) (by simp) ?_; intro w1 hO1 hlt1 hb1; have c0 := (Blk.below q0 hb1 (by omega)).cell 0 rfl)
  have h0 : Rt w1 w1 w.heap.size (w.heap.size + 1) (w.heap.size + 1) z8 #[.int .i64 kind, .int .i64 (ix : Nat), .int .i64 (sub : Nat), .bool tg, .bool la, .bool cr, .bool sz, .int .u32 (size : Nat), .int .u32 (code : Nat), .slice A n c, .int .i64 (sq : Nat), .int .i64 (bl : Nat), .int .i64 (em : Nat), .int .u16 (sum : Nat)] :=
    ⟨q0.below hb1 (by omega), hO1, by omega, World.grownBy.refl _ _, rfl⟩
  have hs1 : Hid (Sl w1 A (data.map bv)) := hide (hs.below (hbw.trans (hb1.mono (by omega))))
  have hbw1 : Hid (Below w.heap.size w w1) := hide (hbw.trans (hb1.mono (by omega)))
  have hsW : Hid (∀ W, w1.grownBy W (some (w.heap.size + 1)) → Sl W A (data.map bv)) := hide (fun W hg => by
    intro j u hu
    obtain ⟨ad, e, hc⟩ := hs j u hu
    have hlt := lt_of_cell hc
    refine ⟨ad, e, ?_⟩
    obtain ⟨_, _, e', hc'⟩ : ∃ x y : Unit, A = some ad ∧ w1.cell? (ad.add j) = some u := ⟨(), (), e, (hbw1.out.cell hlt).trans hc⟩
    rw [World.cell?_of_block (hg.block _ (lt_of_cell hc') (by intro e2; injection e2 with e2; omega))]
    exact hc')
  clear q0 hbw hs hO1 hb1 c0
  go_cut [4, 5] (fun s4 s5 wx => s4 = .int .i64 ((rfirB kind n tg la cr sz sq em : Nat) : Int) ∧ s5 = .bool (rplcB kind) ∧ Rt w1 wx w.heap.size (w.heap.size + 1) (w.heap.size + 1) (rbodL kind n size code sq bl sum data) #[.int .i64 kind, .int .i64 (ix : Nat), .int .i64 (sub : Nat), .bool tg, .bool la, .bool cr, .bool sz, .int .u32 (size : Nat), .int .u32 (code : Nat), .slice A n c, .int .i64 (sq : Nat), .int .i64 (bl : Nat), .int .i64 (em : Nat), .int .u16 (sum : Nat)])
  case first =>
    rcases HG.out with rfl | rfl | rfl | rfl | rfl
    · have qm := h0.m
      have qm_c0 := qm.cell 0 rfl
      have qm_f0 := qm.frozen 0
      have qm_c1 := qm.cell 1 rfl
      have qm_f1 := qm.frozen 1
      have qm_c2 := qm.cell 2 rfl
      have qm_f2 := qm.frozen 2
      have qm_c3 := qm.cell 3 rfl
      have qm_f3 := qm.frozen 3
      have qm_c4 := qm.cell 4 rfl
      have qm_f4 := qm.frozen 4
      have qm_c5 := qm.cell 5 rfl
      have qm_f5 := qm.frozen 5
      have qm_c6 := qm.cell 6 rfl
      have qm_f6 := qm.frozen 6
      have qm_c7 := qm.cell 7 rfl
      have qm_f7 := qm.frozen 7
      have qm_c8 := qm.cell 8 rfl
      have qm_f8 := qm.frozen 8
      have qm_c9 := qm.cell 9 rfl
      have qm_f9 := qm.frozen 9
      have qm_c10 := qm.cell 10 rfl
      have qm_f10 := qm.frozen 10
      have qm_c11 := qm.cell 11 rfl
      have qm_f11 := qm.frozen 11
      have qm_c12 := qm.cell 12 rfl
      have qm_f12 := qm.frozen 12
      have qm_c13 := qm.cell 13 rfl
      have qm_f13 := qm.frozen 13
      have zm := qm.lt
      go_wp2_with fail
      refine (rt_put 4 4 code h0 (by omega) (by omega)).mono ?_
      rintro e W1 ⟨rfl, g1⟩
      clear zm
      clear qm_c0 qm_f0 qm_c1 qm_f1 qm_c2 qm_f2 qm_c3 qm_f3 qm_c4 qm_f4 qm_c5 qm_f5 qm_c6 qm_f6 qm_c7 qm_f7 qm_c8 qm_f8 qm_c9 qm_f9 qm_c10 qm_f10 qm_c11 qm_f11 qm_c12 qm_f12 qm_c13 qm_f13
      clear qm
      have qm := g1.m
      have qm_c0 := qm.cell 0 rfl
      have qm_f0 := qm.frozen 0
      have qm_c1 := qm.cell 1 rfl
      have qm_f1 := qm.frozen 1
      have qm_c2 := qm.cell 2 rfl
      have qm_f2 := qm.frozen 2
      have qm_c3 := qm.cell 3 rfl
      have qm_f3 := qm.frozen 3
      have qm_c4 := qm.cell 4 rfl
      have qm_f4 := qm.frozen 4
      have qm_c5 := qm.cell 5 rfl
      have qm_f5 := qm.frozen 5
      have qm_c6 := qm.cell 6 rfl
      have qm_f6 := qm.frozen 6
      have qm_c7 := qm.cell 7 rfl
      have qm_f7 := qm.frozen 7
      have qm_c8 := qm.cell 8 rfl
      have qm_f8 := qm.frozen 8
      have qm_c9 := qm.cell 9 rfl
      have qm_f9 := qm.frozen 9
      have qm_c10 := qm.cell 10 rfl
      have qm_f10 := qm.frozen 10
      have qm_c11 := qm.cell 11 rfl
      have qm_f11 := qm.frozen 11
      have qm_c12 := qm.cell 12 rfl
      have qm_f12 := qm.frozen 12
      have qm_c13 := qm.cell 13 rfl
      have qm_f13 := qm.frozen 13
      have zm := qm.lt
      go_wp2_with fail
      go_meet
      exact ⟨by simp [rfirB, plB] <;> first | rfl | omega, by simp [rplcB], by simpa [rbodL] using g1⟩
    · have hn4 : n ≤ 4 := H4.out (by omega)
      cases sz
      · have qm := h0.m
        have qm_c0 := qm.cell 0 rfl
        have qm_f0 := qm.frozen 0
        have qm_c1 := qm.cell 1 rfl
        have qm_f1 := qm.frozen 1
        have qm_c2 := qm.cell 2 rfl
        have qm_f2 := qm.frozen 2
        have qm_c3 := qm.cell 3 rfl
        have qm_f3 := qm.frozen 3
        have qm_c4 := qm.cell 4 rfl
        have qm_f4 := qm.frozen 4
        have qm_c5 := qm.cell 5 rfl
        have qm_f5 := qm.frozen 5
        have qm_c6 := qm.cell 6 rfl
        have qm_f6 := qm.frozen 6
        have qm_c7 := qm.cell 7 rfl
        have qm_f7 := qm.frozen 7
        have qm_c8 := qm.cell 8 rfl
        have qm_f8 := qm.frozen 8
        have qm_c9 := qm.cell 9 rfl
        have qm_f9 := qm.frozen 9
        have qm_c10 := qm.cell 10 rfl
        have qm_f10 := qm.frozen 10
        have qm_c11 := qm.cell 11 rfl
        have qm_f11 := qm.frozen 11
        have qm_c12 := qm.cell 12 rfl
        have qm_f12 := qm.frozen 12
        have qm_c13 := qm.cell 13 rfl
        have qm_f13 := qm.frozen 13
        have zm := qm.lt
        go_wp2_with fail
        refine (rsd_flag _ 1 _).mono ?_
        rintro e w2 ⟨rfl, rfl⟩
        go_wp2_with fail
        refine (rt_put 4 4 size h0 (by omega) (by omega)).mono ?_
        rintro e W1 ⟨rfl, g1⟩
        clear zm
        clear qm_c0 qm_f0 qm_c1 qm_f1 qm_c2 qm_f2 qm_c3 qm_f3 qm_c4 qm_f4 qm_c5 qm_f5 qm_c6 qm_f6 qm_c7 qm_f7 qm_c8 qm_f8 qm_c9 qm_f9 qm_c10 qm_f10 qm_c11 qm_f11 qm_c12 qm_f12 qm_c13 qm_f13
        clear qm
        have qm := g1.m
        have qm_c0 := qm.cell 0 rfl
        have qm_f0 := qm.frozen 0
        have qm_c1 := qm.cell 1 rfl
        have qm_f1 := qm.frozen 1
        have qm_c2 := qm.cell 2 rfl
        have qm_f2 := qm.frozen 2
        have qm_c3 := qm.cell 3 rfl
        have qm_f3 := qm.frozen 3
        have qm_c4 := qm.cell 4 rfl
        have qm_f4 := qm.frozen 4
        have qm_c5 := qm.cell 5 rfl
        have qm_f5 := qm.frozen 5
        have qm_c6 := qm.cell 6 rfl
        have qm_f6 := qm.frozen 6
        have qm_c7 := qm.cell 7 rfl
        have qm_f7 := qm.frozen 7
        have qm_c8 := qm.cell 8 rfl
        have qm_f8 := qm.frozen 8
        have qm_c9 := qm.cell 9 rfl
        have qm_f9 := qm.frozen 9
        have qm_c10 := qm.cell 10 rfl
        have qm_f10 := qm.frozen 10
        have qm_c11 := qm.cell 11 rfl
        have qm_f11 := qm.frozen 11
        have qm_c12 := qm.cell 12 rfl
        have qm_f12 := qm.frozen 12
        have qm_c13 := qm.cell 13 rfl
        have qm_f13 := qm.frozen 13
        have zm := qm.lt
        by_cases hn0 : n = 0
        · have hn0' : (n : Int) ≤ 0 := by omega
          have HN0 := hide hn0
          clear hn0
          go_wp2_with fail
          go_meet
          exact ⟨by simp [rfirB, plB, HN0.out] <;> first | rfl | omega, by simp [rplcB], by simpa [rbodL, HN0.out] using g1⟩
        · have hn0' : (0 : Int) < (n : Int) := by omega
          have HN0 := hide hn0
          clear hn0
          go_wp2_with fail
          obtain ⟨W9, hrun, g9, _⟩ := rt_copy A n c 4 4 data g1.drew HN.out rfl (by omega) (hsW.out _ g1.drew.gr)
          refine wp_region_held_drew (S := (fun w' => w'.cell? ⟨w.heap.size, 9, none⟩ = some (.slice A n c))) (by kernel_rfl) ?hS1 (fun hHeld => ?rest1)
          case hS1 => ((try dsimp only); (exact g1.m.cell 9 rfl))
          case' rest1 => skip
          refine wpAnyH_take (i := 0) (oi := _) (v := ?v2) rfl (by kernel_rfl) (by kernel_rfl) (by kernel_rfl) (fun _ _ _ h => h) (Or.inl ⟨by rfl, ?hy2⟩) (by assumption) ?rest2
          case hy2 => ((intro w hSw; (try dsimp only at hSw); go_simp) <;> with_reducible rfl)
          case' rest2 => try simp only [List.getElem_toArray, List.getElem_cons_zero, List.getElem_cons_succ, Act.put, List.setIfInBounds_toArray, List.set_cons_zero, List.set_cons_succ]
          refine wpAnyH_take (i := 1) (oi := _) (v := ?v3) rfl (by kernel_rfl) (by kernel_rfl) (by kernel_rfl) (fun _ _ _ h => h) (Or.inl ⟨by rfl, ?hy3⟩) (by assumption) ?rest3
          case hy3 => ((intro w hSw; (try dsimp only at hSw); go_simp) <;> with_reducible rfl)
          case' rest3 => try simp only [List.getElem_toArray, List.getElem_cons_zero, List.getElem_cons_succ, Act.put, List.setIfInBounds_toArray, List.set_cons_zero, List.set_cons_succ]
          refine wpAnyH_take (i := 2) (oi := _) (v := ?v4) rfl (by kernel_rfl) (by kernel_rfl) (by kernel_rfl) (fun _ _ _ h => h) (Or.inl ⟨by rfl, ?hy4⟩) (by assumption) ?rest4
          case hy4 => ((intro w hSw; (try dsimp only at hSw); go_simp) <;> with_reducible rfl)
          case' rest4 => try simp only [List.getElem_toArray, List.getElem_cons_zero, List.getElem_cons_succ, Act.put, List.setIfInBounds_toArray, List.set_cons_zero, List.set_cons_succ]
          refine wpAnyH_take (i := 3) (oi := _) (v := ?v5) rfl (by kernel_rfl) (by kernel_rfl) (by kernel_rfl) (fun _ _ _ h => h) (Or.inl ⟨by rfl, ?hy5⟩) (by assumption) ?rest5
          case hy5 => ((intro w hSw; (try dsimp only at hSw); go_simp) <;> with_reducible rfl)
          case' rest5 => try simp only [List.getElem_toArray, List.getElem_cons_zero, List.getElem_cons_succ, Act.put, List.setIfInBounds_toArray, List.set_cons_zero, List.set_cons_succ]
          refine wpAnyH_ready (rs := [4]) (by kernel_rfl) (by simp) ?_
          refine AllReadyH.cons (o := _) rfl (fun K hK => ?_) AllReadyH.nil
          go_simp
          refine hK.out _ _ ?hS8 (fun hHeld => ?rest8)
          case hS8 => ((try dsimp only); (exact g9.m.cell 9 rfl))
          case' rest8 => (clear hK K; try simp only [List.getElem_toArray, List.getElem_cons_zero, List.getElem_cons_succ, Act.put, List.setIfInBounds_toArray, List.set_cons_zero, List.set_cons_succ])
          refine wpAnyH_done (by kernel_rfl) ?_ _
          repeat (clear hHeld)
          clear zm
          clear qm_c0 qm_f0 qm_c1 qm_f1 qm_c2 qm_f2 qm_c3 qm_f3 qm_c4 qm_f4 qm_c5 qm_f5 qm_c6 qm_f6 qm_c7 qm_f7 qm_c8 qm_f8 qm_c9 qm_f9 qm_c10 qm_f10 qm_c11 qm_f11 qm_c12 qm_f12 qm_c13 qm_f13
          clear qm
          go_wp2_with fail
          go_meet
          exact ⟨by simp [rfirB, plB, HN0.out] <;> first | rfl | omega, by simp [rplcB], by simpa [rbodL, HN0.out] using g9⟩
      · have qm := h0.m
        have qm_c0 := qm.cell 0 rfl
        have qm_f0 := qm.frozen 0
        have qm_c1 := qm.cell 1 rfl
        have qm_f1 := qm.frozen 1
        have qm_c2 := qm.cell 2 rfl
        have qm_f2 := qm.frozen 2
        have qm_c3 := qm.cell 3 rfl
        have qm_f3 := qm.frozen 3
        have qm_c4 := qm.cell 4 rfl
        have qm_f4 := qm.frozen 4
        have qm_c5 := qm.cell 5 rfl
        have qm_f5 := qm.frozen 5
        have qm_c6 := qm.cell 6 rfl
        have qm_f6 := qm.frozen 6
        have qm_c7 := qm.cell 7 rfl
        have qm_f7 := qm.frozen 7
        have qm_c8 := qm.cell 8 rfl
        have qm_f8 := qm.frozen 8
        have qm_c9 := qm.cell 9 rfl
        have qm_f9 := qm.frozen 9
        have qm_c10 := qm.cell 10 rfl
        have qm_f10 := qm.frozen 10
        have qm_c11 := qm.cell 11 rfl
        have qm_f11 := qm.frozen 11
        have qm_c12 := qm.cell 12 rfl
        have qm_f12 := qm.frozen 12
        have qm_c13 := qm.cell 13 rfl
        have qm_f13 := qm.frozen 13
        have zm := qm.lt
        go_wp2_with fail
        refine (rsd_flag _ 1 _).mono ?_
        rintro e w2 ⟨rfl, rfl⟩
        go_wp2_with fail
        refine (rt_put 4 4 size h0 (by omega) (by omega)).mono ?_
        rintro e W1 ⟨rfl, g1⟩
        clear zm
        clear qm_c0 qm_f0 qm_c1 qm_f1 qm_c2 qm_f2 qm_c3 qm_f3 qm_c4 qm_f4 qm_c5 qm_f5 qm_c6 qm_f6 qm_c7 qm_f7 qm_c8 qm_f8 qm_c9 qm_f9 qm_c10 qm_f10 qm_c11 qm_f11 qm_c12 qm_f12 qm_c13 qm_f13
        clear qm
        have qm := g1.m
        have qm_c0 := qm.cell 0 rfl
        have qm_f0 := qm.frozen 0
        have qm_c1 := qm.cell 1 rfl
        have qm_f1 := qm.frozen 1
        have qm_c2 := qm.cell 2 rfl
        have qm_f2 := qm.frozen 2
        have qm_c3 := qm.cell 3 rfl
        have qm_f3 := qm.frozen 3
        have qm_c4 := qm.cell 4 rfl
        have qm_f4 := qm.frozen 4
        have qm_c5 := qm.cell 5 rfl
        have qm_f5 := qm.frozen 5
        have qm_c6 := qm.cell 6 rfl
        have qm_f6 := qm.frozen 6
        have qm_c7 := qm.cell 7 rfl
        have qm_f7 := qm.frozen 7
        have qm_c8 := qm.cell 8 rfl
        have qm_f8 := qm.frozen 8
        have qm_c9 := qm.cell 9 rfl
        have qm_f9 := qm.frozen 9
        have qm_c10 := qm.cell 10 rfl
        have qm_f10 := qm.frozen 10
        have qm_c11 := qm.cell 11 rfl
        have qm_f11 := qm.frozen 11
        have qm_c12 := qm.cell 12 rfl
        have qm_f12 := qm.frozen 12
        have qm_c13 := qm.cell 13 rfl
        have qm_f13 := qm.frozen 13
        have zm := qm.lt
        by_cases hn0 : n = 0
        · have hn0' : (n : Int) ≤ 0 := by omega
          have HN0 := hide hn0
          clear hn0
          go_wp2_with fail
          go_meet
          exact ⟨by simp [rfirB, plB, HN0.out] <;> first | rfl | omega, by simp [rplcB], by simpa [rbodL, HN0.out] using g1⟩
        · have hn0' : (0 : Int) < (n : Int) := by omega
          have HN0 := hide hn0
          clear hn0
          go_wp2_with fail
          obtain ⟨W9, hrun, g9, _⟩ := rt_copy A n c 4 4 data g1.drew HN.out rfl (by omega) (hsW.out _ g1.drew.gr)
          refine wp_region_held_drew (S := (fun w' => w'.cell? ⟨w.heap.size, 9, none⟩ = some (.slice A n c))) (by kernel_rfl) ?hS9 (fun hHeld => ?rest9)
          case hS9 => ((try dsimp only); (exact g1.m.cell 9 rfl))
          case' rest9 => skip
          refine wpAnyH_take (i := 0) (oi := _) (v := ?v10) rfl (by kernel_rfl) (by kernel_rfl) (by kernel_rfl) (fun _ _ _ h => h) (Or.inl ⟨by rfl, ?hy10⟩) (by assumption) ?rest10
          case hy10 => ((intro w hSw; (try dsimp only at hSw); go_simp) <;> with_reducible rfl)
          case' rest10 => try simp only [List.getElem_toArray, List.getElem_cons_zero, List.getElem_cons_succ, Act.put, List.setIfInBounds_toArray, List.set_cons_zero, List.set_cons_succ]
          refine wpAnyH_take (i := 1) (oi := _) (v := ?v11) rfl (by kernel_rfl) (by kernel_rfl) (by kernel_rfl) (fun _ _ _ h => h) (Or.inl ⟨by rfl, ?hy11⟩) (by assumption) ?rest11
          case hy11 => ((intro w hSw; (try dsimp only at hSw); go_simp) <;> with_reducible rfl)
          case' rest11 => try simp only [List.getElem_toArray, List.getElem_cons_zero, List.getElem_cons_succ, Act.put, List.setIfInBounds_toArray, List.set_cons_zero, List.set_cons_succ]
          refine wpAnyH_take (i := 2) (oi := _) (v := ?v12) rfl (by kernel_rfl) (by kernel_rfl) (by kernel_rfl) (fun _ _ _ h => h) (Or.inl ⟨by rfl, ?hy12⟩) (by assumption) ?rest12
          case hy12 => ((intro w hSw; (try dsimp only at hSw); go_simp) <;> with_reducible rfl)
          case' rest12 => try simp only [List.getElem_toArray, List.getElem_cons_zero, List.getElem_cons_succ, Act.put, List.setIfInBounds_toArray, List.set_cons_zero, List.set_cons_succ]
          refine wpAnyH_take (i := 3) (oi := _) (v := ?v13) rfl (by kernel_rfl) (by kernel_rfl) (by kernel_rfl) (fun _ _ _ h => h) (Or.inl ⟨by rfl, ?hy13⟩) (by assumption) ?rest13
          case hy13 => ((intro w hSw; (try dsimp only at hSw); go_simp) <;> with_reducible rfl)
          case' rest13 => try simp only [List.getElem_toArray, List.getElem_cons_zero, List.getElem_cons_succ, Act.put, List.setIfInBounds_toArray, List.set_cons_zero, List.set_cons_succ]
          refine wpAnyH_ready (rs := [4]) (by kernel_rfl) (by simp) ?_
          refine AllReadyH.cons (o := _) rfl (fun K hK => ?_) AllReadyH.nil
          go_simp
          refine hK.out _ _ ?hS16 (fun hHeld => ?rest16)
          case hS16 => ((try dsimp only); (exact g9.m.cell 9 rfl))
          case' rest16 => (clear hK K; try simp only [List.getElem_toArray, List.getElem_cons_zero, List.getElem_cons_succ, Act.put, List.setIfInBounds_toArray, List.set_cons_zero, List.set_cons_succ])
          refine wpAnyH_done (by kernel_rfl) ?_ _
          repeat (clear hHeld)
          clear zm
          clear qm_c0 qm_f0 qm_c1 qm_f1 qm_c2 qm_f2 qm_c3 qm_f3 qm_c4 qm_f4 qm_c5 qm_f5 qm_c6 qm_f6 qm_c7 qm_f7 qm_c8 qm_f8 qm_c9 qm_f9 qm_c10 qm_f10 qm_c11 qm_f11 qm_c12 qm_f12 qm_c13 qm_f13
          clear qm
          go_wp2_with fail
          go_meet
          exact ⟨by simp [rfirB, plB, HN0.out] <;> first | rfl | omega, by simp [rplcB], by simpa [rbodL, HN0.out] using g9⟩
    · have i1 : IntKind.i64.wrap (7 - (n : Int)) = 7 - (n : Int) := IntWalk.i64_in _ (by omega)
      have i2 : IntKind.i64.wrap ((7 - (n : Int)) * 2) = (7 - (n : Int)) * 2 := IntWalk.i64_in _ (by omega)
      have i2' : IntKind.i64.wrap (2 * (7 - (n : Int))) = 2 * (7 - (n : Int)) := IntWalk.i64_in _ (by omega)
      cases tg
      · cases la
        · have qm := h0.m
          have qm_c0 := qm.cell 0 rfl
          have qm_f0 := qm.frozen 0
          have qm_c1 := qm.cell 1 rfl
          have qm_f1 := qm.frozen 1
          have qm_c2 := qm.cell 2 rfl
          have qm_f2 := qm.frozen 2
          have qm_c3 := qm.cell 3 rfl
          have qm_f3 := qm.frozen 3
          have qm_c4 := qm.cell 4 rfl
          have qm_f4 := qm.frozen 4
          have qm_c5 := qm.cell 5 rfl
          have qm_f5 := qm.frozen 5
          have qm_c6 := qm.cell 6 rfl
          have qm_f6 := qm.frozen 6
          have qm_c7 := qm.cell 7 rfl
          have qm_f7 := qm.frozen 7
          have qm_c8 := qm.cell 8 rfl
          have qm_f8 := qm.frozen 8
          have qm_c9 := qm.cell 9 rfl
          have qm_f9 := qm.frozen 9
          have qm_c10 := qm.cell 10 rfl
          have qm_f10 := qm.frozen 10
          have qm_c11 := qm.cell 11 rfl
          have qm_f11 := qm.frozen 11
          have qm_c12 := qm.cell 12 rfl
          have qm_f12 := qm.frozen 12
          have qm_c13 := qm.cell 13 rfl
          have qm_f13 := qm.frozen 13
          have zm := qm.lt
          go_wp2_with fail
          refine wp_region_held_drew (S := (fun w' => (∀ p : Addr, p.block < (w1).heap.size → w'.cell? p = (w1).cell? p) ∧ Below (w1).heap.size (w1) w')) (by kernel_rfl) ?hS17 (fun hHeld => ?rest17)
          case hS17 => ((try dsimp only); (((try go_split_ands); refine sn_of ?_; repeat' (first | with_reducible assumption | with_reducible exact Below.refl _ _ | with_reducible apply below_alloc | with_reducible apply below_drew1 | with_reducible apply below_drewN | (with_reducible apply below_step; with_reducible assumption) | (with_reducible apply below_sg2; (first | exact Nat.le_refl _ | (simp; done) | omega))))))
          case' rest17 => skip
          refine wpAnyH_take (i := 0) (oi := _) (v := ?v18) rfl (by kernel_rfl) (by kernel_rfl) (by kernel_rfl) (fun _ _ _ h => h) (Or.inl ⟨by rfl, ?hy18⟩) (by assumption) ?rest18
          case hy18 => ((intro w hSw; (try dsimp only at hSw); go_simp) <;> with_reducible rfl)
          case' rest18 => try simp only [List.getElem_toArray, List.getElem_cons_zero, List.getElem_cons_succ, Act.put, List.setIfInBounds_toArray, List.set_cons_zero, List.set_cons_succ]
          refine wpAnyH_take (i := 1) (oi := _) (v := ?v19) rfl (by kernel_rfl) (by kernel_rfl) (by kernel_rfl) (fun _ _ _ h => h) (Or.inl ⟨by rfl, ?hy19⟩) (by assumption) ?rest19
          case hy19 => ((intro w hSw; (try dsimp only at hSw); go_simp) <;> with_reducible rfl)
          case' rest19 => try simp only [List.getElem_toArray, List.getElem_cons_zero, List.getElem_cons_succ, Act.put, List.setIfInBounds_toArray, List.set_cons_zero, List.set_cons_succ]
          refine wpAnyH_take (i := 3) (oi := _) (v := ?v20) rfl (by kernel_rfl) (by kernel_rfl) (by kernel_rfl) (fun _ _ _ h => h) (Or.inl ⟨by rfl, ?hy20⟩) (by assumption) ?rest20
          case hy20 => ((intro w hSw; (try dsimp only at hSw); go_simp) <;> with_reducible rfl)
          case' rest20 => try simp only [List.getElem_toArray, List.getElem_cons_zero, List.getElem_cons_succ, Act.put, List.setIfInBounds_toArray, List.set_cons_zero, List.set_cons_succ]
          refine wpAnyH_take (i := 4) (oi := _) (v := ?v21) rfl (by kernel_rfl) (by kernel_rfl) (by kernel_rfl) (fun _ _ _ h => h) (Or.inl ⟨by rfl, ?hy21⟩) (by assumption) ?rest21
          case hy21 => ((intro w hSw; (try dsimp only at hSw); go_simp) <;> with_reducible rfl)
          case' rest21 => try simp only [List.getElem_toArray, List.getElem_cons_zero, List.getElem_cons_succ, Act.put, List.setIfInBounds_toArray, List.set_cons_zero, List.set_cons_succ]
          refine wpAnyH_take (i := 5) (oi := _) (v := ?v22) rfl (by kernel_rfl) (by kernel_rfl) (by kernel_rfl) (fun _ _ _ h => h) (Or.inl ⟨by rfl, ?hy22⟩) (by assumption) ?rest22
          case hy22 => ((intro w hSw; (try dsimp only at hSw); go_simp) <;> with_reducible rfl)
          case' rest22 => try simp only [List.getElem_toArray, List.getElem_cons_zero, List.getElem_cons_succ, Act.put, List.setIfInBounds_toArray, List.set_cons_zero, List.set_cons_succ]
          refine wpAnyH_take (i := 6) (oi := _) (v := ?v23) rfl (by kernel_rfl) (by kernel_rfl) (by kernel_rfl) (fun _ _ _ h => h) (Or.inl ⟨by rfl, ?hy23⟩) (by assumption) ?rest23
          case hy23 => ((intro w hSw; (try dsimp only at hSw); go_simp) <;> with_reducible rfl)
          case' rest23 => try simp only [List.getElem_toArray, List.getElem_cons_zero, List.getElem_cons_succ, Act.put, List.setIfInBounds_toArray, List.set_cons_zero, List.set_cons_succ]
          refine wpAnyH_take (i := 7) (oi := _) (v := ?v24) rfl (by kernel_rfl) (by kernel_rfl) (by kernel_rfl) (fun _ _ _ h => h) (Or.inl ⟨by rfl, ?hy24⟩) (by assumption) ?rest24
          case hy24 => ((intro w hSw; (try dsimp only at hSw); go_simp) <;> with_reducible rfl)
          case' rest24 => try simp only [List.getElem_toArray, List.getElem_cons_zero, List.getElem_cons_succ, Act.put, List.setIfInBounds_toArray, List.set_cons_zero, List.set_cons_succ]
          refine wpAnyH_take (i := 9) (oi := _) (v := ?v25) rfl (by kernel_rfl) (by kernel_rfl) (by kernel_rfl) (fun _ _ _ h => h) (Or.inl ⟨by rfl, ?hy25⟩) (by assumption) ?rest25
          case hy25 => ((intro w hSw; (try dsimp only at hSw); go_simp) <;> with_reducible rfl)
          case' rest25 => try simp only [List.getElem_toArray, List.getElem_cons_zero, List.getElem_cons_succ, Act.put, List.setIfInBounds_toArray, List.set_cons_zero, List.set_cons_succ]
          refine wpAnyH_take (i := 10) (oi := _) (v := ?v26) rfl (by kernel_rfl) (by kernel_rfl) (by kernel_rfl) (fun _ _ _ h => h) (Or.inl ⟨by rfl, ?hy26⟩) (by assumption) ?rest26
          case hy26 => ((intro w hSw; (try dsimp only at hSw); go_simp) <;> with_reducible rfl)
          case' rest26 => try simp only [List.getElem_toArray, List.getElem_cons_zero, List.getElem_cons_succ, Act.put, List.setIfInBounds_toArray, List.set_cons_zero, List.set_cons_succ]
          refine wpAnyH_ready (rs := [2]) (by kernel_rfl) (by simp) ?_
          refine AllReadyH.cons (o := _) rfl (fun K hK => ?_) AllReadyH.nil
          go_simp
          refine (rsd_flag _ 16 _).mono ?_
          rintro e w3 ⟨rfl, rfl⟩
          try dsimp only
          refine hK.out _ _ ?hS29 (fun hHeld => ?rest29)
          case hS29 => ((try dsimp only); (((try go_split_ands); refine sn_of ?_; repeat' (first | with_reducible assumption | with_reducible exact Below.refl _ _ | with_reducible apply below_alloc | with_reducible apply below_drew1 | with_reducible apply below_drewN | (with_reducible apply below_step; with_reducible assumption) | (with_reducible apply below_sg2; (first | exact Nat.le_refl _ | (simp; done) | omega))))))
          case' rest29 => (clear hK K; try simp only [List.getElem_toArray, List.getElem_cons_zero, List.getElem_cons_succ, Act.put, List.setIfInBounds_toArray, List.set_cons_zero, List.set_cons_succ])
          refine wpAnyH_take (i := 8) (oi := _) (v := ?v30) rfl (by kernel_rfl) (by kernel_rfl) (by kernel_rfl) (fun _ _ _ h => h) (Or.inl ⟨by rfl, ?hy30⟩) (by assumption) ?rest30
          case hy30 => ((intro w hSw; (try dsimp only at hSw); go_simp) <;> with_reducible rfl)
          case' rest30 => try simp only [List.getElem_toArray, List.getElem_cons_zero, List.getElem_cons_succ, Act.put, List.setIfInBounds_toArray, List.set_cons_zero, List.set_cons_succ]
          refine wpAnyH_ready (rs := [11]) (by kernel_rfl) (by simp) ?_
          refine AllReadyH.cons (o := _) rfl (fun K hK => ?_) AllReadyH.nil
          go_simp
          refine (rsd_flag _ 1 _).mono ?_
          rintro e w4 ⟨rfl, rfl⟩
          try dsimp only
          refine hK.out _ _ ?hS33 (fun hHeld => ?rest33)
          case hS33 => ((try dsimp only); (((try go_split_ands); refine sn_of ?_; repeat' (first | with_reducible assumption | with_reducible exact Below.refl _ _ | with_reducible apply below_alloc | with_reducible apply below_drew1 | with_reducible apply below_drewN | (with_reducible apply below_step; with_reducible assumption) | (with_reducible apply below_sg2; (first | exact Nat.le_refl _ | (simp; done) | omega))))))
          case' rest33 => (clear hK K; try simp only [List.getElem_toArray, List.getElem_cons_zero, List.getElem_cons_succ, Act.put, List.setIfInBounds_toArray, List.set_cons_zero, List.set_cons_succ])
          refine wpAnyH_ready (rs := [12]) (by kernel_rfl) (by simp) ?_
          refine AllReadyH.cons (o := _) rfl (fun K hK => ?_) AllReadyH.nil
          go_simp
          refine hK.out _ _ ?hS36 (fun hHeld => ?rest36)
          case hS36 => ((try dsimp only); (((try go_split_ands); refine sn_of ?_; repeat' (first | with_reducible assumption | with_reducible exact Below.refl _ _ | with_reducible apply below_alloc | with_reducible apply below_drew1 | with_reducible apply below_drewN | (with_reducible apply below_step; with_reducible assumption) | (with_reducible apply below_sg2; (first | exact Nat.le_refl _ | (simp; done) | omega))))))
          case' rest36 => (clear hK K; try simp only [List.getElem_toArray, List.getElem_cons_zero, List.getElem_cons_succ, Act.put, List.setIfInBounds_toArray, List.set_cons_zero, List.set_cons_succ])
          refine wpAnyH_ready (rs := [13]) (by kernel_rfl) (by simp) ?_
          refine AllReadyH.cons (o := _) rfl (fun K hK => ?_) AllReadyH.nil
          go_simp
          refine hK.out _ _ ?hS39 (fun hHeld => ?rest39)
          case hS39 => ((try dsimp only); (((try go_split_ands); refine sn_of ?_; repeat' (first | with_reducible assumption | with_reducible exact Below.refl _ _ | with_reducible apply below_alloc | with_reducible apply below_drew1 | with_reducible apply below_drewN | (with_reducible apply below_step; with_reducible assumption) | (with_reducible apply below_sg2; (first | exact Nat.le_refl _ | (simp; done) | omega))))))
          case' rest39 => (clear hK K; try simp only [List.getElem_toArray, List.getElem_cons_zero, List.getElem_cons_succ, Act.put, List.setIfInBounds_toArray, List.set_cons_zero, List.set_cons_succ])
          refine wpAnyH_done (by kernel_rfl) ?_ _
          have hEnd := hHeld.2
          repeat (clear hHeld)
          clear hEnd i1 i2 i2'
          have g0 := h0.drew
          go_wp2_with fail
          generalize w1.drew = W0 at *
          obtain ⟨W9, hrun, g9, _⟩ := rt_copy A n c 1 7 data g0.drew HN.out rfl (by omega) (hsW.out _ g0.drew.gr)
          refine wp_region_held_drew (S := (fun w' => w'.cell? ⟨w.heap.size, 9, none⟩ = some (.slice A n c))) (by kernel_rfl) ?hS41 (fun hHeld => ?rest41)
          case hS41 => ((try dsimp only); (exact g0.m.cell 9 rfl))
          case' rest41 => skip
          refine wpAnyH_take (i := 0) (oi := _) (v := ?v42) rfl (by kernel_rfl) (by kernel_rfl) (by kernel_rfl) (fun _ _ _ h => h) (Or.inl ⟨by rfl, ?hy42⟩) (by assumption) ?rest42
          case hy42 => ((intro w hSw; (try dsimp only at hSw); go_simp) <;> with_reducible rfl)
          case' rest42 => try simp only [List.getElem_toArray, List.getElem_cons_zero, List.getElem_cons_succ, Act.put, List.setIfInBounds_toArray, List.set_cons_zero, List.set_cons_succ]
          refine wpAnyH_take (i := 1) (oi := _) (v := ?v43) rfl (by kernel_rfl) (by kernel_rfl) (by kernel_rfl) (fun _ _ _ h => h) (Or.inl ⟨by rfl, ?hy43⟩) (by assumption) ?rest43
          case hy43 => ((intro w hSw; (try dsimp only at hSw); go_simp) <;> with_reducible rfl)
          case' rest43 => try simp only [List.getElem_toArray, List.getElem_cons_zero, List.getElem_cons_succ, Act.put, List.setIfInBounds_toArray, List.set_cons_zero, List.set_cons_succ]
          refine wpAnyH_take (i := 2) (oi := _) (v := ?v44) rfl (by kernel_rfl) (by kernel_rfl) (by kernel_rfl) (fun _ _ _ h => h) (Or.inl ⟨by rfl, ?hy44⟩) (by assumption) ?rest44
          case hy44 => ((intro w hSw; (try dsimp only at hSw); go_simp) <;> with_reducible rfl)
          case' rest44 => try simp only [List.getElem_toArray, List.getElem_cons_zero, List.getElem_cons_succ, Act.put, List.setIfInBounds_toArray, List.set_cons_zero, List.set_cons_succ]
          refine wpAnyH_take (i := 3) (oi := _) (v := ?v45) rfl (by kernel_rfl) (by kernel_rfl) (by kernel_rfl) (fun _ _ _ h => h) (Or.inl ⟨by rfl, ?hy45⟩) (by assumption) ?rest45
          case hy45 => ((intro w hSw; (try dsimp only at hSw); go_simp) <;> with_reducible rfl)
          case' rest45 => try simp only [List.getElem_toArray, List.getElem_cons_zero, List.getElem_cons_succ, Act.put, List.setIfInBounds_toArray, List.set_cons_zero, List.set_cons_succ]
          refine wpAnyH_ready (rs := [4]) (by kernel_rfl) (by simp) ?_
          refine AllReadyH.cons (o := _) rfl (fun K hK => ?_) AllReadyH.nil
          go_simp
          refine hK.out _ _ ?hS48 (fun hHeld => ?rest48)
          case hS48 => ((try dsimp only); (exact g9.m.cell 9 rfl))
          case' rest48 => (clear hK K; try simp only [List.getElem_toArray, List.getElem_cons_zero, List.getElem_cons_succ, Act.put, List.setIfInBounds_toArray, List.set_cons_zero, List.set_cons_succ])
          refine wpAnyH_done (by kernel_rfl) ?_ _
          repeat (clear hHeld)
          clear zm
          clear qm_c0 qm_f0 qm_c1 qm_f1 qm_c2 qm_f2 qm_c3 qm_f3 qm_c4 qm_f4 qm_c5 qm_f5 qm_c6 qm_f6 qm_c7 qm_f7 qm_c8 qm_f8 qm_c9 qm_f9 qm_c10 qm_f10 qm_c11 qm_f11 qm_c12 qm_f12 qm_c13 qm_f13
          clear qm
          go_wp2_with fail
          go_meet
          exact ⟨by simp [rfirB, plB, IntKind.wrap_i64] <;> first | rfl | omega, by simp [rplcB], by simpa [rbodL] using g9⟩
        · have qm := h0.m
          have qm_c0 := qm.cell 0 rfl
          have qm_f0 := qm.frozen 0
          have qm_c1 := qm.cell 1 rfl
          have qm_f1 := qm.frozen 1
          have qm_c2 := qm.cell 2 rfl
          have qm_f2 := qm.frozen 2
          have qm_c3 := qm.cell 3 rfl
          have qm_f3 := qm.frozen 3
          have qm_c4 := qm.cell 4 rfl
          have qm_f4 := qm.frozen 4
          have qm_c5 := qm.cell 5 rfl
          have qm_f5 := qm.frozen 5
          have qm_c6 := qm.cell 6 rfl
          have qm_f6 := qm.frozen 6
          have qm_c7 := qm.cell 7 rfl
          have qm_f7 := qm.frozen 7
          have qm_c8 := qm.cell 8 rfl
          have qm_f8 := qm.frozen 8
          have qm_c9 := qm.cell 9 rfl
          have qm_f9 := qm.frozen 9
          have qm_c10 := qm.cell 10 rfl
          have qm_f10 := qm.frozen 10
          have qm_c11 := qm.cell 11 rfl
          have qm_f11 := qm.frozen 11
          have qm_c12 := qm.cell 12 rfl
          have qm_f12 := qm.frozen 12
          have qm_c13 := qm.cell 13 rfl
          have qm_f13 := qm.frozen 13
          have zm := qm.lt
          go_wp2_with fail
          refine wp_region_held_drew (S := (fun w' => (∀ p : Addr, p.block < (w1).heap.size → w'.cell? p = (w1).cell? p) ∧ Below (w1).heap.size (w1) w')) (by kernel_rfl) ?hS49 (fun hHeld => ?rest49)
          case hS49 => ((try dsimp only); (((try go_split_ands); refine sn_of ?_; repeat' (first | with_reducible assumption | with_reducible exact Below.refl _ _ | with_reducible apply below_alloc | with_reducible apply below_drew1 | with_reducible apply below_drewN | (with_reducible apply below_step; with_reducible assumption) | (with_reducible apply below_sg2; (first | exact Nat.le_refl _ | (simp; done) | omega))))))
          case' rest49 => skip
          refine wpAnyH_take (i := 0) (oi := _) (v := ?v50) rfl (by kernel_rfl) (by kernel_rfl) (by kernel_rfl) (fun _ _ _ h => h) (Or.inl ⟨by rfl, ?hy50⟩) (by assumption) ?rest50
          case hy50 => ((intro w hSw; (try dsimp only at hSw); go_simp) <;> with_reducible rfl)
          case' rest50 => try simp only [List.getElem_toArray, List.getElem_cons_zero, List.getElem_cons_succ, Act.put, List.setIfInBounds_toArray, List.set_cons_zero, List.set_cons_succ]
          refine wpAnyH_take (i := 1) (oi := _) (v := ?v51) rfl (by kernel_rfl) (by kernel_rfl) (by kernel_rfl) (fun _ _ _ h => h) (Or.inl ⟨by rfl, ?hy51⟩) (by assumption) ?rest51
          case hy51 => ((intro w hSw; (try dsimp only at hSw); go_simp) <;> with_reducible rfl)
          case' rest51 => try simp only [List.getElem_toArray, List.getElem_cons_zero, List.getElem_cons_succ, Act.put, List.setIfInBounds_toArray, List.set_cons_zero, List.set_cons_succ]
          refine wpAnyH_take (i := 3) (oi := _) (v := ?v52) rfl (by kernel_rfl) (by kernel_rfl) (by kernel_rfl) (fun _ _ _ h => h) (Or.inl ⟨by rfl, ?hy52⟩) (by assumption) ?rest52
          case hy52 => ((intro w hSw; (try dsimp only at hSw); go_simp) <;> with_reducible rfl)
          case' rest52 => try simp only [List.getElem_toArray, List.getElem_cons_zero, List.getElem_cons_succ, Act.put, List.setIfInBounds_toArray, List.set_cons_zero, List.set_cons_succ]
          refine wpAnyH_take (i := 4) (oi := _) (v := ?v53) rfl (by kernel_rfl) (by kernel_rfl) (by kernel_rfl) (fun _ _ _ h => h) (Or.inl ⟨by rfl, ?hy53⟩) (by assumption) ?rest53
          case hy53 => ((intro w hSw; (try dsimp only at hSw); go_simp) <;> with_reducible rfl)
          case' rest53 => try simp only [List.getElem_toArray, List.getElem_cons_zero, List.getElem_cons_succ, Act.put, List.setIfInBounds_toArray, List.set_cons_zero, List.set_cons_succ]
          refine wpAnyH_take (i := 5) (oi := _) (v := ?v54) rfl (by kernel_rfl) (by kernel_rfl) (by kernel_rfl) (fun _ _ _ h => h) (Or.inl ⟨by rfl, ?hy54⟩) (by assumption) ?rest54
          case hy54 => ((intro w hSw; (try dsimp only at hSw); go_simp) <;> with_reducible rfl)
          case' rest54 => try simp only [List.getElem_toArray, List.getElem_cons_zero, List.getElem_cons_succ, Act.put, List.setIfInBounds_toArray, List.set_cons_zero, List.set_cons_succ]
          refine wpAnyH_take (i := 6) (oi := _) (v := ?v55) rfl (by kernel_rfl) (by kernel_rfl) (by kernel_rfl) (fun _ _ _ h => h) (Or.inl ⟨by rfl, ?hy55⟩) (by assumption) ?rest55
          case hy55 => ((intro w hSw; (try dsimp only at hSw); go_simp) <;> with_reducible rfl)
          case' rest55 => try simp only [List.getElem_toArray, List.getElem_cons_zero, List.getElem_cons_succ, Act.put, List.setIfInBounds_toArray, List.set_cons_zero, List.set_cons_succ]
          refine wpAnyH_take (i := 7) (oi := _) (v := ?v56) rfl (by kernel_rfl) (by kernel_rfl) (by kernel_rfl) (fun _ _ _ h => h) (Or.inl ⟨by rfl, ?hy56⟩) (by assumption) ?rest56
          case hy56 => ((intro w hSw; (try dsimp only at hSw); go_simp) <;> with_reducible rfl)
          case' rest56 => try simp only [List.getElem_toArray, List.getElem_cons_zero, List.getElem_cons_succ, Act.put, List.setIfInBounds_toArray, List.set_cons_zero, List.set_cons_succ]
          refine wpAnyH_take (i := 9) (oi := _) (v := ?v57) rfl (by kernel_rfl) (by kernel_rfl) (by kernel_rfl) (fun _ _ _ h => h) (Or.inl ⟨by rfl, ?hy57⟩) (by assumption) ?rest57
          case hy57 => ((intro w hSw; (try dsimp only at hSw); go_simp) <;> with_reducible rfl)
          case' rest57 => try simp only [List.getElem_toArray, List.getElem_cons_zero, List.getElem_cons_succ, Act.put, List.setIfInBounds_toArray, List.set_cons_zero, List.set_cons_succ]
          refine wpAnyH_take (i := 10) (oi := _) (v := ?v58) rfl (by kernel_rfl) (by kernel_rfl) (by kernel_rfl) (fun _ _ _ h => h) (Or.inl ⟨by rfl, ?hy58⟩) (by assumption) ?rest58
          case hy58 => ((intro w hSw; (try dsimp only at hSw); go_simp) <;> with_reducible rfl)
          case' rest58 => try simp only [List.getElem_toArray, List.getElem_cons_zero, List.getElem_cons_succ, Act.put, List.setIfInBounds_toArray, List.set_cons_zero, List.set_cons_succ]
          refine wpAnyH_ready (rs := [2]) (by kernel_rfl) (by simp) ?_
          refine AllReadyH.cons (o := _) rfl (fun K hK => ?_) AllReadyH.nil
          go_simp
          refine (rsd_flag _ 16 _).mono ?_
          rintro e w3 ⟨rfl, rfl⟩
          try dsimp only
          refine hK.out _ _ ?hS61 (fun hHeld => ?rest61)
          case hS61 => ((try dsimp only); (((try go_split_ands); refine sn_of ?_; repeat' (first | with_reducible assumption | with_reducible exact Below.refl _ _ | with_reducible apply below_alloc | with_reducible apply below_drew1 | with_reducible apply below_drewN | (with_reducible apply below_step; with_reducible assumption) | (with_reducible apply below_sg2; (first | exact Nat.le_refl _ | (simp; done) | omega))))))
          case' rest61 => (clear hK K; try simp only [List.getElem_toArray, List.getElem_cons_zero, List.getElem_cons_succ, Act.put, List.setIfInBounds_toArray, List.set_cons_zero, List.set_cons_succ])
          refine wpAnyH_take (i := 8) (oi := _) (v := ?v62) rfl (by kernel_rfl) (by kernel_rfl) (by kernel_rfl) (fun _ _ _ h => h) (Or.inl ⟨by rfl, ?hy62⟩) (by assumption) ?rest62
          case hy62 => ((intro w hSw; (try dsimp only at hSw); go_simp) <;> with_reducible rfl)
          case' rest62 => try simp only [List.getElem_toArray, List.getElem_cons_zero, List.getElem_cons_succ, Act.put, List.setIfInBounds_toArray, List.set_cons_zero, List.set_cons_succ]
          refine wpAnyH_ready (rs := [11]) (by kernel_rfl) (by simp) ?_
          refine AllReadyH.cons (o := _) rfl (fun K hK => ?_) AllReadyH.nil
          go_simp
          refine (rsd_flag _ 1 _).mono ?_
          rintro e w4 ⟨rfl, rfl⟩
          try dsimp only
          refine hK.out _ _ ?hS65 (fun hHeld => ?rest65)
          case hS65 => ((try dsimp only); (((try go_split_ands); refine sn_of ?_; repeat' (first | with_reducible assumption | with_reducible exact Below.refl _ _ | with_reducible apply below_alloc | with_reducible apply below_drew1 | with_reducible apply below_drewN | (with_reducible apply below_step; with_reducible assumption) | (with_reducible apply below_sg2; (first | exact Nat.le_refl _ | (simp; done) | omega))))))
          case' rest65 => (clear hK K; try simp only [List.getElem_toArray, List.getElem_cons_zero, List.getElem_cons_succ, Act.put, List.setIfInBounds_toArray, List.set_cons_zero, List.set_cons_succ])
          refine wpAnyH_ready (rs := [12]) (by kernel_rfl) (by simp) ?_
          refine AllReadyH.cons (o := _) rfl (fun K hK => ?_) AllReadyH.nil
          go_simp
          refine hK.out _ _ ?hS68 (fun hHeld => ?rest68)
          case hS68 => ((try dsimp only); (((try go_split_ands); refine sn_of ?_; repeat' (first | with_reducible assumption | with_reducible exact Below.refl _ _ | with_reducible apply below_alloc | with_reducible apply below_drew1 | with_reducible apply below_drewN | (with_reducible apply below_step; with_reducible assumption) | (with_reducible apply below_sg2; (first | exact Nat.le_refl _ | (simp; done) | omega))))))
          case' rest68 => (clear hK K; try simp only [List.getElem_toArray, List.getElem_cons_zero, List.getElem_cons_succ, Act.put, List.setIfInBounds_toArray, List.set_cons_zero, List.set_cons_succ])
          refine wpAnyH_ready (rs := [13]) (by kernel_rfl) (by simp) ?_
          refine AllReadyH.cons (o := _) rfl (fun K hK => ?_) AllReadyH.nil
          go_simp
          refine hK.out _ _ ?hS71 (fun hHeld => ?rest71)
          case hS71 => ((try dsimp only); (((try go_split_ands); refine sn_of ?_; repeat' (first | with_reducible assumption | with_reducible exact Below.refl _ _ | with_reducible apply below_alloc | with_reducible apply below_drew1 | with_reducible apply below_drewN | (with_reducible apply below_step; with_reducible assumption) | (with_reducible apply below_sg2; (first | exact Nat.le_refl _ | (simp; done) | omega))))))
          case' rest71 => (clear hK K; try simp only [List.getElem_toArray, List.getElem_cons_zero, List.getElem_cons_succ, Act.put, List.setIfInBounds_toArray, List.set_cons_zero, List.set_cons_succ])
          refine wpAnyH_done (by kernel_rfl) ?_ _
          have hEnd := hHeld.2
          repeat (clear hHeld)
          clear hEnd i1 i2 i2'
          have g0 := h0.drew
          go_wp2_with fail
          generalize w1.drew = W0 at *
          obtain ⟨W9, hrun, g9, _⟩ := rt_copy A n c 1 7 data g0.drew HN.out rfl (by omega) (hsW.out _ g0.drew.gr)
          refine wp_region_held_drew (S := (fun w' => w'.cell? ⟨w.heap.size, 9, none⟩ = some (.slice A n c))) (by kernel_rfl) ?hS73 (fun hHeld => ?rest73)
          case hS73 => ((try dsimp only); (exact g0.m.cell 9 rfl))
          case' rest73 => skip
          refine wpAnyH_take (i := 0) (oi := _) (v := ?v74) rfl (by kernel_rfl) (by kernel_rfl) (by kernel_rfl) (fun _ _ _ h => h) (Or.inl ⟨by rfl, ?hy74⟩) (by assumption) ?rest74
          case hy74 => ((intro w hSw; (try dsimp only at hSw); go_simp) <;> with_reducible rfl)
          case' rest74 => try simp only [List.getElem_toArray, List.getElem_cons_zero, List.getElem_cons_succ, Act.put, List.setIfInBounds_toArray, List.set_cons_zero, List.set_cons_succ]
          refine wpAnyH_take (i := 1) (oi := _) (v := ?v75) rfl (by kernel_rfl) (by kernel_rfl) (by kernel_rfl) (fun _ _ _ h => h) (Or.inl ⟨by rfl, ?hy75⟩) (by assumption) ?rest75
          case hy75 => ((intro w hSw; (try dsimp only at hSw); go_simp) <;> with_reducible rfl)
          case' rest75 => try simp only [List.getElem_toArray, List.getElem_cons_zero, List.getElem_cons_succ, Act.put, List.setIfInBounds_toArray, List.set_cons_zero, List.set_cons_succ]
          refine wpAnyH_take (i := 2) (oi := _) (v := ?v76) rfl (by kernel_rfl) (by kernel_rfl) (by kernel_rfl) (fun _ _ _ h => h) (Or.inl ⟨by rfl, ?hy76⟩) (by assumption) ?rest76
          case hy76 => ((intro w hSw; (try dsimp only at hSw); go_simp) <;> with_reducible rfl)
          case' rest76 => try simp only [List.getElem_toArray, List.getElem_cons_zero, List.getElem_cons_succ, Act.put, List.setIfInBounds_toArray, List.set_cons_zero, List.set_cons_succ]
          refine wpAnyH_take (i := 3) (oi := _) (v := ?v77) rfl (by kernel_rfl) (by kernel_rfl) (by kernel_rfl) (fun _ _ _ h => h) (Or.inl ⟨by rfl, ?hy77⟩) (by assumption) ?rest77
          case hy77 => ((intro w hSw; (try dsimp only at hSw); go_simp) <;> with_reducible rfl)
          case' rest77 => try simp only [List.getElem_toArray, List.getElem_cons_zero, List.getElem_cons_succ, Act.put, List.setIfInBounds_toArray, List.set_cons_zero, List.set_cons_succ]
          refine wpAnyH_ready (rs := [4]) (by kernel_rfl) (by simp) ?_
          refine AllReadyH.cons (o := _) rfl (fun K hK => ?_) AllReadyH.nil
          go_simp
          refine hK.out _ _ ?hS80 (fun hHeld => ?rest80)
          case hS80 => ((try dsimp only); (exact g9.m.cell 9 rfl))
          case' rest80 => (clear hK K; try simp only [List.getElem_toArray, List.getElem_cons_zero, List.getElem_cons_succ, Act.put, List.setIfInBounds_toArray, List.set_cons_zero, List.set_cons_succ])
          refine wpAnyH_done (by kernel_rfl) ?_ _
          repeat (clear hHeld)
          clear zm
          clear qm_c0 qm_f0 qm_c1 qm_f1 qm_c2 qm_f2 qm_c3 qm_f3 qm_c4 qm_f4 qm_c5 qm_f5 qm_c6 qm_f6 qm_c7 qm_f7 qm_c8 qm_f8 qm_c9 qm_f9 qm_c10 qm_f10 qm_c11 qm_f11 qm_c12 qm_f12 qm_c13 qm_f13
          clear qm
          go_wp2_with fail
          go_meet
          exact ⟨by simp [rfirB, plB, IntKind.wrap_i64] <;> first | rfl | omega, by simp [rplcB], by simpa [rbodL] using g9⟩
      · cases la
        · have qm := h0.m
          have qm_c0 := qm.cell 0 rfl
          have qm_f0 := qm.frozen 0
          have qm_c1 := qm.cell 1 rfl
          have qm_f1 := qm.frozen 1
          have qm_c2 := qm.cell 2 rfl
          have qm_f2 := qm.frozen 2
          have qm_c3 := qm.cell 3 rfl
          have qm_f3 := qm.frozen 3
          have qm_c4 := qm.cell 4 rfl
          have qm_f4 := qm.frozen 4
          have qm_c5 := qm.cell 5 rfl
          have qm_f5 := qm.frozen 5
          have qm_c6 := qm.cell 6 rfl
          have qm_f6 := qm.frozen 6
          have qm_c7 := qm.cell 7 rfl
          have qm_f7 := qm.frozen 7
          have qm_c8 := qm.cell 8 rfl
          have qm_f8 := qm.frozen 8
          have qm_c9 := qm.cell 9 rfl
          have qm_f9 := qm.frozen 9
          have qm_c10 := qm.cell 10 rfl
          have qm_f10 := qm.frozen 10
          have qm_c11 := qm.cell 11 rfl
          have qm_f11 := qm.frozen 11
          have qm_c12 := qm.cell 12 rfl
          have qm_f12 := qm.frozen 12
          have qm_c13 := qm.cell 13 rfl
          have qm_f13 := qm.frozen 13
          have zm := qm.lt
          go_wp2_with fail
          refine wp_region_held_drew (S := (fun w' => (∀ p : Addr, p.block < (w1).heap.size → w'.cell? p = (w1).cell? p) ∧ Below (w1).heap.size (w1) w')) (by kernel_rfl) ?hS81 (fun hHeld => ?rest81)
          case hS81 => ((try dsimp only); (((try go_split_ands); refine sn_of ?_; repeat' (first | with_reducible assumption | with_reducible exact Below.refl _ _ | with_reducible apply below_alloc | with_reducible apply below_drew1 | with_reducible apply below_drewN | (with_reducible apply below_step; with_reducible assumption) | (with_reducible apply below_sg2; (first | exact Nat.le_refl _ | (simp; done) | omega))))))
          case' rest81 => skip
          refine wpAnyH_take (i := 0) (oi := _) (v := ?v82) rfl (by kernel_rfl) (by kernel_rfl) (by kernel_rfl) (fun _ _ _ h => h) (Or.inl ⟨by rfl, ?hy82⟩) (by assumption) ?rest82
          case hy82 => ((intro w hSw; (try dsimp only at hSw); go_simp) <;> with_reducible rfl)
          case' rest82 => try simp only [List.getElem_toArray, List.getElem_cons_zero, List.getElem_cons_succ, Act.put, List.setIfInBounds_toArray, List.set_cons_zero, List.set_cons_succ]
          refine wpAnyH_take (i := 1) (oi := _) (v := ?v83) rfl (by kernel_rfl) (by kernel_rfl) (by kernel_rfl) (fun _ _ _ h => h) (Or.inl ⟨by rfl, ?hy83⟩) (by assumption) ?rest83
          case hy83 => ((intro w hSw; (try dsimp only at hSw); go_simp) <;> with_reducible rfl)
          case' rest83 => try simp only [List.getElem_toArray, List.getElem_cons_zero, List.getElem_cons_succ, Act.put, List.setIfInBounds_toArray, List.set_cons_zero, List.set_cons_succ]
          refine wpAnyH_take (i := 3) (oi := _) (v := ?v84) rfl (by kernel_rfl) (by kernel_rfl) (by kernel_rfl) (fun _ _ _ h => h) (Or.inl ⟨by rfl, ?hy84⟩) (by assumption) ?rest84
          case hy84 => ((intro w hSw; (try dsimp only at hSw); go_simp) <;> with_reducible rfl)
          case' rest84 => try simp only [List.getElem_toArray, List.getElem_cons_zero, List.getElem_cons_succ, Act.put, List.setIfInBounds_toArray, List.set_cons_zero, List.set_cons_succ]
          refine wpAnyH_take (i := 4) (oi := _) (v := ?v85) rfl (by kernel_rfl) (by kernel_rfl) (by kernel_rfl) (fun _ _ _ h => h) (Or.inl ⟨by rfl, ?hy85⟩) (by assumption) ?rest85
          case hy85 => ((intro w hSw; (try dsimp only at hSw); go_simp) <;> with_reducible rfl)
          case' rest85 => try simp only [List.getElem_toArray, List.getElem_cons_zero, List.getElem_cons_succ, Act.put, List.setIfInBounds_toArray, List.set_cons_zero, List.set_cons_succ]
          refine wpAnyH_take (i := 5) (oi := _) (v := ?v86) rfl (by kernel_rfl) (by kernel_rfl) (by kernel_rfl) (fun _ _ _ h => h) (Or.inl ⟨by rfl, ?hy86⟩) (by assumption) ?rest86
          case hy86 => ((intro w hSw; (try dsimp only at hSw); go_simp) <;> with_reducible rfl)
          case' rest86 => try simp only [List.getElem_toArray, List.getElem_cons_zero, List.getElem_cons_succ, Act.put, List.setIfInBounds_toArray, List.set_cons_zero, List.set_cons_succ]
          refine wpAnyH_take (i := 6) (oi := _) (v := ?v87) rfl (by kernel_rfl) (by kernel_rfl) (by kernel_rfl) (fun _ _ _ h => h) (Or.inl ⟨by rfl, ?hy87⟩) (by assumption) ?rest87
          case hy87 => ((intro w hSw; (try dsimp only at hSw); go_simp) <;> with_reducible rfl)
          case' rest87 => try simp only [List.getElem_toArray, List.getElem_cons_zero, List.getElem_cons_succ, Act.put, List.setIfInBounds_toArray, List.set_cons_zero, List.set_cons_succ]
          refine wpAnyH_take (i := 7) (oi := _) (v := ?v88) rfl (by kernel_rfl) (by kernel_rfl) (by kernel_rfl) (fun _ _ _ h => h) (Or.inl ⟨by rfl, ?hy88⟩) (by assumption) ?rest88
          case hy88 => ((intro w hSw; (try dsimp only at hSw); go_simp) <;> with_reducible rfl)
          case' rest88 => try simp only [List.getElem_toArray, List.getElem_cons_zero, List.getElem_cons_succ, Act.put, List.setIfInBounds_toArray, List.set_cons_zero, List.set_cons_succ]
          refine wpAnyH_take (i := 9) (oi := _) (v := ?v89) rfl (by kernel_rfl) (by kernel_rfl) (by kernel_rfl) (fun _ _ _ h => h) (Or.inl ⟨by rfl, ?hy89⟩) (by assumption) ?rest89
          case hy89 => ((intro w hSw; (try dsimp only at hSw); go_simp) <;> with_reducible rfl)
          case' rest89 => try simp only [List.getElem_toArray, List.getElem_cons_zero, List.getElem_cons_succ, Act.put, List.setIfInBounds_toArray, List.set_cons_zero, List.set_cons_succ]
          refine wpAnyH_take (i := 10) (oi := _) (v := ?v90) rfl (by kernel_rfl) (by kernel_rfl) (by kernel_rfl) (fun _ _ _ h => h) (Or.inl ⟨by rfl, ?hy90⟩) (by assumption) ?rest90
          case hy90 => ((intro w hSw; (try dsimp only at hSw); go_simp) <;> with_reducible rfl)
          case' rest90 => try simp only [List.getElem_toArray, List.getElem_cons_zero, List.getElem_cons_succ, Act.put, List.setIfInBounds_toArray, List.set_cons_zero, List.set_cons_succ]
          refine wpAnyH_ready (rs := [2]) (by kernel_rfl) (by simp) ?_
          refine AllReadyH.cons (o := _) rfl (fun K hK => ?_) AllReadyH.nil
          go_simp
          refine (rsd_flag _ 16 _).mono ?_
          rintro e w3 ⟨rfl, rfl⟩
          try dsimp only
          refine hK.out _ _ ?hS93 (fun hHeld => ?rest93)
          case hS93 => ((try dsimp only); (((try go_split_ands); refine sn_of ?_; repeat' (first | with_reducible assumption | with_reducible exact Below.refl _ _ | with_reducible apply below_alloc | with_reducible apply below_drew1 | with_reducible apply below_drewN | (with_reducible apply below_step; with_reducible assumption) | (with_reducible apply below_sg2; (first | exact Nat.le_refl _ | (simp; done) | omega))))))
          case' rest93 => (clear hK K; try simp only [List.getElem_toArray, List.getElem_cons_zero, List.getElem_cons_succ, Act.put, List.setIfInBounds_toArray, List.set_cons_zero, List.set_cons_succ])
          refine wpAnyH_take (i := 8) (oi := _) (v := ?v94) rfl (by kernel_rfl) (by kernel_rfl) (by kernel_rfl) (fun _ _ _ h => h) (Or.inl ⟨by rfl, ?hy94⟩) (by assumption) ?rest94
          case hy94 => ((intro w hSw; (try dsimp only at hSw); go_simp) <;> with_reducible rfl)
          case' rest94 => try simp only [List.getElem_toArray, List.getElem_cons_zero, List.getElem_cons_succ, Act.put, List.setIfInBounds_toArray, List.set_cons_zero, List.set_cons_succ]
          refine wpAnyH_ready (rs := [11]) (by kernel_rfl) (by simp) ?_
          refine AllReadyH.cons (o := _) rfl (fun K hK => ?_) AllReadyH.nil
          go_simp
          refine (rsd_flag _ 1 _).mono ?_
          rintro e w4 ⟨rfl, rfl⟩
          try dsimp only
          refine hK.out _ _ ?hS97 (fun hHeld => ?rest97)
          case hS97 => ((try dsimp only); (((try go_split_ands); refine sn_of ?_; repeat' (first | with_reducible assumption | with_reducible exact Below.refl _ _ | with_reducible apply below_alloc | with_reducible apply below_drew1 | with_reducible apply below_drewN | (with_reducible apply below_step; with_reducible assumption) | (with_reducible apply below_sg2; (first | exact Nat.le_refl _ | (simp; done) | omega))))))
          case' rest97 => (clear hK K; try simp only [List.getElem_toArray, List.getElem_cons_zero, List.getElem_cons_succ, Act.put, List.setIfInBounds_toArray, List.set_cons_zero, List.set_cons_succ])
          refine wpAnyH_ready (rs := [12]) (by kernel_rfl) (by simp) ?_
          refine AllReadyH.cons (o := _) rfl (fun K hK => ?_) AllReadyH.nil
          go_simp
          refine hK.out _ _ ?hS100 (fun hHeld => ?rest100)
          case hS100 => ((try dsimp only); (((try go_split_ands); refine sn_of ?_; repeat' (first | with_reducible assumption | with_reducible exact Below.refl _ _ | with_reducible apply below_alloc | with_reducible apply below_drew1 | with_reducible apply below_drewN | (with_reducible apply below_step; with_reducible assumption) | (with_reducible apply below_sg2; (first | exact Nat.le_refl _ | (simp; done) | omega))))))
          case' rest100 => (clear hK K; try simp only [List.getElem_toArray, List.getElem_cons_zero, List.getElem_cons_succ, Act.put, List.setIfInBounds_toArray, List.set_cons_zero, List.set_cons_succ])
          refine wpAnyH_ready (rs := [13]) (by kernel_rfl) (by simp) ?_
          refine AllReadyH.cons (o := _) rfl (fun K hK => ?_) AllReadyH.nil
          go_simp
          refine hK.out _ _ ?hS103 (fun hHeld => ?rest103)
          case hS103 => ((try dsimp only); (((try go_split_ands); refine sn_of ?_; repeat' (first | with_reducible assumption | with_reducible exact Below.refl _ _ | with_reducible apply below_alloc | with_reducible apply below_drew1 | with_reducible apply below_drewN | (with_reducible apply below_step; with_reducible assumption) | (with_reducible apply below_sg2; (first | exact Nat.le_refl _ | (simp; done) | omega))))))
          case' rest103 => (clear hK K; try simp only [List.getElem_toArray, List.getElem_cons_zero, List.getElem_cons_succ, Act.put, List.setIfInBounds_toArray, List.set_cons_zero, List.set_cons_succ])
          refine wpAnyH_done (by kernel_rfl) ?_ _
          have hEnd := hHeld.2
          repeat (clear hHeld)
          clear hEnd i1 i2 i2'
          have g0 := h0.drew
          go_wp2_with fail
          generalize w1.drew = W0 at *
          obtain ⟨W9, hrun, g9, _⟩ := rt_copy A n c 1 7 data g0.drew HN.out rfl (by omega) (hsW.out _ g0.drew.gr)
          refine wp_region_held_drew (S := (fun w' => w'.cell? ⟨w.heap.size, 9, none⟩ = some (.slice A n c))) (by kernel_rfl) ?hS105 (fun hHeld => ?rest105)
          case hS105 => ((try dsimp only); (exact g0.m.cell 9 rfl))
          case' rest105 => skip
          refine wpAnyH_take (i := 0) (oi := _) (v := ?v106) rfl (by kernel_rfl) (by kernel_rfl) (by kernel_rfl) (fun _ _ _ h => h) (Or.inl ⟨by rfl, ?hy106⟩) (by assumption) ?rest106
          case hy106 => ((intro w hSw; (try dsimp only at hSw); go_simp) <;> with_reducible rfl)
          case' rest106 => try simp only [List.getElem_toArray, List.getElem_cons_zero, List.getElem_cons_succ, Act.put, List.setIfInBounds_toArray, List.set_cons_zero, List.set_cons_succ]
          refine wpAnyH_take (i := 1) (oi := _) (v := ?v107) rfl (by kernel_rfl) (by kernel_rfl) (by kernel_rfl) (fun _ _ _ h => h) (Or.inl ⟨by rfl, ?hy107⟩) (by assumption) ?rest107
          case hy107 => ((intro w hSw; (try dsimp only at hSw); go_simp) <;> with_reducible rfl)
          case' rest107 => try simp only [List.getElem_toArray, List.getElem_cons_zero, List.getElem_cons_succ, Act.put, List.setIfInBounds_toArray, List.set_cons_zero, List.set_cons_succ]
          refine wpAnyH_take (i := 2) (oi := _) (v := ?v108) rfl (by kernel_rfl) (by kernel_rfl) (by kernel_rfl) (fun _ _ _ h => h) (Or.inl ⟨by rfl, ?hy108⟩) (by assumption) ?rest108
          case hy108 => ((intro w hSw; (try dsimp only at hSw); go_simp) <;> with_reducible rfl)
          case' rest108 => try simp only [List.getElem_toArray, List.getElem_cons_zero, List.getElem_cons_succ, Act.put, List.setIfInBounds_toArray, List.set_cons_zero, List.set_cons_succ]
          refine wpAnyH_take (i := 3) (oi := _) (v := ?v109) rfl (by kernel_rfl) (by kernel_rfl) (by kernel_rfl) (fun _ _ _ h => h) (Or.inl ⟨by rfl, ?hy109⟩) (by assumption) ?rest109
          case hy109 => ((intro w hSw; (try dsimp only at hSw); go_simp) <;> with_reducible rfl)
          case' rest109 => try simp only [List.getElem_toArray, List.getElem_cons_zero, List.getElem_cons_succ, Act.put, List.setIfInBounds_toArray, List.set_cons_zero, List.set_cons_succ]
          refine wpAnyH_ready (rs := [4]) (by kernel_rfl) (by simp) ?_
          refine AllReadyH.cons (o := _) rfl (fun K hK => ?_) AllReadyH.nil
          go_simp
          refine hK.out _ _ ?hS112 (fun hHeld => ?rest112)
          case hS112 => ((try dsimp only); (exact g9.m.cell 9 rfl))
          case' rest112 => (clear hK K; try simp only [List.getElem_toArray, List.getElem_cons_zero, List.getElem_cons_succ, Act.put, List.setIfInBounds_toArray, List.set_cons_zero, List.set_cons_succ])
          refine wpAnyH_done (by kernel_rfl) ?_ _
          repeat (clear hHeld)
          clear zm
          clear qm_c0 qm_f0 qm_c1 qm_f1 qm_c2 qm_f2 qm_c3 qm_f3 qm_c4 qm_f4 qm_c5 qm_f5 qm_c6 qm_f6 qm_c7 qm_f7 qm_c8 qm_f8 qm_c9 qm_f9 qm_c10 qm_f10 qm_c11 qm_f11 qm_c12 qm_f12 qm_c13 qm_f13
          clear qm
          go_wp2_with fail
          go_meet
          exact ⟨by simp [rfirB, plB, IntKind.wrap_i64] <;> first | rfl | omega, by simp [rplcB], by simpa [rbodL] using g9⟩
        · have qm := h0.m
          have qm_c0 := qm.cell 0 rfl
          have qm_f0 := qm.frozen 0
          have qm_c1 := qm.cell 1 rfl
          have qm_f1 := qm.frozen 1
          have qm_c2 := qm.cell 2 rfl
          have qm_f2 := qm.frozen 2
          have qm_c3 := qm.cell 3 rfl
          have qm_f3 := qm.frozen 3
          have qm_c4 := qm.cell 4 rfl
          have qm_f4 := qm.frozen 4
          have qm_c5 := qm.cell 5 rfl
          have qm_f5 := qm.frozen 5
          have qm_c6 := qm.cell 6 rfl
          have qm_f6 := qm.frozen 6
          have qm_c7 := qm.cell 7 rfl
          have qm_f7 := qm.frozen 7
          have qm_c8 := qm.cell 8 rfl
          have qm_f8 := qm.frozen 8
          have qm_c9 := qm.cell 9 rfl
          have qm_f9 := qm.frozen 9
          have qm_c10 := qm.cell 10 rfl
          have qm_f10 := qm.frozen 10
          have qm_c11 := qm.cell 11 rfl
          have qm_f11 := qm.frozen 11
          have qm_c12 := qm.cell 12 rfl
          have qm_f12 := qm.frozen 12
          have qm_c13 := qm.cell 13 rfl
          have qm_f13 := qm.frozen 13
          have zm := qm.lt
          go_wp2_with fail
          refine wp_region_held_drew (S := (fun w' => (∀ p : Addr, p.block < (w1).heap.size → w'.cell? p = (w1).cell? p) ∧ Below (w1).heap.size (w1) w')) (by kernel_rfl) ?hS113 (fun hHeld => ?rest113)
          case hS113 => ((try dsimp only); (((try go_split_ands); refine sn_of ?_; repeat' (first | with_reducible assumption | with_reducible exact Below.refl _ _ | with_reducible apply below_alloc | with_reducible apply below_drew1 | with_reducible apply below_drewN | (with_reducible apply below_step; with_reducible assumption) | (with_reducible apply below_sg2; (first | exact Nat.le_refl _ | (simp; done) | omega))))))
          case' rest113 => skip
          refine wpAnyH_take (i := 0) (oi := _) (v := ?v114) rfl (by kernel_rfl) (by kernel_rfl) (by kernel_rfl) (fun _ _ _ h => h) (Or.inl ⟨by rfl, ?hy114⟩) (by assumption) ?rest114
          case hy114 => ((intro w hSw; (try dsimp only at hSw); go_simp) <;> with_reducible rfl)
          case' rest114 => try simp only [List.getElem_toArray, List.getElem_cons_zero, List.getElem_cons_succ, Act.put, List.setIfInBounds_toArray, List.set_cons_zero, List.set_cons_succ]
          refine wpAnyH_take (i := 1) (oi := _) (v := ?v115) rfl (by kernel_rfl) (by kernel_rfl) (by kernel_rfl) (fun _ _ _ h => h) (Or.inl ⟨by rfl, ?hy115⟩) (by assumption) ?rest115
          case hy115 => ((intro w hSw; (try dsimp only at hSw); go_simp) <;> with_reducible rfl)
          case' rest115 => try simp only [List.getElem_toArray, List.getElem_cons_zero, List.getElem_cons_succ, Act.put, List.setIfInBounds_toArray, List.set_cons_zero, List.set_cons_succ]
          refine wpAnyH_take (i := 3) (oi := _) (v := ?v116) rfl (by kernel_rfl) (by kernel_rfl) (by kernel_rfl) (fun _ _ _ h => h) (Or.inl ⟨by rfl, ?hy116⟩) (by assumption) ?rest116
          case hy116 => ((intro w hSw; (try dsimp only at hSw); go_simp) <;> with_reducible rfl)
          case' rest116 => try simp only [List.getElem_toArray, List.getElem_cons_zero, List.getElem_cons_succ, Act.put, List.setIfInBounds_toArray, List.set_cons_zero, List.set_cons_succ]
          refine wpAnyH_take (i := 4) (oi := _) (v := ?v117) rfl (by kernel_rfl) (by kernel_rfl) (by kernel_rfl) (fun _ _ _ h => h) (Or.inl ⟨by rfl, ?hy117⟩) (by assumption) ?rest117
          case hy117 => ((intro w hSw; (try dsimp only at hSw); go_simp) <;> with_reducible rfl)
          case' rest117 => try simp only [List.getElem_toArray, List.getElem_cons_zero, List.getElem_cons_succ, Act.put, List.setIfInBounds_toArray, List.set_cons_zero, List.set_cons_succ]
          refine wpAnyH_take (i := 5) (oi := _) (v := ?v118) rfl (by kernel_rfl) (by kernel_rfl) (by kernel_rfl) (fun _ _ _ h => h) (Or.inl ⟨by rfl, ?hy118⟩) (by assumption) ?rest118
          case hy118 => ((intro w hSw; (try dsimp only at hSw); go_simp) <;> with_reducible rfl)
          case' rest118 => try simp only [List.getElem_toArray, List.getElem_cons_zero, List.getElem_cons_succ, Act.put, List.setIfInBounds_toArray, List.set_cons_zero, List.set_cons_succ]
          refine wpAnyH_take (i := 6) (oi := _) (v := ?v119) rfl (by kernel_rfl) (by kernel_rfl) (by kernel_rfl) (fun _ _ _ h => h) (Or.inl ⟨by rfl, ?hy119⟩) (by assumption) ?rest119
          case hy119 => ((intro w hSw; (try dsimp only at hSw); go_simp) <;> with_reducible rfl)
          case' rest119 => try simp only [List.getElem_toArray, List.getElem_cons_zero, List.getElem_cons_succ, Act.put, List.setIfInBounds_toArray, List.set_cons_zero, List.set_cons_succ]
          refine wpAnyH_take (i := 7) (oi := _) (v := ?v120) rfl (by kernel_rfl) (by kernel_rfl) (by kernel_rfl) (fun _ _ _ h => h) (Or.inl ⟨by rfl, ?hy120⟩) (by assumption) ?rest120
          case hy120 => ((intro w hSw; (try dsimp only at hSw); go_simp) <;> with_reducible rfl)
          case' rest120 => try simp only [List.getElem_toArray, List.getElem_cons_zero, List.getElem_cons_succ, Act.put, List.setIfInBounds_toArray, List.set_cons_zero, List.set_cons_succ]
          refine wpAnyH_take (i := 9) (oi := _) (v := ?v121) rfl (by kernel_rfl) (by kernel_rfl) (by kernel_rfl) (fun _ _ _ h => h) (Or.inl ⟨by rfl, ?hy121⟩) (by assumption) ?rest121
          case hy121 => ((intro w hSw; (try dsimp only at hSw); go_simp) <;> with_reducible rfl)
          case' rest121 => try simp only [List.getElem_toArray, List.getElem_cons_zero, List.getElem_cons_succ, Act.put, List.setIfInBounds_toArray, List.set_cons_zero, List.set_cons_succ]
          refine wpAnyH_take (i := 10) (oi := _) (v := ?v122) rfl (by kernel_rfl) (by kernel_rfl) (by kernel_rfl) (fun _ _ _ h => h) (Or.inl ⟨by rfl, ?hy122⟩) (by assumption) ?rest122
          case hy122 => ((intro w hSw; (try dsimp only at hSw); go_simp) <;> with_reducible rfl)
          case' rest122 => try simp only [List.getElem_toArray, List.getElem_cons_zero, List.getElem_cons_succ, Act.put, List.setIfInBounds_toArray, List.set_cons_zero, List.set_cons_succ]
          refine wpAnyH_ready (rs := [2]) (by kernel_rfl) (by simp) ?_
          refine AllReadyH.cons (o := _) rfl (fun K hK => ?_) AllReadyH.nil
          go_simp
          refine (rsd_flag _ 16 _).mono ?_
          rintro e w3 ⟨rfl, rfl⟩
          try dsimp only
          refine hK.out _ _ ?hS125 (fun hHeld => ?rest125)
          case hS125 => ((try dsimp only); (((try go_split_ands); refine sn_of ?_; repeat' (first | with_reducible assumption | with_reducible exact Below.refl _ _ | with_reducible apply below_alloc | with_reducible apply below_drew1 | with_reducible apply below_drewN | (with_reducible apply below_step; with_reducible assumption) | (with_reducible apply below_sg2; (first | exact Nat.le_refl _ | (simp; done) | omega))))))
          case' rest125 => (clear hK K; try simp only [List.getElem_toArray, List.getElem_cons_zero, List.getElem_cons_succ, Act.put, List.setIfInBounds_toArray, List.set_cons_zero, List.set_cons_succ])
          refine wpAnyH_take (i := 8) (oi := _) (v := ?v126) rfl (by kernel_rfl) (by kernel_rfl) (by kernel_rfl) (fun _ _ _ h => h) (Or.inl ⟨by rfl, ?hy126⟩) (by assumption) ?rest126
          case hy126 => ((intro w hSw; (try dsimp only at hSw); go_simp) <;> with_reducible rfl)
          case' rest126 => try simp only [List.getElem_toArray, List.getElem_cons_zero, List.getElem_cons_succ, Act.put, List.setIfInBounds_toArray, List.set_cons_zero, List.set_cons_succ]
          refine wpAnyH_ready (rs := [11]) (by kernel_rfl) (by simp) ?_
          refine AllReadyH.cons (o := _) rfl (fun K hK => ?_) AllReadyH.nil
          go_simp
          refine (rsd_flag _ 1 _).mono ?_
          rintro e w4 ⟨rfl, rfl⟩
          try dsimp only
          refine hK.out _ _ ?hS129 (fun hHeld => ?rest129)
          case hS129 => ((try dsimp only); (((try go_split_ands); refine sn_of ?_; repeat' (first | with_reducible assumption | with_reducible exact Below.refl _ _ | with_reducible apply below_alloc | with_reducible apply below_drew1 | with_reducible apply below_drewN | (with_reducible apply below_step; with_reducible assumption) | (with_reducible apply below_sg2; (first | exact Nat.le_refl _ | (simp; done) | omega))))))
          case' rest129 => (clear hK K; try simp only [List.getElem_toArray, List.getElem_cons_zero, List.getElem_cons_succ, Act.put, List.setIfInBounds_toArray, List.set_cons_zero, List.set_cons_succ])
          refine wpAnyH_ready (rs := [12]) (by kernel_rfl) (by simp) ?_
          refine AllReadyH.cons (o := _) rfl (fun K hK => ?_) AllReadyH.nil
          go_simp
          refine hK.out _ _ ?hS132 (fun hHeld => ?rest132)
          case hS132 => ((try dsimp only); (((try go_split_ands); refine sn_of ?_; repeat' (first | with_reducible assumption | with_reducible exact Below.refl _ _ | with_reducible apply below_alloc | with_reducible apply below_drew1 | with_reducible apply below_drewN | (with_reducible apply below_step; with_reducible assumption) | (with_reducible apply below_sg2; (first | exact Nat.le_refl _ | (simp; done) | omega))))))
          case' rest132 => (clear hK K; try simp only [List.getElem_toArray, List.getElem_cons_zero, List.getElem_cons_succ, Act.put, List.setIfInBounds_toArray, List.set_cons_zero, List.set_cons_succ])
          refine wpAnyH_ready (rs := [13]) (by kernel_rfl) (by simp) ?_
          refine AllReadyH.cons (o := _) rfl (fun K hK => ?_) AllReadyH.nil
          go_simp
          refine hK.out _ _ ?hS135 (fun hHeld => ?rest135)
          case hS135 => ((try dsimp only); (((try go_split_ands); refine sn_of ?_; repeat' (first | with_reducible assumption | with_reducible exact Below.refl _ _ | with_reducible apply below_alloc | with_reducible apply below_drew1 | with_reducible apply below_drewN | (with_reducible apply below_step; with_reducible assumption) | (with_reducible apply below_sg2; (first | exact Nat.le_refl _ | (simp; done) | omega))))))
          case' rest135 => (clear hK K; try simp only [List.getElem_toArray, List.getElem_cons_zero, List.getElem_cons_succ, Act.put, List.setIfInBounds_toArray, List.set_cons_zero, List.set_cons_succ])
          refine wpAnyH_done (by kernel_rfl) ?_ _
          have hEnd := hHeld.2
          repeat (clear hHeld)
          clear hEnd i1 i2 i2'
          have g0 := h0.drew
          go_wp2_with fail
          generalize w1.drew = W0 at *
          obtain ⟨W9, hrun, g9, _⟩ := rt_copy A n c 1 7 data g0.drew HN.out rfl (by omega) (hsW.out _ g0.drew.gr)
          refine wp_region_held_drew (S := (fun w' => w'.cell? ⟨w.heap.size, 9, none⟩ = some (.slice A n c))) (by kernel_rfl) ?hS137 (fun hHeld => ?rest137)
          case hS137 => ((try dsimp only); (exact g0.m.cell 9 rfl))
          case' rest137 => skip
          refine wpAnyH_take (i := 0) (oi := _) (v := ?v138) rfl (by kernel_rfl) (by kernel_rfl) (by kernel_rfl) (fun _ _ _ h => h) (Or.inl ⟨by rfl, ?hy138⟩) (by assumption) ?rest138
          case hy138 => ((intro w hSw; (try dsimp only at hSw); go_simp) <;> with_reducible rfl)
          case' rest138 => try simp only [List.getElem_toArray, List.getElem_cons_zero, List.getElem_cons_succ, Act.put, List.setIfInBounds_toArray, List.set_cons_zero, List.set_cons_succ]
          refine wpAnyH_take (i := 1) (oi := _) (v := ?v139) rfl (by kernel_rfl) (by kernel_rfl) (by kernel_rfl) (fun _ _ _ h => h) (Or.inl ⟨by rfl, ?hy139⟩) (by assumption) ?rest139
          case hy139 => ((intro w hSw; (try dsimp only at hSw); go_simp) <;> with_reducible rfl)
          case' rest139 => try simp only [List.getElem_toArray, List.getElem_cons_zero, List.getElem_cons_succ, Act.put, List.setIfInBounds_toArray, List.set_cons_zero, List.set_cons_succ]
          refine wpAnyH_take (i := 2) (oi := _) (v := ?v140) rfl (by kernel_rfl) (by kernel_rfl) (by kernel_rfl) (fun _ _ _ h => h) (Or.inl ⟨by rfl, ?hy140⟩) (by assumption) ?rest140
          case hy140 => ((intro w hSw; (try dsimp only at hSw); go_simp) <;> with_reducible rfl)
          case' rest140 => try simp only [List.getElem_toArray, List.getElem_cons_zero, List.getElem_cons_succ, Act.put, List.setIfInBounds_toArray, List.set_cons_zero, List.set_cons_succ]
          refine wpAnyH_take (i := 3) (oi := _) (v := ?v141) rfl (by kernel_rfl) (by kernel_rfl) (by kernel_rfl) (fun _ _ _ h => h) (Or.inl ⟨by rfl, ?hy141⟩) (by assumption) ?rest141
          case hy141 => ((intro w hSw; (try dsimp only at hSw); go_simp) <;> with_reducible rfl)
          case' rest141 => try simp only [List.getElem_toArray, List.getElem_cons_zero, List.getElem_cons_succ, Act.put, List.setIfInBounds_toArray, List.set_cons_zero, List.set_cons_succ]
          refine wpAnyH_ready (rs := [4]) (by kernel_rfl) (by simp) ?_
          refine AllReadyH.cons (o := _) rfl (fun K hK => ?_) AllReadyH.nil
          go_simp
          refine hK.out _ _ ?hS144 (fun hHeld => ?rest144)
          case hS144 => ((try dsimp only); (exact g9.m.cell 9 rfl))
          case' rest144 => (clear hK K; try simp only [List.getElem_toArray, List.getElem_cons_zero, List.getElem_cons_succ, Act.put, List.setIfInBounds_toArray, List.set_cons_zero, List.set_cons_succ])
          refine wpAnyH_done (by kernel_rfl) ?_ _
          repeat (clear hHeld)
          clear zm
          clear qm_c0 qm_f0 qm_c1 qm_f1 qm_c2 qm_f2 qm_c3 qm_f3 qm_c4 qm_f4 qm_c5 qm_f5 qm_c6 qm_f6 qm_c7 qm_f7 qm_c8 qm_f8 qm_c9 qm_f9 qm_c10 qm_f10 qm_c11 qm_f11 qm_c12 qm_f12 qm_c13 qm_f13
          clear qm
          go_wp2_with fail
          go_meet
          exact ⟨by simp [rfirB, plB, IntKind.wrap_i64] <;> first | rfl | omega, by simp [rplcB], by simpa [rbodL] using g9⟩
    · have qm := h0.m
      have qm_c0 := qm.cell 0 rfl
      have qm_f0 := qm.frozen 0
      have qm_c1 := qm.cell 1 rfl
      have qm_f1 := qm.frozen 1
      have qm_c2 := qm.cell 2 rfl
      have qm_f2 := qm.frozen 2
      have qm_c3 := qm.cell 3 rfl
      have qm_f3 := qm.frozen 3
      have qm_c4 := qm.cell 4 rfl
      have qm_f4 := qm.frozen 4
      have qm_c5 := qm.cell 5 rfl
      have qm_f5 := qm.frozen 5
      have qm_c6 := qm.cell 6 rfl
      have qm_f6 := qm.frozen 6
      have qm_c7 := qm.cell 7 rfl
      have qm_f7 := qm.frozen 7
      have qm_c8 := qm.cell 8 rfl
      have qm_f8 := qm.frozen 8
      have qm_c9 := qm.cell 9 rfl
      have qm_f9 := qm.frozen 9
      have qm_c10 := qm.cell 10 rfl
      have qm_f10 := qm.frozen 10
      have qm_c11 := qm.cell 11 rfl
      have qm_f11 := qm.frozen 11
      have qm_c12 := qm.cell 12 rfl
      have qm_f12 := qm.frozen 12
      have qm_c13 := qm.cell 13 rfl
      have qm_f13 := qm.frozen 13
      have zm := qm.lt
      go_wp2_with fail
      go_meet
      exact ⟨by simp [rfirB, plB] <;> first | rfl | omega, by simp [rplcB], by simpa [rbodL] using h0⟩
    · cases tg
      · have qm := h0.m
        have qm_c0 := qm.cell 0 rfl
        have qm_f0 := qm.frozen 0
        have qm_c1 := qm.cell 1 rfl
        have qm_f1 := qm.frozen 1
        have qm_c2 := qm.cell 2 rfl
        have qm_f2 := qm.frozen 2
        have qm_c3 := qm.cell 3 rfl
        have qm_f3 := qm.frozen 3
        have qm_c4 := qm.cell 4 rfl
        have qm_f4 := qm.frozen 4
        have qm_c5 := qm.cell 5 rfl
        have qm_f5 := qm.frozen 5
        have qm_c6 := qm.cell 6 rfl
        have qm_f6 := qm.frozen 6
        have qm_c7 := qm.cell 7 rfl
        have qm_f7 := qm.frozen 7
        have qm_c8 := qm.cell 8 rfl
        have qm_f8 := qm.frozen 8
        have qm_c9 := qm.cell 9 rfl
        have qm_f9 := qm.frozen 9
        have qm_c10 := qm.cell 10 rfl
        have qm_f10 := qm.frozen 10
        have qm_c11 := qm.cell 11 rfl
        have qm_f11 := qm.frozen 11
        have qm_c12 := qm.cell 12 rfl
        have qm_f12 := qm.frozen 12
        have qm_c13 := qm.cell 13 rfl
        have qm_f13 := qm.frozen 13
        have zm := qm.lt
        go_wp2_with fail
        refine (rsd_flag _ 16 _).mono ?_
        rintro e w2 ⟨rfl, rfl⟩
        go_wp2_with fail
        go_meet
        exact ⟨by simp [rfirB, plB] <;> first | rfl | omega, by simp [rplcB], by simpa [rbodL] using h0⟩
      · have qm := h0.m
        have qm_c0 := qm.cell 0 rfl
        have qm_f0 := qm.frozen 0
        have qm_c1 := qm.cell 1 rfl
        have qm_f1 := qm.frozen 1
        have qm_c2 := qm.cell 2 rfl
        have qm_f2 := qm.frozen 2
        have qm_c3 := qm.cell 3 rfl
        have qm_f3 := qm.frozen 3
        have qm_c4 := qm.cell 4 rfl
        have qm_f4 := qm.frozen 4
        have qm_c5 := qm.cell 5 rfl
        have qm_f5 := qm.frozen 5
        have qm_c6 := qm.cell 6 rfl
        have qm_f6 := qm.frozen 6
        have qm_c7 := qm.cell 7 rfl
        have qm_f7 := qm.frozen 7
        have qm_c8 := qm.cell 8 rfl
        have qm_f8 := qm.frozen 8
        have qm_c9 := qm.cell 9 rfl
        have qm_f9 := qm.frozen 9
        have qm_c10 := qm.cell 10 rfl
        have qm_f10 := qm.frozen 10
        have qm_c11 := qm.cell 11 rfl
        have qm_f11 := qm.frozen 11
        have qm_c12 := qm.cell 12 rfl
        have qm_f12 := qm.frozen 12
        have qm_c13 := qm.cell 13 rfl
        have qm_f13 := qm.frozen 13
        have zm := qm.lt
        go_wp2_with fail
        refine (rsd_flag _ 16 _).mono ?_
        rintro e w2 ⟨rfl, rfl⟩
        go_wp2_with fail
        go_meet
        exact ⟨by simp [rfirB, plB] <;> first | rfl | omega, by simp [rplcB], by simpa [rbodL] using h0⟩
  case rest =>
    obtain ⟨rfl, rfl, h1⟩ := hcut
    clear h0 hlt1
    obtain ⟨x, hx⟩ : ∃ x, x = rfirB kind n tg la cr sz sq em := ⟨_, rfl⟩
    obtain ⟨l, hl⟩ : ∃ l, l = rbodL kind n size code sq bl sum data := ⟨_, rfl⟩
    obtain ⟨pb, hpb⟩ : ∃ b, b = rplcB kind := ⟨_, rfl⟩
    rw [← hl] at h1
    rw [← hx, ← hpb]
    have HLL : Hid (rlaidL kind n ix sub size code sq bl em sum tg la cr sz data = if pb = true then (putL (l.set 0 (UInt8.ofNat x)) 1 2 ix).set 3 (UInt8.ofNat sub) else l.set 0 (UInt8.ofNat x)) := hide (by rw [hx, hl, hpb]; rfl)
    clear hx hl hpb
    obtain ⟨v0, k0, j0⟩ := h1.b.at8 0 (by omega)
    have h2 := h1.byte 0 (UInt8.ofNat x)
    rw [← mod_byte] at h2
    have qm := h1.m
    have qm_c0 := qm.cell 0 rfl
    have qm_f0 := qm.frozen 0
    have qm_c1 := qm.cell 1 rfl
    have qm_f1 := qm.frozen 1
    have qm_c2 := qm.cell 2 rfl
    have qm_f2 := qm.frozen 2
    have qm_c3 := qm.cell 3 rfl
    have qm_f3 := qm.frozen 3
    have qm_c4 := qm.cell 4 rfl
    have qm_f4 := qm.frozen 4
    have qm_c5 := qm.cell 5 rfl
    have qm_f5 := qm.frozen 5
    have qm_c6 := qm.cell 6 rfl
    have qm_f6 := qm.frozen 6
    have qm_c7 := qm.cell 7 rfl
    have qm_f7 := qm.frozen 7
    have qm_c8 := qm.cell 8 rfl
    have qm_f8 := qm.frozen 8
    have qm_c9 := qm.cell 9 rfl
    have qm_f9 := qm.frozen 9
    have qm_c10 := qm.cell 10 rfl
    have qm_f10 := qm.frozen 10
    have qm_c11 := qm.cell 11 rfl
    have qm_f11 := qm.frozen 11
    have qm_c12 := qm.cell 12 rfl
    have qm_f12 := qm.frozen 12
    have qm_c13 := qm.cell 13 rfl
    have qm_f13 := qm.frozen 13
    have zm := qm.lt
    cases pb
    · go_wp2_with fail
      go_ret
      exact ⟨_, rfl, by rw [HLL.out]; exact ⟨h2.b.hn, h2.b.own.mono (by omega)⟩, below_of_grown hbw1.out h2.gr (by omega) hbw1.out.size⟩
    · go_wp2_with fail
      refine (rt_put 1 2 ix h2 (by omega) (by omega)).mono ?_
      rintro e W1 ⟨rfl, g1⟩
      clear zm
      clear qm_c0 qm_f0 qm_c1 qm_f1 qm_c2 qm_f2 qm_c3 qm_f3 qm_c4 qm_f4 qm_c5 qm_f5 qm_c6 qm_f6 qm_c7 qm_f7 qm_c8 qm_f8 qm_c9 qm_f9 qm_c10 qm_f10 qm_c11 qm_f11 qm_c12 qm_f12 qm_c13 qm_f13
      clear qm
      have qm := g1.m
      have qm_c0 := qm.cell 0 rfl
      have qm_f0 := qm.frozen 0
      have qm_c1 := qm.cell 1 rfl
      have qm_f1 := qm.frozen 1
      have qm_c2 := qm.cell 2 rfl
      have qm_f2 := qm.frozen 2
      have qm_c3 := qm.cell 3 rfl
      have qm_f3 := qm.frozen 3
      have qm_c4 := qm.cell 4 rfl
      have qm_f4 := qm.frozen 4
      have qm_c5 := qm.cell 5 rfl
      have qm_f5 := qm.frozen 5
      have qm_c6 := qm.cell 6 rfl
      have qm_f6 := qm.frozen 6
      have qm_c7 := qm.cell 7 rfl
      have qm_f7 := qm.frozen 7
      have qm_c8 := qm.cell 8 rfl
      have qm_f8 := qm.frozen 8
      have qm_c9 := qm.cell 9 rfl
      have qm_f9 := qm.frozen 9
      have qm_c10 := qm.cell 10 rfl
      have qm_f10 := qm.frozen 10
      have qm_c11 := qm.cell 11 rfl
      have qm_f11 := qm.frozen 11
      have qm_c12 := qm.cell 12 rfl
      have qm_f12 := qm.frozen 12
      have qm_c13 := qm.cell 13 rfl
      have qm_f13 := qm.frozen 13
      have zm := qm.lt
      obtain ⟨v3, k3, j3⟩ := g1.b.at8 3 (by omega)
      have g2 := g1.byte 3 (UInt8.ofNat sub)
      rw [← bv_small (show sub < 256 by omega)] at g2
      go_wp2_with fail
      go_ret
      exact ⟨_, rfl, by rw [HLL.out]; show OwnB _ _ _ _ _ ((putL (l.set 0 (UInt8.ofNat x)) 1 2 ix).set 3 (UInt8.ofNat sub)); exact ⟨g2.b.hn, g2.b.own.mono (by omega)⟩, below_of_grown hbw1.out g2.gr (by omega) hbw1.out.size⟩
end Go.Proofs.Ytcncbmlacphclaa
