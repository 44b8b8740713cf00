/- Package sdomsg: right. -/
import Derived.Test.YthdbckbpldlkeaaSdB4
import Derived.Test.YthdbckbpldlkeaaSdC
import Derived.Test.YthdbckbpldlkeaaSdL
import Derived.Deep.RegionHeld3
import Derived.Deep.DeepCutAuto
import Derived.Deep.CutBlock
import Derived.Deep.QuietTactic
import Derived.BigQuiet
namespace Go.Proofs.Ythdbckbpldlkeaa
set_option linter.unusedVariables false
set_option linter.unusedSimpArgs false
set_option linter.unnecessarySimpa false
open Go.RowKit
set_option maxRecDepth 100000
set_option maxHeartbeats 4000000

theorem sl_if {w : World} {A : Option Addr} {d : List UInt8} (b : Bool) (h : Sl w A (d.map bv)) : Sl w (if b = true then A else none) ((if b = true then d else []).map bv) := by
  cases b
  · exact Sl.nil _ _
  · exact h
theorem sd_right (M : Ms) (A : Option Addr) (n c : Nat) (w : World) (hn : n = M.data.length) (hs : Sl w A (M.data.map bv)) :
    Calls Try.prog 73 #[.int .i64 (formI M.kind), .agg (msV M A n c)] w fun e w' => e = .returned (.bool (canB M)) ∧ Below w.heap.size w w' := by
  have q0 := blk_one w 63 (msV M A n c)
  have hbw := below_alloc (Below.refl w.heap.size w) (.cells (msV M A n c) 63)
  have hs1 := hs.alloc (.cells (msV M A n c) 63)
  have HO := hide (fun W => sd_only M.kind M A n c W hn)
  have hnO : (if dataB (formI M.kind) = true then n else 0) = (onlyM (formI M.kind) M).data.length := by
    rw [hn]; unfold onlyM; simp only []; split <;> rfl
  have HSM := hide (fun W h1 h2 => sd_same M (onlyM (formI M.kind) M) A (if dataB (formI M.kind) = true then A else none) n c (if dataB (formI M.kind) = true then n else 0) (if dataB (formI M.kind) = true then c else 0) W hn hnO h1 h2)
  have hsO : Hid (∀ W, Sl W A (M.data.map bv) → Sl W (if dataB (formI M.kind) = true then A else none) ((onlyM (formI M.kind) M).data.map bv)) := hide (fun W h => sl_if _ h)
  unfold OnlyR at HO
  obtain ⟨b0, e0⟩ : ∃ b, b = (decide (formI M.kind ≠ 0) && rangeB M) := ⟨_, rfl⟩
  obtain ⟨sm, es⟩ : ∃ b, b = sameB M (onlyM (formI M.kind) M) := ⟨_, rfl⟩
  have HC : Hid (canB M = (b0 && shapeB (formI M.kind) M && sm)) := hide (by rw [e0, es]; rfl)
  rw [← es] at HSM
  have HN := hide hn
  have H0 := hide e0
  clear hn hs hnO e0 es
  generalize onlyM (formI M.kind) M = N at *
  obtain ⟨f, hf⟩ : ∃ f, formI M.kind = f := ⟨_, rfl⟩
  rw [hf] at HO HSM hsO HC H0 ⊢
  clear hf
  obtain ⟨kind, ix, sub, tg, la, cr, sz, size, code, data, sq, bl, em, sum⟩ := M
  simp only [msV] at *
  go_enter Try.func73, Try.ntmps73
  go_upto_region 2 with fail
  go_cut [6] (fun s6 wx => s6 = .bool b0 ∧ wx = w.alloc (.cells #[.int .i64 kind, .int .i64 ix, .int .i64 sub, .bool tg, .bool la, .bool cr, .bool sz, .int .u32 (size : Nat), .int .u32 (code : Nat), .slice A n c, .int .i64 sq, .int .i64 bl, .int .i64 em, .int .u16 (sum : Nat)] 63))
  case first =>
    have HE : Hid (b0 = (decide (f ≠ 0) && ((decide (0 ≤ ix) && decide (ix ≤ 65535)) && (decide (0 ≤ sub) && decide (sub ≤ 255)) && (decide (0 ≤ sq) && decide (sq ≤ 127)) && (decide (0 ≤ bl) && decide (bl ≤ 127)) && (decide (0 ≤ em) && decide (em ≤ 7)) && decide (n ≤ 7)))) := hide (by rw [H0.out, HN.out]; rfl)
    clear HO HSM hsO HC H0
    obtain ⟨b1, e1⟩ : ∃ b, b = (decide (0 ≤ ix) && decide (ix ≤ 65535)) := ⟨_, rfl⟩
    obtain ⟨b2, e2⟩ : ∃ b, b = (decide (0 ≤ sub) && decide (sub ≤ 255)) := ⟨_, rfl⟩
    obtain ⟨b3, e3⟩ : ∃ b, b = (decide (0 ≤ sq) && decide (sq ≤ 127)) := ⟨_, rfl⟩
    obtain ⟨b4, e4⟩ : ∃ b, b = (decide (0 ≤ bl) && decide (bl ≤ 127)) := ⟨_, rfl⟩
    obtain ⟨b5, e5⟩ : ∃ b, b = (decide (0 ≤ em) && decide (em ≤ 7)) := ⟨_, rfl⟩
    rw [← e1, ← e2, ← e3, ← e4, ← e5] at HE
    have W1 := hide (fun W => sd_within ix 65535 W)
    have W2 := hide (fun W => sd_within sub 255 W)
    have W3 := hide (fun W => sd_within sq 127 W)
    have W4 := hide (fun W => sd_within bl 127 W)
    have W5 := hide (fun W => sd_within em 7 W)
    rw [← e1] at W1
    rw [← e2] at W2
    rw [← e3] at W3
    rw [← e4] at W4
    rw [← e5] at W5
    clear e1 e2 e3 e4 e5
    by_cases hf0 : f = 0
    · subst hf0
      go_wp2_with fail
      go_meet
      exact ⟨by rw [HE.out]; rfl, rfl⟩
    have hf1 : (f != 0) = true := by simpa using hf0
    have HF : Hid (decide (f ≠ 0) = true) := hide (by simpa using hf0)
    rw [HF.out] at HE
    clear hf0
    go_wp2_with fail
    refine (W1.out _).mono ?_
    rintro e w2 ⟨rfl, rfl⟩
    cases b1
    · go_wp2_with fail
      go_meet
      exact ⟨by rw [HE.out]; simp, rfl⟩
    go_wp2_with fail
    refine (W2.out _).mono ?_
    rintro e w2 ⟨rfl, rfl⟩
    cases b2
    · go_wp2_with fail
      go_meet
      exact ⟨by rw [HE.out]; simp, rfl⟩
    go_wp2_with fail
    refine (W3.out _).mono ?_
    rintro e w2 ⟨rfl, rfl⟩
    cases b3
    · go_wp2_with fail
      go_meet
      exact ⟨by rw [HE.out]; simp, rfl⟩
    go_wp2_with fail
    refine (W4.out _).mono ?_
    rintro e w2 ⟨rfl, rfl⟩
    cases b4
    · go_wp2_with fail
      go_meet
      exact ⟨by rw [HE.out]; simp, rfl⟩
    go_wp2_with fail
    refine (W5.out _).mono ?_
    rintro e w2 ⟨rfl, rfl⟩
    cases b5
    · go_wp2_with fail
      go_meet
      exact ⟨by rw [HE.out]; simp, rfl⟩
    by_cases h7 : n ≤ 7
    · have HE7 : Hid (b0 = true) := hide (by rw [HE.out]; simp [h7])
      go_wp2_with fail
      go_meet
      exact ⟨by rw [HE7.out]; congr 1; simp; omega, rfl⟩
    · have HE7 : Hid (b0 = false) := hide (by rw [HE.out]; simp [h7])
      have h7' : (7 : Int) < (n : Int) := by omega
      go_wp2_with fail
      go_meet
      exact ⟨by rw [HE7.out]; congr 1; simp; omega, rfl⟩
  case rest =>
    obtain ⟨rfl, rfl⟩ := hcut
    have hz := q0.lt
    generalize w.alloc (.cells #[.int .i64 kind, .int .i64 ix, .int .i64 sub, .bool tg, .bool la, .bool cr, .bool sz, .int .u32 (size : Nat), .int .u32 (code : Nat), .slice A n c, .int .i64 sq, .int .i64 bl, .int .i64 em, .int .u16 (sum : Nat)] 63) = W at *
    obtain ⟨q0_c0, q0_c1, q0_c2, q0_c3, q0_c4, q0_c5, q0_c6, q0_c7, q0_c8, q0_c9, q0_c10, q0_c11, q0_c12, q0_c13⟩ := cel14 q0
    have q0_f := q0.frozen
    go_upto_block 0 with fail
    go_cut [6] (fun s6 wx => s6 = .bool (b0 && shapeB f ⟨kind, ix, sub, tg, la, cr, sz, size, code, data, sq, bl, em, sum⟩) ∧ wx = W)
    case first =>
      clear HO HSM hsO HC
      have hfc : f = 2 ∨ f = 11 ∨ (f ≠ 2 ∧ f ≠ 11) := by omega
      rcases hfc with hf2 | hf11 | ⟨hf2, hf11⟩
      · have hf2' : (f == 2) = true := by simpa using hf2
        have HSH : Hid (shapeB f ⟨kind, ix, sub, tg, la, cr, sz, size, code, data, sq, bl, em, sum⟩ = (decide (n = 0) || decide (n = 4) || (decide (n < 4) && sz))) := hide (by rw [HN.out]; unfold shapeB; rw [if_pos hf2])
        clear hf2
        cases b0
        · go_wp2_with fail
          go_meet
          exact ⟨by simp, rfl⟩
        rcases (show n = 0 ∨ n = 4 ∨ ((n ≠ 0 ∧ n ≠ 4) ∧ n < 4) ∨ 4 < n by omega) with rfl | rfl | ⟨⟨a1, a2⟩, a3⟩ | a4
        · go_wp2_with fail
          go_meet
          exact ⟨by rw [HSH.out]; simp, rfl⟩
        · go_wp2_with fail
          go_meet
          exact ⟨by rw [HSH.out]; simp, rfl⟩
        · have HH : Hid (shapeB f ⟨kind, ix, sub, tg, la, cr, sz, size, code, data, sq, bl, em, sum⟩ = sz) := hide (by rw [HSH.out]; simp [a1, a2, a3])
          have a1' : ((n : Int) == 0) = false := by simpa using a1
          have a2' : ((n : Int) == 4) = false := by simp; omega
          clear a1 a2
          go_wp2_with fail
          go_meet
          exact ⟨by rw [HH.out]; simp, rfl⟩
        · have b1 : ¬ n = 0 := by omega
          have b2 : ¬ n = 4 := by omega
          have b3 : ¬ n < 4 := by omega
          have HH : Hid (shapeB f ⟨kind, ix, sub, tg, la, cr, sz, size, code, data, sq, bl, em, sum⟩ = false) := hide (by rw [HSH.out]; simp [b1, b2, b3])
          have a1' : ((n : Int) == 0) = false := by simp; omega
          have a2' : ((n : Int) == 4) = false := by simp; omega
          have a3' : (4 : Int) ≤ (n : Int) := by omega
          clear b1 b2 b3
          go_wp2_with fail
          go_meet
          exact ⟨by rw [HH.out]; simp, rfl⟩
      · have hf11' : (f == 11) = true := by simpa using hf11
        have hf2' : (f == 2) = false := by simp; omega
        have HSH : Hid (shapeB f ⟨kind, ix, sub, tg, la, cr, sz, size, code, data, sq, bl, em, sum⟩ = (decide (n = 7) && decide (0 < sq))) := hide (by rw [HN.out]; unfold shapeB; rw [if_neg (by omega), if_pos hf11])
        clear hf11
        cases b0
        · go_wp2_with fail
          go_meet
          exact ⟨by simp, rfl⟩
        by_cases a1 : n = 7
        · subst a1
          go_wp2_with fail
          go_meet
          exact ⟨by rw [HSH.out]; simp, rfl⟩
        · have HH : Hid (shapeB f ⟨kind, ix, sub, tg, la, cr, sz, size, code, data, sq, bl, em, sum⟩ = false) := hide (by rw [HSH.out]; simp [a1])
          have a1' : ((n : Int) == 7) = false := by simp; omega
          clear a1
          go_wp2_with fail
          go_meet
          exact ⟨by rw [HH.out]; simp, rfl⟩
      · have hf11' : (f == 11) = false := by simpa using hf11
        have hf2' : (f == 2) = false := by simpa using hf2
        have HSH : Hid (shapeB f ⟨kind, ix, sub, tg, la, cr, sz, size, code, data, sq, bl, em, sum⟩ = true) := hide (by unfold shapeB; rw [if_neg hf2, if_neg hf11])
        clear hf11 hf2
        go_wp2_with fail
        go_meet
        exact ⟨by rw [HSH.out]; simp, rfl⟩
    case rest =>
      obtain ⟨rfl, hW⟩ := hcut
      have hW' := hW.symm
      clear hW
      subst hW'
      obtain ⟨b8, e8⟩ : ∃ b, b = (b0 && shapeB f ⟨kind, ix, sub, tg, la, cr, sz, size, code, data, sq, bl, em, sum⟩) := ⟨_, rfl⟩
      have HV : Hid (canB ⟨kind, ix, sub, tg, la, cr, sz, size, code, data, sq, bl, em, sum⟩ = (b8 && sm)) := hide (by rw [HC.out, e8])
      rw [← e8]
      clear e8 HC
      cases b8
      · go_wp2_with fail
        go_quiet (fail)
        go_wp2_with fail
        go_ret
        exact ⟨ret_bool (by rw [HV.out]; rfl), below_drewN hbw _⟩
      · go_wp2_with fail
        refine wp_region_held_drew (S := (fun w' => (∀ qA : Addr, qA.block < (W).heap.size → w'.cell? qA = (W).cell? qA) ∧ Below (W).heap.size (W) w')) (by kernel_rfl) ?hS1 (fun hHeld => ?rest1)
        case hS1 => ((try dsimp only); (((try go_split_ands); refine sn_of ?_; repeat' (first | with_reducible assumption | with_reducible exact Below.refl _ _ | with_reducible apply below_alloc | with_reducible apply below_drew1 | with_reducible apply below_drewN | (with_reducible apply below_step; with_reducible assumption) | (with_reducible apply below_sg2; (first | exact Nat.le_refl _ | (simp; done) | omega))))))
        case' rest1 => skip
        refine wpAnyH_take (i := 0) (oi := _) (v := ?v2) rfl (by kernel_rfl) (by kernel_rfl) (by kernel_rfl) (fun _ _ _ h => h) (Or.inl ⟨by rfl, ?hy2⟩) (by assumption) ?rest2
        case hy2 => ((intro w hSw; (try dsimp only at hSw); go_simp) <;> with_reducible rfl)
        case' rest2 => try simp only [List.getElem_toArray, List.getElem_cons_zero, List.getElem_cons_succ, Act.put, List.setIfInBounds_toArray, List.set_cons_zero, List.set_cons_succ]
        refine wpAnyH_take (i := 1) (oi := _) (v := ?v3) rfl (by kernel_rfl) (by kernel_rfl) (by kernel_rfl) (fun _ _ _ h => h) (Or.inl ⟨by rfl, ?hy3⟩) (by assumption) ?rest3
        case hy3 => ((intro w hSw; (try dsimp only at hSw); go_simp) <;> with_reducible rfl)
        case' rest3 => try simp only [List.getElem_toArray, List.getElem_cons_zero, List.getElem_cons_succ, Act.put, List.setIfInBounds_toArray, List.set_cons_zero, List.set_cons_succ]
        refine wpAnyH_take (i := 2) (oi := _) (v := ?v4) rfl (by kernel_rfl) (by kernel_rfl) (by kernel_rfl) (fun _ _ _ h => h) (Or.inl ⟨by rfl, ?hy4⟩) (by assumption) ?rest4
        case hy4 => ((intro w hSw; (try dsimp only at hSw); go_simp) <;> with_reducible rfl)
        case' rest4 => try simp only [List.getElem_toArray, List.getElem_cons_zero, List.getElem_cons_succ, Act.put, List.setIfInBounds_toArray, List.set_cons_zero, List.set_cons_succ]
        refine wpAnyH_take (i := 3) (oi := _) (v := ?v5) rfl (by kernel_rfl) (by kernel_rfl) (by kernel_rfl) (fun _ _ _ h => h) (Or.inl ⟨by rfl, ?hy5⟩) (by assumption) ?rest5
        case hy5 => ((intro w hSw; (try dsimp only at hSw); go_simp) <;> with_reducible rfl)
        case' rest5 => try simp only [List.getElem_toArray, List.getElem_cons_zero, List.getElem_cons_succ, Act.put, List.setIfInBounds_toArray, List.set_cons_zero, List.set_cons_succ]
        refine wpAnyH_take (i := 4) (oi := _) (v := ?v6) rfl (by kernel_rfl) (by kernel_rfl) (by kernel_rfl) (fun _ _ _ h => h) (Or.inl ⟨by rfl, ?hy6⟩) (by assumption) ?rest6
        case hy6 => ((intro w hSw; (try dsimp only at hSw); go_simp) <;> with_reducible rfl)
        case' rest6 => try simp only [List.getElem_toArray, List.getElem_cons_zero, List.getElem_cons_succ, Act.put, List.setIfInBounds_toArray, List.set_cons_zero, List.set_cons_succ]
        refine wpAnyH_ready (rs := [5]) (by kernel_rfl) (by simp) ?_
        refine AllReadyH.cons (o := _) rfl (fun K hK => ?_) AllReadyH.nil
        go_simp
        refine (HO.out _).mono ?_
        rintro e w3 ⟨rfl, hb3⟩
        try dsimp only
        refine hK.out _ _ ?hS9 (fun hHeld => ?rest9)
        case hS9 => ((try dsimp only); (((try go_split_ands); refine sn_of ?_; repeat' (first | with_reducible assumption | with_reducible exact Below.refl _ _ | with_reducible apply below_alloc | with_reducible apply below_drew1 | with_reducible apply below_drewN | (with_reducible apply below_step; with_reducible assumption) | (with_reducible apply below_sg2; (first | exact Nat.le_refl _ | (simp; done) | omega))))))
        case' rest9 => (clear hK K; try simp only [List.getElem_toArray, List.getElem_cons_zero, List.getElem_cons_succ, Act.put, List.setIfInBounds_toArray, List.set_cons_zero, List.set_cons_succ])
        refine wpAnyH_ready (rs := [6]) (by kernel_rfl) (by simp) ?_
        refine AllReadyH.cons (o := _) rfl (fun K hK => ?_) AllReadyH.nil
        go_simp
        refine (HSM.out _ (hs1.drew.below hb3) (hsO.out _ (hs1.drew.below hb3))).mono ?_
        rintro e w4 ⟨rfl, hb4⟩
        try dsimp only
        refine hK.out _ _ ?hS12 (fun hHeld => ?rest12)
        case hS12 => ((try dsimp only); (((try go_split_ands); refine sn_of ?_; repeat' (first | with_reducible assumption | with_reducible exact Below.refl _ _ | with_reducible apply below_alloc | with_reducible apply below_drew1 | with_reducible apply below_drewN | (with_reducible apply below_step; with_reducible assumption) | (with_reducible apply below_sg2; (first | exact Nat.le_refl _ | (simp; done) | omega))))))
        case' rest12 => (clear hK K; try simp only [List.getElem_toArray, List.getElem_cons_zero, List.getElem_cons_succ, Act.put, List.setIfInBounds_toArray, List.set_cons_zero, List.set_cons_succ])
        refine wpAnyH_ready (rs := [7]) (by kernel_rfl) (by simp) ?_
        refine AllReadyH.cons (o := _) rfl (fun K hK => ?_) AllReadyH.nil
        go_simp
        refine hK.out _ _ ?hS15 (fun hHeld => ?rest15)
        case hS15 => ((try dsimp only); (((try go_split_ands); refine sn_of ?_; repeat' (first | with_reducible assumption | with_reducible exact Below.refl _ _ | with_reducible apply below_alloc | with_reducible apply below_drew1 | with_reducible apply below_drewN | (with_reducible apply below_step; with_reducible assumption) | (with_reducible apply below_sg2; (first | exact Nat.le_refl _ | (simp; done) | omega))))))
        case' rest15 => (clear hK K; try simp only [List.getElem_toArray, List.getElem_cons_zero, List.getElem_cons_succ, Act.put, List.setIfInBounds_toArray, List.set_cons_zero, List.set_cons_succ])
        refine wpAnyH_ready (rs := [8]) (by kernel_rfl) (by simp) ?_
        refine AllReadyH.cons (o := _) rfl (fun K hK => ?_) AllReadyH.nil
        go_simp
        refine hK.out _ _ ?hS18 (fun hHeld => ?rest18)
        case hS18 => ((try dsimp only); (((try go_split_ands); refine sn_of ?_; repeat' (first | with_reducible assumption | with_reducible exact Below.refl _ _ | with_reducible apply below_alloc | with_reducible apply below_drew1 | with_reducible apply below_drewN | (with_reducible apply below_step; with_reducible assumption) | (with_reducible apply below_sg2; (first | exact Nat.le_refl _ | (simp; done) | omega))))))
        case' rest18 => (clear hK K; try simp only [List.getElem_toArray, List.getElem_cons_zero, List.getElem_cons_succ, Act.put, List.setIfInBounds_toArray, List.set_cons_zero, List.set_cons_succ])
        refine wpAnyH_done (by kernel_rfl) ?_ _
        have hEnd := hHeld.2
        repeat (clear hHeld)
        go_wp2_with fail
        all_goals
          go_ret
          exact ⟨ret_bool (by rw [HV.out]; simp_all), below_step hEnd hbw⟩
end Go.Proofs.Ythdbckbpldlkeaa
