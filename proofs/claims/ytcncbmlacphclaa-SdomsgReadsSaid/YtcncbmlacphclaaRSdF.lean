/- The reference of sdomsg: can. -/
import Derived.Test.YtcncbmlacphclaaRSdN5
import Derived.Test.YtcncbmlacphclaaSdC2
import Derived.Test.YtcncbmlacphclaaSdL
import Derived.Deep.RegionHeld3
import Derived.Deep.QuietTactic
import Derived.BigQuiet
import Derived.Deep.DeepCutAuto
import Derived.Deep.CutBlock
import Derived.Deep.Light
import Derived.Test.YtcncbmlacphclaaRSdEa
import Derived.Test.YtcncbmlacphclaaRSdEb
import Derived.Test.YtcncbmlacphclaaRSdEc
import Derived.Test.YtcncbmlacphclaaRSdEd
import Derived.Test.YtcncbmlacphclaaSdF
namespace Go.Proofs.Ytcncbmlacphclaa
set_option linter.unusedVariables false
set_option linter.unusedSimpArgs false
set_option linter.unnecessarySimpa false
section
open Go.RowKit
set_option maxRecDepth 100000
set_option maxHeartbeats 8000000

theorem form_two (k : Int) : formI k = 2 ↔ k = 2 ∨ k = 14 := by unfold formI; (repeat' split) <;> omega
theorem form_row (k : Int) : formI k = 11 ↔ k = 21 := by unfold formI; (repeat' split) <;> omega
theorem rsl_if {w : World} {A : Option Addr} {d : List UInt8} (b : Bool) (h : Sl w A (d.map bv)) : Sl w (if b = true then A else none) ((if b = true then d else []).map bv) := by
  cases b
  · exact Sl.nil _ _
  · exact h
theorem shape_kind (M : Ms) (n : Nat) (hn : n = M.data.length) : shapeB (formI M.kind) M = if M.kind = 2 ∨ M.kind = 14 then (decide (n = 0) || decide (n = 4) || (decide (n < 4) && M.sz)) else if M.kind = 21 then (decide (n = 7) && decide (0 < M.sq)) else true := by
  subst hn
  unfold shapeB
  by_cases h2 : M.kind = 2 ∨ M.kind = 14
  · rw [if_pos ((form_two _).2 h2), if_pos h2]
  · rw [if_neg (fun h => h2 ((form_two _).1 h)), if_neg h2]
    by_cases h3 : M.kind = 21
    · rw [if_pos ((form_row _).2 h3), if_pos h3]
    · rw [if_neg (fun h => h3 ((form_row _).1 h)), if_neg h3]
theorem rsd_can_no (M : Ms) (A : Option Addr) (n c : Nat) (w : World) (hk : M.kind < 1 ∨ 21 < M.kind) :
    Calls Try.prog 67 #[.agg (msV M A n c)] w fun e w' => e = .returned (.bool (canB M)) ∧ Below w.heap.size w w' := by
  have hbw := below_alloc (Below.refl w.heap.size w) (.cells (msV M A n c) 43)
  have HV : Hid (canB M = false) := hide (by
    unfold canB
    rw [form_zero _ hk]
    rfl)
  obtain ⟨kind, ix, sub, tg, la, cr, sz, size, code, data, sq, bl, em, sum⟩ := M
  simp only [msV] at *
  rcases (show kind < 1 ∨ (1 ≤ kind ∧ 21 < kind) by omega) with h | ⟨h1, h2⟩
  all_goals
    clear hk
    go_enter Try.func67, Try.ntmps67
    go_wp2_with fail
    go_quiet (fail)
    go_wp2_with fail
    go_ret
    exact ⟨ret_bool HV.out.symm, below_drewN hbw _⟩
def inB (M : Ms) (n : Nat) : Prop := 0 ≤ M.ix ∧ M.ix ≤ 65535 ∧ 0 ≤ M.sub ∧ M.sub ≤ 255 ∧ 0 ≤ M.sq ∧ M.sq ≤ 127 ∧ 0 ≤ M.bl ∧ M.bl ≤ 127 ∧ 0 ≤ M.em ∧ M.em ≤ 7 ∧ n ≤ 7
theorem range_iff (M : Ms) (n : Nat) (hn : n = M.data.length) : rangeB M = true ↔ inB M n := by
  subst hn
  simp only [rangeB, inB, Bool.and_eq_true, decide_eq_true_iff, and_assoc]
theorem rsd_can_yes (M : Ms) (A : Option Addr) (n c : Nat) (w : World) (hn : n = M.data.length) (hs : Sl w A (M.data.map bv)) (h1 : 1 ≤ M.kind) (h2 : M.kind ≤ 21) :
    Calls Try.prog 67 #[.agg (msV M A n c)] w fun e w' => e = .returned (.bool (canB M)) ∧ Below w.heap.size w w' := by
  have q0 := blk_one w 43 (msV M A n c)
  have hbw := below_alloc (Below.refl w.heap.size w) (.cells (msV M A n c) 43)
  have hs1 := hs.alloc (.cells (msV M A n c) 43)
  have HO := hide (fun W => rsd_named M A n c W hn h1 h2)
  have hnO : (if dataB (formI M.kind) = true then n else 0) = (onlyM (formI M.kind) M).data.length := by
    rw [hn]; unfold onlyM; simp only []; split <;> rfl
  have HSM := hide (fun W h1 h2 => rsd_same M (onlyM (formI M.kind) M) A (if dataB (formI M.kind) = true then A else none) n c (if dataB (formI M.kind) = true then n else 0) (if dataB (formI M.kind) = true then c else 0) W hn hnO h1 h2)
  have hsO : Hid (∀ W, Sl W A (M.data.map bv) → Sl W (if dataB (formI M.kind) = true then A else none) ((onlyM (formI M.kind) M).data.map bv)) := hide (fun W h => rsl_if _ h)
  unfold NamedR at HO
  obtain ⟨sm, es⟩ : ∃ b, b = sameB M (onlyM (formI M.kind) M) := ⟨_, rfl⟩
  have HC : Hid (canB M = (rangeB M && (if M.kind = 2 ∨ M.kind = 14 then (decide (n = 0) || decide (n = 4) || (decide (n < 4) && M.sz)) else if M.kind = 21 then (decide (n = 7) && decide (0 < M.sq)) else true) && sm)) := hide (by
    unfold canB
    rw [← es, shape_kind M n hn]
    have : decide (formI M.kind ≠ 0) = true := by simpa using form_pos _ h1 h2
    rw [this, Bool.true_and])
  have HR := hide (range_iff M n hn)
  rw [← es] at HSM
  clear hn hs hnO es
  generalize onlyM (formI M.kind) M = N at *
  generalize dataB (formI M.kind) = db at *
  obtain ⟨kind, ix, sub, tg, la, cr, sz, size, code, data, sq, bl, em, sum⟩ := M
  simp only [msV] at *
  go_enter Try.func67, Try.ntmps67
  go_wp2_with fail
  have hz := q0.lt
  generalize w.alloc (.cells #[.int .i64 kind, .int .i64 ix, .int .i64 sub, .bool tg, .bool la, .bool cr, .bool sz, .int .u32 (size : Nat), .int .u32 (code : Nat), .slice A n c, .int .i64 sq, .int .i64 bl, .int .i64 em, .int .u16 (sum : Nat)] 43) = W at *
  have d1 : decide (kind < 1) = false := by simp; omega
  have d2 : decide (21 < kind) = false := by simp; omega
  have q0_c0 := q0.cell 0 rfl
  have q0_f0 := q0.frozen 0
  have q0_c1 := q0.cell 1 rfl
  have q0_f1 := q0.frozen 1
  have q0_c2 := q0.cell 2 rfl
  have q0_f2 := q0.frozen 2
  have q0_c3 := q0.cell 3 rfl
  have q0_f3 := q0.frozen 3
  have q0_c4 := q0.cell 4 rfl
  have q0_f4 := q0.frozen 4
  have q0_c5 := q0.cell 5 rfl
  have q0_f5 := q0.frozen 5
  have q0_c6 := q0.cell 6 rfl
  have q0_f6 := q0.frozen 6
  have q0_c7 := q0.cell 7 rfl
  have q0_f7 := q0.frozen 7
  have q0_c8 := q0.cell 8 rfl
  have q0_f8 := q0.frozen 8
  have q0_c9 := q0.cell 9 rfl
  have q0_f9 := q0.frozen 9
  have q0_c10 := q0.cell 10 rfl
  have q0_f10 := q0.frozen 10
  have q0_c11 := q0.cell 11 rfl
  have q0_f11 := q0.frozen 11
  have q0_c12 := q0.cell 12 rfl
  have q0_f12 := q0.frozen 12
  have q0_c13 := q0.cell 13 rfl
  have q0_f13 := q0.frozen 13
  refine wp_region_held_drew (S := (fun w' => (∀ p : Addr, p.block < (W).heap.size → w'.cell? p = (W).cell? p) ∧ Below (W).heap.size (W) w')) (by kernel_rfl) ?hS1 (fun hHeld => ?rest1)
  case hS1 => ((try dsimp only); (((try go_split_ands); refine sn_of ?_; repeat' (first | with_reducible assumption | with_reducible exact Below.refl _ _ | with_reducible apply below_alloc | with_reducible apply below_drew1 | with_reducible apply below_drewN | (with_reducible apply below_step; with_reducible assumption) | (with_reducible apply below_sg2; (first | exact Nat.le_refl _ | (simp; done) | omega))))))
  case' rest1 => skip
  refine wpAnyH_take (i := 0) (oi := _) (v := ?v2) rfl (by kernel_rfl) (by kernel_rfl) (by kernel_rfl) (fun _ _ _ h => h) (Or.inl ⟨by rfl, ?hy2⟩) (by assumption) ?rest2
  case hy2 => ((intro w hSw; (try dsimp only at hSw); go_simp) <;> with_reducible rfl)
  case' rest2 => try simp only [List.getElem_toArray, List.getElem_cons_zero, List.getElem_cons_succ, Act.put, List.setIfInBounds_toArray, List.set_cons_zero, List.set_cons_succ]
  refine wpAnyH_take (i := 1) (oi := _) (v := ?v3) rfl (by kernel_rfl) (by kernel_rfl) (by kernel_rfl) (fun _ _ _ h => h) (Or.inl ⟨by rfl, ?hy3⟩) (by assumption) ?rest3
  case hy3 => ((intro w hSw; (try dsimp only at hSw); go_simp) <;> with_reducible rfl)
  case' rest3 => try simp only [List.getElem_toArray, List.getElem_cons_zero, List.getElem_cons_succ, Act.put, List.setIfInBounds_toArray, List.set_cons_zero, List.set_cons_succ]
  refine wpAnyH_take (i := 2) (oi := _) (v := ?v4) rfl (by kernel_rfl) (by kernel_rfl) (by kernel_rfl) (fun _ _ _ h => h) (Or.inl ⟨by rfl, ?hy4⟩) (by assumption) ?rest4
  case hy4 => ((intro w hSw; (try dsimp only at hSw); go_simp) <;> with_reducible rfl)
  case' rest4 => try simp only [List.getElem_toArray, List.getElem_cons_zero, List.getElem_cons_succ, Act.put, List.setIfInBounds_toArray, List.set_cons_zero, List.set_cons_succ]
  refine wpAnyH_take (i := 3) (oi := _) (v := ?v5) rfl (by kernel_rfl) (by kernel_rfl) (by kernel_rfl) (fun _ _ _ h => h) (Or.inl ⟨by rfl, ?hy5⟩) (by assumption) ?rest5
  case hy5 => ((intro w hSw; (try dsimp only at hSw); go_simp) <;> with_reducible rfl)
  case' rest5 => try simp only [List.getElem_toArray, List.getElem_cons_zero, List.getElem_cons_succ, Act.put, List.setIfInBounds_toArray, List.set_cons_zero, List.set_cons_succ]
  refine wpAnyH_take (i := 4) (oi := _) (v := ?v6) rfl (by kernel_rfl) (by kernel_rfl) (by kernel_rfl) (fun _ _ _ h => h) (Or.inl ⟨by rfl, ?hy6⟩) (by assumption) ?rest6
  case hy6 => ((intro w hSw; (try dsimp only at hSw); go_simp) <;> with_reducible rfl)
  case' rest6 => try simp only [List.getElem_toArray, List.getElem_cons_zero, List.getElem_cons_succ, Act.put, List.setIfInBounds_toArray, List.set_cons_zero, List.set_cons_succ]
  refine wpAnyH_take (i := 5) (oi := _) (v := ?v7) rfl (by kernel_rfl) (by kernel_rfl) (by kernel_rfl) (fun _ _ _ h => h) (Or.inl ⟨by rfl, ?hy7⟩) (by assumption) ?rest7
  case hy7 => ((intro w hSw; (try dsimp only at hSw); go_simp) <;> with_reducible rfl)
  case' rest7 => try simp only [List.getElem_toArray, List.getElem_cons_zero, List.getElem_cons_succ, Act.put, List.setIfInBounds_toArray, List.set_cons_zero, List.set_cons_succ]
  refine wpAnyH_take (i := 6) (oi := _) (v := ?v8) rfl (by kernel_rfl) (by kernel_rfl) (by kernel_rfl) (fun _ _ _ h => h) (Or.inl ⟨by rfl, ?hy8⟩) (by assumption) ?rest8
  case hy8 => ((intro w hSw; (try dsimp only at hSw); go_simp) <;> with_reducible rfl)
  case' rest8 => try simp only [List.getElem_toArray, List.getElem_cons_zero, List.getElem_cons_succ, Act.put, List.setIfInBounds_toArray, List.set_cons_zero, List.set_cons_succ]
  refine wpAnyH_take (i := 7) (oi := _) (v := ?v9) rfl (by kernel_rfl) (by kernel_rfl) (by kernel_rfl) (fun _ _ _ h => h) (Or.inl ⟨by rfl, ?hy9⟩) (by assumption) ?rest9
  case hy9 => ((intro w hSw; (try dsimp only at hSw); go_simp) <;> with_reducible rfl)
  case' rest9 => try simp only [List.getElem_toArray, List.getElem_cons_zero, List.getElem_cons_succ, Act.put, List.setIfInBounds_toArray, List.set_cons_zero, List.set_cons_succ]
  refine wpAnyH_take (i := 8) (oi := _) (v := ?v10) rfl (by kernel_rfl) (by kernel_rfl) (by kernel_rfl) (fun _ _ _ h => h) (Or.inl ⟨by rfl, ?hy10⟩) (by assumption) ?rest10
  case hy10 => ((intro w hSw; (try dsimp only at hSw); go_simp) <;> with_reducible rfl)
  case' rest10 => try simp only [List.getElem_toArray, List.getElem_cons_zero, List.getElem_cons_succ, Act.put, List.setIfInBounds_toArray, List.set_cons_zero, List.set_cons_succ]
  refine wpAnyH_take (i := 9) (oi := _) (v := ?v11) rfl (by kernel_rfl) (by kernel_rfl) (by kernel_rfl) (fun _ _ _ h => h) (Or.inl ⟨by rfl, ?hy11⟩) (by assumption) ?rest11
  case hy11 => ((intro w hSw; (try dsimp only at hSw); go_simp) <;> with_reducible rfl)
  case' rest11 => try simp only [List.getElem_toArray, List.getElem_cons_zero, List.getElem_cons_succ, Act.put, List.setIfInBounds_toArray, List.set_cons_zero, List.set_cons_succ]
  refine wpAnyH_take (i := 10) (oi := _) (v := ?v12) rfl (by kernel_rfl) (by kernel_rfl) (by kernel_rfl) (fun _ _ _ h => h) (Or.inl ⟨by rfl, ?hy12⟩) (by assumption) ?rest12
  case hy12 => ((intro w hSw; (try dsimp only at hSw); go_simp) <;> with_reducible rfl)
  case' rest12 => try simp only [List.getElem_toArray, List.getElem_cons_zero, List.getElem_cons_succ, Act.put, List.setIfInBounds_toArray, List.set_cons_zero, List.set_cons_succ]
  refine wpAnyH_ready (rs := [11]) (by kernel_rfl) (by simp) ?_
  refine AllReadyH.cons (o := _) rfl (fun K hK => ?_) AllReadyH.nil
  go_simp
  refine (HO.out _).mono ?_
  rintro e w3 ⟨rfl, hb3⟩
  try dsimp only
  refine hK.out _ _ ?hS15 (fun hHeld => ?rest15)
  case hS15 => ((try dsimp only); (((try go_split_ands); refine sn_of ?_; repeat' (first | with_reducible assumption | with_reducible exact Below.refl _ _ | with_reducible apply below_alloc | with_reducible apply below_drew1 | with_reducible apply below_drewN | (with_reducible apply below_step; with_reducible assumption) | (with_reducible apply below_sg2; (first | exact Nat.le_refl _ | (simp; done) | omega))))))
  case' rest15 => (clear hK K; try simp only [List.getElem_toArray, List.getElem_cons_zero, List.getElem_cons_succ, Act.put, List.setIfInBounds_toArray, List.set_cons_zero, List.set_cons_succ])
  refine wpAnyH_ready (rs := [12]) (by kernel_rfl) (by simp) ?_
  refine AllReadyH.cons (o := _) rfl (fun K hK => ?_) AllReadyH.nil
  go_simp
  refine (HSM.out _ (hs1.drew.below hb3) (hsO.out _ (hs1.drew.below hb3))).mono ?_
  rintro e w4 ⟨rfl, hb4⟩
  try dsimp only
  refine hK.out _ _ ?hS18 (fun hHeld => ?rest18)
  case hS18 => ((try dsimp only); (((try go_split_ands); refine sn_of ?_; repeat' (first | with_reducible assumption | with_reducible exact Below.refl _ _ | with_reducible apply below_alloc | with_reducible apply below_drew1 | with_reducible apply below_drewN | (with_reducible apply below_step; with_reducible assumption) | (with_reducible apply below_sg2; (first | exact Nat.le_refl _ | (simp; done) | omega))))))
  case' rest18 => (clear hK K; try simp only [List.getElem_toArray, List.getElem_cons_zero, List.getElem_cons_succ, Act.put, List.setIfInBounds_toArray, List.set_cons_zero, List.set_cons_succ])
  refine wpAnyH_ready (rs := [13]) (by kernel_rfl) (by simp) ?_
  refine AllReadyH.cons (o := _) rfl (fun K hK => ?_) AllReadyH.nil
  go_simp
  refine hK.out _ _ ?hS21 (fun hHeld => ?rest21)
  case hS21 => ((try dsimp only); (((try go_split_ands); refine sn_of ?_; repeat' (first | with_reducible assumption | with_reducible exact Below.refl _ _ | with_reducible apply below_alloc | with_reducible apply below_drew1 | with_reducible apply below_drewN | (with_reducible apply below_step; with_reducible assumption) | (with_reducible apply below_sg2; (first | exact Nat.le_refl _ | (simp; done) | omega))))))
  case' rest21 => (clear hK K; try simp only [List.getElem_toArray, List.getElem_cons_zero, List.getElem_cons_succ, Act.put, List.setIfInBounds_toArray, List.set_cons_zero, List.set_cons_succ])
  refine wpAnyH_ready (rs := [14]) (by kernel_rfl) (by simp) ?_
  refine AllReadyH.cons (o := _) rfl (fun K hK => ?_) AllReadyH.nil
  go_simp
  refine hK.out _ _ ?hS24 (fun hHeld => ?rest24)
  case hS24 => ((try dsimp only); (((try go_split_ands); refine sn_of ?_; repeat' (first | with_reducible assumption | with_reducible exact Below.refl _ _ | with_reducible apply below_alloc | with_reducible apply below_drew1 | with_reducible apply below_drewN | (with_reducible apply below_step; with_reducible assumption) | (with_reducible apply below_sg2; (first | exact Nat.le_refl _ | (simp; done) | omega))))))
  case' rest24 => (clear hK K; try simp only [List.getElem_toArray, List.getElem_cons_zero, List.getElem_cons_succ, Act.put, List.setIfInBounds_toArray, List.set_cons_zero, List.set_cons_succ])
  refine wpAnyH_done (by kernel_rfl) ?_ _
  have hEnd := hHeld.2
  repeat (clear hHeld)
  clear q0_c0 q0_f0 q0_c1 q0_f1 q0_c2 q0_f2 q0_c3 q0_f3 q0_c4 q0_f4 q0_c5 q0_f5 q0_c6 q0_f6 q0_c7 q0_f7 q0_c8 q0_f8 q0_c9 q0_f9 q0_c10 q0_f10 q0_c11 q0_f11 q0_c12 q0_f12 q0_c13 q0_f13
  replace q0 := q0.below hEnd hz
  replace hbw := below_step hEnd hbw
  clear HO HSM hsO hs1 hb3 hb4 hEnd
  have hz := q0.lt
  have q0_c0 := q0.cell 0 rfl
  have q0_f0 := q0.frozen 0
  have q0_c1 := q0.cell 1 rfl
  have q0_f1 := q0.frozen 1
  have q0_c2 := q0.cell 2 rfl
  have q0_f2 := q0.frozen 2
  have q0_c3 := q0.cell 3 rfl
  have q0_f3 := q0.frozen 3
  have q0_c4 := q0.cell 4 rfl
  have q0_f4 := q0.frozen 4
  have q0_c5 := q0.cell 5 rfl
  have q0_f5 := q0.frozen 5
  have q0_c6 := q0.cell 6 rfl
  have q0_f6 := q0.frozen 6
  have q0_c7 := q0.cell 7 rfl
  have q0_f7 := q0.frozen 7
  have q0_c8 := q0.cell 8 rfl
  have q0_f8 := q0.frozen 8
  have q0_c9 := q0.cell 9 rfl
  have q0_f9 := q0.frozen 9
  have q0_c10 := q0.cell 10 rfl
  have q0_f10 := q0.frozen 10
  have q0_c11 := q0.cell 11 rfl
  have q0_f11 := q0.frozen 11
  have q0_c12 := q0.cell 12 rfl
  have q0_f12 := q0.frozen 12
  have q0_c13 := q0.cell 13 rfl
  have q0_f13 := q0.frozen 13
  cases sm
  · have HV : Hid (canB ⟨kind, ix, sub, tg, la, cr, sz, size, code, data, sq, bl, em, sum⟩ = false) := hide (by rw [HC.out, Bool.and_false])
    go_wp2_with fail
    all_goals (go_ret; exact ⟨ret_bool HV.out.symm, hbw⟩)
  clear d1 d2
  by_cases hin : inB ⟨kind, ix, sub, tg, la, cr, sz, size, code, data, sq, bl, em, sum⟩ n
  case neg =>
    have HV : Hid (canB ⟨kind, ix, sub, tg, la, cr, sz, size, code, data, sq, bl, em, sum⟩ = false) := hide (by
      have hr : rangeB ⟨kind, ix, sub, tg, la, cr, sz, size, code, data, sq, bl, em, sum⟩ = false := by
        rw [Bool.eq_false_iff]
        intro h
        exact hin (HR.out.1 h)
      rw [HC.out, hr, Bool.false_and, Bool.false_and])
    have HIN := hide hin
    clear hin HC HR q0
    go_wp2_with fail
    all_goals first
      | (go_ret
         exact ⟨ret_bool HV.out.symm, hbw⟩)
      | (exfalso
         go_light
         have := HIN.out
         simp only [inB] at this
         omega)
  case pos =>
    have HT := hide (HR.out.2 hin)
    simp only [inB] at hin
    obtain ⟨r1, r2, r3, r4, r5, r6, r7, r8, r9, r10, r11⟩ := hin
    clear HR
    go_upto_region 5 with fail
    rcases (show kind = 2 ∨ kind = 14 ∨ kind = 21 ∨ (kind ≠ 2 ∧ kind ≠ 14 ∧ kind ≠ 21) by omega) with rfl | rfl | rfl | ⟨k1, k2, k3⟩
    · rcases (show 4 < n ∨ (n = 0 ∨ n = 4) ∨ (0 < n ∧ n < 4) by omega) with g | g | ⟨g, g'⟩
      · have HV : Hid (canB ⟨2, ix, sub, tg, la, cr, sz, size, code, data, sq, bl, em, sum⟩ = false) := hide (by rw [HC.out, HT.out, Bool.true_and, Bool.and_true]; simp; omega)
        clear HC HT q0
        go_wp2_with fail
        all_goals first
          | (go_ret; exact ⟨ret_bool HV.out.symm, hbw⟩)
          | (go_ret; refine ⟨ret_bool ?_, hbw⟩; rw [HV.out]; go_light; simp; omega)
          | (go_ret; refine ⟨ret_bool ?_, hbw⟩; rw [HV.out]; go_light; simp_all; done)
          | (exfalso; go_light; simp_all; done)
          | (exfalso; go_light; simp_all; omega)
          | (go_show; sorry)
      · rcases g with rfl | rfl
        · have HV : Hid (canB ⟨2, ix, sub, tg, la, cr, sz, size, code, data, sq, bl, em, sum⟩ = true) := hide (by rw [HC.out, HT.out, Bool.true_and, Bool.and_true]; simp)
          clear HC HT q0
          go_wp2_with fail
          all_goals first
            | (go_ret; exact ⟨ret_bool HV.out.symm, hbw⟩)
            | (go_ret; refine ⟨ret_bool ?_, hbw⟩; rw [HV.out]; go_light; simp; omega)
            | (go_ret; refine ⟨ret_bool ?_, hbw⟩; rw [HV.out]; go_light; simp_all; done)
            | (exfalso; go_light; simp_all; done)
            | (exfalso; go_light; simp_all; omega)
            | (go_show; sorry)
        · have HV : Hid (canB ⟨2, ix, sub, tg, la, cr, sz, size, code, data, sq, bl, em, sum⟩ = true) := hide (by rw [HC.out, HT.out, Bool.true_and, Bool.and_true]; simp)
          clear HC HT q0
          go_wp2_with fail
          all_goals first
            | (go_ret; exact ⟨ret_bool HV.out.symm, hbw⟩)
            | (go_ret; refine ⟨ret_bool ?_, hbw⟩; rw [HV.out]; go_light; simp; omega)
            | (go_ret; refine ⟨ret_bool ?_, hbw⟩; rw [HV.out]; go_light; simp_all; done)
            | (exfalso; go_light; simp_all; done)
            | (exfalso; go_light; simp_all; omega)
            | (go_show; sorry)
      · cases sz
        · have HV : Hid (canB ⟨2, ix, sub, tg, la, cr, false, size, code, data, sq, bl, em, sum⟩ = false) := hide (by rw [HC.out, HT.out, Bool.true_and, Bool.and_true]; simp; omega)
          clear HC HT q0
          go_wp2_with fail
          all_goals first
            | (go_ret; exact ⟨ret_bool HV.out.symm, hbw⟩)
            | (go_ret; refine ⟨ret_bool ?_, hbw⟩; rw [HV.out]; go_light; simp; omega)
            | (go_ret; refine ⟨ret_bool ?_, hbw⟩; rw [HV.out]; go_light; simp_all; done)
            | (exfalso; go_light; simp_all; done)
            | (exfalso; go_light; simp_all; omega)
            | (go_show; sorry)
        · have HV : Hid (canB ⟨2, ix, sub, tg, la, cr, true, size, code, data, sq, bl, em, sum⟩ = true) := hide (by rw [HC.out, HT.out, Bool.true_and, Bool.and_true]; simp; omega)
          clear HC HT q0
          go_wp2_with fail
          all_goals first
            | (go_ret; exact ⟨ret_bool HV.out.symm, hbw⟩)
            | (go_ret; refine ⟨ret_bool ?_, hbw⟩; rw [HV.out]; go_light; simp; omega)
            | (go_ret; refine ⟨ret_bool ?_, hbw⟩; rw [HV.out]; go_light; simp_all; done)
            | (exfalso; go_light; simp_all; done)
            | (exfalso; go_light; simp_all; omega)
            | (go_show; sorry)
    · rcases (show 4 < n ∨ (n = 0 ∨ n = 4) ∨ (0 < n ∧ n < 4) by omega) with g | g | ⟨g, g'⟩
      · have HV : Hid (canB ⟨14, ix, sub, tg, la, cr, sz, size, code, data, sq, bl, em, sum⟩ = false) := hide (by rw [HC.out, HT.out, Bool.true_and, Bool.and_true]; simp; omega)
        clear HC HT q0
        go_wp2_with fail
        all_goals first
          | (go_ret; exact ⟨ret_bool HV.out.symm, hbw⟩)
          | (go_ret; refine ⟨ret_bool ?_, hbw⟩; rw [HV.out]; go_light; simp; omega)
          | (go_ret; refine ⟨ret_bool ?_, hbw⟩; rw [HV.out]; go_light; simp_all; done)
          | (exfalso; go_light; simp_all; done)
          | (exfalso; go_light; simp_all; omega)
          | (go_show; sorry)
      · rcases g with rfl | rfl
        · have HV : Hid (canB ⟨14, ix, sub, tg, la, cr, sz, size, code, data, sq, bl, em, sum⟩ = true) := hide (by rw [HC.out, HT.out, Bool.true_and, Bool.and_true]; simp)
          clear HC HT q0
          go_wp2_with fail
          all_goals first
            | (go_ret; exact ⟨ret_bool HV.out.symm, hbw⟩)
            | (go_ret; refine ⟨ret_bool ?_, hbw⟩; rw [HV.out]; go_light; simp; omega)
            | (go_ret; refine ⟨ret_bool ?_, hbw⟩; rw [HV.out]; go_light; simp_all; done)
            | (exfalso; go_light; simp_all; done)
            | (exfalso; go_light; simp_all; omega)
            | (go_show; sorry)
        · have HV : Hid (canB ⟨14, ix, sub, tg, la, cr, sz, size, code, data, sq, bl, em, sum⟩ = true) := hide (by rw [HC.out, HT.out, Bool.true_and, Bool.and_true]; simp)
          clear HC HT q0
          go_wp2_with fail
          all_goals first
            | (go_ret; exact ⟨ret_bool HV.out.symm, hbw⟩)
            | (go_ret; refine ⟨ret_bool ?_, hbw⟩; rw [HV.out]; go_light; simp; omega)
            | (go_ret; refine ⟨ret_bool ?_, hbw⟩; rw [HV.out]; go_light; simp_all; done)
            | (exfalso; go_light; simp_all; done)
            | (exfalso; go_light; simp_all; omega)
            | (go_show; sorry)
      · cases sz
        · have HV : Hid (canB ⟨14, ix, sub, tg, la, cr, false, size, code, data, sq, bl, em, sum⟩ = false) := hide (by rw [HC.out, HT.out, Bool.true_and, Bool.and_true]; simp; omega)
          clear HC HT q0
          go_wp2_with fail
          all_goals first
            | (go_ret; exact ⟨ret_bool HV.out.symm, hbw⟩)
            | (go_ret; refine ⟨ret_bool ?_, hbw⟩; rw [HV.out]; go_light; simp; omega)
            | (go_ret; refine ⟨ret_bool ?_, hbw⟩; rw [HV.out]; go_light; simp_all; done)
            | (exfalso; go_light; simp_all; done)
            | (exfalso; go_light; simp_all; omega)
            | (go_show; sorry)
        · have HV : Hid (canB ⟨14, ix, sub, tg, la, cr, true, size, code, data, sq, bl, em, sum⟩ = true) := hide (by rw [HC.out, HT.out, Bool.true_and, Bool.and_true]; simp; omega)
          clear HC HT q0
          go_wp2_with fail
          all_goals first
            | (go_ret; exact ⟨ret_bool HV.out.symm, hbw⟩)
            | (go_ret; refine ⟨ret_bool ?_, hbw⟩; rw [HV.out]; go_light; simp; omega)
            | (go_ret; refine ⟨ret_bool ?_, hbw⟩; rw [HV.out]; go_light; simp_all; done)
            | (exfalso; go_light; simp_all; done)
            | (exfalso; go_light; simp_all; omega)
            | (go_show; sorry)
    · rcases (show (n = 7 ∧ 0 < sq) ∨ (n = 7 ∧ sq ≤ 0) ∨ n ≠ 7 by omega) with ⟨rfl, g⟩ | ⟨rfl, g⟩ | g
      · have HV : Hid (canB ⟨21, ix, sub, tg, la, cr, sz, size, code, data, sq, bl, em, sum⟩ = true) := hide (by rw [HC.out, HT.out, Bool.true_and, Bool.and_true]; simp; omega)
        clear HC HT q0
        go_wp2_with fail
        all_goals first
          | (go_ret; exact ⟨ret_bool HV.out.symm, hbw⟩)
          | (go_ret; refine ⟨ret_bool ?_, hbw⟩; rw [HV.out]; go_light; simp; omega)
          | (go_ret; refine ⟨ret_bool ?_, hbw⟩; rw [HV.out]; go_light; simp_all; done)
          | (exfalso; go_light; simp_all; done)
          | (exfalso; go_light; simp_all; omega)
          | (go_show; sorry)
      · have HV : Hid (canB ⟨21, ix, sub, tg, la, cr, sz, size, code, data, sq, bl, em, sum⟩ = false) := hide (by rw [HC.out, HT.out, Bool.true_and, Bool.and_true]; simp; omega)
        clear HC HT q0
        go_wp2_with fail
        all_goals first
          | (go_ret; exact ⟨ret_bool HV.out.symm, hbw⟩)
          | (go_ret; refine ⟨ret_bool ?_, hbw⟩; rw [HV.out]; go_light; simp; omega)
          | (go_ret; refine ⟨ret_bool ?_, hbw⟩; rw [HV.out]; go_light; simp_all; done)
          | (exfalso; go_light; simp_all; done)
          | (exfalso; go_light; simp_all; omega)
          | (go_show; sorry)
      · have HV : Hid (canB ⟨21, ix, sub, tg, la, cr, sz, size, code, data, sq, bl, em, sum⟩ = false) := hide (by rw [HC.out, HT.out, Bool.true_and, Bool.and_true]; simp; omega)
        have g1 : ((n : Int) == 7) = false := by simp; omega
        clear g
        clear HC HT q0
        go_wp2_with fail
        all_goals first
          | (go_ret; exact ⟨ret_bool HV.out.symm, hbw⟩)
          | (go_ret; refine ⟨ret_bool ?_, hbw⟩; rw [HV.out]; go_light; simp; omega)
          | (go_ret; refine ⟨ret_bool ?_, hbw⟩; rw [HV.out]; go_light; simp_all; done)
          | (exfalso; go_light; simp_all; done)
          | (exfalso; go_light; simp_all; omega)
          | (go_show; sorry)
    · have HV : Hid (canB ⟨kind, ix, sub, tg, la, cr, sz, size, code, data, sq, bl, em, sum⟩ = true) := hide (by rw [HC.out, HT.out, Bool.true_and, Bool.and_true]; rw [if_neg (by omega), if_neg (by omega)])
      have k4 : (kind == 2) = false := by simpa using k1
      have k5 : (kind == 14) = false := by simpa using k2
      have k6 : (kind == 21) = false := by simpa using k3
      have k7 : (kind != 21) = true := by simpa using k3
      clear k1 k2 k3
      clear HC HT q0
      go_wp2_with fail
      all_goals first
        | (go_ret; exact ⟨ret_bool HV.out.symm, hbw⟩)
        | (go_ret; refine ⟨ret_bool ?_, hbw⟩; rw [HV.out]; go_light; simp; omega)
        | (go_ret; refine ⟨ret_bool ?_, hbw⟩; rw [HV.out]; go_light; simp_all; done)
        | (exfalso; go_light; simp_all; done)
        | (exfalso; go_light; simp_all; omega)
        | (go_show; sorry)
theorem rsd_can (M : Ms) (A : Option Addr) (n c : Nat) (w : World) (hn : n = M.data.length) (hs : Sl w A (M.data.map bv)) :
    Calls Try.prog 67 #[.agg (msV M A n c)] w fun e w' => e = .returned (.bool (canB M)) ∧ Below w.heap.size w w' := by
  by_cases hk : M.kind < 1 ∨ 21 < M.kind
  · exact rsd_can_no M A n c w hk
  · exact rsd_can_yes M A n c w hn hs (by omega) (by omega)
end
section
open Go.RowKit

theorem rsd_laid (kind : Int) (ix sub sq bl em size code sum n c : Nat) (tg la cr sz : Bool) (A : Option Addr) (data : List UInt8) (w : World) (k1 : 1 ≤ kind) (k2 : kind ≤ 21) (hu1 : size ≤ 4294967295) (hu2 : code ≤ 4294967295) (hu3 : sum ≤ 65535)
    (A2 : ix ≤ 65535) (B2 : sub ≤ 255) (C2 : sq ≤ 127) (D2 : bl ≤ 127) (E2 : em ≤ 7) (hn : n = data.length) (hn7 : n ≤ 7) (hn4 : kind = 2 ∨ kind = 14 → n ≤ 4) (hs : Sl w A (data.map bv)) :
    Calls Try.prog 68 #[.agg #[.int .i64 kind, .int .i64 (ix : Nat), .int .i64 (sub : Nat), .bool tg, .bool la, .bool cr, .bool sz, .int .u32 (size : Nat), .int .u32 (code : Nat), .slice A n c, .int .i64 (sq : Nat), .int .i64 (bl : Nat), .int .i64 (em : Nat), .int .u16 (sum : Nat)]] w (LaidR w (rlaidL kind n ix sub size code sq bl em sum tg la cr sz data)) := by
  rcases (show (kind = 1 ∨ kind = 2 ∨ kind = 3 ∨ kind = 4 ∨ kind = 5) ∨ (kind = 6 ∨ kind = 7 ∨ kind = 8 ∨ kind = 9 ∨ kind = 10 ∨ kind = 11 ∨ kind = 12 ∨ kind = 13) ∨ (kind = 14 ∨ kind = 16 ∨ kind = 17 ∨ kind = 18) ∨ (kind = 15 ∨ kind = 19 ∨ kind = 20 ∨ kind = 21) by omega) with g | g | g | g
  · exact rsd_laid_a kind ix sub sq bl em size code sum n c tg la cr sz A data w k1 k2 hu1 hu2 hu3 A2 B2 C2 D2 E2 hn hn7 hn4 hs g
  · exact rsd_laid_b kind ix sub sq bl em size code sum n c tg la cr sz A data w k1 k2 hu1 hu2 hu3 A2 B2 C2 D2 E2 hn hn7 hn4 hs g
  · exact rsd_laid_c kind ix sub sq bl em size code sum n c tg la cr sz A data w k1 k2 hu1 hu2 hu3 A2 B2 C2 D2 E2 hn hn7 hn4 hs g
  · exact rsd_laid_d kind ix sub sq bl em size code sum n c tg la cr sz A data w k1 k2 hu1 hu2 hu3 A2 B2 C2 D2 E2 hn hn7 hn4 hs g
end
section
open Go.RowKit
set_option maxRecDepth 100000
set_option maxHeartbeats 2000000

theorem rsd_laidM (M : Ms) (A : Option Addr) (n c : Nat) (w : World) (hn : n = M.data.length) (hs : Sl w A (M.data.map bv)) (hcan : canB M = true) (hu1 : M.size ≤ 4294967295) (hu2 : M.code ≤ 4294967295) (hu3 : M.sum ≤ 65535) :
    Calls Try.prog 68 #[.agg (msV M A n c)] w (LaidR w (laidB M)) := by
  have hrg : rangeB M = true ∧ shapeB (formI M.kind) M = true ∧ formI M.kind ≠ 0 := by
    have := hcan
    simp only [canB, Bool.and_eq_true, decide_eq_true_iff] at this
    exact ⟨this.1.1.2, this.1.2, this.1.1.1⟩
  obtain ⟨hr1, hsh, hf0⟩ := hrg
  have k1 : 1 ≤ M.kind ∧ M.kind ≤ 21 := by
    refine ⟨?_, ?_⟩
    · rcases Int.lt_or_le M.kind 1 with h | h
      · exact absurd (form_zero _ (.inl h)) hf0
      · exact h
    · rcases Int.lt_or_le 21 M.kind with h | h
      · exact absurd (form_zero _ (.inr h)) hf0
      · exact h
  have h4 : M.kind = 2 ∨ M.kind = 14 → M.data.length ≤ 4 := by
    intro h
    rw [show formI M.kind = 2 by rcases h with h | h <;> rw [h] <;> rfl] at hsh
    simp only [shapeB, if_true, Bool.or_eq_true, Bool.and_eq_true, decide_eq_true_iff] at hsh
    omega
  obtain ⟨kind, ix, sub, tg, la, cr, sz, size, code, data, sq, bl, em, sum⟩ := M
  simp only [rangeB, Bool.and_eq_true, decide_eq_true_iff] at hr1 k1 h4 hu1 hu2 hu3 hn hs
  obtain ⟨⟨⟨⟨⟨⟨a1, a2⟩, b1, b2⟩, c1, c2⟩, d1, d2⟩, e1, e2⟩, hd7⟩ := hr1
  obtain ⟨ix, rfl⟩ := Int.eq_ofNat_of_zero_le a1
  obtain ⟨sub, rfl⟩ := Int.eq_ofNat_of_zero_le b1
  obtain ⟨sq, rfl⟩ := Int.eq_ofNat_of_zero_le c1
  obtain ⟨bl, rfl⟩ := Int.eq_ofNat_of_zero_le d1
  obtain ⟨em, rfl⟩ := Int.eq_ofNat_of_zero_le e1
  rw [← rlaid_eq kind ix sub sq bl em size code sum tg la cr sz data k1.1 k1.2 (by omega) (by omega) (by omega) h4, ← hn]
  exact rsd_laid kind ix sub sq bl em size code sum n c tg la cr sz A data w k1.1 k1.2 hu1 hu2 hu3 (by omega) (by omega) (by omega) (by omega) (by omega) hn (by omega) (by omega) hs
theorem rsd_build (M : Ms) (A : Option Addr) (n c : Nat) (w : World) (hn : n = M.data.length) (hs : Sl w A (M.data.map bv)) (hu1 : M.size ≤ 4294967295) (hu2 : M.code ≤ 4294967295) (hu3 : M.sum ≤ 65535) :
    Calls Try.prog 33 #[.agg (msV M A n c)] w (BuildM M w) := by
  have q0 := blk_one w 43 (msV M A n c)
  have hs1 := hs.alloc (.cells (msV M A n c) 43)
  have HC := hide (fun W h => rsd_can M A n c W hn h)
  have HL := hide (fun W h hcan => rsd_laidM M A n c W hn h hcan hu1 hu2 hu3)
  have hbw := below_alloc (Below.refl w.heap.size w) (.cells (msV M A n c) 43)
  have HE : Hid (∀ e w', (∃ A' n' c', e = .returned (.tuple #[.slice A' n' c', .int .i64 (if canB M = true then 0 else 1)]) ∧ OwnB w' w.heap.size A' n' c' (if canB M = true then laidB M else []) ∧ Below w.heap.size w w') → BuildM M w e w') := hide (fun e w' h => h)
  obtain ⟨P, hP⟩ : ∃ P, P = BuildM M w := ⟨_, rfl⟩
  rw [← hP] at HE ⊢
  obtain ⟨L, hL⟩ : ∃ L, L = laidB M := ⟨_, rfl⟩
  rw [← hL] at HL HE
  obtain ⟨cn, hcn⟩ : ∃ cn, cn = canB M := ⟨_, rfl⟩
  rw [← hcn] at HC HE HL
  clear hP hL hcn hn hs
  obtain ⟨kind, ix, sub, tg, la, cr, sz, size, code, data, sq, bl, em, sum⟩ := M
  simp only [msV] at *
  go_enter Try.func33, Try.ntmps33
  have lq := q0.lt
  go_wp2_with fail
  generalize w.alloc (.cells #[.int .i64 kind, .int .i64 ix, .int .i64 sub, .bool tg, .bool la, .bool cr, .bool sz, .int .u32 (size : Nat), .int .u32 (code : Nat), .slice A n c, .int .i64 sq, .int .i64 bl, .int .i64 em, .int .u16 (sum : Nat)] 43) = W at *
  refine (HC.out W hs1).mono ?_
  rintro e w2 ⟨rfl, hb2⟩
  have q2 := q0.below hb2 lq
  have hs2 := hs1.below hb2
  replace hbw := below_step hb2 hbw
  have q2_c0 := q2.cell 0 rfl
  have q2_f0 := q2.frozen 0
  have q2_c1 := q2.cell 1 rfl
  have q2_f1 := q2.frozen 1
  have q2_c2 := q2.cell 2 rfl
  have q2_f2 := q2.frozen 2
  have q2_c3 := q2.cell 3 rfl
  have q2_f3 := q2.frozen 3
  have q2_c4 := q2.cell 4 rfl
  have q2_f4 := q2.frozen 4
  have q2_c5 := q2.cell 5 rfl
  have q2_f5 := q2.frozen 5
  have q2_c6 := q2.cell 6 rfl
  have q2_f6 := q2.frozen 6
  have q2_c7 := q2.cell 7 rfl
  have q2_f7 := q2.frozen 7
  have q2_c8 := q2.cell 8 rfl
  have q2_f8 := q2.frozen 8
  have q2_c9 := q2.cell 9 rfl
  have q2_f9 := q2.frozen 9
  have q2_c10 := q2.cell 10 rfl
  have q2_f10 := q2.frozen 10
  have q2_c11 := q2.cell 11 rfl
  have q2_f11 := q2.frozen 11
  have q2_c12 := q2.cell 12 rfl
  have q2_f12 := q2.frozen 12
  have q2_c13 := q2.cell 13 rfl
  have q2_f13 := q2.frozen 13
  clear q0 hs1
  cases cn
  · go_wp2_with fail
    exact HE.out _ _ ⟨none, 0, 0, rfl, OwnB.nil _ _, hbw⟩
  · go_wp2_with fail
    refine (HL.out w2 hs2 (by first | exact rfl | trivial)).mono ?_
    rintro e w3 ⟨g, rfl, hO3, hb3⟩
    go_wp2_with fail
    exact HE.out _ _ ⟨_, 8, 8, rfl, hO3.mono hbw.size, below_step hb3 hbw⟩
end
end Go.Proofs.Ytcncbmlacphclaa
