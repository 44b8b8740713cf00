/- Segments' law: Taken, the reference's Same of messages, light; what stays within bounds. -/
import Derived.Test.YtimdmhhgomfijaaGreatRSgC
import Derived.Test.YtimdmhhgomfijaaGreatSegI
import Derived.Test.YtimdmhhgomfijaaGreatDicValL
import Derived.Test.YtimdmhhgomfijaaGreatSegU
import Derived.Test.YtimdmhhgomfijaaGreatRSgF
import Derived.Test.YtimdmhhgomfijaaGreatSegJ
import Derived.Test.YtimdmhhgomfijaaGreatTwoD
namespace Go.Proofs.YtimdmhhgomfijaaGreat
set_option linter.unusedVariables false
set_option linter.unusedSimpArgs false
set_option linter.unnecessarySimpa false
section
open Go.RowKit
set_option maxRecDepth 100000
set_option maxHeartbeats 4000000
theorem rinfoMs : (Tryz.prog.info? 48).map (fun i => (i.zero, i.size, i.bytes)) = some (some (.agg #[.int .i64 0, .int .i64 0, .int .i64 0, .bool false, .bool false, .bool false, .bool false, .int .u32 0, .int .u32 0, .slice none 0 0, .int .i64 0, .int .i64 0, .int .i64 0, .int .u16 0]), 14, 96) := by kernel_rfl
theorem msL_one (M : Ms) (A : Option Addr) (n c : Nat) : ∀ u ∈ msL_ M A n c, u.oneCell' = true := by
  intro u hu
  simp [msL_] at hu
  rcases hu with rfl | rfl | rfl | rfl | rfl | rfl | rfl | rfl | rfl | rfl | rfl | rfl | rfl | rfl <;> rfl
theorem taken_none (w : World) : Calls Tryz.prog 43 #[.slice none 0 0] w fun e w' => e = .returned (.slice none 0 0) ∧ w = w' := by
  go_enter Tryz.func43, Tryz.ntmps43
  go_wp2_with fail
  go_loopw [3, 4] (fun s3 s4 wx => s3 = .slice none 0 0 ∧ s4 = .int .i64 0 ∧ w = wx) (fun _ _ _ => 0)
  case atStart => exact ⟨rfl, rfl, rfl⟩
  case round =>
    obtain ⟨rfl, rfl, rfl⟩ := hrel
    go_wp2_with fail
    go_ret
    exact ⟨rfl, rfl⟩
theorem sl_new2 (w : World) (a b : Obj) (x y : Array Value) (T : TypeId) : Sl (((w.alloc a).alloc b).alloc (.cells (x ++ y) T)).drew (some ⟨w.heap.size + 1 + 1, 0, none⟩) x.toList := by
  have h := (Blk.new ((w.alloc a).alloc b) T (x ++ y)).sl
  rw [show ((w.alloc a).alloc b).heap.size = w.heap.size + 1 + 1 by simp] at h
  intro j u hu
  exact h j u (by
    rw [Array.toList_append, List.getElem?_append_left (List.getElem?_eq_some_iff.1 hu).1]
    exact hu)
theorem taken_one (g : Nat) (M : Ms) (A : Option Addr) (n c : Nat) (w : World) (hB : Blk w g 72 (msV M A n c)) : Calls Tryz.prog 43 #[.slice (some ⟨g, 0, none⟩) 1 1] w fun e w' => ∃ g' c', e = .returned (.slice (some ⟨g', 0, none⟩) 1 c') ∧ (Sl w' (some ⟨g', 0, none⟩) (msL_ M A n c) ∧ g' < w'.heap.size) ∧ Below w.heap.size w w' := by
  have hz := hB.lt
  have hB' := hB
  obtain ⟨kind, ix, sub, tg, la, cr, sz, size, code, data, sq, bl, em, sum⟩ := M
  unfold msV at hB'
  dsimp only at hB'
  obtain ⟨hB'_c0, hB'_c1, hB'_c2, hB'_c3, hB'_c4, hB'_c5, hB'_c6, hB'_c7, hB'_c8, hB'_c9, hB'_c10, hB'_c11, hB'_c12, hB'_c13⟩ := cel14 hB'
  have hB'_f := hB'.frozen
  go_enter Tryz.func43, Tryz.ntmps43
  go_wp2_with fail
  go_loopw [3, 4] (fun s3 s4 wx => (s3 = .slice none 0 0 ∧ s4 = .int .i64 0 ∧ w = wx) ∨ (∃ g' c', s3 = .slice (some ⟨g', 0, none⟩) 1 c' ∧ s4 = .int .i64 1 ∧ Hid (Sl wx (some ⟨g', 0, none⟩) (msL_ (⟨kind, ix, sub, tg, la, cr, sz, size, code, data, sq, bl, em, sum⟩ : Ms) A n c) ∧ g' < wx.heap.size) ∧ Below w.heap.size w wx)) (fun _ s4 _ => 1 - (intOf s4).toNat)
  case atStart => exact .inl ⟨rfl, rfl, rfl⟩
  case round =>
    rcases hrel with ⟨rfl, rfl, rfl⟩ | ⟨g', c', rfl, rfl, HO, hb⟩
    · go_wp2_with fail
      refine ⟨.inr ⟨w.heap.size + 1 + 1, _, rfl, rfl, hide ⟨sl_new2 w _ _ _ _ _, ?_⟩, (below_alloc (below_alloc (below_alloc (Below.refl _ _) _) _) _).trans (Below.drew (Below.refl _ _))⟩, by simp [intOf]⟩
      show w.heap.size + 1 + 1 < (((w.alloc _).alloc _).alloc _).heap.size
      simp
    · go_wp2_with fail
      go_ret
      exact ⟨g', c', rfl, HO.out, hb⟩
theorem rsame_yes (M : Ms) (A1 A2 : Option Addr) (n1 c1 n2 c2 : Nat) (w : World) (hn1 : n1 = M.data.length) (hn2 : n2 = M.data.length) (h1 : Sl w A1 (M.data.map bv)) (h2 : Sl w A2 (M.data.map bv)) :
    Calls Tryz.prog 77 #[.agg (msV M A1 n1 c1), .agg (msV M A2 n2 c2)] w fun e w' => e = .returned (.bool true) ∧ Below w.heap.size w w' := by
  have hbw := below_alloc (below_alloc (Below.refl w.heap.size w) (.cells (msV M A1 n1 c1) 48)) (.cells (msV M A2 n2 c2) 48)
  obtain ⟨k1, k2⟩ := blk_two w 48 48 (msV M A1 n1 c1) (msV M A2 n2 c2)
  have t1 : ∀ W, Below w.heap.size w W → (convert 39 9 (.slice A1 n1 c1)).run Tryz.prog W = .ok (.string ⟨M.data.toArray⟩) W := fun W h => str_b c1 hn1 (h1.below h)
  have t2 : ∀ W, Below w.heap.size w W → (convert 39 9 (.slice A2 n2 c2)).run Tryz.prog W = .ok (.string ⟨M.data.toArray⟩) W := fun W h => str_b c2 hn2 (h2.below h)
  replace t1 := t1 _ hbw
  replace t2 := t2 _ hbw
  clear hn1 hn2 h1 h2
  obtain ⟨kind, ix, sub, tg, la, cr, sz, size, code, data, sq, bl, em, sum⟩ := M
  unfold msV at *
  dsimp only at *
  obtain ⟨k1_c0, k1_c1, k1_c2, k1_c3, k1_c4, k1_c5, k1_c6, k1_c7, k1_c8, k1_c9, k1_c10, k1_c11, k1_c12, k1_c13⟩ := cel14 k1
  have k1_f := k1.frozen
  obtain ⟨k2_c0, k2_c1, k2_c2, k2_c3, k2_c4, k2_c5, k2_c6, k2_c7, k2_c8, k2_c9, k2_c10, k2_c11, k2_c12, k2_c13⟩ := cel14 k2
  have k2_f := k2.frozen
  go_enter Tryz.func77, Tryz.ntmps77
  go_wp2_with fail
  all_goals
    go_ret
    exact ⟨rfl, hbw⟩
theorem rsames_none (w : World) : Calls Tryz.prog 42 #[.slice none 0 0, .slice none 0 0] w fun e w' => e = .returned (.bool true) ∧ w = w' := by
  go_enter Tryz.func42, Tryz.ntmps42
  go_wp2_with fail
  go_loopw [5] (fun s5 wx => s5 = .int .i64 0 ∧ w = wx) (fun _ _ => 0)
  case atStart => exact ⟨rfl, rfl⟩
  case round =>
    obtain ⟨rfl, rfl⟩ := hrel
    go_wp2_with fail
    go_ret
    exact ⟨rfl, rfl⟩
theorem rsames_one (g1 g2 : Nat) (M : Ms) (A1 A2 : Option Addr) (n1 d1 n2 d2 c1 : Nat) (w : World) (hB1 : Sl w (some ⟨g1, 0, none⟩) (msL_ M A1 n1 d1)) (hg1 : g1 < w.heap.size) (hB2 : Blk w g2 48 (msV M A2 n2 d2)) (hn1 : n1 = M.data.length) (hn2 : n2 = M.data.length) (h1 : Sl w A1 (M.data.map bv)) (h2 : Sl w A2 (M.data.map bv)) :
    Calls Tryz.prog 42 #[.slice (some ⟨g1, 0, none⟩) 1 c1, .slice (some ⟨g2, 0, none⟩) 1 1] w fun e w' => e = .returned (.bool true) ∧ Below w.heap.size w w' := by
  have HS := hide (fun W (h : Below w.heap.size w W) => rsame_yes M A1 A2 n1 d1 n2 d2 W hn1 hn2 (h1.below h) (h2.below h))
  have hB1' := hB1
  have hz2 := hB2.lt
  have e : ∀ (j : Nat) (u : Value), (msL_ M A1 n1 d1)[j]? = some u → w.cell? ⟨g1, j, none⟩ = some u := fun j u h => by
    obtain ⟨ad, ha, hc⟩ := hB1 j u h
    injection ha with ha
    subst ha
    rwa [show (Addr.add ⟨g1, 0, none⟩ j : Addr) = ⟨g1, j, none⟩ by unfold Addr.add; split <;> simp_all] at hc
  have k1_c0 := e 0 _ rfl
  have k1_c1 := e 1 _ rfl
  have k1_c2 := e 2 _ rfl
  have k1_c3 := e 3 _ rfl
  have k1_c4 := e 4 _ rfl
  have k1_c5 := e 5 _ rfl
  have k1_c6 := e 6 _ rfl
  have k1_c7 := e 7 _ rfl
  have k1_c8 := e 8 _ rfl
  have k1_c9 := e 9 _ rfl
  have k1_c10 := e 10 _ rfl
  have k1_c11 := e 11 _ rfl
  have k1_c12 := e 12 _ rfl
  have k1_c13 := e 13 _ rfl
  have k2 := hB2
  clear e hB1 hB1' hn1 hn2 h1 h2 hB2
  obtain ⟨kind, ix, sub, tg, la, cr, sz, size, code, data, sq, bl, em, sum⟩ := M
  unfold msV at k2 HS
  dsimp only at k2 HS
  obtain ⟨k2_c0, k2_c1, k2_c2, k2_c3, k2_c4, k2_c5, k2_c6, k2_c7, k2_c8, k2_c9, k2_c10, k2_c11, k2_c12, k2_c13⟩ := cel14 k2
  have k2_f := k2.frozen
  go_enter Tryz.func42, Tryz.ntmps42
  go_wp2_with fail
  go_loopw [5] (fun s5 wx => (s5 = .int .i64 0 ∧ w = wx) ∨ (s5 = .int .i64 1 ∧ Below w.heap.size w wx)) (fun s5 _ => 1 - (intOf s5).toNat)
  case atStart => exact .inl ⟨rfl, rfl⟩
  case round =>
    rcases hrel with ⟨rfl, rfl⟩ | ⟨rfl, hb⟩
    · go_wp2_with fail
      refine wp_region_held_drew (S := (fun w' => (∀ qA : Addr, qA.block < (w).heap.size → w'.cell? qA = (w).cell? qA) ∧ Below (w).heap.size (w) w')) (by kernel_rfl) ?hS1 (fun hHeld => ?rest1)
      case hS1 => ((try dsimp only); (((try go_split_ands); refine sn_of ?_; repeat' (first | with_reducible assumption | with_reducible exact Below.refl _ _ | with_reducible apply below_alloc | with_reducible apply below_drew1 | with_reducible apply below_drewN | (with_reducible apply below_step; with_reducible assumption) | (with_reducible apply below_sg2; (first | exact Nat.le_refl _ | (simp; done) | omega))))))
      case' rest1 => skip
      refine wpAnyH_take (i := 0) (oi := _) (v := ?v2) rfl (by kernel_rfl) (by kernel_rfl) (by kernel_rfl) (fun _ _ _ h => h) (Or.inl ⟨by rfl, ?hy2⟩) (by assumption) ?rest2
      case hy2 => ((intro w hSw; (try dsimp only at hSw); go_simp) <;> with_reducible rfl)
      case' rest2 => try simp only [List.getElem_toArray, List.getElem_cons_zero, List.getElem_cons_succ, Act.put, List.setIfInBounds_toArray, List.set_cons_zero, List.set_cons_succ]
      refine wpAnyH_take (i := 1) (oi := _) (v := ?v3) rfl (by kernel_rfl) (by kernel_rfl) (by kernel_rfl) (fun _ _ _ h => h) (Or.inl ⟨by rfl, ?hy3⟩) (by assumption) ?rest3
      case hy3 => ((intro w hSw; (try dsimp only at hSw); go_simp) <;> with_reducible rfl)
      case' rest3 => try simp only [List.getElem_toArray, List.getElem_cons_zero, List.getElem_cons_succ, Act.put, List.setIfInBounds_toArray, List.set_cons_zero, List.set_cons_succ]
      refine wpAnyH_take (i := 2) (oi := _) (v := ?v4) rfl (by kernel_rfl) (by kernel_rfl) (by kernel_rfl) (fun _ _ _ h => h) (Or.inl ⟨by rfl, ?hy4⟩) (by assumption) ?rest4
      case hy4 => ((intro w hSw; (try dsimp only at hSw); go_simp) <;> with_reducible rfl)
      case' rest4 => try simp only [List.getElem_toArray, List.getElem_cons_zero, List.getElem_cons_succ, Act.put, List.setIfInBounds_toArray, List.set_cons_zero, List.set_cons_succ]
      refine wpAnyH_take (i := 3) (oi := _) (v := ?v5) rfl (by kernel_rfl) (by kernel_rfl) (by kernel_rfl) (fun _ _ _ h => h) (Or.inl ⟨by rfl, ?hy5⟩) (by assumption) ?rest5
      case hy5 => ((intro w hSw; (try dsimp only at hSw); go_simp) <;> with_reducible rfl)
      case' rest5 => try simp only [List.getElem_toArray, List.getElem_cons_zero, List.getElem_cons_succ, Act.put, List.setIfInBounds_toArray, List.set_cons_zero, List.set_cons_succ]
      refine wpAnyH_take (i := 4) (oi := _) (v := ?v6) rfl (by kernel_rfl) (by kernel_rfl) (by kernel_rfl) (fun _ _ _ h => h) (Or.inl ⟨by rfl, ?hy6⟩) (by assumption) ?rest6
      case hy6 => ((intro w hSw; (try dsimp only at hSw); go_simp) <;> with_reducible rfl)
      case' rest6 => try simp only [List.getElem_toArray, List.getElem_cons_zero, List.getElem_cons_succ, Act.put, List.setIfInBounds_toArray, List.set_cons_zero, List.set_cons_succ]
      refine wpAnyH_take (i := 5) (oi := _) (v := ?v7) rfl (by kernel_rfl) (by kernel_rfl) (by kernel_rfl) (fun _ _ _ h => h) (Or.inl ⟨by rfl, ?hy7⟩) (by assumption) ?rest7
      case hy7 => ((intro w hSw; (try dsimp only at hSw); go_simp) <;> with_reducible rfl)
      case' rest7 => try simp only [List.getElem_toArray, List.getElem_cons_zero, List.getElem_cons_succ, Act.put, List.setIfInBounds_toArray, List.set_cons_zero, List.set_cons_succ]
      refine wpAnyH_take (i := 6) (oi := _) (v := ?v8) rfl (by kernel_rfl) (by kernel_rfl) (by kernel_rfl) (fun _ _ _ h => h) (Or.inl ⟨by rfl, ?hy8⟩) (by assumption) ?rest8
      case hy8 => ((intro w hSw; (try dsimp only at hSw); go_simp) <;> with_reducible rfl)
      case' rest8 => try simp only [List.getElem_toArray, List.getElem_cons_zero, List.getElem_cons_succ, Act.put, List.setIfInBounds_toArray, List.set_cons_zero, List.set_cons_succ]
      refine wpAnyH_take (i := 7) (oi := _) (v := ?v9) rfl (by kernel_rfl) (by kernel_rfl) (by kernel_rfl) (fun _ _ _ h => h) (Or.inl ⟨by rfl, ?hy9⟩) (by assumption) ?rest9
      case hy9 => ((intro w hSw; (try dsimp only at hSw); go_simp) <;> with_reducible rfl)
      case' rest9 => try simp only [List.getElem_toArray, List.getElem_cons_zero, List.getElem_cons_succ, Act.put, List.setIfInBounds_toArray, List.set_cons_zero, List.set_cons_succ]
      refine wpAnyH_ready (rs := [8]) (by kernel_rfl) (by simp) ?_
      refine AllReadyH.cons (o := _) rfl (fun K hK => ?_) AllReadyH.nil
      go_simp
      refine (HS.out _ (Below.drew (Below.refl _ _))).mono ?_
      rintro e w6 ⟨rfl, hb6⟩
      dsimp only
      replace hb6 := below_undrew hb6
      refine hK.out _ _ ?hS12 (fun hHeld => ?rest12)
      case hS12 => ((try dsimp only); (((try go_split_ands); refine sn_of ?_; repeat' (first | with_reducible assumption | with_reducible exact Below.refl _ _ | with_reducible apply below_alloc | with_reducible apply below_drew1 | with_reducible apply below_drewN | (with_reducible apply below_step; with_reducible assumption) | (with_reducible apply below_sg2; (first | exact Nat.le_refl _ | (simp; done) | omega))))))
      case' rest12 => (clear hK K; try simp only [List.getElem_toArray, List.getElem_cons_zero, List.getElem_cons_succ, Act.put, List.setIfInBounds_toArray, List.set_cons_zero, List.set_cons_succ])
      refine wpAnyH_take (i := 9) (oi := _) (v := ?v13) rfl (by kernel_rfl) (by kernel_rfl) (by kernel_rfl) (fun _ _ _ h => h) (Or.inl ⟨by rfl, ?hy13⟩) (by assumption) ?rest13
      case hy13 => ((intro w hSw; (try dsimp only at hSw); go_simp) <;> with_reducible rfl)
      case' rest13 => try simp only [List.getElem_toArray, List.getElem_cons_zero, List.getElem_cons_succ, Act.put, List.setIfInBounds_toArray, List.set_cons_zero, List.set_cons_succ]
      refine wpAnyH_done (by kernel_rfl) ?_ _
      have hEnd := hHeld.2
      repeat (clear hHeld)
      go_wp2_with fail
      go_roundw
      case rel => exact .inr ⟨rfl, hb6⟩
      case measure => simp [intOf]
    · go_wp2_with fail
      go_ret
      exact ⟨rfl, hb⟩
/-- what a server holds stays within bounds -/
def WfS (S : SegS) : Prop := (S.st = 1 → S.mo ≤ 256 ∧ S.b.length ≤ 256) ∧ (S.st = 2 → S.b.length ≤ 256)
theorem most_le (E : Ent) : mostE E ≤ 256 := by
  unfold mostE tySize
  (repeat' split) <;> omega
theorem WfS.bytes {S : SegS} (h : WfS S) : S.st = 1 ∨ S.st = 2 → S.b.length ≤ 256 := fun h1 => h1.elim (fun h1 => (h.1 h1).2) h.2
theorem wf_idle {S : SegS} (h : S.st = 0) : WfS S := ⟨fun h1 => by omega, fun h1 => by omega⟩
theorem wf_recv {L : List Ent} {V : List (List UInt8)} {S : SegS} {M : Ms} (hv : ∀ v ∈ V, v.length ≤ 256) (h : WfS S) : WfS (recvS L V S M) := by
  unfold recvS
  split
  · exact wf_idle rfl
  split
  · unfold downS
    split
    · exact wf_idle rfl
    split
    · exact ⟨fun h1 => absurd h1 (show ¬ (3 : Int) = 1 by decide), fun h1 => absurd h1 (show ¬ (3 : Int) = 2 by decide)⟩
    · exact ⟨fun _ => ⟨most_le _, Nat.zero_le _⟩, fun h1 => absurd h1 (show ¬ (1 : Int) = 2 by decide)⟩
  split
  · unfold upS
    split
    · exact wf_idle rfl
    split
    · exact wf_idle rfl
    · refine ⟨fun h1 => absurd h1 (show ¬ (2 : Int) = 1 by decide), fun _ => ?_⟩
      show (getB L V M.ix M.sub).length ≤ 256
      unfold getB
      split
      · unfold valK
        rw [List.getD_eq_getElem?_getD]
        cases hx : V[locK L M.ix M.sub]? with
        | none => simp
        | some v => exact hv v (List.mem_of_getElem? hx)
      · simp
  split
  · rename_i hk
    obtain ⟨_, h1⟩ := hk
    have h2 := h.1 h1
    unfold partS
    split
    · exact wf_idle rfl
    rename_i htg
    split
    · exact wf_idle rfl
    rename_i hp
    have hp : pcode S M = 0 := by omega
    split
    · exact ⟨fun h1 => absurd h1 (show ¬ (3 : Int) = 1 by decide), fun h1 => absurd h1 (show ¬ (3 : Int) = 2 by decide)⟩
    · refine ⟨fun _ => ⟨h2.1, ?_⟩, fun h3 => by have : S.st = 2 := h3; omega⟩
      show (S.b ++ M.data).length ≤ 256
      unfold pcode at hp
      rw [if_neg htg] at hp
      split at hp
      · omega
      · rename_i h4
        have : ¬ S.mo < ((S.b ++ M.data).length : Int) := fun h5 => h4 (.inl h5)
        omega
  split
  · rename_i hk
    obtain ⟨_, h1⟩ := hk
    have h2 := h.2 h1
    unfold nextS
    split
    · exact wf_idle rfl
    split
    · exact wf_idle rfl
    · refine ⟨fun h3 => by have : S.st = 1 := h3; omega, fun _ => ?_⟩
      show (S.b.drop 7).length ≤ 256
      simp
      omega
  · exact wf_idle rfl
theorem vals_le {L : List Ent} {V : List (List UInt8)} (h : ValsP L V) (hl : V.length = L.length) : ∀ v ∈ V, v.length ≤ 256 := by
  intro v hv
  obtain ⟨j, hj, rfl⟩ := List.getElem_of_mem hv
  exact val_len (h j _ _ (List.getElem?_eq_getElem (by omega)) (List.getElem?_eq_getElem hj))
end
section
open Go.RowKit
set_option maxRecDepth 100000
set_option maxHeartbeats 4000000
/-- messages without bytes: none, or one -/
def MsN (t : TypeId) (w : World) (N : Nat) (As : Option Addr) (ns cs : Nat) (l : List Ms) : Prop :=
  (l = [] ∧ As = none ∧ ns = 0 ∧ cs = 0) ∨ ∃ M g, l = [M] ∧ As = some ⟨g, 0, none⟩ ∧ ns = 1 ∧ cs = 1 ∧ N ≤ g ∧ Blk w g t (msV M none 0 0) ∧ M.data = []
def CallN (t : TypeId) (w : World) (p : Nat) (V : World → Prop) (l : List Ms) (e : Ending) (w' : World) : Prop :=
  ∃ As ns cs, e = .returned (.slice As ns cs) ∧ MsN t w' w.heap.size As ns cs l ∧ V w' ∧ Only (fun q => q = p) w w'
theorem SV_.blk {w : World} {G : Nat → Prop} {p pd : Nat} {S : SegS} (h : SV_ w G p pd S) : ∃ A n c, Blk w p 86 (srvV S pd A n c) := by
  obtain ⟨A, n, c, hB, _⟩ := h
  exact ⟨A, n, c, hB⟩
theorem rv_idle {W : World} {G : Nat → Prop} {p pd : Nat} {S R : SegS} {A : Option Addr} {n c : Nat} (h : Blk W p 52 (srvV R pd A n c)) (h1 : S.st = 0) (h2 : R.st = 0) : RV_ W G p pd S := ⟨R, A, n, c, Ali.idle h1 h2, h, fun h => by omega⟩
theorem ans_data (S : SegS) (code : Nat) : (if code = 0 then wellM S else abM S.ix S.sub code).data = [] := by split <;> rfl
theorem seg_answerN (p pd : Nat) (S : SegS) (G : Nat → Prop) (code : Nat) (w : World) (hS : SV_ w G p pd S) :
    Calls Tryz.prog 24 #[.pointer (some ⟨p, 0, none⟩), .int .u32 (code : Nat)] w (CallN 72 w p (fun w' => SV_ w' G p pd (answerS S)) (answerL S code)) := by
  obtain ⟨A, n, c, hB, hb⟩ := id hS
  refine (seg_answer p pd S code A n c w hB).mono ?_
  rintro e w' ⟨h1, h2⟩
  by_cases h3 : S.st = 3
  · obtain ⟨g, hg, rfl, hM, hB', ho⟩ := h2 h3
    refine ⟨_, _, _, rfl, .inr ⟨_, g, ?_, rfl, rfl, rfl, hg, hM, ans_data S code⟩, ?_, ho⟩
    · unfold answerL
      rw [if_pos h3]
      by_cases h0 : code = 0 <;> simp [h0]
    · unfold answerS
      rw [if_pos h3]
      exact ⟨A, n, c, hB', fun h => absurd h (show ¬ ((0 : Int) = 1 ∨ (0 : Int) = 2) by decide)⟩
  · obtain ⟨rfl, rfl⟩ := h1 h3
    exact ⟨none, 0, 0, rfl, .inl ⟨by unfold answerL; rw [if_neg h3], rfl, rfl, rfl⟩, by unfold answerS; rw [if_neg h3]; exact hS, Only.refl _ _⟩
theorem rsg_answerN (p pd : Nat) (S : SegS) (G : Nat → Prop) (code : Nat) (w : World) (hS : RV_ w G p pd S) :
    Calls Tryz.prog 38 #[.pointer (some ⟨p, 0, none⟩), .int .u32 (code : Nat)] w (CallN 48 w p (fun w' => RV_ w' G p pd (answerS S)) (answerL S code)) := by
  obtain ⟨R, A, n, c, ha, hB, hb⟩ := id hS
  refine (rsg_answer p pd R code A n c w hB).mono ?_
  rintro e w' ⟨h1, h2⟩
  by_cases h3 : S.st = 3
  · have h3' : R.st = 3 := ha.1.symm.trans h3
    obtain ⟨g, hg, rfl, hM, hB', ho⟩ := h2 h3'
    refine ⟨_, _, _, rfl, .inr ⟨_, g, ?_, rfl, rfl, rfl, hg, hM, ans_data R code⟩, ?_, ho⟩
    · unfold answerL
      rw [if_pos h3, (ha.2.1 (by omega)).1, (ha.2.1 (by omega)).2, ha.2.2.2.2 h3']
      by_cases h0 : code = 0 <;> simp [h0]
    · unfold answerS
      rw [if_pos h3]
      exact rv_idle hB' rfl rfl
  · obtain ⟨rfl, rfl⟩ := h1 (fun h => h3 (ha.1.trans h))
    exact ⟨none, 0, 0, rfl, .inl ⟨by unfold answerL; rw [if_neg h3], rfl, rfl, rfl⟩, by unfold answerS; rw [if_neg h3]; exact hS, Only.refl _ _⟩
theorem seg_abortN (p pd : Nat) (S : SegS) (G : Nat → Prop) (code : Nat) (w : World) (hS : SV_ w G p pd S) :
    Calls Tryz.prog 39 #[.pointer (some ⟨p, 0, none⟩), .int .u32 (code : Nat)] w (CallN 72 w p (fun w' => SV_ w' G p pd (abortS S)) (abortL S code)) := by
  obtain ⟨A, n, c, hB, hb⟩ := id hS
  refine (seg_abort p pd S code A n c w hB).mono ?_
  rintro e w' ⟨h1, h2⟩
  by_cases h3 : S.st = 0
  · obtain ⟨rfl, rfl⟩ := h1 h3
    exact ⟨none, 0, 0, rfl, .inl ⟨by unfold abortL; rw [if_pos h3], rfl, rfl, rfl⟩, by rw [show abortS S = S by unfold abortS; cases S; simp at h3; simp [h3]]; exact hS, Only.refl _ _⟩
  · obtain ⟨g, hg, rfl, hM, hB', ho⟩ := h2 h3
    exact ⟨_, _, _, rfl, .inr ⟨_, g, by unfold abortL; rw [if_neg h3], rfl, rfl, rfl, hg, hM, rfl⟩, ⟨A, n, c, hB', fun h => absurd h (show ¬ ((0 : Int) = 1 ∨ (0 : Int) = 2) by decide)⟩, ho⟩
theorem rsg_abortN (p pd : Nat) (S : SegS) (G : Nat → Prop) (code : Nat) (w : World) (hS : RV_ w G p pd S) :
    Calls Tryz.prog 40 #[.pointer (some ⟨p, 0, none⟩), .int .u32 (code : Nat)] w (CallN 48 w p (fun w' => RV_ w' G p pd (abortS S)) (abortL S code)) := by
  obtain ⟨R, A, n, c, ha, hB, hb⟩ := id hS
  refine (rsg_abort p pd R code A n c w hB).mono ?_
  rintro e w' ⟨h1, h2⟩
  by_cases h3 : S.st = 0
  · obtain ⟨rfl, rfl⟩ := h1 (ha.1.symm.trans h3)
    exact ⟨none, 0, 0, rfl, .inl ⟨by unfold abortL; rw [if_pos h3], rfl, rfl, rfl⟩, by rw [show abortS S = S by unfold abortS; cases S; simp at h3; simp [h3]]; exact hS, Only.refl _ _⟩
  · have h3' : R.st ≠ 0 := fun h => h3 (ha.1.trans h)
    obtain ⟨g, hg, rfl, hM, hB', ho⟩ := h2 h3'
    exact ⟨_, _, _, rfl, .inr ⟨_, g, by unfold abortL; rw [if_neg h3, (ha.2.1 h3').1, (ha.2.1 h3').2], rfl, rfl, rfl, hg, hM, rfl⟩, rv_idle hB' rfl rfl, ho⟩
/-- the pair at block pp: two dictionaries, two servers, the last write that was told; blocks of Z may be turned by others -/
structure PlayC (Z : Nat → Prop) (N : Nat) (L : List Ent) (pp pd pt ps pr : Nat) (V : List (List UInt8)) (S T : SegS) (lix lsub : Int) (lb : List UInt8) (X Gs Gr : Nat → Prop) (Al : Option Addr) (cl : Nat) (W : World) : Prop where
  two : TwoD N X L V pt W pd
  pb : Blk W pp 43 #[.pointer (some ⟨pd, 0, none⟩), .pointer (some ⟨pt, 0, none⟩), .pointer (some ⟨ps, 0, none⟩), .pointer (some ⟨pr, 0, none⟩), .int .i64 lix, .int .i64 lsub, .slice Al lb.length cl]
  sv : SV_ W Gs ps pd S
  rv : RV_ W Gr pr pt T
  lc : lb.length ≤ cl
  le : lb.length ≤ 200000
  lsl : Sl W Al (lb.map bv)
  lal : ∀ ad, Al = some ad → ad.block < W.heap.size ∧ ad.block ≠ pp ∧ ad.block ≠ ps ∧ ad.block ≠ pr ∧ ¬ Z ad.block ∧ X ad.block
  gs : ∀ q, Gs q → q < W.heap.size → X q ∧ q ≠ pp ∧ q ≠ pr ∧ ¬ Z q
  gr : ∀ q, Gr q → q < W.heap.size → X q ∧ q ≠ pp ∧ q ≠ ps ∧ ¬ Z q
  zx : ∀ q, Z q → X q
  xs : X pp ∧ X ps ∧ X pr
  zs : ¬ Z pp ∧ ¬ Z ps ∧ ¬ Z pr
  nn : N ≤ pp ∧ N ≤ ps ∧ N ≤ pr
  ne : pp ≠ ps ∧ pp ≠ pr ∧ ps ≠ pr
section
variable {Z Z' Zn : Nat → Prop} {N : Nat} {L : List Ent} {pp pd pt ps pr : Nat} {V V' : List (List UInt8)} {S S' T T' : SegS} {lix lsub : Int} {lb : List UInt8} {X Gs Gr G' : Nat → Prop} {Al : Option Addr} {cl : Nat} {W W' : World}
theorem PlayC.mono (h : PlayC Z N L pp pd pt ps pr V S T lix lsub lb X Gs Gr Al cl W) (hz : ∀ q, Z' q → Z q) : PlayC Z' N L pp pd pt ps pr V S T lix lsub lb X Gs Gr Al cl W :=
  { h with
    lal := fun ad e => ⟨(h.lal ad e).1, (h.lal ad e).2.1, (h.lal ad e).2.2.1, (h.lal ad e).2.2.2.1, fun k => (h.lal ad e).2.2.2.2.1 (hz _ k), (h.lal ad e).2.2.2.2.2⟩
    gs := fun q a b => ⟨(h.gs q a b).1, (h.gs q a b).2.1, (h.gs q a b).2.2.1, fun k => (h.gs q a b).2.2.2 (hz _ k)⟩
    gr := fun q a b => ⟨(h.gr q a b).1, (h.gr q a b).2.1, (h.gr q a b).2.2.1, fun k => (h.gr q a b).2.2.2 (hz _ k)⟩
    zx := fun q k => h.zx q (hz q k)
    zs := ⟨fun k => h.zs.1 (hz _ k), fun k => h.zs.2.1 (hz _ k), fun k => h.zs.2.2 (hz _ k)⟩ }
/-- blocks of Z alone have turned -/
theorem PlayC.only (h : PlayC Z N L pp pd pt ps pr V S T lix lsub lb X Gs Gr Al cl W) (ho : Only Z W W') : PlayC Z N L pp pd pt ps pr V S T lix lsub lb X (fun q => Gs q ∧ q < W.heap.size) (fun q => Gr q ∧ q < W.heap.size) Al cl W' :=
  { h with
    two := h.two.far (ho.mono (fun q _ k => h.zx q k))
    pb := (ho.block pp h.pb.lt h.zs.1).trans h.pb
    sv := h.sv.keep (fun q hq hlt => ho.block q hlt (by rcases hq with rfl | hq; exact h.zs.2.1; exact (h.gs q hq hlt).2.2.2)) ho.size (fun q h1 h2 => ⟨h2, h1⟩)
    rv := h.rv.keep (fun q hq hlt => ho.block q hlt (by rcases hq with rfl | hq; exact h.zs.2.2; exact (h.gr q hq hlt).2.2.2)) ho.size (fun q h1 h2 => ⟨h2, h1⟩)
    lsl := sl_blk h.lsl (fun ad e => ho.block _ (h.lal ad e).1 (h.lal ad e).2.2.2.2.1)
    lal := fun ad e => ⟨Nat.lt_of_lt_of_le (h.lal ad e).1 ho.size, (h.lal ad e).2⟩
    gs := fun q a _ => h.gs q a.1 a.2
    gr := fun q a _ => h.gr q a.1 a.2 }
theorem PlayC.below (h : PlayC Z N L pp pd pt ps pr V S T lix lsub lb X Gs Gr Al cl W) (hb : Below W.heap.size W W') : PlayC Z N L pp pd pt ps pr V S T lix lsub lb X (fun q => Gs q ∧ q < W.heap.size) (fun q => Gr q ∧ q < W.heap.size) Al cl W' := h.only (Only.of_below hb)
theorem TwoD.grow (h : TwoD N X L V pt W pd) (hX : ∀ q, q < W.heap.size → G' q → X q) : TwoD N G' L V pt W pd := h.exc (fun q a b => hX q b a)
/-- the program's server made a step -/
theorem PlayC.prog (h : PlayC Z N L pp pd pt ps pr V S T lix lsub lb X Gs Gr Al cl W) (ho : Only (fun q => q = ps) W W') (hS : SV_ W' G' ps pd S') (hG : ∀ q, G' q → (Gs q ∨ W.heap.size ≤ q) ∧ ¬ Zn q) (hZ : ∀ q, Zn q → W.heap.size ≤ q) (hZW : ∀ q, Z q → q < W.heap.size) :
    PlayC (fun q => Z q ∨ Zn q) N L pp pd pt ps pr V S' T lix lsub lb (fun q => X q ∨ W.heap.size ≤ q) (fun q => G' q) (fun q => Gr q ∧ q < W.heap.size) Al cl W' := by
  have z1 := h.pb.lt
  obtain ⟨A0, n0, c0, hsb⟩ := h.sv.blk
  have z2 := hsb.lt
  obtain ⟨R0, A1, n1, c1, _, hrb, _⟩ := h.rv
  have z3 := hrb.lt
  have zs := ho.size
  refine { two := (h.two.grow (G' := fun q => X q ∨ W.heap.size ≤ q) (fun q h1 h2 => h2.elim id (fun h2 => by omega))).far (ho.mono (fun q _ e => by rw [e]; exact .inl h.xs.2.1)), pb := (ho.block pp z1 h.ne.1).trans h.pb, sv := hS, rv := h.rv.keep (fun q hq hlt => ho.block q hlt (by rcases hq with rfl | hq; exact fun e => h.ne.2.2 e.symm; exact (h.gr q hq hlt).2.2.1)) zs (fun q h1 h2 => ⟨h2, h1⟩), lc := h.lc, le := h.le, lsl := sl_blk h.lsl (fun ad e => ho.block _ (h.lal ad e).1 (h.lal ad e).2.2.1), lal := fun ad e => ?_, gs := fun q a b => ?_, gr := fun q a _ => ?_, zx := fun q k => ?_, xs := ⟨.inl h.xs.1, .inl h.xs.2.1, .inl h.xs.2.2⟩, zs := ⟨fun k => ?_, fun k => ?_, fun k => ?_⟩, nn := h.nn, ne := h.ne }
  · obtain ⟨a1, a2, a3, a4, a5, a6⟩ := h.lal ad e
    exact ⟨by omega, a2, a3, a4, fun k => k.elim a5 (fun k => by have := hZ _ k; omega), .inl a6⟩
  · obtain ⟨k1, k2⟩ := hG q a
    rcases k1 with k1 | k1
    · by_cases hlt : q < W.heap.size
      · obtain ⟨a1, a2, a3, a4⟩ := h.gs q k1 hlt
        exact ⟨.inl a1, a2, a3, fun k => k.elim a4 k2⟩
      · exact ⟨.inr (by omega), by omega, by omega, fun k => k.elim (fun k => by have := hZW q k; omega) k2⟩
    · exact ⟨.inr k1, by omega, by omega, fun k => k.elim (fun k => by have := hZW q k; omega) k2⟩
  · obtain ⟨a1, a2, a3, a4⟩ := h.gr q a.1 a.2
    exact ⟨.inl a1, a2, a3, fun k => k.elim a4 (fun k => by have := hZ _ k; have := a.2; omega)⟩
  · exact k.elim (fun k => .inl (h.zx q k)) (fun k => .inr (hZ q k))
  · exact k.elim h.zs.1 (fun k => by have := hZ _ k; omega)
  · exact k.elim h.zs.2.1 (fun k => by have := hZ _ k; omega)
  · exact k.elim h.zs.2.2 (fun k => by have := hZ _ k; omega)
/-- the reference's server made a step -/
theorem PlayC.refc (h : PlayC Z N L pp pd pt ps pr V S T lix lsub lb X Gs Gr Al cl W) (ho : Only (fun q => q = pr) W W') (hS : RV_ W' G' pr pt T') (hG : ∀ q, G' q → Gr q ∨ W.heap.size ≤ q) (hZW : ∀ q, Z q → q < W.heap.size) :
    PlayC Z N L pp pd pt ps pr V S T' lix lsub lb (fun q => X q ∨ W.heap.size ≤ q) (fun q => Gs q ∧ q < W.heap.size) (fun q => G' q) Al cl W' := by
  have z1 := h.pb.lt
  obtain ⟨A0, n0, c0, hsb⟩ := h.sv.blk
  have z2 := hsb.lt
  obtain ⟨R0, A1, n1, c1, _, hrb, _⟩ := h.rv
  have z3 := hrb.lt
  have zs := ho.size
  refine { two := (h.two.grow (G' := fun q => X q ∨ W.heap.size ≤ q) (fun q h1 h2 => h2.elim id (fun h2 => by omega))).far (ho.mono (fun q _ e => by rw [e]; exact .inl h.xs.2.2)), pb := (ho.block pp z1 h.ne.2.1).trans h.pb, sv := h.sv.keep (fun q hq hlt => ho.block q hlt (by rcases hq with rfl | hq; exact h.ne.2.2; exact (h.gs q hq hlt).2.2.1)) zs (fun q h1 h2 => ⟨h2, h1⟩), rv := hS, lc := h.lc, le := h.le, lsl := sl_blk h.lsl (fun ad e => ho.block _ (h.lal ad e).1 (h.lal ad e).2.2.2.1), lal := fun ad e => ?_, gs := fun q a _ => ?_, gr := fun q a b => ?_, zx := fun q k => .inl (h.zx q k), xs := ⟨.inl h.xs.1, .inl h.xs.2.1, .inl h.xs.2.2⟩, zs := h.zs, nn := h.nn, ne := h.ne }
  · obtain ⟨a1, a2, a3, a4, a5, a6⟩ := h.lal ad e
    exact ⟨by omega, a2, a3, a4, a5, .inl a6⟩
  · obtain ⟨a1, a2, a3, a4⟩ := h.gs q a.1 a.2
    exact ⟨.inl a1, a2, a3, a4⟩
  · rcases hG q a with k1 | k1
    · by_cases hlt : q < W.heap.size
      · obtain ⟨a1, a2, a3, a4⟩ := h.gr q k1 hlt
        exact ⟨.inl a1, a2, a3, a4⟩
      · exact ⟨.inr (by omega), by omega, by omega, fun k => by have := hZW q k; omega⟩
    · exact ⟨.inr k1, by omega, by omega, fun k => by have := hZW q k; omega⟩
/-- another write is the last one -/
theorem PlayC.last {b : List UInt8} {Ab : Option Addr} {cb : Nat} {ix sub : Int} (h : PlayC Z N L pp pd pt ps pr V S T lix lsub lb X Gs Gr Al cl W) (ho : Only (fun q => q = pp) W W') (hB : Blk W' pp 43 #[.pointer (some ⟨pd, 0, none⟩), .pointer (some ⟨pt, 0, none⟩), .pointer (some ⟨ps, 0, none⟩), .pointer (some ⟨pr, 0, none⟩), .int .i64 ix, .int .i64 sub, .slice Ab b.length cb])
    (hc : b.length ≤ cb) (hle : b.length ≤ 200000) (hsl : Sl W Ab (b.map bv)) (hal : ∀ ad, Ab = some ad → ad.block < W.heap.size ∧ ad.block ≠ pp ∧ ad.block ≠ ps ∧ ad.block ≠ pr ∧ ¬ Z ad.block ∧ X ad.block) :
    PlayC Z N L pp pd pt ps pr V S T ix sub b X (fun q => Gs q ∧ q < W.heap.size) (fun q => Gr q ∧ q < W.heap.size) Ab cb W' := by
  have zs := ho.size
  exact { two := h.two.far (ho.mono (fun q _ e => by rw [e]; exact h.xs.1)), pb := hB, sv := h.sv.keep (fun q hq hlt => ho.block q hlt (by rcases hq with rfl | hq; exact fun e => h.ne.1 e.symm; exact (h.gs q hq hlt).2.1)) zs (fun q h1 h2 => ⟨h2, h1⟩), rv := h.rv.keep (fun q hq hlt => ho.block q hlt (by rcases hq with rfl | hq; exact fun e => h.ne.2.1 e.symm; exact (h.gr q hq hlt).2.1)) zs (fun q h1 h2 => ⟨h2, h1⟩), lc := hc, le := hle, lsl := sl_blk hsl (fun ad e => ho.block _ (hal ad e).1 (hal ad e).2.1), lal := fun ad e => ⟨Nat.lt_of_lt_of_le (hal ad e).1 zs, (hal ad e).2⟩, gs := fun q a _ => h.gs q a.1 a.2, gr := fun q a _ => h.gr q a.1 a.2, zx := h.zx, xs := h.xs, zs := h.zs, nn := h.nn, ne := h.ne }
/-- both dictionaries have turned -/
theorem PlayC.dicts {Fd Fr : Nat → Prop} {W1 : World} (h : PlayC Z N L pp pd pt ps pr V S T lix lsub lb X Gs Gr Al cl W) (hX : ∀ q, Fd q → ¬ X q) (hXr : ∀ q, Fr q → ¬ X q) (ho : Only Fd W W1) (ho2 : Only Fr W1 W') (h2 : TwoD N (fun q => X q ∧ q < W.heap.size) L V' pt W' pd) (hZW : ∀ q, Z q → q < W.heap.size) :
    PlayC Z N L pp pd pt ps pr V' S T lix lsub lb (fun q => X q ∧ q < W.heap.size) (fun q => Gs q ∧ q < W.heap.size) (fun q => Gr q ∧ q < W.heap.size) Al cl W' := by
  have z1 := h.pb.lt
  obtain ⟨A0, n0, c0, hsb⟩ := h.sv.blk
  have z2 := hsb.lt
  obtain ⟨R0, A1, n1, c1, _, hrb, _⟩ := h.rv
  have z3 := hrb.lt
  have zs := ho.size
  have zs2 := ho2.size
  have hk : ∀ q, X q → q < W.heap.size → W'.heap[q]? = W.heap[q]? := fun q hq hlt => (ho2.block q (by omega) (fun e => hXr q e hq)).trans (ho.block q hlt (fun e => hX q e hq))
  exact { two := h2, pb := (hk pp h.xs.1 z1).trans h.pb, sv := h.sv.keep (fun q hq hlt => hk q (by rcases hq with rfl | hq; exact h.xs.2.1; exact (h.gs q hq hlt).1) hlt) (by omega) (fun q h1 h2 => ⟨h2, h1⟩), rv := h.rv.keep (fun q hq hlt => hk q (by rcases hq with rfl | hq; exact h.xs.2.2; exact (h.gr q hq hlt).1) hlt) (by omega) (fun q h1 h2 => ⟨h2, h1⟩), lc := h.lc, le := h.le, lsl := sl_blk h.lsl (fun ad e => hk _ (h.lal ad e).2.2.2.2.2 (h.lal ad e).1), lal := fun ad e => ⟨by have := (h.lal ad e).1; omega, (h.lal ad e).2.1, (h.lal ad e).2.2.1, (h.lal ad e).2.2.2.1, (h.lal ad e).2.2.2.2.1, (h.lal ad e).2.2.2.2.2, (h.lal ad e).1⟩, gs := fun q a _ => ⟨⟨(h.gs q a.1 a.2).1, a.2⟩, (h.gs q a.1 a.2).2⟩, gr := fun q a _ => ⟨⟨(h.gr q a.1 a.2).1, a.2⟩, (h.gr q a.1 a.2).2⟩, zx := fun q k => ⟨h.zx q k, hZW q k⟩, xs := ⟨⟨h.xs.1, z1⟩, ⟨h.xs.2.1, z2⟩, ⟨h.xs.2.2, z3⟩⟩, zs := h.zs, nn := h.nn, ne := h.ne }
end
end
end Go.Proofs.YtimdmhhgomfijaaGreat
