/- Package journal: Last. -/
import Derived.Test.YtehabbnohoomjaaGreatDoorNv24
namespace Go.Proofs.YtehabbnohoomjaaGreatDoor
section
set_option linter.unusedVariables false
set_option linter.unusedSimpArgs false
set_option linter.unnecessarySimpa false
open Go.RowKit
set_option maxRecDepth 20000
set_option maxHeartbeats 4000000

theorem rec_size : (Tryz.prog.info? 92).map (·.size) = some 3 := by kernel_rfl
def rcV (k : Int) (m : Nat) (A : Option Addr) (n c : Nat) : Array Value := #[.int .i64 k, .int .u32 (m : Nat), .slice A n c]
theorem ret_rec_tmp {fn : Func} {p u : Tmp} (h : fn.results = #[.cell p 92, .tmp u]) {a : Act} {w : World} {g : Nat} {k : Int} {m : Nat} {A : Option Addr} {n c : Nat} {R : Ending → World → Prop} (hd : a.defers = []) (hp : a.tmps.getD p undef = .pointer (some ⟨g, 0, none⟩))
    (hB : Blk w g 92 (rcV k m A n c)) (hR : R (.returned (.tuple #[.agg (rcV k m A n c), a.tmps.getD u undef])) w) : bodyPost Tryz.prog fn R .ret a w := by
  refine bodyPost_ret ?_ hd hR
  rw [results_cell_tmp h, hp]
  simp only [asAddr, Sem.run_pure, Result.andThen_ok]
  rw [run_loadVar_row w g _ _ _ _ _ hB Tryz.underlying92 rfl (show _ = some (rcV k m A n c).size from rec_size)]
  rfl
theorem put3_blk {w : World} {g : Nat} {t : TypeId} {l : List Value} (hB : Blk w g t l.toArray) (hl : l.length = 3) (k : Int) (m : Nat) (A : Option Addr) (n c : Nat) :
    Blk (((w.setCell ⟨g, 0, none⟩ (.int .i64 k)).setCell ⟨g, 1, none⟩ (.int .u32 (m : Nat))).setCell ⟨g, 2, none⟩ (.slice A n c)) g t (rcV k m A n c) := by
  have h := blk_setL (blk_setL (blk_setL hB 0 (.int .i64 k)) 1 (.int .u32 (m : Nat))) 2 (.slice A n c)
  have e : ((l.set 0 (.int .i64 k)).set 1 (.int .u32 (m : Nat))).set 2 (.slice A n c) = [.int .i64 k, .int .u32 (m : Nat), .slice A n c] := by
    match l, hl with
    | [_, _, _], _ => rfl
  rw [e] at h
  exact h
theorem put3_only (w : World) (g : Nat) (a b c : Value) : Only (fun k => k = g) w (((w.setCell ⟨g, 0, none⟩ a).setCell ⟨g, 1, none⟩ b).setCell ⟨g, 2, none⟩ c) :=
  Only.set (fun k => k = g) (Only.set (fun k => k = g) (Only.set (fun k => k = g) (Only.refl _ _) rfl _) rfl _) rfl _
/-- the last record -/
def recJ (J : JS) : Int × Nat × List UInt8 := if J.has = true then ((lastJ J).k, (lastJ J).m, (lastJ J).d) else (0, 0, [])
def LastR (r : Int × Nat × List UInt8) (has : Bool) (w : World) (e : Ending) (w' : World) : Prop :=
  ∃ A c, e = .returned (.tuple #[.agg (rcV r.1 r.2.1 A r.2.2.length c), .bool has]) ∧ OwnB w' w.heap.size A r.2.2.length c r.2.2 ∧ Below w.heap.size w w'
theorem jo_Last_no (p : Nat) (w : World) (hc : w.cell? ⟨p, 2, none⟩ = some (.bool false)) : Calls Tryz.prog 42 #[.pointer (some ⟨p, 0, none⟩)] w (LastR (0, 0, []) false w) := by
  have q0 := blk_one w 92 #[.int .i64 0, .int .u32 0, .slice none 0 0]
  have hb0 := below_alloc (Below.refl w.heap.size w) (.cells #[.int .i64 0, .int .u32 0, .slice none 0 0] 92)
  have c2 := (hb0.cell (p := ⟨p, 2, none⟩) (lt_of_cell hc)).trans hc
  have HQ := hide q0
  have HB0 := hide hb0
  obtain ⟨q0_c0, q0_c1, q0_c2⟩ := cel3 q0
  have q0_f := q0.frozen
  clear q0 hb0 hc
  go_enter Tryz.func42, Tryz.ntmps42
  go_wp2_with fail
  refine ret_rec_tmp (k := 0) (m := 0) (A := none) (n := 0) (c := 0) rfl rfl (by rfl) ?_ ?_
  · exact HQ.out
  · exact ⟨none, 0, rfl, OwnB.nil _ _, HB0.out⟩
section
variable {F : Nat → Prop} {p pf n c : Nat} {A : Option Addr} {J : JS} {ds : List (Option Addr × Nat)}
theorem jo_Last (w : World) (hD : JD w F p pf A n c J ds) : Calls Tryz.prog 42 #[.pointer (some ⟨p, 0, none⟩)] w (LastR (recJ J) J.has w) := by
  cases hh : J.has
  · have hr : recJ J = (0, 0, []) := by unfold recJ; rw [hh]; rfl
    rw [hr]
    exact jo_Last_no p w (by have := hD.blk.cell 2 (u := .bool J.has) rfl; rw [hh] at this; exact this)
  · have hr : recJ J = ((lastJ J).k, (lastJ J).m, (lastJ J).d) := by unfold recJ; rw [hh]; rfl
    rw [hr]
    have q0 := blk_one w 92 #[.int .i64 0, .int .u32 0, .slice none 0 0]
    have hb0 := below_alloc (Below.refl w.heap.size w) (.cells #[.int .i64 0, .int .u32 0, .slice none 0 0] 92)
    have HQ := hide q0
    have HB0 := hide hb0
    have hD1 := hD.below hb0
    have p1 := hD1.blk
    unfold joC at p1
    rw [hh] at p1
    obtain ⟨g, dd, hA, hg, hdd, hO, hfx, hlt, ⟨c0, c1, c2, c3, c4, c5⟩, hF, hFd⟩ := hD1.look (lastJ_at hD1 hh)
    obtain ⟨x, hx⟩ : ∃ x, x = lastJ J := ⟨_, rfl⟩
    rw [← hx] at c0 c1 c2 c3 c4 c5 hO hfx ⊢
    obtain ⟨now, hnow⟩ : ∃ x, x = J.now := ⟨_, rfl⟩
    rw [← hnow] at c0 c1 c2 c3 c4 c5 hlt p1
    obtain ⟨i1, i2, i3⟩ := idx_at hlt
    subst hA
    have HO := hide hO
    have hdl := hfx.d
    have zp := p1.lt
    obtain ⟨xk, xm, xd, xcnt, xen, xcl⟩ := x
    dsimp only at c0 c1 c2 c3 c4 c5 HO hdl ⊢
    obtain ⟨p1_c0, p1_c1, p1_c2, p1_c3, p1_c4⟩ := cel5 p1
    have p1_f := p1.frozen
    obtain ⟨q0_c0, q0_c1, q0_c2⟩ := cel3 q0
    have q0_f := q0.frozen
    clear q0 hb0 hD hD1 hO hfx p1 hx hnow hh hr hdd
    simp only [World.size_alloc] at zp hg
    go_enter Tryz.func42, Tryz.ntmps42
    go_wp2_with fail
    refine wp_region_held_drew (S := (fun w' => (∀ qA : Addr, qA.block < (w.alloc (.cells #[.int .i64 0, .int .u32 0, .slice none 0 0] 92)).heap.size → w'.cell? qA = (w.alloc (.cells #[.int .i64 0, .int .u32 0, .slice none 0 0] 92)).cell? qA) ∧ Below (w.alloc (.cells #[.int .i64 0, .int .u32 0, .slice none 0 0] 92)).heap.size (w.alloc (.cells #[.int .i64 0, .int .u32 0, .slice none 0 0] 92)) w')) (by kernel_rfl) ?hS1 (fun hHeld => ?rest1)
    case hS1 => ((try dsimp only); (((try go_split_ands); refine sn_of ?_; repeat' (first | with_reducible assumption | with_reducible exact Below.refl _ _ | with_reducible apply below_alloc | with_reducible apply below_drew1 | with_reducible apply below_drewN | (with_reducible apply below_step; with_reducible assumption) | (with_reducible apply below_sg2; (first | exact Nat.le_refl _ | (simp; done) | omega))))))
    case' rest1 => skip
    refine wpAnyH_take (i := 0) (oi := _) (v := ?v2) rfl (by kernel_rfl) (by kernel_rfl) (by kernel_rfl) (fun _ _ _ h => h) (Or.inl ⟨by rfl, ?hy2⟩) (by assumption) ?rest2
    case hy2 => ((intro w hSw; (try dsimp only at hSw); go_simp) <;> with_reducible rfl)
    case' rest2 => try simp only [List.getElem_toArray, List.getElem_cons_zero, List.getElem_cons_succ, Act.put, List.setIfInBounds_toArray, List.set_cons_zero, List.set_cons_succ]
    refine wpAnyH_take (i := 1) (oi := _) (v := ?v3) rfl (by kernel_rfl) (by kernel_rfl) (by kernel_rfl) (fun _ _ _ h => h) (Or.inl ⟨by rfl, ?hy3⟩) (by assumption) ?rest3
    case hy3 => ((intro w hSw; (try dsimp only at hSw); go_simp) <;> with_reducible rfl)
    case' rest3 => try simp only [List.getElem_toArray, List.getElem_cons_zero, List.getElem_cons_succ, Act.put, List.setIfInBounds_toArray, List.set_cons_zero, List.set_cons_succ]
    refine wpAnyH_take (i := 2) (oi := _) (v := ?v4) rfl (by kernel_rfl) (by kernel_rfl) (by kernel_rfl) (fun _ _ _ h => h) (Or.inl ⟨by rfl, ?hy4⟩) (by assumption) ?rest4
    case hy4 => ((intro w hSw; (try dsimp only at hSw); go_simp) <;> with_reducible rfl)
    case' rest4 => try simp only [List.getElem_toArray, List.getElem_cons_zero, List.getElem_cons_succ, Act.put, List.setIfInBounds_toArray, List.set_cons_zero, List.set_cons_succ]
    refine wpAnyH_take (i := 3) (oi := _) (v := ?v5) rfl (by kernel_rfl) (by kernel_rfl) (by kernel_rfl) (fun _ _ _ h => h) (Or.inl ⟨by rfl, ?hy5⟩) (by assumption) ?rest5
    case hy5 => ((intro w hSw; (try dsimp only at hSw); go_simp) <;> with_reducible rfl)
    case' rest5 => try simp only [List.getElem_toArray, List.getElem_cons_zero, List.getElem_cons_succ, Act.put, List.setIfInBounds_toArray, List.set_cons_zero, List.set_cons_succ]
    refine wpAnyH_take (i := 4) (oi := _) (v := ?v6) rfl (by kernel_rfl) (by kernel_rfl) (by kernel_rfl) (fun _ _ _ h => h) (Or.inl ⟨by rfl, ?hy6⟩) (by assumption) ?rest6
    case hy6 => ((intro w hSw; (try dsimp only at hSw); go_simp) <;> with_reducible rfl)
    case' rest6 => try simp only [List.getElem_toArray, List.getElem_cons_zero, List.getElem_cons_succ, Act.put, List.setIfInBounds_toArray, List.set_cons_zero, List.set_cons_succ]
    refine wpAnyH_take (i := 5) (oi := _) (v := ?v7) rfl (by kernel_rfl) (by kernel_rfl) (by kernel_rfl) (fun _ _ _ h => h) (Or.inl ⟨by rfl, ?hy7⟩) (by assumption) ?rest7
    case hy7 => ((intro w hSw; (try dsimp only at hSw); go_simp) <;> with_reducible rfl)
    case' rest7 => try simp only [List.getElem_toArray, List.getElem_cons_zero, List.getElem_cons_succ, Act.put, List.setIfInBounds_toArray, List.set_cons_zero, List.set_cons_succ]
    refine wpAnyH_take (i := 6) (oi := _) (v := ?v8) rfl (by kernel_rfl) (by kernel_rfl) (by kernel_rfl) (fun _ _ _ h => h) (Or.inl ⟨by rfl, ?hy8⟩) (by assumption) ?rest8
    case hy8 => ((intro w hSw; (try dsimp only at hSw); go_simp) <;> with_reducible rfl)
    case' rest8 => try simp only [List.getElem_toArray, List.getElem_cons_zero, List.getElem_cons_succ, Act.put, List.setIfInBounds_toArray, List.set_cons_zero, List.set_cons_succ]
    refine wpAnyH_take (i := 7) (oi := _) (v := ?v9) rfl (by kernel_rfl) (by kernel_rfl) (by kernel_rfl) (fun _ _ _ h => h) (Or.inl ⟨by rfl, ?hy9⟩) (by assumption) ?rest9
    case hy9 => ((intro w hSw; (try dsimp only at hSw); go_simp) <;> with_reducible rfl)
    case' rest9 => try simp only [List.getElem_toArray, List.getElem_cons_zero, List.getElem_cons_succ, Act.put, List.setIfInBounds_toArray, List.set_cons_zero, List.set_cons_succ]
    refine wpAnyH_take (i := 8) (oi := _) (v := ?v10) rfl (by kernel_rfl) (by kernel_rfl) (by kernel_rfl) (fun _ _ _ h => h) (Or.inl ⟨by rfl, ?hy10⟩) (by assumption) ?rest10
    case hy10 => ((intro w hSw; (try dsimp only at hSw); go_simp) <;> with_reducible rfl)
    case' rest10 => try simp only [List.getElem_toArray, List.getElem_cons_zero, List.getElem_cons_succ, Act.put, List.setIfInBounds_toArray, List.set_cons_zero, List.set_cons_succ]
    refine wpAnyH_take (i := 9) (oi := _) (v := ?v11) rfl (by kernel_rfl) (by kernel_rfl) (by kernel_rfl) (fun _ _ _ h => h) (Or.inl ⟨by rfl, ?hy11⟩) (by assumption) ?rest11
    case hy11 => ((intro w hSw; (try dsimp only at hSw); go_simp) <;> with_reducible rfl)
    case' rest11 => try simp only [List.getElem_toArray, List.getElem_cons_zero, List.getElem_cons_succ, Act.put, List.setIfInBounds_toArray, List.set_cons_zero, List.set_cons_succ]
    refine wpAnyH_take (i := 10) (oi := _) (v := ?v12) rfl (by kernel_rfl) (by kernel_rfl) (by kernel_rfl) (fun _ _ _ h => h) (Or.inl ⟨by rfl, ?hy12⟩) (by assumption) ?rest12
    case hy12 => ((intro w hSw; (try dsimp only at hSw); go_simp) <;> with_reducible rfl)
    case' rest12 => try simp only [List.getElem_toArray, List.getElem_cons_zero, List.getElem_cons_succ, Act.put, List.setIfInBounds_toArray, List.set_cons_zero, List.set_cons_succ]
    refine wpAnyH_take (i := 11) (oi := _) (v := ?v13) rfl (by kernel_rfl) (by kernel_rfl) (by kernel_rfl) (fun _ _ _ h => h) (Or.inl ⟨by rfl, ?hy13⟩) (by assumption) ?rest13
    case hy13 => ((intro w hSw; (try dsimp only at hSw); go_simp) <;> with_reducible rfl)
    case' rest13 => try simp only [List.getElem_toArray, List.getElem_cons_zero, List.getElem_cons_succ, Act.put, List.setIfInBounds_toArray, List.set_cons_zero, List.set_cons_succ]
    refine wpAnyH_take (i := 12) (oi := _) (v := ?v14) rfl (by kernel_rfl) (by kernel_rfl) (by kernel_rfl) (fun _ _ _ h => h) (Or.inl ⟨by rfl, ?hy14⟩) (by assumption) ?rest14
    case hy14 => ((intro w hSw; (try dsimp only at hSw); go_simp) <;> with_reducible rfl)
    case' rest14 => try simp only [List.getElem_toArray, List.getElem_cons_zero, List.getElem_cons_succ, Act.put, List.setIfInBounds_toArray, List.set_cons_zero, List.set_cons_succ]
    refine wpAnyH_ready (rs := [13]) (by kernel_rfl) (by simp) ?_
    refine AllReadyH.cons (o := _) rfl (fun K hK => ?_) AllReadyH.nil
    go_simp
    refine hK.out _ _ ?hS17 (fun hHeld => ?rest17)
    case hS17 => ((try dsimp only); (((try go_split_ands); refine sn_of ?_; repeat' (first | with_reducible assumption | with_reducible exact Below.refl _ _ | with_reducible apply below_alloc | with_reducible apply below_drew1 | with_reducible apply below_drewN | (with_reducible apply below_step; with_reducible assumption) | (with_reducible apply below_sg2; (first | exact Nat.le_refl _ | (simp; done) | omega))))))
    case' rest17 => (clear hK K; try simp only [List.getElem_toArray, List.getElem_cons_zero, List.getElem_cons_succ, Act.put, List.setIfInBounds_toArray, List.set_cons_zero, List.set_cons_succ])
    refine wpAnyH_ready (rs := [14]) (by kernel_rfl) (by simp) ?_
    refine AllReadyH.cons (o := _) rfl (fun K hK => ?_) AllReadyH.nil
    go_simp
    refine hK.out _ _ ?hS20 (fun hHeld => ?rest20)
    case hS20 => ((try dsimp only); (((try go_split_ands); refine sn_of ?_; repeat' (first | with_reducible assumption | with_reducible exact Below.refl _ _ | with_reducible apply below_alloc | with_reducible apply below_drew1 | with_reducible apply below_drewN | (with_reducible apply below_step; with_reducible assumption) | (with_reducible apply below_sg2; (first | exact Nat.le_refl _ | (simp; done) | omega))))))
    case' rest20 => (clear hK K; try simp only [List.getElem_toArray, List.getElem_cons_zero, List.getElem_cons_succ, Act.put, List.setIfInBounds_toArray, List.set_cons_zero, List.set_cons_succ])
    refine wpAnyH_done (by kernel_rfl) ?_ _
    have hEnd := hHeld.2
    repeat (clear hHeld)
    have hk := blk_two w 92 92 #[.int .i64 0, .int .u32 0, .slice none 0 0] #[.int .i64 xk, .int .u32 (xm : Nat), .slice dd.1 xd.length dd.2]
    have HR1 := hide hk.1.drew
    have HR2 := hide hk.2.drew
    have r2 := hk.2.drew
    obtain ⟨r2_c0, r2_c1, r2_c2⟩ := cel3 r2
    have r2_f := r2.frozen
    have hs2 := HO.out.sl.below hEnd
    have HE2 := hide (below_step hEnd HB0.out)
    have hz2 : w.heap.size + 1 + 1 ≤ (((w.alloc (.cells #[.int .i64 0, .int .u32 0, .slice none 0 0] 92)).alloc (.cells #[.int .i64 xk, .int .u32 (xm : Nat), .slice dd.1 xd.length dd.2] 92)).drew).heap.size := by simp
    clear hk r2 hEnd c0 c1 c2 c3 c4 c5 p1_c0 p1_c1 p1_c2 p1_c3 p1_c4 p1_f q0_c0 q0_c1 q0_c2 q0_f
    go_wp2_with (at_builtin; refine app_b _ rfl _ _ rfl (w.heap.size + 1 + 1) none 0 0 [] rfl (OwnB.nil _ _) dd.1 xd.length dd.2 xd rfl rfl hs2 (by omega) hz2 xd.length (by omega) ?_; intro A4 c4 w4 hO4 _ _ hb4; have k2 := HR2.out.below hb4 (by omega); have k1 := HR1.out.below hb4 (by omega); have HK2 := hide k2; have HK1 := hide k1; have HO4 := hide hO4; have HB4 := hide hb4; obtain ⟨k2_c0, k2_c1, k2_c2⟩ := cel3 k2; have k2_f := k2.frozen; obtain ⟨k1_c0, k1_c1, k1_c2⟩ := cel3 k1; have k1_f := k1.frozen; clear k1 k2 hO4 hb4)
    refine ret_rec_tmp (k := xk) (m := xm) (A := A4) (n := xd.length) (c := c4) rfl rfl (by rfl) (put3_blk (HK1.out.far (p := ⟨w.heap.size + 1, 2, none⟩) (by simp) _) rfl xk xm A4 xd.length c4) ?_
    have ho : Only (fun g => g = w.heap.size ∨ g = w.heap.size + 1) w4 ((((w4.setCell ⟨w.heap.size + 1, 2, none⟩ (.slice A4 xd.length c4)).setCell ⟨w.heap.size, 0, none⟩ (.int .i64 xk)).setCell ⟨w.heap.size, 1, none⟩ (.int .u32 (xm : Nat))).setCell ⟨w.heap.size, 2, none⟩ (.slice A4 xd.length c4)) :=
      (Only.set _ (Only.refl _ _) (.inr rfl) _).trans (put3_only _ _ _ _ _) (fun i _ h => .inl h)
    have hbw : Below w.heap.size w w4 := HE2.out.trans (HB4.out.mono (by omega))
    refine ⟨A4, c4, rfl, ⟨rfl, ?_⟩, below_only ho hbw (fun i hi => by omega)⟩
    exact (HO4.out.own.keep (fun g hg hlt _ => ho.block g hlt (by omega))).mono (by omega)
end
end
end Go.Proofs.YtehabbnohoomjaaGreatDoor
namespace Go.Proofs.YtehabbnohoomjaaGreatDoor
section
set_option linter.unusedVariables false
set_option linter.unusedSimpArgs false
set_option linter.unnecessarySimpa false
open Go.RowKit
set_option maxRecDepth 20000
set_option maxHeartbeats 2000000

theorem set_app6 {α : Type} (s t : List α) (hs : s.length = 6) (i j : Nat) (h : i = 6 + j) (v : α) : (s ++ t).set i v = s ++ t.set j v := by
  subst h
  rw [List.set_append_right _ _ (by omega), hs, Nat.add_sub_cancel_left]
theorem cells_set6 (x : LK) (d : Option Addr × Nat) : ∀ (L : List LK) (ds : List (Option Addr × Nat)) (k : Nat), ds.length = L.length → k < L.length →
    ((((((cellsG lkF L ds).set (k * 6) (.int .i64 x.k)).set (k * 6 + 1) (.int .u32 (x.m : Nat))).set (k * 6 + 2) (.slice d.1 x.d.length d.2)).set (k * 6 + 3) (.int .i64 (x.cnt : Nat))).set (k * 6 + 4) (.int .i64 (x.en : Nat))).set (k * 6 + 5) (.bool x.cl) = cellsG lkF (L.set k x) (ds.set k d) := by
  intro L
  induction L with
  | nil => intro ds k _ h; simp at h
  | cons y L ih =>
    intro ds k hl hk
    cases ds with
    | nil => simp at hl
    | cons e ds =>
      cases k with
      | zero => rfl
      | succ k =>
        have hs : (lkF y e).length = 6 := rfl
        rw [List.set_cons_succ, List.set_cons_succ, cellsG, cellsG, ← ih ds k (by simpa using hl) (by simpa using hk)]
        rw [set_app6 _ _ hs _ (k * 6) (by omega), set_app6 _ _ hs _ (k * 6 + 1) (by omega), set_app6 _ _ hs _ (k * 6 + 2) (by omega), set_app6 _ _ hs _ (k * 6 + 3) (by omega), set_app6 _ _ hs _ (k * 6 + 4) (by omega), set_app6 _ _ hs _ (k * 6 + 5) (by omega)]
def putLk (w : World) (g k : Nat) (x : LK) (A : Option Addr) (c : Nat) : World :=
  (((((w.setCell ⟨g, k * 6, none⟩ (.int .i64 x.k)).setCell ⟨g, k * 6 + 1, none⟩ (.int .u32 (x.m : Nat))).setCell ⟨g, k * 6 + 2, none⟩ (.slice A x.d.length c)).setCell ⟨g, k * 6 + 3, none⟩ (.int .i64 (x.cnt : Nat))).setCell ⟨g, k * 6 + 4, none⟩ (.int .i64 (x.en : Nat))).setCell ⟨g, k * 6 + 5, none⟩ (.bool x.cl)
theorem putLk_only (w : World) (g k : Nat) (x : LK) (A : Option Addr) (c : Nat) : Only (fun i => i = g) w (putLk w g k x A c) :=
  Only.set (fun i => i = g) (Only.set (fun i => i = g) (Only.set (fun i => i = g) (Only.set (fun i => i = g) (Only.set (fun i => i = g) (Only.set (fun i => i = g) (Only.refl _ _) rfl _) rfl _) rfl _) rfl _) rfl _) rfl _
theorem lk_store {w : World} {F : Nat → Prop} {g n c k : Nat} {L : List LK} {ds : List (Option Addr × Nat)} {x : LK} {A : Option Addr} {c' : Nat} (h : OwnLk w F (some ⟨g, 0, none⟩) n c L ds) (hk : k < n) (hx : OwnB w 0 A x.d.length c' x.d) (hF : FIn F A) :
    OwnLk (putLk w g k x A c') F (some ⟨g, 0, none⟩) n c (L.set k x) (ds.set k (A, c')) := by
  have ho := putLk_only w g k x A c'
  have hkL : k < L.length := by rw [← h.hn]; exact hk
  have hd : ∀ {m c2 : Nat} {A' : Option Addr} {l : List UInt8}, OwnB w 0 A' m c2 l → OwnB (putLk w g k x A c') 0 A' m c2 l := fun hO => ⟨hO.hn, hO.own.keep (fun i _ hlt hA' => ho.block i hlt (fun e => by
    have := own_ne' hO.own h.own (by decide) i hA'
    rw [e] at this
    exact this rfl))⟩
  refine ⟨by rw [List.length_set]; exact h.hn, by simp [h.hd], ?_, h.inF, ?_⟩
  · have h1 := (World.ownsRow.stored (World.ownsRow.stored (World.ownsRow.stored (World.ownsRow.stored (World.ownsRow.stored (World.ownsRow.stored h.own (k * 6) (.int .i64 x.k)).1 (k * 6 + 1) (.int .u32 (x.m : Nat))).1 (k * 6 + 2) (.slice A x.d.length c')).1 (k * 6 + 3) (.int .i64 (x.cnt : Nat))).1 (k * 6 + 4) (.int .i64 (x.en : Nat))).1 (k * 6 + 5) (.bool x.cl)).1
    rw [cells_set6 x (A, c') L ds k h.hd hkL] at h1
    exact h1
  · intro j v d' hv hd'
    rcases Nat.decEq j k with hjk | hjk
    · rw [List.getElem?_set_ne (fun e => hjk e.symm)] at hv hd'
      exact ⟨hd (h.data j v d' hv hd').1, (h.data j v d' hv hd').2⟩
    · subst hjk
      rw [List.getElem?_set_self hkL] at hv
      rw [List.getElem?_set_self (by rw [h.hd]; exact hkL)] at hd'
      injection hv with hv
      injection hd' with hd'
      subst hv
      subst hd'
      exact ⟨hd hx, hF⟩
theorem any_gen {R : World → Prop} {P : Program} {md : Region.Mode} {ops : Array Oper} {Q : Exit → Act → World → Prop} {S : World → Prop} {f : Nat} {listed : Array Bool} {a : Act} {w : World} (h : R w) (k : ∀ W, R W → wpAnyH P md ops Q S f listed a W) : wpAnyH P md ops Q S f listed a w := k w h
theorem six_only (w : World) (g o0 o1 o2 o3 o4 o5 : Nat) (v0 v1 v2 v3 v4 v5 : Value) :
    Only (fun i => i = g) w ((((((w.setCell ⟨g, o0, none⟩ v0).setCell ⟨g, o1, none⟩ v1).setCell ⟨g, o2, none⟩ v2).setCell ⟨g, o3, none⟩ v3).setCell ⟨g, o4, none⟩ v4).setCell ⟨g, o5, none⟩ v5) :=
  Only.set (fun i => i = g) (Only.set (fun i => i = g) (Only.set (fun i => i = g) (Only.set (fun i => i = g) (Only.set (fun i => i = g) (Only.set (fun i => i = g) (Only.refl _ _) rfl _) rfl _) rfl _) rfl _) rfl _) rfl _
theorem blk_six {w : World} {p : Nat} {t : TypeId} {cs : Array Value} (h : Blk w p t cs) {g : Nat} (hne : p ≠ g) (o0 o1 o2 o3 o4 o5 : Nat) (v0 v1 v2 v3 v4 v5 : Value) :
    Blk ((((((w.setCell ⟨g, o0, none⟩ v0).setCell ⟨g, o1, none⟩ v1).setCell ⟨g, o2, none⟩ v2).setCell ⟨g, o3, none⟩ v3).setCell ⟨g, o4, none⟩ v4).setCell ⟨g, o5, none⟩ v5) p t cs := ((six_only w g o0 o1 o2 o3 o4 o5 v0 v1 v2 v3 v4 v5).block p h.lt hne).trans h
/-- the journal, where another block of a look is stored into -/
theorem JD.apart {w w' : World} {F : Nat → Prop} {p pf g0 n c gx : Nat} {J : JS} {ds : List (Option Addr × Nat)} {cs : Array Value} (h : JD w F p pf (some ⟨g0, 0, none⟩) n c J ds) (hB : Blk w gx 131 cs) (hg : gx ≠ g0) (ho : Only (fun g => g = gx) w w') : JD w' F p pf (some ⟨g0, 0, none⟩) n c J ds := by
  have hp : p ≠ gx := by
    intro e
    have h1 := h.blk
    unfold Blk at h1 hB
    rw [e, hB] at h1
    injection h1 with h1
    injection h1 with _ h1
    exact absurd h1 (by decide)
  have hd : ∀ {m c' : Nat} {A' : Option Addr} {l : List UInt8}, OwnB w 0 A' m c' l → OwnB w' 0 A' m c' l := fun hO => ⟨hO.hn, hO.own.keep (fun g _ hlt hA' => ho.block g hlt (fun e => blk_own_ne hB hO.own (by decide) (by rw [hA', e]; rfl)))⟩
  refine ⟨(ho.block p h.blk.lt hp).trans h.blk, h.inF, ⟨h.lks.hn, h.lks.hd, h.lks.own.keep (fun g _ hlt hA' => ho.block g hlt (fun e => hg (by injection hA' with hA'; injection hA' with hA'; rw [← e, ← hA']))), h.lks.inF, fun j v d e1 e2 => ⟨hd (h.lks.data j v d e1 e2).1, (h.lks.data j v d e1 e2).2⟩⟩, h.fit, h.n8, h.now, h.at_⟩
/-- the journal behind the store of a look -/
theorem JD.storeLk {w : World} {F : Nat → Prop} {p pf g n c k : Nat} {J : JS} {ds : List (Option Addr × Nat)} {x : LK} {A : Option Addr} {c' : Nat} (h : JD w F p pf (some ⟨g, 0, none⟩) n c J ds) (hk : k < n) (hx : OwnB w 0 A x.d.length c' x.d) (hF : FIn F A) (hf : FitK x) :
    JD (putLk w g k x A c') F p pf (some ⟨g, 0, none⟩) n c ⟨J.looks.set k x, J.now, J.has, J.dead⟩ (ds.set k (A, c')) := by
  refine ⟨?_, h.inF, lk_store h.lks hk hx hF, ?_, h.n8, h.now, h.at_⟩
  · have hne : p ≠ g := fun e => blk_own_ne h.blk h.lks.own (by decide) (by rw [← e]; rfl)
    exact ((putLk_only w g k x A c').block p h.blk.lt hne).trans h.blk
  · intro y hy
    rcases List.mem_or_eq_of_mem_set hy with hy | rfl
    · exact h.fit y hy
    · exact hf
end
end Go.Proofs.YtehabbnohoomjaaGreatDoor
