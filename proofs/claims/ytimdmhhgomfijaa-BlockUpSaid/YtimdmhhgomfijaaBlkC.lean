/- Package block: a server in memory; New, Busy, Rows, Drop, send, refuse, Abort, Answer, begins. -/
import Derived.Test.YtimdmhhgomfijaaSegC
import Derived.Test.YtimdmhhgomfijaaSegE
import Derived.Test.YtimdmhhgomfijaaBlkL
namespace Go.Proofs.Ytimdmhhgomfijaa
set_option linter.unusedVariables false
set_option linter.unusedSimpArgs false
set_option linter.unnecessarySimpa false
open Go.RowKit
set_option maxRecDepth 100000
set_option maxHeartbeats 4000000
def bsrV (S : BlkS) (pd : Nat) (A : Option Addr) (n c : Nat) : Array Value := #[.int .i64 S.mo, .int .i64 S.sz, .int .i64 S.nx, .int .i64 S.ha, .int .i64 S.ta, .int .i64 S.ro, .pointer (some ⟨pd, 0, none⟩), .int .i64 S.st, .int .i64 S.ix, .int .i64 S.sub, .slice A n c, .bool S.sm]
theorem msg_size : (Try.prog.info? 39).map (·.size) = some 14 := by kernel_rfl
/-- a result of type Msg, whole -/
theorem ret_msg {fn : Func} {p : Tmp} (h : fn.results = #[.cell p 39]) {a : Act} {w : World} {g : Nat} {M : Ms} {A : Option Addr} {n c : Nat} {R : Ending → World → Prop} (hd : a.defers = []) (hp : a.tmps.getD p undef = .pointer (some ⟨g, 0, none⟩))
    (hB : Blk w g 39 (msV M A n c)) (hR : R (.returned (.agg (msV M A n c))) w) : bodyPost Try.prog fn R .ret a w :=
  bodyPost_ret (results_cell_row h _ _ _ _ _ _ _ hp hB Try.underlying39 rfl msg_size) hd hR
theorem blk_new (pd : Nat) (w : World) : Calls Try.prog 21 #[.pointer (some ⟨pd, 0, none⟩)] w fun e w' => e = .returned (.pointer (some ⟨w.heap.size, 0, none⟩)) ∧ Blk w' w.heap.size 73 (bsrV blkZ pd none 0 0) ∧ Below w.heap.size w w' ∧ w'.heap.size = w.heap.size + 1 := by
  have q := blk_one w 73 (bsrV blkZ pd none 0 0)
  have hbw := below_alloc (Below.refl w.heap.size w) (.cells (bsrV blkZ pd none 0 0) 73)
  have HQ := hide q
  have HB := hide hbw
  clear q hbw
  unfold bsrV blkZ at *
  go_enter Try.func21, Try.ntmps21
  go_wp2_with fail
  go_ret
  exact ⟨rfl, HQ.out, HB.out, by simp⟩
theorem blk_new0 (w : World) : Calls Try.prog 21 #[.pointer none] w fun e w' => e = .returned (.pointer none) ∧ w = w' := by
  go_enter Try.func21, Try.ntmps21
  go_wp2_with fail
  go_ret
  exact ⟨rfl, rfl⟩
theorem blk_busy (p pd : Nat) (S : BlkS) (A : Option Addr) (n c : Nat) (w : World) (hB : Blk w p 73 (bsrV S pd A n c)) : Calls Try.prog 28 #[.pointer (some ⟨p, 0, none⟩)] w fun e w' => e = .returned (.bool (S.st != 0)) ∧ w = w' := by
  have c1 : w.cell? ⟨p, 7, none⟩ = some (.int .i64 S.st) := hB.cell 7 rfl
  go_enter Try.func28, Try.ntmps28
  go_wp2_with fail
  go_ret
  exact ⟨rfl, rfl⟩
theorem blk_busy0 (w : World) : Calls Try.prog 28 #[.pointer none] w fun e w' => e = .returned (.bool false) ∧ w = w' := by
  go_enter Try.func28, Try.ntmps28
  go_wp2_with fail
  go_ret
  exact ⟨rfl, rfl⟩
theorem blk_rows (p pd : Nat) (S : BlkS) (A : Option Addr) (n c : Nat) (w : World) (hB : Blk w p 73 (bsrV S pd A n c)) : Calls Try.prog 23 #[.pointer (some ⟨p, 0, none⟩)] w fun e w' => e = .returned (.bool (S.st == 1)) ∧ w = w' := by
  have c1 : w.cell? ⟨p, 7, none⟩ = some (.int .i64 S.st) := hB.cell 7 rfl
  go_enter Try.func23, Try.ntmps23
  go_wp2_with fail
  go_ret
  exact ⟨rfl, rfl⟩
theorem blk_rows0 (w : World) : Calls Try.prog 23 #[.pointer none] w fun e w' => e = .returned (.bool false) ∧ w = w' := by
  go_enter Try.func23, Try.ntmps23
  go_wp2_with fail
  go_ret
  exact ⟨rfl, rfl⟩
theorem blk_drop (p pd : Nat) (S : BlkS) (A : Option Addr) (n c : Nat) (w : World) (hB : Blk w p 73 (bsrV S pd A n c)) :
    Calls Try.prog 29 #[.pointer (some ⟨p, 0, none⟩)] w fun e w' => e = .returned (.tuple #[]) ∧ Blk w' p 73 (bsrV (blkIdle S) pd A n c) ∧ Only (fun k => k = p) w w' := by
  have hs : Hid (Blk (w.setCell ⟨p, 7, none⟩ (.int .i64 0)) p 73 (bsrV (blkIdle S) pd A n c)) := hide (hB.set_ 7 (.int .i64 0))
  have ho : Only (fun k => k = p) w (w.setCell ⟨p, 7, none⟩ (.int .i64 0)) := Only.of_set (F := fun k => k = p) rfl _
  have hz := hB.lt
  have c1 : w.cell? ⟨p, 7, none⟩ = some (.int .i64 S.st) := hB.cell 7 rfl
  have f1 := hB.frozen 7
  go_enter Try.func29, Try.ntmps29
  go_wp2_with fail
  go_end0
  exact ⟨rfl, hs.out, ho⟩
theorem blk_drop0 (w : World) : Calls Try.prog 29 #[.pointer none] w fun e w' => e = .returned (.tuple #[]) ∧ w = w' := by
  go_enter Try.func29, Try.ntmps29
  go_wp2_with fail
  go_end0
  exact ⟨rfl, rfl⟩
theorem blk_send (As : Option Addr) (ns cs : Nat) (w : World) : Calls Try.prog 50 #[.slice As ns cs] w fun e w' => e = .returned (.agg (outV As ns cs outZ none 0 0)) ∧ Below w.heap.size w w' := by
  have k1 := blk_one w 44 (outV As ns cs outZ none 0 0)
  have hbw := below_alloc (Below.refl w.heap.size w) (.cells (outV As ns cs outZ none 0 0) 44)
  have HK := hide k1
  have HB := hide hbw
  clear k1 hbw
  unfold outV outZ at HK HB
  go_enter Try.func50, Try.ntmps50
  go_wp2_with fail
  exact ret_out (O := outZ) rfl rfl rfl HK.out ⟨rfl, HB.out⟩
theorem blk_refuse (ix sub : Int) (code : Nat) (w : World) : Calls Try.prog 51 #[.int .i64 ix, .int .i64 sub, .int .u32 (code : Nat)] w fun e w' => e = .returned (.agg (msV (abM ix sub code) none 0 0)) ∧ Below w.heap.size w w' := by
  have q := blk_one w 39 (msV (abM ix sub code) none 0 0)
  have hbw := below_alloc (Below.refl w.heap.size w) (.cells (msV (abM ix sub code) none 0 0) 39)
  have HQ := hide q
  have HB := hide hbw
  clear q hbw
  unfold msV abM at HQ HB
  go_enter Try.func51, Try.ntmps51
  go_wp2_with fail
  exact ret_msg (M := abM ix sub code) rfl rfl rfl HQ.out ⟨rfl, HB.out⟩
theorem blk_begins (k : Int) (w : World) : Calls Try.prog 42 #[.int .i64 k] w fun e w' => e = .returned (.bool (decide (k = 1 ∨ k = 6 ∨ k = 8))) ∧ w = w' := by
  have hcs : k = 1 ∨ k = 6 ∨ k = 8 ∨ (k ≠ 1 ∧ k ≠ 6 ∧ k ≠ 8) := by omega
  rcases hcs with rfl | rfl | rfl | ⟨h1, h2, h3⟩
  · go_enter Try.func42, Try.ntmps42
    go_wp2_with fail
    go_ret
    exact ⟨rfl, rfl⟩
  · go_enter Try.func42, Try.ntmps42
    go_wp2_with fail
    go_ret
    exact ⟨rfl, rfl⟩
  · go_enter Try.func42, Try.ntmps42
    go_wp2_with fail
    go_ret
    exact ⟨rfl, rfl⟩
  · have e1 : (k == 1) = false := by simp [h1]
    have e2 : (k == 6) = false := by simp [h2]
    have e3 : (k == 8) = false := by simp [h3]
    have HD : Hid (decide (k = 1 ∨ k = 6 ∨ k = 8) = false) := hide (by simp [h1, h2, h3])
    clear h1 h2 h3
    go_enter Try.func42, Try.ntmps42
    go_wp2_with fail
    go_ret
    exact ⟨by rw [HD.out]; rfl, rfl⟩
def BAbR (p pd : Nat) (S : BlkS) (code : Nat) (A : Option Addr) (n c : Nat) (w : World) (e : Ending) (w' : World) : Prop :=
  (S.st = 0 → e = .returned (.slice none 0 0) ∧ w' = w) ∧
    (S.st ≠ 0 → ∃ g, w.heap.size ≤ g ∧ e = .returned (.slice (some ⟨g, 0, none⟩) 1 1) ∧ Blk w' g 39 (msV (abM S.ix S.sub code) none 0 0) ∧ Blk w' p 73 (bsrV (blkIdle S) pd A n c) ∧ Only (fun k => k = p) w w')
def BAnR (p pd : Nat) (S : BlkS) (code : Nat) (A : Option Addr) (n c : Nat) (w : World) (e : Ending) (w' : World) : Prop :=
  (S.st ≠ 3 → e = .returned (.slice none 0 0) ∧ w' = w) ∧
    (S.st = 3 → ∃ g, w.heap.size ≤ g ∧ e = .returned (.slice (some ⟨g, 0, none⟩) 1 1) ∧ Blk w' g 39 (msV (if code = 0 then okM 18 0 0 false else abM S.ix S.sub code) none 0 0) ∧ Blk w' p 73 (bsrV (blkIdle S) pd A n c) ∧ Only (fun k => k = p) w w')
theorem blk_Abort (p pd : Nat) (S : BlkS) (code : Nat) (A : Option Addr) (n c : Nat) (w : World) (hB : Blk w p 73 (bsrV S pd A n c)) :
    Calls Try.prog 30 #[.pointer (some ⟨p, 0, none⟩), .int .u32 (code : Nat)] w (BAbR p pd S code A n c w) := by
  have HB := hide hB
  clear hB
  by_cases h0 : S.st = 0
  · have hf : (S.st != 0) = false := by simp [h0]
    go_enter Try.func30, Try.ntmps30
    go_wp2_with fail
    refine (blk_busy p pd S A n c _ HB.out).mono ?_
    rintro e w1 ⟨rfl, rfl⟩
    rw [hf]
    go_wp2_with fail
    go_ret
    exact ⟨fun _ => ⟨rfl, rfl⟩, fun h => absurd h0 h⟩
  · have hf : (S.st != 0) = true := by simp [h0]
    have hs : Hid (Blk (w.setCell ⟨p, 7, none⟩ (.int .i64 0)) p 73 (bsrV (blkIdle S) pd A n c)) := hide (HB.out.set_ 7 (.int .i64 0))
    have ho : Only (fun k => k = p) w (w.setCell ⟨p, 7, none⟩ (.int .i64 0)) := Only.of_set (F := fun k => k = p) rfl _
    have hz := HB.out.lt
    have c1 : w.cell? ⟨p, 7, none⟩ = some (.int .i64 S.st) := HB.out.cell 7 rfl
    have f1 := HB.out.frozen 7
    have q' := hs.out
    unfold bsrV blkIdle at q'
    have hz0 : (w.setCell ⟨p, 7, none⟩ (.int .i64 0)).heap.size = w.heap.size := by simp [World.setCell]
    have d2 : (w.setCell ⟨p, 7, none⟩ (.int .i64 0)).cell? ⟨p, 8, none⟩ = some (.int .i64 S.ix) := q'.cell 8 rfl
    have d3 : (w.setCell ⟨p, 7, none⟩ (.int .i64 0)).cell? ⟨p, 9, none⟩ = some (.int .i64 S.sub) := q'.cell 9 rfl
    go_enter Try.func30, Try.ntmps30
    go_wp2_with fail
    refine (blk_busy p pd S A n c _ HB.out).mono ?_
    rintro e w1 ⟨rfl, rfl⟩
    rw [hf]
    clear q'
    go_wp2_with fail
    refine wp_region_held_drew (S := (fun w' => (∀ qA : Addr, qA.block < ((w.setCell ⟨p, 7, none⟩ (.int .i64 0))).heap.size → w'.cell? qA = ((w.setCell ⟨p, 7, none⟩ (.int .i64 0))).cell? qA) ∧ Below ((w.setCell ⟨p, 7, none⟩ (.int .i64 0))).heap.size ((w.setCell ⟨p, 7, none⟩ (.int .i64 0))) w')) (by kernel_rfl) ?hS1 (fun hHeld => ?rest1)
    case hS1 => ((try dsimp only); (((try go_split_ands); refine sn_of ?_; repeat' (first | with_reducible assumption | with_reducible exact Below.refl _ _ | with_reducible apply below_alloc | with_reducible apply below_drew1 | with_reducible apply below_drewN | (with_reducible apply below_step; with_reducible assumption) | (with_reducible apply below_sg2; (first | exact Nat.le_refl _ | (simp; done) | omega))))))
    case' rest1 => skip
    refine wpAnyH_take (i := 0) (oi := _) (v := ?v2) rfl (by kernel_rfl) (by kernel_rfl) (by kernel_rfl) (fun _ _ _ h => h) (Or.inl ⟨by rfl, ?hy2⟩) (by assumption) ?rest2
    case hy2 => ((intro w hSw; (try dsimp only at hSw); go_simp) <;> with_reducible rfl)
    case' rest2 => try simp only [List.getElem_toArray, List.getElem_cons_zero, List.getElem_cons_succ, Act.put, List.setIfInBounds_toArray, List.set_cons_zero, List.set_cons_succ]
    refine wpAnyH_take (i := 1) (oi := _) (v := ?v3) rfl (by kernel_rfl) (by kernel_rfl) (by kernel_rfl) (fun _ _ _ h => h) (Or.inl ⟨by rfl, ?hy3⟩) (by assumption) ?rest3
    case hy3 => ((intro w hSw; (try dsimp only at hSw); go_simp) <;> with_reducible rfl)
    case' rest3 => try simp only [List.getElem_toArray, List.getElem_cons_zero, List.getElem_cons_succ, Act.put, List.setIfInBounds_toArray, List.set_cons_zero, List.set_cons_succ]
    refine wpAnyH_take (i := 2) (oi := _) (v := ?v4) rfl (by kernel_rfl) (by kernel_rfl) (by kernel_rfl) (fun _ _ _ h => h) (Or.inl ⟨by rfl, ?hy4⟩) (by assumption) ?rest4
    case hy4 => ((intro w hSw; (try dsimp only at hSw); go_simp) <;> with_reducible rfl)
    case' rest4 => try simp only [List.getElem_toArray, List.getElem_cons_zero, List.getElem_cons_succ, Act.put, List.setIfInBounds_toArray, List.set_cons_zero, List.set_cons_succ]
    refine wpAnyH_take (i := 3) (oi := _) (v := ?v5) rfl (by kernel_rfl) (by kernel_rfl) (by kernel_rfl) (fun _ _ _ h => h) (Or.inl ⟨by rfl, ?hy5⟩) (by assumption) ?rest5
    case hy5 => ((intro w hSw; (try dsimp only at hSw); go_simp) <;> with_reducible rfl)
    case' rest5 => try simp only [List.getElem_toArray, List.getElem_cons_zero, List.getElem_cons_succ, Act.put, List.setIfInBounds_toArray, List.set_cons_zero, List.set_cons_succ]
    refine wpAnyH_take (i := 4) (oi := _) (v := ?v6) rfl (by kernel_rfl) (by kernel_rfl) (by kernel_rfl) (fun _ _ _ h => h) (Or.inl ⟨by rfl, ?hy6⟩) (by assumption) ?rest6
    case hy6 => ((intro w hSw; (try dsimp only at hSw); go_simp) <;> with_reducible rfl)
    case' rest6 => try simp only [List.getElem_toArray, List.getElem_cons_zero, List.getElem_cons_succ, Act.put, List.setIfInBounds_toArray, List.set_cons_zero, List.set_cons_succ]
    refine wpAnyH_take (i := 5) (oi := _) (v := ?v7) rfl (by kernel_rfl) (by kernel_rfl) (by kernel_rfl) (fun _ _ _ h => h) (Or.inl ⟨by rfl, ?hy7⟩) (by assumption) ?rest7
    case hy7 => ((intro w hSw; (try dsimp only at hSw); go_simp) <;> with_reducible rfl)
    case' rest7 => try simp only [List.getElem_toArray, List.getElem_cons_zero, List.getElem_cons_succ, Act.put, List.setIfInBounds_toArray, List.set_cons_zero, List.set_cons_succ]
    refine wpAnyH_take (i := 6) (oi := _) (v := ?v8) rfl (by kernel_rfl) (by kernel_rfl) (by kernel_rfl) (fun _ _ _ h => h) (Or.inl ⟨by rfl, ?hy8⟩) (by assumption) ?rest8
    case hy8 => ((intro w hSw; (try dsimp only at hSw); go_simp) <;> with_reducible rfl)
    case' rest8 => try simp only [List.getElem_toArray, List.getElem_cons_zero, List.getElem_cons_succ, Act.put, List.setIfInBounds_toArray, List.set_cons_zero, List.set_cons_succ]
    refine wpAnyH_take (i := 7) (oi := _) (v := ?v9) rfl (by kernel_rfl) (by kernel_rfl) (by kernel_rfl) (fun _ _ _ h => h) (Or.inl ⟨by rfl, ?hy9⟩) (by assumption) ?rest9
    case hy9 => ((intro w hSw; (try dsimp only at hSw); go_simp) <;> with_reducible rfl)
    case' rest9 => try simp only [List.getElem_toArray, List.getElem_cons_zero, List.getElem_cons_succ, Act.put, List.setIfInBounds_toArray, List.set_cons_zero, List.set_cons_succ]
    refine wpAnyH_take (i := 8) (oi := _) (v := ?v10) rfl (by kernel_rfl) (by kernel_rfl) (by kernel_rfl) (fun _ _ _ h => h) (Or.inl ⟨by rfl, ?hy10⟩) (by assumption) ?rest10
    case hy10 => ((intro w hSw; (try dsimp only at hSw); go_simp) <;> with_reducible rfl)
    case' rest10 => try simp only [List.getElem_toArray, List.getElem_cons_zero, List.getElem_cons_succ, Act.put, List.setIfInBounds_toArray, List.set_cons_zero, List.set_cons_succ]
    refine wpAnyH_ready (rs := [9]) (by kernel_rfl) (by simp) ?_
    refine AllReadyH.cons (o := _) rfl (fun K hK => ?_) AllReadyH.nil
    go_simp
    refine (blk_refuse S.ix S.sub code _).mono ?_
    rintro e w2 ⟨rfl, hb2⟩
    have hz2 : w.heap.size ≤ w2.heap.size := by have := hb2.size; rw [show (w.setCell ⟨p, 7, none⟩ (.int .i64 0)).drew.heap.size = w.heap.size from hz0] at this; exact this
    have HG := hide (Blk.new w2 39 (msV (abM S.ix S.sub code) none 0 0))
    unfold msV abM at HG
    unfold msV abM
    dsimp only
    refine hK.out _ _ ?hS13 (fun hHeld => ?rest13)
    case hS13 => ((try dsimp only); (((try go_split_ands); refine sn_of ?_; repeat' (first | with_reducible assumption | with_reducible exact Below.refl _ _ | with_reducible apply below_alloc | with_reducible apply below_drew1 | with_reducible apply below_drewN | (with_reducible apply below_step; with_reducible assumption) | (with_reducible apply below_sg2; (first | exact Nat.le_refl _ | (simp; done) | omega))))))
    case' rest13 => (clear hK K; try simp only [List.getElem_toArray, List.getElem_cons_zero, List.getElem_cons_succ, Act.put, List.setIfInBounds_toArray, List.set_cons_zero, List.set_cons_succ])
    refine wpAnyH_ready (rs := [10]) (by kernel_rfl) (by simp) ?_
    refine AllReadyH.cons (o := _) rfl (fun K hK => ?_) AllReadyH.nil
    go_simp
    refine hK.out _ _ ?hS16 (fun hHeld => ?rest16)
    case hS16 => ((try dsimp only); (((try go_split_ands); refine sn_of ?_; repeat' (first | with_reducible assumption | with_reducible exact Below.refl _ _ | with_reducible apply below_alloc | with_reducible apply below_drew1 | with_reducible apply below_drewN | (with_reducible apply below_step; with_reducible assumption) | (with_reducible apply below_sg2; (first | exact Nat.le_refl _ | (simp; done) | omega))))))
    case' rest16 => (clear hK K; try simp only [List.getElem_toArray, List.getElem_cons_zero, List.getElem_cons_succ, Act.put, List.setIfInBounds_toArray, List.set_cons_zero, List.set_cons_succ])
    refine wpAnyH_take (i := 11) (oi := _) (v := ?v17) rfl (by kernel_rfl) (by kernel_rfl) (by kernel_rfl) (fun _ _ _ h => h) (Or.inl ⟨by rfl, ?hy17⟩) (by assumption) ?rest17
    case hy17 => ((intro w hSw; (try dsimp only at hSw); go_simp) <;> with_reducible rfl)
    case' rest17 => try simp only [List.getElem_toArray, List.getElem_cons_zero, List.getElem_cons_succ, Act.put, List.setIfInBounds_toArray, List.set_cons_zero, List.set_cons_succ]
    refine wpAnyH_done (by kernel_rfl) ?_ _
    have hEnd := hHeld.2
    repeat (clear hHeld)
    go_wp2_with fail
    go_ret
    exact ⟨fun h => absurd h h0, fun _ => ⟨w2.heap.size, hz2, rfl, HG.out, hs.out.below hEnd hs.out.lt, ho.trans (Only.of_below (F := fun k => k = p) hEnd) (fun _ _ h => h)⟩⟩
theorem blk_Abort0 (code : Nat) (w : World) : Calls Try.prog 30 #[.pointer none, .int .u32 (code : Nat)] w fun e w' => e = .returned (.slice none 0 0) ∧ w = w' := by
  go_enter Try.func30, Try.ntmps30
  go_wp2_with fail
  refine (blk_busy0 _).mono ?_
  rintro e w1 ⟨rfl, rfl⟩
  go_wp2_with fail
  go_ret
  exact ⟨rfl, rfl⟩
/-- an abort inside: an answer of the Abort, if a transfer is under way -/
theorem blk_abort (p pd : Nat) (S : BlkS) (code : Nat) (A : Option Addr) (n c : Nat) (w : World) (hB : Blk w p 73 (bsrV S pd A n c)) (h0 : S.st ≠ 0) :
    Calls Try.prog 49 #[.pointer (some ⟨p, 0, none⟩), .int .u32 (code : Nat)] w fun e w' => ∃ g, w.heap.size ≤ g ∧ e = .returned (.agg (outV (some ⟨g, 0, none⟩) 1 1 outZ none 0 0)) ∧ Blk w' g 39 (msV (abM S.ix S.sub code) none 0 0) ∧ Blk w' p 73 (bsrV (blkIdle S) pd A n c) ∧ Only (fun k => k = p) w w' := by
  have k1 := blk_one w 44 (outV none 0 0 outZ none 0 0)
  have hbw := below_alloc (Below.refl w.heap.size w) (.cells (outV none 0 0 outZ none 0 0) 44)
  have hz := hB.lt
  have HA := hide (blk_Abort p pd S code A n c _ (hB.below hbw hz))
  have HK := hide k1
  have HO := hide (Only.of_below (F := fun k => k = p) hbw)
  have H0 := hide h0
  have HZ : Hid ((w.alloc (.cells (outV none 0 0 outZ none 0 0) 44)).heap.size = w.heap.size + 1) := hide (by simp)
  clear hB hbw k1 h0
  unfold outV outZ at HA HO HZ
  go_enter Try.func49, Try.ntmps49
  go_wp2_with fail
  refine HA.out.mono ?_
  rintro e w1 ⟨_, h1⟩
  obtain ⟨g, hg, rfl, hM, hP, ho⟩ := h1 H0.out
  have hgz : w.heap.size < g := by have := HZ.out; omega
  have hk1 := blk_only HK.out ho (show w.heap.size ≠ p by omega)
  have HP := hide (putO_far hP (show p ≠ w.heap.size by omega) (some ⟨g, 0, none⟩) 1 1 outZ none 0 0)
  have HM := hide (putO_far hM (show g ≠ w.heap.size by omega) (some ⟨g, 0, none⟩) 1 1 outZ none 0 0)
  have HO2 := hide (putO_only (HO.out.trans ho (fun _ _ h => h)) (g := w.heap.size) (Nat.le_refl _) (some ⟨g, 0, none⟩) 1 1 outZ none 0 0)
  have HK1 := hide (putO_blk (As' := some ⟨g, 0, none⟩) (ns' := 1) (cs' := 1) (O' := outZ) (A' := none) (n' := 0) (c' := 0) hk1)
  unfold putO outZ at HP HM HO2 HK1
  dsimp only at HP HM HO2 HK1
  unfold outV outZ at hk1
  have hk1_c0 := hk1.cell 0 rfl
  have hk1_f0 := hk1.frozen 0
  have hk1_c1 := hk1.cell 1 rfl
  have hk1_f1 := hk1.frozen 1
  have hk1_c2 := hk1.cell 2 rfl
  have hk1_f2 := hk1.frozen 2
  have hk1_c3 := hk1.cell 3 rfl
  have hk1_f3 := hk1.frozen 3
  have hk1_c4 := hk1.cell 4 rfl
  have hk1_f4 := hk1.frozen 4
  clear hM hP ho h1 HA
  go_wp2_with fail
  refine ret_out (O := outZ) rfl rfl rfl HK1.out ?_
  exact ⟨g, by omega, rfl, HM.out, HP.out, HO2.out⟩
theorem blk_answer (p pd : Nat) (S : BlkS) (code : Nat) (A : Option Addr) (n c : Nat) (w : World) (hB : Blk w p 73 (bsrV S pd A n c)) :
    Calls Try.prog 27 #[.pointer (some ⟨p, 0, none⟩), .int .u32 (code : Nat)] w (BAnR p pd S code A n c w) := by
  have HB := hide hB
  have c1 : w.cell? ⟨p, 7, none⟩ = some (.int .i64 S.st) := hB.cell 7 rfl
  have f1 := hB.frozen 7
  have hz := hB.lt
  by_cases h3 : S.st = 3
  · rw [h3] at c1
    have H3 := hide h3
    clear h3
    by_cases h0 : code = 0
    · subst h0
      have hs : Hid (Blk (w.setCell ⟨p, 7, none⟩ (.int .i64 0)) p 73 (bsrV (blkIdle S) pd A n c)) := hide (HB.out.set_ 7 (.int .i64 0))
      have ho : Only (fun k => k = p) w (w.setCell ⟨p, 7, none⟩ (.int .i64 0)) := Only.of_set (F := fun k => k = p) rfl _
      have hz0 : (w.setCell ⟨p, 7, none⟩ (.int .i64 0)).heap.size = w.heap.size := by simp [World.setCell]
      have hg := Blk.new (w.setCell ⟨p, 7, none⟩ (.int .i64 0)) 39 (msV (okM 18 0 0 false) none 0 0)
      rw [hz0] at hg
      have HR := hide (And.intro hg (And.intro (hs.out.alloc (.cells (msV (okM 18 0 0 false) none 0 0) 39)) (ho.new (.cells (msV (okM 18 0 0 false) none 0 0) 39))))
      clear hg hs ho hz0 hB
      unfold msV okM at HR
      go_enter Try.func27, Try.ntmps27
      go_wp2_with fail
      go_ret
      exact ⟨fun h => absurd H3.out h, fun _ => ⟨w.heap.size, Nat.le_refl _, rfl, HR.out⟩⟩
    · have HA := hide (blk_Abort p pd S code A n c w hB)
      have HC := hide h0
      have hne : ¬ (code : Int) = 0 := by omega
      clear hB h0
      go_enter Try.func27, Try.ntmps27
      go_wp2_with fail
      refine HA.out.mono ?_
      rintro e w1 ⟨_, h1⟩
      obtain ⟨g, hg, rfl, hM, hP, ho⟩ := h1 (by rw [H3.out]; decide)
      have HR := hide (And.intro hM (And.intro hP ho))
      clear hM hP ho h1
      go_wp2_with fail
      go_ret
      exact ⟨fun h => absurd H3.out h, fun _ => ⟨g, hg, rfl, by rw [if_neg HC.out]; exact HR.out.1, HR.out.2.1, HR.out.2.2⟩⟩
  · have hf : (S.st != 3) = true := by simp [h3]
    have H3 := hide h3
    clear hB h3
    go_enter Try.func27, Try.ntmps27
    go_wp2_with fail
    go_ret
    exact ⟨fun _ => ⟨rfl, rfl⟩, fun h => absurd h H3.out⟩
theorem blk_answer0 (code : Nat) (w : World) : Calls Try.prog 27 #[.pointer none, .int .u32 (code : Nat)] w fun e w' => e = .returned (.slice none 0 0) ∧ w = w' := by
  go_enter Try.func27, Try.ntmps27
  go_wp2_with fail
  go_ret
  exact ⟨rfl, rfl⟩
end Go.Proofs.Ytimdmhhgomfijaa
