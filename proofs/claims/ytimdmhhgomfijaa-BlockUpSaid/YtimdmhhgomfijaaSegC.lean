/- Package seg: a server in memory; New, Busy, Drop, send, refuse, Abort, Answer. -/
import Derived.Test.YtimdmhhgomfijaaSegB
import Derived.Test.YtimdmhhgomfijaaSegA
import Derived.Test.YtimdmhhgomfijaaSets
import Derived.Deep.RegionHeld3
import Derived.RegionTactic
import Derived.Deep.Light
namespace Go.Proofs.Ytimdmhhgomfijaa
set_option linter.unusedVariables false
set_option linter.unusedSimpArgs false
set_option linter.unnecessarySimpa false
open Go.RowKit
set_option maxRecDepth 100000
set_option maxHeartbeats 4000000
def srvV (S : SegS) (pd : Nat) (A : Option Addr) (n c : Nat) : Array Value := #[.pointer (some ⟨pd, 0, none⟩), .int .i64 S.st, .int .i64 S.ix, .int .i64 S.sub, .int .i64 S.mo, .int .i64 S.sz, .slice A n c, .bool S.tg, .int .i64 S.wk, .int .i64 S.wi, .int .i64 S.ws, .bool S.wt, .bool false, .bool false, .bool false, .int .u32 0, .int .u32 0, .slice none 0 0, .int .i64 0, .int .i64 0, .int .i64 0, .int .u16 0]
/-- a server at block p over the dictionary at block pd; its bytes lie in blocks of F -/
structure SB (w : World) (F : Nat → Prop) (p pd : Nat) (S : SegS) : Prop where
  nF : ¬ F p
  some_ : ∃ A n c, Blk w p 55 (srvV S pd A n c) ∧ ((S.st = 1 ∨ S.st = 2) → n = S.b.length ∧ n ≤ c ∧ Sl w A (S.b.map bv) ∧ ∀ ad, A = some ad → F ad.block ∧ ad.block < w.heap.size)
def outV (As : Option Addr) (ns cs : Nat) (O : SegO) (A : Option Addr) (n c : Nat) : Array Value := #[.slice As ns cs, .bool O.wr, .int .i64 O.ix, .int .i64 O.sub, .slice A n c]
theorem out_size : (Try.prog.info? 44).map (·.size) = some 5 := by kernel_rfl
/-- a result of type Out, whole -/
theorem ret_out {fn : Func} {p : Tmp} (h : fn.results = #[.cell p 44]) {a : Act} {w : World} {g : Nat} {As : Option Addr} {ns cs : Nat} {O : SegO} {A : Option Addr} {n c : Nat} {R : Ending → World → Prop} (hd : a.defers = []) (hp : a.tmps.getD p undef = .pointer (some ⟨g, 0, none⟩))
    (hB : Blk w g 44 (outV As ns cs O A n c)) (hR : R (.returned (.agg (outV As ns cs O A n c))) w) : bodyPost Try.prog fn R .ret a w :=
  bodyPost_ret (results_cell_row h _ _ _ _ _ _ _ hp hB Try.underlying44 rfl out_size) hd hR
/-- a result of type Out, stored anew -/
def putO (w : World) (g : Nat) (As : Option Addr) (ns cs : Nat) (O : SegO) (A : Option Addr) (n c : Nat) : World := ((((w.setCell ⟨g, 0, none⟩ (.slice As ns cs)).setCell ⟨g, 1, none⟩ (.bool O.wr)).setCell ⟨g, 2, none⟩ (.int .i64 O.ix)).setCell ⟨g, 3, none⟩ (.int .i64 O.sub)).setCell ⟨g, 4, none⟩ (.slice A n c)
theorem putO_blk {w : World} {g : Nat} {As As' : Option Addr} {ns cs ns' cs' : Nat} {O O' : SegO} {A A' : Option Addr} {n c n' c' : Nat} (h : Blk w g 44 (outV As ns cs O A n c)) : Blk (putO w g As' ns' cs' O' A' n' c') g 44 (outV As' ns' cs' O' A' n' c') :=
  ((((h.set_ 0 (.slice As' ns' cs')).set_ 1 (.bool O'.wr)).set_ 2 (.int .i64 O'.ix)).set_ 3 (.int .i64 O'.sub)).set_ 4 (.slice A' n' c')
theorem putO_far {w : World} {g p : Nat} {t : TypeId} {arr : Array Value} (h : Blk w p t arr) (hne : p ≠ g) (As : Option Addr) (ns cs : Nat) (O : SegO) (A : Option Addr) (n c : Nat) : Blk (putO w g As ns cs O A n c) p t arr :=
  (((((h.far (p := ⟨g, 0, none⟩) hne _).far (p := ⟨g, 1, none⟩) hne _).far (p := ⟨g, 2, none⟩) hne _).far (p := ⟨g, 3, none⟩) hne _).far (p := ⟨g, 4, none⟩) hne _)
theorem putO_only {F : Nat → Prop} {w W : World} {g : Nat} (h : Only F w W) (hg : w.heap.size ≤ g) (As : Option Addr) (ns cs : Nat) (O : SegO) (A : Option Addr) (n c : Nat) : Only F w (putO W g As ns cs O A n c) :=
  ((((h.setNew hg _).setNew hg _).setNew hg _).setNew hg _).setNew hg _
theorem putO_own {w : World} {B g n c : Nat} {A : Option Addr} {l : List UInt8} (h : OwnB w B A n c l) (hg : g < B) (As : Option Addr) (ns cs : Nat) (O : SegO) (A2 : Option Addr) (n2 c2 : Nat) : OwnB (putO w g As ns cs O A2 n2 c2) B A n c l :=
  ((((h.set_ (p := ⟨g, 0, none⟩) hg _).set_ (p := ⟨g, 1, none⟩) hg _).set_ (p := ⟨g, 2, none⟩) hg _).set_ (p := ⟨g, 3, none⟩) hg _).set_ (p := ⟨g, 4, none⟩) hg _
theorem seg_new (pd : Nat) (w : World) : Calls Try.prog 12 #[.pointer (some ⟨pd, 0, none⟩)] w fun e w' => e = .returned (.pointer (some ⟨w.heap.size, 0, none⟩)) ∧ Blk w' w.heap.size 55 (srvV segZ pd none 0 0) ∧ Below w.heap.size w w' ∧ w'.heap.size = w.heap.size + 1 := by
  have q := blk_one w 55 (srvV segZ pd none 0 0)
  have hbw := below_alloc (Below.refl w.heap.size w) (.cells (srvV segZ pd none 0 0) 55)
  have HQ := hide q
  have HB := hide hbw
  clear q hbw
  unfold srvV segZ at *
  go_enter Try.func12, Try.ntmps12
  go_wp2_with fail
  go_ret
  exact ⟨rfl, HQ.out, HB.out, by simp⟩
theorem seg_new0 (w : World) : Calls Try.prog 12 #[.pointer none] w fun e w' => e = .returned (.pointer none) ∧ w = w' := by
  go_enter Try.func12, Try.ntmps12
  go_wp2_with fail
  go_ret
  exact ⟨rfl, rfl⟩
theorem seg_busy (p pd : Nat) (S : SegS) (A : Option Addr) (n c : Nat) (w : World) (hB : Blk w p 55 (srvV S pd A n c)) : Calls Try.prog 14 #[.pointer (some ⟨p, 0, none⟩)] w fun e w' => e = .returned (.bool (S.st != 0)) ∧ w = w' := by
  have c1 : w.cell? ⟨p, 1, none⟩ = some (.int .i64 S.st) := hB.cell 1 rfl
  go_enter Try.func14, Try.ntmps14
  go_wp2_with fail
  go_ret
  exact ⟨rfl, rfl⟩
theorem seg_busy0 (w : World) : Calls Try.prog 14 #[.pointer none] w fun e w' => e = .returned (.bool false) ∧ w = w' := by
  go_enter Try.func14, Try.ntmps14
  go_wp2_with fail
  go_ret
  exact ⟨rfl, rfl⟩
theorem seg_refuse (ix sub : Int) (code : Nat) (w : World) : Calls Try.prog 41 #[.int .i64 ix, .int .i64 sub, .int .u32 (code : Nat)] w fun e w' => e = .returned (.slice (some ⟨w.heap.size, 0, none⟩) 1 1) ∧ Blk w' w.heap.size 39 (msV (abM ix sub code) none 0 0) ∧ Below w.heap.size w w' ∧ w'.heap.size = w.heap.size + 1 := by
  have q := blk_one w 39 (msV (abM ix sub code) none 0 0)
  have hbw := below_alloc (Below.refl w.heap.size w) (.cells (msV (abM ix sub code) none 0 0) 39)
  have HQ := hide q
  have HB := hide hbw
  clear q hbw
  unfold msV abM at *
  go_enter Try.func41, Try.ntmps41
  go_wp2_with fail
  go_ret
  exact ⟨rfl, HQ.out, HB.out, by simp⟩
theorem seg_send (M : Ms) (A : Option Addr) (n c : Nat) (w : World) : Calls Try.prog 65 #[.agg (msV M A n c)] w fun e w' => ∃ g, w.heap.size ≤ g ∧ e = .returned (.agg (outV (some ⟨g, 0, none⟩) 1 1 outZ none 0 0)) ∧ Blk w' g 39 (msV M A n c) ∧ Below w.heap.size w w' := by
  obtain ⟨k1, k2, k3⟩ := blk_three w 39 44 39 (msV M A n c) (outV (some ⟨w.heap.size + 1 + 1, 0, none⟩) 1 1 outZ none 0 0) (msV M A n c)
  have hbw := below_alloc (below_alloc (below_alloc (Below.refl w.heap.size w) (.cells (msV M A n c) 39)) (.cells (outV (some ⟨w.heap.size + 1 + 1, 0, none⟩) 1 1 outZ none 0 0) 44)) (.cells (msV M A n c) 39)
  have HK2 := hide k2
  have HK3 := hide k3
  have HB := hide hbw
  clear k1 k2 k3 hbw
  obtain ⟨kind, ix, sub, tg, la, cr, sz, size, code, data, sq, bl, em, sum⟩ := M
  unfold msV at *
  go_enter Try.func65, Try.ntmps65
  go_wp2_with fail
  exact ret_out (O := outZ) rfl rfl rfl HK2.out ⟨w.heap.size + 1 + 1, by omega, rfl, HK3.out, HB.out⟩
theorem seg_abort (p pd : Nat) (S : SegS) (code : Nat) (A : Option Addr) (n c : Nat) (w : World) (hB : Blk w p 55 (srvV S pd A n c)) :
    Calls Try.prog 19 #[.pointer (some ⟨p, 0, none⟩), .int .u32 (code : Nat)] w fun e w' => (S.st = 0 → e = .returned (.slice none 0 0) ∧ w' = w) ∧
      (S.st ≠ 0 → ∃ g, w.heap.size ≤ g ∧ e = .returned (.slice (some ⟨g, 0, none⟩) 1 1) ∧ Blk w' g 39 (msV (abM S.ix S.sub code) none 0 0) ∧ Blk w' p 55 (srvV (abortS S) pd A n c) ∧ Only (fun k => k = p) w w') := by
  have HB := hide hB
  clear hB
  by_cases h0 : S.st = 0
  · have hf : (S.st != 0) = false := by simp [h0]
    go_enter Try.func19, Try.ntmps19
    go_wp2_with fail
    refine (seg_busy p pd S A n c _ HB.out).mono ?_
    rintro e w1 ⟨rfl, rfl⟩
    rw [hf]
    go_wp2_with fail
    go_ret
    exact ⟨fun _ => ⟨rfl, rfl⟩, fun h => absurd h0 h⟩
  · have hf : (S.st != 0) = true := by simp [h0]
    have hs : Hid (Blk (w.setCell ⟨p, 1, none⟩ (.int .i64 0)) p 55 (srvV (abortS S) pd A n c)) := hide (HB.out.set_ 1 (.int .i64 0))
    have ho : Only (fun k => k = p) w (w.setCell ⟨p, 1, none⟩ (.int .i64 0)) := Only.of_set (F := fun k => k = p) rfl _
    have hz := HB.out.lt
    have qB := HB.out
    unfold srvV at qB
    have c1 : w.cell? ⟨p, 1, none⟩ = some (.int .i64 S.st) := HB.out.cell 1 rfl
    have f1 := HB.out.frozen 1
    have q' := hs.out
    unfold srvV abortS at q'
    have hz0 : (w.setCell ⟨p, 1, none⟩ (.int .i64 0)).heap.size = w.heap.size := by simp [World.setCell]
    have d2 : (w.setCell ⟨p, 1, none⟩ (.int .i64 0)).cell? ⟨p, 2, none⟩ = some (.int .i64 S.ix) := q'.cell 2 rfl
    have d3 : (w.setCell ⟨p, 1, none⟩ (.int .i64 0)).cell? ⟨p, 3, none⟩ = some (.int .i64 S.sub) := q'.cell 3 rfl
    go_enter Try.func19, Try.ntmps19
    go_wp2_with fail
    refine (seg_busy p pd S A n c _ HB.out).mono ?_
    rintro e w1 ⟨rfl, rfl⟩
    rw [hf]
    clear qB q'
    go_wp2_with fail
    refine wp_region_held_drew (S := (fun w' => (∀ qA : Addr, qA.block < ((w.setCell ⟨p, 1, none⟩ (.int .i64 0))).heap.size → w'.cell? qA = ((w.setCell ⟨p, 1, none⟩ (.int .i64 0))).cell? qA) ∧ Below ((w.setCell ⟨p, 1, none⟩ (.int .i64 0))).heap.size ((w.setCell ⟨p, 1, none⟩ (.int .i64 0))) w')) (by kernel_rfl) ?hS1 (fun hHeld => ?rest1)
    case hS1 => ((try dsimp only); (((try go_split_ands); refine sn_of ?_; repeat' (first | with_reducible assumption | with_reducible exact Below.refl _ _ | with_reducible apply below_alloc | with_reducible apply below_drew1 | with_reducible apply below_drewN | (with_reducible apply below_step; with_reducible assumption) | (with_reducible apply below_sg2; (first | exact Nat.le_refl _ | (simp; done) | omega))))))
    case' rest1 => skip
    refine wpAnyH_take (i := 0) (oi := _) (v := ?v2) rfl (by kernel_rfl) (by kernel_rfl) (by kernel_rfl) (fun _ _ _ h => h) (Or.inl ⟨by rfl, ?hy2⟩) (by assumption) ?rest2
    case hy2 => ((intro w hSw; (try dsimp only at hSw); go_simp) <;> with_reducible rfl)
    case' rest2 => try simp only [List.getElem_toArray, List.getElem_cons_zero, List.getElem_cons_succ, Act.put, List.setIfInBounds_toArray, List.set_cons_zero, List.set_cons_succ]
    refine wpAnyH_take (i := 1) (oi := _) (v := ?v3) rfl (by kernel_rfl) (by kernel_rfl) (by kernel_rfl) (fun _ _ _ h => h) (Or.inl ⟨by rfl, ?hy3⟩) (by assumption) ?rest3
    case hy3 => ((intro w hSw; (try dsimp only at hSw); go_simp) <;> with_reducible rfl)
    case' rest3 => try simp only [List.getElem_toArray, List.getElem_cons_zero, List.getElem_cons_succ, Act.put, List.setIfInBounds_toArray, List.set_cons_zero, List.set_cons_succ]
    refine wpAnyH_take (i := 2) (oi := _) (v := ?v4) rfl (by kernel_rfl) (by kernel_rfl) (by kernel_rfl) (fun _ _ _ h => h) (Or.inl ⟨by rfl, ?hy4⟩) (by assumption) ?rest4
    case hy4 => ((intro w hSw; (try dsimp only at hSw); go_simp) <;> with_reducible rfl)
    case' rest4 => try simp only [List.getElem_toArray, List.getElem_cons_zero, List.getElem_cons_succ, Act.put, List.setIfInBounds_toArray, List.set_cons_zero, List.set_cons_succ]
    refine wpAnyH_take (i := 3) (oi := _) (v := ?v5) rfl (by kernel_rfl) (by kernel_rfl) (by kernel_rfl) (fun _ _ _ h => h) (Or.inl ⟨by rfl, ?hy5⟩) (by assumption) ?rest5
    case hy5 => ((intro w hSw; (try dsimp only at hSw); go_simp) <;> with_reducible rfl)
    case' rest5 => try simp only [List.getElem_toArray, List.getElem_cons_zero, List.getElem_cons_succ, Act.put, List.setIfInBounds_toArray, List.set_cons_zero, List.set_cons_succ]
    refine wpAnyH_take (i := 4) (oi := _) (v := ?v6) rfl (by kernel_rfl) (by kernel_rfl) (by kernel_rfl) (fun _ _ _ h => h) (Or.inl ⟨by rfl, ?hy6⟩) (by assumption) ?rest6
    case hy6 => ((intro w hSw; (try dsimp only at hSw); go_simp) <;> with_reducible rfl)
    case' rest6 => try simp only [List.getElem_toArray, List.getElem_cons_zero, List.getElem_cons_succ, Act.put, List.setIfInBounds_toArray, List.set_cons_zero, List.set_cons_succ]
    refine wpAnyH_take (i := 5) (oi := _) (v := ?v7) rfl (by kernel_rfl) (by kernel_rfl) (by kernel_rfl) (fun _ _ _ h => h) (Or.inl ⟨by rfl, ?hy7⟩) (by assumption) ?rest7
    case hy7 => ((intro w hSw; (try dsimp only at hSw); go_simp) <;> with_reducible rfl)
    case' rest7 => try simp only [List.getElem_toArray, List.getElem_cons_zero, List.getElem_cons_succ, Act.put, List.setIfInBounds_toArray, List.set_cons_zero, List.set_cons_succ]
    refine wpAnyH_take (i := 6) (oi := _) (v := ?v8) rfl (by kernel_rfl) (by kernel_rfl) (by kernel_rfl) (fun _ _ _ h => h) (Or.inl ⟨by rfl, ?hy8⟩) (by assumption) ?rest8
    case hy8 => ((intro w hSw; (try dsimp only at hSw); go_simp) <;> with_reducible rfl)
    case' rest8 => try simp only [List.getElem_toArray, List.getElem_cons_zero, List.getElem_cons_succ, Act.put, List.setIfInBounds_toArray, List.set_cons_zero, List.set_cons_succ]
    refine wpAnyH_take (i := 7) (oi := _) (v := ?v9) rfl (by kernel_rfl) (by kernel_rfl) (by kernel_rfl) (fun _ _ _ h => h) (Or.inl ⟨by rfl, ?hy9⟩) (by assumption) ?rest9
    case hy9 => ((intro w hSw; (try dsimp only at hSw); go_simp) <;> with_reducible rfl)
    case' rest9 => try simp only [List.getElem_toArray, List.getElem_cons_zero, List.getElem_cons_succ, Act.put, List.setIfInBounds_toArray, List.set_cons_zero, List.set_cons_succ]
    refine wpAnyH_take (i := 8) (oi := _) (v := ?v10) rfl (by kernel_rfl) (by kernel_rfl) (by kernel_rfl) (fun _ _ _ h => h) (Or.inl ⟨by rfl, ?hy10⟩) (by assumption) ?rest10
    case hy10 => ((intro w hSw; (try dsimp only at hSw); go_simp) <;> with_reducible rfl)
    case' rest10 => try simp only [List.getElem_toArray, List.getElem_cons_zero, List.getElem_cons_succ, Act.put, List.setIfInBounds_toArray, List.set_cons_zero, List.set_cons_succ]
    refine wpAnyH_ready (rs := [9]) (by kernel_rfl) (by simp) ?_
    refine AllReadyH.cons (o := _) rfl (fun K hK => ?_) AllReadyH.nil
    go_simp
    refine (seg_refuse S.ix S.sub code _).mono ?_
    rintro e w2 ⟨rfl, hB2, hb2, hz2⟩
    rw [show (w.setCell ⟨p, 1, none⟩ (.int .i64 0)).drew.heap.size = w.heap.size from hz0] at hB2
    have HB2 := hide hB2
    dsimp only
    refine hK.out _ _ ?hS13 (fun hHeld => ?rest13)
    case hS13 => ((try dsimp only); (((try go_split_ands); refine sn_of ?_; repeat' (first | with_reducible assumption | with_reducible exact Below.refl _ _ | with_reducible apply below_alloc | with_reducible apply below_drew1 | with_reducible apply below_drewN | (with_reducible apply below_step; with_reducible assumption) | (with_reducible apply below_sg2; (first | exact Nat.le_refl _ | (simp; done) | omega))))))
    case' rest13 => (clear hK K; try simp only [List.getElem_toArray, List.getElem_cons_zero, List.getElem_cons_succ, Act.put, List.setIfInBounds_toArray, List.set_cons_zero, List.set_cons_succ])
    refine wpAnyH_take (i := 10) (oi := _) (v := ?v14) rfl (by kernel_rfl) (by kernel_rfl) (by kernel_rfl) (fun _ _ _ h => h) (Or.inl ⟨by rfl, ?hy14⟩) (by assumption) ?rest14
    case hy14 => ((intro w hSw; (try dsimp only at hSw); go_simp) <;> with_reducible rfl)
    case' rest14 => try simp only [List.getElem_toArray, List.getElem_cons_zero, List.getElem_cons_succ, Act.put, List.setIfInBounds_toArray, List.set_cons_zero, List.set_cons_succ]
    refine wpAnyH_done (by kernel_rfl) ?_ _
    have hEnd := hHeld.2
    repeat (clear hHeld)
    go_wp2_with fail
    go_ret
    exact ⟨fun h => absurd h h0, fun _ => ⟨w.heap.size, Nat.le_refl _, rfl, HB2.out, hs.out.below hEnd hs.out.lt, ho.trans (Only.of_below (F := fun k => k = p) hEnd) (fun _ _ h => h)⟩⟩
theorem seg_abort0 (code : Nat) (w : World) : Calls Try.prog 19 #[.pointer none, .int .u32 (code : Nat)] w fun e w' => e = .returned (.slice none 0 0) ∧ w = w' := by
  go_enter Try.func19, Try.ntmps19
  go_wp2_with fail
  refine (seg_busy0 _).mono ?_
  rintro e w1 ⟨rfl, rfl⟩
  go_wp2_with fail
  go_ret
  exact ⟨rfl, rfl⟩
theorem seg_drop (p pd : Nat) (S : SegS) (A : Option Addr) (n c : Nat) (w : World) (hB : Blk w p 55 (srvV S pd A n c)) :
    Calls Try.prog 17 #[.pointer (some ⟨p, 0, none⟩)] w fun e w' => e = .returned (.tuple #[]) ∧ Blk w' p 55 (srvV (segIdle S) pd A n c) ∧ Only (fun k => k = p) w w' := by
  have hs : Hid (Blk (w.setCell ⟨p, 1, none⟩ (.int .i64 0)) p 55 (srvV (segIdle S) pd A n c)) := hide (hB.set_ 1 (.int .i64 0))
  have ho : Only (fun k => k = p) w (w.setCell ⟨p, 1, none⟩ (.int .i64 0)) := Only.of_set (F := fun k => k = p) rfl _
  have hz := hB.lt
  have c1 : w.cell? ⟨p, 1, none⟩ = some (.int .i64 S.st) := hB.cell 1 rfl
  have f1 := hB.frozen 1
  go_enter Try.func17, Try.ntmps17
  go_wp2_with fail
  go_end0
  exact ⟨rfl, hs.out, ho⟩
theorem seg_drop0 (w : World) : Calls Try.prog 17 #[.pointer none] w fun e w' => e = .returned (.tuple #[]) ∧ w = w' := by
  go_enter Try.func17, Try.ntmps17
  go_wp2_with fail
  go_end0
  exact ⟨rfl, rfl⟩
end Go.Proofs.Ytimdmhhgomfijaa
