/- Package seg: write, next. -/
import Derived.Test.YtimdmhhgomfijaaGreatSegB
import Derived.Test.YtimdmhhgomfijaaGreatHeldT
import Derived.Test.YtimdmhhgomfijaaGreatOwnF
import Derived.Test.YtimdmhhgomfijaaGreatDicW
namespace Go.Proofs.YtimdmhhgomfijaaGreat
set_option linter.unusedVariables false
set_option linter.unusedSimpArgs false
set_option linter.unnecessarySimpa false
open Go.RowKit
set_option maxRecDepth 100000
set_option maxHeartbeats 4000000
/-- a write that is told: what it leaves -/
def writeS (S : SegS) (M : Ms) : SegS := { S with st := 3, wk := M.kind, wi := M.ix, ws := M.sub, wt := M.tg }
theorem blk14 {w : World} {g : Nat} {t : TypeId} {v0 v1 v2 v3 v4 v5 v6 v7 v8 v9 v10 v11 v12 v13 : Value} (h : Blk w g t #[v0, v1, v2, v3, v4, v5, v6, v7, v8, v9, v10, v11, v12, v13]) : (w.cell? ⟨g, 0, none⟩ = some v0 ∧ w.cell? ⟨g, 1, none⟩ = some v1 ∧ w.cell? ⟨g, 2, none⟩ = some v2 ∧ w.cell? ⟨g, 3, none⟩ = some v3 ∧ w.cell? ⟨g, 4, none⟩ = some v4 ∧ w.cell? ⟨g, 5, none⟩ = some v5 ∧ w.cell? ⟨g, 6, none⟩ = some v6 ∧ w.cell? ⟨g, 7, none⟩ = some v7 ∧ w.cell? ⟨g, 8, none⟩ = some v8 ∧ w.cell? ⟨g, 9, none⟩ = some v9 ∧ w.cell? ⟨g, 10, none⟩ = some v10 ∧ w.cell? ⟨g, 11, none⟩ = some v11 ∧ w.cell? ⟨g, 12, none⟩ = some v12 ∧ w.cell? ⟨g, 13, none⟩ = some v13) ∧ True := ⟨⟨h.cell 0 rfl, h.cell 1 rfl, h.cell 2 rfl, h.cell 3 rfl, h.cell 4 rfl, h.cell 5 rfl, h.cell 6 rfl, h.cell 7 rfl, h.cell 8 rfl, h.cell 9 rfl, h.cell 10 rfl, h.cell 11 rfl, h.cell 12 rfl, h.cell 13 rfl⟩, trivial⟩
def WriteP (w : World) (p pd : Nat) (S' : SegS) (A : Option Addr) (n c : Nat) (A2 : Option Addr) (b : List UInt8) (W : World) : Prop :=
  Blk W p 86 (srvV S' pd A n c) ∧ Blk W (w.heap.size + 1) 70 (outV none 0 0 outZ none 0 0) ∧ Only (fun g => g = p) w W ∧ Sl W A2 (b.map bv)
theorem writeP_mk {w : World} {p pd : Nat} {S' : SegS} {A : Option Addr} {n c : Nat} {A2 : Option Addr} {b : List UInt8} {W : World} (h1 : Blk W p 86 (srvV S' pd A n c)) (h2 : Blk W (w.heap.size + 1) 70 (outV none 0 0 outZ none 0 0)) (h3 : Only (fun g => g = p) w W) (h4 : Sl W.drew A2 (b.map bv)) :
    WriteP w p pd S' A n c A2 b W.drew := ⟨h1, h2, h3.drew, h4⟩
theorem seg_write (p pd : Nat) (S : SegS) (A : Option Addr) (n c : Nat) (A2 : Option Addr) (m c2 : Nat) (b : List UInt8) (k ix sub : Int) (tg : Bool) (w : World) (hB : Blk w p 86 (srvV S pd A n c)) (hm : m = b.length) (hmb : m ≤ 35184372088832) (hb : ∀ W, Only (fun g => g = p) w W → Sl W A2 (b.map bv)) :
    Calls Tryz.prog 99 #[.pointer (some ⟨p, 0, none⟩), .slice A2 m c2, .agg (msV (okM k ix sub tg) none 0 0)] w fun e w' => ∃ A3 c3, e = .returned (.agg (outV none 0 0 ⟨[], true, S.ix, S.sub, b⟩ A3 m c3)) ∧ OwnB w' w.heap.size A3 m c3 b ∧ Blk w' p 86 (srvV (writeS S (okM k ix sub tg)) pd A n c) ∧ Only (fun k => k = p) w w' := by
  obtain ⟨S', hS'⟩ : ∃ S', S' = writeS S (okM k ix sub tg) := ⟨_, rfl⟩
  have hi' : S'.ix = S.ix ∧ S'.sub = S.sub := by rw [hS']; exact ⟨rfl, rfl⟩
  rw [← hS']
  have HS' := hide hS'
  have HM := hide hm
  clear hS' hm
  obtain ⟨k1, k2⟩ := blk_two w 72 70 (msV (okM k ix sub tg) none 0 0) (outV none 0 0 outZ none 0 0)
  have hbw := below_alloc (below_alloc (Below.refl w.heap.size w) (.cells (msV (okM k ix sub tg) none 0 0) 72)) (.cells (outV none 0 0 outZ none 0 0) 70)
  have q := hB.below hbw hB.lt
  have hz := hB.lt
  unfold msV okM outV outZ at k1 k2 hbw
  unfold msV okM
  have c0 := hB
  unfold srvV at c0
  obtain ⟨c0_c0, c0_c1, c0_c2, c0_c3, c0_c4, c0_c5, c0_c6, c0_c7, c0_c8, c0_c9, c0_c10, c0_c11, c0_c12, c0_c13, c0_c14, c0_c15, c0_c16, c0_c17, c0_c18, c0_c19, c0_c20, c0_c21⟩ := cel22 c0
  have c0_f := c0.frozen
  go_enter Tryz.func99, Tryz.ntmps99
  go_wp2_with fail
  have k1b := (blk_two (w.setCell ⟨p, 1, none⟩ (.int .i64 3)) 72 70 (msV (okM k ix sub tg) none 0 0) (outV none 0 0 outZ none 0 0)).1
  rw [show (w.setCell ⟨p, 1, none⟩ (.int .i64 3)).heap.size = w.heap.size by simp [World.setCell]] at k1b
  unfold msV okM outV outZ at k1b
  have hne : p ≠ w.heap.size := by omega
  have hne1 : p ≠ w.heap.size + 1 := by omega
  refine wp_region_T (fun w' => (w'.cell? ⟨w.heap.size, 0, none⟩ = some (.int .i64 k) ∧ w'.cell? ⟨w.heap.size, 1, none⟩ = some (.int .i64 ix) ∧ w'.cell? ⟨w.heap.size, 2, none⟩ = some (.int .i64 sub) ∧ w'.cell? ⟨w.heap.size, 3, none⟩ = some (.bool tg) ∧ w'.cell? ⟨w.heap.size, 4, none⟩ = some (.bool false) ∧ w'.cell? ⟨w.heap.size, 5, none⟩ = some (.bool false) ∧ w'.cell? ⟨w.heap.size, 6, none⟩ = some (.bool false) ∧ w'.cell? ⟨w.heap.size, 7, none⟩ = some (.int .u32 0) ∧ w'.cell? ⟨w.heap.size, 8, none⟩ = some (.int .u32 0) ∧ w'.cell? ⟨w.heap.size, 9, none⟩ = some (.slice none 0 0) ∧ w'.cell? ⟨w.heap.size, 10, none⟩ = some (.int .i64 0) ∧ w'.cell? ⟨w.heap.size, 11, none⟩ = some (.int .i64 0) ∧ w'.cell? ⟨w.heap.size, 12, none⟩ = some (.int .i64 0) ∧ w'.cell? ⟨w.heap.size, 13, none⟩ = some (.int .u16 0)) ∧ True) [0, 1, 2, 3, 4, 6, 7] (by kernel_rfl) ?hS1 (fun hHeld => ?rest1)
  case hS1 => ((try dsimp only); exact blk14 k1)
  case' rest1 => skip
  refine wpAnyT_take (by kernel_rfl) (by kernel_rfl) (i := 0) (oi := _) (v := ?v2) rfl (by kernel_rfl) (by kernel_rfl) (by kernel_rfl) (fun _ _ _ h => h) (Or.inl ⟨by rfl, ?hy2⟩) (by assumption) ?rest2
  case hy2 => ((intro w hSw; (try dsimp only at hSw); go_simp) <;> with_reducible rfl)
  case' rest2 => try simp only [List.getElem_toArray, List.getElem_cons_zero, List.getElem_cons_succ, Act.put, List.setIfInBounds_toArray, List.set_cons_zero, List.set_cons_succ]
  refine wpAnyT_take (by kernel_rfl) (by kernel_rfl) (i := 1) (oi := _) (v := ?v3) rfl (by kernel_rfl) (by kernel_rfl) (by kernel_rfl) (fun _ _ _ h => h) (Or.inl ⟨by rfl, ?hy3⟩) (by assumption) ?rest3
  case hy3 => ((intro w hSw; (try dsimp only at hSw); go_simp) <;> with_reducible rfl)
  case' rest3 => try simp only [List.getElem_toArray, List.getElem_cons_zero, List.getElem_cons_succ, Act.put, List.setIfInBounds_toArray, List.set_cons_zero, List.set_cons_succ]
  refine wpAnyT_take (by kernel_rfl) (by kernel_rfl) (i := 2) (oi := _) (v := ?v4) rfl (by kernel_rfl) (by kernel_rfl) (by kernel_rfl) (fun _ _ _ h => h) (Or.inl ⟨by rfl, ?hy4⟩) (by assumption) ?rest4
  case hy4 => ((intro w hSw; (try dsimp only at hSw); go_simp) <;> with_reducible rfl)
  case' rest4 => try simp only [List.getElem_toArray, List.getElem_cons_zero, List.getElem_cons_succ, Act.put, List.setIfInBounds_toArray, List.set_cons_zero, List.set_cons_succ]
  refine wpAnyT_take (by kernel_rfl) (by kernel_rfl) (i := 3) (oi := _) (v := ?v5) rfl (by kernel_rfl) (by kernel_rfl) (by kernel_rfl) (fun _ _ _ h => h) (Or.inl ⟨by rfl, ?hy5⟩) (by assumption) ?rest5
  case hy5 => ((intro w hSw; (try dsimp only at hSw); go_simp) <;> with_reducible rfl)
  case' rest5 => try simp only [List.getElem_toArray, List.getElem_cons_zero, List.getElem_cons_succ, Act.put, List.setIfInBounds_toArray, List.set_cons_zero, List.set_cons_succ]
  refine wpAnyT_take (by kernel_rfl) (by kernel_rfl) (i := 4) (oi := _) (v := ?v6) rfl (by kernel_rfl) (by kernel_rfl) (by kernel_rfl) (fun _ _ _ h => h) (Or.inl ⟨by rfl, ?hy6⟩) (by assumption) ?rest6
  case hy6 => ((intro w hSw; (try dsimp only at hSw); go_simp) <;> with_reducible rfl)
  case' rest6 => try simp only [List.getElem_toArray, List.getElem_cons_zero, List.getElem_cons_succ, Act.put, List.setIfInBounds_toArray, List.set_cons_zero, List.set_cons_succ]
  refine wpAnyT_one (i := 5) (o := _) rfl (by kernel_rfl) (fun K hK => ?_)
  go_simp
  refine hK.out _ _ ?hS8 (fun hHeld => ?rest8)
  case hS8 => ((try dsimp only); (exact blk14 k1b))
  case' rest8 => (clear hK K; try simp only [List.getElem_toArray, List.getElem_cons_zero, List.getElem_cons_succ, Act.put, List.setIfInBounds_toArray, List.set_cons_zero, List.set_cons_succ])
  refine wpAnyT_take (by kernel_rfl) (by kernel_rfl) (i := 6) (oi := _) (v := ?v9) rfl (by kernel_rfl) (by kernel_rfl) (by kernel_rfl) (fun _ _ _ h => h) (Or.inl ⟨by rfl, ?hy9⟩) (by assumption) ?rest9
  case hy9 => ((intro w hSw; (try dsimp only at hSw); go_simp) <;> with_reducible rfl)
  case' rest9 => try simp only [List.getElem_toArray, List.getElem_cons_zero, List.getElem_cons_succ, Act.put, List.setIfInBounds_toArray, List.set_cons_zero, List.set_cons_succ]
  refine wpAnyT_take (by kernel_rfl) (by kernel_rfl) (i := 7) (oi := _) (v := ?v10) rfl (by kernel_rfl) (by kernel_rfl) (by kernel_rfl) (fun _ _ _ h => h) (Or.inl ⟨by rfl, ?hy10⟩) (by assumption) ?rest10
  case hy10 => ((intro w hSw; (try dsimp only at hSw); go_simp) <;> with_reducible rfl)
  case' rest10 => try simp only [List.getElem_toArray, List.getElem_cons_zero, List.getElem_cons_succ, Act.put, List.setIfInBounds_toArray, List.set_cons_zero, List.set_cons_succ]
  refine wpAnyT_late (i := 8) (o := _) rfl (by kernel_rfl) (by kernel_rfl) (fun K hK => ?_)
  go_simp
  refine hK.out _ _ ?rest12
  case' rest12 => (clear hK K; try simp only [List.getElem_toArray, List.getElem_cons_zero, List.getElem_cons_succ, Act.put, List.setIfInBounds_toArray, List.set_cons_zero, List.set_cons_succ])
  refine wpAnyT_done (by kernel_rfl) ?_ _
  repeat (clear hHeld)
  have hw1 : Blk (w.setCell ⟨p, 1, none⟩ (.int .i64 3)) p 86 (srvV { S with st := 3 } pd A n c) := hB.set_ 1 (.int .i64 3)
  have hS1 := blk_sets (msV (okM k ix sub tg) none 0 0).toList 8 (l := (srvV { S with st := 3 } pd A n c).toList) hw1 (by simp [srvV, msV])
  have hO1 : Only (fun g => g = p) w ((w.setCell ⟨p, 1, none⟩ (.int .i64 3)).setCells p 8 (msV (okM k ix sub tg) none 0 0).toList) := only_sets (F := fun g => g = p) rfl _ _ (Only.set (fun g => g = p) (Only.refl _ _) rfl _)
  obtain ⟨k3, k4⟩ := blk_two ((w.setCell ⟨p, 1, none⟩ (.int .i64 3)).setCells p 8 (msV (okM k ix sub tg) none 0 0).toList) 72 70 (msV (okM k ix sub tg) none 0 0) (outV none 0 0 outZ none 0 0)
  rw [size_sets] at k4
  rw [show (w.setCell ⟨p, 1, none⟩ (.int .i64 3)).heap.size = w.heap.size by simp [World.setCell]] at k4
  have hS2 := (hS1.alloc (.cells (msV (okM k ix sub tg) none 0 0) 72)).alloc (.cells (outV none 0 0 outZ none 0 0) 70)
  have hO2 := (hO1.new (.cells (msV (okM k ix sub tg) none 0 0) 72)).new (.cells (outV none 0 0 outZ none 0 0) 70)
  have hX2 := hb _ hO2.drew
  have e1 : ((srvV { S with st := 3 } pd A n c).toList.take 8 ++ (msV (okM k ix sub tg) none 0 0).toList ++ (srvV { S with st := 3 } pd A n c).toList.drop (8 + (msV (okM k ix sub tg) none 0 0).toList.length)).toArray = srvV (writeS S (okM k ix sub tg)) pd A n c := rfl
  rw [e1] at hS2
  rw [← HS'.out] at hS2
  have HP := hide (writeP_mk (S' := S') (A := A) (n := n) (c := c) (pd := pd) hS2 k4 hO2 hX2)
  clear hS1 hO1 hS2 k4 hO2 hX2 k1 k2 k1b k3 q hb hbw hB hw1 e1 HS'
  clear c0_c0 c0_c1 c0_c2 c0_c3 c0_c4 c0_c5 c0_c6 c0_c7 c0_c8 c0_c9 c0_c10 c0_c11 c0_c12 c0_c13 c0_c14 c0_c15 c0_c16 c0_c17 c0_c18 c0_c19 c0_c20 c0_c21 c0_f
  clear c0
  simp only [msV, okM, outV, outZ, World.setCells, Nat.reduceAdd] at HP
  go_wp2_with fail
  refine wp_gen (P := WriteP w p pd S' A n c A2 b) HP.out (fun W hW => ?_)
  obtain ⟨hS2, k4, hO2, hX2⟩ := hW
  have HS2 := hide hS2
  have HK4 := hide k4
  have HO2 := hide hO2
  have HX2 := hide hX2
  have d2 : W.cell? ⟨p, 2, none⟩ = some (.int .i64 S.ix) := by rw [← hi'.1]; exact hS2.cell 2 rfl
  have d3 : W.cell? ⟨p, 3, none⟩ = some (.int .i64 S.sub) := by rw [← hi'.2]; exact hS2.cell 3 rfl
  clear hS2 hX2
  refine wp_region_T (fun w' => w'.cell? ⟨p, 2, none⟩ = some (.int .i64 S.ix) ∧ w'.cell? ⟨p, 3, none⟩ = some (.int .i64 S.sub)) [0, 1, 2, 3, 4, 5, 6, 7, 8, 10, 11] (by kernel_rfl) ?hS14 (fun hHeld => ?rest14)
  case hS14 => ((try dsimp only); exact ⟨d2, d3⟩)
  case' rest14 => skip
  refine wpAnyT_take (by kernel_rfl) (by kernel_rfl) (i := 0) (oi := _) (v := ?v15) rfl (by kernel_rfl) (by kernel_rfl) (by kernel_rfl) (fun _ _ _ h => h) (Or.inl ⟨by rfl, ?hy15⟩) (by assumption) ?rest15
  case hy15 => ((intro w hSw; (try dsimp only at hSw); go_simp) <;> with_reducible rfl)
  case' rest15 => try simp only [List.getElem_toArray, List.getElem_cons_zero, List.getElem_cons_succ, Act.put, List.setIfInBounds_toArray, List.set_cons_zero, List.set_cons_succ]
  refine wpAnyT_take (by kernel_rfl) (by kernel_rfl) (i := 1) (oi := _) (v := ?v16) rfl (by kernel_rfl) (by kernel_rfl) (by kernel_rfl) (fun _ _ _ h => h) (Or.inl ⟨by rfl, ?hy16⟩) (by assumption) ?rest16
  case hy16 => ((intro w hSw; (try dsimp only at hSw); go_simp) <;> with_reducible rfl)
  case' rest16 => try simp only [List.getElem_toArray, List.getElem_cons_zero, List.getElem_cons_succ, Act.put, List.setIfInBounds_toArray, List.set_cons_zero, List.set_cons_succ]
  refine wpAnyT_take (by kernel_rfl) (by kernel_rfl) (i := 2) (oi := _) (v := ?v17) rfl (by kernel_rfl) (by kernel_rfl) (by kernel_rfl) (fun _ _ _ h => h) (Or.inl ⟨by rfl, ?hy17⟩) (by assumption) ?rest17
  case hy17 => ((intro w hSw; (try dsimp only at hSw); go_simp) <;> with_reducible rfl)
  case' rest17 => try simp only [List.getElem_toArray, List.getElem_cons_zero, List.getElem_cons_succ, Act.put, List.setIfInBounds_toArray, List.set_cons_zero, List.set_cons_succ]
  refine wpAnyT_take (by kernel_rfl) (by kernel_rfl) (i := 3) (oi := _) (v := ?v18) rfl (by kernel_rfl) (by kernel_rfl) (by kernel_rfl) (fun _ _ _ h => h) (Or.inl ⟨by rfl, ?hy18⟩) (by assumption) ?rest18
  case hy18 => ((intro w hSw; (try dsimp only at hSw); go_simp) <;> with_reducible rfl)
  case' rest18 => try simp only [List.getElem_toArray, List.getElem_cons_zero, List.getElem_cons_succ, Act.put, List.setIfInBounds_toArray, List.set_cons_zero, List.set_cons_succ]
  refine wpAnyT_take (by kernel_rfl) (by kernel_rfl) (i := 4) (oi := _) (v := ?v19) rfl (by kernel_rfl) (by kernel_rfl) (by kernel_rfl) (fun _ _ _ h => h) (Or.inl ⟨by rfl, ?hy19⟩) (by assumption) ?rest19
  case hy19 => ((intro w hSw; (try dsimp only at hSw); go_simp) <;> with_reducible rfl)
  case' rest19 => try simp only [List.getElem_toArray, List.getElem_cons_zero, List.getElem_cons_succ, Act.put, List.setIfInBounds_toArray, List.set_cons_zero, List.set_cons_succ]
  refine wpAnyT_take (by kernel_rfl) (by kernel_rfl) (i := 5) (oi := _) (v := ?v20) rfl (by kernel_rfl) (by kernel_rfl) (by kernel_rfl) (fun _ _ _ h => h) (Or.inl ⟨by rfl, ?hy20⟩) (by assumption) ?rest20
  case hy20 => ((intro w hSw; (try dsimp only at hSw); go_simp) <;> with_reducible rfl)
  case' rest20 => try simp only [List.getElem_toArray, List.getElem_cons_zero, List.getElem_cons_succ, Act.put, List.setIfInBounds_toArray, List.set_cons_zero, List.set_cons_succ]
  refine wpAnyT_take (by kernel_rfl) (by kernel_rfl) (i := 6) (oi := _) (v := ?v21) rfl (by kernel_rfl) (by kernel_rfl) (by kernel_rfl) (fun _ _ _ h => h) (Or.inl ⟨by rfl, ?hy21⟩) (by assumption) ?rest21
  case hy21 => ((intro w hSw; (try dsimp only at hSw); go_simp) <;> with_reducible rfl)
  case' rest21 => try simp only [List.getElem_toArray, List.getElem_cons_zero, List.getElem_cons_succ, Act.put, List.setIfInBounds_toArray, List.set_cons_zero, List.set_cons_succ]
  refine wpAnyT_take (by kernel_rfl) (by kernel_rfl) (i := 7) (oi := _) (v := ?v22) rfl (by kernel_rfl) (by kernel_rfl) (by kernel_rfl) (fun _ _ _ h => h) (Or.inl ⟨by rfl, ?hy22⟩) (by assumption) ?rest22
  case hy22 => ((intro w hSw; (try dsimp only at hSw); go_simp) <;> with_reducible rfl)
  case' rest22 => try simp only [List.getElem_toArray, List.getElem_cons_zero, List.getElem_cons_succ, Act.put, List.setIfInBounds_toArray, List.set_cons_zero, List.set_cons_succ]
  refine wpAnyT_take (by kernel_rfl) (by kernel_rfl) (i := 8) (oi := _) (v := ?v23) rfl (by kernel_rfl) (by kernel_rfl) (by kernel_rfl) (fun _ _ _ h => h) (Or.inl ⟨by rfl, ?hy23⟩) (by assumption) ?rest23
  case hy23 => ((intro w hSw; (try dsimp only at hSw); go_simp) <;> with_reducible rfl)
  case' rest23 => try simp only [List.getElem_toArray, List.getElem_cons_zero, List.getElem_cons_succ, Act.put, List.setIfInBounds_toArray, List.set_cons_zero, List.set_cons_succ]
  refine wpAnyT_one (i := 9) (o := _) rfl (by kernel_rfl) (fun K hK => ?_)
  rw [if_pos (show Region.wanted _ _ = true by kernel_rfl)]
  refine wp_app_b _ _ rfl W.heap.size none 0 0 [] rfl (OwnB.nil _ _) A2 m c2 b rfl HM.out HX2.out (by omega) (Nat.le_refl _) m (by omega) ?_
  intro A3 c3 w3 hO3 hb3
  replace hb3 := below_undrew hb3
  have HS3 := hide (HS2.out.below hb3 HS2.out.lt)
  have hk3 : Blk w3 (w.heap.size + 1) 70 (outV none 0 0 outZ none 0 0) := HK4.out.below hb3 HK4.out.lt
  have HK3 := hide hk3
  have HO3 := hide hO3
  have zz : w.heap.size + 1 < W.heap.size := HK4.out.lt
  have HOn := hide (HO2.out.step (c := w3) hb3)
  have g2 := (hb3.cell (p := ⟨p, 2, none⟩) HS2.out.lt).trans d2
  have g3 := (hb3.cell (p := ⟨p, 3, none⟩) HS2.out.lt).trans d3
  clear hO3 hO2 k4
  refine hK.out _ _ ?hS25 (fun hHeld => ?rest25)
  case hS25 => ((try dsimp only); (exact ⟨g2, g3⟩))
  case' rest25 => (clear hK K; try simp only [List.getElem_toArray, List.getElem_cons_zero, List.getElem_cons_succ, Act.put, List.setIfInBounds_toArray, List.set_cons_zero, List.set_cons_succ])
  unfold outV outZ at hk3
  obtain ⟨hk3_c0, hk3_c1, hk3_c2, hk3_c3, hk3_c4⟩ := cel5 hk3
  have hk3_f := hk3.frozen
  refine wpAnyT_take (by kernel_rfl) (by kernel_rfl) (i := 10) (oi := _) (v := ?v26) rfl (by kernel_rfl) (by kernel_rfl) (by kernel_rfl) (fun _ _ _ h => h) (Or.inl ⟨by rfl, ?hy26⟩) (by assumption) ?rest26
  case hy26 => ((intro w hSw; (try dsimp only at hSw); go_simp) <;> with_reducible rfl)
  case' rest26 => try simp only [List.getElem_toArray, List.getElem_cons_zero, List.getElem_cons_succ, Act.put, List.setIfInBounds_toArray, List.set_cons_zero, List.set_cons_succ]
  refine wpAnyT_take (by kernel_rfl) (by kernel_rfl) (i := 11) (oi := _) (v := ?v27) rfl (by kernel_rfl) (by kernel_rfl) (by kernel_rfl) (fun _ _ _ h => h) (Or.inl ⟨by rfl, ?hy27⟩) (by assumption) ?rest27
  case hy27 => ((intro w hSw; (try dsimp only at hSw); go_simp) <;> with_reducible rfl)
  case' rest27 => try simp only [List.getElem_toArray, List.getElem_cons_zero, List.getElem_cons_succ, Act.put, List.setIfInBounds_toArray, List.set_cons_zero, List.set_cons_succ]
  refine wpAnyT_late (i := 12) (o := _) rfl (by kernel_rfl) (by kernel_rfl) (fun K hK => ?_)
  go_simp
  refine hK.out _ _ ?rest29
  case' rest29 => (clear hK K; try simp only [List.getElem_toArray, List.getElem_cons_zero, List.getElem_cons_succ, Act.put, List.setIfInBounds_toArray, List.set_cons_zero, List.set_cons_succ])
  refine wpAnyT_done (by kernel_rfl) ?_ _
  repeat (clear hHeld)
  go_wp2_with fail
  have F1 := putO_blk (As' := none) (ns' := 0) (cs' := 0) (O' := ⟨[], true, S.ix, S.sub, b⟩) (A' := A3) (n' := m) (c' := c3) HK3.out
  have F2 := putO_own HO3.out zz none 0 0 ⟨[], true, S.ix, S.sub, b⟩ A3 m c3
  have F3 := putO_far HS3.out hne1 none 0 0 ⟨[], true, S.ix, S.sub, b⟩ A3 m c3
  have F4 := putO_only HOn.out (show w.heap.size ≤ w.heap.size + 1 by omega) none 0 0 ⟨[], true, S.ix, S.sub, b⟩ A3 m c3
  unfold putO at F1 F2 F3 F4
  refine ret_out (O := ⟨[], true, S.ix, S.sub, b⟩) (As := none) (ns := 0) (cs := 0) (A := A3) (n := m) (c := c3) rfl rfl rfl F1 ?_
  exact ⟨A3, c3, rfl, F2.mono (by omega), F3, F4⟩
end Go.Proofs.YtimdmhhgomfijaaGreat
