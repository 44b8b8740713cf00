/- Package flash: Of, New. -/
import Derived.Test.YtehabbnohoomjaaGreatDoorNv20
import Derived.Test.YtehabbnohoomjaaGreatDoorNv18
import Derived.Test.YtehabbnohoomjaaGreatDoorNv26
import Derived.Test.YtehabbnohoomjaaGreatDoorNv48
import Derived.Test.YtehabbnohoomjaaGreatDoorNv47
namespace Go.Proofs.YtehabbnohoomjaaGreatDoor
section
set_option linter.unusedVariables false
set_option linter.unusedSimpArgs false
set_option linter.unnecessarySimpa false
open Go.RowKit
set_option maxRecDepth 20000
set_option maxHeartbeats 4000000

theorem infoI : (Tryz.prog.info? 3).map (fun i => (i.zero, i.size, i.bytes)) = some (some (.int .i64 0), 1, 8) := by kernel_rfl
theorem wp_mk_i {o : Oper} {a : Act} {K : Act → World → Prop} {Q : Exit → Act → World → Prop} {w : World} (l cc : Operand) (ho : o.op = Op.makeSlice 72 l cc) (kl kc : IntKind) (n : Nat) (hl : a.eval l = .int kl (n : Nat)) (hc : a.eval cc = .int kc (n : Nat)) (hb : n ≤ 100000)
    (h : ∀ w', Own w' w.heap.size 3 1 (some ⟨w.heap.size, 0, none⟩) n n ((List.replicate n 0).map iv) → Below w.heap.size w w' → K (a.put o.dst (.slice (some ⟨w.heap.size, 0, none⟩) n n)) w') : Oper.wp Tryz.prog o a w K Q := by
  obtain ⟨i, hi, hz, hsize, hby⟩ := info_parts infoI
  have hr := run_make (P := Tryz.prog) w 72 3 i (.int .i64 0) Tryz.underlying72 hi hz kl kc n n (by omega) (by omega) (by rw [hby]; omega) (by omega)
  simp only [Int.toNat_natCast, hsize, Nat.mul_one] at hr
  unfold Oper.wp execOp
  simp only [ho, hl, hc, hr, Sem.run_bind, Result.andThen_ok]
  have hmc : (madeCells (Value.int .i64 0).cells n) = (List.replicate n (Value.int .i64 0)).toArray := by
    apply Array.ext'
    simp [madeCells, Value.cells]
    apply List.ext_getElem
    · simp
    · intro k h1 h2
      simp [Nat.mod_one]
  refine h _ ⟨by simp, .inr ⟨w.heap.size, n, _, rfl, Nat.le_refl _, heap_alloc_new w _, Nat.le_refl _, by unfold maxLen; omega, by simp [size_madeCells, Value.cells], ?_⟩⟩ (Below.alloc (Below.refl _ _) (Nat.le_refl _) _)
  rw [hmc]
  simp [iv]
theorem wp_app_new {o : Oper} {a : Act} {K : Act → World → Prop} {Q : Exit → Act → World → Prop} {w : World} (s x : Operand) (ho : o.op = .call { callee := .builtin .append, args := #[s, x], argTypes := #[23, 23] })
    (hs : a.eval s = .slice none 0 0) (A2 : Option Addr) (m c2 : Nat) (l2 : List UInt8) (hx : a.eval x = .slice A2 m c2) (hm : m = l2.length) (hm0 : 0 < m) (hr : Sl w A2 (l2.map bv)) (hb : m ≤ 140737488355328)
    (h : ∀ g c' w', OwnB w' w.heap.size (some ⟨g, 0, none⟩) m c' l2 → w.heap.size ≤ g → Below w.heap.size w w' → K (a.put o.dst (.slice (some ⟨g, 0, none⟩) m c')) w') : Oper.wp Tryz.prog o a w K Q := by
  obtain ⟨i0, hi0, hz0, hz1, hz2⟩ := info_parts infoU8
  obtain ⟨A', c', w', hr', h2, h3, h4⟩ := run_app (P := Tryz.prog) w w.heap.size 23 o.type 5 i0 _ 1 1 Tryz.underlying23 hi0 hz0 hz1 hz2 rfl (by omega) none 0 0 _ (OwnB.nil _ _).own A2 m c2 (l2.map bv) (by simp [hm]) hr (bv_one _) (by unfold maxLen; omega) (by omega) (Nat.le_refl _)
  rw [Nat.zero_add] at hr' h2
  unfold Oper.wp execOp
  simp only [ho, resolve, invoke, builtin, Sem.run_bind, Sem.run_pure, Result.andThen_ok, List.map_toArray, List.map_cons, List.map_nil, hs, hx, hr']
  obtain ⟨g, rfl, hg1, hg2⟩ := h2.at_ hm0
  exact h g c' w' ⟨hm, h2⟩ hg1 (below_grown (OwnB.nil w w.heap.size).own (Nat.le_refl _) h3)
def ofF (l : List UInt8) (n : Nat) (m : Int) : FS := ⟨l, List.replicate n 0, m, false, -1, 0, 0⟩
/-- a new flash -/
def FNewR (S : FS) (w : World) (e : Ending) (w' : World) : Prop := ∃ q : FP, e = .returned (.pointer (some ⟨q.p, 0, none⟩)) ∧ FD w' q S ∧ (∀ g, q.F g → w.heap.size ≤ g) ∧ Below w.heap.size w w'
theorem ofF_fit {l : List UInt8} {n : Nat} {m : Int} (hl : l.length = 1024 * n) (h1 : 1 ≤ n) (h8 : n ≤ 8) (hm : 1 ≤ m) (hm2 : m ≤ 9223372036854775807) : FitF (ofF l n m) := by
  refine ⟨by simp [ofF, hl], by simp [ofF, h1], by simp [ofF, h8], by show (0 : Nat) < _; decide, by simp [ofF], by simp [ofF], by simp only [ofF]; omega, by simp only [ofF]; omega, ?_⟩
  intro x hx
  simp only [ofF, List.mem_replicate] at hx
  simp only [ofF]
  omega
theorem mkF {w : World} {g gw cb cw k : Nat} {l : List UInt8} {m : Int} (hb : Own w 0 5 1 (some ⟨g, 0, none⟩) l.length cb (l.map bv)) (hw : Own w 0 3 1 (some ⟨gw, 0, none⟩) k cw ((List.replicate k 0).map iv)) (hf : FitF (ofF l k m)) :
    FD (w.alloc (.cells #[.slice (some ⟨g, 0, none⟩) l.length cb, .slice (some ⟨gw, 0, none⟩) k cw, .int .i64 m, .bool false, .int .i64 (-1), .int .u32 0, .int .i64 0] 117)) ⟨w.heap.size, g, gw, cb, cw⟩ (ofF l k m) := by
  have h1 := blk_one w 117 #[.slice (some ⟨g, 0, none⟩) l.length cb, .slice (some ⟨gw, 0, none⟩) k cw, .int .i64 m, .bool false, .int .i64 (-1), .int .u32 0, .int .i64 0]
  refine ⟨?_, hb.alloc _, ?_, hf⟩
  · have e : (flC ⟨w.heap.size, g, gw, cb, cw⟩ (ofF l k m)).toArray = #[.slice (some ⟨g, 0, none⟩) l.length cb, .slice (some ⟨gw, 0, none⟩) k cw, .int .i64 m, .bool false, .int .i64 (-1), .int .u32 0, .int .i64 0] := by simp [flC, ofF]
    rw [e]
    exact h1
  · have := hw.alloc (.cells #[.slice (some ⟨g, 0, none⟩) l.length cb, .slice (some ⟨gw, 0, none⟩) k cw, .int .i64 m, .bool false, .int .i64 (-1), .int .u32 0, .int .i64 0] 117)
    simp only [ofF, List.length_replicate]
    exact this
theorem fl_Of (A : Option Addr) (n c : Nat) (l : List UInt8) (k : Nat) (m : Int) (w : World) (hn : n = l.length) (hk : n = 1024 * k) (h1 : 1 ≤ k) (h8 : k ≤ 8) (hm : 1 ≤ m) (hm2 : m ≤ 9223372036854775807) (hs : Sl w A (l.map bv)) :
    Calls Tryz.prog 38 #[.slice A n c, .int .i64 m] w (FNewR (ofF l k m) w) := by
  have HN := hide hn
  have HS := hide hs
  have HK := hide hk
  have e1 : ((n : Int) / 1024) = ((k : Nat) : Int) := by omega
  have e2 : IntKind.i64.wrap ((k : Int) * 1024) = ((n : Nat) : Int) := by rw [IntKind.wrap_i64]; omega
  have e3 : ((k : Int) * 1024) = ((n : Nat) : Int) := by omega
  have e4 : IntKind.i64.wrap ((n : Int) / 1024) = ((k : Nat) : Int) := by rw [IntKind.wrap_i64]; omega
  have hf := ofF_fit (l := l) (m := m) (by omega) h1 h8 hm hm2
  have HF := hide hf
  have hn0 : 0 < n := by omega
  have hnb : n ≤ 8192 := by omega
  clear hn hs hk hf
  go_enter Tryz.func38, Tryz.ntmps38
  go_wp2_with fail
  refine wp_region_held_drew (S := (fun w' => Below w.heap.size w w')) (by kernel_rfl) ?hS1 (fun hHeld => ?rest1)
  case hS1 => ((try dsimp only); (exact below_drew1 (Below.refl _ _)))
  case' rest1 => skip
  refine wpAnyH_take (i := 0) (oi := _) (v := ?v2) rfl (by kernel_rfl) (by kernel_rfl) (by kernel_rfl) (fun _ _ _ h => h) (Or.inl ⟨by rfl, ?hy2⟩) (by assumption) ?rest2
  case hy2 => ((intro w hSw; (try dsimp only at hSw); go_simp) <;> with_reducible rfl)
  case' rest2 => try simp only [List.getElem_toArray, List.getElem_cons_zero, List.getElem_cons_succ, Act.put, List.setIfInBounds_toArray, List.set_cons_zero, List.set_cons_succ]
  refine wpAnyH_take (i := 2) (oi := _) (v := ?v3) rfl (by kernel_rfl) (by kernel_rfl) (by kernel_rfl) (fun _ _ _ h => h) (Or.inl ⟨by rfl, ?hy3⟩) (by assumption) ?rest3
  case hy3 => ((intro w hSw; (try dsimp only at hSw); go_simp) <;> with_reducible rfl)
  case' rest3 => try simp only [List.getElem_toArray, List.getElem_cons_zero, List.getElem_cons_succ, Act.put, List.setIfInBounds_toArray, List.set_cons_zero, List.set_cons_succ]
  refine wpAnyH_take (i := 4) (oi := _) (v := ?v4) rfl (by kernel_rfl) (by kernel_rfl) (by kernel_rfl) (fun _ _ _ h => h) (Or.inl ⟨by rfl, ?hy4⟩) (by assumption) ?rest4
  case hy4 => ((intro w hSw; (try dsimp only at hSw); go_simp) <;> with_reducible rfl)
  case' rest4 => try simp only [List.getElem_toArray, List.getElem_cons_zero, List.getElem_cons_succ, Act.put, List.setIfInBounds_toArray, List.set_cons_zero, List.set_cons_succ]
  refine wpAnyH_ready (rs := [1, 3]) (by kernel_rfl) (by simp) (AllReadyH.cons (o := _) rfl (fun K hK => ?_) (AllReadyH.cons (o := _) rfl (fun K hK => ?_) AllReadyH.nil))
  · rw [if_pos (show Region.wanted _ _ = true by kernel_rfl)]
    refine wp_app_new _ _ rfl (by rfl) A n c l (by rfl) HN.out hn0 HS.out.drew (by omega) ?_
    intro g c' w1 hO1 hg1 hb1
    have hbw1 : Below w.heap.size w w1 := ⟨hb1.os, hb1.tape, hb1.output, hb1.size, hb1.block⟩
    refine hK.out _ _ ?hS6 (fun hHeld => ?rest6)
    case hS6 => ((try dsimp only); (exact hbw1))
    case' rest6 => (clear hK K; try simp only [List.getElem_toArray, List.getElem_cons_zero, List.getElem_cons_succ, Act.put, List.setIfInBounds_toArray, List.set_cons_zero, List.set_cons_succ])
    refine wpAnyH_ready (rs := [3]) (by kernel_rfl) (by simp) ?_
    refine AllReadyH.cons (o := _) rfl (fun K hK => ?_) AllReadyH.nil
    rw [if_pos (show Region.wanted _ _ = true by kernel_rfl)]
    refine wp_mk_i _ _ rfl .i64 .i64 k (by rfl) (by rfl) (by omega) ?_
    intro w2 hO2 hb2
    have hbw2 := below_step hb2 hbw1
    refine hK.out _ _ ?hS9 (fun hHeld => ?rest9)
    case hS9 => ((try dsimp only); (exact hbw2))
    case' rest9 => (clear hK K; try simp only [List.getElem_toArray, List.getElem_cons_zero, List.getElem_cons_succ, Act.put, List.setIfInBounds_toArray, List.set_cons_zero, List.set_cons_succ])
    refine wpAnyH_take (i := 5) (oi := _) (v := ?v10) rfl (by kernel_rfl) (by kernel_rfl) (by kernel_rfl) (fun _ _ _ h => h) (Or.inl ⟨by rfl, ?hy10⟩) (by assumption) ?rest10
    case hy10 => ((intro w hSw; (try dsimp only at hSw); go_simp) <;> with_reducible rfl)
    case' rest10 => try simp only [List.getElem_toArray, List.getElem_cons_zero, List.getElem_cons_succ, Act.put, List.setIfInBounds_toArray, List.set_cons_zero, List.set_cons_succ]
    refine wpAnyH_ready (rs := [6]) (by kernel_rfl) (by simp) ?_
    refine AllReadyH.cons (o := _) rfl (fun K hK => ?_) AllReadyH.nil
    go_simp
    refine hK.out _ _ ?hS13 (fun hHeld => ?rest13)
    case hS13 => ((try dsimp only); (exact (below_alloc hbw2 _)))
    case' rest13 => (clear hK K; try simp only [List.getElem_toArray, List.getElem_cons_zero, List.getElem_cons_succ, Act.put, List.setIfInBounds_toArray, List.set_cons_zero, List.set_cons_succ])
    refine wpAnyH_take (i := 7) (oi := _) (v := ?v14) rfl (by kernel_rfl) (by kernel_rfl) (by kernel_rfl) (fun _ _ _ h => h) (Or.inl ⟨by rfl, ?hy14⟩) (by assumption) ?rest14
    case hy14 => ((intro w hSw; (try dsimp only at hSw); go_simp) <;> with_reducible rfl)
    case' rest14 => try simp only [List.getElem_toArray, List.getElem_cons_zero, List.getElem_cons_succ, Act.put, List.setIfInBounds_toArray, List.set_cons_zero, List.set_cons_succ]
    refine wpAnyH_done (by kernel_rfl) ?_ _
    have hEnd := hHeld.2
    repeat (clear hHeld)
    go_wp2_with fail
    go_ret
    have hn := HN.out
    subst hn
    refine ⟨⟨w2.heap.size, g, w1.heap.size, c', k⟩, rfl, mkF ((hO1.own.below hb2).mono (Nat.zero_le _)) (hO2.mono (Nat.zero_le _)) HF.out, ?_, below_alloc hbw2 _⟩
    rintro x (rfl | rfl | rfl)
    · exact hbw2.size
    · exact hg1
    · exact hbw1.size
  · rw [if_pos (show Region.wanted _ _ = true by kernel_rfl)]
    refine wp_mk_i _ _ rfl .i64 .i64 k (by rfl) (by rfl) (by omega) ?_
    intro w1 hO1 hb1
    have hbw1 : Below w.heap.size w w1 := ⟨hb1.os, hb1.tape, hb1.output, hb1.size, hb1.block⟩
    refine hK.out _ _ ?hS16 (fun hHeld => ?rest16)
    case hS16 => ((try dsimp only); (exact hbw1))
    case' rest16 => (clear hK K; try simp only [List.getElem_toArray, List.getElem_cons_zero, List.getElem_cons_succ, Act.put, List.setIfInBounds_toArray, List.set_cons_zero, List.set_cons_succ])
    refine wpAnyH_ready (rs := [1]) (by kernel_rfl) (by simp) ?_
    refine AllReadyH.cons (o := _) rfl (fun K hK => ?_) AllReadyH.nil
    rw [if_pos (show Region.wanted _ _ = true by kernel_rfl)]
    refine wp_app_new _ _ rfl (by rfl) A n c l (by rfl) HN.out hn0 (HS.out.below hbw1) (by omega) ?_
    intro g c' w2 hO2 hg2 hb2
    have hbw2 := below_step hb2 hbw1
    refine hK.out _ _ ?hS19 (fun hHeld => ?rest19)
    case hS19 => ((try dsimp only); (exact hbw2))
    case' rest19 => (clear hK K; try simp only [List.getElem_toArray, List.getElem_cons_zero, List.getElem_cons_succ, Act.put, List.setIfInBounds_toArray, List.set_cons_zero, List.set_cons_succ])
    refine wpAnyH_take (i := 5) (oi := _) (v := ?v20) rfl (by kernel_rfl) (by kernel_rfl) (by kernel_rfl) (fun _ _ _ h => h) (Or.inl ⟨by rfl, ?hy20⟩) (by assumption) ?rest20
    case hy20 => ((intro w hSw; (try dsimp only at hSw); go_simp) <;> with_reducible rfl)
    case' rest20 => try simp only [List.getElem_toArray, List.getElem_cons_zero, List.getElem_cons_succ, Act.put, List.setIfInBounds_toArray, List.set_cons_zero, List.set_cons_succ]
    refine wpAnyH_ready (rs := [6]) (by kernel_rfl) (by simp) ?_
    refine AllReadyH.cons (o := _) rfl (fun K hK => ?_) AllReadyH.nil
    go_simp
    refine hK.out _ _ ?hS23 (fun hHeld => ?rest23)
    case hS23 => ((try dsimp only); (exact (below_alloc hbw2 _)))
    case' rest23 => (clear hK K; try simp only [List.getElem_toArray, List.getElem_cons_zero, List.getElem_cons_succ, Act.put, List.setIfInBounds_toArray, List.set_cons_zero, List.set_cons_succ])
    refine wpAnyH_take (i := 7) (oi := _) (v := ?v24) rfl (by kernel_rfl) (by kernel_rfl) (by kernel_rfl) (fun _ _ _ h => h) (Or.inl ⟨by rfl, ?hy24⟩) (by assumption) ?rest24
    case hy24 => ((intro w hSw; (try dsimp only at hSw); go_simp) <;> with_reducible rfl)
    case' rest24 => try simp only [List.getElem_toArray, List.getElem_cons_zero, List.getElem_cons_succ, Act.put, List.setIfInBounds_toArray, List.set_cons_zero, List.set_cons_succ]
    refine wpAnyH_done (by kernel_rfl) ?_ _
    have hEnd := hHeld.2
    repeat (clear hHeld)
    go_wp2_with fail
    go_ret
    have hn := HN.out
    subst hn
    refine ⟨⟨w2.heap.size, g, w.heap.size, c', k⟩, rfl, mkF (hO2.own.mono (Nat.zero_le _)) ((hO1.below hb2).mono (Nat.zero_le _)) HF.out, ?_, below_alloc hbw2 _⟩
    rintro x (rfl | rfl | rfl)
    · exact hbw2.size
    · exact Nat.le_trans hbw1.size hg2
    · exact Nat.le_refl _
def fillL (n k : Nat) : List UInt8 := List.replicate k 255 ++ List.replicate (n - k) 0
theorem fill_len {n k : Nat} (h : k ≤ n) : (fillL n k).length = n := by unfold fillL; simp; omega
theorem fill_set {n k : Nat} (h : k < n) : (fillL n k).set k 255 = fillL n (k + 1) := by
  unfold fillL
  apply List.ext_getElem?
  intro j
  rw [List.getElem?_set, List.length_append, List.length_replicate, List.length_replicate]
  by_cases h1 : k = j
  · subst h1
    rw [if_pos rfl, if_pos (by omega), List.getElem?_append_left (by rw [List.length_replicate]; omega), List.getElem?_replicate, if_pos (by omega)]
  · rw [if_neg h1]
    by_cases h2 : j < k
    · rw [List.getElem?_append_left (by rw [List.length_replicate]; omega), List.getElem?_append_left (by rw [List.length_replicate]; omega), List.getElem?_replicate, List.getElem?_replicate, if_pos h2, if_pos (by omega)]
    · rw [List.getElem?_append_right (by rw [List.length_replicate]; omega), List.getElem?_append_right (by rw [List.length_replicate]; omega), List.getElem?_replicate, List.getElem?_replicate, List.length_replicate, List.length_replicate]
      by_cases h3 : j < n
      · rw [if_pos (by omega), if_pos (by omega)]
      · rw [if_neg (by omega), if_neg (by omega)]
/-- an erased flash -/
theorem fl_New (k : Nat) (m : Int) (w : World) (h1 : 1 ≤ k) (h8 : k ≤ 8) (hm : 1 ≤ m) (hm2 : m ≤ 9223372036854775807) :
    Calls Tryz.prog 19 #[.int .i64 (k : Nat), .int .i64 m] w (FNewR (ofF (List.replicate (k * 1024) 255) k m) w) := by
  obtain ⟨n, hn⟩ : ∃ n, n = k * 1024 := ⟨_, rfl⟩
  have e3 : ((k : Int) * 1024) = ((n : Nat) : Int) := by omega
  have hnb : n ≤ 8192 := by omega
  have HN := hide hn
  rw [← hn]
  obtain ⟨R, hR⟩ : ∃ R : List UInt8, R = List.replicate n 255 := ⟨_, rfl⟩
  have HR := hide hR
  rw [← hR]
  clear hn hR
  go_enter Tryz.func19, Tryz.ntmps19
  go_wp2_with (at_make; refine mk_b _ rfl _ _ rfl _ _ _ _ n n rfl rfl rfl rfl (Nat.le_refl _) (by omega) w.heap.size rfl ?_; intro w1 hO1 hz1 hb1)
  have HO1 : Hid (OwnB w1 w.heap.size (some ⟨w.heap.size, 0, none⟩) n n (fillL n 0)) := hide (by
    have e : fillL n 0 = List.replicate n 0 := by unfold fillL; simp
    rw [e]; exact hO1)
  clear hO1
  go_loopw [6, 18] (fun _ i wr => ∃ j, j ≤ n ∧ i = .int .i64 (j : Nat) ∧ Hid (OwnB wr w.heap.size (some ⟨w.heap.size, 0, none⟩) n n (fillL n j)) ∧ Below w.heap.size w wr) (fun _ i _ => n - (intOf i).toNat)
  case atStart => exact ⟨0, by omega, rfl, HO1, hb1⟩
  case round =>
    obtain ⟨j, hj, rfl, HO, hbr⟩ := hrel
    by_cases hlt : j < n
    · obtain ⟨g', u, hA', _, _, _, hcj, hfj⟩ := HO.out.own.cell hlt
      injection hA' with hA'
      injection hA' with hA'
      subst hA'
      obtain ⟨i1, i2, i3⟩ := idx_at hlt
      go_wp2_with fail
      have hs := HO.out.own.stored j (.int .u8 255)
      have HO2 : Hid (OwnB (wr.setCell ⟨w.heap.size, j, none⟩ (.int .u8 255)) w.heap.size (some ⟨w.heap.size, 0, none⟩) n n (fillL n (j + 1))) := hide ⟨by rw [fill_len (by omega)], by
        rw [← fill_set hlt, List.map_set]
        exact hs⟩
      have hb2 := below_set hbr (p := ⟨w.heap.size, j, none⟩) (Nat.le_refl _) (.int .u8 255)
      go_roundw
      case rel => exact ⟨j + 1, by omega, by go_num, HO2, hb2⟩
      case measure => simp [intOf]; omega
    · obtain rfl : j = n := by omega
      have e : fillL j j = R := by rw [HR.out]; unfold fillL; simp
      have HO2 := HO.out
      rw [e] at HO2
      have HO3 := hide HO2
      clear HO2 e
      go_wp2_with fail
      refine (fl_Of (some ⟨w.heap.size, 0, none⟩) j j R k m _ (by rw [HR.out, List.length_replicate]) (by have := HN.out; omega) h1 h8 hm hm2 HO3.out.sl).mono ?_
      rintro e w2 ⟨q, rfl, h2, h3, h4⟩
      have HH := hide (And.intro h2 (And.intro h3 h4))
      clear h2 h3 h4
      go_wp2_with fail
      go_ret
      exact (⟨q, rfl, HH.out.1, fun g hg => Nat.le_trans hbr.size (HH.out.2.1 g hg), below_step HH.out.2.2 hbr⟩ : FNewR _ _ _ _)
end
end Go.Proofs.YtehabbnohoomjaaGreatDoor
namespace Go.Proofs.YtehabbnohoomjaaGreatDoor
section
set_option linter.unusedVariables false
set_option linter.unusedSimpArgs false
set_option linter.unnecessarySimpa false
open Go.RowKit
set_option maxRecDepth 20000
set_option maxHeartbeats 4000000
end
end Go.Proofs.YtehabbnohoomjaaGreatDoor
namespace Go.Proofs.YtehabbnohoomjaaGreatDoor
section
set_option linter.unusedVariables false
set_option linter.unusedSimpArgs false
set_option linter.unnecessarySimpa false
open Go.RowKit
set_option maxRecDepth 20000
set_option maxHeartbeats 8000000

theorem jo_Open_few (q : FP) (S : FS) (w : World) (hD : FD w q S) (hoff : S.off = false) (h3 : S.wear.length < 3) : Calls Tryz.prog 41 #[.pointer (some ⟨q.p, 0, none⟩)] w fun e w' => e = .returned (.tuple #[.pointer none, .int .i64 9]) ∧ w = w' := by
  have HON := hide (fl_On q S w hD)
  rw [hoff, Bool.not_false] at HON
  have HSE := hide (fl_Sectors q S w hD)
  obtain ⟨n, hn⟩ : ∃ n, n = S.wear.length := ⟨_, rfl⟩
  rw [← hn] at HSE h3
  have h3' : (n : Int) < 3 := by omega
  clear hD hoff hn
  go_enter Tryz.func41, Tryz.ntmps41
  go_wp2_with fail
  refine HON.out.mono ?_
  rintro e w1 ⟨rfl, rfl⟩
  go_wp2_with fail
  refine HSE.out.mono ?_
  rintro e w1 ⟨rfl, rfl⟩
  go_wp2_with fail
  go_ret2
  exact ⟨rfl, rfl⟩
end
end Go.Proofs.YtehabbnohoomjaaGreatDoor
namespace Go.Proofs.YtehabbnohoomjaaGreatDoor
section
set_option linter.unusedVariables false
set_option linter.unusedSimpArgs false
set_option linter.unnecessarySimpa false
open Go.RowKit
set_option maxRecDepth 20000
set_option maxHeartbeats 8000000

def OpenVR (M : Nat) (q : FP) (S : FS) (w : World) (e : Ending) (w' : World) : Prop :=
  ∃ pv pj A n c dj, e = .returned (.tuple #[.pointer (some ⟨pv, 0, none⟩), .int .i64 0]) ∧ VD w' M (fun g => w.heap.size ≤ g ∧ g < w'.heap.size ∧ g ≠ pv) (fun _ => False) pv pj q A n c dj none 0 0 [] (openJ S) S [] false false ∧ w.heap.size ≤ pv ∧ Below w.heap.size w w'
theorem va_open_new (M : Nat) (q : FP) (S : FS) (pd : Addr) (w : World) (hD : FD w q S) (hoff : S.off = false) (h3 : 3 ≤ S.wear.length) (hh : (openJ S).has = false) (hM : M ≤ w.heap.size) (hq : ∀ g, q.F g → g < w.heap.size ∧ M ≤ g) :
    Calls Tryz.prog 11 #[.pointer (some ⟨q.p, 0, none⟩), .pointer (some pd)] w (OpenVR M q S w) := by
  have HO := hide (jo_Open q S w hD hoff h3)
  have HD := hide hD
  have HH := hide hh
  have HM := hide hM
  have HQ := hide hq
  obtain ⟨R0, hR0⟩ : ∃ R0, R0 = OpenVR M q S w := ⟨_, rfl⟩
  rw [← hR0]
  have HR := hide hR0
  clear hD hoff h3 hh hM hq hR0
  go_enter Tryz.func11, Tryz.ntmps11
  go_wp2_with fail
  refine HO.out.mono ?_
  rintro e w1 ⟨pj, A, n, c, ds, rfl, hJ, hb⟩
  have k0 := blk_one w1 90 #[.pointer (some ⟨pj, 0, none⟩), .slice none 0 0, .bool false, .bool false]
  have hba := below_alloc (Below.refl w1.heap.size w1) (.cells #[.pointer (some ⟨pj, 0, none⟩), .slice none 0 0, .bool false, .bool false] 90)
  have HJ0 := hide hJ
  have HB1 := hide hb
  have HJ1 := hide (hJ.below hba)
  have HJC := hide ((show JD w1 (fun g => w.heap.size ≤ g ∧ g < w1.heap.size) pj q.p A n c (openJ S) ds from hJ.mono (fun g hlt h => ⟨h, hlt⟩)).below hba)
  have HBA := hide (below_step hba hb)
  have HK0 := hide k0
  have HLT := hide (jo_Last _ (hJ.below hba))
  rw [HH.out] at HLT
  clear hJ hb k0 hba
  go_wp2_with fail
  refine HLT.out.mono ?_
  rintro e w2 ⟨A', c', rfl, hO, hb2⟩
  have hb3 := below_step (below_alloc (Below.refl w2.heap.size w2) (.cells (rcV (recJ (openJ S)).1 (recJ (openJ S)).2.1 A' (recJ (openJ S)).2.2.length c') 92)) hb2
  have HB3 := hide (below_step hb3 HBA.out)
  have HJ3 := hide (HJC.out.below hb3)
  have HK3 := hide (HK0.out.below hb3 HK0.out.lt)
  have HZ := hide hb3.size
  unfold rcV at HB3 HJ3 HK3 HZ ⊢
  clear hO hb2 hb3 HLT HO
  go_wp2_with fail
  rw [HR.out]
  have hz1 := HB1.out.size
  have hz2 := HBA.out.size
  have hkl := HK0.out.lt
  have hz3 := HZ.out
  refine ⟨w1.heap.size, pj, A, n, c, ds, rfl, ⟨HK3.out, ?_, HD.out.below HB3.out, OwnF.nil _ _, by have := HM.out; omega, ?_, fun g h => h.elim, ?_, by omega, fun v hv => by cases hv⟩, hz1, HB3.out⟩
  · exact HJ3.out.mono (fun g hlt h => ⟨h.1, hlt, by omega⟩)
  · rintro g (h | h)
    · exact ⟨h.2.1, by have := HM.out; omega, h.2.2⟩
    · have := HQ.out g h
      have h4 := HB3.out.size
      exact ⟨by omega, this.2, by omega⟩
  · intro g h hq
    have := HQ.out g hq
    have := h.1
    omega
end
end Go.Proofs.YtehabbnohoomjaaGreatDoor
