/- The reference of package fault: find, Known, Counts, Family. -/
import Derived.Test.YtkhbcmkcjnnejaaDoorFltL
namespace Go.Proofs.YtkhbcmkcjnnejaaDoor
set_option linter.unusedVariables false
set_option linter.unusedSimpArgs false
set_option linter.unnecessarySimpa false
open Go.RowKit Go.Extern.Stop Go.Stop Go.Extern
set_option maxRecDepth 20000
set_option maxHeartbeats 8000000
theorem rowC_at : ∀ (L : List (Nat × Nat × List UInt8)) (k i : Nat) (r : Nat × Nat × List UInt8), L[k]? = some r → i < 3 → (L.flatMap rowC)[k * 3 + i]? = (rowC r)[i]? := by
  intro L
  induction L with
  | nil => intro k i r h; simp at h
  | cons x L ih =>
    intro k i r h hi
    rw [List.flatMap_cons]
    cases k with
    | zero =>
      simp at h
      subst h
      rw [Nat.zero_mul, Nat.zero_add, List.getElem?_append_left (by simp [rowC]; omega)]
    | succ k =>
      rw [List.getElem?_append_right (by simp [rowC]; omega), ← ih k i r (by simpa using h) hi]
      congr 1
      simp [rowC]
      omega
theorem find_first {α : Type} {p : α → Bool} : ∀ {L : List α} {k : Nat} {r : α}, L[k]? = some r → p r = true → (∀ j, j < k → ∀ x, L[j]? = some x → p x = false) → L.find? p = some r := by
  intro L
  induction L with
  | nil => intro k r h; simp at h
  | cons x L ih =>
    intro k r h hp hn
    cases k with
    | zero =>
      simp at h
      subst h
      rw [List.find?_cons, hp]
    | succ k =>
      have h0 := hn 0 (by omega) x rfl
      rw [List.find?_cons, h0]
      exact ih (by simpa using h) hp (fun j hj y hy => hn (j + 1) (by omega) y (by simpa using hy))
theorem field1 (a b c : Value) (w : World) : (Instr.field 56 (.agg #[a, b, c]) 1).run Tryd.prog w = .ok b w := by kernel_rfl
theorem field2 (a b c : Value) (w : World) : (Instr.field 56 (.agg #[a, b, c]) 2).run Tryd.prog w = .ok c w := by kernel_rfl
def fndR (c : Nat) : Nat × Nat × List UInt8 := match fT.find? (fun r => r.1 == c) with | some r => r | none => (0, 0, [])
theorem fT_len28 : fT.length = 28 := rfl
theorem fT_big : ∀ r ∈ fT, r.1 ≤ 4294967295 ∧ r.2.1 ≤ 5 := by decide
def FindR (c : Nat) (w : World) (e : Ending) (w' : World) : Prop := e = .returned (.agg #[.int .u32 ((fndR c).1 : Nat), .int .i64 ((fndR c).2.1 : Nat), .string (bs (fndR c).2.2)]) ∧ Below w.heap.size w w'
theorem row_size : (Tryd.prog.info? 56).map (·.size) = some 3 := by kernel_rfl
theorem ret_row {fn : Func} {p : Tmp} (h : fn.results = #[.cell p 56]) {x : Act} {w : World} {g : Nat} {v1 v2 v3 : Value} {R : Ending → World → Prop} (hd : x.defers = []) (hp : x.tmps.getD p undef = .pointer (some ⟨g, 0, none⟩))
    (hB : Blk w g 56 #[v1, v2, v3]) (hR : R (.returned (.agg #[v1, v2, v3])) w) : bodyPost Tryd.prog fn R .ret x w :=
  bodyPost_ret (results_cell_row (P := Tryd.prog) h x.tmps w g _ #[v1, v2, v3] (0, 0) _ hp hB Tryd.underlying56 rfl row_size) hd hR
theorem rf_find (c : Nat) (w : World) (hc : c ≤ 4294967295) : Calls Tryd.prog 31 #[.int .u32 (c : Nat)] w (FindR c w) := by
  have q0 := blk_one w 56 #[.int .u32 0, .int .i64 0, .string ⟨#[]⟩]
  have hb := below_alloc (Below.refl w.heap.size w) (.cells #[.int .u32 0, .int .i64 0, .string ⟨#[]⟩] 56)
  have HQ := hide q0
  have HB := hide hb
  clear q0 hb
  go_enter Tryd.func31, Tryd.ntmps31
  go_wp2_with fail
  refine (rf_rows _).mono ?_
  rintro e w1 ⟨g, rfl, hG, hb1⟩
  have HG := hide hG
  have HQ1 := hide (HQ.out.below hb1 (by simp))
  have HB1 := hide (below_step hb1 HB.out)
  have zg := hG.lt
  have hgn : ¬ w.heap.size = g := by
    intro e'
    have h1 := HQ1.out
    rw [e'] at h1
    have h2 := h1.symm.trans hG
    injection h2 with h2
    injection h2 with h2 _
    have h3 := congrArg Array.size h2
    simp [fT, rowC] at h3
  clear hG hb1
  go_wp2_with fail
  go_loop [4] (fun i => ∃ k : Nat, k ≤ 28 ∧ i = .int .i64 (k : Nat) ∧ Hid (∀ j, j < k → ∀ x, fT[j]? = some x → (x.1 == c) = false)) (fun i => 28 - (intOf i).toNat)
  case atStart => exact ⟨0, by omega, rfl, hide (fun j h => by omega)⟩
  case round =>
    obtain ⟨k, hk, rfl, HJ⟩ := hrel
    by_cases hlt : k < 28
    · obtain ⟨r, hr⟩ : ∃ r, fT[k]? = some r := ⟨_, List.getElem?_eq_getElem (by rw [fT_len28]; exact hlt)⟩
      have c0 := HG.out.cell (k * 3) (u := .int .u32 (r.1 : Nat)) (by have := rowC_at fT k 0 r hr (by omega); simpa [rowC] using this)
      have c1 := HG.out.cell (k * 3 + 1) (u := .int .i64 (r.2.1 : Nat)) (by have := rowC_at fT k 1 r hr (by omega); simpa [rowC] using this)
      have c2 := HG.out.cell (k * 3 + 2) (u := .string (bs r.2.2)) (by have := rowC_at fT k 2 r hr (by omega); simpa [rowC] using this)
      have hHR := hr
      have HR := hide hHR
      obtain ⟨rc, rf, rt⟩ := r
      dsimp only at c0 c1 c2
      have q1 := HQ1.out
      obtain ⟨q1_c0, q1_c1, q1_c2⟩ := cel3 q1
      have q1_f := q1.frozen
      clear hr hHR q1
      by_cases hcc : rc = c
      · subst hcc
        have HF : Hid (fndR rc = (rc, rf, rt)) := hide (by unfold fndR; rw [find_first HR.out (by simp) HJ.out])
        go_wp2_with fail
        refine ret_row rfl rfl (by rfl) (((HQ1.out.set_ 0 _).set_ 1 _).set_ 2 _) ?_
        unfold FindR
        rw [HF.out]
        exact ⟨rfl, below_set (below_set (below_set HB1.out (p := ⟨w.heap.size, 0, none⟩) (Nat.le_refl _) _) (p := ⟨w.heap.size, 1, none⟩) (Nat.le_refl _) _) (p := ⟨w.heap.size, 2, none⟩) (Nat.le_refl _) _⟩
      · have e1 : ((rc : Int) == (c : Int)) = false := by simp; omega
        have HN : Hid (∀ j, j < k + 1 → ∀ x, fT[j]? = some x → (x.1 == c) = false) := hide (fun j hj x hx => by
          rcases Nat.lt_or_ge j k with h | h
          · exact HJ.out j h x hx
          · have hj' : j = k := by omega
            rw [hj', HR.out] at hx
            injection hx with hx
            rw [← hx]
            simpa using hcc)
        clear hcc
        go_wp2_with fail
        go_round
        case rel => exact ⟨k + 1, by omega, by go_num, HN⟩
        case measure => simp [intOf]; omega
    · obtain rfl : k = 28 := by omega
      have HF : Hid (fndR c = (0, 0, [])) := hide (by
        have : fT.find? (fun r => r.1 == c) = none := by
          rw [List.find?_eq_none]
          intro x hx
          obtain ⟨j, hj, hjx⟩ := List.mem_iff_getElem.1 hx
          have := HJ.out j (by rw [fT_len28] at hj; exact hj) x (by rw [List.getElem?_eq_getElem hj, hjx])
          simp [this]
        unfold fndR
        rw [this])
      have q1 := HQ1.out
      obtain ⟨q1_c0, q1_c1, q1_c2⟩ := cel3 q1
      have q1_f := q1.frozen
      clear q1
      go_wp2_with fail
      refine ret_row rfl rfl (by rfl) (((HQ1.out.set_ 0 _).set_ 1 _).set_ 2 _) ?_
      unfold FindR
      rw [HF.out]
      exact ⟨rfl, below_set (below_set (below_set HB1.out (p := ⟨w.heap.size, 0, none⟩) (Nat.le_refl _) _) (p := ⟨w.heap.size, 1, none⟩) (Nat.le_refl _) _) (p := ⟨w.heap.size, 2, none⟩) (Nat.le_refl _) _⟩
theorem fnd_fam (c : Nat) : (fndR c).2.1 = famN c := by cases h : fT.find? (fun r => r.1 == c) <;> simp [fndR, famN, h]
theorem fnd_say (c : Nat) (h : famN c ≠ 0) : (fndR c).2.2 = sayN c := by
  unfold fndR sayN
  unfold famN at h
  split
  · rename_i r hr; rw [hr]
  · rename_i hr; rw [hr] at h; exact absurd rfl h
theorem rf_Known (c : Nat) (w : World) (hc : c ≤ 4294967295) : Calls Tryd.prog 20 #[.int .u32 (c : Nat)] w fun e w' => e = .returned (.bool (decide (famN c ≠ 0))) ∧ Below w.heap.size w w' := by
  have H := hide (rf_find c w hc)
  have k1 := field1
  go_enter Tryd.func20, Tryd.ntmps20
  go_wp2_with fail
  refine H.out.mono ?_
  rintro e w1 ⟨rfl, hb1⟩
  rw [fnd_fam]
  have HB := hide hb1
  obtain ⟨n, hn⟩ : ∃ n, n = famN c := ⟨_, rfl⟩
  rw [← hn]
  have HN := hide hn
  clear hn hb1
  go_wp2_with fail
  go_ret
  exact ⟨ret_bool (by rw [HN.out, Bool.eq_iff_iff]; simp), HB.out⟩
theorem rf_Counts (c : Nat) (w : World) (hc : c ≤ 4294967295) : Calls Tryd.prog 10 #[.int .u32 (c : Nat)] w fun e w' => e = .returned (.int .u32 (cntN c : Nat)) ∧ Below w.heap.size w w' := by
  have H := hide (rf_Known c w hc)
  by_cases h : famN c = 0
  · have HC : Hid (cntN c = 134217728) := hide (by unfold cntN; rw [if_pos h])
    rw [show decide (famN c ≠ 0) = false by simp [h]] at H
    clear h
    go_enter Tryd.func10, Tryd.ntmps10
    go_wp2_with fail
    refine H.out.mono ?_
    rintro e w1 ⟨rfl, hb1⟩
    have HB := hide hb1
    clear hb1
    go_wp2_with fail
    go_ret
    exact ⟨ret_int (by rw [HC.out]; rfl), HB.out⟩
  · have HC : Hid (cntN c = c) := hide (by unfold cntN; rw [if_neg h])
    rw [show decide (famN c ≠ 0) = true by simp [h]] at H
    clear h
    go_enter Tryd.func10, Tryd.ntmps10
    go_wp2_with fail
    refine H.out.mono ?_
    rintro e w1 ⟨rfl, hb1⟩
    have HB := hide hb1
    clear hb1
    go_wp2_with fail
    go_ret
    exact ⟨ret_int (by rw [HC.out]), HB.out⟩
theorem cntN_le (c : Nat) (hc : c ≤ 4294967295) : cntN c ≤ 4294967295 := by unfold cntN; split <;> omega
theorem rf_Family (c : Nat) (w : World) (hc : c ≤ 4294967295) : Calls Tryd.prog 14 #[.int .u32 (c : Nat)] w fun e w' => e = .returned (.int .i64 (famN (cntN c) : Nat)) ∧ Below w.heap.size w w' := by
  have H := hide (rf_Counts c w hc)
  have hk := cntN_le c hc
  obtain ⟨k, hkk⟩ : ∃ k, k = cntN c := ⟨_, rfl⟩
  rw [← hkk] at H hk ⊢
  have HF := hide (fun W => rf_find k W hk)
  have k1 := field1
  clear hkk
  go_enter Tryd.func14, Tryd.ntmps14
  go_wp2_with fail
  refine H.out.mono ?_
  rintro e w1 ⟨rfl, hb1⟩
  have HB := hide hb1
  clear hb1
  go_wp2_with fail
  refine (HF.out _).mono ?_
  rintro e w2 ⟨rfl, hb2⟩
  rw [fnd_fam]
  have HB2 := hide (below_step hb2 HB.out)
  clear hb2
  go_wp2_with fail
  go_ret
  exact ⟨rfl, HB2.out⟩
end Go.Proofs.YtkhbcmkcjnnejaaDoor
