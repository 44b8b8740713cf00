/- append onto a slice that has no room (b[:n:n]), from any source. -/
import Derived.Test.YthdbckbpldlkeaaSeat
namespace Go.Proofs.Ythdbckbpldlkeaa
set_option linter.unusedVariables false
set_option linter.unusedSimpArgs false
set_option linter.unnecessarySimpa false
open Go.RowKit
set_option maxRecDepth 20000
theorem run_full (ty : TypeId) (A : Option Addr) (n : Nat) (l : List UInt8) (A2 : Option Addr) (m c2 : Nat) (l2 : List UInt8) (w : World) (hn : n = l.length) (h1 : Sl w A (l.map bv)) (hm : m = l2.length) (h2 : Sl w A2 (l2.map bv)) (hb : n + m ≤ 140737488355328) (hA : A = none → n = 0) :
    ∃ A' c' w', (Builtin.append_ #[32, 32] ty #[.slice A n n, .slice A2 m c2]).run Try.prog w = .ok (.slice A' (n + m) c') w' ∧ Sl w' A' ((l ++ l2).map bv) ∧ n + m ≤ c' ∧ Below w.heap.size w w' ∧ ((m = 0 ∧ A' = A) ∨ (A' = some ⟨w.heap.size, 0, none⟩ ∧ w.heap.size < w'.heap.size)) := by
  obtain ⟨i0, hi0, hz0, hz1, hz2⟩ := info_parts infoU8
  rcases Nat.eq_zero_or_pos m with h0 | h0
  · subst h0
    obtain rfl : l2 = [] := List.eq_nil_of_length_eq_zero hm.symm
    refine ⟨A, n, w, ?_, by simpa using h1, by omega, Below.refl _ _, .inl ⟨rfl, rfl⟩⟩
    have hl : ∀ (x : Addr), (loadCells x 0).run Try.prog w = .ok #[] w := fun x => by simpa using run_loadCells_list (P := Try.prog) w x [] (by simp)
    rcases A with _ | a
    · obtain rfl := hA rfl
      cases A2 <;> simp [Builtin.append_, run_underlying (P := Try.prog) Try.underlying32, sizeOf, typeInfo, hi0, Builtin.lenOf, Builtin.firstCells, hl]
    · cases A2 <;> simp [Builtin.append_, run_underlying (P := Try.prog) Try.underlying32, sizeOf, typeInfo, hi0, Builtin.lenOf, Builtin.firstCells, hl, storeCells]
  · have hx : ∃ a2, A2 = some a2 ∧ ∀ j u, (l2.map bv)[j]? = some u → w.cell? (a2.add j) = some u := by
      obtain ⟨a2, rfl, _⟩ := h2 0 _ (List.getElem?_eq_getElem (by simp; omega))
      refine ⟨a2, rfl, fun j u hu => ?_⟩
      obtain ⟨a', e, hc⟩ := h2 j u hu
      injection e with e
      subst e
      exact hc
    obtain ⟨a2, rfl, hnews⟩ := hx
    rcases A with _ | a
    · obtain rfl := hA rfl
      obtain rfl : l = [] := List.eq_nil_of_length_eq_zero hn.symm
      have hr := run_append_nil (P := Try.prog) w 32 ty 5 i0 (.int .u8 0) Try.underlying32 hi0 hz0 a2 m c2 (l2.map bv) (by simp [hm, hz1]) hnews h0 (by omega) (by rw [hz2]; omega)
      refine ⟨some ⟨w.heap.size, 0, none⟩, grownCap w m 0 5, _, by simpa using hr, ?_, by simpa using grownCap_ge w m 0 _, (Below.refl _ _).drew.alloc (Nat.le_refl _) _, .inr ⟨rfl, by simp⟩⟩
      intro j u hu
      refine ⟨_, rfl, ?_⟩
      simp only [List.nil_append] at hu
      rw [Addr.add_lit, Nat.zero_add]
      have hj := (List.getElem?_eq_some_iff.1 hu).1
      rw [World.cell?]
      simp only [heap_alloc_new]
      have hs : (w.drew.alloc (.cells ((l2.map bv).toArray ++ Builtin.zeroCells (Value.int IntKind.u8 0).cells (grownCap w m 0 5 - m)) 5)).heap[w.heap.size]? = some (.cells ((l2.map bv).toArray ++ Builtin.zeroCells (Value.int IntKind.u8 0).cells (grownCap w m 0 5 - m)) 5) := heap_alloc_new w.drew _
      rw [hs]
      simp only []
      rw [Array.getElem?_append_left (by simpa using hj)]
      simpa using hu
    · have holds : ∀ j u, (l.map bv)[j]? = some u → w.cell? (a.add j) = some u := by
        intro j u hu
        obtain ⟨a', e, hc⟩ := h1 j u hu
        injection e with e
        subst e
        exact hc
      have hr := run_append_grow (P := Try.prog) w 32 ty 5 i0 (.int .u8 0) Try.underlying32 hi0 hz0 a n n (l.map bv) (by simp [hn, hz1]) holds a2 m c2 (l2.map bv) (by simp [hm, hz1]) hnews (by omega) (by omega) (by rw [hz2]; have := nextslicecap_le (need := n + m) (old := n) (by omega); omega)
      refine ⟨some ⟨w.heap.size, 0, none⟩, grownCap w (n + m) n 5, _, hr, ?_, grownCap_ge w (n + m) n _, (Below.refl _ _).drew.alloc (Nat.le_refl _) _, .inr ⟨rfl, by simp⟩⟩
      intro j u hu
      refine ⟨_, rfl, ?_⟩
      rw [Addr.add_lit, Nat.zero_add]
      have hj := (List.getElem?_eq_some_iff.1 hu).1
      rw [World.cell?]
      have hs : (w.drew.alloc (.cells ((l.map bv).toArray ++ (l2.map bv).toArray ++ Builtin.zeroCells (Value.int IntKind.u8 0).cells (grownCap w (n + m) n 5 - (n + m))) 5)).heap[w.heap.size]? = some (.cells ((l.map bv).toArray ++ (l2.map bv).toArray ++ Builtin.zeroCells (Value.int IntKind.u8 0).cells (grownCap w (n + m) n 5 - (n + m))) 5) := heap_alloc_new w.drew _
      rw [hs]
      simp only []
      rw [Array.getElem?_append_left (by simpa using hj)]
      simpa using hu
/-- .. in a walk -/
theorem app_full {ops : Array Oper} {rest : List Oper} {o : Oper} {a : Act} {Q : Exit → Act → World → Prop} (w : World) (hgd : o.guard = none) (s x : Operand) (ho : o.op = .call { callee := .builtin .append, args := #[s, x], argTypes := #[32, 32] })
    (A : Option Addr) (n : Nat) (l : List UInt8) (hs : a.eval s = .slice A n n) (hn : n = l.length) (h1 : Sl w A (l.map bv)) (hA : A = none → n = 0)
    (A2 : Option Addr) (m c2 : Nat) (l2 : List UInt8) (hx : a.eval x = .slice A2 m c2) (hm : m = l2.length) (h2 : Sl w A2 (l2.map bv)) (hb : n + m ≤ 140737488355328) (N : Nat) (hN : n + m = N)
    (h : ∀ A' c' w', Sl w' A' ((l ++ l2).map bv) → N ≤ c' → Below w.heap.size w w' → ((m = 0 ∧ A' = A) ∨ (A' = some ⟨w.heap.size, 0, none⟩ ∧ w.heap.size < w'.heap.size)) → wpList Try.prog ops Q rest (a.put o.dst (.slice A' N c')) w') : wpList Try.prog ops Q (o :: rest) a w := by
  subst hN
  refine wpList_plain hgd fun K hK => ?_
  obtain ⟨A', c', w', hr, h3, h4, h5, h6⟩ := run_full o.type A n l A2 m c2 l2 w hn h1 hm h2 hb hA
  unfold Oper.wp execOp
  simp only [ho, resolve, invoke, builtin, Sem.run_bind, Sem.run_pure, Result.andThen_ok, List.map_toArray, List.map_cons, List.map_nil, hs, hx, hr]
  exact hK _ _ (h A' c' w' h3 h4 h5 h6)
/-- .. as one operation of a drawn region -/
theorem wp_app_full {o : Oper} {a : Act} {K : Act → World → Prop} {Q : Exit → Act → World → Prop} {w : World} (s x : Operand) (ho : o.op = .call { callee := .builtin .append, args := #[s, x], argTypes := #[32, 32] })
    (A : Option Addr) (n : Nat) (l : List UInt8) (hs : a.eval s = .slice A n n) (hn : n = l.length) (h1 : Sl w A (l.map bv)) (hA : A = none → n = 0)
    (A2 : Option Addr) (m c2 : Nat) (l2 : List UInt8) (hx : a.eval x = .slice A2 m c2) (hm : m = l2.length) (h2 : Sl w A2 (l2.map bv)) (hb : n + m ≤ 140737488355328)
    (h : ∀ A' c' w', Sl w' A' ((l ++ l2).map bv) → n + m ≤ c' → Below w.heap.size w w' → ((m = 0 ∧ A' = A) ∨ (A' = some ⟨w.heap.size, 0, none⟩ ∧ w.heap.size < w'.heap.size)) → K (a.put o.dst (.slice A' (n + m) c')) w') : Oper.wp Try.prog o a w K Q := by
  obtain ⟨A', c', w', hr, h3, h4, h5, h6⟩ := run_full o.type A n l A2 m c2 l2 w hn h1 hm h2 hb hA
  unfold Oper.wp execOp
  simp only [ho, resolve, invoke, builtin, Sem.run_bind, Sem.run_pure, Result.andThen_ok, List.map_toArray, List.map_cons, List.map_nil, hs, hx, hr]
  exact h A' c' w' h3 h4 h5 h6
theorem wp_app_b {o : Oper} {a : Act} {K : Act → World → Prop} {Q : Exit → Act → World → Prop} {w : World} (s x : Operand) (ho : o.op = .call { callee := .builtin .append, args := #[s, x], argTypes := #[32, 32] })
    (B : Nat) (A : Option Addr) (n c : Nat) (l : List UInt8) (hs : a.eval s = .slice A n c) (hown : OwnB w B A n c l)
    (A2 : Option Addr) (m c2 : Nat) (l2 : List UInt8) (hx : a.eval x = .slice A2 m c2) (hm : m = l2.length) (hr : Sl w A2 (l2.map bv)) (hb : n + m ≤ 140737488355328) (hB : B ≤ w.heap.size) (N : Nat) (hN : n + m = N)
    (h : ∀ A' c' w', OwnB w' B A' N c' (l ++ l2) → Below B w w' → K (a.put o.dst (.slice A' N c')) w') : Oper.wp Try.prog o a w K Q := by
  subst hN
  obtain ⟨i0, hi0, hz0, hz1, hz2⟩ := info_parts infoU8
  obtain ⟨A', c', w', hr', h2, h3, h4⟩ := run_app (P := Try.prog) w B 32 o.type 5 i0 _ 1 1 Try.underlying32 hi0 hz0 hz1 hz2 rfl (by omega) A n c _ hown.own A2 m c2 (l2.map bv) (by simp [hm]) hr (bv_one _) (by unfold maxLen; omega) (by omega) hB
  unfold Oper.wp execOp
  simp only [ho, resolve, invoke, builtin, Sem.run_bind, Sem.run_pure, Result.andThen_ok, List.map_toArray, List.map_cons, List.map_nil, hs, hx, hr']
  exact h A' c' w' ⟨by rw [hown.hn, hm]; simp, by rw [List.map_append]; exact h2⟩ (below_grown hown.own hB h3)
theorem map_add0 (A : Option Addr) : A.map (fun x => x.add 0) = A := by
  cases A with
  | none => rfl
  | some a =>
    obtain ⟨b, o, s⟩ := a
    cases s <;> simp [Addr.add]
/-- 'b[:k]', 'b[:k:m]' of a []byte -/
theorem cuth_b (A : Option Addr) (n c k : Nat) (kk : Int) (kd : IntKind) (hk : kk = (k : Int)) (hc : k ≤ c) (w : World) :
    (Instr.slice 32 (.slice A n c) none (some (.int kd kk)) none).run Try.prog w = .ok (.slice A k c) w := by
  subst hk
  obtain ⟨i0, hi0, hz0, hz1, hz2⟩ := info_parts infoU8
  have he : Try.prog.elem 32 = 5 := by simp [Program.elem, Try.underlying32]
  have ht' : Try.prog.underlying 32 = some (.slice (Try.prog.elem 32)) := by rw [he]; exact Try.underlying32
  rw [run_slice_h (P := Try.prog) (w := w) (t := 32) (a := A) (len := n) (cap := c) ht' kd k (by omega) (by omega)]
  simp [he, sizeOf, typeInfo, hi0, sliced, map_add0]
theorem cuthm_b (A : Option Addr) (n c k m : Nat) (kk mm : Int) (kd kd' : IntKind) (hk : kk = (k : Int)) (hm : mm = (m : Int)) (hkm : k ≤ m) (hc : m ≤ c) (w : World) :
    (Instr.slice 32 (.slice A n c) none (some (.int kd kk)) (some (.int kd' mm))).run Try.prog w = .ok (.slice A k m) w := by
  subst hk
  subst hm
  obtain ⟨i0, hi0, hz0, hz1, hz2⟩ := info_parts infoU8
  have he : Try.prog.elem 32 = 5 := by simp [Program.elem, Try.underlying32]
  have ht' : Try.prog.underlying 32 = some (.slice (Try.prog.elem 32)) := by rw [he]; exact Try.underlying32
  rw [run_slice_hm (P := Try.prog) (w := w) (t := 32) (a := A) (len := n) (cap := c) ht' kd kd' k m (by omega) (by omega) (by omega)]
  simp [he, sizeOf, typeInfo, hi0, sliced, map_add0]
theorem Sl.take_ {w : World} {A : Option Addr} {xs : List Value} (h : Sl w A xs) (k : Nat) : Sl w A (xs.take k) := by
  intro j u hu
  rw [List.getElem?_take] at hu
  split at hu
  · exact h j u hu
  · cases hu
end Go.Proofs.Ythdbckbpldlkeaa
