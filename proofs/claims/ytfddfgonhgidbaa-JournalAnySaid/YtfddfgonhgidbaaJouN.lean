/- What Appends bring, one behind the other: the last record, and the wear. No walk. -/
import Derived.Test.YtfddfgonhgidbaaJouM
namespace Go.Proofs.Ytfddfgonhgidbaa
set_option linter.unusedVariables false
set_option linter.unusedSimpArgs false
set_option linter.unnecessarySimpa false
set_option maxHeartbeats 1000000

theorem recS_num (S : FS) : (recS S).2.1 = numJ (openJ S) := by
  unfold recS numJ lastJ openJ
  simp only []
  split <;> rfl
theorem recS_has (S : FS) (h : (newL (looksF S)).2 = false) : recS S = (0, 0, []) := by
  unfold recS
  rw [h]
  rfl
/-- a flash on which little was done -/
structure Fresh (S : FS) (N : Nat) : Prop where
  len : S.b.length = 1024 * S.wear.length
  three : 3 ≤ S.wear.length
  wear : ∀ j, j < S.wear.length → S.wear.getD j 0 ≤ N
  most : (N : Int) < S.most
  num : numJ (openJ S) ≤ N
  small : N ≤ 1000000
theorem next_any {S : FS} {N : Nat} (h : Fresh S N) : (nextL (looksF S) S.wear S.most).2 = true := by
  cases hb : (nextL (looksF S) S.wear S.most).2
  · exfalso
    have h1 := ((nextL_spec (looksF S) S.wear S.most (looksF_len S).symm).2 hb).2
    have hsk : ∀ j, j < S.wear.length → newL (looksF S) ≠ (j, true) → False := by
      intro j hj hne
      have h2 := h1 j (by rw [looksF_len]; exact hj)
      unfold skipL at h2
      simp only [Bool.or_eq_true, Bool.and_eq_true, decide_eq_true_eq] at h2
      rcases h2 with ⟨h2, h3⟩ | ⟨_, h2⟩
      · exact hne (Prod.ext h3.symm h2)
      · have := h.wear j hj
        have := h.most
        omega
    have := h.three
    by_cases h0 : newL (looksF S) = (0, true)
    · exact hsk 1 (by omega) (by rw [h0]; simp)
    · exact hsk 0 (by omega) h0
  · rfl
section
variable {S S' : FS} {J' : JS} {kd e : Int} {d : List UInt8} {N i : Nat} {y : LK} {er : Bool}
theorem fresh_app (h : Fresh S N) (hoff : S.off = false) (hr : rightR kd (numJ (openJ S) + 1) d.length = 0) (ha : appJ (openJ S) S kd d = (J', S', e)) : ∃ i y er, StepR S S' J' kd (numJ (openJ S) + 1) d e i y er := by
  rcases app_step h.len hoff (by have := h.num; have := h.small; omega) hr ha with ⟨_, _, _, h4⟩ | h
  · rw [next_any h] at h4; cases h4
  · exact h
theorem wear_at (h : StepR S S' J' kd (numJ (openJ S) + 1) d e i y er) (j : Nat) : S'.wear.getD j 0 = S.wear.getD j 0 + (if er = true ∧ j = i then 1 else 0) := by
  rw [h.wear]
  cases er
  · simp
  · simp only [if_true, true_and]
    rw [List.getD_eq_getElem?_getD, List.getElem?_set]
    by_cases hj : i = j
    · subst hj
      rw [if_pos rfl, if_pos h.hi, if_pos rfl]
      rfl
    · rw [if_neg hj, if_neg (fun e => hj e.symm), ← List.getD_eq_getElem?_getD]
      rfl
theorem fresh_step (h : Fresh S N) (hs : StepR S S' J' kd (numJ (openJ S) + 1) d e i y er) (hN : ((N + 1 : Nat) : Int) < S.most) (hN2 : N + 1 ≤ 1000000) : Fresh S' (N + 1) := by
  refine ⟨by rw [hs.kept.len, hs.kept.wear, h.len], by rw [hs.kept.wear]; exact h.three, ?_, by rw [hs.kept.most]; exact hN, ?_, hN2⟩
  · intro j hj
    rw [hs.kept.wear] at hj
    rw [wear_at hs]
    have := h.wear j hj
    split <;> omega
  · have hn := h.num
    rcases step_rec hs with ⟨_, h2⟩ | ⟨_, _, h2, _⟩
    · rw [← recS_num, h2]
      simp only []
      omega
    · rw [← recS_num, h2, recS_num]
      omega
/-! the wear -/
/-- how far the sectors' wears lie apart, behind c failures -/
structure WInv (S : FS) (c : Nat) : Prop where
  gap : ∀ k j, k < S.wear.length → j < S.wear.length → S.wear.getD k 0 ≤ S.wear.getD j 0 + 2 + c
  near : ∀ k j, k < S.wear.length → j < S.wear.length → (newL (looksF S) = (j, true) ∨ begunL ((looksF S).getD j lookZ) = false) → S.wear.getD k 0 ≤ S.wear.getD j 0 + 1 + c
theorem wear_step {c : Nat} (hf : Fresh S N) (h : WInv S c) (hs : StepR S S' J' kd (numJ (openJ S) + 1) d e i y er) : WInv S' (if e = 0 then c else c + 1) := by
  have hi := hs.hi
  have hiL : i < (looksF S).length := by rw [looksF_len]; exact hi
  have hw := wear_at hs
  have hlk : ∀ j, j ≠ i → (looksF S').getD j lookZ = (looksF S).getD j lookZ := fun j hj => by rw [hs.looks, set_getD _ _ _ _ hiL, if_neg hj]
  obtain ⟨c', hc'⟩ : ∃ c', c' = if e = 0 then c else c + 1 := ⟨_, rfl⟩
  rw [← hc']
  have hcc : c ≤ c' := by rw [hc']; split <;> omega
  rcases hs.place with ⟨her, hn⟩ | ⟨hnx, her, hn⟩
  · have hw' : ∀ j, S'.wear.getD j 0 = S.wear.getD j 0 := fun j => by rw [hw, her]; simp
    have hn' : newL (looksF S') = (i, true) := by
      rcases step_rec hs with ⟨h1, _⟩ | ⟨_, h1, _, _⟩
      · exact h1
      · rw [h1]; exact hn
    constructor
    · intro k j hk hj
      rw [hs.kept.wear] at hk hj
      rw [hw', hw']
      have := h.gap k j hk hj
      omega
    · intro k j hk hj hnb
      rw [hs.kept.wear] at hk hj
      rw [hw', hw']
      have := h.near k j hk hj (by
        by_cases hji : j = i
        · left; rw [hji]; exact hn
        · rcases hnb with h1 | h1
          · rw [hn'] at h1
            injection h1 with h1
            exact absurd h1.symm hji
          · right; rw [← hlk j hji]; exact h1)
      omega
  · have hmin : ∀ j, j < S.wear.length → newL (looksF S) ≠ (j, true) → S.wear.getD i 0 ≤ S.wear.getD j 0 := by
      intro j hj hne
      have h1 := (nextL_spec (looksF S) S.wear S.most (looksF_len S).symm).1 (by rw [hnx])
      rw [hnx] at h1
      refine h1.2.2 j (by rw [looksF_len]; exact hj) ?_
      unfold skipL
      have hm := hf.wear j hj
      have hm2 := hf.most
      rw [show decide (S.most - (S.wear.getD j 0 : Nat) ≤ 0) = false from decide_eq_false (by omega), Bool.and_false, Bool.or_false]
      cases hb : (newL (looksF S)).2
      · rfl
      · simp only [Bool.true_and, decide_eq_false_iff_not]
        intro hj2
        exact hne (Prod.ext hj2.symm hb)
    constructor
    · intro k j hk hj
      rw [hs.kept.wear] at hk hj
      rw [hw, hw]
      have h1 := h.gap k j hk hj
      by_cases hki : er = true ∧ k = i
      · rw [if_pos hki, hki.2]
        by_cases hnj : newL (looksF S) = (j, true)
        · have := h.near i j hi hj (.inl hnj)
          omega
        · have := hmin j hj hnj
          omega
      · rw [if_neg hki]
        omega
    · intro k j hk hj hnb
      rw [hs.kept.wear] at hk hj
      rw [hw, hw]
      by_cases hji : j = i
      · subst hji
        cases er
        · have := h.near k j hk hj (.inr her.symm)
          simp only [Bool.false_eq_true, false_and, if_false]
          omega
        · have := h.gap k j hk hj
          by_cases hkj : k = j
          · subst hkj; simp; omega
          · rw [if_neg (fun hh => hkj hh.2), if_pos ⟨rfl, rfl⟩]
            omega
      · rw [if_neg (fun (hh : er = true ∧ j = i) => hji hh.2)]
        rcases hnb with h1 | h1
        · rcases step_rec hs with ⟨h2, _⟩ | ⟨h0, h2, _, _⟩
          · rw [h1] at h2
            injection h2 with h2
            exact absurd h2 hji
          · rw [h2] at h1
            rw [if_neg h0] at hc'
            have := h.near k j hk hj (.inl h1)
            have := h.near i j hi hj (.inl h1)
            split
            · rename_i hh
              rw [hh.2] at *
              omega
            · omega
        · rw [hlk j hji] at h1
          have hnj : newL (looksF S) ≠ (j, true) := by
            intro hh
            have := (newL_at.1 hh).2.1
            unfold begunL at h1
            simp only [Bool.or_eq_false_iff, decide_eq_false_iff_not] at h1
            exact h1.1 this
          have := h.near k j hk hj (.inr h1)
          have := hmin j hj hnj
          split
          · rename_i hh
            rw [hh.2] at *
            omega
          · omega
theorem sum_set : ∀ (l : List Nat) (i : Nat), i < l.length → (l.set i (l.getD i 0 + 1)).sum = l.sum + 1 := by
  intro l
  induction l with
  | nil => intro i h; simp at h
  | cons x l ih =>
    intro i h
    cases i with
    | zero => simp; omega
    | succ i =>
      simp only [List.set_cons_succ, List.sum_cons]
      have := ih i (by simpa using h)
      simp only [List.getD_cons_succ]
      omega
theorem wear_sum (hs : StepR S S' J' kd (numJ (openJ S) + 1) d e i y er) : S'.wear.sum = S.wear.sum + er.toNat := by
  rw [hs.wear]
  cases er
  · rfl
  · exact sum_set _ _ hs.hi
theorem le_sum : ∀ (l : List Nat) (j : Nat), l.getD j 0 ≤ l.sum := by
  intro l
  induction l with
  | nil => intro j; simp
  | cons x l ih =>
    intro j
    cases j with
    | zero => simp
    | succ j =>
      have := ih j
      simp only [List.getD_cons_succ, List.sum_cons]
      omega
end
/-- a flash that is erased -/
def newF (n : Nat) (most : Int) : FS := ⟨List.replicate (n * 1024) 255, List.replicate n 0, most, false, -1, 0, 0⟩
theorem newF_looks (n : Nat) (most : Int) : looksF (newF n most) = List.replicate n ⟨0, 0, [], 0, 0, true⟩ := by
  apply List.ext_getElem?
  intro j
  by_cases hj : j < n
  · rw [looksF_at _ (by simp [newF]; exact hj), List.getElem?_replicate, if_pos hj]
    have hs : secB (newF n most).b j = List.replicate 1024 255 := by
      unfold secB newF
      simp only [List.drop_replicate, List.take_replicate]
      congr 1
      omega
    rw [hs]
    obtain ⟨c, h1, h2⟩ := look_erased (List.replicate 1024 255) 1024 (by omega) (by rw [List.length_replicate]; exact Nat.le_refl _)
    have h3 : put (List.replicate 1024 255) 0 (List.replicate 1024 255) = List.replicate 1024 (255 : UInt8) := by
      unfold put
      rw [List.take_zero, List.nil_append, List.drop_eq_nil_of_le (by rw [List.length_replicate]; omega), List.append_nil]
    rw [h3] at h1
    rw [h1, h2 (by rw [List.length_replicate])]
  · rw [List.getElem?_eq_none (by rw [looksF_len]; simp [newF]; omega), List.getElem?_eq_none (by simp; omega)]
theorem newF_new (n : Nat) (most : Int) : newL (looksF (newF n most)) = (0, false) := by
  refine newL_none.2 ?_
  intro j hj
  rw [newF_looks] at hj ⊢
  rw [List.length_replicate] at hj
  rw [List.getD_eq_getElem?_getD, List.getElem?_replicate, if_pos hj]
  rfl
theorem newF_fresh (n : Nat) (most : Int) (h3 : 3 ≤ n) (hm : 0 < most) : Fresh (newF n most) 0 := by
  refine ⟨by simp [newF]; omega, by simp [newF]; omega, ?_, hm, ?_, by omega⟩
  · intro j hj
    simp only [newF] at hj ⊢
    rw [List.length_replicate] at hj
    rw [List.getD_eq_getElem?_getD, List.getElem?_replicate, if_pos hj]
    exact Nat.le_refl _
  · rw [← recS_num, recS_has _ (by rw [newF_new])]
    exact Nat.le_refl _
theorem newF_winv (n : Nat) (most : Int) : WInv (newF n most) 0 := by
  have h : ∀ j, j < n → (newF n most).wear.getD j 0 = 0 := by
    intro j hj
    simp only [newF]
    rw [List.getD_eq_getElem?_getD, List.getElem?_replicate, if_pos hj]
    rfl
  have hn : (newF n most).wear.length = n := by simp [newF]
  exact ⟨fun k j hk hj => by rw [h k (by omega)]; omega, fun k j hk hj _ => by rw [h k (by omega)]; omega⟩
end Go.Proofs.Ytfddfgonhgidbaa
