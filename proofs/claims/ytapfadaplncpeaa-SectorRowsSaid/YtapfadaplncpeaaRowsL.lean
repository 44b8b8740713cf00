/- Records laid one behind the other: what a sector's look says of them. No walk. -/
import Derived.Test.YtapfadaplncpeaaSecF
namespace Go.Proofs.Ytapfadaplncpeaa
set_option linter.unusedVariables false
set_option linter.unusedSimpArgs false
set_option linter.unnecessarySimpa false
set_option maxHeartbeats 400000

def rowsB (num : Nat) (D : List (List UInt8)) : Nat → List UInt8
  | 0 => []
  | k + 1 => rowsB num D k ++ recB 1 ((num + k : Nat)) (D.getD k [])
def rowsX (num : Nat) (D : List (List UInt8)) : Nat → LK
  | 0 => lookZ
  | k + 1 => ⟨1, num + k, D.getD k [], k + 1, (rowsB num D (k + 1)).length, false⟩
theorem rowsX_cnt (num : Nat) (D : List (List UInt8)) (k : Nat) : (rowsX num D k).cnt = k := by cases k <;> rfl
theorem rowsX_en (num : Nat) (D : List (List UInt8)) (k : Nat) : (rowsX num D k).en = (rowsB num D k).length := by cases k <;> rfl
theorem right_row (num n : Nat) (h : 1 ≤ num) (hn : n ≤ 960) : rightR 1 num n = 0 := by
  unfold rightR
  rw [if_neg (by omega), if_neg (by omega), if_neg (by decide), if_neg (by omega)]
def Small (D : List (List UInt8)) (k : Nat) : Prop := ∀ j, j < k → (D.getD j []).length ≤ 960
theorem rowsB_succ_len (num : Nat) (D : List (List UInt8)) (k : Nat) (h1 : 1 ≤ num) (h2 : num + k ≤ 4294967295) (hs : (D.getD k []).length ≤ 960) : (rowsB num D (k + 1)).length = (rowsB num D k).length + (D.getD k []).length + 13 := by
  obtain ⟨_, hl⟩ := build_parse_rec [] [] (D.getD k []) 1 (num + k) (right_row _ _ (by omega) hs) (by unfold U32; omega)
  rw [rowsB, List.length_append, hl]; omega
theorem rowsB_len (num : Nat) (D : List (List UInt8)) (k : Nat) (h1 : 1 ≤ num) (h2 : num + k ≤ 4294967296) (hs : Small D k) : 13 * k ≤ (rowsB num D k).length ∧ (rowsB num D k).length ≤ 973 * k := by
  induction k with
  | zero => simp [rowsB]
  | succ k ih =>
    have h := ih (by omega) (fun j hj => hs j (by omega))
    have := rowsB_succ_len num D k h1 (by omega) (hs k (by omega))
    have := hs k (by omega)
    omega
/-- the bytes from record k on -/
theorem rowsB_split (num : Nat) (D : List (List UInt8)) (n k : Nat) (h : k < n) : ∃ r, rowsB num D n = rowsB num D k ++ (recB 1 ((num + k : Nat)) (D.getD k []) ++ r) := by
  induction n with
  | zero => omega
  | succ n ih =>
    by_cases hk : k = n
    · subst hk
      exact ⟨[], by rw [rowsB, List.append_nil]⟩
    · obtain ⟨r, hr⟩ := ih (by omega)
      exact ⟨r ++ recB 1 ((num + n : Nat)) (D.getD n []), by rw [rowsB, hr]; simp⟩
theorem rows_parse (num : Nat) (D : List (List UInt8)) (n k : Nat) (tl : List UInt8) (h1 : 1 ≤ num) (h2 : num + n ≤ 4294967295) (hs : Small D n) (hk : k < n) :
    recParse (rowsB num D n ++ tl) ((rowsB num D k).length : Nat) = ⟨1, num + k, D.getD k [], ((rowsB num D (k + 1)).length : Nat), 0⟩ := by
  obtain ⟨r, hr⟩ := rowsB_split num D n k hk
  have hsk := hs k hk
  obtain ⟨hp, hl⟩ := build_parse_rec (rowsB num D k) (r ++ tl) (D.getD k []) 1 (num + k) (right_row _ _ (by omega) hsk) (by unfold U32; omega)
  rw [hr]
  simp only [List.append_assoc] at hp ⊢
  rw [hp]
  have := rowsB_succ_len num D k h1 (by omega) hsk
  rw [this]
  congr 1
theorem stop_rows (num : Nat) (D : List (List UInt8)) (n : Nat) (p : PR) (h2 : num + n ≤ 2147483648 + 100) : stopB (rowsX num D n) p = true ↔ ¬ (p.er = 0 ∧ (n = 0 ∨ p.num = num + n)) := by
  cases n with
  | zero =>
    have : stopB (rowsX num D 0) p = (decide (p.er ≠ 0) || (decide (0 < 0) && (decide (0 = 4294967295) || decide (p.num ≠ 0 + 1)))) := rfl
    rw [this]
    simp
  | succ n =>
    have : stopB (rowsX num D (n + 1)) p = (decide (p.er ≠ 0) || (decide (0 < n + 1) && (decide (num + n = 4294967295) || decide (p.num ≠ num + n + 1)))) := rfl
    rw [this]
    simp only [Bool.or_eq_true, Bool.and_eq_true, decide_eq_true_eq]
    omega
theorem rows_step (num : Nat) (D : List (List UInt8)) (n k f : Nat) (tl : List UInt8) (h1 : 1 ≤ num) (h2 : num + n ≤ 2147483648 + 100) (hs : Small D n) (hk : k < n) :
    lookF (rowsB num D n ++ tl) (f + 1) (rowsX num D k) = lookF (rowsB num D n ++ tl) f (rowsX num D (k + 1)) := by
  have hp := rows_parse num D n k tl h1 (by omega) hs hk
  rw [← rowsX_en] at hp
  have hl := rowsB_succ_len num D k h1 (by omega) (hs k hk)
  have hst : stopB (rowsX num D k) ⟨1, num + k, D.getD k [], ((rowsB num D (k + 1)).length : Nat), 0⟩ = false := by
    cases hb : stopB (rowsX num D k) ⟨1, num + k, D.getD k [], ((rowsB num D (k + 1)).length : Nat), 0⟩ with
    | false => rfl
    | true => exact absurd ⟨rfl, .inr rfl⟩ ((stop_rows num D k _ (by omega)).1 hb)
  rw [look_go (by rw [hp]; exact hst), hp]
  simp only []
  rw [rowsX_cnt, rowsX_en]
  congr 1
  simp only [rowsX, LK.mk.injEq, true_and, and_true]
  omega
theorem rows_all (num : Nat) (D : List (List UInt8)) (n k f : Nat) (tl : List UInt8) (h1 : 1 ≤ num) (h2 : num + n ≤ 2147483648 + 100) (hs : Small D n) (hk : k ≤ n) :
    lookF (rowsB num D n ++ tl) (f + k) lookZ = lookF (rowsB num D n ++ tl) f (rowsX num D k) := by
  induction k generalizing f with
  | zero => rfl
  | succ k ih =>
    rw [show f + (k + 1) = (f + 1) + k by omega, ih (f + 1) (by omega), rows_step num D n k f tl h1 h2 hs (by omega)]
theorem cnt_le (l : List UInt8) (f : Nat) (x : LK) : x.cnt ≤ (lookF l f x).cnt := by
  induction f generalizing x with
  | zero => exact Nat.le_refl _
  | succ f ih =>
    rw [lookF]
    split
    · exact Nat.le_refl _
    · refine Nat.le_trans ?_ (ih _)
      exact Nat.le_succ _
theorem rows_look (num : Nat) (D : List (List UInt8)) (n : Nat) (tl : List UInt8) (h1 : 1 ≤ num) (h2 : num + n ≤ 2147483648 + 100) (hs : Small D n) (p : PR) (hp : p = recParse (rowsB num D n ++ tl) ((rowsB num D n).length : Nat)) :
    ((p.er = 0 ∧ (n = 0 ∨ p.num = num + n)) → n < (lookL (rowsB num D n ++ tl)).cnt) ∧
    (¬ (p.er = 0 ∧ (n = 0 ∨ p.num = num + n)) → (lookL (rowsB num D n ++ tl)).cnt = n ∧ (lookL (rowsB num D n ++ tl)).en = (rowsB num D n).length ∧ (lookL (rowsB num D n ++ tl)).cl = blankB tl ∧
      (0 < n → (lookL (rowsB num D n ++ tl)).m = num + n - 1 ∧ (lookL (rowsB num D n ++ tl)).d = D.getD (n - 1) [])) := by
  have hlen := rowsB_len num D n h1 (by omega) hs
  obtain ⟨f, hf⟩ : ∃ f, (rowsB num D n ++ tl).length = f + n := ⟨(rowsB num D n ++ tl).length - n, by rw [List.length_append]; omega⟩
  have hE : lookE (rowsB num D n ++ tl) = lookF (rowsB num D n ++ tl) f (rowsX num D n) := by
    unfold lookE
    rw [hf, rows_all num D n n f tl h1 h2 hs (Nat.le_refl _)]
  have hp' : p = recParse (rowsB num D n ++ tl) ((rowsX num D n).en : Nat) := by rw [rowsX_en]; exact hp
  have hstop := stop_rows num D n p h2
  constructor
  · intro h
    have hs0 : stopB (rowsX num D n) p = false := by
      cases hb : stopB (rowsX num D n) p with
      | false => rfl
      | true => exact absurd h (hstop.1 hb)
    have hto := (parse_to (rowsB num D n ++ tl) (rowsX num D n).en (by rw [← hp']; exact h.1)).2.1
    rw [rowsX_en] at hto
    obtain ⟨f', rfl⟩ : ∃ f', f = f' + 1 := ⟨f - 1, by omega⟩
    show n < (lookE (rowsB num D n ++ tl)).cnt
    rw [hE, look_go (by rw [← hp']; exact hs0)]
    refine Nat.lt_of_lt_of_le ?_ (cnt_le _ _ _)
    simp only [rowsX_cnt]
    omega
  · intro h
    have hs1 := hstop.2 h
    have hE2 : lookE (rowsB num D n ++ tl) = rowsX num D n := by rw [hE, look_stop (by rw [← hp']; exact hs1)]
    unfold lookL
    simp only [hE2]
    refine ⟨rowsX_cnt _ _ _, rowsX_en _ _ _, by rw [rowsX_en, List.drop_left], ?_⟩
    intro hn
    obtain ⟨n, rfl⟩ : ∃ n', n = n' + 1 := ⟨n - 1, by omega⟩
    simp only [rowsX]
    exact ⟨by omega, rfl⟩
end Go.Proofs.Ytapfadaplncpeaa
