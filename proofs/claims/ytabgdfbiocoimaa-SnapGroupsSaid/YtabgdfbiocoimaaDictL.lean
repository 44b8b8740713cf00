/- Dictionaries, plain: sorted entries, the place that a search by halves finds, what a linear search finds. No program in sight. -/
import Derived.Test.YtabgdfbiocoimaaEntL
namespace Go.Proofs.Ytabgdfbiocoimaa
set_option linter.unusedVariables false
set_option linter.unusedSimpArgs false
set_option linter.unnecessarySimpa false
open Go.RowKit

def befE (E : Ent) (ix sub : Int) : Bool := beforeB E.ix E.sub ix sub
def SortedE (L : List Ent) : Prop := L.Pairwise fun a b => befE a b.ix b.sub = true
theorem bef_iff (a b c d : Int) : beforeB a b c d = true ↔ (a < c ∨ a = c ∧ b < d) := by unfold beforeB; exact decide_eq_true_iff
theorem bef_trans (a b c d e f : Int) (h : beforeB a b c d = true) (k : beforeB c d e f = true) : beforeB a b e f = true := by
  rw [bef_iff] at *
  omega
/-- sorted, if each entry stands ahead of the next one -/
theorem sorted_snoc (L : List Ent) (E : Ent) (h : SortedE L) (hl : ∀ D, L.getLast? = some D → befE D E.ix E.sub = true) : SortedE (L ++ [E]) := by
  unfold SortedE at *
  rw [List.pairwise_append]
  refine ⟨h, List.pairwise_singleton _ _, ?_⟩
  intro a ha b hb
  rw [List.mem_singleton] at hb
  subst hb
  rcases List.eq_nil_or_concat L with rfl | ⟨M, D, rfl⟩
  · cases ha
  · have hD := hl D (by simp)
    rw [List.concat_eq_append] at *
    rw [List.mem_append, List.mem_singleton] at ha
    rcases ha with ha | rfl
    · have := (List.pairwise_append.1 h).2.2 a ha D (by simp)
      exact bef_trans _ _ _ _ _ _ this hD
    · exact hD
/-- the number of the first entry that does not stand ahead of a place -/
def seekL (L : List Ent) (ix sub : Int) : Nat := (L.takeWhile fun E => befE E ix sub).length
theorem seek_le (L : List Ent) (ix sub : Int) : seekL L ix sub ≤ L.length := by
  unfold seekL
  exact (List.takeWhile_prefix _).length_le
theorem seek_lt (L : List Ent) (ix sub : Int) (i : Nat) (E : Ent) (hi : i < seekL L ix sub) (hE : L[i]? = some E) : befE E ix sub = true := by
  induction L generalizing i with
  | nil => simp at hE
  | cons D L ih =>
    unfold seekL at hi
    rw [List.takeWhile_cons] at hi
    split at hi
    · rename_i hD
      cases i with
      | zero => simp at hE; subst hE; exact hD
      | succ i => exact ih i (by unfold seekL; simpa using hi) (by simpa using hE)
    · simp at hi
theorem seek_ge (L : List Ent) (ix sub : Int) (hs : SortedE L) (i : Nat) (E : Ent) (hi : seekL L ix sub ≤ i) (hE : L[i]? = some E) : befE E ix sub = false := by
  induction L generalizing i with
  | nil => simp at hE
  | cons D L ih =>
    unfold SortedE at hs
    rw [List.pairwise_cons] at hs
    unfold seekL at hi
    rw [List.takeWhile_cons] at hi
    split at hi
    · rename_i hD
      cases i with
      | zero => simp at hi
      | succ i => exact ih hs.2 i (by unfold seekL; simpa using hi) (by simpa using hE)
    · rename_i hD
      cases i with
      | zero => simp at hE; subst hE; simpa using hD
      | succ i =>
        have hm : E ∈ L := List.mem_of_getElem? (by simpa using hE)
        have h1 := hs.1 E hm
        cases hb : befE E ix sub
        · rfl
        · exact absurd (bef_trans _ _ _ _ _ _ h1 hb) (by simpa [befE] using hD)
/-- one half's step: entry m stands ahead of the place just if m is below the number sought -/
theorem seek_half (L : List Ent) (ix sub : Int) (hs : SortedE L) (m : Nat) (E : Ent) (hE : L[m]? = some E) : befE E ix sub = decide (m < seekL L ix sub) := by
  rcases Nat.lt_or_ge m (seekL L ix sub) with h | h
  · rw [seek_lt L ix sub m E h hE, decide_eq_true h]
  · rw [seek_ge L ix sub hs m E h hE, decide_eq_false (by omega)]
/-- what a linear search finds: -2: no entry of that index; -1: none of that place; else its number (the last one) -/
def findA : List Ent → Int → Int → Nat → Int → Int
  | [], _, _, _, k => k
  | E :: L, ix, sub, i, k => findA L ix sub (i + 1) (if E.ix ≠ ix then k else if E.sub = sub then (i : Int) else if k = -2 then -1 else k)
def findL (L : List Ent) (ix sub : Int) : Int := findA L ix sub 0 (-2)
theorem findA_none (L : List Ent) (ix sub : Int) (i : Nat) (k : Int) (h : ∀ E ∈ L, E.ix ≠ ix) : findA L ix sub i k = k := by
  induction L generalizing i k with
  | nil => rfl
  | cons D L ih =>
    rw [findA, if_pos (h D (by simp))]
    exact ih _ _ (fun E hE => h E (by simp [hE]))
theorem findA_off (L : List Ent) (ix sub : Int) (i : Nat) (k : Int) (h : ∀ E ∈ L, ¬ (E.ix = ix ∧ E.sub = sub)) : findA L ix sub i k = if k = -2 ∧ (∃ E ∈ L, E.ix = ix) then -1 else k := by
  induction L generalizing i k with
  | nil => simp [findA]
  | cons D L ih =>
    have hr := fun k' => ih (i + 1) k' (fun E hE => h E (by simp [hE]))
    rw [findA, hr]
    by_cases hD : D.ix = ix
    · have hs : D.sub ≠ sub := fun e => h D (by simp) ⟨hD, e⟩
      rw [if_neg (show ¬ D.ix ≠ ix from fun h => h hD), if_neg hs]
      by_cases hk : k = -2
      · subst hk
        simp [hD]
      · simp [hk]
    · rw [if_pos hD]
      have : (∃ E ∈ D :: L, E.ix = ix) ↔ (∃ E ∈ L, E.ix = ix) := by
        constructor
        · rintro ⟨E, hE, e⟩
          rcases List.mem_cons.1 hE with rfl | hE
          · exact absurd e hD
          · exact ⟨E, hE, e⟩
        · rintro ⟨E, hE, e⟩
          exact ⟨E, by simp [hE], e⟩
      simp only [this]
theorem findA_at (L M : List Ent) (E : Ent) (ix sub : Int) (i : Nat) (k : Int) (hE : E.ix = ix ∧ E.sub = sub) (hM : ∀ D ∈ M, ¬ (D.ix = ix ∧ D.sub = sub)) : findA (L ++ E :: M) ix sub i k = ((i + L.length : Nat) : Int) := by
  induction L generalizing i k with
  | nil =>
    rw [List.nil_append, findA, if_neg (show ¬ E.ix ≠ ix from fun h => h hE.1), if_pos hE.2, findA_off M ix sub _ _ hM]
    rw [if_neg (by rintro ⟨h, _⟩; omega)]
    rfl
  | cons D L ih =>
    rw [List.cons_append, findA, ih]
    simp only [List.length_cons]
    congr 1
    omega
theorem sorted_lt (L : List Ent) (hs : SortedE L) (i j : Nat) (E D : Ent) (hi : L[i]? = some E) (hj : L[j]? = some D) (hij : i < j) : befE E D.ix D.sub = true := by
  obtain ⟨h1, e1⟩ := List.getElem?_eq_some_iff.1 hi
  obtain ⟨h2, e2⟩ := List.getElem?_eq_some_iff.1 hj
  have := List.pairwise_iff_getElem.1 hs i j h1 h2 hij
  rw [e1, e2] at this
  exact this
def hereB (o : Option Ent) (ix sub : Int) : Bool := match o with | some E => decide (E.ix = ix) && decide (E.sub = sub) | none => false
def nearB (o : Option Ent) (ix : Int) : Bool := match o with | some E => decide (E.ix = ix) | none => false
/-- the entry of a place is the one that the search by halves ends at -/
theorem find_here (L : List Ent) (ix sub : Int) (hs : SortedE L) (h : hereB L[seekL L ix sub]? ix sub = true) : findL L ix sub = (seekL L ix sub : Nat) := by
  cases hk : L[seekL L ix sub]? with
  | none => rw [hk] at h; cases h
  | some E =>
    rw [hk] at h
    simp only [hereB, Bool.and_eq_true, decide_eq_true_iff] at h
    obtain ⟨h1, e1⟩ := List.getElem?_eq_some_iff.1 hk
    generalize seekL L ix sub = k at *
    have hL : L = L.take k ++ E :: L.drop (k + 1) := by
      rw [← e1]
      simp
    have hM : ∀ D ∈ L.drop (k + 1), ¬ (D.ix = ix ∧ D.sub = sub) := by
      intro D hD hp
      obtain ⟨j, hj, e⟩ := List.getElem_of_mem hD
      have hj' : L[k + 1 + j]? = some D := by
        rw [← e, List.getElem_drop]
        rw [List.length_drop] at hj
        exact List.getElem?_eq_getElem _
      have := sorted_lt L hs k (k + 1 + j) E D hk hj' (by omega)
      unfold befE at this
      rw [bef_iff] at this
      omega
    have := findA_at (L.take k) (L.drop (k + 1)) E ix sub 0 (-2) h hM
    unfold findL
    rw [← hL, List.length_take] at this
    rw [this]
    congr 1
    omega
theorem not_here (L : List Ent) (ix sub : Int) (hs : SortedE L) (h : hereB L[seekL L ix sub]? ix sub = false) : ∀ E ∈ L, ¬ (E.ix = ix ∧ E.sub = sub) := by
  intro E hE hp
  obtain ⟨i, hi, e⟩ := List.getElem_of_mem hE
  have hi' : L[i]? = some E := by rw [← e]; exact List.getElem?_eq_getElem _
  have hge : seekL L ix sub ≤ i := by
    rcases Nat.lt_or_ge i (seekL L ix sub) with hl | hg
    · have := seek_lt L ix sub i E hl hi'
      unfold befE at this
      rw [bef_iff] at this
      omega
    · exact hg
  have hk : seekL L ix sub < L.length := by omega
  have hD := List.getElem?_eq_getElem hk
  rw [hD] at h
  have h1 := seek_ge L ix sub hs _ _ (Nat.le_refl _) hD
  generalize hDD : L[seekL L ix sub] = D at *
  simp only [hereB] at h
  rcases Nat.lt_or_ge (seekL L ix sub) i with hl | hg
  · have h2 := sorted_lt L hs _ i D E hD hi' hl
    unfold befE at h1 h2
    rw [bef_iff] at h2
    have h3 : ¬ (D.ix < ix ∨ D.ix = ix ∧ D.sub < sub) := fun hh => by rw [(bef_iff _ _ _ _).2 hh] at h1; cases h1
    omega
  · have hei : seekL L ix sub = i := by omega
    rw [hei, hi'] at hD
    injection hD with hD
    subst hD
    simp [hp.1, hp.2] at h
theorem find_near (L : List Ent) (ix sub : Int) (hs : SortedE L) (h : hereB L[seekL L ix sub]? ix sub = false) (hn : nearB L[seekL L ix sub]? ix = true ∨ (1 ≤ seekL L ix sub ∧ nearB L[seekL L ix sub - 1]? ix = true)) : findL L ix sub = -1 := by
  unfold findL
  rw [findA_off L ix sub 0 (-2) (not_here L ix sub hs h), if_pos]
  refine ⟨rfl, ?_⟩
  rcases hn with hn | ⟨_, hn⟩
  · cases hk : L[seekL L ix sub]? with
    | none => rw [hk] at hn; cases hn
    | some E => rw [hk] at hn; exact ⟨E, List.mem_of_getElem? hk, by simpa [nearB] using hn⟩
  · cases hk : L[seekL L ix sub - 1]? with
    | none => rw [hk] at hn; cases hn
    | some E => rw [hk] at hn; exact ⟨E, List.mem_of_getElem? hk, by simpa [nearB] using hn⟩
theorem find_far (L : List Ent) (ix sub : Int) (hs : SortedE L) (h1 : nearB L[seekL L ix sub]? ix = false) (h2 : 1 ≤ seekL L ix sub → nearB L[seekL L ix sub - 1]? ix = false) : findL L ix sub = -2 := by
  refine findA_none L ix sub 0 (-2) ?_
  intro E hE hp
  obtain ⟨i, hi, e⟩ := List.getElem_of_mem hE
  have hi' : L[i]? = some E := by rw [← e]; exact List.getElem?_eq_getElem _
  rcases Nat.lt_or_ge i (seekL L ix sub) with hl | hg
  · have hk : seekL L ix sub - 1 < L.length := by have := seek_le L ix sub; omega
    have hD := List.getElem?_eq_getElem hk
    have h3 := h2 (by omega)
    have h4 := seek_lt L ix sub _ _ (show seekL L ix sub - 1 < seekL L ix sub by omega) hD
    rw [hD] at h3
    generalize L[seekL L ix sub - 1] = D at *
    simp only [nearB, decide_eq_false_iff_not] at h3
    unfold befE at h4
    rw [bef_iff] at h4
    rcases Nat.lt_or_ge i (seekL L ix sub - 1) with hl2 | hg2
    · have h5 := sorted_lt L hs i _ E D hi' hD hl2
      unfold befE at h5
      rw [bef_iff] at h5
      omega
    · rw [show seekL L ix sub - 1 = i by omega, hi'] at hD
      injection hD with hD
      subst hD
      exact h3 hp
  · have hk : seekL L ix sub < L.length := by omega
    have hD := List.getElem?_eq_getElem hk
    have h4 := seek_ge L ix sub hs _ _ (Nat.le_refl _) hD
    rw [hD] at h1
    generalize L[seekL L ix sub] = D at *
    simp only [nearB, decide_eq_false_iff_not] at h1
    have h6 : ¬ (D.ix < ix ∨ D.ix = ix ∧ D.sub < sub) := fun hh => by unfold befE at h4; rw [(bef_iff _ _ _ _).2 hh] at h4; cases h4
    rcases Nat.lt_or_ge (seekL L ix sub) i with hl2 | hg2
    · have h5 := sorted_lt L hs _ i D E hD hi' hl2
      unfold befE at h5
      rw [bef_iff] at h5
      omega
    · rw [show seekL L ix sub = i by omega, hi'] at hD
      injection hD with hD
      subst hD
      exact h1 hp
end Go.Proofs.Ytabgdfbiocoimaa
