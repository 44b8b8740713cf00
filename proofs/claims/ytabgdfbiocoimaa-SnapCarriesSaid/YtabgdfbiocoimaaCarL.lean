/- Values carried from one dictionary to another one of the same entries, plain. No program in sight. -/
import Derived.Test.YtabgdfbiocoimaaSnpG
import Derived.Test.YtabgdfbiocoimaaSnpC
import Derived.Test.YtabgdfbiocoimaaDicValL
namespace Go.Proofs.Ytabgdfbiocoimaa
set_option linter.unusedVariables false
set_option linter.unusedSimpArgs false
set_option linter.unnecessarySimpa false
open Go.RowKit
theorem ofV_mem {L : List Ent} {V : List (List UInt8)} {g : Int} {v : SV} (h : v ∈ ofV L V g) : ∃ (k : Nat) (E : Ent) (u : List UInt8), L[k]? = some E ∧ V[k]? = some u ∧ E.st = true ∧ v = ⟨E.ix, E.sub, u⟩ := by
  induction L generalizing V with
  | nil => cases V <;> simp [ofV] at h
  | cons E L ih =>
    cases V with
    | nil => simp [ofV] at h
    | cons u V =>
      rw [ofV] at h
      split at h
      · rename_i hs
        rcases List.mem_cons.1 h with rfl | h
        · exact ⟨0, E, u, rfl, rfl, hs.1, rfl⟩
        · obtain ⟨k, E', u', h1, h2, h3, h4⟩ := ih h
          exact ⟨k + 1, E', u', by simpa using h1, by simpa using h2, h3, h4⟩
      · obtain ⟨k, E', u', h1, h2, h3, h4⟩ := ih h
        exact ⟨k + 1, E', u', by simpa using h1, by simpa using h2, h3, h4⟩
theorem mem_ofV {L : List Ent} {V : List (List UInt8)} {g : Int} {k : Nat} {E : Ent} {u : List UInt8} (hE : L[k]? = some E) (hv : V[k]? = some u) (hs : E.st = true) (hg : inE E.ix g = true) : (⟨E.ix, E.sub, u⟩ : SV) ∈ ofV L V g := by
  induction L generalizing V k with
  | nil => simp at hE
  | cons D L ih =>
    cases V with
    | nil => simp at hv
    | cons x V =>
      rw [ofV]
      cases k with
      | zero =>
        simp at hE hv
        subst hE
        subst hv
        rw [if_pos ⟨hs, hg⟩]
        exact List.mem_cons_self
      | succ k =>
        have := ih (V := V) (k := k) (by simpa using hE) (by simpa using hv)
        split
        · exact List.mem_cons_of_mem _ this
        · exact this
theorem place_inj {L : List Ent} (hs : SortedE L) {k j : Nat} {E D : Ent} (hE : L[k]? = some E) (hD : L[j]? = some D) (h : D.ix = E.ix ∧ D.sub = E.sub) : j = k := by
  have h1 := (place_one hs hE ⟨rfl, rfl⟩).1
  have h2 := (place_one hs hD h).1
  omega
theorem may_self {L : List Ent} (hs : SortedE L) {k : Nat} {E : Ent} (hE : L[k]? = some E) (b : List UInt8) : mayC L E.ix E.sub b true = valC E b := by
  have h := place_one hs hE ⟨rfl, rfl⟩
  unfold mayC
  rw [if_pos h.2, if_neg (by simp), h.1, entK_at hE]
/-- a value of an entry that is stored, as V has it -/
def OfP (L : List Ent) (V : List (List UInt8)) (v : SV) : Prop := ∃ (k : Nat) (E : Ent) (u : List UInt8), L[k]? = some E ∧ V[k]? = some u ∧ E.st = true ∧ valC E u = 0 ∧ v = ⟨E.ix, E.sub, u⟩
theorem of_P {L : List Ent} {V : List (List UInt8)} (hv : ValsP L V) (g : Int) : ∀ v ∈ ofV L V g, OfP L V v := by
  intro v h
  obtain ⟨k, E, u, h1, h2, h3, h4⟩ := ofV_mem h
  exact ⟨k, E, u, h1, h2, h3, hv k E u h1 h2, h4⟩
theorem check_of {L : List Ent} (hs : SortedE L) {V : List (List UInt8)} {X : List SV} (h : ∀ v ∈ X, OfP L V v) : checkL L X = 0 := by
  induction X with
  | nil => rfl
  | cons v X ih =>
    rw [checkL]
    obtain ⟨k, E, u, h1, h2, h3, h4, rfl⟩ := h v (by simp)
    have hc : chkS L ⟨E.ix, E.sub, u⟩ = 0 := by
      have hf := find_self hs h1
      have hl := (place_one hs h1 ⟨rfl, rfl⟩).1
      unfold chkS
      simp only []
      rw [hl, entK_at h1, h3, h4, show hasL L E.ix E.sub = true by unfold hasL; rw [hf]; simp]
      rfl
    rw [hc]
    exact ih (fun v hv => h v (by simp [hv]))
theorem poke_far {L : List Ent} (hs : SortedE L) {V1 : List (List UInt8)} {X : List SV} (h : ∀ v ∈ X, OfP L V1 v) {V : List (List UInt8)} (hV : V.length = L.length) {k : Nat} {E : Ent} (hE : L[k]? = some E) (hst : E.st = false) : (pokeAll L V X)[k]? = V[k]? := by
  unfold pokeAll
  induction X generalizing V with
  | nil => rfl
  | cons v X ih =>
    rw [List.foldl_cons, ih (fun v hv => h v (by simp [hv])) (by rw [putV_length]; exact hV)]
    obtain ⟨j, D, u, h1, h2, h3, h4, rfl⟩ := h v (by simp)
    rw [put_at hs hV hE, if_neg]
    rintro ⟨e1, e2, _⟩
    have := place_inj hs h1 hE ⟨e1, e2⟩
    subst this
    rw [hE] at h1
    injection h1 with h1
    subst h1
    rw [hst] at h3
    cases h3
theorem poke_near {L : List Ent} (hs : SortedE L) {V1 : List (List UInt8)} {X : List SV} (h : ∀ v ∈ X, OfP L V1 v) {V : List (List UInt8)} (hV : V.length = L.length) {k : Nat} {E : Ent} {u : List UInt8} (hE : L[k]? = some E) (hu : V1[k]? = some u)
    (hk : V[k]? = some u ∨ (⟨E.ix, E.sub, u⟩ : SV) ∈ X) : (pokeAll L V X)[k]? = some u := by
  unfold pokeAll
  induction X generalizing V with
  | nil =>
    rcases hk with hk | hk
    · exact hk
    · cases hk
  | cons v X ih =>
    rw [List.foldl_cons]
    refine ih (fun v hv => h v (by simp [hv])) (by rw [putV_length]; exact hV) ?_
    obtain ⟨j, D, x, h1, h2, h3, h4, rfl⟩ := h v (by simp)
    by_cases hp : E.ix = D.ix ∧ E.sub = D.sub
    · left
      have hj := place_inj hs h1 hE hp
      subst hj
      rw [hE] at h1
      injection h1 with h1
      subst h1
      rw [hu] at h2
      injection h2 with h2
      subst h2
      rw [put_at hs hV hE, if_pos ⟨rfl, rfl, by rw [may_self hs hE]; exact h4⟩]
    · rcases hk with hk | hk
      · left
        rw [put_at hs hV hE, if_neg (fun hh => hp ⟨hh.1, hh.2.1⟩)]
        exact hk
      · right
        rcases List.mem_cons.1 hk with hk | hk
        · injection hk with k1 k2 k3
          exact absurd ⟨k1, k2⟩ hp
        · exact hk
theorem ofV_congr {L : List Ent} {V V' : List (List UInt8)} (g : Int) (hV : V.length = L.length) (hV' : V'.length = L.length) (h : ∀ (k : Nat) E, L[k]? = some E → E.st = true → V[k]? = V'[k]?) : ofV L V g = ofV L V' g := by
  induction L generalizing V V' with
  | nil => cases V <;> cases V' <;> rfl
  | cons E L ih =>
    cases V with
    | nil => simp at hV
    | cons u V =>
      cases V' with
      | nil => simp at hV'
      | cons u' V' =>
        rw [ofV, ofV, ih (by simpa using hV) (by simpa using hV') (fun k E hE hs => by have := h (k + 1) E (by simpa using hE) hs; simpa using this)]
        by_cases hs : E.st = true
        · have := h 0 E rfl hs
          simp at this
          rw [this]
        · rw [if_neg (fun hh => hs hh.1), if_neg (fun hh => hs hh.1)]
theorem poke_len (L : List Ent) (V : List (List UInt8)) (X : List SV) : (pokeAll L V X).length = V.length := by
  unfold pokeAll
  induction X generalizing V with
  | nil => rfl
  | cons v X ih => rw [List.foldl_cons, ih, putV_length]
theorem vals_poke {L : List Ent} (hs : SortedE L) {V : List (List UInt8)} (hV : V.length = L.length) (h : ValsP L V) (X : List SV) : ValsP L (pokeAll L V X) := by
  unfold pokeAll
  induction X generalizing V with
  | nil => exact h
  | cons v X ih => rw [List.foldl_cons]; exact ih (by rw [putV_length]; exact hV) (vals_put hs hV h _ _ _ _)
theorem poke_carry {L : List Ent} (hs : SortedE L) {V1 V2 : List (List UInt8)} (h1 : V1.length = L.length) (h2 : V2.length = L.length) (hv : ValsP L V1) :
    checkL L (ofV L V1 1) = 0 ∧ applyV L V2 (ofV L V1 1) = pokeAll L V2 (ofV L V1 1) ∧ ofV L (pokeAll L V2 (ofV L V1 1)) 1 = ofV L V1 1 ∧ ∀ (k : Nat) E, L[k]? = some E → E.st = false → (pokeAll L V2 (ofV L V1 1))[k]? = V2[k]? := by
  have hP := of_P hv 1
  have hc := check_of hs hP
  refine ⟨hc, by unfold applyV; rw [if_pos hc], ?_, fun k E hE hst => poke_far hs hP h2 hE hst⟩
  refine ofV_congr 1 (by rw [poke_len]; exact h2) h1 ?_
  intro k E hE hst
  have hk : k < V1.length := by rw [h1]; exact (List.getElem?_eq_some_iff.1 hE).1
  rw [List.getElem?_eq_getElem hk]
  exact poke_near hs hP h2 hE (List.getElem?_eq_getElem hk) (.inr (mem_ofV hE (List.getElem?_eq_getElem hk) hst (inE_one _)))
end Go.Proofs.Ytabgdfbiocoimaa
