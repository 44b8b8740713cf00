/- Dictionaries, plain: what is set, and where. No program in sight. -/
import Derived.Test.YtabgdfbiocoimaaDicP
namespace Go.Proofs.Ytabgdfbiocoimaa
set_option linter.unusedVariables false
set_option linter.unusedSimpArgs false
set_option linter.unnecessarySimpa false
open Go.RowKit
/-- the first k values are the defaults -/
def rsV (L : List Ent) (V : List (List UInt8)) (k : Nat) : List (List UInt8) := (L.take k).map Ent.df ++ V.drop k
theorem rs_step {L : List Ent} {V : List (List UInt8)} {k : Nat} {E : Ent} (hE : L[k]? = some E) (hV : V.length = L.length) : (rsV L V k).set k E.df = rsV L V (k + 1) := by
  obtain ⟨hk, rfl⟩ := List.getElem?_eq_some_iff.1 hE
  have hkv : k < V.length := by omega
  unfold rsV
  rw [List.set_append_right _ _ (by simp; omega)]
  rw [List.take_succ_eq_append_getElem hk, List.map_append, List.append_assoc]
  congr 1
  simp only [List.length_map, List.length_take, Nat.min_eq_left (Nat.le_of_lt hk), Nat.sub_self]
  rw [List.drop_eq_getElem_cons hkv, List.set_cons_zero]
  rfl
theorem rs_zero (L : List Ent) (V : List (List UInt8)) : rsV L V 0 = V := by simp [rsV]
theorem rs_full {L : List Ent} {V : List (List UInt8)} {k : Nat} (hV : V.length = L.length) (hk : k = L.length) : rsV L V k = L.map Ent.df := by
  subst hk
  simp [rsV, ← hV]
  rw [List.take_of_length_le (by simp [hV])]
theorem rs_len {L : List Ent} {V : List (List UInt8)} {k : Nat} (hV : V.length = L.length) : (rsV L V k).length = L.length := by simp [rsV]; omega
/-- an entry of a sorted list is found where it stands -/
theorem find_self {L : List Ent} (hs : SortedE L) {k : Nat} {E : Ent} (hE : L[k]? = some E) : findL L E.ix E.sub = (k : Nat) := by
  obtain ⟨hk, e⟩ := List.getElem?_eq_some_iff.1 hE
  have hL : L = L.take k ++ E :: L.drop (k + 1) := by
    rw [← e]
    simp
  have hM : ∀ D ∈ L.drop (k + 1), ¬ (D.ix = E.ix ∧ D.sub = E.sub) := by
    intro D hD hp
    obtain ⟨j, hj, e2⟩ := List.getElem_of_mem hD
    have hj' : L[k + 1 + j]? = some D := by
      rw [← e2, List.getElem_drop]
      rw [List.length_drop] at hj
      exact List.getElem?_eq_getElem _
    have := sorted_lt L hs k (k + 1 + j) E D hE hj' (by omega)
    unfold befE at this
    rw [bef_iff] at this
    omega
  have := findA_at (L.take k) (L.drop (k + 1)) E E.ix E.sub 0 (-2) ⟨rfl, rfl⟩ hM
  unfold findL
  rw [← hL, List.length_take] at this
  rw [this]
  congr 1
  omega
theorem place_one {L : List Ent} (hs : SortedE L) {k : Nat} {E : Ent} {ix sub : Int} (hE : L[k]? = some E) (h : E.ix = ix ∧ E.sub = sub) : locK L ix sub = k ∧ codeL L ix sub = 0 := by
  obtain ⟨rfl, rfl⟩ := h
  have := find_self hs hE
  exact ⟨by unfold locK; rw [this]; rfl, code_zero.2 (by rw [this]; omega)⟩
theorem loc_at {L : List Ent} (hs : SortedE L) {ix sub : Int} (h : codeL L ix sub = 0) : ∃ E, L[locK L ix sub]? = some E ∧ E.ix = ix ∧ E.sub = sub := by
  have h0 := code_zero.1 h
  rcases find_cases L ix sub hs with ⟨h1, h2, h3⟩ | ⟨_, _, h2⟩ | ⟨_, _, _, h2⟩ | ⟨_, _, _, h2⟩
  · have hk : locK L ix sub = seekL L ix sub := by unfold locK; rw [h2]; rfl
    rw [hk]
    cases hE : L[seekL L ix sub]? with
    | none => rw [hE] at h1; cases h1
    | some E =>
      rw [hE] at h1
      simp only [hereB, Bool.and_eq_true, decide_eq_true_eq] at h1
      exact ⟨E, rfl, h1.1, h1.2⟩
  all_goals omega
theorem may_code {L : List Ent} {ix sub : Int} {b : List UInt8} {any : Bool} (h : mayC L ix sub b any = 0) : codeL L ix sub = 0 := by
  unfold mayC at h
  split at h
  · assumption
  · exact h
theorem put_at {L : List Ent} (hs : SortedE L) {V : List (List UInt8)} (hV : V.length = L.length) {k : Nat} {E : Ent} (hE : L[k]? = some E) (ix sub : Int) (b : List UInt8) (any : Bool) :
    (putV L V ix sub b any)[k]? = if E.ix = ix ∧ E.sub = sub ∧ mayC L ix sub b any = 0 then some b else V[k]? := by
  unfold putV
  have hk : k < V.length := by rw [hV]; exact (List.getElem?_eq_some_iff.1 hE).1
  by_cases hm : mayC L ix sub b any = 0
  · rw [if_pos hm]
    by_cases hp : E.ix = ix ∧ E.sub = sub
    · rw [if_pos ⟨hp.1, hp.2, hm⟩, (place_one hs hE hp).1, List.getElem?_set_self hk]
    · rw [if_neg (fun h => hp ⟨h.1, h.2.1⟩), List.getElem?_set_ne]
      intro he
      obtain ⟨D, hD, h1, h2⟩ := loc_at hs (may_code hm)
      rw [he, hE] at hD
      injection hD with hD
      subst hD
      exact hp ⟨h1, h2⟩
  · rw [if_neg hm, if_neg (fun h => hm h.2.2)]
theorem put_get {L : List Ent} (hs : SortedE L) {V : List (List UInt8)} (hV : V.length = L.length) {ix sub : Int} {b : List UInt8} {any : Bool} (hm : mayC L ix sub b any = 0) : valK (putV L V ix sub b any) (locK L ix sub) = b := by
  obtain ⟨E, hE, h1, h2⟩ := loc_at hs (may_code hm)
  exact valK_at (by rw [put_at hs hV hE, if_pos ⟨h1, h2, hm⟩])
end Go.Proofs.Ytabgdfbiocoimaa
