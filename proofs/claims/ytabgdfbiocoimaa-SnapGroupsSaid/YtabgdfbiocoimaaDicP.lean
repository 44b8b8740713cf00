/- Dictionaries, plain: what the calls answer. No program in sight. -/
import Derived.Test.YtabgdfbiocoimaaDictL
namespace Go.Proofs.Ytabgdfbiocoimaa
set_option linter.unusedVariables false
set_option linter.unusedSimpArgs false
set_option linter.unnecessarySimpa false
open Go.RowKit

def zeroE : Ent := ⟨0, 0, ⟨#[]⟩, 0, 0, false, false, 0, 0, 0, []⟩
def nearZ (L : List Ent) (k ix : Int) : Bool := decide (0 ≤ k) && nearB L[k.toNat]? ix
/-- the number of the entry of a place; 0 if there is none -/
def locK (L : List Ent) (ix sub : Int) : Nat := (findL L ix sub).toNat
def hasL (L : List Ent) (ix sub : Int) : Bool := decide (0 ≤ findL L ix sub)
/-- why a place is not there -/
def codeL (L : List Ent) (ix sub : Int) : Int := if 0 ≤ findL L ix sub then 0 else if findL L ix sub = -2 then 100794368 else 101253137
def entK (L : List Ent) (k : Nat) : Ent := L.getD k zeroE
def valK (V : List (List UInt8)) (k : Nat) : List UInt8 := V.getD k []
def getC (L : List Ent) (ix sub : Int) : Int := if codeL L ix sub = 0 then readE (entK L (locK L ix sub)).acc else codeL L ix sub
def valC (E : Ent) (b : List UInt8) : Int := valueE E.ty E.mx E.lo E.hi b
def mayC (L : List Ent) (ix sub : Int) (b : List UInt8) (any : Bool) : Int :=
  if codeL L ix sub = 0 then (if any = false ∧ writeE (entK L (locK L ix sub)).acc ≠ 0 then writeE (entK L (locK L ix sub)).acc else valC (entK L (locK L ix sub)) b) else codeL L ix sub
def putV (L : List Ent) (V : List (List UInt8)) (ix sub : Int) (b : List UInt8) (any : Bool) : List (List UInt8) := if mayC L ix sub b any = 0 then V.set (locK L ix sub) b else V

theorem find_cases (L : List Ent) (ix sub : Int) (hs : SortedE L) :
    (hereB L[seekL L ix sub]? ix sub = true ∧ findL L ix sub = (seekL L ix sub : Nat) ∧ seekL L ix sub < L.length) ∨
    (hereB L[seekL L ix sub]? ix sub = false ∧ nearZ L (seekL L ix sub : Nat) ix = true ∧ findL L ix sub = -1) ∨
    (hereB L[seekL L ix sub]? ix sub = false ∧ nearZ L (seekL L ix sub : Nat) ix = false ∧ nearZ L ((seekL L ix sub : Nat) - 1) ix = true ∧ findL L ix sub = -1) ∨
    (hereB L[seekL L ix sub]? ix sub = false ∧ nearZ L (seekL L ix sub : Nat) ix = false ∧ nearZ L ((seekL L ix sub : Nat) - 1) ix = false ∧ findL L ix sub = -2) := by
  have e1 : nearZ L (seekL L ix sub : Nat) ix = nearB L[seekL L ix sub]? ix := by simp [nearZ]
  have e2 : nearZ L ((seekL L ix sub : Nat) - 1) ix = (decide (1 ≤ seekL L ix sub) && nearB L[seekL L ix sub - 1]? ix) := by
    unfold nearZ
    congr 1
    · rw [Bool.eq_iff_iff]; simp; omega
    · rw [show (((seekL L ix sub : Nat) : Int) - 1).toNat = seekL L ix sub - 1 by omega]
  rw [e1, e2]
  cases h : hereB L[seekL L ix sub]? ix sub
  · right
    cases h1 : nearB L[seekL L ix sub]? ix
    · right
      cases h2 : (decide (1 ≤ seekL L ix sub) && nearB L[seekL L ix sub - 1]? ix)
      · right
        refine ⟨rfl, rfl, rfl, find_far L ix sub hs h1 ?_⟩
        intro h3
        simpa [h3] using h2
      · left
        simp only [Bool.and_eq_true, decide_eq_true_eq] at h2
        exact ⟨rfl, rfl, rfl, find_near L ix sub hs h (.inr h2)⟩
    · left
      exact ⟨rfl, rfl, find_near L ix sub hs h (.inl h1)⟩
  · left
    refine ⟨rfl, find_here L ix sub hs h, ?_⟩
    rcases Nat.lt_or_ge (seekL L ix sub) L.length with h1 | h1
    · exact h1
    · rw [List.getElem?_eq_none h1] at h; cases h
theorem findA_range (L : List Ent) (ix sub : Int) (i : Nat) (k : Int) (h : k = -2 ∨ k = -1 ∨ (0 ≤ k ∧ k < i)) : findA L ix sub i k = -2 ∨ findA L ix sub i k = -1 ∨ (0 ≤ findA L ix sub i k ∧ findA L ix sub i k < i + L.length) := by
  induction L generalizing i k with
  | nil => simp only [findA, List.length_nil]; omega
  | cons D L ih =>
    rw [findA]
    have := ih (i + 1) (if D.ix ≠ ix then k else if D.sub = sub then (i : Int) else if k = -2 then -1 else k) (by (repeat' split) <;> omega)
    simp only [List.length_cons]
    push_cast at *
    omega
theorem find_range (L : List Ent) (ix sub : Int) : findL L ix sub = -2 ∨ findL L ix sub = -1 ∨ (0 ≤ findL L ix sub ∧ findL L ix sub < L.length) := by
  have := findA_range L ix sub 0 (-2) (.inl rfl)
  simpa [findL] using this
theorem loc_lt {L : List Ent} {ix sub : Int} (h : 0 ≤ findL L ix sub) : locK L ix sub < L.length := by
  have := find_range L ix sub
  unfold locK
  omega
theorem code_zero {L : List Ent} {ix sub : Int} : codeL L ix sub = 0 ↔ 0 ≤ findL L ix sub := by
  unfold codeL
  (repeat' split) <;> simp_all
theorem putV_length (L : List Ent) (V : List (List UInt8)) (ix sub : Int) (b : List UInt8) (any : Bool) : (putV L V ix sub b any).length = V.length := by
  unfold putV
  split <;> simp
/-- what is wrong of entry k, alone and behind the one ahead -/
def chkE (L : List Ent) (k : Nat) : Int := if rightE (entK L k) ≠ 0 then rightE (entK L k) else if 0 < k ∧ befE (entK L (k - 1)) (entK L k).ix (entK L k).sub = false then 16 else 0
def NewP (L : List Ent) (e at_ : Int) : Prop :=
  (96 < L.length ∧ e = 3 ∧ at_ = 96) ∨ (L.length ≤ 96 ∧ e ≠ 0 ∧ ∃ k : Nat, k < L.length ∧ chkE L k = e ∧ at_ = (k : Int) ∧ ∀ j, j < k → chkE L j = 0) ∨ (L.length ≤ 96 ∧ e = 0 ∧ at_ = 0 ∧ ∀ j, j < L.length → chkE L j = 0)
theorem new_one {L : List Ent} {e a e' a' : Int} (h : NewP L e a) (h' : NewP L e' a') : e = e' ∧ a = a' := by
  rcases h with ⟨h1, h2, h3⟩ | ⟨h1, h2, k, hk, h3, h4, h5⟩ | ⟨h1, h2, h3, h4⟩ <;> rcases h' with ⟨g1, g2, g3⟩ | ⟨g1, g2, j, hj, g3, g4, g5⟩ | ⟨g1, g2, g3, g4⟩
  · exact ⟨by rw [h2, g2], by rw [h3, g3]⟩
  · omega
  · omega
  · omega
  · rcases Nat.lt_trichotomy k j with h | h | h
    · have := g5 k h; rw [this] at h3; exact absurd h3.symm h2
    · subst h; exact ⟨by rw [← h3, ← g3], by rw [h4, g4]⟩
    · have := h5 j h; rw [this] at g3; exact absurd g3.symm g2
  · have := g4 k hk; rw [this] at h3; exact absurd h3.symm h2
  · omega
  · have := h4 j hj; rw [this] at g3; exact absurd g3.symm g2
  · exact ⟨by rw [h2, g2], by rw [h3, g3]⟩
theorem entK_at {L : List Ent} {k : Nat} {E : Ent} (h : L[k]? = some E) : entK L k = E := by unfold entK; rw [List.getD_eq_getElem?_getD, h]; rfl
theorem valK_at {V : List (List UInt8)} {k : Nat} {v : List UInt8} (h : V[k]? = some v) : valK V k = v := by unfold valK; rw [List.getD_eq_getElem?_getD, h]; rfl
theorem chk_right {L : List Ent} {k : Nat} {E : Ent} (h : L[k]? = some E) (hr : rightE E ≠ 0) : chkE L k = rightE E := by unfold chkE; rw [entK_at h, if_pos hr]
theorem chk_zero {L : List Ent} {k : Nat} {E : Ent} (h : L[k]? = some E) (hr : rightE E = 0) (hk : k = 0) : chkE L k = 0 := by unfold chkE; rw [entK_at h, if_neg (by rw [hr]; simp), if_neg (by omega)]
theorem chk_bef {L : List Ent} {k : Nat} {E D : Ent} (h : L[k]? = some E) (hD : L[k - 1]? = some D) (hk : 1 ≤ k) (hr : rightE E = 0) : chkE L k = if befE D E.ix E.sub = true then 0 else 16 := by
  unfold chkE
  rw [entK_at h, entK_at hD, if_neg (by rw [hr]; simp)]
  cases befE D E.ix E.sub
  · rw [if_pos ⟨by omega, rfl⟩]; rfl
  · rw [if_neg (by rintro ⟨_, h⟩; cases h)]; rfl
theorem rightE_zero {L : List Ent} {k : Nat} {E : Ent} (h : L[k]? = some E) (hc : chkE L k = 0) : rightE E = 0 := by
  unfold chkE at hc
  rw [entK_at h] at hc
  split at hc
  · exact hc
  · rename_i hh; simpa using hh
theorem sorted_of : ∀ (n : Nat) (L : List Ent), n = L.length → (∀ j, j < L.length → chkE L j = 0) → SortedE L := by
  intro n
  induction n with
  | zero => intro L hL _; obtain rfl : L = [] := List.eq_nil_of_length_eq_zero hL.symm; exact List.Pairwise.nil
  | succ n ih =>
    intro L hL hc
    rcases List.eq_nil_or_concat L with rfl | ⟨M, E, rfl⟩
    · simp at hL
    · rw [List.concat_eq_append] at *
      have hM : n = M.length := by simp at hL; exact hL
      have e0 : (M ++ [E])[n]? = some E := by rw [hM]; simp
      refine sorted_snoc M E (ih M hM ?_) ?_
      · intro j hj
        have h1 := hc j (by simp; omega)
        unfold chkE entK at h1 ⊢
        have e : ∀ i, i < M.length → (M ++ [E]).getD i zeroE = M.getD i zeroE := fun i hi => by rw [List.getD_eq_getElem?_getD, List.getElem?_append_left hi, ← List.getD_eq_getElem?_getD]
        rw [e j hj, e (j - 1) (by omega)] at h1
        exact h1
      · intro D hD
        have h1 := hc n (by simp; omega)
        have hn : 1 ≤ n := by
          rcases Nat.eq_zero_or_pos n with h | h
          · rw [h] at hM; obtain rfl : M = [] := List.eq_nil_of_length_eq_zero hM.symm; simp at hD
          · exact h
        have hD' : (M ++ [E])[n - 1]? = some D := by
          rw [List.getLast?_eq_getElem?] at hD
          rw [List.getElem?_append_left (by omega), hM]
          exact hD
        rw [chk_bef e0 hD' hn (rightE_zero e0 h1)] at h1
        cases hb : befE D E.ix E.sub
        · rw [hb] at h1; simp at h1
        · rfl
end Go.Proofs.Ytabgdfbiocoimaa
