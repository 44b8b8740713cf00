/- Dictionaries, plain: each value is one of its entry, always. No program in sight. -/
import Derived.Test.YtimdmhhgomfijaaGreatRLig
namespace Go.Proofs.YtimdmhhgomfijaaGreat
set_option linter.unusedVariables false
set_option linter.unusedSimpArgs false
set_option linter.unnecessarySimpa false
open Go.RowKit
/-- each value is one of its entry -/
def ValsP (L : List Ent) (V : List (List UInt8)) : Prop := ∀ (j : Nat) E v, L[j]? = some E → V[j]? = some v → valC E v = 0
theorem right_val {E : Ent} (h : rightE E = 0) : valC E E.df = 0 := by
  unfold rightE at h
  unfold valC
  split at h
  · omega
  split at h
  · omega
  split at h
  · omega
  split at h
  · omega
  split at h
  · omega
  split at h
  · omega
  · rename_i hh; simpa using hh
theorem right_all {L : List Ent} {a : Int} (h : NewP L 0 a) : ∀ E ∈ L, rightE E = 0 := by
  intro E hE
  obtain ⟨k, hk, rfl⟩ := List.getElem_of_mem hE
  rcases h with ⟨_, h, _⟩ | ⟨_, h, _⟩ | ⟨_, _, _, h⟩
  · omega
  · exact absurd rfl h
  · exact rightE_zero (List.getElem?_eq_getElem hk) (h k hk)
theorem vals_df {L : List Ent} (h : ∀ E ∈ L, rightE E = 0) : ValsP L (L.map Ent.df) := by
  intro j E v hE hv
  rw [List.getElem?_map, hE] at hv
  simp at hv
  subst hv
  exact right_val (h E (List.mem_of_getElem? hE))
theorem may_val {L : List Ent} {ix sub : Int} {b : List UInt8} {any : Bool} (h : mayC L ix sub b any = 0) : valC (entK L (locK L ix sub)) b = 0 := by
  unfold mayC at h
  split at h
  · split at h
    · rename_i h1 h2; exact absurd h h2.2
    · exact h
  · rename_i h1; exact absurd h h1
theorem vals_put {L : List Ent} (hs : SortedE L) {V : List (List UInt8)} (hV : V.length = L.length) (h : ValsP L V) (ix sub : Int) (b : List UInt8) (any : Bool) : ValsP L (putV L V ix sub b any) := by
  intro j E v hE hv
  rw [put_at hs hV hE] at hv
  split at hv
  · rename_i hp
    injection hv with hv
    subst hv
    have h1 := may_val hp.2.2
    rw [(place_one hs hE ⟨hp.1, hp.2.1⟩).1, entK_at hE] at h1
    exact h1
  · exact h j E v hE hv
end Go.Proofs.YtimdmhhgomfijaaGreat
