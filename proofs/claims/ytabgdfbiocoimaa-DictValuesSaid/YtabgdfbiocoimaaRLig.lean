/- The reference of dictionaries: Light. -/
import Derived.Test.YtabgdfbiocoimaaDicW
import Derived.Test.YtabgdfbiocoimaaDicP
import Derived.RegionTactic
import Derived.Deep.RegionHeld3
import Derived.Deep.Light
namespace Go.Proofs.Ytabgdfbiocoimaa
set_option linter.unusedVariables false
set_option linter.unusedSimpArgs false
set_option linter.unnecessarySimpa false
open Go.RowKit
set_option maxRecDepth 100000
set_option maxHeartbeats 4000000
def lightE (E : Ent) : Bool := decide (E.df.length ≤ 1000) && decide (E.nm.size ≤ 1000)
def lightL (L : List Ent) : Bool := decide (L.length ≤ 200) && L.all lightE
theorem light_fit {L : List Ent} (h : lightL L = true) : ∀ E ∈ L, fitE E := by
  intro E hE
  simp only [lightL, Bool.and_eq_true, List.all_eq_true] at h
  have := h.2 E hE
  simp only [lightE, Bool.and_eq_true, decide_eq_true_eq] at this
  exact ⟨by omega, by omega⟩
theorem light_len {L : List Ent} (h : lightL L = true) : L.length ≤ 200 := by
  simp only [lightL, Bool.and_eq_true, decide_eq_true_eq] at h
  exact h.1
theorem rlight (A : Option Addr) (n c : Nat) (L : List Ent) (w : World) (hn : n = L.length) (hL : SlE w A L) :
    Calls Try.prog 12 #[.slice A n c] w fun e w' => e = .returned (.bool (lightL L)) ∧ w = w' := by
  have HN := hide hn
  have HL := hide hL
  by_cases hbig : 200 < n
  · have HR : Hid (lightL L = false) := hide (by simp [lightL]; omega)
    clear hn hL
    go_enter Try.func12, Try.ntmps12
    go_wp2_with fail
    go_ret
    exact ⟨ret_bool HR.out.symm, rfl⟩
  clear hn hL
  go_enter Try.func12, Try.ntmps12
  go_wp2_with fail
  go_loopw [3] (fun i wr => ∃ k, k ≤ n ∧ i = .int .i64 (k : Nat) ∧ Hid (∀ E ∈ L.take k, lightE E = true) ∧ w = wr) (fun i _ => n - (intOf i).toNat)
  case atStart => exact ⟨0, by omega, rfl, hide (by simp), rfl⟩
  case round =>
    obtain ⟨k, hk, rfl, HA, rfl⟩ := hrel
    by_cases hlt : k < n
    · obtain ⟨E, hE⟩ : ∃ E, L[k]? = some E := ⟨L[k]'(by rw [← HN.out]; exact hlt), List.getElem?_eq_getElem _⟩
      obtain ⟨b, off, Aj, cj, rfl, ⟨c0, c1, c2, c3, c4, c5, c6, c7, c8, c9, c10⟩, hcj, hsj⟩ := HL.out k E hE
      have HT := hide (take_snoc hE)
      have HM := hide (List.mem_of_getElem? hE)
      clear c0 c1 c3 c4 c5 c6 c7 c8 c9 hcj hsj hE
      obtain ⟨m, hm⟩ : ∃ m, m = E.df.length := ⟨_, rfl⟩
      rw [← hm] at c10
      have HMM := hide hm
      clear hm
      by_cases h1 : 1000 < m
      · have HR : Hid (lightL L = false) := hide (by
          have : L.all lightE = false := by rw [List.all_eq_false]; exact ⟨E, HM.out, by simp [lightE, ← HMM.out]; omega⟩
          simp [lightL, this])
        go_wp2_with fail
        go_ret
        exact ⟨ret_bool HR.out.symm, rfl⟩
      by_cases h2 : 1000 < E.nm.size
      · have HR : Hid (lightL L = false) := hide (by
          have : L.all lightE = false := by rw [List.all_eq_false]; exact ⟨E, HM.out, by simp [lightE]; omega⟩
          simp [lightL, this])
        go_wp2_with fail
        go_ret
        exact ⟨ret_bool HR.out.symm, rfl⟩
      · have HR : Hid (∀ D ∈ L.take (k + 1), lightE D = true) := hide (by
          intro D hD
          rw [HT.out, List.mem_append, List.mem_singleton] at hD
          rcases hD with hD | rfl
          · exact HA.out D hD
          · simp [lightE, ← HMM.out]; omega)
        go_wp2_with fail
        go_roundw
        case rel => exact ⟨k + 1, by omega, by go_num, HR, by trivial⟩
        case measure => simp [intOf]; omega
    · have HR : Hid (lightL L = true) := hide (by
        have h1 := HA.out
        rw [List.take_of_length_le (by rw [← HN.out]; omega)] at h1
        simp only [lightL, Bool.and_eq_true, decide_eq_true_eq, List.all_eq_true]
        exact ⟨by rw [← HN.out]; omega, h1⟩)
      go_wp2_with fail
      go_ret
      exact ⟨ret_bool HR.out.symm, rfl⟩
/-- an entry of a sorted list is found where it stands -/
theorem find_self {L : List Ent} (hs : SortedE L) {k : Nat} {E : Ent} (hE : L[k]? = some E) : findL L E.ix E.sub = (k : Nat) := by
  obtain ⟨hk, e⟩ := List.getElem?_eq_some_iff.1 hE
  have hL : L = L.take k ++ E :: L.drop (k + 1) := by
    rw [← e]
    simp
  have hM : ∀ D ∈ L.drop (k + 1), ¬ (D.ix = E.ix ∧ D.sub = E.sub) := by
    intro D hD hp
    obtain ⟨j, hj, e2⟩ := List.getElem_of_mem hD
    have hj' : L[k + 1 + j]? = some D := by
      rw [← e2, List.getElem_drop]
      rw [List.length_drop] at hj
      exact List.getElem?_eq_getElem _
    have := sorted_lt L hs k (k + 1 + j) E D hE hj' (by omega)
    unfold befE at this
    rw [bef_iff] at this
    omega
  have := findA_at (L.take k) (L.drop (k + 1)) E E.ix E.sub 0 (-2) ⟨rfl, rfl⟩ hM
  unfold findL
  rw [← hL, List.length_take] at this
  rw [this]
  congr 1
  omega
theorem place_one {L : List Ent} (hs : SortedE L) {k : Nat} {E : Ent} {ix sub : Int} (hE : L[k]? = some E) (h : E.ix = ix ∧ E.sub = sub) : locK L ix sub = k ∧ codeL L ix sub = 0 := by
  obtain ⟨rfl, rfl⟩ := h
  have := find_self hs hE
  exact ⟨by unfold locK; rw [this]; rfl, code_zero.2 (by rw [this]; omega)⟩
theorem loc_at {L : List Ent} (hs : SortedE L) {ix sub : Int} (h : codeL L ix sub = 0) : ∃ E, L[locK L ix sub]? = some E ∧ E.ix = ix ∧ E.sub = sub := by
  have h0 := code_zero.1 h
  rcases find_cases L ix sub hs with ⟨h1, h2, h3⟩ | ⟨_, _, h2⟩ | ⟨_, _, _, h2⟩ | ⟨_, _, _, h2⟩
  · have hk : locK L ix sub = seekL L ix sub := by unfold locK; rw [h2]; rfl
    rw [hk]
    cases hE : L[seekL L ix sub]? with
    | none => rw [hE] at h1; cases h1
    | some E =>
      rw [hE] at h1
      simp only [hereB, Bool.and_eq_true, decide_eq_true_eq] at h1
      exact ⟨E, rfl, h1.1, h1.2⟩
  all_goals omega
theorem may_code {L : List Ent} {ix sub : Int} {b : List UInt8} {any : Bool} (h : mayC L ix sub b any = 0) : codeL L ix sub = 0 := by
  unfold mayC at h
  split at h
  · assumption
  · exact h
theorem put_at {L : List Ent} (hs : SortedE L) {V : List (List UInt8)} (hV : V.length = L.length) {k : Nat} {E : Ent} (hE : L[k]? = some E) (ix sub : Int) (b : List UInt8) (any : Bool) :
    (putV L V ix sub b any)[k]? = if E.ix = ix ∧ E.sub = sub ∧ mayC L ix sub b any = 0 then some b else V[k]? := by
  unfold putV
  have hk : k < V.length := by rw [hV]; exact (List.getElem?_eq_some_iff.1 hE).1
  by_cases hm : mayC L ix sub b any = 0
  · rw [if_pos hm]
    by_cases hp : E.ix = ix ∧ E.sub = sub
    · rw [if_pos ⟨hp.1, hp.2, hm⟩, (place_one hs hE hp).1, List.getElem?_set_self hk]
    · rw [if_neg (fun h => hp ⟨h.1, h.2.1⟩), List.getElem?_set_ne]
      intro he
      obtain ⟨D, hD, h1, h2⟩ := loc_at hs (may_code hm)
      rw [he, hE] at hD
      injection hD with hD
      subst hD
      exact hp ⟨h1, h2⟩
  · rw [if_neg hm, if_neg (fun h => hm h.2.2)]
theorem put_get {L : List Ent} (hs : SortedE L) {V : List (List UInt8)} (hV : V.length = L.length) {ix sub : Int} {b : List UInt8} {any : Bool} (hm : mayC L ix sub b any = 0) : valK (putV L V ix sub b any) (locK L ix sub) = b := by
  obtain ⟨E, hE, h1, h2⟩ := loc_at hs (may_code hm)
  exact valK_at (by rw [put_at hs hV hE, if_pos ⟨h1, h2, hm⟩])
end Go.Proofs.Ytabgdfbiocoimaa
