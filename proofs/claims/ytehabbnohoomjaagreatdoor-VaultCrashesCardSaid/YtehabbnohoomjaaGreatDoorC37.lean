/- The reference of dictionaries: Light. -/
import Derived.Test.YtehabbnohoomjaaGreatDoorC32
import Derived.Test.YtehabbnohoomjaaGreatDoorC27
import Derived.RegionTactic
import Derived.Deep.RegionHeld3
import Derived.Deep.Light
import Derived.Test.YtehabbnohoomjaaGreatDoorC03
import Derived.Test.YtehabbnohoomjaaGreatDoorC23
import Derived.Test.YtehabbnohoomjaaGreatDoorC33
import Derived.Test.YtehabbnohoomjaaGreatDoorC34
import Derived.Test.YtehabbnohoomjaaGreatDoorC31
import Derived.Test.YtehabbnohoomjaaGreatDoorC36
import Derived.Test.YtehabbnohoomjaaGreatDoorC24
namespace Go.Proofs.YtehabbnohoomjaaGreatDoor
section
set_option linter.unusedVariables false
set_option linter.unusedSimpArgs false
set_option linter.unnecessarySimpa false
open Go.RowKit
set_option maxRecDepth 100000
set_option maxHeartbeats 4000000
def lightE (E : Ent) : Bool := decide (E.df.length ≤ 1000) && decide (E.nm.size ≤ 1000)
def lightL (L : List Ent) : Bool := decide (L.length ≤ 200) && L.all lightE
theorem light_fit {L : List Ent} (h : lightL L = true) : ∀ E ∈ L, fitE E := by
  intro E hE
  simp only [lightL, Bool.and_eq_true, List.all_eq_true] at h
  have := h.2 E hE
  simp only [lightE, Bool.and_eq_true, decide_eq_true_eq] at this
  exact ⟨by omega, by omega⟩
theorem light_len {L : List Ent} (h : lightL L = true) : L.length ≤ 200 := by
  simp only [lightL, Bool.and_eq_true, decide_eq_true_eq] at h
  exact h.1
theorem rlight (A : Option Addr) (n c : Nat) (L : List Ent) (w : World) (hn : n = L.length) (hL : SlE w A L) :
    Calls Tryz.prog 35 #[.slice A n c] w fun e w' => e = .returned (.bool (lightL L)) ∧ w = w' := by
  have HN := hide hn
  have HL := hide hL
  by_cases hbig : 200 < n
  · have HR : Hid (lightL L = false) := hide (by simp [lightL]; omega)
    clear hn hL
    go_enter Tryz.func35, Tryz.ntmps35
    go_wp2_with fail
    go_ret
    exact ⟨ret_bool HR.out.symm, rfl⟩
  clear hn hL
  go_enter Tryz.func35, Tryz.ntmps35
  go_wp2_with fail
  go_loopw [3] (fun i wr => ∃ k, k ≤ n ∧ i = .int .i64 (k : Nat) ∧ Hid (∀ E ∈ L.take k, lightE E = true) ∧ w = wr) (fun i _ => n - (intOf i).toNat)
  case atStart => exact ⟨0, by omega, rfl, hide (by simp), rfl⟩
  case round =>
    obtain ⟨k, hk, rfl, HA, rfl⟩ := hrel
    by_cases hlt : k < n
    · obtain ⟨E, hE⟩ : ∃ E, L[k]? = some E := ⟨L[k]'(by rw [← HN.out]; exact hlt), List.getElem?_eq_getElem _⟩
      obtain ⟨b, off, Aj, cj, rfl, ⟨c0, c1, c2, c3, c4, c5, c6, c7, c8, c9, c10⟩, hcj, hsj⟩ := HL.out k E hE
      have HT := hide (take_snoc hE)
      have HM := hide (List.mem_of_getElem? hE)
      clear c0 c1 c3 c4 c5 c6 c7 c8 c9 hcj hsj hE
      obtain ⟨m, hm⟩ : ∃ m, m = E.df.length := ⟨_, rfl⟩
      rw [← hm] at c10
      have HMM := hide hm
      clear hm
      by_cases h1 : 1000 < m
      · have HR : Hid (lightL L = false) := hide (by
          have : L.all lightE = false := by rw [List.all_eq_false]; exact ⟨E, HM.out, by simp [lightE, ← HMM.out]; omega⟩
          simp [lightL, this])
        go_wp2_with fail
        go_ret
        exact ⟨ret_bool HR.out.symm, rfl⟩
      by_cases h2 : 1000 < E.nm.size
      · have HR : Hid (lightL L = false) := hide (by
          have : L.all lightE = false := by rw [List.all_eq_false]; exact ⟨E, HM.out, by simp [lightE]; omega⟩
          simp [lightL, this])
        go_wp2_with fail
        go_ret
        exact ⟨ret_bool HR.out.symm, rfl⟩
      · have HR : Hid (∀ D ∈ L.take (k + 1), lightE D = true) := hide (by
          intro D hD
          rw [HT.out, List.mem_append, List.mem_singleton] at hD
          rcases hD with hD | rfl
          · exact HA.out D hD
          · simp [lightE, ← HMM.out]; omega)
        go_wp2_with fail
        go_roundw
        case rel => exact ⟨k + 1, by omega, by go_num, HR, by trivial⟩
        case measure => simp [intOf]; omega
    · have HR : Hid (lightL L = true) := hide (by
        have h1 := HA.out
        rw [List.take_of_length_le (by rw [← HN.out]; omega)] at h1
        simp only [lightL, Bool.and_eq_true, decide_eq_true_eq, List.all_eq_true]
        exact ⟨by rw [← HN.out]; omega, h1⟩)
      go_wp2_with fail
      go_ret
      exact ⟨ret_bool HR.out.symm, rfl⟩
end
end Go.Proofs.YtehabbnohoomjaaGreatDoor
namespace Go.Proofs.YtehabbnohoomjaaGreatDoor
section
set_option linter.unusedVariables false
set_option linter.unusedSimpArgs false
set_option linter.unnecessarySimpa false
open Go.RowKit
set_option maxRecDepth 20000
set_option maxHeartbeats 1000000

def lightB (L : List SV) : Bool := decide (L.length ≤ 200 ∧ ∀ v ∈ L, v.data.length ≤ 2000)
theorem light_any (A : Option Addr) (n c : Nat) (L : List SV) (w : World) (hn : n = L.length) (hc : n ≤ c) (hL : SlV w A L) :
    Calls Tryz.prog 8 #[.slice A n c] w fun e w' => e = .returned (.bool (lightB L)) ∧ w = w' := by
  have fin : ∀ b, b = lightB L → Ending.returned (.bool b) = .returned (.bool (lightB L)) := fun b h => by rw [h]
  have HN := hide hn
  clear hn
  by_cases hbig : 200 < n
  · have HF := hide (show false = lightB L by have := HN.out; simp [lightB]; omega)
    go_enter Tryz.func8, Tryz.ntmps8
    go_wp2_with fail
    go_ret
    exact ⟨fin _ HF.out, rfl⟩
  · go_enter Tryz.func8, Tryz.ntmps8
    go_wp2_with fail
    go_loop [3] (fun i => ∃ k, k ≤ n ∧ i = .int .i64 (k : Nat) ∧ Hid (∀ j v, j < k → L[j]? = some v → v.data.length ≤ 2000)) (fun i => n - (intOf i).toNat)
    case atStart => exact ⟨0, by omega, rfl, hide (by omega)⟩
    case round =>
      obtain ⟨k, hk, rfl, HC⟩ := hrel
      by_cases hlt : k < n
      · obtain ⟨v, hv⟩ : ∃ v, L[k]? = some v := ⟨L[k]'(by have := HN.out; omega), List.getElem?_eq_getElem _⟩
        obtain ⟨b, off, Aj, cj, rfl, h0, h1, h2, h4, h5⟩ := hL k v hv
        have HV := hide hv
        clear hv
        by_cases hm : 2000 < v.data.length
        · go_wp2_with fail
          go_ret
          exact ⟨fin _ (by simp only [lightB]; symm; rw [decide_eq_false_iff_not]; rintro ⟨_, h⟩; have := h _ (List.mem_of_getElem? HV.out); omega), rfl⟩
        · go_wp2_with fail
          go_round
          case rel =>
            refine ⟨k + 1, by omega, by go_num, hide ?_⟩
            intro j u hj hu
            rcases Nat.lt_succ_iff_lt_or_eq.1 hj with h | h
            · exact HC.out j u h hu
            · subst h
              rw [HV.out] at hu
              injection hu with hu
              rw [← hu]
              omega
          case measure => simp [intOf]; omega
      · go_wp2_with fail
        go_ret
        refine ⟨fin _ ?_, rfl⟩
        simp only [lightB]
        symm
        rw [decide_eq_true_eq]
        refine ⟨by have := HN.out; omega, ?_⟩
        intro v hv
        obtain ⟨j, hj, rfl⟩ := List.getElem_of_mem hv
        exact HC.out j _ (by have := HN.out; omega) (List.getElem?_eq_getElem hj)
end
end Go.Proofs.YtehabbnohoomjaaGreatDoor
namespace Go.Proofs.YtehabbnohoomjaaGreatDoor
section
set_option linter.unusedVariables false
set_option linter.unusedSimpArgs false
set_option linter.unnecessarySimpa false
open Go.RowKit
set_option maxRecDepth 100000
set_option maxHeartbeats 4000000
/-- all values poked, one behind the other -/
def pokeAll (L : List Ent) (V : List (List UInt8)) (X : List SV) : List (List UInt8) := X.foldl (fun V v => putV L V v.ix v.sub v.data true) V
theorem pokeAll_take {L : List Ent} {V : List (List UInt8)} {X : List SV} {k : Nat} {v : SV} (h : X[k]? = some v) : pokeAll L V (X.take (k + 1)) = putV L (pokeAll L V (X.take k)) v.ix v.sub v.data true := by
  obtain ⟨hk, rfl⟩ := List.getElem?_eq_some_iff.1 h
  unfold pokeAll
  rw [List.take_succ_eq_append_getElem hk, List.foldl_append]
  rfl
theorem lightB_fit {X : List SV} (h : lightB X = true) : X.length ≤ 200 ∧ ∀ v ∈ X, v.data.length ≤ 2000 := of_decide_eq_true h
theorem only_undrew' {F : Nat → Prop} {w w' : World} (h : Only F w.drew w') : Only F w w' := ⟨h.os, h.tape, h.output, h.size, h.block⟩
theorem new_sorted' {L : List Ent} {a : Int} (h : NewP L 0 a) : SortedE L := by
  rcases h with ⟨_, h, _⟩ | ⟨_, h, _⟩ | ⟨_, _, _, h⟩
  · omega
  · exact absurd rfl h
  · exact sorted_of _ L rfl h
def MadeR (L : List Ent) (X : List SV) (w : World) (e : Ending) (w' : World) : Prop :=
  ∃ vd vr ok, e = .returned (.tuple #[vd, vr, .bool ok]) ∧ (ok = true → ∃ p pr, vd = .pointer (some ⟨p, 0, none⟩) ∧ vr = .pointer (some ⟨pr, 0, none⟩) ∧ TwoD w.heap.size (fun _ => False) L (pokeAll L (L.map Ent.df) X) pr w' p ∧ SortedE L ∧ lightL L = true ∧ lightB X = true ∧ ∀ E ∈ L, rightE E = 0) ∧
    (ok = false → vd = .pointer none ∧ vr = .pointer none) ∧ Below w.heap.size w w'
end
end Go.Proofs.YtehabbnohoomjaaGreatDoor
namespace Go.Proofs.YtehabbnohoomjaaGreatDoor
section
set_option linter.unusedVariables false
set_option linter.unusedSimpArgs false
set_option linter.unnecessarySimpa false
open Go.RowKit
set_option maxRecDepth 100000
set_option maxHeartbeats 4000000
theorem inE_one (ix : Int) : inE ix 1 = true := by simp [inE]
/-- how many lie in the groups from 2 to below k -/
def cntG (X : List SV) : Nat → Nat
  | 0 => 0
  | k + 1 => cntG X k + (if 2 ≤ k then (X.filter (fun v => inE v.ix k)).length else 0)
theorem of_len (L : List Ent) (V : List (List UInt8)) (g : Int) : (ofV L V g).length ≤ L.length := by
  induction L generalizing V with
  | nil => cases V <;> simp [ofV]
  | cons E L ih =>
    cases V with
    | nil => simp [ofV]
    | cons u V =>
      have := ih V
      rw [ofV]
      split <;> simp <;> omega
end
end Go.Proofs.YtehabbnohoomjaaGreatDoor
namespace Go.Proofs.YtehabbnohoomjaaGreatDoor
section
set_option linter.unusedVariables false
set_option linter.unusedSimpArgs false
set_option linter.unnecessarySimpa false
set_option maxHeartbeats 1000000
def ahV (u v : SV) : Bool := aheadB u.ix u.sub v.ix v.sub
def placeE (u v : SV) : Prop := u.ix = v.ix ∧ u.sub = v.sub
theorem ah_iff (u v : SV) : ahV u v = true ↔ (u.ix < v.ix ∨ u.ix = v.ix ∧ u.sub < v.sub) := by simp [ahV, aheadB]
theorem ah_irr (u : SV) : ahV u u = false := by
  cases h : ahV u u
  · rfl
  · rw [ah_iff] at h; omega
theorem ah_no {u v : SV} : ahV u v = false ↔ ¬ (u.ix < v.ix ∨ u.ix = v.ix ∧ u.sub < v.sub) := by
  rw [← ah_iff]; simp
/-- put at its place -/
def insV : List SV → SV → List SV
  | [], v => [v]
  | u :: L, v => if ahV u v = true then u :: insV L v else if ahV v u = true then v :: u :: L else v :: L
def SortV (L : List SV) : Prop := L.Pairwise (fun u v => ahV u v = true)
def OnceV (L : List SV) : Prop := L.Pairwise (fun u v => ¬ placeE u v)
theorem ins_mem {L : List SV} (h : SortV L) (u v : SV) : u ∈ insV L v ↔ u = v ∨ (u ∈ L ∧ ¬ placeE u v) := by
  induction L with
  | nil => simp [insV]
  | cons x L ih =>
    have hx := List.pairwise_cons.1 h
    rw [insV]
    split
    · rename_i h1
      rw [ah_iff] at h1
      rw [List.mem_cons, ih hx.2, List.mem_cons]
      constructor
      · rintro (rfl | rfl | ⟨h2, h3⟩)
        · exact .inr ⟨.inl rfl, fun e => by unfold placeE at e; omega⟩
        · exact .inl rfl
        · exact .inr ⟨.inr h2, h3⟩
      · rintro (rfl | ⟨rfl | h2, h3⟩)
        · exact .inr (.inl rfl)
        · exact .inl rfl
        · exact .inr (.inr ⟨h2, h3⟩)
    · rename_i h1
      have far : ∀ y ∈ L, ¬ placeE y v ∧ ahV v y = true := by
        intro y hy
        have h2 := hx.1 y hy
        rw [ah_iff] at h1 h2
        rw [ah_iff]
        unfold placeE
        omega
      split
      · rename_i h2
        rw [ah_iff] at h2
        rw [List.mem_cons, List.mem_cons]
        constructor
        · rintro (rfl | rfl | h3)
          · exact .inl rfl
          · exact .inr ⟨.inl rfl, fun e => by unfold placeE at e; omega⟩
          · exact .inr ⟨.inr h3, (far _ h3).1⟩
        · rintro (rfl | ⟨h3, _⟩)
          · exact .inl rfl
          · exact .inr h3
      · rename_i h2
        rw [List.mem_cons, List.mem_cons]
        have hp : placeE x v := by
          rw [ah_iff] at h1 h2
          unfold placeE
          omega
        constructor
        · rintro (rfl | h3)
          · exact .inl rfl
          · exact .inr ⟨.inr h3, (far _ h3).1⟩
        · rintro (rfl | ⟨rfl | h3, h4⟩)
          · exact .inl rfl
          · exact absurd hp h4
          · exact .inr h3
theorem ins_sort {L : List SV} (h : SortV L) (v : SV) : SortV (insV L v) := by
  induction L with
  | nil => exact List.pairwise_cons.2 ⟨by simp, List.Pairwise.nil⟩
  | cons x L ih =>
    have hx := List.pairwise_cons.1 h
    rw [insV]
    split
    · rename_i h1
      refine List.pairwise_cons.2 ⟨?_, ih hx.2⟩
      intro y hy
      rcases (ins_mem hx.2 y v).1 hy with rfl | ⟨h2, _⟩
      · exact h1
      · exact hx.1 y h2
    · rename_i h1
      have far : ∀ y ∈ L, ahV v y = true := by
        intro y hy
        have h2 := hx.1 y hy
        rw [ah_iff] at h1 h2
        rw [ah_iff]
        omega
      split
      · rename_i h2
        refine List.pairwise_cons.2 ⟨?_, h⟩
        intro y hy
        rcases List.mem_cons.1 hy with rfl | hy
        · exact h2
        · exact far y hy
      · exact List.pairwise_cons.2 ⟨far, hx.2⟩
/-- at its index -/
theorem ins_at {L : List SV} {v : SV} : ∀ {i : Nat}, i ≤ L.length → (∀ j u, j < i → L[j]? = some u → ahV u v = true) → (∀ u, L[i]? = some u → ahV u v = false) →
    insV L v = L.take i ++ v :: (if (∃ u, L[i]? = some u ∧ ahV v u = false) then L.drop (i + 1) else L.drop i) := by
  induction L with
  | nil =>
    intro i hi _ _
    have : i = 0 := by simpa using hi
    subst this
    simp [insV]
  | cons x L ih =>
    intro i hi h1 h2
    cases i with
    | zero =>
      have hx := h2 x rfl
      rw [insV, if_neg (by rw [hx]; decide)]
      cases hv : ahV v x
      · rw [if_neg (by decide), if_pos ⟨x, rfl, hv⟩]
        rfl
      · rw [if_pos rfl, if_neg (by rintro ⟨u, e, h⟩; injection e with e; subst e; rw [hv] at h; cases h)]
        rfl
    | succ i =>
      have hx := h1 0 x (by omega) rfl
      rw [insV, if_pos hx, ih (i := i) (by simpa using hi) (fun j u hj hu => h1 (j + 1) u (by omega) (by simpa using hu)) (fun u hu => h2 u (by simpa using hu))]
      simp
theorem fold_spec {X : List SV} : ∀ {L : List SV}, SortV L → OnceV X → SortV (X.foldl insV L) ∧ ∀ u, u ∈ X.foldl insV L ↔ u ∈ X ∨ (u ∈ L ∧ ∀ v ∈ X, ¬ placeE u v) := by
  induction X with
  | nil => intro L hL _; exact ⟨hL, fun u => by simp⟩
  | cons v X ih =>
    intro L hL hX
    have hx := List.pairwise_cons.1 hX
    obtain ⟨h1, h2⟩ := ih (ins_sort hL v) hx.2
    refine ⟨h1, fun u => ?_⟩
    rw [List.foldl_cons, h2, ins_mem hL, List.mem_cons]
    constructor
    · rintro (h3 | ⟨rfl | ⟨h3, h4⟩, h5⟩)
      · exact .inl (.inr h3)
      · exact .inl (.inl rfl)
      · exact .inr ⟨h3, fun w hw => by rcases List.mem_cons.1 hw with rfl | hw; exact h4; exact h5 w hw⟩
    · rintro ((rfl | h3) | ⟨h3, h4⟩)
      · exact .inr ⟨.inl rfl, fun w hw => hx.1 w hw⟩
      · exact .inl h3
      · exact .inr ⟨.inr ⟨h3, h4 v (by simp)⟩, fun w hw => h4 w (by simp [hw])⟩
def joinV (a b : List SV) : List SV := b.foldl insV (a.foldl insV [])
theorem join_spec {a b : List SV} (ha : OnceV a) (hb : OnceV b) : SortV (joinV a b) ∧ ∀ u, u ∈ joinV a b ↔ u ∈ b ∨ (u ∈ a ∧ ∀ v ∈ b, ¬ placeE u v) := by
  obtain ⟨h1, h2⟩ := fold_spec (L := []) List.Pairwise.nil ha
  obtain ⟨h3, h4⟩ := fold_spec h1 hb
  refine ⟨h3, fun u => ?_⟩
  rw [joinV, h4, h2]
  simp
theorem sort_uniq : ∀ {L M : List SV}, SortV L → SortV M → (∀ u, u ∈ L ↔ u ∈ M) → L = M := by
  intro L
  induction L with
  | nil =>
    intro M _ _ h
    cases M with
    | nil => rfl
    | cons m M => have := (h m).2 (by simp); simp at this
  | cons x L ih =>
    intro M hL hM h
    cases M with
    | nil => have := (h x).1 (by simp); simp at this
    | cons m M =>
      have hl := List.pairwise_cons.1 hL
      have hm := List.pairwise_cons.1 hM
      have hxm : x = m := by
        rcases List.mem_cons.1 ((h x).1 (by simp)) with e | e
        · exact e
        · rcases List.mem_cons.1 ((h m).2 (by simp)) with e2 | e2
          · exact e2.symm
          · have h1 := hm.1 x e
            have h2 := hl.1 m e2
            rw [ah_iff] at h1 h2
            omega
      subst hxm
      rw [ih hl.2 hm.2 ?_]
      intro u
      constructor
      · intro hu
        rcases List.mem_cons.1 ((h u).1 (by simp [hu])) with rfl | e
        · have := hl.1 u hu
          rw [ah_irr] at this; cases this
        · exact e
      · intro hu
        rcases List.mem_cons.1 ((h u).2 (by simp [hu])) with rfl | e
        · have := hm.1 u hu
          rw [ah_irr] at this; cases this
        · exact e
/-! selection -/
def svZ : SV := ⟨0, 0, []⟩
def minF (L : List SV) : Nat → Nat
  | 0 => 0
  | i + 1 => if ahV (L.getD i svZ) (L.getD (minF L i) svZ) = true then i else minF L i
theorem minF_spec (L : List SV) (n : Nat) (hn : 1 ≤ n) : minF L n < n ∧ ∀ j, j < n → ahV (L.getD j svZ) (L.getD (minF L n) svZ) = false := by
  induction n with
  | zero => omega
  | succ n ih =>
    rw [minF]
    rcases Nat.eq_zero_or_pos n with rfl | hp
    · rw [minF, if_neg (by rw [ah_irr]; decide)]
      refine ⟨by omega, ?_⟩
      intro j hj
      obtain rfl : j = 0 := by omega
      exact ah_irr _
    · obtain ⟨h1, h2⟩ := ih hp
      split
      · rename_i h3
        refine ⟨by omega, ?_⟩
        intro j hj
        rcases Nat.lt_or_ge j n with hjn | hjn
        · have h4 := h2 j hjn
          rw [ah_no] at h4 ⊢
          rw [ah_iff] at h3
          omega
        · obtain rfl : j = n := by omega
          exact ah_irr _
      · rename_i h3
        refine ⟨by omega, ?_⟩
        intro j hj
        rcases Nat.lt_or_ge j n with hjn | hjn
        · exact h2 j hjn
        · obtain rfl : j = n := by omega
          simpa using h3
def selV : Nat → List SV → List SV
  | 0, _ => []
  | f + 1, L => if L.length = 0 then [] else L.getD (minF L L.length) svZ :: selV f (L.take (minF L L.length) ++ L.drop (minF L L.length + 1))
theorem sel_spec : ∀ (f : Nat) {L : List SV}, L.length ≤ f → OnceV L → SortV (selV f L) ∧ ∀ u, u ∈ selV f L ↔ u ∈ L := by
  intro f
  induction f with
  | zero =>
    intro L h _
    have : L = [] := List.eq_nil_of_length_eq_zero (by omega)
    subst this
    exact ⟨List.Pairwise.nil, fun u => Iff.rfl⟩
  | succ f ih =>
    intro L h hO
    rw [selV]
    split
    · rename_i h0
      have : L = [] := List.eq_nil_of_length_eq_zero h0
      subst this
      exact ⟨List.Pairwise.nil, fun u => Iff.rfl⟩
    · rename_i h0
      obtain ⟨k, hk⟩ : ∃ k, k = minF L L.length := ⟨_, rfl⟩
      obtain ⟨m1, m2⟩ := minF_spec L L.length (by omega)
      rw [← hk] at m1 m2 ⊢
      have hg : L.getD k svZ = L[k] := by rw [List.getD_eq_getElem?_getD, List.getElem?_eq_getElem m1]; rfl
      have hL : L = L.take k ++ L[k] :: L.drop (k + 1) := by rw [List.getElem_cons_drop, List.take_append_drop]
      have hlen : (L.take k ++ L.drop (k + 1)).length ≤ f := by simp; omega
      obtain ⟨T, hT⟩ : ∃ T, T = L.take k := ⟨_, rfl⟩
      obtain ⟨D, hD⟩ : ∃ D, D = L.drop (k + 1) := ⟨_, rfl⟩
      obtain ⟨x, hx⟩ : ∃ x, x = L[k] := ⟨_, rfl⟩
      rw [← hx] at hg
      rw [← hT, ← hD] at hlen ⊢
      rw [← hT, ← hD, ← hx] at hL
      clear hT hD hx
      have hpw := hO
      unfold OnceV at hpw
      rw [hL] at hpw
      obtain ⟨p1, p2, p3⟩ := List.pairwise_append.1 hpw
      obtain ⟨p4, p5⟩ := List.pairwise_cons.1 p2
      have hrest : OnceV (T ++ D) := List.pairwise_append.2 ⟨p1, p5, fun u hu v hv => p3 u hu v (by simp [hv])⟩
      obtain ⟨s1, s2⟩ := ih (L := T ++ D) hlen hrest
      rw [hg] at m2 ⊢
      refine ⟨List.pairwise_cons.2 ⟨?_, s1⟩, ?_⟩
      · intro u hu
        have hu2 := (s2 u).1 hu
        have hne : ¬ placeE u x := by
          rcases List.mem_append.1 hu2 with h1 | h1
          · exact p3 u h1 _ (by simp)
          · intro e
            exact p4 u h1 ⟨e.1.symm, e.2.symm⟩
        have huL : u ∈ L := by
          rw [hL]
          rcases List.mem_append.1 hu2 with h1 | h1
          · simp [h1]
          · simp [h1]
        obtain ⟨j, hj, hju⟩ := List.mem_iff_getElem.1 huL
        have h3 := m2 j hj
        rw [List.getD_eq_getElem?_getD, List.getElem?_eq_getElem hj] at h3
        simp only [Option.getD_some] at h3
        rw [hju, ah_no] at h3
        rw [ah_iff]
        unfold placeE at hne
        omega
      · intro u
        rw [List.mem_cons, s2]
        conv => rhs; rw [hL]
        simp only [List.mem_append, List.mem_cons]
        constructor
        · rintro (h | h | h)
          · exact .inr (.inl h)
          · exact .inl h
          · exact .inr (.inr h)
        · rintro (h | h | h)
          · exact .inr (.inl h)
          · exact .inl h
          · exact .inr (.inr h)
/-- those of a whose place is not in b -/
def metB (b : List SV) (u : SV) : Bool := b.any fun v => decide (v.ix = u.ix) && decide (v.sub = u.sub)
def restV (a b : List SV) : List SV := a.filter fun u => !metB b u
theorem join_sel {a b : List SV} (ha : OnceV a) (hb : OnceV b) : selV (restV a b ++ b).length (restV a b ++ b) = joinV a b := by
  have hm : ∀ u, metB b u = false ↔ ∀ v ∈ b, ¬ placeE u v := by
    intro u
    unfold metB placeE
    rw [List.any_eq_false]
    constructor
    · intro h v hv e
      have := h v hv
      simp [e.1.symm, e.2.symm] at this
    · intro h v hv
      have := h v hv
      simp only [Bool.and_eq_true, decide_eq_true_eq]
      rintro ⟨e1, e2⟩
      exact this ⟨e1.symm, e2.symm⟩
  have hr : ∀ u, u ∈ restV a b ↔ u ∈ a ∧ ∀ v ∈ b, ¬ placeE u v := by
    intro u
    unfold restV
    rw [List.mem_filter, ← hm]
    simp
  have hO : OnceV (restV a b ++ b) := List.pairwise_append.2 ⟨List.Pairwise.filter _ ha, hb, fun u hu v hv => ((hr u).1 hu).2 v hv⟩
  obtain ⟨s1, s2⟩ := sel_spec _ (Nat.le_refl _) hO
  obtain ⟨j1, j2⟩ := join_spec ha hb
  refine sort_uniq s1 j1 (fun u => ?_)
  rw [s2, j2, List.mem_append, hr]
  exact Or.comm
theorem joinV_len (a b : List SV) : (joinV a b).length ≤ a.length + b.length := by
  have h1 : ∀ (L : List SV) (v : SV), (insV L v).length ≤ L.length + 1 := by
    intro L v
    induction L with
    | nil => simp [insV]
    | cons x L ih =>
      rw [insV]
      split
      · simp; omega
      · split <;> simp
  have h2 : ∀ (X L : List SV), (X.foldl insV L).length ≤ L.length + X.length := by
    intro X
    induction X with
    | nil => intro L; simp
    | cons v X ih => intro L; have := ih (insV L v); have := h1 L v; simp; omega
  have h3 := h2 a []
  have h4 := h2 b (a.foldl insV [])
  unfold joinV
  simp at h3
  omega
end
end Go.Proofs.YtehabbnohoomjaaGreatDoor
