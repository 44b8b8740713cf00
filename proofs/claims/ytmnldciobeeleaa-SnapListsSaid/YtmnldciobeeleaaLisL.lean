/- Values of two lists joined, plain: by insertion, or by selection. No program in sight. -/
import Derived.Test.YtmnldciobeeleaaSnpG
namespace Go.Proofs.Ytmnldciobeeleaa
set_option linter.unusedVariables false
set_option linter.unusedSimpArgs false
set_option linter.unnecessarySimpa false
set_option maxHeartbeats 1000000
def ahV (u v : SV) : Bool := aheadB u.ix u.sub v.ix v.sub
def placeE (u v : SV) : Prop := u.ix = v.ix ∧ u.sub = v.sub
theorem ah_iff (u v : SV) : ahV u v = true ↔ (u.ix < v.ix ∨ u.ix = v.ix ∧ u.sub < v.sub) := by simp [ahV, aheadB]
theorem ah_irr (u : SV) : ahV u u = false := by
  cases h : ahV u u
  · rfl
  · rw [ah_iff] at h; omega
theorem ah_no {u v : SV} : ahV u v = false ↔ ¬ (u.ix < v.ix ∨ u.ix = v.ix ∧ u.sub < v.sub) := by
  rw [← ah_iff]; simp
/-- put at its place -/
def insV : List SV → SV → List SV
  | [], v => [v]
  | u :: L, v => if ahV u v = true then u :: insV L v else if ahV v u = true then v :: u :: L else v :: L
def SortV (L : List SV) : Prop := L.Pairwise (fun u v => ahV u v = true)
def OnceV (L : List SV) : Prop := L.Pairwise (fun u v => ¬ placeE u v)
theorem ins_mem {L : List SV} (h : SortV L) (u v : SV) : u ∈ insV L v ↔ u = v ∨ (u ∈ L ∧ ¬ placeE u v) := by
  induction L with
  | nil => simp [insV]
  | cons x L ih =>
    have hx := List.pairwise_cons.1 h
    rw [insV]
    split
    · rename_i h1
      rw [ah_iff] at h1
      rw [List.mem_cons, ih hx.2, List.mem_cons]
      constructor
      · rintro (rfl | rfl | ⟨h2, h3⟩)
        · exact .inr ⟨.inl rfl, fun e => by unfold placeE at e; omega⟩
        · exact .inl rfl
        · exact .inr ⟨.inr h2, h3⟩
      · rintro (rfl | ⟨rfl | h2, h3⟩)
        · exact .inr (.inl rfl)
        · exact .inl rfl
        · exact .inr (.inr ⟨h2, h3⟩)
    · rename_i h1
      have far : ∀ y ∈ L, ¬ placeE y v ∧ ahV v y = true := by
        intro y hy
        have h2 := hx.1 y hy
        rw [ah_iff] at h1 h2
        rw [ah_iff]
        unfold placeE
        omega
      split
      · rename_i h2
        rw [ah_iff] at h2
        rw [List.mem_cons, List.mem_cons]
        constructor
        · rintro (rfl | rfl | h3)
          · exact .inl rfl
          · exact .inr ⟨.inl rfl, fun e => by unfold placeE at e; omega⟩
          · exact .inr ⟨.inr h3, (far _ h3).1⟩
        · rintro (rfl | ⟨h3, _⟩)
          · exact .inl rfl
          · exact .inr h3
      · rename_i h2
        rw [List.mem_cons, List.mem_cons]
        have hp : placeE x v := by
          rw [ah_iff] at h1 h2
          unfold placeE
          omega
        constructor
        · rintro (rfl | h3)
          · exact .inl rfl
          · exact .inr ⟨.inr h3, (far _ h3).1⟩
        · rintro (rfl | ⟨rfl | h3, h4⟩)
          · exact .inl rfl
          · exact absurd hp h4
          · exact .inr h3
theorem ins_sort {L : List SV} (h : SortV L) (v : SV) : SortV (insV L v) := by
  induction L with
  | nil => exact List.pairwise_cons.2 ⟨by simp, List.Pairwise.nil⟩
  | cons x L ih =>
    have hx := List.pairwise_cons.1 h
    rw [insV]
    split
    · rename_i h1
      refine List.pairwise_cons.2 ⟨?_, ih hx.2⟩
      intro y hy
      rcases (ins_mem hx.2 y v).1 hy with rfl | ⟨h2, _⟩
      · exact h1
      · exact hx.1 y h2
    · rename_i h1
      have far : ∀ y ∈ L, ahV v y = true := by
        intro y hy
        have h2 := hx.1 y hy
        rw [ah_iff] at h1 h2
        rw [ah_iff]
        omega
      split
      · rename_i h2
        refine List.pairwise_cons.2 ⟨?_, h⟩
        intro y hy
        rcases List.mem_cons.1 hy with rfl | hy
        · exact h2
        · exact far y hy
      · exact List.pairwise_cons.2 ⟨far, hx.2⟩
/-- at its index -/
theorem ins_at {L : List SV} {v : SV} : ∀ {i : Nat}, i ≤ L.length → (∀ j u, j < i → L[j]? = some u → ahV u v = true) → (∀ u, L[i]? = some u → ahV u v = false) →
    insV L v = L.take i ++ v :: (if (∃ u, L[i]? = some u ∧ ahV v u = false) then L.drop (i + 1) else L.drop i) := by
  induction L with
  | nil =>
    intro i hi _ _
    have : i = 0 := by simpa using hi
    subst this
    simp [insV]
  | cons x L ih =>
    intro i hi h1 h2
    cases i with
    | zero =>
      have hx := h2 x rfl
      rw [insV, if_neg (by rw [hx]; decide)]
      cases hv : ahV v x
      · rw [if_neg (by decide), if_pos ⟨x, rfl, hv⟩]
        rfl
      · rw [if_pos rfl, if_neg (by rintro ⟨u, e, h⟩; injection e with e; subst e; rw [hv] at h; cases h)]
        rfl
    | succ i =>
      have hx := h1 0 x (by omega) rfl
      rw [insV, if_pos hx, ih (i := i) (by simpa using hi) (fun j u hj hu => h1 (j + 1) u (by omega) (by simpa using hu)) (fun u hu => h2 u (by simpa using hu))]
      simp
theorem fold_spec {X : List SV} : ∀ {L : List SV}, SortV L → OnceV X → SortV (X.foldl insV L) ∧ ∀ u, u ∈ X.foldl insV L ↔ u ∈ X ∨ (u ∈ L ∧ ∀ v ∈ X, ¬ placeE u v) := by
  induction X with
  | nil => intro L hL _; exact ⟨hL, fun u => by simp⟩
  | cons v X ih =>
    intro L hL hX
    have hx := List.pairwise_cons.1 hX
    obtain ⟨h1, h2⟩ := ih (ins_sort hL v) hx.2
    refine ⟨h1, fun u => ?_⟩
    rw [List.foldl_cons, h2, ins_mem hL, List.mem_cons]
    constructor
    · rintro (h3 | ⟨rfl | ⟨h3, h4⟩, h5⟩)
      · exact .inl (.inr h3)
      · exact .inl (.inl rfl)
      · exact .inr ⟨h3, fun w hw => by rcases List.mem_cons.1 hw with rfl | hw; exact h4; exact h5 w hw⟩
    · rintro ((rfl | h3) | ⟨h3, h4⟩)
      · exact .inr ⟨.inl rfl, fun w hw => hx.1 w hw⟩
      · exact .inl h3
      · exact .inr ⟨.inr ⟨h3, h4 v (by simp)⟩, fun w hw => h4 w (by simp [hw])⟩
def joinV (a b : List SV) : List SV := b.foldl insV (a.foldl insV [])
theorem join_spec {a b : List SV} (ha : OnceV a) (hb : OnceV b) : SortV (joinV a b) ∧ ∀ u, u ∈ joinV a b ↔ u ∈ b ∨ (u ∈ a ∧ ∀ v ∈ b, ¬ placeE u v) := by
  obtain ⟨h1, h2⟩ := fold_spec (L := []) List.Pairwise.nil ha
  obtain ⟨h3, h4⟩ := fold_spec h1 hb
  refine ⟨h3, fun u => ?_⟩
  rw [joinV, h4, h2]
  simp
theorem sort_uniq : ∀ {L M : List SV}, SortV L → SortV M → (∀ u, u ∈ L ↔ u ∈ M) → L = M := by
  intro L
  induction L with
  | nil =>
    intro M _ _ h
    cases M with
    | nil => rfl
    | cons m M => have := (h m).2 (by simp); simp at this
  | cons x L ih =>
    intro M hL hM h
    cases M with
    | nil => have := (h x).1 (by simp); simp at this
    | cons m M =>
      have hl := List.pairwise_cons.1 hL
      have hm := List.pairwise_cons.1 hM
      have hxm : x = m := by
        rcases List.mem_cons.1 ((h x).1 (by simp)) with e | e
        · exact e
        · rcases List.mem_cons.1 ((h m).2 (by simp)) with e2 | e2
          · exact e2.symm
          · have h1 := hm.1 x e
            have h2 := hl.1 m e2
            rw [ah_iff] at h1 h2
            omega
      subst hxm
      rw [ih hl.2 hm.2 ?_]
      intro u
      constructor
      · intro hu
        rcases List.mem_cons.1 ((h u).1 (by simp [hu])) with rfl | e
        · have := hl.1 u hu
          rw [ah_irr] at this; cases this
        · exact e
      · intro hu
        rcases List.mem_cons.1 ((h u).2 (by simp [hu])) with rfl | e
        · have := hm.1 u hu
          rw [ah_irr] at this; cases this
        · exact e
/-! selection -/
def svZ : SV := ⟨0, 0, []⟩
def minF (L : List SV) : Nat → Nat
  | 0 => 0
  | i + 1 => if ahV (L.getD i svZ) (L.getD (minF L i) svZ) = true then i else minF L i
theorem minF_spec (L : List SV) (n : Nat) (hn : 1 ≤ n) : minF L n < n ∧ ∀ j, j < n → ahV (L.getD j svZ) (L.getD (minF L n) svZ) = false := by
  induction n with
  | zero => omega
  | succ n ih =>
    rw [minF]
    rcases Nat.eq_zero_or_pos n with rfl | hp
    · rw [minF, if_neg (by rw [ah_irr]; decide)]
      refine ⟨by omega, ?_⟩
      intro j hj
      obtain rfl : j = 0 := by omega
      exact ah_irr _
    · obtain ⟨h1, h2⟩ := ih hp
      split
      · rename_i h3
        refine ⟨by omega, ?_⟩
        intro j hj
        rcases Nat.lt_or_ge j n with hjn | hjn
        · have h4 := h2 j hjn
          rw [ah_no] at h4 ⊢
          rw [ah_iff] at h3
          omega
        · obtain rfl : j = n := by omega
          exact ah_irr _
      · rename_i h3
        refine ⟨by omega, ?_⟩
        intro j hj
        rcases Nat.lt_or_ge j n with hjn | hjn
        · exact h2 j hjn
        · obtain rfl : j = n := by omega
          simpa using h3
def selV : Nat → List SV → List SV
  | 0, _ => []
  | f + 1, L => if L.length = 0 then [] else L.getD (minF L L.length) svZ :: selV f (L.take (minF L L.length) ++ L.drop (minF L L.length + 1))
theorem sel_spec : ∀ (f : Nat) {L : List SV}, L.length ≤ f → OnceV L → SortV (selV f L) ∧ ∀ u, u ∈ selV f L ↔ u ∈ L := by
  intro f
  induction f with
  | zero =>
    intro L h _
    have : L = [] := List.eq_nil_of_length_eq_zero (by omega)
    subst this
    exact ⟨List.Pairwise.nil, fun u => Iff.rfl⟩
  | succ f ih =>
    intro L h hO
    rw [selV]
    split
    · rename_i h0
      have : L = [] := List.eq_nil_of_length_eq_zero h0
      subst this
      exact ⟨List.Pairwise.nil, fun u => Iff.rfl⟩
    · rename_i h0
      obtain ⟨k, hk⟩ : ∃ k, k = minF L L.length := ⟨_, rfl⟩
      obtain ⟨m1, m2⟩ := minF_spec L L.length (by omega)
      rw [← hk] at m1 m2 ⊢
      have hg : L.getD k svZ = L[k] := by rw [List.getD_eq_getElem?_getD, List.getElem?_eq_getElem m1]; rfl
      have hL : L = L.take k ++ L[k] :: L.drop (k + 1) := by rw [List.getElem_cons_drop, List.take_append_drop]
      have hlen : (L.take k ++ L.drop (k + 1)).length ≤ f := by simp; omega
      obtain ⟨T, hT⟩ : ∃ T, T = L.take k := ⟨_, rfl⟩
      obtain ⟨D, hD⟩ : ∃ D, D = L.drop (k + 1) := ⟨_, rfl⟩
      obtain ⟨x, hx⟩ : ∃ x, x = L[k] := ⟨_, rfl⟩
      rw [← hx] at hg
      rw [← hT, ← hD] at hlen ⊢
      rw [← hT, ← hD, ← hx] at hL
      clear hT hD hx
      have hpw := hO
      unfold OnceV at hpw
      rw [hL] at hpw
      obtain ⟨p1, p2, p3⟩ := List.pairwise_append.1 hpw
      obtain ⟨p4, p5⟩ := List.pairwise_cons.1 p2
      have hrest : OnceV (T ++ D) := List.pairwise_append.2 ⟨p1, p5, fun u hu v hv => p3 u hu v (by simp [hv])⟩
      obtain ⟨s1, s2⟩ := ih (L := T ++ D) hlen hrest
      rw [hg] at m2 ⊢
      refine ⟨List.pairwise_cons.2 ⟨?_, s1⟩, ?_⟩
      · intro u hu
        have hu2 := (s2 u).1 hu
        have hne : ¬ placeE u x := by
          rcases List.mem_append.1 hu2 with h1 | h1
          · exact p3 u h1 _ (by simp)
          · intro e
            exact p4 u h1 ⟨e.1.symm, e.2.symm⟩
        have huL : u ∈ L := by
          rw [hL]
          rcases List.mem_append.1 hu2 with h1 | h1
          · simp [h1]
          · simp [h1]
        obtain ⟨j, hj, hju⟩ := List.mem_iff_getElem.1 huL
        have h3 := m2 j hj
        rw [List.getD_eq_getElem?_getD, List.getElem?_eq_getElem hj] at h3
        simp only [Option.getD_some] at h3
        rw [hju, ah_no] at h3
        rw [ah_iff]
        unfold placeE at hne
        omega
      · intro u
        rw [List.mem_cons, s2]
        conv => rhs; rw [hL]
        simp only [List.mem_append, List.mem_cons]
        constructor
        · rintro (h | h | h)
          · exact .inr (.inl h)
          · exact .inl h
          · exact .inr (.inr h)
        · rintro (h | h | h)
          · exact .inr (.inl h)
          · exact .inl h
          · exact .inr (.inr h)
/-- those of a whose place is not in b -/
def metB (b : List SV) (u : SV) : Bool := b.any fun v => decide (v.ix = u.ix) && decide (v.sub = u.sub)
def restV (a b : List SV) : List SV := a.filter fun u => !metB b u
theorem join_sel {a b : List SV} (ha : OnceV a) (hb : OnceV b) : selV (restV a b ++ b).length (restV a b ++ b) = joinV a b := by
  have hm : ∀ u, metB b u = false ↔ ∀ v ∈ b, ¬ placeE u v := by
    intro u
    unfold metB placeE
    rw [List.any_eq_false]
    constructor
    · intro h v hv e
      have := h v hv
      simp [e.1.symm, e.2.symm] at this
    · intro h v hv
      have := h v hv
      simp only [Bool.and_eq_true, decide_eq_true_eq]
      rintro ⟨e1, e2⟩
      exact this ⟨e1.symm, e2.symm⟩
  have hr : ∀ u, u ∈ restV a b ↔ u ∈ a ∧ ∀ v ∈ b, ¬ placeE u v := by
    intro u
    unfold restV
    rw [List.mem_filter, ← hm]
    simp
  have hO : OnceV (restV a b ++ b) := List.pairwise_append.2 ⟨List.Pairwise.filter _ ha, hb, fun u hu v hv => ((hr u).1 hu).2 v hv⟩
  obtain ⟨s1, s2⟩ := sel_spec _ (Nat.le_refl _) hO
  obtain ⟨j1, j2⟩ := join_spec ha hb
  refine sort_uniq s1 j1 (fun u => ?_)
  rw [s2, j2, List.mem_append, hr]
  exact Or.comm
theorem joinV_len (a b : List SV) : (joinV a b).length ≤ a.length + b.length := by
  have h1 : ∀ (L : List SV) (v : SV), (insV L v).length ≤ L.length + 1 := by
    intro L v
    induction L with
    | nil => simp [insV]
    | cons x L ih =>
      rw [insV]
      split
      · simp; omega
      · split <;> simp
  have h2 : ∀ (X L : List SV), (X.foldl insV L).length ≤ L.length + X.length := by
    intro X
    induction X with
    | nil => intro L; simp
    | cons v X ih => intro L; have := ih (insV L v); have := h1 L v; simp; omega
  have h3 := h2 a []
  have h4 := h2 b (a.foldl insV [])
  unfold joinV
  simp at h3
  omega
end Go.Proofs.Ytmnldciobeeleaa
