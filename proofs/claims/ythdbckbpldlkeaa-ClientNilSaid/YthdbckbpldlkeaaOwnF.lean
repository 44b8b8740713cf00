/- Rows of elements in memory of the call's own, each with bytes of its own, and the blocks that they lie in: any element of k cells. -/
import Derived.Test.YthdbckbpldlkeaaSeat
import Derived.Laws.CopyRow
import Derived.Laws.IdiomCopy
namespace Go.Proofs.Ythdbckbpldlkeaa
set_option linter.unusedVariables false
set_option linter.unusedSimpArgs false
set_option linter.unnecessarySimpa false
section
open Go.RowKit
set_option maxRecDepth 20000
set_option maxHeartbeats 1000000

/-- only blocks of F, and new ones, may have turned -/
structure Only (F : Nat → Prop) (w w' : World) : Prop where
  os : w'.os = w.os
  tape : w'.tape = w.tape
  output : w'.output = w.output
  size : w.heap.size ≤ w'.heap.size
  block : ∀ k, k < w.heap.size → ¬ F k → w'.heap[k]? = w.heap[k]?
section
variable {F G : Nat → Prop} {a b c w w' : World} {N : Nat}
theorem Only.refl (F : Nat → Prop) (w : World) : Only F w w := ⟨rfl, rfl, rfl, Nat.le_refl _, fun _ _ _ => rfl⟩
theorem Only.of_below (h : Below w.heap.size w w') : Only F w w' := ⟨h.os, h.tape, h.output, h.size, fun k hk _ => h.block k hk⟩
theorem Only.of_grown {row : Option Nat} (h : w.grownBy w' row) (hr : ∀ g, row = some g → F g) : Only F w w' := ⟨h.os, h.tape, h.output, h.size, fun k hk hF => h.block k hk (fun e => hF (hr k e.symm))⟩
theorem Only.of_set {p : Addr} (hp : F p.block) (u : Value) : Only F w (w.setCell p u) := ⟨rfl, rfl, rfl, by simp [World.setCell], fun k _ hF => Below.heap_setCell _ _ _ _ (by rintro rfl; exact hF hp)⟩
theorem Only.trans (h : Only F a b) (k : Only G b c) (hG : ∀ i, i < a.heap.size → G i → F i) : Only F a c :=
  ⟨k.os.trans h.os, k.tape.trans h.tape, k.output.trans h.output, Nat.le_trans h.size k.size, fun i hi hF => (k.block i (Nat.lt_of_lt_of_le hi h.size) (fun hg => hF (hG i hi hg))).trans (h.block i hi hF)⟩
theorem Only.step (h : Only F a b) (k : Below b.heap.size b c) : Only F a c := h.trans (G := F) (Only.of_below k) (fun _ _ h => h)
theorem Only.after (h : Below a.heap.size a b) (k : Only F b c) : Only F a c := (Only.of_below (F := F) h).trans k (fun _ _ h => h)
theorem Only.mono (h : Only F w w') (hG : ∀ i, i < w.heap.size → F i → G i) : Only G w w' := ⟨h.os, h.tape, h.output, h.size, fun k hk hF => h.block k hk (fun hf => hF (hG k hk hf))⟩
theorem Only.below (h : Only F w w') (hN : N ≤ w.heap.size) (hF : ∀ i, F i → N ≤ i) : Below N w w' := ⟨h.os, h.tape, h.output, h.size, fun k hk => h.block k (by omega) (fun hf => by have := hF k hf; omega)⟩
end
/-- a step that touches blocks of F alone, all of them new -/
theorem below_only {F : Nat → Prop} {w w1 w2 : World} (ho : Only F w1 w2) (h : Below w.heap.size w w1) (hF : ∀ i, F i → w.heap.size ≤ i) : Below w.heap.size w w2 := h.trans (ho.below h.size hF)
/-- the slice's block is one of F -/
def FIn (F : Nat → Prop) (A : Option Addr) : Prop := ∀ g, A = some (⟨g, 0, none⟩ : Addr) → F g
theorem FIn.nil (F : Nat → Prop) : FIn F none := fun _ h => by cases h
theorem FIn.mono {F G : Nat → Prop} {A : Option Addr} (h : FIn F A) (hG : ∀ g, F g → G g) : FIn G A := fun g hg => hG g (h g hg)
theorem Own.fin {w : World} {B e size n c : Nat} {A : Option Addr} {xs : List Value} (h : Own w B e size A n c xs) : FIn (fun g => B ≤ g ∧ g < w.heap.size) A := by
  intro g hg
  rcases h.shape with ⟨h1, _⟩ | ⟨g', h1, h2, h3⟩
  · rw [h1] at hg; cases hg
  · rw [h1] at hg
    injection hg with hg
    injection hg with hg
    subst hg
    exact ⟨h2, h3⟩
theorem OwnB.keepF {w w' : World} {B n c : Nat} {A : Option Addr} {l : List UInt8} {F : Nat → Prop} (h : OwnB w B A n c l) (hF : FIn F A) (hk : ∀ g, F g → g < w.heap.size → w'.heap[g]? = w.heap[g]?) : OwnB w' B A n c l :=
  ⟨h.hn, h.own.keep fun g _ hlt hA => hk g (hF g hA) hlt⟩
/-- two rows whose elements have unlike types lie in unlike blocks -/
theorem own_ne' {w : World} {B B' e e' s s' n n' c c' : Nat} {A A' : Option Addr} {xs xs' : List Value} (h : Own w B e s A n c xs) (h' : Own w B' e' s' A' n' c' xs') (hne : e ≠ e') :
    ∀ g, A = some ⟨g, 0, none⟩ → some g ≠ Value.ownBlock (.slice A' n' c') := by
  intro g hA hg
  subst hA
  rcases h'.shape with ⟨rfl, _⟩ | ⟨g', rfl, _⟩
  · simp [Value.ownBlock] at hg
  · simp [Value.ownBlock] at hg
    subst hg
    rcases h.2 with ⟨hv, _⟩ | ⟨g1, cap, cur, hv, _, hg1, _⟩
    · injection hv with hv; cases hv
    · rcases h'.2 with ⟨hv', _⟩ | ⟨g2, cap', cur', hv', _, hg2, _⟩
      · injection hv' with hv'; cases hv'
      · injection hv with hv; injection hv with hv; injection hv with hv
        injection hv' with hv'; injection hv' with hv'; injection hv' with hv'
        subst hv
        subst hv'
        rw [hg1] at hg2
        injection hg2 with hg2
        injection hg2 with _ ht
        exact hne ht
theorem blk_own_ne {w : World} {B e' s' n' c' : Nat} {A' : Option Addr} {xs' : List Value} {g : Nat} {t : TypeId} {cs : Array Value} (h : Blk w g t cs) (h' : Own w B e' s' A' n' c' xs') (hne : t ≠ e') : some g ≠ Value.ownBlock (.slice A' n' c') := by
  intro hg
  rcases h'.shape with ⟨rfl, _⟩ | ⟨g', rfl, _⟩
  · simp [Value.ownBlock] at hg
  · simp [Value.ownBlock] at hg
    subst hg
    rcases h'.2 with ⟨hv', _⟩ | ⟨g2, cap', cur', hv', _, hg2, _⟩
    · injection hv' with hv'; cases hv'
    · injection hv' with hv'; injection hv' with hv'; injection hv' with hv'
      subst hv'
      unfold Blk at h
      rw [h] at hg2
      injection hg2 with hg2
      injection hg2 with _ ht
      exact hne ht

section
variable {α : Type} {f : α → Option Addr × Nat → List Value} {k : Nat}
def cellsG (f : α → Option Addr × Nat → List Value) : List α → List (Option Addr × Nat) → List Value
  | v :: L, d :: ds => f v d ++ cellsG f L ds
  | _, _ => []
theorem cellsG_at (hf : ∀ v d, (f v d).length = k) : ∀ (L : List α) (ds : List (Option Addr × Nat)) (j i : Nat) (v : α) (d : Option Addr × Nat) (u : Value), L[j]? = some v → ds[j]? = some d → (f v d)[i]? = some u → (cellsG f L ds)[j * k + i]? = some u := by
  intro L
  induction L with
  | nil => intro ds j i v d u h; simp at h
  | cons x L ih =>
    intro ds j i v d u h1 h2 h3
    cases ds with
    | nil => simp at h2
    | cons y ds =>
      cases j with
      | zero =>
        simp at h1 h2
        subst h1 h2
        rw [cellsG, Nat.zero_mul, Nat.zero_add, List.getElem?_append_left (List.getElem?_eq_some_iff.1 h3).1]
        exact h3
      | succ j =>
        have := ih ds j i v d u (by simpa using h1) (by simpa using h2) h3
        rw [cellsG, List.getElem?_append_right (by rw [hf, Nat.succ_mul]; omega), hf, Nat.succ_mul, show j * k + k + i - k = j * k + i by omega]
        exact this
theorem cellsG_snoc : ∀ (L : List α) (ds : List (Option Addr × Nat)) (v : α) (d : Option Addr × Nat), ds.length = L.length → cellsG f (L ++ [v]) (ds ++ [d]) = cellsG f L ds ++ f v d := by
  intro L
  induction L with
  | nil =>
    intro ds v d h
    obtain rfl : ds = [] := List.eq_nil_of_length_eq_zero h
    simp [cellsG]
  | cons u L ih =>
    intro ds v d h
    cases ds with
    | nil => simp at h
    | cons e ds => simp only [List.cons_append, cellsG]; rw [ih ds v d (by simpa using h), List.append_assoc]
theorem cellsG_len (hf : ∀ v d, (f v d).length = k) : ∀ (L : List α) (ds : List (Option Addr × Nat)), ds.length = L.length → (cellsG f L ds).length = L.length * k := by
  intro L
  induction L with
  | nil => intro ds h; cases ds <;> simp [cellsG]
  | cons u L ih =>
    intro ds h
    cases ds with
    | nil => simp at h
    | cons e ds =>
      rw [cellsG, List.length_append, hf, ih ds (by simpa using h), List.length_cons, Nat.succ_mul]
      omega
/-- in a row of one cell an element, one element is set -/
theorem cellsG_set1 (hf : ∀ v d, (f v d).length = 1) : ∀ (L : List α) (ds : List (Option Addr × Nat)) (j : Nat) (v : α) (d : Option Addr × Nat) (u : Value), ds.length = L.length → f v d = [u] → j < L.length → cellsG f (L.set j v) (ds.set j d) = (cellsG f L ds).set j u := by
  intro L
  induction L with
  | nil => intro ds j v d u _ _ h; simp at h
  | cons x L ih =>
    intro ds j v d u hl hu hj
    cases ds with
    | nil => simp at hl
    | cons y ds =>
      obtain ⟨z, hz⟩ : ∃ z, f x y = [z] := List.length_eq_one_iff.1 (hf x y)
      cases j with
      | zero => simp [cellsG, hz, hu]
      | succ j =>
        simp only [List.set_cons_succ, cellsG, hz, List.singleton_append]
        rw [ih ds j v d u (by simpa using hl) hu (by simpa using hj)]
end
/-- a row of elements: their cells are f's, their bytes dat's; all in blocks of F -/
structure OwnF {α : Type} (f : α → Option Addr × Nat → List Value) (k : Nat) (e : TypeId) (dat : α → List UInt8) (w : World) (F : Nat → Prop) (A : Option Addr) (n c : Nat) (L : List α) (ds : List (Option Addr × Nat)) : Prop where
  hn : n = L.length
  hd : ds.length = L.length
  own : Own w 0 e k A n c (cellsG f L ds)
  inF : FIn F A
  data : ∀ (j : Nat) (v : α) (d : Option Addr × Nat), L[j]? = some v → ds[j]? = some d → OwnB w 0 d.1 (dat v).length d.2 (dat v) ∧ FIn F d.1
section
variable {α : Type} {f : α → Option Addr × Nat → List Value} {k : Nat} {e : TypeId} {dat : α → List UInt8} {w w' : World} {F G : Nat → Prop} {n c : Nat} {A : Option Addr} {L : List α} {ds : List (Option Addr × Nat)}
theorem OwnF.nil (w : World) (F : Nat → Prop) : OwnF f k e dat w F none 0 0 [] [] := ⟨rfl, rfl, Own.nil _ _ _ _, FIn.nil _, by intro j v d h; simp at h⟩
theorem OwnF.keep (h : OwnF f k e dat w F A n c L ds) (hk : ∀ g, F g → g < w.heap.size → w'.heap[g]? = w.heap[g]?) : OwnF f k e dat w' F A n c L ds :=
  ⟨h.hn, h.hd, h.own.keep (fun g _ hlt hA => hk g (h.inF g hA) hlt), h.inF, fun j v d h1 h2 => ⟨(h.data j v d h1 h2).1.keepF (h.data j v d h1 h2).2 hk, (h.data j v d h1 h2).2⟩⟩
theorem OwnF.below (h : OwnF f k e dat w F A n c L ds) (hb : Below w.heap.size w w') : OwnF f k e dat w' F A n c L ds := h.keep fun g _ hlt => hb.block g hlt
theorem OwnF.mono (h : OwnF f k e dat w F A n c L ds) (hG : ∀ g, g < w.heap.size → F g → G g) : OwnF f k e dat w G A n c L ds :=
  ⟨h.hn, h.hd, h.own, fun g hg => hG g (h.own.fin g hg).2 (h.inF g hg), fun j v d h1 h2 => ⟨(h.data j v d h1 h2).1, fun g hg => hG g ((h.data j v d h1 h2).1.own.fin g hg).2 ((h.data j v d h1 h2).2 g hg)⟩⟩
theorem OwnF.elem (h : OwnF f k e dat w F A n c L ds) {j : Nat} {v : α} (hv : L[j]? = some v) : ∃ d, ds[j]? = some d ∧ OwnB w 0 d.1 (dat v).length d.2 (dat v) ∧ FIn F d.1 := by
  have hj := (List.getElem?_eq_some_iff.1 hv).1
  have hj' : j < ds.length := by rw [h.hd]; exact hj
  exact ⟨ds[j], List.getElem?_eq_getElem hj', h.data j v _ hv (List.getElem?_eq_getElem hj')⟩
/-- the cells of element j -/
theorem OwnF.cells (hf : ∀ v d, (f v d).length = k) (h : OwnF f k e dat w F A n c L ds) {j : Nat} {v : α} {d : Option Addr × Nat} (hv : L[j]? = some v) (hd : ds[j]? = some d) (hk : 0 < k) :
    ∃ g, A = some ⟨g, 0, none⟩ ∧ g < w.heap.size ∧ ∀ i u, (f v d)[i]? = some u → w.cell? ⟨g, j * k + i, none⟩ = some u := by
  have hj := (List.getElem?_eq_some_iff.1 hv).1
  obtain ⟨g, rfl, _, hlt⟩ := h.own.at_ (by rw [h.hn]; omega)
  refine ⟨g, rfl, hlt, ?_⟩
  intro i u hu
  obtain ⟨b, off, hA, hc⟩ := h.own.sl.at_ (cellsG_at hf L ds j i v d u hv hd hu)
  injection hA with hA
  injection hA with h1 h2
  subst h1
  subst h2
  rw [Nat.zero_add] at hc
  exact hc
/-- one element more, its bytes there already; the row may have moved -/
theorem OwnF.snoc (h : OwnF f k e dat w F A n c L ds) (hne : 5 ≠ e) {A' : Option Addr} {c' : Nat} {v : α} {d : Option Addr × Nat} (h1 : Own w' 0 e k A' (n + 1) c' (cellsG f L ds ++ f v d)) (h2 : w.grownBy w' (Value.ownBlock (.slice A n c)))
    (h3 : A' = A ∨ A' = some ⟨w.heap.size, 0, none⟩) (hF : ∀ g, w.heap.size ≤ g → F g) (hv : OwnB w 0 d.1 (dat v).length d.2 (dat v)) (hvF : FIn F d.1) : OwnF f k e dat w' F A' (n + 1) c' (L ++ [v]) (ds ++ [d]) := by
  have keep : ∀ {m : Nat} {dd : Option Addr × Nat} {l : List UInt8}, OwnB w 0 dd.1 m dd.2 l → OwnB w' 0 dd.1 m dd.2 l := fun hO => ⟨hO.hn, hO.own.grown h2 (own_ne' hO.own h.own hne)⟩
  refine ⟨by rw [h.hn]; simp, by simp [h.hd], by rw [cellsG_snoc L ds v d h.hd]; exact h1, ?_, ?_⟩
  · intro g hg
    rcases h3 with h3 | h3
    · exact h.inF g (h3.symm.trans hg)
    · rw [h3] at hg
      injection hg with hg
      injection hg with hg
      subst hg
      exact hF _ (Nat.le_refl _)
  · intro j u d' hu hd'
    rcases Nat.lt_or_ge j L.length with hj | hj
    · rw [List.getElem?_append_left hj] at hu
      rw [List.getElem?_append_left (by rw [h.hd]; exact hj)] at hd'
      exact ⟨keep (h.data j u d' hu hd').1, (h.data j u d' hu hd').2⟩
    · have hj' : j = L.length := by
        have := (List.getElem?_eq_some_iff.1 hu).1
        simp at this
        omega
      subst hj'
      rw [List.getElem?_append_right (Nat.le_refl _)] at hu
      rw [List.getElem?_append_right (by rw [h.hd]; exact Nat.le_refl _)] at hd'
      simp at hu
      simp [h.hd] at hd'
      subst hu
      subst hd'
      exact ⟨keep hv, hvF⟩
/-- in a row of one cell an element, one element is stored -/
theorem OwnF.store (hf : ∀ v d, (f v d).length = 1) {g : Nat} (h : OwnF f 1 e dat w F (some ⟨g, 0, none⟩) n c L ds) (hne : 5 ≠ e) {j : Nat} {v : α} {d : Option Addr × Nat} {u : Value} (hu : f v d = [u]) (hj : j < n) (hv : OwnB w 0 d.1 (dat v).length d.2 (dat v)) (hvF : FIn F d.1) :
    OwnF f 1 e dat (w.setCell ⟨g, j, none⟩ u) F (some ⟨g, 0, none⟩) n c (L.set j v) (ds.set j d) := by
  have hG : w.grownBy (w.setCell ⟨g, j, none⟩ u) (Value.ownBlock (.slice (some ⟨g, 0, none⟩) n c)) := grown_set (World.grownBy.refl _ _) (.inl rfl) j u
  have keep : ∀ {m : Nat} {dd : Option Addr × Nat} {l : List UInt8}, OwnB w 0 dd.1 m dd.2 l → OwnB (w.setCell ⟨g, j, none⟩ u) 0 dd.1 m dd.2 l := fun hO => ⟨hO.hn, hO.own.grown hG (own_ne' hO.own h.own hne)⟩
  refine ⟨by rw [List.length_set]; exact h.hn, by simp [h.hd], ?_, h.inF, ?_⟩
  · rw [cellsG_set1 hf L ds j v d u h.hd hu (by rw [← h.hn]; exact hj)]
    exact h.own.stored j u
  · intro i x d' hx hd'
    rcases Nat.decEq i j with hij | hij
    · rw [List.getElem?_set_ne (fun e => hij e.symm)] at hx hd'
      exact ⟨keep (h.data i x d' hx hd').1, (h.data i x d' hx hd').2⟩
    · subst hij
      have hl : i < L.length := by rw [← h.hn]; exact hj
      rw [List.getElem?_set_self hl] at hx
      rw [List.getElem?_set_self (by rw [h.hd]; exact hl)] at hd'
      injection hx with hx
      injection hd' with hd'
      subst hx
      subst hd'
      exact ⟨keep hv, hvF⟩
end
/-- one element appended, in a walk -/
theorem app_f {α : Type} {f : α → Option Addr × Nat → List Value} {k : Nat} {e : TypeId} {dat : α → List UInt8} {F : Nat → Prop} {ops : Array Oper} {rest : List Oper} {o : Oper} {a : Act} {Q : Exit → Act → World → Prop} (w : World) (hgd : o.guard = none) (s x : Operand) (ty : TypeId)
    (ho : o.op = .call { callee := .builtin .append, args := #[s, x], argTypes := #[ty, ty] })
    (hf : ∀ v d, (f v d).length = k) (hone : ∀ v d, ∀ u ∈ f v d, u.oneCell' = true) (hne : 5 ≠ e) (i : TypeInfo) (z : Value) (bytes : Nat) (hu : Try.prog.underlying ty = some (.slice e)) (hi : Try.prog.info? e = some i) (hz : i.zero = some z) (hk : i.size = k) (hby : i.bytes = bytes) (hzs : z.cells.size = k) (hk0 : 0 < k) (hb4 : bytes ≤ 4096)
    (A : Option Addr) (n c : Nat) (L : List α) (ds : List (Option Addr × Nat)) (hs : a.eval s = .slice A n c) (hown : OwnF f k e dat w F A n c L ds)
    (v : α) (d : Option Addr × Nat) (A2 : Option Addr) (hx : a.eval x = .slice A2 1 1)
    (hr : Sl w A2 (f v d)) (hv : OwnB w 0 d.1 (dat v).length d.2 (dat v)) (hvF : FIn F d.1) (hF : ∀ g, w.heap.size ≤ g → F g)
    (hb : n ≤ 34359738) (N : Nat) (hN : n + 1 = N)
    (h : ∀ A' c' w', OwnF f k e dat w' F A' N c' (L ++ [v]) (ds ++ [d]) → w.grownBy w' (Value.ownBlock (.slice A n c)) → (A' = A ∨ A' = some ⟨w.heap.size, 0, none⟩) → wpList Try.prog ops Q rest (a.put o.dst (.slice A' N c')) w') : wpList Try.prog ops Q (o :: rest) a w := by
  subst hN
  refine wpList_app w hgd s x _ ho 0 e i _ k bytes hu hi hz hk hby hzs hk0 A n c _ hs hown.own A2 1 1 _ hx (by rw [hf]; omega) hr (hone v d) (by unfold maxLen; omega) ?_ (Nat.zero_le _) (n + 1) rfl _ rfl ?_
  · calc (n + 1) * bytes ≤ (n + 1) * 4096 := Nat.mul_le_mul_left _ hb4
      _ ≤ _ := by omega
  · intro A' c' w' h1 h2 h3 _
    exact h A' c' w' (hown.snoc hne h1 h2 h3 hF hv hvF) h2 h3
end
section
open Go.RowKit
theorem blk_sets {g : Nat} {t : TypeId} : ∀ (vs : List Value) (o : Nat) {w : World} {l : List Value}, Blk w g t l.toArray → o + vs.length ≤ l.length → Blk (w.setCells g o vs) g t (l.take o ++ vs ++ l.drop (o + vs.length)).toArray
  | [], o, w, l, h, _ => by simpa [World.setCells] using h
  | v :: vs, o, w, l, h, hl => by
    have h1 := h.set_ o v
    simp only [List.setIfInBounds_toArray] at h1
    have h2 := blk_sets vs (o + 1) h1 (by simp at hl ⊢; omega)
    rw [list_seg_step l o v vs (by simp at hl; omega)] at h2
    rw [World.setCells]
    simpa [Nat.add_assoc, Nat.add_comm 1] using h2
theorem only_sets {F : Nat → Prop} {w : World} {g : Nat} (hg : F g) : ∀ (vs : List Value) (o : Nat) {W : World}, Only F w W → Only F w (W.setCells g o vs)
  | [], _, _, h => h
  | v :: vs, o, W, h => by
    rw [World.setCells]
    exact only_sets hg vs (o + 1) (h.trans (Only.of_set (F := F) (p := ⟨g, o, none⟩) hg v) (fun _ _ h => h))
theorem size_sets {g : Nat} : ∀ (vs : List Value) (o : Nat) (W : World), (W.setCells g o vs).heap.size = W.heap.size
  | [], _, _ => rfl
  | v :: vs, o, W => by rw [World.setCells, size_sets vs]; simp [World.setCell]
theorem wp_gen {P : World → Prop} {c : Code} {Q : Exit → Act → World → Prop} {a : Act} {w : World} (h : P w) (k : ∀ W, P W → Code.wp Try.prog c Q a W) : Code.wp Try.prog c Q a w := k w h
theorem Only.set (F : Nat → Prop) {w W : World} (h : Only F w W) {p i : Nat} (hp : F p) (u : Value) : Only F w (W.setCell ⟨p, i, none⟩ u) := h.trans (Only.of_set (F := F) hp u) (fun _ _ h => h)
theorem Only.new {F : Nat → Prop} {w W : World} (h : Only F w W) (o : Obj) : Only F w (W.alloc o) := h.step (below_alloc (Below.refl _ _) o)
theorem Only.drew {F : Nat → Prop} {w W : World} (h : Only F w W) : Only F w W.drew := ⟨h.os, h.tape, h.output, h.size, h.block⟩
theorem Only.setNew {F : Nat → Prop} {w W : World} (h : Only F w W) {g i : Nat} (hg : w.heap.size ≤ g) (u : Value) : Only F w (W.setCell ⟨g, i, none⟩ u) := h.trans (Only.of_set (F := fun k => k = g) rfl u) (fun i hi (e : i = g) => by omega)
end
section
open Go.RowKit
/-- cells as they lie in memory -/
structure KB where
  g : Nat
  t : TypeId
  l : List Value
structure PX (w : World) (p : Nat) (t : TypeId) (cs : List Value) (ks : List KB) (W : World) : Prop where
  blk : Blk W p t cs.toArray
  only : Only (fun q => q = p) w W
  keep : ∀ x ∈ ks, x.g ≠ p ∧ Blk W x.g x.t x.l.toArray
section
variable {w W W' : World} {p q i : Nat} {t : TypeId} {cs : List Value} {ks : List KB} {x : KB} {v : Value}
theorem PX.start (h : Blk w p t cs.toArray) : PX w p t cs [] w := ⟨h, Only.refl _ _, by simp⟩
theorem PX.add (h : PX w p t cs ks W) (g : Nat) (tg : TypeId) (l : List Value) (hg : g ≠ p) (hb : Blk W g tg l.toArray) : PX w p t cs (⟨g, tg, l⟩ :: ks) W := ⟨h.blk, h.only, by
  intro x hx
  rcases List.mem_cons.1 hx with rfl | hx
  · exact ⟨hg, hb⟩
  · exact h.keep x hx⟩
theorem PX.k0 (h : PX w p t cs (x :: ks) W) : Blk W x.g x.t x.l.toArray := (h.keep x (by simp)).2
theorem PX.k1 {y : KB} (h : PX w p t cs (x :: y :: ks) W) : Blk W y.g y.t y.l.toArray := (h.keep y (by simp)).2
theorem PX.k2 {y z : KB} (h : PX w p t cs (x :: y :: z :: ks) W) : Blk W z.g z.t z.l.toArray := (h.keep z (by simp)).2
theorem PX.k3 {y z u : KB} (h : PX w p t cs (x :: y :: z :: u :: ks) W) : Blk W u.g u.t u.l.toArray := (h.keep u (by simp)).2
theorem PX.tail (h : PX w p t cs (x :: ks) W) : PX w p t cs ks W := ⟨h.blk, h.only, fun y hy => h.keep y (by simp [hy])⟩
theorem PX.set (h : PX w p t cs ks W) (i : Nat) (v : Value) : PX w p t (cs.set i v) ks (W.setCell ⟨p, i, none⟩ v) := ⟨by
  have := h.blk.set_ i v
  rwa [List.setIfInBounds_toArray] at this, Only.set _ h.only rfl v, fun x hx => ⟨(h.keep x hx).1, (h.keep x hx).2.far (p := ⟨p, i, none⟩) (h.keep x hx).1 v⟩⟩
theorem PX.sets (h : PX w p t cs ks W) (vs : List Value) (o : Nat) (hl : o + vs.length ≤ cs.length) : PX w p t (cs.take o ++ vs ++ cs.drop (o + vs.length)) ks (W.setCells p o vs) := ⟨blk_sets vs o h.blk hl, only_sets (F := fun q => q = p) rfl _ _ h.only, fun x hx => ⟨(h.keep x hx).1, by
  have h1 := h.keep x hx
  exact blk_far_sets h1.2 h1.1 vs o⟩⟩
where
  blk_far_sets {W : World} {g p : Nat} {t : TypeId} {cs : Array Value} (h : Blk W g t cs) (hne : g ≠ p) (vs : List Value) (o : Nat) : Blk (W.setCells p o vs) g t cs :=
    ((only_sets (F := fun q => q = p) rfl vs o (Only.refl _ W)).block g h.lt hne).trans h
/-- a store into a kept block of the call's own -/
theorem PX.put (h : PX w p t cs (x :: ks) W) (hg : w.heap.size ≤ x.g) (hk : ∀ y ∈ ks, y.g ≠ x.g) (i : Nat) (v : Value) : PX w p t cs (⟨x.g, x.t, x.l.set i v⟩ :: ks) (W.setCell ⟨x.g, i, none⟩ v) := by
  have h0 := h.keep x (by simp)
  refine ⟨h.blk.far (p := ⟨x.g, i, none⟩) (Ne.symm h0.1) v, h.only.setNew hg v, ?_⟩
  intro y hy
  rcases List.mem_cons.1 hy with rfl | hy
  · refine ⟨h0.1, ?_⟩
    have := h0.2.set_ i v
    rwa [List.setIfInBounds_toArray] at this
  · have h1 := h.keep y (by simp [hy])
    exact ⟨h1.1, h1.2.far (p := ⟨x.g, i, none⟩) (hk y hy) v⟩
theorem PX.swap {y : KB} (h : PX w p t cs (x :: y :: ks) W) : PX w p t cs (y :: x :: ks) W := ⟨h.blk, h.only, fun z hz => h.keep z (by simp at hz ⊢; rcases hz with h | h | h <;> simp [h])⟩
theorem PX.step (h : PX w p t cs ks W) (hb : Below W.heap.size W W') : PX w p t cs ks W' := ⟨h.blk.below hb h.blk.lt, h.only.step hb, fun x hx => ⟨(h.keep x hx).1, (h.keep x hx).2.below hb (h.keep x hx).2.lt⟩⟩
theorem PX.alloc (h : PX w p t cs ks W) (o : Obj) : PX w p t cs ks (W.alloc o) := h.step (below_alloc (Below.refl _ _) o)
theorem PX.drew (h : PX w p t cs ks W) : PX w p t cs ks W.drew := ⟨h.blk.drew, h.only.drew, fun x hx => ⟨(h.keep x hx).1, (h.keep x hx).2.drew⟩⟩
theorem PX.undrew (h : PX w p t cs ks W.drew) : PX w p t cs ks W := ⟨h.blk, ⟨h.only.os, h.only.tape, h.only.output, h.only.size, h.only.block⟩, fun x hx => h.keep x hx⟩
/-- a new block -/
theorem PX.new (h : PX w p t cs ks W) (tg : TypeId) (l : List Value) : PX w p t cs (⟨W.heap.size, tg, l⟩ :: ks) (W.alloc (.cells l.toArray tg)) := (h.alloc _).add _ _ _ (fun e => by have := h.blk.lt; omega) (Blk.new W tg l.toArray)
theorem PX.newz {N : Nat} (h : PX w p t cs ks W) (hz : W.heap.size = N) (tg : TypeId) (l : List Value) : PX w p t cs (⟨N, tg, l⟩ :: ks) (W.alloc (.cells l.toArray tg)) := by
  have := h.new tg l
  rwa [hz] at this
/-- a call that writes into block p alone -/
theorem PX.call {cs' : List Value} (h : PX w p t cs ks W) (ho : Only (fun q => q = p) W W') (hB : Blk W' p t cs'.toArray) : PX w p t cs' ks W' := ⟨hB, h.only.trans ho (fun _ _ h => h), fun x hx => ⟨(h.keep x hx).1, (ho.block x.g (h.keep x hx).2.lt (h.keep x hx).1).trans (h.keep x hx).2⟩⟩
theorem PX.sub (h : PX w p t cs ks W) {ks' : List KB} (hk : ∀ x ∈ ks', x ∈ ks) : PX w p t cs ks' W := ⟨h.blk, h.only, fun x hx => h.keep x (hk x hx)⟩
theorem PX.lt (h : PX w p t cs ks W) : p < W.heap.size := h.blk.lt
end
end
end Go.Proofs.Ythdbckbpldlkeaa
