/- Rows of values in memory of the call's own; an append by itself, in a drawn region. -/
import Derived.Test.YtmnldciobeeleaaDicM
import Derived.Test.YtmnldciobeeleaaSvL
namespace Go.Proofs.Ytmnldciobeeleaa
set_option linter.unusedVariables false
set_option linter.unusedSimpArgs false
set_option linter.unnecessarySimpa false
open Go.RowKit
set_option maxRecDepth 20000
set_option maxHeartbeats 1000000

theorem wp_app_f {α : Type} {f : α → Option Addr × Nat → List Value} {k : Nat} {e : TypeId} {dat : α → List UInt8} {F : Nat → Prop} {o : Oper} {a : Act} {K : Act → World → Prop} {Q : Exit → Act → World → Prop} {w : World} (s x : Operand) (ty : TypeId)
    (ho : o.op = .call { callee := .builtin .append, args := #[s, x], argTypes := #[ty, ty] })
    (hf : ∀ v d, (f v d).length = k) (hone : ∀ v d, ∀ u ∈ f v d, u.oneCell' = true) (hne : 5 ≠ e) (bytes : Nat) (z : Value) (hu : Try.prog.underlying ty = some (.slice e)) (hi : (Try.prog.info? e).map (fun i => (i.zero, i.size, i.bytes)) = some (some z, k, bytes)) (hzs : z.cells.size = k) (hk0 : 0 < k) (hb4 : bytes ≤ 4096)
    (A : Option Addr) (n c : Nat) (L : List α) (ds : List (Option Addr × Nat)) (hs : a.eval s = .slice A n c) (hown : OwnF f k e dat w F A n c L ds)
    (v : α) (d : Option Addr × Nat) (A2 : Option Addr) (hx : a.eval x = .slice A2 1 1)
    (hr : Sl w A2 (f v d)) (hv : OwnB w 0 d.1 (dat v).length d.2 (dat v)) (hvF : FIn F d.1) (hF : ∀ g, w.heap.size ≤ g → F g)
    (hb : n ≤ 34359738)
    (h : ∀ A' c' w', OwnF f k e dat w' F A' (n + 1) c' (L ++ [v]) (ds ++ [d]) → w.grownBy w' (Value.ownBlock (.slice A n c)) → (A' = A ∨ A' = some ⟨w.heap.size, 0, none⟩) → K (a.put o.dst (.slice A' (n + 1) c')) w') : Oper.wp Try.prog o a w K Q := by
  obtain ⟨i0, hi0, hz0, hz1, hz2⟩ := info_parts hi
  obtain ⟨A', c', w', hr', h2, h3, h4⟩ := run_app (P := Try.prog) w 0 ty o.type e i0 _ k bytes hu hi0 hz0 hz1 hz2 hzs hk0 A n c _ hown.own A2 1 1 _ (by rw [hf]; omega) hr (hone v d) (by unfold maxLen; omega) (by
    calc (n + 1) * bytes ≤ (n + 1) * 4096 := Nat.mul_le_mul_left _ hb4
      _ ≤ _ := by omega) (Nat.zero_le _)
  unfold Oper.wp execOp
  simp only [ho, resolve, invoke, builtin, Sem.run_bind, Sem.run_pure, Result.andThen_ok, List.map_toArray, List.map_cons, List.map_nil, hs, hx, hr']
  exact h A' c' w' (hown.snoc hne h2 h3 h4 hF hv hvF) h3 h4
/-- the slice at A reads as the entries L -/
def SlE (w : World) (A : Option Addr) (L : List Ent) : Prop := ∀ j E, L[j]? = some E → ∃ b off Aj cj, A = some ⟨b, off, none⟩ ∧ (w.cell? ⟨b, off + j * 11, none⟩ = some (.int .i64 E.ix) ∧ w.cell? ⟨b, off + j * 11 + 1, none⟩ = some (.int .i64 E.sub) ∧ w.cell? ⟨b, off + j * 11 + 2, none⟩ = some (.string E.nm) ∧ w.cell? ⟨b, off + j * 11 + 3, none⟩ = some (.int .i64 E.ty) ∧ w.cell? ⟨b, off + j * 11 + 4, none⟩ = some (.int .i64 E.acc) ∧ w.cell? ⟨b, off + j * 11 + 5, none⟩ = some (.bool E.mp) ∧ w.cell? ⟨b, off + j * 11 + 6, none⟩ = some (.bool E.st) ∧ w.cell? ⟨b, off + j * 11 + 7, none⟩ = some (.int .i64 E.mx) ∧ w.cell? ⟨b, off + j * 11 + 8, none⟩ = some (.int .i64 E.lo) ∧ w.cell? ⟨b, off + j * 11 + 9, none⟩ = some (.int .i64 E.hi) ∧ w.cell? ⟨b, off + j * 11 + 10, none⟩ = some (.slice Aj E.df.length cj)) ∧ E.df.length ≤ cj ∧ Sl w Aj (E.df.map bv)
theorem SlE.below {w w' : World} {A : Option Addr} {L : List Ent} (h : SlE w A L) (hb : Below w.heap.size w w') : SlE w' A L := by
  intro j E hE
  obtain ⟨b, off, Aj, cj, hA, ⟨c0, c1, c2, c3, c4, c5, c6, c7, c8, c9, c10⟩, hc, hs⟩ := h j E hE
  have k : ∀ {p v}, w.cell? p = some v → w'.cell? p = some v := fun hc => (hb.cell (lt_of_cell hc)).trans hc
  exact ⟨b, off, Aj, cj, hA, ⟨k c0, k c1, k c2, k c3, k c4, k c5, k c6, k c7, k c8, k c9, k c10⟩, hc, hs.below hb⟩
/-- the cells as they are now, the bytes as they were -/
theorem SlE.two {w w' : World} {A : Option Addr} {L : List Ent} (h : SlE w A L) (hb : Below w.heap.size w w') {j : Nat} {E : Ent} (hE : L[j]? = some E) :
    ∃ b off Aj cj, A = some ⟨b, off, none⟩ ∧ (w'.cell? ⟨b, off + j * 11, none⟩ = some (.int .i64 E.ix) ∧ w'.cell? ⟨b, off + j * 11 + 1, none⟩ = some (.int .i64 E.sub) ∧ w'.cell? ⟨b, off + j * 11 + 2, none⟩ = some (.string E.nm) ∧ w'.cell? ⟨b, off + j * 11 + 3, none⟩ = some (.int .i64 E.ty) ∧ w'.cell? ⟨b, off + j * 11 + 4, none⟩ = some (.int .i64 E.acc) ∧ w'.cell? ⟨b, off + j * 11 + 5, none⟩ = some (.bool E.mp) ∧ w'.cell? ⟨b, off + j * 11 + 6, none⟩ = some (.bool E.st) ∧ w'.cell? ⟨b, off + j * 11 + 7, none⟩ = some (.int .i64 E.mx) ∧ w'.cell? ⟨b, off + j * 11 + 8, none⟩ = some (.int .i64 E.lo) ∧ w'.cell? ⟨b, off + j * 11 + 9, none⟩ = some (.int .i64 E.hi) ∧ w'.cell? ⟨b, off + j * 11 + 10, none⟩ = some (.slice Aj E.df.length cj)) ∧ E.df.length ≤ cj ∧ Sl w Aj (E.df.map bv) := by
  obtain ⟨b, off, Aj, cj, hA, ⟨c0, c1, c2, c3, c4, c5, c6, c7, c8, c9, c10⟩, hc, hs⟩ := h j E hE
  have k : ∀ {p v}, w.cell? p = some v → w'.cell? p = some v := fun hc => (hb.cell (lt_of_cell hc)).trans hc
  exact ⟨b, off, Aj, cj, hA, ⟨k c0, k c1, k c2, k c3, k c4, k c5, k c6, k c7, k c8, k c9, k c10⟩, hc, hs⟩
theorem OwnF.slE {w : World} {F : Nat → Prop} {A : Option Addr} {n c : Nat} {L : List Ent} {ds : List (Option Addr × Nat)} (h : OwnE w F A n c L ds) : SlE w A L := by
  intro j E hE
  obtain ⟨d, hd, hO, _⟩ := h.elem hE
  obtain ⟨g, hA, _, hc⟩ := h.cells entF_len hE hd (by omega)
  have k := fun i u (hu : (entF E d)[i]? = some u) => hc i u hu
  exact ⟨g, 0, d.1, d.2, hA, by rw [Nat.zero_add]; exact ⟨k 0 _ rfl, k 1 _ rfl, k 2 _ rfl, k 3 _ rfl, k 4 _ rfl, k 5 _ rfl, k 6 _ rfl, k 7 _ rfl, k 8 _ rfl, k 9 _ rfl, k 10 _ rfl⟩, hO.own.le, hO.sl⟩
theorem ec_below {w w' : World} {b o : Nat} {E : Ent} {A : Option Addr} {n c : Nat} (h : w.cell? ⟨b, o, none⟩ = some (.int .i64 E.ix) ∧ w.cell? ⟨b, o + 1, none⟩ = some (.int .i64 E.sub) ∧ w.cell? ⟨b, o + 2, none⟩ = some (.string E.nm) ∧ w.cell? ⟨b, o + 3, none⟩ = some (.int .i64 E.ty) ∧ w.cell? ⟨b, o + 4, none⟩ = some (.int .i64 E.acc) ∧ w.cell? ⟨b, o + 5, none⟩ = some (.bool E.mp) ∧ w.cell? ⟨b, o + 6, none⟩ = some (.bool E.st) ∧ w.cell? ⟨b, o + 7, none⟩ = some (.int .i64 E.mx) ∧ w.cell? ⟨b, o + 8, none⟩ = some (.int .i64 E.lo) ∧ w.cell? ⟨b, o + 9, none⟩ = some (.int .i64 E.hi) ∧ w.cell? ⟨b, o + 10, none⟩ = some (.slice A n c)) (hb : Below w.heap.size w w') : w'.cell? ⟨b, o, none⟩ = some (.int .i64 E.ix) ∧ w'.cell? ⟨b, o + 1, none⟩ = some (.int .i64 E.sub) ∧ w'.cell? ⟨b, o + 2, none⟩ = some (.string E.nm) ∧ w'.cell? ⟨b, o + 3, none⟩ = some (.int .i64 E.ty) ∧ w'.cell? ⟨b, o + 4, none⟩ = some (.int .i64 E.acc) ∧ w'.cell? ⟨b, o + 5, none⟩ = some (.bool E.mp) ∧ w'.cell? ⟨b, o + 6, none⟩ = some (.bool E.st) ∧ w'.cell? ⟨b, o + 7, none⟩ = some (.int .i64 E.mx) ∧ w'.cell? ⟨b, o + 8, none⟩ = some (.int .i64 E.lo) ∧ w'.cell? ⟨b, o + 9, none⟩ = some (.int .i64 E.hi) ∧ w'.cell? ⟨b, o + 10, none⟩ = some (.slice A n c) := by
  obtain ⟨c0, c1, c2, c3, c4, c5, c6, c7, c8, c9, c10⟩ := h
  have k : ∀ {p v}, w.cell? p = some v → w'.cell? p = some v := fun hc => (hb.cell (lt_of_cell hc)).trans hc
  exact ⟨k c0, k c1, k c2, k c3, k c4, k c5, k c6, k c7, k c8, k c9, k c10⟩
theorem below_undrew {w w' : World} (h : Below w.drew.heap.size w.drew w') : Below w.heap.size w w' := ⟨h.os, h.tape, h.output, h.size, h.block⟩
theorem ec_of {w : World} {b : Nat} {E : Ent} {A : Option Addr} {n c : Nat} (h : Blk w b 56 (entV E A n c)) : w.cell? ⟨b, 0, none⟩ = some (.int .i64 E.ix) ∧ w.cell? ⟨b, 1, none⟩ = some (.int .i64 E.sub) ∧ w.cell? ⟨b, 2, none⟩ = some (.string E.nm) ∧ w.cell? ⟨b, 3, none⟩ = some (.int .i64 E.ty) ∧ w.cell? ⟨b, 4, none⟩ = some (.int .i64 E.acc) ∧ w.cell? ⟨b, 5, none⟩ = some (.bool E.mp) ∧ w.cell? ⟨b, 6, none⟩ = some (.bool E.st) ∧ w.cell? ⟨b, 7, none⟩ = some (.int .i64 E.mx) ∧ w.cell? ⟨b, 8, none⟩ = some (.int .i64 E.lo) ∧ w.cell? ⟨b, 9, none⟩ = some (.int .i64 E.hi) ∧ w.cell? ⟨b, 10, none⟩ = some (.slice A n c) :=
  ⟨h.cell 0 rfl, h.cell 1 rfl, h.cell 2 rfl, h.cell 3 rfl, h.cell 4 rfl, h.cell 5 rfl, h.cell 6 rfl, h.cell 7 rfl, h.cell 8 rfl, h.cell 9 rfl, h.cell 10 rfl⟩
/-- after an append onto a row that may have moved: nil no more -/
theorem some_row {g H : Nat} {A' : Option Addr} (h : A' = some (⟨g, 0, none⟩ : Addr) ∨ A' = some ⟨H, 0, none⟩) : ∃ g', A' = some ⟨g', 0, none⟩ := h.elim (fun h => ⟨g, h⟩) (fun h => ⟨H, h⟩)
def svF (v : SV) (d : Option Addr × Nat) : List Value := [.int .i64 v.ix, .int .i64 v.sub, .slice d.1 v.data.length d.2]
theorem svF_len (v : SV) (d : Option Addr × Nat) : (svF v d).length = 3 := rfl
theorem svF_one (v : SV) (d : Option Addr × Nat) : ∀ u ∈ svF v d, u.oneCell' = true := by
  intro u hu
  simp only [svF, List.mem_cons, List.not_mem_nil, or_false] at hu
  rcases hu with rfl | rfl | rfl <;> rfl
theorem infoSV : (Try.prog.info? 40).map (fun i => (i.zero, i.size, i.bytes)) = some (some (.agg #[.int .i64 0, .int .i64 0, .slice none 0 0]), 3, 40) := by kernel_rfl
abbrev OwnSV (w : World) (F : Nat → Prop) (A : Option Addr) (n c : Nat) (L : List SV) (ds : List (Option Addr × Nat)) : Prop := OwnF svF 3 40 SV.data w F A n c L ds
/-- no two of the slices lie in one block -/
def Apart (ds : List (Option Addr × Nat)) : Prop := ds.Pairwise (fun a b => ∀ g, a.1 = some (⟨g, 0, none⟩ : Addr) → b.1 ≠ some ⟨g, 0, none⟩)
theorem Apart.nil : Apart [] := List.Pairwise.nil
theorem Apart.snoc {ds : List (Option Addr × Nat)} (h : Apart ds) {d : Option Addr × Nat} {N : Nat} (h1 : ∀ e ∈ ds, ∀ g, e.1 = some (⟨g, 0, none⟩ : Addr) → g < N) (h2 : FIn (fun g => N ≤ g) d.1) : Apart (ds ++ [d]) := by
  unfold Apart
  rw [List.pairwise_append]
  refine ⟨h, List.pairwise_singleton _ _, ?_⟩
  intro a ha b hb g hg he
  simp at hb
  subst hb
  have := h1 a ha g hg
  have := h2 g he
  omega
section
variable {w : World} {F : Nat → Prop} {A : Option Addr} {n c : Nat} {L : List SV} {ds : List (Option Addr × Nat)}
theorem OwnF.dlt {α : Type} {f : α → Option Addr × Nat → List Value} {k : Nat} {e : TypeId} {dat : α → List UInt8} {L : List α} (h : OwnF f k e dat w F A n c L ds) : ∀ d ∈ ds, ∀ g, d.1 = some (⟨g, 0, none⟩ : Addr) → g < w.heap.size := by
  intro d hd g hg
  obtain ⟨j, hj, rfl⟩ := List.getElem_of_mem hd
  obtain ⟨v, hv⟩ : ∃ v, L[j]? = some v := ⟨L[j]'(by rw [← h.hd]; exact hj), List.getElem?_eq_getElem _⟩
  exact ((h.data j v _ hv (List.getElem?_eq_getElem hj)).1.own.fin g hg).2
theorem OwnF.slV (h : OwnSV w F A n c L ds) : SlV w A L := by
  intro j v hv
  obtain ⟨d, hd, hO, _⟩ := h.elem hv
  obtain ⟨g, hA, _, hc⟩ := h.cells svF_len hv hd (by omega)
  exact ⟨g, 0, d.1, d.2, hA, by rw [Nat.zero_add]; exact hc 0 _ rfl, by rw [Nat.zero_add]; exact hc 1 _ rfl, by rw [Nat.zero_add]; exact hc 2 _ rfl, hO.own.le, hO.sl⟩
end
section
variable {α : Type} {f : α → Option Addr × Nat → List Value} {k : Nat} {e : TypeId} {dat : α → List UInt8} {w w' : World} {F : Nat → Prop} {n c : Nat} {A : Option Addr} {L : List α} {ds : List (Option Addr × Nat)}
/-- a row of another type of elements has been written -/
theorem OwnF.grownT (h : OwnF f k e dat w F A n c L ds) {B2 e2 s2 n2 c2 : Nat} {A2 : Option Addr} {xs2 : List Value} (hg : w.grownBy w' (Value.ownBlock (.slice A2 n2 c2))) (h2 : Own w B2 e2 s2 A2 n2 c2 xs2) (h1 : e ≠ e2) (h3 : 5 ≠ e2) : OwnF f k e dat w' F A n c L ds :=
  ⟨h.hn, h.hd, h.own.grown hg (own_ne' h.own h2 h1), h.inF, fun j v d hv hd => ⟨⟨(h.data j v d hv hd).1.hn, (h.data j v d hv hd).1.own.grown hg (own_ne' (h.data j v d hv hd).1.own h2 h3)⟩, (h.data j v d hv hd).2⟩⟩
theorem own_blk_ne {B e' s' n' c' : Nat} {A' : Option Addr} {xs' : List Value} {g : Nat} {t : TypeId} {cs : Array Value} (h' : Own w B e' s' A' n' c' xs') (h : Blk w g t cs) (hne : t ≠ e') : ∀ g', A' = some (⟨g', 0, none⟩ : Addr) → some g' ≠ some g := by
  rintro g' rfl hg
  have := blk_own_ne h h' hne
  simp [Value.ownBlock] at this
  injection hg with hg
  exact this hg.symm
/-- a block of another type has been written -/
theorem OwnF.setT (h : OwnF f k e dat w F A n c L ds) {g : Nat} {t : TypeId} {cs : Array Value} (hB : Blk w g t cs) (h1 : t ≠ e) (h3 : t ≠ 5) (i : Nat) (u : Value) : OwnF f k e dat (w.setCell ⟨g, i, none⟩ u) F A n c L ds := by
  have hg : w.grownBy (w.setCell ⟨g, i, none⟩ u) (some g) := grown_set (World.grownBy.refl _ _) (.inl rfl) i u
  exact ⟨h.hn, h.hd, h.own.grown hg (own_blk_ne h.own hB h1), h.inF, fun j v d hv hd => ⟨⟨(h.data j v d hv hd).1.hn, (h.data j v d hv hd).1.own.grown hg (own_blk_ne (h.data j v d hv hd).1.own hB h3)⟩, (h.data j v d hv hd).2⟩⟩
/-- no element yet, in a block that is there -/
theorem OwnF.empty {g : Nat} (hB : Blk w g e #[]) (hF : F g) : OwnF f k e dat w F (some ⟨g, 0, none⟩) 0 0 [] [] :=
  ⟨rfl, rfl, ⟨by simp [cellsG], .inr ⟨g, 0, #[], rfl, Nat.zero_le _, hB, Nat.le_refl _, by unfold maxLen; omega, by simp, by simp [cellsG]⟩⟩, fun g' hg => by injection hg with hg; injection hg with hg; subst hg; exact hF, by intro j v d h; simp at h⟩
end
/-- all values of a dictionary -/
def svL (L : List Ent) (V : List (List UInt8)) : List SV := List.zipWith (fun E v => ⟨E.ix, E.sub, v⟩) L V
theorem svL_len (L : List Ent) (V : List (List UInt8)) (h : V.length = L.length) : (svL L V).length = L.length := by simp [svL, h]
theorem svL_at {L : List Ent} {V : List (List UInt8)} {k : Nat} {E : Ent} {v : List UInt8} (hE : L[k]? = some E) (hv : V[k]? = some v) : (svL L V)[k]? = some ⟨E.ix, E.sub, v⟩ := by simp [svL, List.getElem?_zipWith, hE, hv]
theorem take_snoc {α : Type} {L : List α} {k : Nat} {x : α} (h : L[k]? = some x) : L.take (k + 1) = L.take k ++ [x] := by
  obtain ⟨hk, rfl⟩ := List.getElem?_eq_some_iff.1 h
  exact List.take_succ_eq_append_getElem hk
end Go.Proofs.Ytmnldciobeeleaa
