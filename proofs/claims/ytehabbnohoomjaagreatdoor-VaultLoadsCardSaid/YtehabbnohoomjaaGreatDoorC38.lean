/- Rows of values: copied within, stored into. -/
import Derived.Test.YtehabbnohoomjaaGreatDoorC23
import Derived.Test.YtehabbnohoomjaaGreatDoorC37
import Derived.Laws.CopyOwn
namespace Go.Proofs.YtehabbnohoomjaaGreatDoor
section
set_option linter.unusedVariables false
set_option linter.unusedSimpArgs false
set_option linter.unnecessarySimpa false
open Go.RowKit
set_option maxRecDepth 20000
set_option maxHeartbeats 2000000

section
variable {P : Program} (w : World)
theorem run_copy_rowK (k : Nat) (dT sT ty elem : TypeId) (g o dLen dCap : Nat) (a : Addr) (sLen sCap : Nat) (cur : Array Value) (t : TypeId) (cs : List Value)
    (hu : P.underlying dT = some (.slice elem)) (hs : (P.info? elem).map (·.size) = some k)
    (hg : w.heap[g]? = some (.cells cur t (0, 0))) (hn : cs.length = Nat.min sLen dLen * k)
    (hsrc : ∀ j v, cs[j]? = some v → w.cell? (a.add j) = some v) (hfit : o + cs.length ≤ cur.size) (h1 : ∀ v ∈ cs, v.oneCell' = true) :
    (Builtin.copy_ #[dT, sT] ty #[.slice (some ⟨g, o, none⟩) dLen dCap, .slice (some a) sLen sCap]).run P w =
      .ok (goInt (Nat.min sLen dLen)) (w.setRow g (cur.toList.take o ++ cs ++ cur.toList.drop (o + cs.length)).toArray) := by
  have hl := run_loadCells_list (P := P) w a cs hsrc
  have hst := run_storeCells_at P g o t cs 0 cur w hg (by simpa using hfit) h1
  cases hq : P.info? elem with
  | none => simp [hq] at hs
  | some i =>
    have hi : i.size = k := by simpa [hq] using hs
    rw [hn] at hl
    rw [Nat.add_zero] at hst
    simp [Builtin.copy_, run_underlying hu, Builtin.lenOf, Builtin.firstCells, sizeOf, typeInfo, hq, hi, hl, hst]
theorem run_copy_noneK (k : Nat) (dT sT ty elem : TypeId) (d a : Option Addr) (dLen dCap sLen sCap : Nat) (hu : P.underlying dT = some (.slice elem)) (hs : (P.info? elem).map (·.size) = some k) (hn : Nat.min sLen dLen = 0) :
    (Builtin.copy_ #[dT, sT] ty #[.slice d dLen dCap, .slice a sLen sCap]).run P w = .ok (goInt 0) w := by
  cases hq : P.info? elem with
  | none => simp [hq] at hs
  | some i =>
    have hl : ∀ (x : Addr), (loadCells x 0).run P w = .ok #[] w := fun x => by simpa using run_loadCells_list (P := P) w x [] (by simp)
    cases d <;> cases a <;> simp [Builtin.copy_, run_underlying hu, Builtin.lenOf, Builtin.firstCells, sizeOf, typeInfo, hq, hn, hl, storeCells]
end
theorem sizeV3 : (Tryz.prog.info? 52).map (·.size) = some 3 := by kernel_rfl
/-- copy within rows of values, in a walk -/
theorem wp_cpy3 {o : Oper} {a : Act} {K : Act → World → Prop} {Q : Exit → Act → World → Prop} {w : World} (d s : Operand) (ho : o.op = .call { callee := .builtin .copy, args := #[d, s], argTypes := #[27, 27] })
    (B g N c : Nat) (xs : List Value) (hown : Own w B 52 3 (some ⟨g, 0, none⟩) N c xs) (dp sp : Option Addr) (dLen dCap sLen sCap : Nat) (hd : a.eval d = .slice dp dLen dCap) (hs : a.eval s = .slice sp sLen sCap)
    (off : Nat) (cs : List Value) (hn : cs.length = Nat.min sLen dLen * 3) (hpos : 0 < cs.length → dp = some ⟨g, off, none⟩ ∧ ∃ ad, sp = some ad ∧ ∀ j v, cs[j]? = some v → w.cell? (ad.add j) = some v)
    (hfit : off + cs.length ≤ xs.length) (h1 : ∀ v ∈ cs, v.oneCell' = true)
    (h : ∀ w', Own w' B 52 3 (some ⟨g, 0, none⟩) N c (xs.take off ++ (cs ++ xs.drop (off + cs.length))) → w.grownBy w' (some g) → K (a.put o.dst (goInt (Nat.min sLen dLen))) w') : Oper.wp Tryz.prog o a w K Q := by
  by_cases h0 : cs.length = 0
  · obtain rfl : cs = [] := List.eq_nil_of_length_eq_zero h0
    have hm : Nat.min sLen dLen = 0 := by simp only [List.length_nil] at hn; omega
    have hr := run_copy_noneK (P := Tryz.prog) w 3 27 27 o.type 52 dp sp dLen dCap sLen sCap Tryz.underlying27 sizeV3 hm
    have hh := h w (by simpa using hown) (World.grownBy.refl _ _)
    rw [hm] at hh
    unfold Oper.wp execOp
    simp only [ho, resolve, invoke, builtin, Sem.run_bind, Sem.run_pure, Result.andThen_ok, List.map_toArray, List.map_cons, List.map_nil, hd, hs, hr]
    exact hh
  · obtain ⟨rfl, ad, rfl, hsrc⟩ := hpos (by omega)
    rcases hown.2 with ⟨hv, _⟩ | ⟨g', cap, cur, hv, hb, hg, hnc, hcm, hcs, htake⟩
    · cases hv
    · injection hv with hA _ hcc
      injection hA with hA
      injection hA with hA
      subst hA
      subst hcc
      have hxl := hown.1
      have hfc : off + cs.length ≤ cur.size := by rw [hcs]; have := Nat.mul_le_mul_right 3 hnc; omega
      have hr := run_copy_rowK (P := Tryz.prog) w 3 27 27 o.type 52 g off dLen dCap ad sLen sCap cur 52 cs Tryz.underlying27 sizeV3 hg hn hsrc hfc h1
      unfold Oper.wp execOp
      simp only [ho, resolve, invoke, builtin, Sem.run_bind, Sem.run_pure, Result.andThen_ok, List.map_toArray, List.map_cons, List.map_nil, hd, hs, hr]
      refine h _ ⟨by simp; omega, .inr ⟨g, c, _, rfl, hb, setRow_heap w g cur _ _ _ hg, hnc, hcm, by simp [hcs]; have := Nat.mul_le_mul_right 3 hnc; omega, ?_⟩⟩ ⟨rfl, rfl, rfl, by simp [World.setRow], fun k _ hk => setRow_other w g k _ (fun e => hk (by rw [e]))⟩
      have hl2 : xs.length = N * 3 := hxl
      rw [← htake]
      apply List.ext_getElem?
      intro j
      simp only [List.getElem?_take, List.getElem?_append, List.length_take, List.getElem?_drop, Array.length_toList, List.length_append]
      rw [hcs]
      have hcc3 := Nat.mul_le_mul_right 3 hnc
      have m1 : min off (c * 3) = off := by omega
      have m2 : min off (min (N * 3) (c * 3)) = off := by omega
      rw [m1, m2]
      by_cases hj : j < off
      · simp [hj, show j < off + cs.length by omega, show j < N * 3 by omega]
      · by_cases hj2 : j - off < cs.length
        · simp [hj, hj2, show j < off + cs.length by omega, show j < N * 3 by omega]
        · by_cases hj3 : j < N * 3
          · simp [hj, hj2, hj3, show ¬ j < off + cs.length by omega]
            rw [if_pos (by omega)]
            congr 1
            omega
          · simp [hj, hj2, hj3, show ¬ j < off + cs.length by omega]
            intro hx
            omega

theorem set_app3 {α : Type} (s t : List α) (hs : s.length = 3) (i j : Nat) (h : i = 3 + j) (v : α) : (s ++ t).set i v = s ++ t.set j v := by
  subst h
  rw [List.set_append_right _ _ (by omega), hs, Nat.add_sub_cancel_left]
def valC3 (x : SV) (d : Option Addr × Nat) : List Value := [.int .i64 x.ix, .int .i64 x.sub, .slice d.1 x.data.length d.2]
theorem cellsV_cons (x : SV) (d : Option Addr × Nat) (L : List SV) (ds : List (Option Addr × Nat)) : cellsV (x :: L) (d :: ds) = valC3 x d ++ cellsV L ds := rfl
theorem cellsV_set (x : SV) (d : Option Addr × Nat) : ∀ (L : List SV) (ds : List (Option Addr × Nat)) (k : Nat), ds.length = L.length → k < L.length →
    (((cellsV L ds).set (k * 3) (.int .i64 x.ix)).set (k * 3 + 1) (.int .i64 x.sub)).set (k * 3 + 2) (.slice d.1 x.data.length d.2) = cellsV (L.set k x) (ds.set k d) := by
  intro L
  induction L with
  | nil => intro ds k _ h; simp at h
  | cons y L ih =>
    intro ds k hl hk
    cases ds with
    | nil => simp at hl
    | cons e ds =>
      cases k with
      | zero => rfl
      | succ k =>
        have hs : (valC3 y e).length = 3 := rfl
        rw [List.set_cons_succ, List.set_cons_succ, cellsV_cons, cellsV_cons, ← ih ds k (by simpa using hl) (by simpa using hk)]
        rw [set_app3 _ _ hs _ (k * 3) (by omega), set_app3 _ _ hs _ (k * 3 + 1) (by omega), set_app3 _ _ hs _ (k * 3 + 2) (by omega)]
theorem cellsV_len : ∀ (L : List SV) (ds : List (Option Addr × Nat)), ds.length = L.length → (cellsV L ds).length = L.length * 3
  | [], _, _ => rfl
  | _ :: L, [], h => by simp at h
  | x :: L, d :: ds, h => by rw [cellsV_cons, List.length_append, cellsV_len L ds (by simpa using h), List.length_cons]; simp [valC3]; omega
theorem cellsV_app : ∀ (L M : List SV) (ds es : List (Option Addr × Nat)), ds.length = L.length → cellsV (L ++ M) (ds ++ es) = cellsV L ds ++ cellsV M es
  | [], M, [], es, _ => rfl
  | [], _, _ :: _, _, h => by simp at h
  | _ :: L, _, [], _, h => by simp at h
  | x :: L, M, d :: ds, es, h => by rw [List.cons_append, List.cons_append, cellsV_cons, cellsV_cons, cellsV_app L M ds es (by simpa using h), List.append_assoc]
theorem cellsV_one : ∀ (L : List SV) (ds : List (Option Addr × Nat)), ∀ u ∈ cellsV L ds, u.oneCell' = true
  | [], _, _, h => by simp [cellsV] at h
  | _ :: _, [], _, h => by simp [cellsV] at h
  | x :: L, d :: ds, u, h => by
    rw [cellsV_cons] at h
    rcases List.mem_append.1 h with h | h
    · simp [valC3] at h
      rcases h with rfl | rfl | rfl <;> rfl
    · exact cellsV_one L ds u h
/-- three cells stored -/
def stoV (w : World) (g k : Nat) (x : SV) (A : Option Addr) (c : Nat) : World :=
  ((w.setCell ⟨g, k * 3, none⟩ (.int .i64 x.ix)).setCell ⟨g, k * 3 + 1, none⟩ (.int .i64 x.sub)).setCell ⟨g, k * 3 + 2, none⟩ (.slice A x.data.length c)
theorem stoV_own {w : World} {B g n c k : Nat} {L : List SV} {ds : List (Option Addr × Nat)} (h : Own w B 52 3 (some ⟨g, 0, none⟩) n c (cellsV L ds)) (hd : ds.length = L.length) (hk : k < L.length) (x : SV) (A : Option Addr) (c' : Nat) :
    Own (stoV w g k x A c') B 52 3 (some ⟨g, 0, none⟩) n c (cellsV (L.set k x) (ds.set k (A, c'))) := by
  have h1 := (World.ownsRow.stored (World.ownsRow.stored (World.ownsRow.stored h (k * 3) (.int .i64 x.ix)).1 (k * 3 + 1) (.int .i64 x.sub)).1 (k * 3 + 2) (.slice A x.data.length c')).1
  rw [cellsV_set x (A, c') L ds k hd hk] at h1
  exact h1
theorem stoV_block {w : World} {g k i : Nat} (x : SV) (A : Option Addr) (c : Nat) (hne : i ≠ g) : (stoV w g k x A c).heap[i]? = w.heap[i]? := by
  unfold stoV
  rw [heap_setCell_other _ _ _ _ (by exact hne), heap_setCell_other _ _ _ _ (by exact hne), heap_setCell_other _ _ _ _ (by exact hne)]
theorem pw_set {α : Type} {R : α → α → Prop} (hs : ∀ a b, R a b → R b a) : ∀ {ds : List α} {k : Nat} {d : α}, ds.Pairwise R → (∀ a ∈ ds, R a d) → (ds.set k d).Pairwise R
  | [], _, _, _, _ => by simp
  | a :: ds, 0, d, h, h2 => by
    rw [List.set_cons_zero]
    exact List.pairwise_cons.2 ⟨fun b hb => hs _ _ (h2 b (List.mem_cons_of_mem _ hb)), (List.pairwise_cons.1 h).2⟩
  | a :: ds, k + 1, d, h, h2 => by
    rw [List.set_cons_succ]
    refine List.pairwise_cons.2 ⟨fun b hb => ?_, pw_set hs (List.pairwise_cons.1 h).2 (fun a ha => h2 a (List.mem_cons_of_mem _ ha))⟩
    rcases List.mem_or_eq_of_mem_set hb with hb | rfl
    · exact (List.pairwise_cons.1 h).1 b hb
    · exact h2 a (List.mem_cons_self ..)
theorem pw_mid {α : Type} {R : α → α → Prop} (hs : ∀ a b, R a b → R b a) {ds : List α} (k : Nat) {d : α} (h : ds.Pairwise R) (h2 : ∀ a ∈ ds, R a d) : (ds.take k ++ d :: ds.drop k).Pairwise R := by
  have e : ds.take k ++ ds.drop k = ds := List.take_append_drop k ds
  have h3 := h
  rw [← e, List.pairwise_append] at h3
  rw [List.pairwise_append]
  refine ⟨h3.1, List.pairwise_cons.2 ⟨fun b hb => hs _ _ (h2 b (List.mem_of_mem_drop hb)), h3.2.1⟩, ?_⟩
  intro a ha b hb
  rcases List.mem_cons.1 hb with rfl | hb
  · exact h2 a (List.mem_of_mem_take ha)
  · exact h3.2.2 a ha b hb
end
end Go.Proofs.YtehabbnohoomjaaGreatDoor
