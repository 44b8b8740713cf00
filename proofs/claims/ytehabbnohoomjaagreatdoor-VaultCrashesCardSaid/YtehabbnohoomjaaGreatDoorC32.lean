/- An entry stored whole into a block of the call's own, and handed back from there. -/
import Derived.Test.YtehabbnohoomjaaGreatDoorC31
import Derived.Test.YtehabbnohoomjaaGreatDoorC28
import Derived.Test.YtehabbnohoomjaaGreatDoorC23
import Derived.Test.YtehabbnohoomjaaGreatDoorC27
import Derived.Test.YtehabbnohoomjaaGreatDoorC29
import Derived.Test.YtehabbnohoomjaaGreatDoorC04
import Derived.RegionTactic
import Derived.Deep.RegionHeld3
import Derived.Deep.Light
namespace Go.Proofs.YtehabbnohoomjaaGreatDoor
section
set_option linter.unusedVariables false
set_option linter.unusedSimpArgs false
set_option linter.unnecessarySimpa false
open Go.RowKit
set_option maxRecDepth 100000
set_option maxHeartbeats 4000000
/-- the cells of block g become the entry -/
def put11 (w : World) (g : Nat) (E : Ent) (A : Option Addr) (n c : Nat) : World :=
  ((((((((((w.setCell ⟨g, 0, none⟩ (.int .i64 E.ix)).setCell ⟨g, 1, none⟩ (.int .i64 E.sub)).setCell ⟨g, 2, none⟩ (.string E.nm)).setCell ⟨g, 3, none⟩ (.int .i64 E.ty)).setCell ⟨g, 4, none⟩ (.int .i64 E.acc)).setCell ⟨g, 5, none⟩ (.bool E.mp)).setCell ⟨g, 6, none⟩ (.bool E.st)).setCell ⟨g, 7, none⟩ (.int .i64 E.mx)).setCell ⟨g, 8, none⟩ (.int .i64 E.lo)).setCell ⟨g, 9, none⟩ (.int .i64 E.hi)).setCell ⟨g, 10, none⟩ (.slice A n c)
theorem list11 {α : Type} (a0 a1 a2 a3 a4 a5 a6 a7 a8 a9 a10 : α) (l : List α) (h : l.length = 11) :
    ((((((((((((((((((((((l.set 0 a0).set 1 a1).set 2 a2).set 3 a3).set 4 a4).set 5 a5).set 6 a6).set 7 a7).set 8 a8).set 9 a9).set 10 a10)))))))))))) = [a0, a1, a2, a3, a4, a5, a6, a7, a8, a9, a10] := by
  match l, h with
  | [_, _, _, _, _, _, _, _, _, _, _], _ => rfl
theorem put11_blk {w : World} {g : Nat} {t : TypeId} {cs : Array Value} (hB : Blk w g t cs) (hs : cs.size = 11) (E : Ent) (A : Option Addr) (n c : Nat) : Blk (put11 w g E A n c) g t (entV E A n c) := by
  have h := ((((((((((hB.set_ 0 (.int .i64 E.ix)).set_ 1 (.int .i64 E.sub)).set_ 2 (.string E.nm)).set_ 3 (.int .i64 E.ty)).set_ 4 (.int .i64 E.acc)).set_ 5 (.bool E.mp)).set_ 6 (.bool E.st)).set_ 7 (.int .i64 E.mx)).set_ 8 (.int .i64 E.lo)).set_ 9 (.int .i64 E.hi)).set_ 10 (.slice A n c)
  obtain ⟨l⟩ := cs
  simp only [List.setIfInBounds_toArray] at h
  rw [list11 _ _ _ _ _ _ _ _ _ _ _ l (by simpa using hs)] at h
  exact h
theorem put11_only (w : World) (g : Nat) (E : Ent) (A : Option Addr) (n c : Nat) : Only (fun k => k = g) w (put11 w g E A n c) := by
  have st : ∀ (w' : World) (i : Nat) (u : Value), Only (fun k => k = g) w w' → Only (fun k => k = g) w (w'.setCell ⟨g, i, none⟩ u) := fun w' i u h => h.trans (Only.of_set (F := fun k => k = g) rfl u) (fun _ _ h => h)
  unfold put11
  exact st _ _ _ (st _ _ _ (st _ _ _ (st _ _ _ (st _ _ _ (st _ _ _ (st _ _ _ (st _ _ _ (st _ _ _ (st _ _ _ (st _ _ _ (Only.refl _ _)))))))))))
theorem ent_size : (Tryz.prog.info? 55).map (·.size) = some 11 := by kernel_rfl
theorem entV_size (E : Ent) (A : Option Addr) (n c : Nat) : (Tryz.prog.info? 55).map (·.size) = some (entV E A n c).size := ent_size
/-- an entry's result, whole -/
theorem ret_ent {fn : Func} {p : Tmp} (h : fn.results = #[.cell p 55]) {a : Act} {w : World} {g : Nat} {E : Ent} {A : Option Addr} {n c : Nat} {R : Ending → World → Prop} (hd : a.defers = []) (hp : a.tmps.getD p undef = .pointer (some ⟨g, 0, none⟩))
    (hB : Blk w g 55 (entV E A n c)) (hR : R (.returned (.agg (entV E A n c))) w) : bodyPost Tryz.prog fn R .ret a w :=
  bodyPost_ret (results_cell_row h _ _ _ _ _ _ _ hp hB Tryz.underlying55 rfl (entV_size E A n c)) hd hR
theorem ret_ent_tmp {fn : Func} {p u : Tmp} (h : fn.results = #[.cell p 55, .tmp u]) {a : Act} {w : World} {g : Nat} {E : Ent} {A : Option Addr} {n c : Nat} {R : Ending → World → Prop} (hd : a.defers = []) (hp : a.tmps.getD p undef = .pointer (some ⟨g, 0, none⟩))
    (hB : Blk w g 55 (entV E A n c)) (hR : R (.returned (.tuple #[.agg (entV E A n c), a.tmps.getD u undef])) w) : bodyPost Tryz.prog fn R .ret a w := by
  refine bodyPost_ret ?_ hd hR
  rw [results_cell_tmp h, hp]
  simp only [asAddr, Sem.run_pure, Result.andThen_ok]
  rw [run_loadVar_row w g _ _ _ _ _ hB Tryz.underlying55 rfl (entV_size E A n c)]
  rfl
/-- an entry's block after a step that touches none of it -/
theorem blk_only {w w' : World} {g : Nat} {t : TypeId} {cs : Array Value} {F : Nat → Prop} (h : Blk w g t cs) (ho : Only F w w') (hF : ¬ F g) : Blk w' g t cs := (ho.block g h.lt hF).trans h
theorem ownB_only {w w' : World} {B n c : Nat} {A : Option Addr} {l : List UInt8} {F : Nat → Prop} (h : OwnB w B A n c l) (ho : Only F w w') (hF : ∀ g, B ≤ g → g < w.heap.size → ¬ F g) : OwnB w' B A n c l :=
  ⟨h.hn, h.own.keep fun g hB hlt _ => ho.block g hlt (hF g hB hlt)⟩
end
end Go.Proofs.YtehabbnohoomjaaGreatDoor
namespace Go.Proofs.YtehabbnohoomjaaGreatDoor
section
set_option linter.unusedVariables false
set_option linter.unusedSimpArgs false
set_option linter.unnecessarySimpa false
open Go.RowKit
set_option maxRecDepth 100000
set_option maxHeartbeats 4000000
theorem dict_held (E : Ent) (A : Option Addr) (n c : Nat) (w : World) (hn : n = E.df.length) (hl : n ≤ 35184372088832) (hs : Sl w A (E.df.map bv)) :
    Calls Tryz.prog 58 #[.agg (entV E A n c)] w fun e w' => ∃ A' c', e = .returned (.agg (entV E A' n c')) ∧ OwnB w' w.heap.size A' n c' E.df ∧ Below w.heap.size w w' := by
  have HN := hide hn
  have HS := hide hs
  clear hn hs
  have K0 := blk_two w 55 55 (entV E A n c) (entV zeroE none 0 0)
  have hbw := below_alloc (below_alloc (Below.refl w.heap.size w) (.cells (entV E A n c) 55)) (.cells (entV zeroE none 0 0) 55)
  have HS1 := hide (HS.out.below hbw)
  have HQ : Hid (∀ w1 A1 c1, OwnB w1 (w.heap.size + 1 + 1) A1 n c1 E.df → Below w.heap.size w w1 → Blk w1 (w.heap.size + 1) 55 (entV zeroE none 0 0) → (Blk (put11 (w1.setCell ⟨w.heap.size, 10, none⟩ (.slice A1 n c1)) (w.heap.size + 1) E A1 n c1) (w.heap.size + 1) 55 (entV E A1 n c1) ∧
      OwnB (put11 (w1.setCell ⟨w.heap.size, 10, none⟩ (.slice A1 n c1)) (w.heap.size + 1) E A1 n c1) w.heap.size A1 n c1 E.df ∧ Below w.heap.size w (put11 (w1.setCell ⟨w.heap.size, 10, none⟩ (.slice A1 n c1)) (w.heap.size + 1) E A1 n c1))) := hide (by
    intro w1 A1 c1 hO hb hB
    have o1 : Only (fun k => k = w.heap.size ∨ k = w.heap.size + 1) w1 (put11 (w1.setCell ⟨w.heap.size, 10, none⟩ (.slice A1 n c1)) (w.heap.size + 1) E A1 n c1) :=
      (Only.of_set (F := fun k => k = w.heap.size ∨ k = w.heap.size + 1) (.inl rfl) _).trans (put11_only _ _ _ _ _ _) (fun i _ h => .inr h)
    refine ⟨put11_blk (hB.far (p := ⟨w.heap.size, 10, none⟩) (by simp) _) rfl E A1 n c1, (ownB_only hO o1 (fun g h1 _ h2 => by omega)).mono (by omega), hb.trans (o1.below hb.size (fun i h => by omega))⟩)
  unfold put11 at HQ
  have HQ' := hide HQ
  clear HQ
  unfold entV zeroE at K0 hbw
  unfold entV
  obtain ⟨K1, K2⟩ := K0
  go_enter Tryz.func58, Tryz.ntmps58
  go_wp2_with fail
  refine (dict_own A n c E.df _ HN.out hl HS1.out).mono ?_
  rintro e w1 ⟨A1, c1, rfl, hO1, hb1⟩
  have q1 := K1.below hb1 K1.lt
  have q2 := K2.below hb1 K2.lt
  replace hO1 := hO1.mono (B' := w.heap.size + 1 + 1) (by simp)
  have HO := hide hO1
  have HQ2 := hide q2
  have hbw2 := below_step hb1 hbw
  have hne : w.heap.size ≠ w.heap.size + 1 := by omega
  clear K1 K2 hO1
  obtain ⟨q1_c0, q1_c1, q1_c2, q1_c3, q1_c4, q1_c5, q1_c6, q1_c7, q1_c8, q1_c9, q1_c10⟩ := cel11 q1
  have q1_f := q1.frozen
  obtain ⟨q2_c0, q2_c1, q2_c2, q2_c3, q2_c4, q2_c5, q2_c6, q2_c7, q2_c8, q2_c9, q2_c10⟩ := cel11 q2
  have q2_f := q2.frozen
  go_wp2_with fail
  obtain ⟨r1, r2, r3⟩ := HQ'.out.out w1 A1 c1 HO.out hbw2 HQ2.out
  exact ret_ent (E := E) (A := A1) (n := n) (c := c1) rfl rfl rfl r1 ⟨A1, c1, rfl, r2, r3⟩
theorem dict_entry_no (k : Int) (w : World) (p gl n cl cv : Nat) (Av : Option Addr) (hB : Blk w p 102 #[.slice (some ⟨gl, 0, none⟩) n cl, .slice Av n cv]) (hk : k < 0 ∨ (0 ≤ k ∧ (n : Int) ≤ k)) :
    Calls Tryz.prog 85 #[.pointer (some ⟨p, 0, none⟩), .int .i64 k] w fun e w' => e = .returned (.tuple #[.agg (entV zeroE none 0 0), .bool false]) ∧ Below w.heap.size w w' := by
  have hL := hide (fun W (h : Blk W p 102 #[.slice (some ⟨gl, 0, none⟩) n cl, .slice Av n cv]) => dict_len W h)
  have q := blk_one w 55 (entV zeroE none 0 0)
  have hbw := below_alloc (Below.refl w.heap.size w) (.cells (entV zeroE none 0 0) 55)
  have HQ := hide q
  have hB1 := hide (hB.alloc (.cells (entV zeroE none 0 0) 55))
  unfold entV zeroE at q hbw hB1
  obtain ⟨q_c0, q_c1, q_c2, q_c3, q_c4, q_c5, q_c6, q_c7, q_c8, q_c9, q_c10⟩ := cel11 q
  have q_f := q.frozen
  rcases hk with hk | ⟨hk1, hk2⟩
  · go_enter Tryz.func85, Tryz.ntmps85
    go_wp2_with fail
    exact ret_ent_tmp (E := zeroE) (A := none) (n := 0) (c := 0) rfl rfl rfl HQ.out ⟨rfl, hbw⟩
  · go_enter Tryz.func85, Tryz.ntmps85
    go_wp2_with fail
    refine (hL.out _ hB1.out).mono ?_
    rintro e w1 ⟨rfl, rfl⟩
    go_wp2_with fail
    exact ret_ent_tmp (E := zeroE) (A := none) (n := 0) (c := 0) rfl rfl rfl HQ.out ⟨rfl, hbw⟩
theorem dict_entry_yes (k : Nat) (E : Ent) (w : World) (F : Nat → Prop) (p gl n cl cv : Nat) (Av : Option Addr) (L : List Ent) (V : List (List UInt8)) (ds es : List (Option Addr × Nat))
    (hD : DB 102 w F p (some ⟨gl, 0, none⟩) n cl Av cv L V ds es) (hE : L[k]? = some E) :
    Calls Tryz.prog 85 #[.pointer (some ⟨p, 0, none⟩), .int .i64 k] w fun e w' => ∃ A c, e = .returned (.tuple #[.agg (entV E A E.df.length c), .bool true]) ∧ OwnB w' w.heap.size A E.df.length c E.df ∧ Below w.heap.size w w' := by
  have hbw := below_alloc (Below.refl w.heap.size w) (.cells (entV zeroE none 0 0) 55)
  have q := blk_one w 55 (entV zeroE none 0 0)
  have hk : k < n := by rw [hD.ents.hn]; exact (List.getElem?_eq_some_iff.1 hE).1
  have hD1 := hD.below hbw
  obtain ⟨g, d, hA, zg, _, hO, hfit, c0, c1, c2, c3, c4, c5, c6, c7, c8, c9, c10⟩ := hD1.ent hE
  injection hA with hA
  injection hA with hA
  subst hA
  have hBr := hD1.blk
  have HO := hide hO.sl
  have hf : E.df.length ≤ 35184372088832 := hfit.1
  have HQ : Hid (∀ w1 A1 c1, OwnB w1 (w.heap.size + 1) A1 E.df.length c1 E.df → Below w.heap.size w w1 → Blk w1 w.heap.size 55 (entV zeroE none 0 0) → (Blk (put11 w1 w.heap.size E A1 E.df.length c1) w.heap.size 55 (entV E A1 E.df.length c1) ∧
      OwnB (put11 w1 w.heap.size E A1 E.df.length c1) w.heap.size A1 E.df.length c1 E.df ∧ Below w.heap.size w (put11 w1 w.heap.size E A1 E.df.length c1))) := hide (by
    intro w1 A1 c1 hO hb hB
    have o1 := put11_only w1 w.heap.size E A1 E.df.length c1
    exact ⟨put11_blk hB rfl E A1 _ c1, (ownB_only hO o1 (fun g h1 _ h2 => by omega)).mono (by omega), hb.trans (o1.below hb.size (fun i h => by omega))⟩)
  unfold put11 at HQ
  have HQ' := hide HQ
  clear HQ hD hE hO hfit hD1
  unfold entV zeroE at q hbw hBr c0 c1 c2 c3 c4 c5 c6 c7 c8 c9 c10 zg
  have HB := hide hBr
  obtain ⟨hBr_c0, hBr_c1⟩ := cel2 hBr
  have hBr_f := hBr.frozen
  go_enter Tryz.func85, Tryz.ntmps85
  go_wp2_with fail
  refine (dict_len _ HB.out).mono ?_
  rintro e w1 ⟨rfl, rfl⟩
  go_wp2_with fail
  refine (dict_held E d.1 E.df.length d.2 _ rfl hf HO.out).mono ?_
  rintro e w2 ⟨A2, c2', rfl, hO2, hb2⟩
  clear c0 c1 c2 c3 c4 c5 c6 c7 c8 c9 c10
  clear hBr_c0 hBr_c1 hBr_f
  have q2 := q.below hb2 q.lt
  have HQ2 := hide q2
  replace hO2 := hO2.mono (B' := w.heap.size + 1) (by simp)
  have HO2 := hide hO2
  have hbw2 := below_step hb2 hbw
  unfold entV
  clear hO2
  obtain ⟨q2_c0, q2_c1, q2_c2, q2_c3, q2_c4, q2_c5, q2_c6, q2_c7, q2_c8, q2_c9, q2_c10⟩ := cel11 q2
  have q2_f := q2.frozen
  go_wp2_with fail
  obtain ⟨r1, r2, r3⟩ := HQ'.out.out w2 A2 c2' HO2.out hbw2 HQ2.out
  exact ret_ent_tmp (E := E) (A := A2) (n := E.df.length) (c := c2') rfl rfl rfl r1 ⟨A2, c2', rfl, r2, r3⟩
end
end Go.Proofs.YtehabbnohoomjaaGreatDoor
namespace Go.Proofs.YtehabbnohoomjaaGreatDoor
section
set_option linter.unusedVariables false
set_option linter.unusedSimpArgs false
set_option linter.unnecessarySimpa false
open Go.RowKit
set_option maxRecDepth 20000
set_option maxHeartbeats 1000000

theorem wp_app_f {α : Type} {f : α → Option Addr × Nat → List Value} {k : Nat} {e : TypeId} {dat : α → List UInt8} {F : Nat → Prop} {o : Oper} {a : Act} {K : Act → World → Prop} {Q : Exit → Act → World → Prop} {w : World} (s x : Operand) (ty : TypeId)
    (ho : o.op = .call { callee := .builtin .append, args := #[s, x], argTypes := #[ty, ty] })
    (hf : ∀ v d, (f v d).length = k) (hone : ∀ v d, ∀ u ∈ f v d, u.oneCell' = true) (hne : 5 ≠ e) (bytes : Nat) (z : Value) (hu : Tryz.prog.underlying ty = some (.slice e)) (hi : (Tryz.prog.info? e).map (fun i => (i.zero, i.size, i.bytes)) = some (some z, k, bytes)) (hzs : z.cells.size = k) (hk0 : 0 < k) (hb4 : bytes ≤ 4096)
    (A : Option Addr) (n c : Nat) (L : List α) (ds : List (Option Addr × Nat)) (hs : a.eval s = .slice A n c) (hown : OwnF f k e dat w F A n c L ds)
    (v : α) (d : Option Addr × Nat) (A2 : Option Addr) (hx : a.eval x = .slice A2 1 1)
    (hr : Sl w A2 (f v d)) (hv : OwnB w 0 d.1 (dat v).length d.2 (dat v)) (hvF : FIn F d.1) (hF : ∀ g, w.heap.size ≤ g → F g)
    (hb : n ≤ 34359738)
    (h : ∀ A' c' w', OwnF f k e dat w' F A' (n + 1) c' (L ++ [v]) (ds ++ [d]) → w.grownBy w' (Value.ownBlock (.slice A n c)) → (A' = A ∨ A' = some ⟨w.heap.size, 0, none⟩) → K (a.put o.dst (.slice A' (n + 1) c')) w') : Oper.wp Tryz.prog o a w K Q := by
  obtain ⟨i0, hi0, hz0, hz1, hz2⟩ := info_parts hi
  obtain ⟨A', c', w', hr', h2, h3, h4⟩ := run_app (P := Tryz.prog) w 0 ty o.type e i0 _ k bytes hu hi0 hz0 hz1 hz2 hzs hk0 A n c _ hown.own A2 1 1 _ (by rw [hf]; omega) hr (hone v d) (by unfold maxLen; omega) (by
    calc (n + 1) * bytes ≤ (n + 1) * 4096 := Nat.mul_le_mul_left _ hb4
      _ ≤ _ := by omega) (Nat.zero_le _)
  unfold Oper.wp execOp
  simp only [ho, resolve, invoke, builtin, Sem.run_bind, Sem.run_pure, Result.andThen_ok, List.map_toArray, List.map_cons, List.map_nil, hs, hx, hr']
  exact h A' c' w' (hown.snoc hne h2 h3 h4 hF hv hvF) h3 h4
/-- the slice at A reads as the entries L -/
def SlE (w : World) (A : Option Addr) (L : List Ent) : Prop := ∀ j E, L[j]? = some E → ∃ b off Aj cj, A = some ⟨b, off, none⟩ ∧ (w.cell? ⟨b, off + j * 11, none⟩ = some (.int .i64 E.ix) ∧ w.cell? ⟨b, off + j * 11 + 1, none⟩ = some (.int .i64 E.sub) ∧ w.cell? ⟨b, off + j * 11 + 2, none⟩ = some (.string E.nm) ∧ w.cell? ⟨b, off + j * 11 + 3, none⟩ = some (.int .i64 E.ty) ∧ w.cell? ⟨b, off + j * 11 + 4, none⟩ = some (.int .i64 E.acc) ∧ w.cell? ⟨b, off + j * 11 + 5, none⟩ = some (.bool E.mp) ∧ w.cell? ⟨b, off + j * 11 + 6, none⟩ = some (.bool E.st) ∧ w.cell? ⟨b, off + j * 11 + 7, none⟩ = some (.int .i64 E.mx) ∧ w.cell? ⟨b, off + j * 11 + 8, none⟩ = some (.int .i64 E.lo) ∧ w.cell? ⟨b, off + j * 11 + 9, none⟩ = some (.int .i64 E.hi) ∧ w.cell? ⟨b, off + j * 11 + 10, none⟩ = some (.slice Aj E.df.length cj)) ∧ E.df.length ≤ cj ∧ Sl w Aj (E.df.map bv)
theorem SlE.below {w w' : World} {A : Option Addr} {L : List Ent} (h : SlE w A L) (hb : Below w.heap.size w w') : SlE w' A L := by
  intro j E hE
  obtain ⟨b, off, Aj, cj, hA, ⟨c0, c1, c2, c3, c4, c5, c6, c7, c8, c9, c10⟩, hc, hs⟩ := h j E hE
  have k : ∀ {p v}, w.cell? p = some v → w'.cell? p = some v := fun hc => (hb.cell (lt_of_cell hc)).trans hc
  exact ⟨b, off, Aj, cj, hA, ⟨k c0, k c1, k c2, k c3, k c4, k c5, k c6, k c7, k c8, k c9, k c10⟩, hc, hs.below hb⟩
/-- the cells as they are now, the bytes as they were -/
theorem SlE.two {w w' : World} {A : Option Addr} {L : List Ent} (h : SlE w A L) (hb : Below w.heap.size w w') {j : Nat} {E : Ent} (hE : L[j]? = some E) :
    ∃ b off Aj cj, A = some ⟨b, off, none⟩ ∧ (w'.cell? ⟨b, off + j * 11, none⟩ = some (.int .i64 E.ix) ∧ w'.cell? ⟨b, off + j * 11 + 1, none⟩ = some (.int .i64 E.sub) ∧ w'.cell? ⟨b, off + j * 11 + 2, none⟩ = some (.string E.nm) ∧ w'.cell? ⟨b, off + j * 11 + 3, none⟩ = some (.int .i64 E.ty) ∧ w'.cell? ⟨b, off + j * 11 + 4, none⟩ = some (.int .i64 E.acc) ∧ w'.cell? ⟨b, off + j * 11 + 5, none⟩ = some (.bool E.mp) ∧ w'.cell? ⟨b, off + j * 11 + 6, none⟩ = some (.bool E.st) ∧ w'.cell? ⟨b, off + j * 11 + 7, none⟩ = some (.int .i64 E.mx) ∧ w'.cell? ⟨b, off + j * 11 + 8, none⟩ = some (.int .i64 E.lo) ∧ w'.cell? ⟨b, off + j * 11 + 9, none⟩ = some (.int .i64 E.hi) ∧ w'.cell? ⟨b, off + j * 11 + 10, none⟩ = some (.slice Aj E.df.length cj)) ∧ E.df.length ≤ cj ∧ Sl w Aj (E.df.map bv) := by
  obtain ⟨b, off, Aj, cj, hA, ⟨c0, c1, c2, c3, c4, c5, c6, c7, c8, c9, c10⟩, hc, hs⟩ := h j E hE
  have k : ∀ {p v}, w.cell? p = some v → w'.cell? p = some v := fun hc => (hb.cell (lt_of_cell hc)).trans hc
  exact ⟨b, off, Aj, cj, hA, ⟨k c0, k c1, k c2, k c3, k c4, k c5, k c6, k c7, k c8, k c9, k c10⟩, hc, hs⟩
theorem ec_below {w w' : World} {b o : Nat} {E : Ent} {A : Option Addr} {n c : Nat} (h : w.cell? ⟨b, o, none⟩ = some (.int .i64 E.ix) ∧ w.cell? ⟨b, o + 1, none⟩ = some (.int .i64 E.sub) ∧ w.cell? ⟨b, o + 2, none⟩ = some (.string E.nm) ∧ w.cell? ⟨b, o + 3, none⟩ = some (.int .i64 E.ty) ∧ w.cell? ⟨b, o + 4, none⟩ = some (.int .i64 E.acc) ∧ w.cell? ⟨b, o + 5, none⟩ = some (.bool E.mp) ∧ w.cell? ⟨b, o + 6, none⟩ = some (.bool E.st) ∧ w.cell? ⟨b, o + 7, none⟩ = some (.int .i64 E.mx) ∧ w.cell? ⟨b, o + 8, none⟩ = some (.int .i64 E.lo) ∧ w.cell? ⟨b, o + 9, none⟩ = some (.int .i64 E.hi) ∧ w.cell? ⟨b, o + 10, none⟩ = some (.slice A n c)) (hb : Below w.heap.size w w') : w'.cell? ⟨b, o, none⟩ = some (.int .i64 E.ix) ∧ w'.cell? ⟨b, o + 1, none⟩ = some (.int .i64 E.sub) ∧ w'.cell? ⟨b, o + 2, none⟩ = some (.string E.nm) ∧ w'.cell? ⟨b, o + 3, none⟩ = some (.int .i64 E.ty) ∧ w'.cell? ⟨b, o + 4, none⟩ = some (.int .i64 E.acc) ∧ w'.cell? ⟨b, o + 5, none⟩ = some (.bool E.mp) ∧ w'.cell? ⟨b, o + 6, none⟩ = some (.bool E.st) ∧ w'.cell? ⟨b, o + 7, none⟩ = some (.int .i64 E.mx) ∧ w'.cell? ⟨b, o + 8, none⟩ = some (.int .i64 E.lo) ∧ w'.cell? ⟨b, o + 9, none⟩ = some (.int .i64 E.hi) ∧ w'.cell? ⟨b, o + 10, none⟩ = some (.slice A n c) := by
  obtain ⟨c0, c1, c2, c3, c4, c5, c6, c7, c8, c9, c10⟩ := h
  have k : ∀ {p v}, w.cell? p = some v → w'.cell? p = some v := fun hc => (hb.cell (lt_of_cell hc)).trans hc
  exact ⟨k c0, k c1, k c2, k c3, k c4, k c5, k c6, k c7, k c8, k c9, k c10⟩
theorem below_undrew {w w' : World} (h : Below w.drew.heap.size w.drew w') : Below w.heap.size w w' := ⟨h.os, h.tape, h.output, h.size, h.block⟩
theorem ec_of {w : World} {b : Nat} {E : Ent} {A : Option Addr} {n c : Nat} (h : Blk w b 55 (entV E A n c)) : w.cell? ⟨b, 0, none⟩ = some (.int .i64 E.ix) ∧ w.cell? ⟨b, 1, none⟩ = some (.int .i64 E.sub) ∧ w.cell? ⟨b, 2, none⟩ = some (.string E.nm) ∧ w.cell? ⟨b, 3, none⟩ = some (.int .i64 E.ty) ∧ w.cell? ⟨b, 4, none⟩ = some (.int .i64 E.acc) ∧ w.cell? ⟨b, 5, none⟩ = some (.bool E.mp) ∧ w.cell? ⟨b, 6, none⟩ = some (.bool E.st) ∧ w.cell? ⟨b, 7, none⟩ = some (.int .i64 E.mx) ∧ w.cell? ⟨b, 8, none⟩ = some (.int .i64 E.lo) ∧ w.cell? ⟨b, 9, none⟩ = some (.int .i64 E.hi) ∧ w.cell? ⟨b, 10, none⟩ = some (.slice A n c) :=
  ⟨h.cell 0 rfl, h.cell 1 rfl, h.cell 2 rfl, h.cell 3 rfl, h.cell 4 rfl, h.cell 5 rfl, h.cell 6 rfl, h.cell 7 rfl, h.cell 8 rfl, h.cell 9 rfl, h.cell 10 rfl⟩
/-- after an append onto a row that may have moved: nil no more -/
theorem some_row {g H : Nat} {A' : Option Addr} (h : A' = some (⟨g, 0, none⟩ : Addr) ∨ A' = some ⟨H, 0, none⟩) : ∃ g', A' = some ⟨g', 0, none⟩ := h.elim (fun h => ⟨g, h⟩) (fun h => ⟨H, h⟩)
def svF (v : SV) (d : Option Addr × Nat) : List Value := [.int .i64 v.ix, .int .i64 v.sub, .slice d.1 v.data.length d.2]
theorem svF_len (v : SV) (d : Option Addr × Nat) : (svF v d).length = 3 := rfl
theorem svF_one (v : SV) (d : Option Addr × Nat) : ∀ u ∈ svF v d, u.oneCell' = true := by
  intro u hu
  simp only [svF, List.mem_cons, List.not_mem_nil, or_false] at hu
  rcases hu with rfl | rfl | rfl <;> rfl
theorem infoSV : (Tryz.prog.info? 52).map (fun i => (i.zero, i.size, i.bytes)) = some (some (.agg #[.int .i64 0, .int .i64 0, .slice none 0 0]), 3, 40) := by kernel_rfl
abbrev OwnSV (w : World) (F : Nat → Prop) (A : Option Addr) (n c : Nat) (L : List SV) (ds : List (Option Addr × Nat)) : Prop := OwnF svF 3 52 SV.data w F A n c L ds
/-- no two of the slices lie in one block -/
def Apart (ds : List (Option Addr × Nat)) : Prop := ds.Pairwise (fun a b => ∀ g, a.1 = some (⟨g, 0, none⟩ : Addr) → b.1 ≠ some ⟨g, 0, none⟩)
theorem Apart.nil : Apart [] := List.Pairwise.nil
theorem Apart.snoc {ds : List (Option Addr × Nat)} (h : Apart ds) {d : Option Addr × Nat} {N : Nat} (h1 : ∀ e ∈ ds, ∀ g, e.1 = some (⟨g, 0, none⟩ : Addr) → g < N) (h2 : FIn (fun g => N ≤ g) d.1) : Apart (ds ++ [d]) := by
  unfold Apart
  rw [List.pairwise_append]
  refine ⟨h, List.pairwise_singleton _ _, ?_⟩
  intro a ha b hb g hg he
  simp at hb
  subst hb
  have := h1 a ha g hg
  have := h2 g he
  omega
section
variable {w : World} {F : Nat → Prop} {A : Option Addr} {n c : Nat} {L : List SV} {ds : List (Option Addr × Nat)}
theorem OwnF.dlt {α : Type} {f : α → Option Addr × Nat → List Value} {k : Nat} {e : TypeId} {dat : α → List UInt8} {L : List α} (h : OwnF f k e dat w F A n c L ds) : ∀ d ∈ ds, ∀ g, d.1 = some (⟨g, 0, none⟩ : Addr) → g < w.heap.size := by
  intro d hd g hg
  obtain ⟨j, hj, rfl⟩ := List.getElem_of_mem hd
  obtain ⟨v, hv⟩ : ∃ v, L[j]? = some v := ⟨L[j]'(by rw [← h.hd]; exact hj), List.getElem?_eq_getElem _⟩
  exact ((h.data j v _ hv (List.getElem?_eq_getElem hj)).1.own.fin g hg).2
theorem OwnF.slV (h : OwnSV w F A n c L ds) : SlV w A L := by
  intro j v hv
  obtain ⟨d, hd, hO, _⟩ := h.elem hv
  obtain ⟨g, hA, _, hc⟩ := h.cells svF_len hv hd (by omega)
  exact ⟨g, 0, d.1, d.2, hA, by rw [Nat.zero_add]; exact hc 0 _ rfl, by rw [Nat.zero_add]; exact hc 1 _ rfl, by rw [Nat.zero_add]; exact hc 2 _ rfl, hO.own.le, hO.sl⟩
end
section
variable {α : Type} {f : α → Option Addr × Nat → List Value} {k : Nat} {e : TypeId} {dat : α → List UInt8} {w w' : World} {F : Nat → Prop} {n c : Nat} {A : Option Addr} {L : List α} {ds : List (Option Addr × Nat)}
/-- a row of another type of elements has been written -/
theorem OwnF.grownT (h : OwnF f k e dat w F A n c L ds) {B2 e2 s2 n2 c2 : Nat} {A2 : Option Addr} {xs2 : List Value} (hg : w.grownBy w' (Value.ownBlock (.slice A2 n2 c2))) (h2 : Own w B2 e2 s2 A2 n2 c2 xs2) (h1 : e ≠ e2) (h3 : 5 ≠ e2) : OwnF f k e dat w' F A n c L ds :=
  ⟨h.hn, h.hd, h.own.grown hg (own_ne' h.own h2 h1), h.inF, fun j v d hv hd => ⟨⟨(h.data j v d hv hd).1.hn, (h.data j v d hv hd).1.own.grown hg (own_ne' (h.data j v d hv hd).1.own h2 h3)⟩, (h.data j v d hv hd).2⟩⟩
theorem own_blk_ne {B e' s' n' c' : Nat} {A' : Option Addr} {xs' : List Value} {g : Nat} {t : TypeId} {cs : Array Value} (h' : Own w B e' s' A' n' c' xs') (h : Blk w g t cs) (hne : t ≠ e') : ∀ g', A' = some (⟨g', 0, none⟩ : Addr) → some g' ≠ some g := by
  rintro g' rfl hg
  have := blk_own_ne h h' hne
  simp [Value.ownBlock] at this
  injection hg with hg
  exact this hg.symm
/-- a block of another type has been written -/
theorem OwnF.setT (h : OwnF f k e dat w F A n c L ds) {g : Nat} {t : TypeId} {cs : Array Value} (hB : Blk w g t cs) (h1 : t ≠ e) (h3 : t ≠ 5) (i : Nat) (u : Value) : OwnF f k e dat (w.setCell ⟨g, i, none⟩ u) F A n c L ds := by
  have hg : w.grownBy (w.setCell ⟨g, i, none⟩ u) (some g) := grown_set (World.grownBy.refl _ _) (.inl rfl) i u
  exact ⟨h.hn, h.hd, h.own.grown hg (own_blk_ne h.own hB h1), h.inF, fun j v d hv hd => ⟨⟨(h.data j v d hv hd).1.hn, (h.data j v d hv hd).1.own.grown hg (own_blk_ne (h.data j v d hv hd).1.own hB h3)⟩, (h.data j v d hv hd).2⟩⟩
/-- no element yet, in a block that is there -/
theorem OwnF.empty {g : Nat} (hB : Blk w g e #[]) (hF : F g) : OwnF f k e dat w F (some ⟨g, 0, none⟩) 0 0 [] [] :=
  ⟨rfl, rfl, ⟨by simp [cellsG], .inr ⟨g, 0, #[], rfl, Nat.zero_le _, hB, Nat.le_refl _, by unfold maxLen; omega, by simp, by simp [cellsG]⟩⟩, fun g' hg => by injection hg with hg; injection hg with hg; subst hg; exact hF, by intro j v d h; simp at h⟩
end
/-- all values of a dictionary -/
def svL (L : List Ent) (V : List (List UInt8)) : List SV := List.zipWith (fun E v => ⟨E.ix, E.sub, v⟩) L V
theorem svL_len (L : List Ent) (V : List (List UInt8)) (h : V.length = L.length) : (svL L V).length = L.length := by simp [svL, h]
theorem svL_at {L : List Ent} {V : List (List UInt8)} {k : Nat} {E : Ent} {v : List UInt8} (hE : L[k]? = some E) (hv : V[k]? = some v) : (svL L V)[k]? = some ⟨E.ix, E.sub, v⟩ := by simp [svL, List.getElem?_zipWith, hE, hv]
theorem take_snoc {α : Type} {L : List α} {k : Nat} {x : α} (h : L[k]? = some x) : L.take (k + 1) = L.take k ++ [x] := by
  obtain ⟨hk, rfl⟩ := List.getElem?_eq_some_iff.1 h
  exact List.take_succ_eq_append_getElem hk
end
end Go.Proofs.YtehabbnohoomjaaGreatDoor
namespace Go.Proofs.YtehabbnohoomjaaGreatDoor
section
set_option linter.unusedVariables false
set_option linter.unusedSimpArgs false
set_option linter.unnecessarySimpa false
section
open Go.RowKit
set_option maxRecDepth 100000
set_option maxHeartbeats 2000000
theorem join_nil (A : Option Addr) (n c : Nat) (l : List UInt8) (w : World) (hn : n = l.length) (hl : n ≤ 35184372088832) (hs : Sl w A (l.map bv)) :
    Calls Tryz.prog 64 #[.slice none 0 0, .slice A n c] w fun e w' => ∃ A' c', e = .returned (.slice A' n c') ∧ OwnB w' w.heap.size A' n c' l ∧ Below w.heap.size w w' := by
  refine (join_any none A 0 n 0 c [] l w rfl hn (by omega) hl (Sl.nil _ _) hs).mono ?_
  rintro e w' ⟨A', n', c', rfl, hO, hb⟩
  have h1 : n' = n := by have := hO.hn; simp at this; omega
  subst h1
  exact ⟨A', c', rfl, hO, hb⟩
section
variable {F : Nat → Prop} {p n cl cv : Nat} {Al Av : Option Addr} {L : List Ent} {V : List (List UInt8)} {ds es : List (Option Addr × Nat)}
theorem drop_cons {α : Type} {L : List α} {k : Nat} {x : α} (h : L[k]? = some x) : L.drop k = x :: L.drop (k + 1) := by
  obtain ⟨hk, rfl⟩ := List.getElem?_eq_some_iff.1 h
  exact List.drop_eq_getElem_cons hk
theorem rdic_find (ix sub : Int) (w : World) (hD : DB 112 w F p Al n cl Av cv L V ds es) (hn : n ≤ 1000) :
    Calls Tryz.prog 65 #[.pointer (some ⟨p, 0, none⟩), .int .i64 ix, .int .i64 sub] w fun e w' => e = .returned (.int .i64 (findL L ix sub)) ∧ w = w' := by
  have HD := hide hD
  have HN := hide hD.ents.hn
  have hB := hD.blk
  clear hD
  obtain ⟨hB_c0, hB_c1⟩ := cel2 hB
  have hB_f := hB.frozen
  go_enter Tryz.func65, Tryz.ntmps65
  go_wp2_with fail
  go_loopw [7, 8] (fun s7 s8 wr => ∃ (k : Nat) (kk : Int), k ≤ n ∧ s7 = .int .i64 kk ∧ s8 = .int .i64 (k : Nat) ∧ Hid (findA (L.drop k) ix sub k kk = findL L ix sub) ∧ w = wr) (fun _ s8 _ => n - (intOf s8).toNat)
  case atStart => exact ⟨0, -2, by omega, rfl, rfl, hide rfl, rfl⟩
  case round =>
    obtain ⟨k, kk, hk, rfl, rfl, HA, rfl⟩ := hrel
    by_cases hlt : k < n
    · obtain ⟨E, hE⟩ : ∃ E, L[k]? = some E := ⟨L[k]'(by rw [← HN.out]; exact hlt), List.getElem?_eq_getElem _⟩
      obtain ⟨g, d, rfl, zg, _, _, _, c0, c1, c2, c3, c4, c5, c6, c7, c8, c9, c10⟩ := HD.out.ent hE
      have HAE : Hid (findA (L.drop (k + 1)) ix sub (k + 1) (if E.ix ≠ ix then kk else if E.sub = sub then (k : Int) else if kk = -2 then -1 else kk) = findL L ix sub) := hide (by rw [← HA.out, drop_cons hE]; rfl)
      clear hE c2 c3 c4 c5 c6 c7 c8 c9 c10 HA
      by_cases h1 : E.ix = ix
      · by_cases h2 : E.sub = sub
        · have HA2 : Hid (findA (L.drop (k + 1)) ix sub (k + 1) (k : Int) = findL L ix sub) := hide (by have := HAE.out; rw [if_neg (by simpa using h1), if_pos h2] at this; exact this)
          by_cases h3 : kk = -2
          all_goals
            go_wp2_with fail
            go_roundw
            case rel => exact ⟨k + 1, k, by omega, by rfl, by go_num, HA2, by trivial⟩
            case measure => simp [intOf]; omega
        · by_cases h3 : kk = -2
          · have HA2 : Hid (findA (L.drop (k + 1)) ix sub (k + 1) (-1) = findL L ix sub) := hide (by have := HAE.out; rw [if_neg (by simpa using h1), if_neg h2, if_pos h3] at this; exact this)
            go_wp2_with fail
            go_roundw
            case rel => exact ⟨k + 1, -1, by omega, by rfl, by go_num, HA2, by trivial⟩
            case measure => simp [intOf]; omega
          · have HA2 : Hid (findA (L.drop (k + 1)) ix sub (k + 1) kk = findL L ix sub) := hide (by have := HAE.out; rw [if_neg (by simpa using h1), if_neg h2, if_neg h3] at this; exact this)
            go_wp2_with fail
            go_roundw
            case rel => exact ⟨k + 1, kk, by omega, by rfl, by go_num, HA2, by trivial⟩
            case measure => simp [intOf]; omega
      · have HA2 : Hid (findA (L.drop (k + 1)) ix sub (k + 1) kk = findL L ix sub) := hide (by have := HAE.out; rw [if_pos h1] at this; exact this)
        go_wp2_with fail
        go_roundw
        case rel => exact ⟨k + 1, kk, by omega, by rfl, by go_num, HA2, by trivial⟩
        case measure => simp [intOf]; omega
    · have hkn : k = n := by omega
      have HA2 : Hid (kk = findL L ix sub) := hide (by have := HA.out; rw [List.drop_eq_nil_of_le (by rw [hkn, HN.out]; exact Nat.le_refl _)] at this; exact this)
      go_wp2_with fail
      go_ret
      exact ⟨ret_int HA2.out, rfl⟩
theorem rdic_missing (k : Int) (w : World) : Calls Tryz.prog 66 #[.int .i64 k] w fun e w' => e = .returned (.int .u32 (if k = -2 then 100794368 else 101253137)) ∧ w = w' := by
  by_cases h : k = -2
  · subst h
    go_enter Tryz.func66, Tryz.ntmps66
    go_wp2_with fail
    go_ret
    exact ⟨rfl, rfl⟩
  · have HR : Hid ((if k = -2 then (100794368 : Int) else 101253137) = 101253137) := hide (if_neg h)
    go_enter Tryz.func66, Tryz.ntmps66
    go_wp2_with fail
    go_ret
    first | exact ⟨rfl, rfl⟩ | exact ⟨ret_int HR.out.symm, rfl⟩
theorem code_missing {L : List Ent} {ix sub : Int} (h : ¬ 0 ≤ findL L ix sub) : (if findL L ix sub = -2 then (100794368 : Int) else 101253137) = codeL L ix sub := by unfold codeL; rw [if_neg h]
end
end
section
open Go.RowKit
set_option maxRecDepth 100000
set_option maxHeartbeats 2000000
section
variable {F : Nat → Prop} {p n cl cv : Nat} {Al Av : Option Addr} {L : List Ent} {V : List (List UInt8)} {ds es : List (Option Addr × Nat)}
def RGetR (L : List Ent) (V : List (List UInt8)) (ix sub : Int) (w : World) (e : Ending) (w' : World) : Prop :=
  ∃ A m c b, e = .returned (.tuple #[.slice A m c, .int .u32 (getC L ix sub)]) ∧ OwnB w' w.heap.size A m c b ∧ b = (if getC L ix sub = 0 then valK V (locK L ix sub) else []) ∧ Below w.heap.size w w'
def RPeekR (L : List Ent) (V : List (List UInt8)) (ix sub : Int) (w : World) (e : Ending) (w' : World) : Prop :=
  ∃ A m c b, e = .returned (.tuple #[.slice A m c, .bool (hasL L ix sub)]) ∧ OwnB w' w.heap.size A m c b ∧ b = (if hasL L ix sub = true then valK V (locK L ix sub) else []) ∧ Below w.heap.size w w'
end
end
end
end Go.Proofs.YtehabbnohoomjaaGreatDoor
