/- Dictionaries: the law's own does: both do the same. -/
import Derived.Test.YtabgdfbiocoimaaTwoD
import Derived.Test.YtabgdfbiocoimaaDicE
import Derived.Test.YtabgdfbiocoimaaDicY
import Derived.Test.YtabgdfbiocoimaaDicZ
import Derived.Test.YtabgdfbiocoimaaRDicC
import Derived.Test.YtabgdfbiocoimaaRef01b
namespace Go.Proofs.Ytabgdfbiocoimaa
set_option linter.unusedVariables false
set_option linter.unusedSimpArgs false
set_option linter.unnecessarySimpa false
open Go.RowKit
set_option maxRecDepth 100000
set_option maxHeartbeats 4000000
def DoesR (N : Nat) (X : Nat → Prop) (L : List Ent) (pr : Nat) (w : World) (e : Ending) (w' : World) : Prop :=
  ∃ p' V', e = .returned (.tuple #[.pointer (some ⟨p', 0, none⟩), .bool true]) ∧ TwoD N X L V' pr w' p' ∧ Below N w w' ∧ ∀ g, X g → g < w.heap.size → w'.heap[g]? = w.heap[g]?
theorem keepX {F G : Nat → Prop} {w w1 w2 w3 : World} {g : Nat} (hlt : g < w.heap.size) (h1 : Below w.heap.size w w1) (h2 : Only F w1 w2) (h3 : Only G w2 w3) (hF : ¬ F g) (hG : ¬ G g) : w3.heap[g]? = w.heap[g]? :=
  have z1 := h1.size
  have z2 := h2.size
  (h3.block g (by omega) hG).trans ((h2.block g (by omega) hF).trans (h1.block g hlt))
theorem keepX1 {w w1 w2 : World} {g : Nat} (hlt : g < w.heap.size) (h1 : Below w.heap.size w w1) (h2 : Below w1.heap.size w1 w2) : w2.heap[g]? = w.heap[g]? :=
  have z1 := h1.size
  (h2.block g (by omega)).trans (h1.block g hlt)
theorem only_undrew {F : Nat → Prop} {w w' : World} (h : Only F w.drew w') : Only F w w' := ⟨h.os, h.tape, h.output, h.size, h.block⟩
theorem sl_only {F : Nat → Prop} {w w' : World} {g : Nat} {xs : List Value} (h : Sl w (some ⟨g, 0, none⟩) xs) (ho : Only F w w') (hF : ¬ F g) : Sl w' (some ⟨g, 0, none⟩) xs := by
  intro j u hu
  obtain ⟨ad, he, hc⟩ := h j u hu
  injection he with he
  subst he
  have hlt := lt_of_cell hc
  rw [add_block] at hlt
  exact ⟨_, rfl, (World.cell?_of_block (by rw [add_block]; exact ho.block g hlt hF)).trans hc⟩
theorem below_alloc' {w0 w : World} {o : Obj} (h : Below w0.heap.size w0 w) : Below w0.heap.size w (w.alloc o) := (below_alloc (Below.refl w.heap.size w) o).mono h.size
theorem does_set (w0 : World) (X : Nat → Prop) (L : List Ent) (V : List (List UInt8)) (pr p : Nat) (ix sub : Int) (Ao : Option Addr) (gb m c co : Nat) (b : List UInt8) (w : World) (hT : TwoD w0.heap.size X L V pr w p) (hX : ∀ g, X g → g < w.heap.size) (hb0 : Below w0.heap.size w0 w) (hs : SortedE L) (hL : L.length ≤ 1000)
    (hm : m = b.length) (hmc : m ≤ c) (hmo : m ≤ co) (hml : m ≤ 35184372088832) (hb : Sl w (some ⟨gb, 0, none⟩) (b.map bv)) (hgb : X gb) (ho : Sl w0 Ao (b.map bv)) :
    Calls Try.prog 31 #[.pointer (some ⟨p, 0, none⟩), .pointer (some ⟨pr, 0, none⟩), .agg #[.int .i64 0, .int .i64 ix, .int .i64 sub, .slice Ao m co], .slice (some ⟨gb, 0, none⟩) m c] w (DoesR w0.heap.size X L pr w) := by
  have hbw := below_alloc (Below.refl w.heap.size w) (.cells #[.int .i64 0, .int .i64 ix, .int .i64 sub, .slice Ao m co] 25)
  have q := blk_one w 25 #[.int .i64 0, .int .i64 ix, .int .i64 sub, .slice Ao m co]
  have hT1 : TwoD w0.heap.size (fun g => X g ∨ g = w.heap.size) L V pr (w.alloc (.cells #[.int .i64 0, .int .i64 ix, .int .i64 sub, .slice Ao m co] 25)) p := (hT.exc (Y := fun g => X g ∨ g = w.heap.size) (fun g h1 h2 => h1.elim id (fun h => by omega))).below hbw
  have hb1 := hb.below hbw
  have hz1 := hbw.size
  have hzq := q.lt
  have HN : Hid (Below w0.heap.size w0 (w.alloc (.cells #[.int .i64 0, .int .i64 ix, .int .i64 sub, .slice Ao m co] 25))) := hide (below_step hbw hb0)
  have HN0 := hide hb0
  have HX : Hid (∀ g, (X g ∨ g = w.heap.size) → g < (w.alloc (.cells #[.int .i64 0, .int .i64 ix, .int .i64 sub, .slice Ao m co] 25)).heap.size) := hide (fun g h => h.elim (fun h => Nat.lt_of_lt_of_le (hX g h) hz1) (fun h => by rw [h]; exact hzq))
  have HS := hide hs
  have HM := hide (And.intro hm (And.intro hmc (And.intro hmo hml)))
  have HG := hide hgb
  have HB := hide hb1
  have HO := hide ho
  have HQ := hide q
  obtain ⟨Fd, Fr, gl, n, cl, Av, cv, ds, es, Al2, cl2, Av2, cv2, ds2, es2, T⟩ := hT1
  have HL := hide (show n ≤ 1000 by rw [T.hn]; exact hL)
  have HT := hide T
  clear hT hX hb0 hs hL hm hmc hmo hml hb hgb ho hb1 T hz1 hbw hzq
  have q_c0 := q.cell 0 rfl
  have q_f0 := q.frozen 0
  have q_c1 := q.cell 1 rfl
  have q_f1 := q.frozen 1
  have q_c2 := q.cell 2 rfl
  have q_f2 := q.frozen 2
  have q_c3 := q.cell 3 rfl
  have q_f3 := q.frozen 3
  go_enter Try.func31, Try.ntmps31
  go_wp2_with fail
  refine wp_region_held_drew (S := (fun w' => w'.cell? ⟨w.heap.size, 1, none⟩ = some (.int .i64 ix) ∧ w'.cell? ⟨w.heap.size, 2, none⟩ = some (.int .i64 sub) ∧ w'.cell? ⟨w.heap.size, 3, none⟩ = some (.slice Ao m co))) (by kernel_rfl) ?hS1 (fun hHeld => ?rest1)
  case hS1 => ((try dsimp only); (exact ⟨q_c1, q_c2, q_c3⟩))
  case' rest1 => skip
  refine wpAnyH_take (i := 0) (oi := _) (v := ?v2) rfl (by kernel_rfl) (by kernel_rfl) (by kernel_rfl) (fun _ _ _ h => h) (Or.inl ⟨by rfl, ?hy2⟩) (by assumption) ?rest2
  case hy2 => ((intro w hSw; (try dsimp only at hSw); go_simp) <;> with_reducible rfl)
  case' rest2 => try simp only [List.getElem_toArray, List.getElem_cons_zero, List.getElem_cons_succ, Act.put, List.setIfInBounds_toArray, List.set_cons_zero, List.set_cons_succ]
  refine wpAnyH_take (i := 1) (oi := _) (v := ?v3) rfl (by kernel_rfl) (by kernel_rfl) (by kernel_rfl) (fun _ _ _ h => h) (Or.inl ⟨by rfl, ?hy3⟩) (by assumption) ?rest3
  case hy3 => ((intro w hSw; (try dsimp only at hSw); go_simp) <;> with_reducible rfl)
  case' rest3 => try simp only [List.getElem_toArray, List.getElem_cons_zero, List.getElem_cons_succ, Act.put, List.setIfInBounds_toArray, List.set_cons_zero, List.set_cons_succ]
  refine wpAnyH_take (i := 2) (oi := _) (v := ?v4) rfl (by kernel_rfl) (by kernel_rfl) (by kernel_rfl) (fun _ _ _ h => h) (Or.inl ⟨by rfl, ?hy4⟩) (by assumption) ?rest4
  case hy4 => ((intro w hSw; (try dsimp only at hSw); go_simp) <;> with_reducible rfl)
  case' rest4 => try simp only [List.getElem_toArray, List.getElem_cons_zero, List.getElem_cons_succ, Act.put, List.setIfInBounds_toArray, List.set_cons_zero, List.set_cons_succ]
  refine wpAnyH_take (i := 3) (oi := _) (v := ?v5) rfl (by kernel_rfl) (by kernel_rfl) (by kernel_rfl) (fun _ _ _ h => h) (Or.inl ⟨by rfl, ?hy5⟩) (by assumption) ?rest5
  case hy5 => ((intro w hSw; (try dsimp only at hSw); go_simp) <;> with_reducible rfl)
  case' rest5 => try simp only [List.getElem_toArray, List.getElem_cons_zero, List.getElem_cons_succ, Act.put, List.setIfInBounds_toArray, List.set_cons_zero, List.set_cons_succ]
  refine wpAnyH_take (i := 4) (oi := _) (v := ?v6) rfl (by kernel_rfl) (by kernel_rfl) (by kernel_rfl) (fun _ _ _ h => h) (Or.inl ⟨by rfl, ?hy6⟩) (by assumption) ?rest6
  case hy6 => ((intro w hSw; (try dsimp only at hSw); go_simp) <;> with_reducible rfl)
  case' rest6 => try simp only [List.getElem_toArray, List.getElem_cons_zero, List.getElem_cons_succ, Act.put, List.setIfInBounds_toArray, List.set_cons_zero, List.set_cons_succ]
  refine wpAnyH_take (i := 5) (oi := _) (v := ?v7) rfl (by kernel_rfl) (by kernel_rfl) (by kernel_rfl) (fun _ _ _ h => h) (Or.inl ⟨by rfl, ?hy7⟩) (by assumption) ?rest7
  case hy7 => ((intro w hSw; (try dsimp only at hSw); go_simp) <;> with_reducible rfl)
  case' rest7 => try simp only [List.getElem_toArray, List.getElem_cons_zero, List.getElem_cons_succ, Act.put, List.setIfInBounds_toArray, List.set_cons_zero, List.set_cons_succ]
  refine wpAnyH_take (i := 6) (oi := _) (v := ?v8) rfl (by kernel_rfl) (by kernel_rfl) (by kernel_rfl) (fun _ _ _ h => h) (Or.inl ⟨by rfl, ?hy8⟩) (by assumption) ?rest8
  case hy8 => ((intro w hSw; (try dsimp only at hSw); go_simp) <;> with_reducible rfl)
  case' rest8 => try simp only [List.getElem_toArray, List.getElem_cons_zero, List.getElem_cons_succ, Act.put, List.setIfInBounds_toArray, List.set_cons_zero, List.set_cons_succ]
  refine wpAnyH_take (i := 8) (oi := _) (v := ?v9) rfl (by kernel_rfl) (by kernel_rfl) (by kernel_rfl) (fun _ _ _ h => h) (Or.inl ⟨by rfl, ?hy9⟩) (by assumption) ?rest9
  case hy9 => ((intro w hSw; (try dsimp only at hSw); go_simp) <;> with_reducible rfl)
  case' rest9 => try simp only [List.getElem_toArray, List.getElem_cons_zero, List.getElem_cons_succ, Act.put, List.setIfInBounds_toArray, List.set_cons_zero, List.set_cons_succ]
  refine wpAnyH_take (i := 9) (oi := _) (v := ?v10) rfl (by kernel_rfl) (by kernel_rfl) (by kernel_rfl) (fun _ _ _ h => h) (Or.inl ⟨by rfl, ?hy10⟩) (by assumption) ?rest10
  case hy10 => ((intro w hSw; (try dsimp only at hSw); go_simp) <;> with_reducible rfl)
  case' rest10 => try simp only [List.getElem_toArray, List.getElem_cons_zero, List.getElem_cons_succ, Act.put, List.setIfInBounds_toArray, List.set_cons_zero, List.set_cons_succ]
  refine wpAnyH_take (i := 10) (oi := _) (v := ?v11) rfl (by kernel_rfl) (by kernel_rfl) (by kernel_rfl) (fun _ _ _ h => h) (Or.inl ⟨by rfl, ?hy11⟩) (by assumption) ?rest11
  case hy11 => ((intro w hSw; (try dsimp only at hSw); go_simp) <;> with_reducible rfl)
  case' rest11 => try simp only [List.getElem_toArray, List.getElem_cons_zero, List.getElem_cons_succ, Act.put, List.setIfInBounds_toArray, List.set_cons_zero, List.set_cons_succ]
  refine wpAnyH_take (i := 11) (oi := _) (v := ?v12) rfl (by kernel_rfl) (by kernel_rfl) (by kernel_rfl) (fun _ _ _ h => h) (Or.inl ⟨by rfl, ?hy12⟩) (by assumption) ?rest12
  case hy12 => ((intro w hSw; (try dsimp only at hSw); go_simp) <;> with_reducible rfl)
  case' rest12 => try simp only [List.getElem_toArray, List.getElem_cons_zero, List.getElem_cons_succ, Act.put, List.setIfInBounds_toArray, List.set_cons_zero, List.set_cons_succ]
  refine wpAnyH_take (i := 12) (oi := _) (v := ?v13) rfl (by kernel_rfl) (by kernel_rfl) (by kernel_rfl) (fun _ _ _ h => h) (Or.inl ⟨by rfl, ?hy13⟩) (by assumption) ?rest13
  case hy13 => ((intro w hSw; (try dsimp only at hSw); go_simp) <;> with_reducible rfl)
  case' rest13 => try simp only [List.getElem_toArray, List.getElem_cons_zero, List.getElem_cons_succ, Act.put, List.setIfInBounds_toArray, List.set_cons_zero, List.set_cons_succ]
  refine wpAnyH_take (i := 13) (oi := _) (v := ?v14) rfl (by kernel_rfl) (by kernel_rfl) (by kernel_rfl) (fun _ _ _ h => h) (Or.inl ⟨by rfl, ?hy14⟩) (by assumption) ?rest14
  case hy14 => ((intro w hSw; (try dsimp only at hSw); go_simp) <;> with_reducible rfl)
  case' rest14 => try simp only [List.getElem_toArray, List.getElem_cons_zero, List.getElem_cons_succ, Act.put, List.setIfInBounds_toArray, List.set_cons_zero, List.set_cons_succ]
  refine wpAnyH_take (i := 14) (oi := _) (v := ?v15) rfl (by kernel_rfl) (by kernel_rfl) (by kernel_rfl) (fun _ _ _ h => h) (Or.inl ⟨by rfl, ?hy15⟩) (by assumption) ?rest15
  case hy15 => ((intro w hSw; (try dsimp only at hSw); go_simp) <;> with_reducible rfl)
  case' rest15 => try simp only [List.getElem_toArray, List.getElem_cons_zero, List.getElem_cons_succ, Act.put, List.setIfInBounds_toArray, List.set_cons_zero, List.set_cons_succ]
  refine wpAnyH_ready (rs := [7]) (by kernel_rfl) (by simp) ?_
  refine AllReadyH.cons (o := _) rfl (fun K hK => ?_) AllReadyH.nil
  go_simp
  refine (dict_set ix sub (some ⟨gb, 0, none⟩) m c b _ (HT.out.d.below (Below.drew (Below.refl _ _))) HS.out HL.out HM.out.1 HM.out.2.1 HM.out.2.2.2 HB.out.drew).mono ?_
  rintro e w2 ⟨V2, es2', rfl, hV2, hD2, ho2⟩
  dsimp only
  have HO2 : Hid (Only Fd (w.alloc (.cells #[.int .i64 0, .int .i64 ix, .int .i64 sub, .slice Ao m co] 25)) w2) := hide (only_undrew ho2)
  have HD2 := hide hD2
  have HV2 := hide hV2
  have HQ2 := hide (blk_only HQ.out HO2.out (fun h => (HT.out.bd _ h).2.2 (.inr rfl)))
  clear ho2 hD2 hV2
  refine hK.out _ _ ?hS18 (fun hHeld => ?rest18)
  case hS18 => ((try dsimp only); (exact ⟨HQ2.out.cell 1 rfl, HQ2.out.cell 2 rfl, HQ2.out.cell 3 rfl⟩))
  case' rest18 => (clear hK K; try simp only [List.getElem_toArray, List.getElem_cons_zero, List.getElem_cons_succ, Act.put, List.setIfInBounds_toArray, List.set_cons_zero, List.set_cons_succ])
  have HN2 := hide (HN.out.trans (HO2.out.below HN.out.size (fun i hi => (HT.out.bd i hi).1)))
  refine wpAnyH_ready (rs := [15]) (by kernel_rfl) (by simp) ?_
  refine AllReadyH.cons (o := _) rfl (fun K hK => ?_) AllReadyH.nil
  go_simp
  refine (rdic_set ix sub Ao m co b _ (HT.out.other HO2.out) HL.out HM.out.1 HM.out.2.2.1 HM.out.2.2.2 (HO.out.below HN2.out)).mono ?_
  rintro e w3 ⟨V3, es3', rfl, hV3, hD3, ho3⟩
  have hV23 : V3 = V2 := hV3.trans HV2.out.symm
  subst hV23
  dsimp only
  have HO3 := hide ho3
  have HD3 := hide hD3
  have HQ3 := hide (blk_only HQ2.out HO3.out (fun h => (HT.out.br _ h).2.2 (.inr rfl)))
  clear ho3 hD3 hV3
  refine hK.out _ _ ?hS21 (fun hHeld => ?rest21)
  case hS21 => ((try dsimp only); (exact ⟨HQ3.out.cell 1 rfl, HQ3.out.cell 2 rfl, HQ3.out.cell 3 rfl⟩))
  case' rest21 => (clear hK K; try simp only [List.getElem_toArray, List.getElem_cons_zero, List.getElem_cons_succ, Act.put, List.setIfInBounds_toArray, List.set_cons_zero, List.set_cons_succ])
  refine wpAnyH_take (i := 16) (oi := _) (v := ?v22) rfl (by kernel_rfl) (by kernel_rfl) (by kernel_rfl) (fun _ _ _ h => h) (Or.inl ⟨by rfl, ?hy22⟩) (by assumption) ?rest22
  case hy22 => ((intro w hSw; (try dsimp only at hSw); go_simp) <;> with_reducible rfl)
  case' rest22 => try simp only [List.getElem_toArray, List.getElem_cons_zero, List.getElem_cons_succ, Act.put, List.setIfInBounds_toArray, List.set_cons_zero, List.set_cons_succ]
  refine wpAnyH_take (i := 17) (oi := _) (v := ?v23) rfl (by kernel_rfl) (by kernel_rfl) (by kernel_rfl) (fun _ _ _ h => h) (Or.inl ⟨by rfl, ?hy23⟩) (by assumption) ?rest23
  case hy23 => ((intro w hSw; (try dsimp only at hSw); go_simp) <;> with_reducible rfl)
  case' rest23 => try simp only [List.getElem_toArray, List.getElem_cons_zero, List.getElem_cons_succ, Act.put, List.setIfInBounds_toArray, List.set_cons_zero, List.set_cons_succ]
  refine wpAnyH_take (i := 18) (oi := _) (v := ?v24) rfl (by kernel_rfl) (by kernel_rfl) (by kernel_rfl) (fun _ _ _ h => h) (Or.inl ⟨by rfl, ?hy24⟩) (by assumption) ?rest24
  case hy24 => ((intro w hSw; (try dsimp only at hSw); go_simp) <;> with_reducible rfl)
  case' rest24 => try simp only [List.getElem_toArray, List.getElem_cons_zero, List.getElem_cons_succ, Act.put, List.setIfInBounds_toArray, List.set_cons_zero, List.set_cons_succ]
  refine wpAnyH_done (by kernel_rfl) ?_ _
  have hEnd := hHeld.2
  repeat (clear hHeld)
  go_wp2_with fail
  go_ret2
  have hfin := HT.out.both HO2.out HD2.out HO3.out HD3.out HX.out HN.out.size
  exact ⟨p, V3, rfl, hfin.exc (fun g h _ => .inl h), (below_alloc' HN0.out).trans (HT.out.low HO2.out HO3.out HN.out.size), fun g hx hlt => keepX hlt (below_alloc (Below.refl w.heap.size w) _) HO2.out HO3.out (fun h => (HT.out.bd g h).2.2 (.inl hx)) (fun h => (HT.out.br g h).2.2 (.inl hx))⟩

theorem does_poke (w0 : World) (X : Nat → Prop) (L : List Ent) (V : List (List UInt8)) (pr p : Nat) (ix sub : Int) (Ao : Option Addr) (gb m c co : Nat) (b : List UInt8) (w : World) (hT : TwoD w0.heap.size X L V pr w p) (hX : ∀ g, X g → g < w.heap.size) (hb0 : Below w0.heap.size w0 w) (hs : SortedE L) (hL : L.length ≤ 1000)
    (hm : m = b.length) (hmc : m ≤ c) (hmo : m ≤ co) (hml : m ≤ 35184372088832) (hb : Sl w (some ⟨gb, 0, none⟩) (b.map bv)) (hgb : X gb) (ho : Sl w0 Ao (b.map bv)) :
    Calls Try.prog 31 #[.pointer (some ⟨p, 0, none⟩), .pointer (some ⟨pr, 0, none⟩), .agg #[.int .i64 2, .int .i64 ix, .int .i64 sub, .slice Ao m co], .slice (some ⟨gb, 0, none⟩) m c] w (DoesR w0.heap.size X L pr w) := by
  have hbw := below_alloc (Below.refl w.heap.size w) (.cells #[.int .i64 2, .int .i64 ix, .int .i64 sub, .slice Ao m co] 25)
  have q := blk_one w 25 #[.int .i64 2, .int .i64 ix, .int .i64 sub, .slice Ao m co]
  have hT1 : TwoD w0.heap.size (fun g => X g ∨ g = w.heap.size) L V pr (w.alloc (.cells #[.int .i64 2, .int .i64 ix, .int .i64 sub, .slice Ao m co] 25)) p := (hT.exc (Y := fun g => X g ∨ g = w.heap.size) (fun g h1 h2 => h1.elim id (fun h => by omega))).below hbw
  have hb1 := hb.below hbw
  have hz1 := hbw.size
  have hzq := q.lt
  have HN : Hid (Below w0.heap.size w0 (w.alloc (.cells #[.int .i64 2, .int .i64 ix, .int .i64 sub, .slice Ao m co] 25))) := hide (below_step hbw hb0)
  have HN0 := hide hb0
  have HX : Hid (∀ g, (X g ∨ g = w.heap.size) → g < (w.alloc (.cells #[.int .i64 2, .int .i64 ix, .int .i64 sub, .slice Ao m co] 25)).heap.size) := hide (fun g h => h.elim (fun h => Nat.lt_of_lt_of_le (hX g h) hz1) (fun h => by rw [h]; exact hzq))
  have HS := hide hs
  have HM := hide (And.intro hm (And.intro hmc (And.intro hmo hml)))
  have HG := hide hgb
  have HB := hide hb1
  have HO := hide ho
  have HQ := hide q
  obtain ⟨Fd, Fr, gl, n, cl, Av, cv, ds, es, Al2, cl2, Av2, cv2, ds2, es2, T⟩ := hT1
  have HL := hide (show n ≤ 1000 by rw [T.hn]; exact hL)
  have HT := hide T
  clear hT hX hb0 hs hL hm hmc hmo hml hb hgb ho hb1 T hz1 hbw hzq
  have q_c0 := q.cell 0 rfl
  have q_f0 := q.frozen 0
  have q_c1 := q.cell 1 rfl
  have q_f1 := q.frozen 1
  have q_c2 := q.cell 2 rfl
  have q_f2 := q.frozen 2
  have q_c3 := q.cell 3 rfl
  have q_f3 := q.frozen 3
  go_enter Try.func31, Try.ntmps31
  go_wp2_with fail
  refine wp_region_held_drew (S := (fun w' => w'.cell? ⟨w.heap.size, 1, none⟩ = some (.int .i64 ix) ∧ w'.cell? ⟨w.heap.size, 2, none⟩ = some (.int .i64 sub) ∧ w'.cell? ⟨w.heap.size, 3, none⟩ = some (.slice Ao m co))) (by kernel_rfl) ?hS26 (fun hHeld => ?rest26)
  case hS26 => ((try dsimp only); (exact ⟨q_c1, q_c2, q_c3⟩))
  case' rest26 => skip
  refine wpAnyH_take (i := 0) (oi := _) (v := ?v27) rfl (by kernel_rfl) (by kernel_rfl) (by kernel_rfl) (fun _ _ _ h => h) (Or.inl ⟨by rfl, ?hy27⟩) (by assumption) ?rest27
  case hy27 => ((intro w hSw; (try dsimp only at hSw); go_simp) <;> with_reducible rfl)
  case' rest27 => try simp only [List.getElem_toArray, List.getElem_cons_zero, List.getElem_cons_succ, Act.put, List.setIfInBounds_toArray, List.set_cons_zero, List.set_cons_succ]
  refine wpAnyH_take (i := 1) (oi := _) (v := ?v28) rfl (by kernel_rfl) (by kernel_rfl) (by kernel_rfl) (fun _ _ _ h => h) (Or.inl ⟨by rfl, ?hy28⟩) (by assumption) ?rest28
  case hy28 => ((intro w hSw; (try dsimp only at hSw); go_simp) <;> with_reducible rfl)
  case' rest28 => try simp only [List.getElem_toArray, List.getElem_cons_zero, List.getElem_cons_succ, Act.put, List.setIfInBounds_toArray, List.set_cons_zero, List.set_cons_succ]
  refine wpAnyH_take (i := 2) (oi := _) (v := ?v29) rfl (by kernel_rfl) (by kernel_rfl) (by kernel_rfl) (fun _ _ _ h => h) (Or.inl ⟨by rfl, ?hy29⟩) (by assumption) ?rest29
  case hy29 => ((intro w hSw; (try dsimp only at hSw); go_simp) <;> with_reducible rfl)
  case' rest29 => try simp only [List.getElem_toArray, List.getElem_cons_zero, List.getElem_cons_succ, Act.put, List.setIfInBounds_toArray, List.set_cons_zero, List.set_cons_succ]
  refine wpAnyH_take (i := 3) (oi := _) (v := ?v30) rfl (by kernel_rfl) (by kernel_rfl) (by kernel_rfl) (fun _ _ _ h => h) (Or.inl ⟨by rfl, ?hy30⟩) (by assumption) ?rest30
  case hy30 => ((intro w hSw; (try dsimp only at hSw); go_simp) <;> with_reducible rfl)
  case' rest30 => try simp only [List.getElem_toArray, List.getElem_cons_zero, List.getElem_cons_succ, Act.put, List.setIfInBounds_toArray, List.set_cons_zero, List.set_cons_succ]
  refine wpAnyH_take (i := 4) (oi := _) (v := ?v31) rfl (by kernel_rfl) (by kernel_rfl) (by kernel_rfl) (fun _ _ _ h => h) (Or.inl ⟨by rfl, ?hy31⟩) (by assumption) ?rest31
  case hy31 => ((intro w hSw; (try dsimp only at hSw); go_simp) <;> with_reducible rfl)
  case' rest31 => try simp only [List.getElem_toArray, List.getElem_cons_zero, List.getElem_cons_succ, Act.put, List.setIfInBounds_toArray, List.set_cons_zero, List.set_cons_succ]
  refine wpAnyH_take (i := 5) (oi := _) (v := ?v32) rfl (by kernel_rfl) (by kernel_rfl) (by kernel_rfl) (fun _ _ _ h => h) (Or.inl ⟨by rfl, ?hy32⟩) (by assumption) ?rest32
  case hy32 => ((intro w hSw; (try dsimp only at hSw); go_simp) <;> with_reducible rfl)
  case' rest32 => try simp only [List.getElem_toArray, List.getElem_cons_zero, List.getElem_cons_succ, Act.put, List.setIfInBounds_toArray, List.set_cons_zero, List.set_cons_succ]
  refine wpAnyH_take (i := 6) (oi := _) (v := ?v33) rfl (by kernel_rfl) (by kernel_rfl) (by kernel_rfl) (fun _ _ _ h => h) (Or.inl ⟨by rfl, ?hy33⟩) (by assumption) ?rest33
  case hy33 => ((intro w hSw; (try dsimp only at hSw); go_simp) <;> with_reducible rfl)
  case' rest33 => try simp only [List.getElem_toArray, List.getElem_cons_zero, List.getElem_cons_succ, Act.put, List.setIfInBounds_toArray, List.set_cons_zero, List.set_cons_succ]
  refine wpAnyH_take (i := 8) (oi := _) (v := ?v34) rfl (by kernel_rfl) (by kernel_rfl) (by kernel_rfl) (fun _ _ _ h => h) (Or.inl ⟨by rfl, ?hy34⟩) (by assumption) ?rest34
  case hy34 => ((intro w hSw; (try dsimp only at hSw); go_simp) <;> with_reducible rfl)
  case' rest34 => try simp only [List.getElem_toArray, List.getElem_cons_zero, List.getElem_cons_succ, Act.put, List.setIfInBounds_toArray, List.set_cons_zero, List.set_cons_succ]
  refine wpAnyH_take (i := 9) (oi := _) (v := ?v35) rfl (by kernel_rfl) (by kernel_rfl) (by kernel_rfl) (fun _ _ _ h => h) (Or.inl ⟨by rfl, ?hy35⟩) (by assumption) ?rest35
  case hy35 => ((intro w hSw; (try dsimp only at hSw); go_simp) <;> with_reducible rfl)
  case' rest35 => try simp only [List.getElem_toArray, List.getElem_cons_zero, List.getElem_cons_succ, Act.put, List.setIfInBounds_toArray, List.set_cons_zero, List.set_cons_succ]
  refine wpAnyH_take (i := 10) (oi := _) (v := ?v36) rfl (by kernel_rfl) (by kernel_rfl) (by kernel_rfl) (fun _ _ _ h => h) (Or.inl ⟨by rfl, ?hy36⟩) (by assumption) ?rest36
  case hy36 => ((intro w hSw; (try dsimp only at hSw); go_simp) <;> with_reducible rfl)
  case' rest36 => try simp only [List.getElem_toArray, List.getElem_cons_zero, List.getElem_cons_succ, Act.put, List.setIfInBounds_toArray, List.set_cons_zero, List.set_cons_succ]
  refine wpAnyH_take (i := 11) (oi := _) (v := ?v37) rfl (by kernel_rfl) (by kernel_rfl) (by kernel_rfl) (fun _ _ _ h => h) (Or.inl ⟨by rfl, ?hy37⟩) (by assumption) ?rest37
  case hy37 => ((intro w hSw; (try dsimp only at hSw); go_simp) <;> with_reducible rfl)
  case' rest37 => try simp only [List.getElem_toArray, List.getElem_cons_zero, List.getElem_cons_succ, Act.put, List.setIfInBounds_toArray, List.set_cons_zero, List.set_cons_succ]
  refine wpAnyH_take (i := 12) (oi := _) (v := ?v38) rfl (by kernel_rfl) (by kernel_rfl) (by kernel_rfl) (fun _ _ _ h => h) (Or.inl ⟨by rfl, ?hy38⟩) (by assumption) ?rest38
  case hy38 => ((intro w hSw; (try dsimp only at hSw); go_simp) <;> with_reducible rfl)
  case' rest38 => try simp only [List.getElem_toArray, List.getElem_cons_zero, List.getElem_cons_succ, Act.put, List.setIfInBounds_toArray, List.set_cons_zero, List.set_cons_succ]
  refine wpAnyH_take (i := 13) (oi := _) (v := ?v39) rfl (by kernel_rfl) (by kernel_rfl) (by kernel_rfl) (fun _ _ _ h => h) (Or.inl ⟨by rfl, ?hy39⟩) (by assumption) ?rest39
  case hy39 => ((intro w hSw; (try dsimp only at hSw); go_simp) <;> with_reducible rfl)
  case' rest39 => try simp only [List.getElem_toArray, List.getElem_cons_zero, List.getElem_cons_succ, Act.put, List.setIfInBounds_toArray, List.set_cons_zero, List.set_cons_succ]
  refine wpAnyH_take (i := 14) (oi := _) (v := ?v40) rfl (by kernel_rfl) (by kernel_rfl) (by kernel_rfl) (fun _ _ _ h => h) (Or.inl ⟨by rfl, ?hy40⟩) (by assumption) ?rest40
  case hy40 => ((intro w hSw; (try dsimp only at hSw); go_simp) <;> with_reducible rfl)
  case' rest40 => try simp only [List.getElem_toArray, List.getElem_cons_zero, List.getElem_cons_succ, Act.put, List.setIfInBounds_toArray, List.set_cons_zero, List.set_cons_succ]
  refine wpAnyH_ready (rs := [7]) (by kernel_rfl) (by simp) ?_
  refine AllReadyH.cons (o := _) rfl (fun K hK => ?_) AllReadyH.nil
  go_simp
  refine (dict_poke ix sub (some ⟨gb, 0, none⟩) m c b _ (HT.out.d.below (Below.drew (Below.refl _ _))) HS.out HL.out HM.out.1 HM.out.2.1 HM.out.2.2.2 HB.out.drew).mono ?_
  rintro e w2 ⟨V2, es2', rfl, hV2, hD2, ho2⟩
  dsimp only
  have HO2 : Hid (Only Fd (w.alloc (.cells #[.int .i64 2, .int .i64 ix, .int .i64 sub, .slice Ao m co] 25)) w2) := hide (only_undrew ho2)
  have HD2 := hide hD2
  have HV2 := hide hV2
  have HQ2 := hide (blk_only HQ.out HO2.out (fun h => (HT.out.bd _ h).2.2 (.inr rfl)))
  clear ho2 hD2 hV2
  refine hK.out _ _ ?hS43 (fun hHeld => ?rest43)
  case hS43 => ((try dsimp only); (exact ⟨HQ2.out.cell 1 rfl, HQ2.out.cell 2 rfl, HQ2.out.cell 3 rfl⟩))
  case' rest43 => (clear hK K; try simp only [List.getElem_toArray, List.getElem_cons_zero, List.getElem_cons_succ, Act.put, List.setIfInBounds_toArray, List.set_cons_zero, List.set_cons_succ])
  have HN2 := hide (HN.out.trans (HO2.out.below HN.out.size (fun i hi => (HT.out.bd i hi).1)))
  refine wpAnyH_ready (rs := [15]) (by kernel_rfl) (by simp) ?_
  refine AllReadyH.cons (o := _) rfl (fun K hK => ?_) AllReadyH.nil
  go_simp
  refine (rdic_poke ix sub Ao m co b _ (HT.out.other HO2.out) HL.out HM.out.1 HM.out.2.2.1 HM.out.2.2.2 (HO.out.below HN2.out)).mono ?_
  rintro e w3 ⟨V3, es3', rfl, hV3, hD3, ho3⟩
  have hV23 : V3 = V2 := hV3.trans HV2.out.symm
  subst hV23
  dsimp only
  have HO3 := hide ho3
  have HD3 := hide hD3
  have HQ3 := hide (blk_only HQ2.out HO3.out (fun h => (HT.out.br _ h).2.2 (.inr rfl)))
  clear ho3 hD3 hV3
  refine hK.out _ _ ?hS46 (fun hHeld => ?rest46)
  case hS46 => ((try dsimp only); (exact ⟨HQ3.out.cell 1 rfl, HQ3.out.cell 2 rfl, HQ3.out.cell 3 rfl⟩))
  case' rest46 => (clear hK K; try simp only [List.getElem_toArray, List.getElem_cons_zero, List.getElem_cons_succ, Act.put, List.setIfInBounds_toArray, List.set_cons_zero, List.set_cons_succ])
  refine wpAnyH_take (i := 16) (oi := _) (v := ?v47) rfl (by kernel_rfl) (by kernel_rfl) (by kernel_rfl) (fun _ _ _ h => h) (Or.inl ⟨by rfl, ?hy47⟩) (by assumption) ?rest47
  case hy47 => ((intro w hSw; (try dsimp only at hSw); go_simp) <;> with_reducible rfl)
  case' rest47 => try simp only [List.getElem_toArray, List.getElem_cons_zero, List.getElem_cons_succ, Act.put, List.setIfInBounds_toArray, List.set_cons_zero, List.set_cons_succ]
  refine wpAnyH_take (i := 17) (oi := _) (v := ?v48) rfl (by kernel_rfl) (by kernel_rfl) (by kernel_rfl) (fun _ _ _ h => h) (Or.inl ⟨by rfl, ?hy48⟩) (by assumption) ?rest48
  case hy48 => ((intro w hSw; (try dsimp only at hSw); go_simp) <;> with_reducible rfl)
  case' rest48 => try simp only [List.getElem_toArray, List.getElem_cons_zero, List.getElem_cons_succ, Act.put, List.setIfInBounds_toArray, List.set_cons_zero, List.set_cons_succ]
  refine wpAnyH_take (i := 18) (oi := _) (v := ?v49) rfl (by kernel_rfl) (by kernel_rfl) (by kernel_rfl) (fun _ _ _ h => h) (Or.inl ⟨by rfl, ?hy49⟩) (by assumption) ?rest49
  case hy49 => ((intro w hSw; (try dsimp only at hSw); go_simp) <;> with_reducible rfl)
  case' rest49 => try simp only [List.getElem_toArray, List.getElem_cons_zero, List.getElem_cons_succ, Act.put, List.setIfInBounds_toArray, List.set_cons_zero, List.set_cons_succ]
  refine wpAnyH_done (by kernel_rfl) ?_ _
  have hEnd := hHeld.2
  repeat (clear hHeld)
  go_wp2_with fail
  go_ret2
  have hfin := HT.out.both HO2.out HD2.out HO3.out HD3.out HX.out HN.out.size
  exact ⟨p, V3, rfl, hfin.exc (fun g h _ => .inl h), (below_alloc' HN0.out).trans (HT.out.low HO2.out HO3.out HN.out.size), fun g hx hlt => keepX hlt (below_alloc (Below.refl w.heap.size w) _) HO2.out HO3.out (fun h => (HT.out.bd g h).2.2 (.inl hx)) (fun h => (HT.out.br g h).2.2 (.inl hx))⟩

theorem does_may (w0 : World) (X : Nat → Prop) (L : List Ent) (V : List (List UInt8)) (pr p : Nat) (ix sub : Int) (Ao : Option Addr) (gb m c co : Nat) (b : List UInt8) (w : World) (hT : TwoD w0.heap.size X L V pr w p) (hX : ∀ g, X g → g < w.heap.size) (hb0 : Below w0.heap.size w0 w) (hs : SortedE L) (hL : L.length ≤ 1000)
    (hm : m = b.length) (hmc : m ≤ c) (hmo : m ≤ co) (hml : m ≤ 35184372088832) (hb : Sl w (some ⟨gb, 0, none⟩) (b.map bv)) (hgb : X gb) (ho : Sl w0 Ao (b.map bv)) :
    Calls Try.prog 31 #[.pointer (some ⟨p, 0, none⟩), .pointer (some ⟨pr, 0, none⟩), .agg #[.int .i64 4, .int .i64 ix, .int .i64 sub, .slice Ao m co], .slice (some ⟨gb, 0, none⟩) m c] w (DoesR w0.heap.size X L pr w) := by
  have hbw := below_alloc (Below.refl w.heap.size w) (.cells #[.int .i64 4, .int .i64 ix, .int .i64 sub, .slice Ao m co] 25)
  have q := blk_one w 25 #[.int .i64 4, .int .i64 ix, .int .i64 sub, .slice Ao m co]
  have hT1 : TwoD w0.heap.size (fun g => X g ∨ g = w.heap.size) L V pr (w.alloc (.cells #[.int .i64 4, .int .i64 ix, .int .i64 sub, .slice Ao m co] 25)) p := (hT.exc (Y := fun g => X g ∨ g = w.heap.size) (fun g h1 h2 => h1.elim id (fun h => by omega))).below hbw
  have hb1 := hb.below hbw
  have hz1 := hbw.size
  have hzq := q.lt
  have HN : Hid (Below w0.heap.size w0 (w.alloc (.cells #[.int .i64 4, .int .i64 ix, .int .i64 sub, .slice Ao m co] 25))) := hide (below_step hbw hb0)
  have HN0 := hide hb0
  have HX : Hid (∀ g, (X g ∨ g = w.heap.size) → g < (w.alloc (.cells #[.int .i64 4, .int .i64 ix, .int .i64 sub, .slice Ao m co] 25)).heap.size) := hide (fun g h => h.elim (fun h => Nat.lt_of_lt_of_le (hX g h) hz1) (fun h => by rw [h]; exact hzq))
  have HS := hide hs
  have HM := hide (And.intro hm (And.intro hmc (And.intro hmo hml)))
  have HG := hide hgb
  have HB := hide hb1
  have HO := hide ho
  have HQ := hide q
  obtain ⟨Fd, Fr, gl, n, cl, Av, cv, ds, es, Al2, cl2, Av2, cv2, ds2, es2, T⟩ := hT1
  have HL := hide (show n ≤ 1000 by rw [T.hn]; exact hL)
  have HT := hide T
  clear hT hX hb0 hs hL hm hmc hmo hml hb hgb ho hb1 T hz1 hbw hzq
  have q_c0 := q.cell 0 rfl
  have q_f0 := q.frozen 0
  have q_c1 := q.cell 1 rfl
  have q_f1 := q.frozen 1
  have q_c2 := q.cell 2 rfl
  have q_f2 := q.frozen 2
  have q_c3 := q.cell 3 rfl
  have q_f3 := q.frozen 3
  go_enter Try.func31, Try.ntmps31
  go_wp2_with fail
  refine wp_region_held_drew (S := (fun w' => w'.cell? ⟨w.heap.size, 1, none⟩ = some (.int .i64 ix) ∧ w'.cell? ⟨w.heap.size, 2, none⟩ = some (.int .i64 sub) ∧ w'.cell? ⟨w.heap.size, 3, none⟩ = some (.slice Ao m co))) (by kernel_rfl) ?hS51 (fun hHeld => ?rest51)
  case hS51 => ((try dsimp only); (exact ⟨q_c1, q_c2, q_c3⟩))
  case' rest51 => skip
  refine wpAnyH_take (i := 0) (oi := _) (v := ?v52) rfl (by kernel_rfl) (by kernel_rfl) (by kernel_rfl) (fun _ _ _ h => h) (Or.inl ⟨by rfl, ?hy52⟩) (by assumption) ?rest52
  case hy52 => ((intro w hSw; (try dsimp only at hSw); go_simp) <;> with_reducible rfl)
  case' rest52 => try simp only [List.getElem_toArray, List.getElem_cons_zero, List.getElem_cons_succ, Act.put, List.setIfInBounds_toArray, List.set_cons_zero, List.set_cons_succ]
  refine wpAnyH_take (i := 1) (oi := _) (v := ?v53) rfl (by kernel_rfl) (by kernel_rfl) (by kernel_rfl) (fun _ _ _ h => h) (Or.inl ⟨by rfl, ?hy53⟩) (by assumption) ?rest53
  case hy53 => ((intro w hSw; (try dsimp only at hSw); go_simp) <;> with_reducible rfl)
  case' rest53 => try simp only [List.getElem_toArray, List.getElem_cons_zero, List.getElem_cons_succ, Act.put, List.setIfInBounds_toArray, List.set_cons_zero, List.set_cons_succ]
  refine wpAnyH_take (i := 2) (oi := _) (v := ?v54) rfl (by kernel_rfl) (by kernel_rfl) (by kernel_rfl) (fun _ _ _ h => h) (Or.inl ⟨by rfl, ?hy54⟩) (by assumption) ?rest54
  case hy54 => ((intro w hSw; (try dsimp only at hSw); go_simp) <;> with_reducible rfl)
  case' rest54 => try simp only [List.getElem_toArray, List.getElem_cons_zero, List.getElem_cons_succ, Act.put, List.setIfInBounds_toArray, List.set_cons_zero, List.set_cons_succ]
  refine wpAnyH_take (i := 3) (oi := _) (v := ?v55) rfl (by kernel_rfl) (by kernel_rfl) (by kernel_rfl) (fun _ _ _ h => h) (Or.inl ⟨by rfl, ?hy55⟩) (by assumption) ?rest55
  case hy55 => ((intro w hSw; (try dsimp only at hSw); go_simp) <;> with_reducible rfl)
  case' rest55 => try simp only [List.getElem_toArray, List.getElem_cons_zero, List.getElem_cons_succ, Act.put, List.setIfInBounds_toArray, List.set_cons_zero, List.set_cons_succ]
  refine wpAnyH_take (i := 4) (oi := _) (v := ?v56) rfl (by kernel_rfl) (by kernel_rfl) (by kernel_rfl) (fun _ _ _ h => h) (Or.inl ⟨by rfl, ?hy56⟩) (by assumption) ?rest56
  case hy56 => ((intro w hSw; (try dsimp only at hSw); go_simp) <;> with_reducible rfl)
  case' rest56 => try simp only [List.getElem_toArray, List.getElem_cons_zero, List.getElem_cons_succ, Act.put, List.setIfInBounds_toArray, List.set_cons_zero, List.set_cons_succ]
  refine wpAnyH_take (i := 5) (oi := _) (v := ?v57) rfl (by kernel_rfl) (by kernel_rfl) (by kernel_rfl) (fun _ _ _ h => h) (Or.inl ⟨by rfl, ?hy57⟩) (by assumption) ?rest57
  case hy57 => ((intro w hSw; (try dsimp only at hSw); go_simp) <;> with_reducible rfl)
  case' rest57 => try simp only [List.getElem_toArray, List.getElem_cons_zero, List.getElem_cons_succ, Act.put, List.setIfInBounds_toArray, List.set_cons_zero, List.set_cons_succ]
  refine wpAnyH_take (i := 6) (oi := _) (v := ?v58) rfl (by kernel_rfl) (by kernel_rfl) (by kernel_rfl) (fun _ _ _ h => h) (Or.inl ⟨by rfl, ?hy58⟩) (by assumption) ?rest58
  case hy58 => ((intro w hSw; (try dsimp only at hSw); go_simp) <;> with_reducible rfl)
  case' rest58 => try simp only [List.getElem_toArray, List.getElem_cons_zero, List.getElem_cons_succ, Act.put, List.setIfInBounds_toArray, List.set_cons_zero, List.set_cons_succ]
  refine wpAnyH_take (i := 8) (oi := _) (v := ?v59) rfl (by kernel_rfl) (by kernel_rfl) (by kernel_rfl) (fun _ _ _ h => h) (Or.inl ⟨by rfl, ?hy59⟩) (by assumption) ?rest59
  case hy59 => ((intro w hSw; (try dsimp only at hSw); go_simp) <;> with_reducible rfl)
  case' rest59 => try simp only [List.getElem_toArray, List.getElem_cons_zero, List.getElem_cons_succ, Act.put, List.setIfInBounds_toArray, List.set_cons_zero, List.set_cons_succ]
  refine wpAnyH_take (i := 9) (oi := _) (v := ?v60) rfl (by kernel_rfl) (by kernel_rfl) (by kernel_rfl) (fun _ _ _ h => h) (Or.inl ⟨by rfl, ?hy60⟩) (by assumption) ?rest60
  case hy60 => ((intro w hSw; (try dsimp only at hSw); go_simp) <;> with_reducible rfl)
  case' rest60 => try simp only [List.getElem_toArray, List.getElem_cons_zero, List.getElem_cons_succ, Act.put, List.setIfInBounds_toArray, List.set_cons_zero, List.set_cons_succ]
  refine wpAnyH_take (i := 10) (oi := _) (v := ?v61) rfl (by kernel_rfl) (by kernel_rfl) (by kernel_rfl) (fun _ _ _ h => h) (Or.inl ⟨by rfl, ?hy61⟩) (by assumption) ?rest61
  case hy61 => ((intro w hSw; (try dsimp only at hSw); go_simp) <;> with_reducible rfl)
  case' rest61 => try simp only [List.getElem_toArray, List.getElem_cons_zero, List.getElem_cons_succ, Act.put, List.setIfInBounds_toArray, List.set_cons_zero, List.set_cons_succ]
  refine wpAnyH_take (i := 11) (oi := _) (v := ?v62) rfl (by kernel_rfl) (by kernel_rfl) (by kernel_rfl) (fun _ _ _ h => h) (Or.inl ⟨by rfl, ?hy62⟩) (by assumption) ?rest62
  case hy62 => ((intro w hSw; (try dsimp only at hSw); go_simp) <;> with_reducible rfl)
  case' rest62 => try simp only [List.getElem_toArray, List.getElem_cons_zero, List.getElem_cons_succ, Act.put, List.setIfInBounds_toArray, List.set_cons_zero, List.set_cons_succ]
  refine wpAnyH_take (i := 12) (oi := _) (v := ?v63) rfl (by kernel_rfl) (by kernel_rfl) (by kernel_rfl) (fun _ _ _ h => h) (Or.inl ⟨by rfl, ?hy63⟩) (by assumption) ?rest63
  case hy63 => ((intro w hSw; (try dsimp only at hSw); go_simp) <;> with_reducible rfl)
  case' rest63 => try simp only [List.getElem_toArray, List.getElem_cons_zero, List.getElem_cons_succ, Act.put, List.setIfInBounds_toArray, List.set_cons_zero, List.set_cons_succ]
  refine wpAnyH_take (i := 13) (oi := _) (v := ?v64) rfl (by kernel_rfl) (by kernel_rfl) (by kernel_rfl) (fun _ _ _ h => h) (Or.inl ⟨by rfl, ?hy64⟩) (by assumption) ?rest64
  case hy64 => ((intro w hSw; (try dsimp only at hSw); go_simp) <;> with_reducible rfl)
  case' rest64 => try simp only [List.getElem_toArray, List.getElem_cons_zero, List.getElem_cons_succ, Act.put, List.setIfInBounds_toArray, List.set_cons_zero, List.set_cons_succ]
  refine wpAnyH_take (i := 14) (oi := _) (v := ?v65) rfl (by kernel_rfl) (by kernel_rfl) (by kernel_rfl) (fun _ _ _ h => h) (Or.inl ⟨by rfl, ?hy65⟩) (by assumption) ?rest65
  case hy65 => ((intro w hSw; (try dsimp only at hSw); go_simp) <;> with_reducible rfl)
  case' rest65 => try simp only [List.getElem_toArray, List.getElem_cons_zero, List.getElem_cons_succ, Act.put, List.setIfInBounds_toArray, List.set_cons_zero, List.set_cons_succ]
  refine wpAnyH_ready (rs := [7]) (by kernel_rfl) (by simp) ?_
  refine AllReadyH.cons (o := _) rfl (fun K hK => ?_) AllReadyH.nil
  go_simp
  refine (dict_may ix sub (some ⟨gb, 0, none⟩) m c b _ (HT.out.d.below (Below.drew (Below.refl _ _))) HS.out HL.out HM.out.1 HM.out.2.1 HM.out.2.2.2 HB.out.drew).mono ?_
  rintro e w2 ⟨rfl, hb2⟩
  dsimp only
  replace hb2 := below_undrew hb2
  have HQ2 := hide (HQ.out.below hb2 HQ.out.lt)
  refine hK.out _ _ ?hS68 (fun hHeld => ?rest68)
  case hS68 => ((try dsimp only); (exact ⟨HQ2.out.cell 1 rfl, HQ2.out.cell 2 rfl, HQ2.out.cell 3 rfl⟩))
  case' rest68 => (clear hK K; try simp only [List.getElem_toArray, List.getElem_cons_zero, List.getElem_cons_succ, Act.put, List.setIfInBounds_toArray, List.set_cons_zero, List.set_cons_succ])
  have HN2 := hide (below_step hb2 HN.out)
  refine wpAnyH_ready (rs := [15]) (by kernel_rfl) (by simp) ?_
  refine AllReadyH.cons (o := _) rfl (fun K hK => ?_) AllReadyH.nil
  go_simp
  refine (rdic_may ix sub Ao m co b _ (HT.out.r.below hb2) HL.out HM.out.1 HM.out.2.2.1 HM.out.2.2.2 (HO.out.below HN2.out)).mono ?_
  rintro e w3 ⟨rfl, hb3⟩
  dsimp only
  have HQ3 := hide (HQ2.out.below hb3 HQ2.out.lt)
  refine hK.out _ _ ?hS71 (fun hHeld => ?rest71)
  case hS71 => ((try dsimp only); (exact ⟨HQ3.out.cell 1 rfl, HQ3.out.cell 2 rfl, HQ3.out.cell 3 rfl⟩))
  case' rest71 => (clear hK K; try simp only [List.getElem_toArray, List.getElem_cons_zero, List.getElem_cons_succ, Act.put, List.setIfInBounds_toArray, List.set_cons_zero, List.set_cons_succ])
  refine wpAnyH_take (i := 16) (oi := _) (v := ?v72) rfl (by kernel_rfl) (by kernel_rfl) (by kernel_rfl) (fun _ _ _ h => h) (Or.inl ⟨by rfl, ?hy72⟩) (by assumption) ?rest72
  case hy72 => ((intro w hSw; (try dsimp only at hSw); go_simp) <;> with_reducible rfl)
  case' rest72 => try simp only [List.getElem_toArray, List.getElem_cons_zero, List.getElem_cons_succ, Act.put, List.setIfInBounds_toArray, List.set_cons_zero, List.set_cons_succ]
  refine wpAnyH_take (i := 17) (oi := _) (v := ?v73) rfl (by kernel_rfl) (by kernel_rfl) (by kernel_rfl) (fun _ _ _ h => h) (Or.inl ⟨by rfl, ?hy73⟩) (by assumption) ?rest73
  case hy73 => ((intro w hSw; (try dsimp only at hSw); go_simp) <;> with_reducible rfl)
  case' rest73 => try simp only [List.getElem_toArray, List.getElem_cons_zero, List.getElem_cons_succ, Act.put, List.setIfInBounds_toArray, List.set_cons_zero, List.set_cons_succ]
  refine wpAnyH_take (i := 18) (oi := _) (v := ?v74) rfl (by kernel_rfl) (by kernel_rfl) (by kernel_rfl) (fun _ _ _ h => h) (Or.inl ⟨by rfl, ?hy74⟩) (by assumption) ?rest74
  case hy74 => ((intro w hSw; (try dsimp only at hSw); go_simp) <;> with_reducible rfl)
  case' rest74 => try simp only [List.getElem_toArray, List.getElem_cons_zero, List.getElem_cons_succ, Act.put, List.setIfInBounds_toArray, List.set_cons_zero, List.set_cons_succ]
  refine wpAnyH_done (by kernel_rfl) ?_ _
  have hEnd := hHeld.2
  repeat (clear hHeld)
  go_wp2_with fail
  go_ret2
  have hb23 := below_step hb3 hb2
  have hfin : TwoD w0.heap.size (fun g => X g ∨ g = w.heap.size) L V pr w3 p := TwoD.below ⟨_, _, _, _, _, _, _, _, _, _, _, _, _, _, _, HT.out⟩ hb23
  exact ⟨p, V, rfl, hfin.exc (fun g h _ => .inl h), (below_alloc' HN0.out).trans (hb23.mono HN.out.size), fun g hx hlt => keepX1 hlt (below_alloc (Below.refl w.heap.size w) _) hb23⟩

theorem does_get (w0 : World) (X : Nat → Prop) (L : List Ent) (V : List (List UInt8)) (pr p : Nat) (ix sub : Int) (Ao : Option Addr) (gb m c co : Nat) (b : List UInt8) (w : World) (hT : TwoD w0.heap.size X L V pr w p) (hX : ∀ g, X g → g < w.heap.size) (hb0 : Below w0.heap.size w0 w) (hs : SortedE L) (hL : L.length ≤ 1000)
    (hm : m = b.length) (hmc : m ≤ c) (hmo : m ≤ co) (hml : m ≤ 35184372088832) (hb : Sl w (some ⟨gb, 0, none⟩) (b.map bv)) (hgb : X gb) (ho : Sl w0 Ao (b.map bv)) :
    Calls Try.prog 31 #[.pointer (some ⟨p, 0, none⟩), .pointer (some ⟨pr, 0, none⟩), .agg #[.int .i64 1, .int .i64 ix, .int .i64 sub, .slice Ao m co], .slice (some ⟨gb, 0, none⟩) m c] w (DoesR w0.heap.size X L pr w) := by
  have hbw := below_alloc (Below.refl w.heap.size w) (.cells #[.int .i64 1, .int .i64 ix, .int .i64 sub, .slice Ao m co] 25)
  have q := blk_one w 25 #[.int .i64 1, .int .i64 ix, .int .i64 sub, .slice Ao m co]
  have hT1 : TwoD w0.heap.size (fun g => X g ∨ g = w.heap.size) L V pr (w.alloc (.cells #[.int .i64 1, .int .i64 ix, .int .i64 sub, .slice Ao m co] 25)) p := (hT.exc (Y := fun g => X g ∨ g = w.heap.size) (fun g h1 h2 => h1.elim id (fun h => by omega))).below hbw
  have hb1 := hb.below hbw
  have hz1 := hbw.size
  have hzq := q.lt
  have HN : Hid (Below w0.heap.size w0 (w.alloc (.cells #[.int .i64 1, .int .i64 ix, .int .i64 sub, .slice Ao m co] 25))) := hide (below_step hbw hb0)
  have HN0 := hide hb0
  have HX : Hid (∀ g, (X g ∨ g = w.heap.size) → g < (w.alloc (.cells #[.int .i64 1, .int .i64 ix, .int .i64 sub, .slice Ao m co] 25)).heap.size) := hide (fun g h => h.elim (fun h => Nat.lt_of_lt_of_le (hX g h) hz1) (fun h => by rw [h]; exact hzq))
  have HS := hide hs
  have HM := hide (And.intro hm (And.intro hmc (And.intro hmo hml)))
  have HG := hide hgb
  have HB := hide hb1
  have HO := hide ho
  have HQ := hide q
  obtain ⟨Fd, Fr, gl, n, cl, Av, cv, ds, es, Al2, cl2, Av2, cv2, ds2, es2, T⟩ := hT1
  have HL := hide (show n ≤ 1000 by rw [T.hn]; exact hL)
  have HT := hide T
  clear hT hX hb0 hs hL hm hmc hmo hml hb hgb ho hb1 T hz1 hbw hzq
  have q_c0 := q.cell 0 rfl
  have q_f0 := q.frozen 0
  have q_c1 := q.cell 1 rfl
  have q_f1 := q.frozen 1
  have q_c2 := q.cell 2 rfl
  have q_f2 := q.frozen 2
  have q_c3 := q.cell 3 rfl
  have q_f3 := q.frozen 3
  go_enter Try.func31, Try.ntmps31
  go_wp2_with fail
  refine (dict_get ix sub _ HT.out.d HS.out HL.out).mono ?_
  rintro e w2 ⟨A2, m2, c2, b2, rfl, hO2, hb2e, hb2⟩
  have HQ2 := hide (HQ.out.below hb2 HQ.out.lt)
  have HO2 := hide hO2
  have q2 := HQ2.out
  clear q_c0 q_f0 q_c1 q_f1 q_c2 q_f2 q_c3 q_f3
  have q2_c0 := q2.cell 0 rfl
  have q2_f0 := q2.frozen 0
  have q2_c1 := q2.cell 1 rfl
  have q2_f1 := q2.frozen 1
  have q2_c2 := q2.cell 2 rfl
  have q2_f2 := q2.frozen 2
  have q2_c3 := q2.cell 3 rfl
  have q2_f3 := q2.frozen 3
  clear hO2
  go_wp2_with fail
  refine (rdic_get ix sub _ (HT.out.r.below hb2) HL.out).mono ?_
  rintro e w3 ⟨A3, m3, c3, b3, rfl, hO3, hb3e, hb3⟩
  obtain rfl : b3 = b2 := hb3e.trans hb2e.symm
  have st2 := str_b c2 HO2.out.hn (HO2.out.below hb3).sl
  have st3 := str_b c3 hO3.hn hO3.sl
  have hb23 := below_step hb3 hb2
  have hm2 : m2 ≤ 35184372088832 := by
    have h1 := HO2.out.hn
    rw [hb2e] at h1
    split at h1
    · rename_i hc
      rcases Nat.lt_or_ge (locK L ix sub) V.length with h | h
      · have h3 := HT.out.d.fv _ (List.mem_of_getElem? (List.getElem?_eq_getElem h))
        rw [valK_at (List.getElem?_eq_getElem h)] at h1
        unfold fitB at h3
        omega
      · unfold valK at h1
        rw [List.getD_eq_getElem?_getD, List.getElem?_eq_none h] at h1
        simp at h1
        omega
    · simp at h1; omega
  have HM2 := hide hm2
  have HO23 := hide (HO2.out.below hb3)
  clear hO3 hb2e hb3e hm2
  clear q2_c0 q2_f0 q2_c1 q2_f1 q2_c2 q2_f2 q2_c3 q2_f3
  go_wp2_with fail
  refine (spoil_any A2 m2 c2 ((w.alloc (.cells #[.int .i64 1, .int .i64 ix, .int .i64 sub, .slice Ao m co] 25))).heap.size b3 _ HM2.out HO23.out.own hb23.size).mono ?_
  rintro e w4 ⟨rfl, hg4⟩
  have hb24 := hb23.grown hg4 hb23.size (by
    intro q hq
    rcases HO23.out.own.shape with ⟨h1, _⟩ | ⟨g', h1, h2, _⟩
    · rw [h1] at hq; cases hq
    · rw [h1] at hq
      simp [Value.ownBlock] at hq
      simp at h2
      simp
      omega)
  go_wp2_with fail
  go_ret2
  have hfin : TwoD w0.heap.size (fun g => X g ∨ g = w.heap.size) L V pr w4 p := TwoD.below ⟨_, _, _, _, _, _, _, _, _, _, _, _, _, _, _, HT.out⟩ hb24
  exact ⟨p, V, rfl, hfin.exc (fun g h _ => .inl h), (below_alloc' HN0.out).trans (hb24.mono HN.out.size), fun g hx hlt => keepX1 hlt (below_alloc (Below.refl w.heap.size w) _) hb24⟩

theorem does_peek (w0 : World) (X : Nat → Prop) (L : List Ent) (V : List (List UInt8)) (pr p : Nat) (ix sub : Int) (Ao : Option Addr) (gb m c co : Nat) (b : List UInt8) (w : World) (hT : TwoD w0.heap.size X L V pr w p) (hX : ∀ g, X g → g < w.heap.size) (hb0 : Below w0.heap.size w0 w) (hs : SortedE L) (hL : L.length ≤ 1000)
    (hm : m = b.length) (hmc : m ≤ c) (hmo : m ≤ co) (hml : m ≤ 35184372088832) (hb : Sl w (some ⟨gb, 0, none⟩) (b.map bv)) (hgb : X gb) (ho : Sl w0 Ao (b.map bv)) :
    Calls Try.prog 31 #[.pointer (some ⟨p, 0, none⟩), .pointer (some ⟨pr, 0, none⟩), .agg #[.int .i64 3, .int .i64 ix, .int .i64 sub, .slice Ao m co], .slice (some ⟨gb, 0, none⟩) m c] w (DoesR w0.heap.size X L pr w) := by
  have hbw := below_alloc (Below.refl w.heap.size w) (.cells #[.int .i64 3, .int .i64 ix, .int .i64 sub, .slice Ao m co] 25)
  have q := blk_one w 25 #[.int .i64 3, .int .i64 ix, .int .i64 sub, .slice Ao m co]
  have hT1 : TwoD w0.heap.size (fun g => X g ∨ g = w.heap.size) L V pr (w.alloc (.cells #[.int .i64 3, .int .i64 ix, .int .i64 sub, .slice Ao m co] 25)) p := (hT.exc (Y := fun g => X g ∨ g = w.heap.size) (fun g h1 h2 => h1.elim id (fun h => by omega))).below hbw
  have hb1 := hb.below hbw
  have hz1 := hbw.size
  have hzq := q.lt
  have HN : Hid (Below w0.heap.size w0 (w.alloc (.cells #[.int .i64 3, .int .i64 ix, .int .i64 sub, .slice Ao m co] 25))) := hide (below_step hbw hb0)
  have HN0 := hide hb0
  have HX : Hid (∀ g, (X g ∨ g = w.heap.size) → g < (w.alloc (.cells #[.int .i64 3, .int .i64 ix, .int .i64 sub, .slice Ao m co] 25)).heap.size) := hide (fun g h => h.elim (fun h => Nat.lt_of_lt_of_le (hX g h) hz1) (fun h => by rw [h]; exact hzq))
  have HS := hide hs
  have HM := hide (And.intro hm (And.intro hmc (And.intro hmo hml)))
  have HG := hide hgb
  have HB := hide hb1
  have HO := hide ho
  have HQ := hide q
  obtain ⟨Fd, Fr, gl, n, cl, Av, cv, ds, es, Al2, cl2, Av2, cv2, ds2, es2, T⟩ := hT1
  have HL := hide (show n ≤ 1000 by rw [T.hn]; exact hL)
  have HT := hide T
  clear hT hX hb0 hs hL hm hmc hmo hml hb hgb ho hb1 T hz1 hbw hzq
  have q_c0 := q.cell 0 rfl
  have q_f0 := q.frozen 0
  have q_c1 := q.cell 1 rfl
  have q_f1 := q.frozen 1
  have q_c2 := q.cell 2 rfl
  have q_f2 := q.frozen 2
  have q_c3 := q.cell 3 rfl
  have q_f3 := q.frozen 3
  go_enter Try.func31, Try.ntmps31
  go_wp2_with fail
  refine (dict_peek ix sub _ HT.out.d HS.out HL.out).mono ?_
  rintro e w2 ⟨A2, m2, c2, b2, rfl, hO2, hb2e, hb2⟩
  have HQ2 := hide (HQ.out.below hb2 HQ.out.lt)
  have HO2 := hide hO2
  have q2 := HQ2.out
  clear q_c0 q_f0 q_c1 q_f1 q_c2 q_f2 q_c3 q_f3
  have q2_c0 := q2.cell 0 rfl
  have q2_f0 := q2.frozen 0
  have q2_c1 := q2.cell 1 rfl
  have q2_f1 := q2.frozen 1
  have q2_c2 := q2.cell 2 rfl
  have q2_f2 := q2.frozen 2
  have q2_c3 := q2.cell 3 rfl
  have q2_f3 := q2.frozen 3
  clear hO2
  go_wp2_with fail
  refine (rdic_peek ix sub _ (HT.out.r.below hb2) HL.out).mono ?_
  rintro e w3 ⟨A3, m3, c3, b3, rfl, hO3, hb3e, hb3⟩
  obtain rfl : b3 = b2 := hb3e.trans hb2e.symm
  have st2 := str_b c2 HO2.out.hn (HO2.out.below hb3).sl
  have st3 := str_b c3 hO3.hn hO3.sl
  have hb23 := below_step hb3 hb2
  have hm2 : m2 ≤ 35184372088832 := by
    have h1 := HO2.out.hn
    rw [hb2e] at h1
    split at h1
    · rename_i hc
      rcases Nat.lt_or_ge (locK L ix sub) V.length with h | h
      · have h3 := HT.out.d.fv _ (List.mem_of_getElem? (List.getElem?_eq_getElem h))
        rw [valK_at (List.getElem?_eq_getElem h)] at h1
        unfold fitB at h3
        omega
      · unfold valK at h1
        rw [List.getD_eq_getElem?_getD, List.getElem?_eq_none h] at h1
        simp at h1
        omega
    · simp at h1; omega
  have HM2 := hide hm2
  have HO23 := hide (HO2.out.below hb3)
  clear hO3 hb2e hb3e hm2
  clear q2_c0 q2_f0 q2_c1 q2_f1 q2_c2 q2_f2 q2_c3 q2_f3
  go_wp2_with fail
  refine (spoil_any A2 m2 c2 ((w.alloc (.cells #[.int .i64 3, .int .i64 ix, .int .i64 sub, .slice Ao m co] 25))).heap.size b3 _ HM2.out HO23.out.own hb23.size).mono ?_
  rintro e w4 ⟨rfl, hg4⟩
  have hb24 := hb23.grown hg4 hb23.size (by
    intro q hq
    rcases HO23.out.own.shape with ⟨h1, _⟩ | ⟨g', h1, h2, _⟩
    · rw [h1] at hq; cases hq
    · rw [h1] at hq
      simp [Value.ownBlock] at hq
      simp at h2
      simp
      omega)
  go_wp2_with fail
  go_ret2
  have hfin : TwoD w0.heap.size (fun g => X g ∨ g = w.heap.size) L V pr w4 p := TwoD.below ⟨_, _, _, _, _, _, _, _, _, _, _, _, _, _, _, HT.out⟩ hb24
  exact ⟨p, V, rfl, hfin.exc (fun g h _ => .inl h), (below_alloc' HN0.out).trans (hb24.mono HN.out.size), fun g hx hlt => keepX1 hlt (below_alloc (Below.refl w.heap.size w) _) hb24⟩

theorem does_reset (w0 : World) (X : Nat → Prop) (L : List Ent) (V : List (List UInt8)) (pr p : Nat) (ix sub : Int) (Ao : Option Addr) (gb m c co : Nat) (b : List UInt8) (w : World) (hT : TwoD w0.heap.size X L V pr w p) (hX : ∀ g, X g → g < w.heap.size) (hb0 : Below w0.heap.size w0 w) (hs : SortedE L) (hL : L.length ≤ 1000)
    (hm : m = b.length) (hmc : m ≤ c) (hmo : m ≤ co) (hml : m ≤ 35184372088832) (hb : Sl w (some ⟨gb, 0, none⟩) (b.map bv)) (hgb : X gb) (ho : Sl w0 Ao (b.map bv)) :
    Calls Try.prog 31 #[.pointer (some ⟨p, 0, none⟩), .pointer (some ⟨pr, 0, none⟩), .agg #[.int .i64 5, .int .i64 ix, .int .i64 sub, .slice Ao m co], .slice (some ⟨gb, 0, none⟩) m c] w (DoesR w0.heap.size X L pr w) := by
  have hbw := below_alloc (Below.refl w.heap.size w) (.cells #[.int .i64 5, .int .i64 ix, .int .i64 sub, .slice Ao m co] 25)
  have q := blk_one w 25 #[.int .i64 5, .int .i64 ix, .int .i64 sub, .slice Ao m co]
  have hT1 : TwoD w0.heap.size (fun g => X g ∨ g = w.heap.size) L V pr (w.alloc (.cells #[.int .i64 5, .int .i64 ix, .int .i64 sub, .slice Ao m co] 25)) p := (hT.exc (Y := fun g => X g ∨ g = w.heap.size) (fun g h1 h2 => h1.elim id (fun h => by omega))).below hbw
  have hb1 := hb.below hbw
  have hz1 := hbw.size
  have hzq := q.lt
  have HN : Hid (Below w0.heap.size w0 (w.alloc (.cells #[.int .i64 5, .int .i64 ix, .int .i64 sub, .slice Ao m co] 25))) := hide (below_step hbw hb0)
  have HN0 := hide hb0
  have HX : Hid (∀ g, (X g ∨ g = w.heap.size) → g < (w.alloc (.cells #[.int .i64 5, .int .i64 ix, .int .i64 sub, .slice Ao m co] 25)).heap.size) := hide (fun g h => h.elim (fun h => Nat.lt_of_lt_of_le (hX g h) hz1) (fun h => by rw [h]; exact hzq))
  have HS := hide hs
  have HM := hide (And.intro hm (And.intro hmc (And.intro hmo hml)))
  have HG := hide hgb
  have HB := hide hb1
  have HO := hide ho
  have HQ := hide q
  obtain ⟨Fd, Fr, gl, n, cl, Av, cv, ds, es, Al2, cl2, Av2, cv2, ds2, es2, T⟩ := hT1
  have HL := hide (show n ≤ 1000 by rw [T.hn]; exact hL)
  have HT := hide T
  clear hT hX hb0 hs hL hm hmc hmo hml hb hgb ho hb1 T hz1 hbw hzq
  have q_c0 := q.cell 0 rfl
  have q_f0 := q.frozen 0
  have q_c1 := q.cell 1 rfl
  have q_f1 := q.frozen 1
  have q_c2 := q.cell 2 rfl
  have q_f2 := q.frozen 2
  have q_c3 := q.cell 3 rfl
  have q_f3 := q.frozen 3
  go_enter Try.func31, Try.ntmps31
  go_wp2_with fail
  refine (dict_reset _ HT.out.d HL.out).mono ?_
  rintro e w2 ⟨es2', rfl, hD2, ho2⟩
  have HO2 := hide ho2
  have HD2 := hide hD2
  clear hD2 ho2
  clear q_c0 q_f0 q_c1 q_f1 q_c2 q_f2 q_c3 q_f3
  go_wp2_with fail
  refine (rdic_reset _ (HT.out.other HO2.out) HL.out).mono ?_
  rintro e w3 ⟨es3', rfl, hD3, ho3⟩
  have HO3 := hide ho3
  have HD3 := hide hD3
  clear hD3 ho3
  go_wp2_with fail
  go_ret2
  have hfin := HT.out.both HO2.out HD2.out HO3.out HD3.out HX.out HN.out.size
  exact ⟨p, L.map Ent.df, rfl, hfin.exc (fun g h _ => .inl h), (below_alloc' HN0.out).trans (HT.out.low HO2.out HO3.out HN.out.size), fun g hx hlt => keepX hlt (below_alloc (Below.refl w.heap.size w) _) HO2.out HO3.out (fun h => (HT.out.bd g h).2.2 (.inl hx)) (fun h => (HT.out.br g h).2.2 (.inl hx))⟩

theorem does_copy (w0 : World) (X : Nat → Prop) (L : List Ent) (V : List (List UInt8)) (pr p : Nat) (ix sub : Int) (Ao : Option Addr) (gb m c co : Nat) (b : List UInt8) (w : World) (hT : TwoD w0.heap.size X L V pr w p) (hX : ∀ g, X g → g < w.heap.size) (hb0 : Below w0.heap.size w0 w) (hs : SortedE L) (hL : L.length ≤ 1000)
    (hm : m = b.length) (hmc : m ≤ c) (hmo : m ≤ co) (hml : m ≤ 35184372088832) (hb : Sl w (some ⟨gb, 0, none⟩) (b.map bv)) (hgb : X gb) (ho : Sl w0 Ao (b.map bv)) :
    Calls Try.prog 31 #[.pointer (some ⟨p, 0, none⟩), .pointer (some ⟨pr, 0, none⟩), .agg #[.int .i64 6, .int .i64 ix, .int .i64 sub, .slice Ao m co], .slice (some ⟨gb, 0, none⟩) m c] w (DoesR w0.heap.size X L pr w) := by
  have hbw := below_alloc (Below.refl w.heap.size w) (.cells #[.int .i64 6, .int .i64 ix, .int .i64 sub, .slice Ao m co] 25)
  have q := blk_one w 25 #[.int .i64 6, .int .i64 ix, .int .i64 sub, .slice Ao m co]
  have hT1 : TwoD w0.heap.size (fun g => X g ∨ g = w.heap.size) L V pr (w.alloc (.cells #[.int .i64 6, .int .i64 ix, .int .i64 sub, .slice Ao m co] 25)) p := (hT.exc (Y := fun g => X g ∨ g = w.heap.size) (fun g h1 h2 => h1.elim id (fun h => by omega))).below hbw
  have hb1 := hb.below hbw
  have hz1 := hbw.size
  have hzq := q.lt
  have HN : Hid (Below w0.heap.size w0 (w.alloc (.cells #[.int .i64 6, .int .i64 ix, .int .i64 sub, .slice Ao m co] 25))) := hide (below_step hbw hb0)
  have HN0 := hide hb0
  have HX : Hid (∀ g, (X g ∨ g = w.heap.size) → g < (w.alloc (.cells #[.int .i64 6, .int .i64 ix, .int .i64 sub, .slice Ao m co] 25)).heap.size) := hide (fun g h => h.elim (fun h => Nat.lt_of_lt_of_le (hX g h) hz1) (fun h => by rw [h]; exact hzq))
  have HS := hide hs
  have HM := hide (And.intro hm (And.intro hmc (And.intro hmo hml)))
  have HG := hide hgb
  have HB := hide hb1
  have HO := hide ho
  have HQ := hide q
  obtain ⟨Fd, Fr, gl, n, cl, Av, cv, ds, es, Al2, cl2, Av2, cv2, ds2, es2, T⟩ := hT1
  have HL := hide (show n ≤ 1000 by rw [T.hn]; exact hL)
  have HT := hide T
  clear hT hX hb0 hs hL hm hmc hmo hml hb hgb ho hb1 T hz1 hbw hzq
  have q_c0 := q.cell 0 rfl
  have q_f0 := q.frozen 0
  have q_c1 := q.cell 1 rfl
  have q_f1 := q.frozen 1
  have q_c2 := q.cell 2 rfl
  have q_f2 := q.frozen 2
  have q_c3 := q.cell 3 rfl
  have q_f3 := q.frozen 3
  go_enter Try.func31, Try.ntmps31
  go_wp2_with fail
  refine (dict_copy _ HT.out.d HL.out).mono ?_
  rintro e w2 ⟨p2, gl2, n2, cl3, Av3, cv3, ds3, es3, rfl, hn2, hD2, hb2⟩
  have HB2 := hide hb2
  have HD2 := hide hD2
  have HN2 := hide hn2
  have HQ2 := hide (HQ.out.below hb2 HQ.out.lt)
  clear hD2 hn2 hb2
  clear q_c0 q_f0 q_c1 q_f1 q_c2 q_f2 q_c3 q_f3
  go_wp2_with fail
  refine (dict_reset _ (HT.out.d.below HB2.out) HL.out).mono ?_
  rintro e w3 ⟨es3', rfl, hD3, ho3⟩
  have HO3 := hide ho3
  have HD3 := hide hD3
  have HQ3 := hide (blk_only HQ2.out HO3.out (fun h => (HT.out.bd _ h).2.2 (.inr rfl)))
  have HBL3 := hide (sl_only (HB.out.below HB2.out) HO3.out (fun h => (HT.out.bd _ h).2.2 (.inl HG.out)))
  have q3 := HQ3.out
  clear hD3 ho3
  have q3_c0 := q3.cell 0 rfl
  have q3_f0 := q3.frozen 0
  have q3_c1 := q3.cell 1 rfl
  have q3_f1 := q3.frozen 1
  have q3_c2 := q3.cell 2 rfl
  have q3_f2 := q3.frozen 2
  have q3_c3 := q3.cell 3 rfl
  have q3_f3 := q3.frozen 3
  go_wp2_with fail
  refine (dict_poke ix sub (some ⟨gb, 0, none⟩) m c b _ HD3.out HS.out HL.out HM.out.1 HM.out.2.1 HM.out.2.2.2 HBL3.out).mono ?_
  rintro e w4 ⟨V4, es4', rfl, _, _, ho4⟩
  have HO4 := hide ho4
  clear ho4
  go_wp2_with fail
  go_ret2
  have z2 := HB2.out.size
  have z3 := HO3.out.size
  have o34 : Only (fun g => Fd g ∨ w2.heap.size ≤ g) w2 w4 := (HO3.out.mono (fun _ _ h => .inl h)).trans HO4.out (fun i _ h => h)
  have hn : n2 = n := HN2.out.trans HT.out.hn.symm
  subst hn
  refine ⟨p2, V, rfl, ⟨fun g => ((w.alloc (.cells #[.int .i64 6, .int .i64 ix, .int .i64 sub, .slice Ao m co] 25))).heap.size ≤ g ∧ g < w2.heap.size, Fr, gl2, n2, cl3, Av3, cv3, ds3, es3, Al2, cl2, Av2, cv2, ds2, es2, ⟨HT.out.hn, ?_, ?_, ?_, ?_, ?_⟩⟩, ?_, fun g hx hlt => keepX hlt (below_alloc (Below.refl w.heap.size w) _) (Only.of_below (F := fun _ => False) HB2.out) o34 (fun h => h) (fun h => h.elim (fun h => (HT.out.bd g h).2.2 (.inl hx)) (fun h => by have := HX.out g (.inl hx); omega))⟩
  · refine (HD2.out.mono (G := fun g => ((w.alloc (.cells #[.int .i64 6, .int .i64 ix, .int .i64 sub, .slice Ao m co] 25))).heap.size ≤ g ∧ g < w2.heap.size) (fun g h1 h2 => ⟨h2, h1⟩)).keep (fun g hg hlt => o34.block g hlt (fun h => ?_))
    rcases h with h | h
    · have := (HT.out.bd g h).2.1; omega
    · omega
  · refine (HT.out.r.below HB2.out).keep (fun g hg hlt => o34.block g hlt (fun h => ?_))
    rcases h with h | h
    · exact HT.out.dj g h hg
    · have := (HT.out.br g hg).2.1; omega
  · rintro g ⟨h1, h2⟩
    have h3 := HN.out.size
    have h4 := o34.size
    exact ⟨by omega, by omega, fun hx => by have := HX.out g (.inl hx); omega⟩
  · intro g hg
    have h4 := o34.size
    exact ⟨(HT.out.br g hg).1, by have := (HT.out.br g hg).2.1; omega, fun hx => (HT.out.br g hg).2.2 (.inl hx)⟩
  · rintro g ⟨h1, h2⟩ h3
    have := (HT.out.br g h3).2.1
    omega
  · refine (below_alloc' HN0.out).trans ((HB2.out.mono HN.out.size).trans (o34.below (by have := HN.out.size; omega) (fun i h => h.elim (fun h => (HT.out.bd i h).1) (fun h => by have := HN.out.size; omega))))

theorem does_find (kind : Int) (k0 : ¬ kind = 0) (k1 : ¬ kind = 1) (k2 : ¬ kind = 2) (k3 : ¬ kind = 3) (k4 : ¬ kind = 4) (k5 : ¬ kind = 5) (k6 : ¬ kind = 6) (w0 : World) (X : Nat → Prop) (L : List Ent) (V : List (List UInt8)) (pr p : Nat) (ix sub : Int) (Ao : Option Addr) (gb m c co : Nat) (b : List UInt8) (w : World) (hT : TwoD w0.heap.size X L V pr w p) (hX : ∀ g, X g → g < w.heap.size) (hb0 : Below w0.heap.size w0 w) (hs : SortedE L) (hL : L.length ≤ 1000)
    (hm : m = b.length) (hmc : m ≤ c) (hmo : m ≤ co) (hml : m ≤ 35184372088832) (hb : Sl w (some ⟨gb, 0, none⟩) (b.map bv)) (hgb : X gb) (ho : Sl w0 Ao (b.map bv)) :
    Calls Try.prog 31 #[.pointer (some ⟨p, 0, none⟩), .pointer (some ⟨pr, 0, none⟩), .agg #[.int .i64 kind, .int .i64 ix, .int .i64 sub, .slice Ao m co], .slice (some ⟨gb, 0, none⟩) m c] w (DoesR w0.heap.size X L pr w) := by
  have hbw := below_alloc (Below.refl w.heap.size w) (.cells #[.int .i64 kind, .int .i64 ix, .int .i64 sub, .slice Ao m co] 25)
  have q := blk_one w 25 #[.int .i64 kind, .int .i64 ix, .int .i64 sub, .slice Ao m co]
  have hT1 : TwoD w0.heap.size (fun g => X g ∨ g = w.heap.size) L V pr (w.alloc (.cells #[.int .i64 kind, .int .i64 ix, .int .i64 sub, .slice Ao m co] 25)) p := (hT.exc (Y := fun g => X g ∨ g = w.heap.size) (fun g h1 h2 => h1.elim id (fun h => by omega))).below hbw
  have hb1 := hb.below hbw
  have hz1 := hbw.size
  have hzq := q.lt
  have HN : Hid (Below w0.heap.size w0 (w.alloc (.cells #[.int .i64 kind, .int .i64 ix, .int .i64 sub, .slice Ao m co] 25))) := hide (below_step hbw hb0)
  have HN0 := hide hb0
  have HX : Hid (∀ g, (X g ∨ g = w.heap.size) → g < (w.alloc (.cells #[.int .i64 kind, .int .i64 ix, .int .i64 sub, .slice Ao m co] 25)).heap.size) := hide (fun g h => h.elim (fun h => Nat.lt_of_lt_of_le (hX g h) hz1) (fun h => by rw [h]; exact hzq))
  have HS := hide hs
  have HM := hide (And.intro hm (And.intro hmc (And.intro hmo hml)))
  have HG := hide hgb
  have HB := hide hb1
  have HO := hide ho
  have HQ := hide q
  obtain ⟨Fd, Fr, gl, n, cl, Av, cv, ds, es, Al2, cl2, Av2, cv2, ds2, es2, T⟩ := hT1
  have HL := hide (show n ≤ 1000 by rw [T.hn]; exact hL)
  have HT := hide T
  clear hT hX hb0 hs hL hm hmc hmo hml hb hgb ho hb1 T hz1 hbw hzq
  have q_c0 := q.cell 0 rfl
  have q_f0 := q.frozen 0
  have q_c1 := q.cell 1 rfl
  have q_f1 := q.frozen 1
  have q_c2 := q.cell 2 rfl
  have q_f2 := q.frozen 2
  have q_c3 := q.cell 3 rfl
  have q_f3 := q.frozen 3
  go_enter Try.func31, Try.ntmps31
  go_wp2_with fail
  refine (dict_find ix sub _ HT.out.d HS.out HL.out).mono ?_
  rintro e w2 ⟨rfl, hb2⟩
  have HQ2 := hide (HQ.out.below hb2 HQ.out.lt)
  have q2 := HQ2.out
  clear q_c0 q_f0 q_c1 q_f1 q_c2 q_f2 q_c3 q_f3
  have q2_c0 := q2.cell 0 rfl
  have q2_f0 := q2.frozen 0
  have q2_c1 := q2.cell 1 rfl
  have q2_f1 := q2.frozen 1
  have q2_c2 := q2.cell 2 rfl
  have q2_f2 := q2.frozen 2
  have q2_c3 := q2.cell 3 rfl
  have q2_f3 := q2.frozen 3
  go_wp2_with fail
  refine (rdic_find ix sub _ (HT.out.r.below hb2) HL.out).mono ?_
  rintro e w3 ⟨rfl, rfl⟩
  have hfin : TwoD w0.heap.size (fun g => X g ∨ g = w.heap.size) L V pr w2 p := TwoD.below ⟨_, _, _, _, _, _, _, _, _, _, _, _, _, _, _, HT.out⟩ hb2
  have HF : Hid (DoesR w0.heap.size X L pr w (.returned (.tuple #[.pointer (some ⟨p, 0, none⟩), .bool true])) w2) := hide ⟨p, V, rfl, hfin.exc (fun g h _ => .inl h), (below_alloc' HN0.out).trans (hb2.mono HN.out.size), fun g hx hlt => keepX1 hlt (below_alloc (Below.refl w.heap.size w) _) hb2⟩
  by_cases hf : 0 ≤ findL L ix sub
  · obtain ⟨k, hk, hlk, hkl⟩ := find_nat hf
    have hh : hasL L ix sub = true := by simp [hasL, hf]
    rw [hh, hlk, hk]
    have hk0 : (0 : Int) ≤ (k : Int) := by omega
    have hk1 : ((k : Int) < 0) = False := by simp
    clear hf hk hlk hh hkl
    go_wp2_with fail
    go_ret2
    first | exact HF.out | (simp; exact HF.out) | go_show
  · have hh : hasL L ix sub = false := by simp [hasL, hf]
    have hk : locK L ix sub = 0 := by unfold locK; omega
    have hf' : findL L ix sub < 0 := by omega
    rw [hh, hk]
    generalize findL L ix sub = j at *
    clear hf hk hh
    go_wp2_with fail
    go_ret2
    have hd : (!decide (0 ≤ j)) = true := by simp; omega
    have hF : DoesR w0.heap.size X L pr w (.returned (.tuple #[.pointer (some ⟨p, 0, none⟩), .bool !decide (0 ≤ j)])) w2 := by rw [hd]; exact HF.out
    exact hF

theorem does_any (kind : Int) (w0 : World) (X : Nat → Prop) (L : List Ent) (V : List (List UInt8)) (pr p : Nat) (ix sub : Int) (Ao : Option Addr) (gb m c co : Nat) (b : List UInt8) (w : World) (hT : TwoD w0.heap.size X L V pr w p) (hX : ∀ g, X g → g < w.heap.size) (hb0 : Below w0.heap.size w0 w) (hs : SortedE L) (hL : L.length ≤ 1000)
    (hm : m = b.length) (hmc : m ≤ c) (hmo : m ≤ co) (hml : m ≤ 35184372088832) (hb : Sl w (some ⟨gb, 0, none⟩) (b.map bv)) (hgb : X gb) (ho : Sl w0 Ao (b.map bv)) :
    Calls Try.prog 31 #[.pointer (some ⟨p, 0, none⟩), .pointer (some ⟨pr, 0, none⟩), .agg #[.int .i64 kind, .int .i64 ix, .int .i64 sub, .slice Ao m co], .slice (some ⟨gb, 0, none⟩) m c] w (DoesR w0.heap.size X L pr w) := by
  by_cases k0 : kind = 0
  · subst k0; exact does_set w0 X L V pr p ix sub Ao gb m c co b w hT hX hb0 hs hL hm hmc hmo hml hb hgb ho
  by_cases k1 : kind = 1
  · subst k1; exact does_get w0 X L V pr p ix sub Ao gb m c co b w hT hX hb0 hs hL hm hmc hmo hml hb hgb ho
  by_cases k2 : kind = 2
  · subst k2; exact does_poke w0 X L V pr p ix sub Ao gb m c co b w hT hX hb0 hs hL hm hmc hmo hml hb hgb ho
  by_cases k3 : kind = 3
  · subst k3; exact does_peek w0 X L V pr p ix sub Ao gb m c co b w hT hX hb0 hs hL hm hmc hmo hml hb hgb ho
  by_cases k4 : kind = 4
  · subst k4; exact does_may w0 X L V pr p ix sub Ao gb m c co b w hT hX hb0 hs hL hm hmc hmo hml hb hgb ho
  by_cases k5 : kind = 5
  · subst k5; exact does_reset w0 X L V pr p ix sub Ao gb m c co b w hT hX hb0 hs hL hm hmc hmo hml hb hgb ho
  by_cases k6 : kind = 6
  · subst k6; exact does_copy w0 X L V pr p ix sub Ao gb m c co b w hT hX hb0 hs hL hm hmc hmo hml hb hgb ho
  exact does_find kind k0 k1 k2 k3 k4 k5 k6 w0 X L V pr p ix sub Ao gb m c co b w hT hX hb0 hs hL hm hmc hmo hml hb hgb ho
end Go.Proofs.Ytabgdfbiocoimaa
