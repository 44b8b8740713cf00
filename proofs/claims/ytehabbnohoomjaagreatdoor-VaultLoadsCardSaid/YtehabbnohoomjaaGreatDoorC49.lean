/- A case of law 19, as an argument. -/
import Derived.Test.YtehabbnohoomjaaGreatDoorC42
import Derived.Test.YtehabbnohoomjaaGreatDoorC48
import Derived.Test.YtehabbnohoomjaaGreatDoorC46
import Derived.Test.YtehabbnohoomjaaGreatDoorC40
import Derived.Test.YtehabbnohoomjaaGreatDoorC33
import Derived.Test.YtehabbnohoomjaaGreatDoorC28
import Derived.Test.YtehabbnohoomjaaGreatDoorC32
namespace Go.Proofs.YtehabbnohoomjaaGreatDoor
section
set_option linter.unusedVariables false
set_option linter.unusedSimpArgs false
set_option linter.unnecessarySimpa false
section
open Go.RowKit Go.ChangeShapes Go.WideShapes Go.Deep Go.Joins
set_option maxRecDepth 20000
theorem cells_sop : Tryz.prog.cellsOf 48 = 6 := by kernel_rfl
section
variable {H : Type} {enc : TypeId × Value → H} {w : World} {base : Nat} {spare : Nat → Bool} {held : Bool}
theorem open_sops {fuel : Nat} {v : Value} {x : DataW H × List MemPlace} (h : DataW.trod enc Tryz.prog w base spare held fuel 24 [v] = some x) :
    ∃ (A : Option Addr) (n c : Nat) (L : List SOp), v = .slice A n c ∧ n = L.length ∧ n ≤ c ∧ SlS w A L ∧ ∀ x ∈ L, x.w ≤ 4294967295 := by
  rcases open_slice Tryz.underlying24 h with ⟨hcs, _⟩ | ⟨a, len, cap, m, n, D, Pl, hcs, _, hl, hm, hmm, _, hi⟩
  · simp at hcs
    exact ⟨none, 0, 0, [], hcs, rfl, Nat.le_refl _, (by intro j v hv; simp at hv), by simp⟩
  · simp at hcs
    have hlm : len ≤ m := by rw [hmm]; split <;> omega
    obtain ⟨L, hL, hQ⟩ := list_of len (fun i (E : SOp) => ∃ Aj cj, (w.cell? (a.add (i * 6)) = some (.int .i64 E.kind) ∧ w.cell? ((a.add (i * 6)).add 1) = some (.int .i64 E.ix) ∧ w.cell? ((a.add (i * 6)).add 2) = some (.int .i64 E.sub) ∧ w.cell? ((a.add (i * 6)).add 3) = some (.int .i64 E.n) ∧ w.cell? ((a.add (i * 6)).add 4) = some (.int .u32 (E.w : Nat)) ∧ w.cell? ((a.add (i * 6)).add 5) = some (.slice Aj E.b.length cj)) ∧ E.b.length ≤ cj ∧ Sl w Aj (E.b.map bv) ∧ E.w ≤ 4294967295) (by
      intro i hilen
      obtain ⟨cs', hc, ht⟩ := hi i (by omega)
      rw [cells_sop] at hc
      obtain ⟨_, hcl, hat⟩ := World.cells?_some hc
      obtain ⟨ys, k, _, _, _, _, hf⟩ := DataW.trod_struct Tryz.underlying48 ht
      match cs', hcl with
      | [v0, v1, v2, v3, v4, v5], _ =>
        have f0 : DataW.trod enc Tryz.prog w base spare held k 3 ((([v0, v1, v2, v3, v4, v5] : List Value).drop 0).take (Tryz.prog.cellsOf 3)) = ys[0]? := hf 0 _ rfl
        have f1 : DataW.trod enc Tryz.prog w base spare held k 3 ((([v0, v1, v2, v3, v4, v5] : List Value).drop 1).take (Tryz.prog.cellsOf 3)) = ys[1]? := hf 1 _ rfl
        have f2 : DataW.trod enc Tryz.prog w base spare held k 3 ((([v0, v1, v2, v3, v4, v5] : List Value).drop 2).take (Tryz.prog.cellsOf 3)) = ys[2]? := hf 2 _ rfl
        have f3 : DataW.trod enc Tryz.prog w base spare held k 3 ((([v0, v1, v2, v3, v4, v5] : List Value).drop 3).take (Tryz.prog.cellsOf 3)) = ys[3]? := hf 3 _ rfl
        have f4 : DataW.trod enc Tryz.prog w base spare held k 45 ((([v0, v1, v2, v3, v4, v5] : List Value).drop 4).take (Tryz.prog.cellsOf 45)) = ys[4]? := hf 4 _ rfl
        have f5 : DataW.trod enc Tryz.prog w base spare held k 23 ((([v0, v1, v2, v3, v4, v5] : List Value).drop 5).take (Tryz.prog.cellsOf 23)) = ys[5]? := hf 5 _ rfl
        rw [show Tryz.prog.cellsOf 45 = 1 by kernel_rfl] at f4
        rw [show Tryz.prog.cellsOf 23 = 1 by kernel_rfl] at f5
        rw [show Tryz.prog.cellsOf 3 = 1 by kernel_rfl] at f0 f1 f2 f3
        simp only [List.drop_zero, List.take_succ_cons, List.take_zero, List.drop_succ_cons] at f0 f1 f2 f3 f4 f5
        have hy : ys.length = 6 := by assumption
        rw [List.getElem?_eq_getElem (show 0 < ys.length by omega)] at f0
        rw [List.getElem?_eq_getElem (show 1 < ys.length by omega)] at f1
        rw [List.getElem?_eq_getElem (show 2 < ys.length by omega)] at f2
        rw [List.getElem?_eq_getElem (show 3 < ys.length by omega)] at f3
        rw [List.getElem?_eq_getElem (show 4 < ys.length by omega)] at f4
        rw [List.getElem?_eq_getElem (show 5 < ys.length by omega)] at f5
        obtain ⟨x0, h0, _, _⟩ := DataW.trod_int Tryz.underlying3 f0
        obtain ⟨x1, h1, _, _⟩ := DataW.trod_int Tryz.underlying3 f1
        obtain ⟨x2, h2, _, _⟩ := DataW.trod_int Tryz.underlying3 f2
        obtain ⟨x3, h3, _, _⟩ := DataW.trod_int Tryz.underlying3 f3
        obtain ⟨x4, h4, _, g4⟩ := DataW.trod_int Tryz.underlying45 f4
        obtain ⟨m4, hm4, e4⟩ := u32_of_wf g4
        obtain ⟨Aj, cj, data, h5, hcj, hsj⟩ := open_bytes f5
        simp only [List.cons.injEq, and_true] at h0 h1 h2 h3 h4
        subst h0 h1 h2 h3 h4 h5 e4
        have a0 := hat 0 (by omega)
        have a1 := hat 1 (by omega)
        have a2 := hat 2 (by omega)
        have a3 := hat 3 (by omega)
        have a4 := hat 4 (by omega)
        have a5 := hat 5 (by omega)
        refine ⟨⟨x0, x1, x2, x3, m4, data⟩, Aj, cj, ⟨?_, a1, a2, a3, a4, a5⟩, hcj, hsj, by show m4 ≤ _; omega⟩
        simpa [Addr.add] using a0)
    refine ⟨some a, len, cap, L, hcs, hL.symm, hl, ?_, ?_⟩
    · intro j E hE
      obtain ⟨Aj, cj, ⟨q0, q1, q2, q3, q4, q5⟩, q6, q7, _⟩ := hQ j E hE
      rw [add_add] at q1 q2 q3 q4 q5
      obtain ⟨b, off, spot⟩ := a
      obtain ⟨v0, hv0⟩ : ∃ v0, L[0]? = some v0 := ⟨L[0]'(by have := (List.getElem?_eq_some_iff.1 hE).1; omega), List.getElem?_eq_getElem _⟩
      obtain ⟨_, _, ⟨g0, _⟩, _⟩ := hQ 0 v0 hv0
      have : spot = none := by
        have := World.cell?_spot g0
        simpa [Addr.add] using this
      subst this
      exact ⟨b, off, Aj, cj, rfl, ⟨by simpa [Addr.add_lit] using q0, by simpa [Addr.add_lit, Nat.add_assoc] using q1, by simpa [Addr.add_lit, Nat.add_assoc] using q2, by simpa [Addr.add_lit, Nat.add_assoc] using q3, by simpa [Addr.add_lit, Nat.add_assoc] using q4, by simpa [Addr.add_lit, Nat.add_assoc] using q5⟩, q6, q7⟩
    · intro E hE
      obtain ⟨j, hj⟩ := List.mem_iff_getElem?.1 hE
      obtain ⟨_, _, _, _, _, h2⟩ := hQ j E hj
      exact h2
end
end
section
set_option maxRecDepth 20000
section
open Go.ChangeShapes Go.WideShapes Go.ChangeAt Go.RowKit Go.Deep Go.Joins
variable {H : Type} {enc : TypeId × Value → H} {P : Program} {w : World} {base : Nat} {spare : Nat → Bool} {held : Bool}
theorem open_agg4 {r : Reach} {b0 : Nat} {t : TypeId} {f0 f1 f2 f3 : Field} {v : Value} {d : DataW H} {p : List MemPlace} (hs : P.underlying t = some (.struct #[f0, f1, f2, f3])) (hone : oneCellFields P #[f0, f1, f2, f3] = true) (hC : P.cellsOf t = 4)
    (hv : Value.okWide P w r b0 t v) (h : DataW.Trod enc P w base spare held t v d p) :
    ∃ (v0 v1 v2 v3 : Value) (y0 y1 y2 y3 : DataW H × List MemPlace) (n : Nat), v = .agg #[v0, v1, v2, v3] ∧ d = .agg [y0.1, y1.1, y2.1, y3.1] ∧ p = y0.2 ++ (y1.2 ++ (y2.2 ++ (y3.2))) ∧
      DataW.trod enc P w base spare held n f0.type [v0] = some y0 ∧ DataW.trod enc P w base spare held n f1.type [v1] = some y1 ∧ DataW.trod enc P w base spare held n f2.type [v2] = some y2 ∧ DataW.trod enc P w base spare held n f3.type [v3] = some y3 := by
  obtain ⟨cs, rfl, hsz⟩ := okWide_struct hs hv
  obtain ⟨l⟩ := cs
  match l, hsz.trans hC with
  | [c0, c1, c2, c3], _ =>
    obtain ⟨fuel, hf⟩ := h
    obtain ⟨xs, n, _, hx, _, hlen, hg⟩ := DataW.trod_struct hs hf
    obtain ⟨o0, k0⟩ := hone_of hone 0 f0 rfl
    obtain ⟨o1, k1⟩ := hone_of hone 1 f1 rfl
    obtain ⟨o2, k2⟩ := hone_of hone 2 f2 rfl
    obtain ⟨o3, k3⟩ := hone_of hone 3 f3 rfl
    match xs, hlen with
    | [y0, y1, y2, y3], _ =>
      simp only [Prod.mk.injEq] at hx
      exact ⟨c0, c1, c2, c3, y0, y1, y2, y3, n, rfl, by simpa using hx.1, by simpa using hx.2, by simpa [Value.cells, o0, k0] using hg 0 f0 rfl, by simpa [Value.cells, o1, k1] using hg 1 f1 rfl, by simpa [Value.cells, o2, k2] using hg 2 f2 rfl, by simpa [Value.cells, o3, k3] using hg 3 f3 rfl⟩
end
section
open Go.RowKit Go.ChangeShapes Go.WideShapes Go.Deep Go.Joins
variable {H : Type} {enc : TypeId × Value → H} {w : World} {base : Nat} {spare : Nat → Bool} {held : Bool}
theorem open_case9 {r : Reach} {b0 : Nat} {v : Value} {d : DataW H} {p : List MemPlace} (hv : Value.okWide Tryz.prog w r b0 26 v) (h : DataW.Trod enc Tryz.prog w base spare held 26 v d p) :
    ∃ (A : Option Addr) (n c : Nat) (L : List Ent) (Af : Option Addr) (cf : Nat) (f : List UInt8) (mo : Int) (As : Option Addr) (ns cs : Nat) (S : List SOp), v = .agg #[.slice A n c, .slice Af f.length cf, .int .i64 mo, .slice As ns cs] ∧ n = L.length ∧ n ≤ c ∧ SlE w A L ∧ f.length ≤ cf ∧ Sl w Af (f.map bv) ∧ ns = S.length ∧ ns ≤ cs ∧ SlS w As S ∧ ∀ x ∈ S, x.w ≤ 4294967295 := by
  obtain ⟨x0, x1, x2, x3, y0, y1, y2, y3, fu, rfl, _, _, g0, g1, g2, g3⟩ := open_agg4 Tryz.underlying26 (by kernel_rfl) (by kernel_rfl) hv h
  obtain ⟨A, n, c, L, rfl, h1, h2, h3⟩ := open_ents g0
  obtain ⟨Af, cf, f, e1, h4, h5⟩ := open_bytes g1
  obtain ⟨mo, e2, _, _⟩ := DataW.trod_int Tryz.underlying3 g2
  obtain ⟨As, ns, cs, S, rfl, h6, h7, h8, h9⟩ := open_sops g3
  simp only [List.cons.injEq, and_true] at e1 e2
  subst e1 e2
  exact ⟨A, n, c, L, Af, cf, f, mo, As, ns, cs, S, rfl, h1, h2, h3, h4, h5, h6, h7, h8, h9⟩
end
end
end
end Go.Proofs.YtehabbnohoomjaaGreatDoor
namespace Go.Proofs.YtehabbnohoomjaaGreatDoor
section
set_option linter.unusedVariables false
set_option linter.unusedSimpArgs false
set_option linter.unnecessarySimpa false
open Go.RowKit
set_option maxRecDepth 20000
set_option maxHeartbeats 2000000

theorem same_any (A A2 : Option Addr) (n n2 c c2 : Nat) (L L2 : List SV) (w : World) (hn : n = L.length) (hn2 : n2 = L2.length) (hc : n ≤ c) (hc2 : n2 ≤ c2) (hb : n ≤ 35184372088) (hL : SlV w A L) (hL2 : SlV w A2 L2) :
    Calls Tryz.prog 30 #[.slice A n c, .slice A2 n2 c2] w fun e w' => ∃ b, e = .returned (.bool b) ∧ (L = L2 → b = true) ∧ Below w.heap.size w w' := by
  by_cases hLL : L = L2
  · subst hLL
    refine (vals_same A A2 n n2 c c2 L w hn hn2 hc hc2 hb hL hL2).mono ?_
    rintro e w' ⟨rfl, h⟩
    exact ⟨true, rfl, fun _ => rfl, h⟩
  have HLL := hide hLL
  have HN := hide hn
  have HN2 := hide hn2
  have HL := hide hL
  have HL2 := hide hL2
  clear hLL hn hn2 hL hL2
  by_cases hnn : n = n2
  · subst hnn
    go_enter Tryz.func30, Tryz.ntmps30
    go_wp2_with fail
    go_loopw [5] (fun i wr => ∃ k, k ≤ n ∧ i = .int .i64 (k : Nat) ∧ Below w.heap.size w wr) (fun i _ => n - (intOf i).toNat)
    case atStart => exact ⟨0, by omega, rfl, Below.refl _ _⟩
    case round =>
      obtain ⟨k, hk, rfl, hbr⟩ := hrel
      have HBR := hide hbr
      by_cases hlt : k < n
      · obtain ⟨v, hv⟩ : ∃ v, L[k]? = some v := ⟨L[k]'(by have := HN.out; omega), List.getElem?_eq_getElem _⟩
        obtain ⟨u, hu⟩ : ∃ u, L2[k]? = some u := ⟨L2[k]'(by have := HN2.out; omega), List.getElem?_eq_getElem _⟩
        obtain ⟨b, off, Aj, cj, rfl, h0, h1, h2, h4, h5⟩ := (HL.out.below hbr) k v hv
        obtain ⟨b', off', Aj', cj', rfl, g0, g1, g2, g4, g5⟩ := (HL2.out.below hbr) k u hu
        clear hv hu hbr
        obtain ⟨vx, vs, vd⟩ := v
        obtain ⟨ux, us, ud⟩ := u
        dsimp only at h0 h1 h2 h4 h5 g0 g1 g2 g4 g5
        have k1 := fun nq => str_b (w := wr.drewN nq) cj rfl (l := vd) (show Sl (wr.drewN nq) Aj (vd.map bv) from h5)
        have k2 := fun nq => str_b (w := wr.drewN nq) cj' rfl (l := ud) (show Sl (wr.drewN nq) Aj' (ud.map bv) from g5)
        obtain ⟨i1, i2, i3⟩ := idx_at hlt
        have HF : Hid (∀ W, Below w.heap.size w W → ∃ bb, Ending.returned (.bool false) = .returned (.bool bb) ∧ (L = L2 → bb = true) ∧ Below w.heap.size w W) := hide (fun W h => ⟨false, rfl, fun h => absurd h HLL.out, h⟩)
        clear h4 h5 g4 g5
        by_cases e1 : vx = ux
        · subst e1
          have t1 : (vx != vx) = false := by simp
          by_cases e2 : vs = us
          · subst e2
            have t2 : (vs != vs) = false := by simp
            by_cases e3 : vd = ud
            · subst e3
              go_wp2_with fail
              go_quiet (fail)
              go_wp2_with fail
              go_roundw
              case rel => exact ⟨k + 1, by omega, by go_num, below_drewN HBR.out _⟩
              case measure => simp [intOf]; omega
            · have t3 : (vd == ud) = false := by simp [e3]
              go_wp2_with fail
              go_quiet (fail)
              go_wp2_with fail
              go_ret
              exact HF.out _ (below_drewN HBR.out _)
          · have t2 : (vs != us) = true := by simp [e2]
            go_wp2_with fail
            go_quiet (fail)
            go_wp2_with fail
            go_ret
            exact HF.out _ (below_drewN HBR.out _)
        · have t1 : (vx != ux) = true := by simp [e1]
          go_wp2_with fail
          go_quiet (fail)
          go_wp2_with fail
          go_ret
          exact HF.out _ (below_drewN HBR.out _)
      · have HF : Hid (∃ bb, Ending.returned (.bool true) = .returned (.bool bb) ∧ (L = L2 → bb = true) ∧ Below w.heap.size w wr) := hide ⟨true, rfl, fun _ => rfl, HBR.out⟩
        go_wp2_with fail
        go_ret
        exact HF.out
  · have HF : Hid (∃ bb, Ending.returned (.bool false) = .returned (.bool bb) ∧ (L = L2 → bb = true) ∧ Below w.heap.size w w) := hide ⟨false, rfl, fun h => absurd h HLL.out, Below.refl _ _⟩
    go_enter Tryz.func30, Tryz.ntmps30
    go_wp2_with fail
    go_ret
    exact HF.out
end
end Go.Proofs.YtehabbnohoomjaaGreatDoor
namespace Go.Proofs.YtehabbnohoomjaaGreatDoor
section
set_option linter.unusedVariables false
set_option linter.unusedSimpArgs false
set_option linter.unnecessarySimpa false
open Go.RowKit
set_option maxRecDepth 20000
set_option maxHeartbeats 4000000

theorem rsnap_in (ix g : Int) (w : World) (hi : I64 ix) : Calls Tryz.prog 59 #[.int .i64 ix, .int .i64 g] w fun e w' => e = .returned (.bool (inE ix g)) ∧ Below w.heap.size w w' := by
  have HG := hide (fun W => rent_group ⟨ix, 0, ⟨#[]⟩, 0, 0, false, false, 0, 0, 0, []⟩ none 0 0 W hi)
  unfold entV at HG
  dsimp only at HG
  by_cases h1 : g = 1
  · subst h1
    go_enter Tryz.func59, Tryz.ntmps59
    go_wp2_with fail
    go_ret
    exact ⟨ret_bool (by simp [inE]), Below.refl _ _⟩
  · have h1' : (g == 1) = false := by simpa using h1
    by_cases h2 : 2 ≤ g ∧ g ≤ 4
    · obtain ⟨h2, h3⟩ := h2
      have HF := hide (show (groupE ix == g) = inE ix g by rw [Bool.eq_iff_iff]; simp [inE]; omega)
      clear h1
      go_enter Tryz.func59, Tryz.ntmps59
      go_wp2_with fail
      refine (HG.out _).mono ?_
      rintro e w1 ⟨rfl, hb1⟩
      go_wp2_with fail
      go_ret
      exact ⟨ret_bool HF.out, hb1⟩
    · have HF := hide (show false = inE ix g by simp [inE]; omega)
      have h4 : g < 2 ∨ 4 < g := by omega
      clear h1 h2
      rcases h4 with h4 | h4
      · go_enter Tryz.func59, Tryz.ntmps59
        go_wp2_with fail
        go_ret
        exact ⟨ret_bool HF.out, Below.refl _ _⟩
      · have h5 : 2 ≤ g := by omega
        go_enter Tryz.func59, Tryz.ntmps59
        go_wp2_with fail
        go_ret
        exact ⟨ret_bool HF.out, Below.refl _ _⟩
theorem ret_val {fn : Func} {p : Tmp} (h : fn.results = #[.cell p 52]) {x : Act} {w : World} {g : Nat} {v1 v2 v3 : Value} {R : Ending → World → Prop} (hd : x.defers = []) (hp : x.tmps.getD p undef = .pointer (some ⟨g, 0, none⟩))
    (hB : Blk w g 52 #[v1, v2, v3]) (hR : R (.returned (.agg #[v1, v2, v3])) w) : bodyPost Tryz.prog fn R .ret x w := by
  exact bodyPost_ret (results_cell_row (P := Tryz.prog) h x.tmps w g _ #[v1, v2, v3] (0, 0) _ hp hB Tryz.underlying52 rfl sizeV3) hd hR
theorem rsnap_lent (v : SV) (A : Option Addr) (c : Nat) (w : World) (hl : v.data.length ≤ 35184372088832) (hs : Sl w A (v.data.map bv)) :
    Calls Tryz.prog 60 #[.agg #[.int .i64 v.ix, .int .i64 v.sub, .slice A v.data.length c]] w fun e w' => ∃ A' c', e = .returned (.agg #[.int .i64 v.ix, .int .i64 v.sub, .slice A' v.data.length c']) ∧ OwnB w' (w.heap.size + 2) A' v.data.length c' v.data ∧ Below w.heap.size w w' := by
  obtain ⟨n, hn⟩ : ∃ n, n = v.data.length := ⟨_, rfl⟩
  have hb := below_alloc (below_alloc (Below.refl w.heap.size w) (.cells #[.int .i64 v.ix, .int .i64 v.sub, .slice A n c] 52)) (.cells #[.int .i64 0, .int .i64 0, .slice none 0 0] 52)
  have kk := blk_two w 52 52 #[.int .i64 v.ix, .int .i64 v.sub, .slice A n c] #[.int .i64 0, .int .i64 0, .slice none 0 0]
  have HJ := hide (join_nil A n c v.data _ hn (by omega) (hs.below hb))
  rw [← hn]
  obtain ⟨R, hR⟩ : ∃ R, R = w.heap.size + 1 := ⟨_, rfl⟩
  rw [← hR] at kk
  have HR := hide hR
  have HKK := hide (And.intro kk hb)
  have HNN := hide hn
  have hRw : w.heap.size < R := by omega
  have q0 := kk.1.cell 2 (u := .slice A n c) rfl
  clear hn hs hl kk hb hR
  go_enter Tryz.func60, Tryz.ntmps60
  go_wp2_with fail
  rw [← HR.out]
  refine HJ.out.mono ?_
  rintro e w1 ⟨A', c', rfl, hO, hb1⟩
  have k0 := HKK.out.1.1.below hb1 HKK.out.1.1.lt
  have k1 := HKK.out.1.2.below hb1 HKK.out.1.2.lt
  have x0 := k0.cell 0 (u := .int .i64 v.ix) rfl
  have x1 := k0.cell 1 (u := .int .i64 v.sub) rfl
  have x2 := k0.cell 2 (u := .slice A n c) rfl
  have f0 := k0.frozen
  have y0 := k1.cell 0 (u := .int .i64 0) rfl
  have y1 := k1.cell 1 (u := .int .i64 0) rfl
  have y2 := k1.cell 2 (u := .slice none 0 0) rfl
  have f1 := k1.frozen
  have HO := hide (And.intro hO (below_step hb1 HKK.out.2))
  have HK1 := hide k1
  clear hO hb1 k0 k1 q0
  go_wp2_with fail
  have hsz : ((w.alloc (.cells #[.int .i64 v.ix, .int .i64 v.sub, .slice A n c] 52)).alloc (.cells #[.int .i64 0, .int .i64 0, .slice none 0 0] 52)).heap.size = w.heap.size + 2 := by show ((w.heap.push _).push _).size = _; simp
  have hRR := HR.out
  refine ret_val rfl rfl (by rfl) (v1 := .int .i64 v.ix) (v2 := .int .i64 v.sub) (v3 := .slice A' n c') ?_ ?_
  · exact (((HK1.out.far (p := ⟨w.heap.size, 2, none⟩) (by show R ≠ w.heap.size; omega) _).set_ 0 _).set_ 1 _).set_ 2 _
  · refine ⟨_, _, rfl, ?_, ?_⟩
    · have h1 := HO.out.1
      rw [hsz] at h1
      exact (((h1.set_ (by show w.heap.size < _; omega) _).set_ (by show R < _; omega) _).set_ (by show R < _; omega) _).set_ (by show R < _; omega) _
    · exact below_set (below_set (below_set (below_set HO.out.2 (p := ⟨w.heap.size, 2, none⟩) (Nat.le_refl _) _) (p := ⟨R, 0, none⟩) (by show w.heap.size ≤ R; omega) _) (p := ⟨R, 1, none⟩) (by show w.heap.size ≤ R; omega) _) (p := ⟨R, 2, none⟩) (by show w.heap.size ≤ R; omega) _
abbrev DropR (X : List SV) (g : Int) (w : World) (e : Ending) (w' : World) : Prop := ∃ A' n' c' ds, e = .returned (.slice A' n' c') ∧ OwnV w' w.heap.size A' n' c' (dropL X g) ds ∧ Below w.heap.size w w'
theorem rsnap_drop (A : Option Addr) (n c : Nat) (L : List SV) (g : Int) (w : World) (hn : n = L.length) (hl : n ≤ 35184372) (hL : SlV w A L) (hf : fitsV L) (hi : ∀ v ∈ L, I64 v.ix) :
    Calls Tryz.prog 23 #[.slice A n c, .int .i64 g] w (DropR L g w) := by
  have HN := hide hn
  have HL := hide hL
  have HF := hide hf
  have HI := hide hi
  clear hn hL hf hi
  go_enter Tryz.func23, Tryz.ntmps23
  go_wp2_with fail
  go_loopw [5, 6] (fun v5 i wr => ∃ k ds A' m c', k ≤ n ∧ i = .int .i64 (k : Nat) ∧ v5 = .slice A' m c' ∧ Hid (OwnV wr w.heap.size A' m c' (dropL (L.take k) g) ds) ∧ m ≤ k ∧ Hid (Below w.heap.size w wr)) (fun _ i _ => n - (intOf i).toNat)
  case atStart => exact ⟨0, [], _, _, _, by omega, rfl, rfl, hide (OwnV.nil _ _), by omega, hide (Below.refl _ _)⟩
  case round =>
    obtain ⟨k, ds, A', m, c', hk, rfl, rfl, HO, hmk, HB⟩ := hrel
    by_cases hlt : k < n
    · obtain ⟨v, hv⟩ : ∃ v, L[k]? = some v := ⟨L[k]'(by have := HN.out; omega), List.getElem?_eq_getElem _⟩
      obtain ⟨b, off, Aj, cj, rfl, e0, e1, e2, e4, e5⟩ := (HL.out.below HB.out) k v hv
      have hfd := HF.out _ (List.mem_of_getElem? hv)
      have HIN := hide (fun W => rsnap_in v.ix g W (HI.out _ (List.mem_of_getElem? hv)))
      have HTK := hide (show dropL (L.take (k + 1)) g = dropL (L.take k) g ++ (if inE v.ix g then [] else [v]) by
        rw [← inB_inE]
        obtain ⟨hkl, rfl⟩ := List.getElem?_eq_some_iff.1 hv
        rw [List.take_succ_eq_append_getElem hkl, dropL, List.filter_append]
        cases hi : inB L[k].ix g <;> simp [dropL, hi])
      have H5 := hide e5
      have HFD := hide hfd
      obtain ⟨vl, hvl⟩ : ∃ vl, vl = v.data.length := ⟨_, rfl⟩
      rw [← hvl] at e2 HFD
      have HVL := hide hvl
      obtain ⟨bi, hbi⟩ : ∃ bi, bi = inE v.ix g := ⟨_, rfl⟩
      rw [← hbi] at HIN HTK
      clear hv hfd hvl e4 e5 hbi
      cases bi
      · go_wp2_with fail
        refine (HIN.out _).mono ?_
        rintro e w1 ⟨rfl, hb1⟩
        have c0 := (hb1.cell (lt_of_cell e0)).trans e0
        have c1 := (hb1.cell (lt_of_cell e1)).trans e1
        have c2 := (hb1.cell (lt_of_cell e2)).trans e2
        have HB1 := hide hb1
        clear e0 e1 e2 hb1
        go_wp2_with fail
        have HLT := rsnap_lent v Aj cj w1 (by have := HFD.out; have := HVL.out; omega) (H5.out.below HB1.out)
        rw [← HVL.out] at HLT
        refine HLT.mono ?_
        clear HLT
        rintro e w2 ⟨A3, c3, rfl, hO3, hb2⟩
        have HB2 := hide (below_step hb2 HB1.out)
        have HPW := hide (new_ne HO.out.hd HO.out.data (show wr.heap.size ≤ w1.heap.size + 2 by have := HB1.out.size; omega) hO3)
        have HO3 := hide hO3
        have H12 := hide hb2.size
        clear c0 c1 c2 hO3 hb2
        have HOA := hide ((HO.out.below HB2.out).below (below_alloc (Below.refl w2.heap.size w2) (.cells #[.int .i64 v.ix, .int .i64 v.sub, .slice A3 v.data.length c3] 52)))
        have HDA : Hid (OwnB (w2.alloc (.cells #[.int .i64 v.ix, .int .i64 v.sub, .slice A3 v.data.length c3] 52)) w.heap.size A3 v.data.length c3 v.data) := hide ((by
          have := HO3.out
          rw [HVL.out] at this
          exact this.mono (by have := HB1.out.size; have := HB.out.size; omega) : OwnB w2 w.heap.size A3 v.data.length c3 v.data).below (below_alloc (Below.refl w2.heap.size w2) _))
        have HBZ := hide (Nat.le_trans HB.out.size (Nat.le_trans HB2.out.size (below_alloc (Below.refl w2.heap.size w2) (.cells #[.int .i64 v.ix, .int .i64 v.sub, .slice A3 v.data.length c3] 52)).size))
        rw [← HVL.out] at HOA HBZ
        go_wp2_with (at_builtin; refine app_v _ rfl _ _ rfl w.heap.size _ _ _ _ _ rfl HOA.out v (A3, c3) _ rfl (by rw [← HVL.out]; exact (Blk.new _ _ _).sl) (by have := HDA.out; rw [← HVL.out] at this ⊢; exact this) HPW.out (by omega) HBZ.out (m + 1) rfl ?_; intro A4 c4 w4 hO4 hb4)
        go_roundw
        case rel => exact ⟨k + 1, _, _, _, _, by omega, by go_num, rfl, hide (by rw [HTK.out]; simpa using hO4), by omega, hide ((below_alloc (below_step HB2.out HB.out) _).trans hb4)⟩
        case measure => simp [intOf]; omega
      · go_wp2_with fail
        refine (HIN.out _).mono ?_
        rintro e w1 ⟨rfl, hb1⟩
        go_wp2_with fail
        go_roundw
        case rel => exact ⟨k + 1, ds, A', m, c', by omega, by go_num, rfl, hide (by rw [HTK.out]; simpa using HO.out.below hb1), by omega, hide (below_step hb1 HB.out)⟩
        case measure => simp [intOf]; omega
    · have hkn : k = n := by omega
      subst hkn
      go_wp2_with fail
      go_ret
      refine ⟨_, _, _, ds, rfl, ?_, HB.out⟩
      have e1 : L.take k = L := List.take_of_length_le (by have := HN.out; omega)
      have := HO.out
      rw [e1] at this
      exact this
end
end Go.Proofs.YtehabbnohoomjaaGreatDoor
namespace Go.Proofs.YtehabbnohoomjaaGreatDoor
section
set_option linter.unusedVariables false
set_option linter.unusedSimpArgs false
set_option linter.unnecessarySimpa false
open Go.RowKit
set_option maxRecDepth 20000
set_option maxHeartbeats 4000000

def FarP (L : List SV) (i k : Nat) : Prop := ∀ u v, L[i]? = some u → L[k]? = some v → ¬ placeE v u
end
end Go.Proofs.YtehabbnohoomjaaGreatDoor
