/- Acts of the segments' law, as a slice reads. -/
import Derived.Test.YtimdmhhgomfijaaGreatSegL
import Derived.Test.YtimdmhhgomfijaaGreatBase
import Derived.Test.YtimdmhhgomfijaaGreatOpenB
import Derived.Test.YtimdmhhgomfijaaGreatOpenL
namespace Go.Proofs.YtimdmhhgomfijaaGreat
set_option linter.unusedVariables false
set_option linter.unusedSimpArgs false
set_option linter.unnecessarySimpa false
section
open Go.RowKit
/-- an act: its kind, a message, a code -/
structure OpG where
  kind : Int
  M : Ms
  code : Nat
def SlG (w : World) (A : Option Addr) (L : List OpG) : Prop := ∀ j o, L[j]? = some o → ∃ b off Aj cj, A = some ⟨b, off, none⟩ ∧ (w.cell? ⟨b, off + j * 16, none⟩ = some (.int .i64 o.kind) ∧ w.cell? ⟨b, off + j * 16 + 1, none⟩ = some (.int .i64 o.M.kind) ∧ w.cell? ⟨b, off + j * 16 + 2, none⟩ = some (.int .i64 o.M.ix) ∧ w.cell? ⟨b, off + j * 16 + 3, none⟩ = some (.int .i64 o.M.sub) ∧ w.cell? ⟨b, off + j * 16 + 4, none⟩ = some (.bool o.M.tg) ∧ w.cell? ⟨b, off + j * 16 + 5, none⟩ = some (.bool o.M.la) ∧ w.cell? ⟨b, off + j * 16 + 6, none⟩ = some (.bool o.M.cr) ∧ w.cell? ⟨b, off + j * 16 + 7, none⟩ = some (.bool o.M.sz) ∧ w.cell? ⟨b, off + j * 16 + 8, none⟩ = some (.int .u32 (o.M.size : Nat)) ∧ w.cell? ⟨b, off + j * 16 + 9, none⟩ = some (.int .u32 (o.M.code : Nat)) ∧ w.cell? ⟨b, off + j * 16 + 10, none⟩ = some (.slice Aj o.M.data.length cj) ∧ w.cell? ⟨b, off + j * 16 + 11, none⟩ = some (.int .i64 o.M.sq) ∧ w.cell? ⟨b, off + j * 16 + 12, none⟩ = some (.int .i64 o.M.bl) ∧ w.cell? ⟨b, off + j * 16 + 13, none⟩ = some (.int .i64 o.M.em) ∧ w.cell? ⟨b, off + j * 16 + 14, none⟩ = some (.int .u16 (o.M.sum : Nat)) ∧ w.cell? ⟨b, off + j * 16 + 15, none⟩ = some (.int .u32 (o.code : Nat))) ∧ o.M.data.length ≤ cj ∧ Sl w Aj (o.M.data.map bv) ∧ o.M.size ≤ 4294967295
theorem SlG.below {w w' : World} {A : Option Addr} {L : List OpG} (h : SlG w A L) (hb : Below w.heap.size w w') : SlG w' A L := by
  intro j o ho
  obtain ⟨b, off, Aj, cj, hA, hc, h1, h2, h3⟩ := h j o ho
  obtain ⟨c0, c1, c2, c3, c4, c5, c6, c7, c8, c9, c10, c11, c12, c13, c14, c15⟩ := hc
  exact ⟨b, off, Aj, cj, hA, ⟨(hb.cell (lt_of_cell c0)).trans c0, (hb.cell (lt_of_cell c1)).trans c1, (hb.cell (lt_of_cell c2)).trans c2, (hb.cell (lt_of_cell c3)).trans c3, (hb.cell (lt_of_cell c4)).trans c4, (hb.cell (lt_of_cell c5)).trans c5, (hb.cell (lt_of_cell c6)).trans c6, (hb.cell (lt_of_cell c7)).trans c7, (hb.cell (lt_of_cell c8)).trans c8, (hb.cell (lt_of_cell c9)).trans c9, (hb.cell (lt_of_cell c10)).trans c10, (hb.cell (lt_of_cell c11)).trans c11, (hb.cell (lt_of_cell c12)).trans c12, (hb.cell (lt_of_cell c13)).trans c13, (hb.cell (lt_of_cell c14)).trans c14, (hb.cell (lt_of_cell c15)).trans c15⟩, h1, h2.below hb, h3⟩
end
section
open Go.RowKit Go.ChangeShapes Go.WideShapes Go.Deep Go.Joins
set_option maxRecDepth 20000
theorem u32_leG {n : Int} (h : (Lit.int .u32 n).wf = true) : ∃ m : Nat, n = (m : Nat) ∧ m ≤ 4294967295 := by
  have hb : 0 ≤ n ∧ n ≤ 4294967295 := by simpa [Lit.wf, IntKind.min, IntKind.max, IntKind.signed, IntKind.bits] using h
  exact ⟨n.toNat, by omega, by omega⟩
theorem u16_leG {n : Int} (h : (Lit.int .u16 n).wf = true) : ∃ m : Nat, n = (m : Nat) ∧ m ≤ 65535 := by
  have hb : 0 ≤ n ∧ n ≤ 65535 := by simpa [Lit.wf, IntKind.min, IntKind.max, IntKind.signed, IntKind.bits] using h
  exact ⟨n.toNat, by omega, by omega⟩
theorem cells_opg : Tryz.prog.cellsOf 50 = 16 := by kernel_rfl
theorem cells_msg : Tryz.prog.cellsOf 48 = 14 := by kernel_rfl
section
variable {H : Type} {enc : TypeId × Value → H} {w : World} {base : Nat} {spare : Nat → Bool} {held : Bool}
theorem open_opg {fuel : Nat} {v : Value} {x : DataW H × List MemPlace} (h : DataW.trod enc Tryz.prog w base spare held fuel 23 [v] = some x) :
    ∃ (A : Option Addr) (n c : Nat) (L : List OpG), v = .slice A n c ∧ n = L.length ∧ n ≤ c ∧ SlG w A L := by
  rcases open_slice Tryz.underlying23 h with ⟨hcs, _⟩ | ⟨a, len, cap, m, n, D, Pl, hcs, _, hl, hm, hmm, _, hi⟩
  · simp at hcs
    exact ⟨none, 0, 0, [], hcs, rfl, Nat.le_refl _, by intro j v hv; simp at hv⟩
  · simp at hcs
    have hlm : len ≤ m := by rw [hmm]; split <;> omega
    obtain ⟨L, hL, hQ⟩ := list_of len (fun i (o : OpG) => ∃ Aj cj, w.cell? (a.add (i * 16)) = some (.int .i64 o.kind) ∧ w.cell? ((a.add (i * 16)).add 1) = some (.int .i64 o.M.kind) ∧ w.cell? ((a.add (i * 16)).add 2) = some (.int .i64 o.M.ix) ∧ w.cell? ((a.add (i * 16)).add 3) = some (.int .i64 o.M.sub) ∧ w.cell? ((a.add (i * 16)).add 4) = some (.bool o.M.tg) ∧ w.cell? ((a.add (i * 16)).add 5) = some (.bool o.M.la) ∧ w.cell? ((a.add (i * 16)).add 6) = some (.bool o.M.cr) ∧ w.cell? ((a.add (i * 16)).add 7) = some (.bool o.M.sz) ∧ w.cell? ((a.add (i * 16)).add 8) = some (.int .u32 (o.M.size : Nat)) ∧ w.cell? ((a.add (i * 16)).add 9) = some (.int .u32 (o.M.code : Nat)) ∧ w.cell? ((a.add (i * 16)).add 10) = some (.slice Aj o.M.data.length cj) ∧ w.cell? ((a.add (i * 16)).add 11) = some (.int .i64 o.M.sq) ∧ w.cell? ((a.add (i * 16)).add 12) = some (.int .i64 o.M.bl) ∧ w.cell? ((a.add (i * 16)).add 13) = some (.int .i64 o.M.em) ∧ w.cell? ((a.add (i * 16)).add 14) = some (.int .u16 (o.M.sum : Nat)) ∧ w.cell? ((a.add (i * 16)).add 15) = some (.int .u32 (o.code : Nat)) ∧ o.M.data.length ≤ cj ∧ Sl w Aj (o.M.data.map bv) ∧ o.M.size ≤ 4294967295) (by
      intro i hilen
      obtain ⟨cs', hc, ht⟩ := hi i (by omega)
      rw [cells_opg] at hc
      obtain ⟨_, hcl, hat⟩ := World.cells?_some hc
      obtain ⟨ys, k, _, _, _, _, hf⟩ := DataW.trod_struct Tryz.underlying50 ht
      match cs', hcl with
      | [v0, v1, v2, v3, v4, v5, v6, v7, v8, v9, v10, v11, v12, v13, v14, v15], _ =>
        have f0 : DataW.trod enc Tryz.prog w base spare held k 3 ((([v0, v1, v2, v3, v4, v5, v6, v7, v8, v9, v10, v11, v12, v13, v14, v15] : List Value).drop 0).take (Tryz.prog.cellsOf 3)) = ys[0]? := hf 0 _ rfl
        have f1 : DataW.trod enc Tryz.prog w base spare held k 48 ((([v0, v1, v2, v3, v4, v5, v6, v7, v8, v9, v10, v11, v12, v13, v14, v15] : List Value).drop 1).take (Tryz.prog.cellsOf 48)) = ys[1]? := hf 1 _ rfl
        have f2 : DataW.trod enc Tryz.prog w base spare held k 45 ((([v0, v1, v2, v3, v4, v5, v6, v7, v8, v9, v10, v11, v12, v13, v14, v15] : List Value).drop 15).take (Tryz.prog.cellsOf 45)) = ys[2]? := hf 2 _ rfl
        have ci : Tryz.prog.cellsOf 3 = 1 := by kernel_rfl
        have cb : Tryz.prog.cellsOf 4 = 1 := by kernel_rfl
        have cw : Tryz.prog.cellsOf 45 = 1 := by kernel_rfl
        have ch : Tryz.prog.cellsOf 46 = 1 := by kernel_rfl
        have cu : Tryz.prog.cellsOf 39 = 1 := by kernel_rfl
        rw [ci] at f0
        rw [cells_msg] at f1
        rw [cw] at f2
        simp only [List.drop_zero, List.take_succ_cons, List.take_zero, List.drop_succ_cons] at f0 f1 f2
        have hy : ys.length = 3 := by assumption
        rw [List.getElem?_eq_getElem (show 0 < ys.length by omega)] at f0
        rw [List.getElem?_eq_getElem (show 1 < ys.length by omega)] at f1
        rw [List.getElem?_eq_getElem (show 2 < ys.length by omega)] at f2
        obtain ⟨x0, h0, _, _⟩ := DataW.trod_int Tryz.underlying3 f0
        obtain ⟨y15, h15, _, hw15⟩ := DataW.trod_int Tryz.underlying45 f2
        obtain ⟨x15, rfl, hu15⟩ := u32_leG hw15
        obtain ⟨zs, k2, _, _, _, hlz, hg⟩ := DataW.trod_struct Tryz.underlying48 f1
        have g0 : DataW.trod enc Tryz.prog w base spare held k2 3 ((([v1, v2, v3, v4, v5, v6, v7, v8, v9, v10, v11, v12, v13, v14] : List Value).drop 0).take (Tryz.prog.cellsOf 3)) = zs[0]? := hg 0 _ rfl
        have g1 : DataW.trod enc Tryz.prog w base spare held k2 3 ((([v1, v2, v3, v4, v5, v6, v7, v8, v9, v10, v11, v12, v13, v14] : List Value).drop 1).take (Tryz.prog.cellsOf 3)) = zs[1]? := hg 1 _ rfl
        have g2 : DataW.trod enc Tryz.prog w base spare held k2 3 ((([v1, v2, v3, v4, v5, v6, v7, v8, v9, v10, v11, v12, v13, v14] : List Value).drop 2).take (Tryz.prog.cellsOf 3)) = zs[2]? := hg 2 _ rfl
        have g3 : DataW.trod enc Tryz.prog w base spare held k2 4 ((([v1, v2, v3, v4, v5, v6, v7, v8, v9, v10, v11, v12, v13, v14] : List Value).drop 3).take (Tryz.prog.cellsOf 4)) = zs[3]? := hg 3 _ rfl
        have g4 : DataW.trod enc Tryz.prog w base spare held k2 4 ((([v1, v2, v3, v4, v5, v6, v7, v8, v9, v10, v11, v12, v13, v14] : List Value).drop 4).take (Tryz.prog.cellsOf 4)) = zs[4]? := hg 4 _ rfl
        have g5 : DataW.trod enc Tryz.prog w base spare held k2 4 ((([v1, v2, v3, v4, v5, v6, v7, v8, v9, v10, v11, v12, v13, v14] : List Value).drop 5).take (Tryz.prog.cellsOf 4)) = zs[5]? := hg 5 _ rfl
        have g6 : DataW.trod enc Tryz.prog w base spare held k2 4 ((([v1, v2, v3, v4, v5, v6, v7, v8, v9, v10, v11, v12, v13, v14] : List Value).drop 6).take (Tryz.prog.cellsOf 4)) = zs[6]? := hg 6 _ rfl
        have g7 : DataW.trod enc Tryz.prog w base spare held k2 45 ((([v1, v2, v3, v4, v5, v6, v7, v8, v9, v10, v11, v12, v13, v14] : List Value).drop 7).take (Tryz.prog.cellsOf 45)) = zs[7]? := hg 7 _ rfl
        have g8 : DataW.trod enc Tryz.prog w base spare held k2 45 ((([v1, v2, v3, v4, v5, v6, v7, v8, v9, v10, v11, v12, v13, v14] : List Value).drop 8).take (Tryz.prog.cellsOf 45)) = zs[8]? := hg 8 _ rfl
        have g9 : DataW.trod enc Tryz.prog w base spare held k2 39 ((([v1, v2, v3, v4, v5, v6, v7, v8, v9, v10, v11, v12, v13, v14] : List Value).drop 9).take (Tryz.prog.cellsOf 39)) = zs[9]? := hg 9 _ rfl
        have g10 : DataW.trod enc Tryz.prog w base spare held k2 3 ((([v1, v2, v3, v4, v5, v6, v7, v8, v9, v10, v11, v12, v13, v14] : List Value).drop 10).take (Tryz.prog.cellsOf 3)) = zs[10]? := hg 10 _ rfl
        have g11 : DataW.trod enc Tryz.prog w base spare held k2 3 ((([v1, v2, v3, v4, v5, v6, v7, v8, v9, v10, v11, v12, v13, v14] : List Value).drop 11).take (Tryz.prog.cellsOf 3)) = zs[11]? := hg 11 _ rfl
        have g12 : DataW.trod enc Tryz.prog w base spare held k2 3 ((([v1, v2, v3, v4, v5, v6, v7, v8, v9, v10, v11, v12, v13, v14] : List Value).drop 12).take (Tryz.prog.cellsOf 3)) = zs[12]? := hg 12 _ rfl
        have g13 : DataW.trod enc Tryz.prog w base spare held k2 46 ((([v1, v2, v3, v4, v5, v6, v7, v8, v9, v10, v11, v12, v13, v14] : List Value).drop 13).take (Tryz.prog.cellsOf 46)) = zs[13]? := hg 13 _ rfl
        rw [ci] at g0 g1 g2 g10 g11 g12
        rw [cb] at g3 g4 g5 g6
        rw [cw] at g7 g8
        rw [ch] at g13
        rw [cu] at g9
        simp only [List.drop_zero, List.take_succ_cons, List.take_zero, List.drop_succ_cons] at g0 g1 g2 g3 g4 g5 g6 g7 g8 g9 g10 g11 g12 g13
        have hyz : zs.length = 14 := by assumption
        rw [List.getElem?_eq_getElem (show 0 < zs.length by omega)] at g0
        rw [List.getElem?_eq_getElem (show 1 < zs.length by omega)] at g1
        rw [List.getElem?_eq_getElem (show 2 < zs.length by omega)] at g2
        rw [List.getElem?_eq_getElem (show 3 < zs.length by omega)] at g3
        rw [List.getElem?_eq_getElem (show 4 < zs.length by omega)] at g4
        rw [List.getElem?_eq_getElem (show 5 < zs.length by omega)] at g5
        rw [List.getElem?_eq_getElem (show 6 < zs.length by omega)] at g6
        rw [List.getElem?_eq_getElem (show 7 < zs.length by omega)] at g7
        rw [List.getElem?_eq_getElem (show 8 < zs.length by omega)] at g8
        rw [List.getElem?_eq_getElem (show 9 < zs.length by omega)] at g9
        rw [List.getElem?_eq_getElem (show 10 < zs.length by omega)] at g10
        rw [List.getElem?_eq_getElem (show 11 < zs.length by omega)] at g11
        rw [List.getElem?_eq_getElem (show 12 < zs.length by omega)] at g12
        rw [List.getElem?_eq_getElem (show 13 < zs.length by omega)] at g13
        obtain ⟨n0, e0, _, _⟩ := DataW.trod_int Tryz.underlying3 g0
        obtain ⟨n1, e1, _, _⟩ := DataW.trod_int Tryz.underlying3 g1
        obtain ⟨n2, e2, _, _⟩ := DataW.trod_int Tryz.underlying3 g2
        obtain ⟨n3, e3, _⟩ := DataW.trod_bool Tryz.underlying4 g3
        obtain ⟨n4, e4, _⟩ := DataW.trod_bool Tryz.underlying4 g4
        obtain ⟨n5, e5, _⟩ := DataW.trod_bool Tryz.underlying4 g5
        obtain ⟨n6, e6, _⟩ := DataW.trod_bool Tryz.underlying4 g6
        obtain ⟨m7, e7, _, hw7⟩ := DataW.trod_int Tryz.underlying45 g7
        obtain ⟨n7, rfl, hu7⟩ := u32_leG hw7
        obtain ⟨m8, e8, _, hw8⟩ := DataW.trod_int Tryz.underlying45 g8
        obtain ⟨n8, rfl, hu8⟩ := u32_leG hw8
        obtain ⟨Aj, cj, data, e9, hA1, hA2⟩ := open_bytes g9
        obtain ⟨n10, e10, _, _⟩ := DataW.trod_int Tryz.underlying3 g10
        obtain ⟨n11, e11, _, _⟩ := DataW.trod_int Tryz.underlying3 g11
        obtain ⟨n12, e12, _, _⟩ := DataW.trod_int Tryz.underlying3 g12
        obtain ⟨m13, e13, _, hw13⟩ := DataW.trod_int Tryz.underlying46 g13
        obtain ⟨n13, rfl, hu13⟩ := u16_leG hw13
        simp only [List.cons.injEq, and_true] at h0 h15 e0 e1 e2 e3 e4 e5 e6 e7 e8 e10 e11 e12 e13
        subst h0 h15 e0 e1 e2 e3 e4 e5 e6 e7 e8 e9 e10 e11 e12 e13
        have a0 := hat 0 (by omega)
        have a1 := hat 1 (by omega)
        have a2 := hat 2 (by omega)
        have a3 := hat 3 (by omega)
        have a4 := hat 4 (by omega)
        have a5 := hat 5 (by omega)
        have a6 := hat 6 (by omega)
        have a7 := hat 7 (by omega)
        have a8 := hat 8 (by omega)
        have a9 := hat 9 (by omega)
        have a10 := hat 10 (by omega)
        have a11 := hat 11 (by omega)
        have a12 := hat 12 (by omega)
        have a13 := hat 13 (by omega)
        have a14 := hat 14 (by omega)
        have a15 := hat 15 (by omega)
        refine ⟨⟨x0, ⟨n0, n1, n2, n3, n4, n5, n6, n7, n8, data, n10, n11, n12, n13⟩, x15⟩, Aj, cj, ?_, a1, a2, a3, a4, a5, a6, a7, a8, a9, a10, a11, a12, a13, a14, a15, hA1, hA2, hu7⟩
        simpa [Addr.add] using a0)
    refine ⟨some a, len, cap, L, hcs, hL.symm, hl, ?_⟩
    intro j E hE
    obtain ⟨Aj, cj, q0, q1, q2, q3, q4, q5, q6, q7, q8, q9, q10, q11, q12, q13, q14, q15, hx1, hx2, hx3⟩ := hQ j E hE
    rw [add_add] at q1 q2 q3 q4 q5 q6 q7 q8 q9 q10 q11 q12 q13 q14 q15
    obtain ⟨b, off, spot⟩ := a
    obtain ⟨v0, hv0⟩ : ∃ v0, L[0]? = some v0 := ⟨L[0]'(by have := (List.getElem?_eq_some_iff.1 hE).1; omega), List.getElem?_eq_getElem _⟩
    obtain ⟨_, _, g0, _⟩ := hQ 0 v0 hv0
    have : spot = none := by
      have := World.cell?_spot g0
      simpa [Addr.add] using this
    subst this
    exact ⟨b, off, Aj, cj, rfl, ⟨by simpa [Addr.add_lit] using q0, by simpa [Addr.add_lit, Nat.add_assoc] using q1, by simpa [Addr.add_lit, Nat.add_assoc] using q2, by simpa [Addr.add_lit, Nat.add_assoc] using q3, by simpa [Addr.add_lit, Nat.add_assoc] using q4, by simpa [Addr.add_lit, Nat.add_assoc] using q5, by simpa [Addr.add_lit, Nat.add_assoc] using q6, by simpa [Addr.add_lit, Nat.add_assoc] using q7, by simpa [Addr.add_lit, Nat.add_assoc] using q8, by simpa [Addr.add_lit, Nat.add_assoc] using q9, by simpa [Addr.add_lit, Nat.add_assoc] using q10, by simpa [Addr.add_lit, Nat.add_assoc] using q11, by simpa [Addr.add_lit, Nat.add_assoc] using q12, by simpa [Addr.add_lit, Nat.add_assoc] using q13, by simpa [Addr.add_lit, Nat.add_assoc] using q14, by simpa [Addr.add_lit, Nat.add_assoc] using q15⟩, hx1, hx2, hx3⟩
end
end
end Go.Proofs.YtimdmhhgomfijaaGreat
