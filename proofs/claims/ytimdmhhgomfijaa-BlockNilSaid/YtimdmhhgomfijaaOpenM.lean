/- What an argument reads as: a message of SDO transfers. -/
import Derived.Test.YtimdmhhgomfijaaOpenB
import Derived.Test.YtimdmhhgomfijaaMsL
import Derived.Laws.IdiomArrays
namespace Go.Proofs.Ytimdmhhgomfijaa
set_option linter.unusedVariables false
set_option linter.unusedSimpArgs false
set_option linter.unnecessarySimpa false
open Go.RowKit Go.ChangeShapes Go.WideShapes Go.Deep Go.Joins
set_option maxRecDepth 20000
section
variable {H : Type} {enc : TypeId × Value → H} {P : Program} {w : World} {base : Nat} {spare : Nat → Bool} {held : Bool}
theorem open_agg14 {r : Reach} {b0 : Nat} {t : TypeId} {f0 f1 f2 f3 f4 f5 f6 f7 f8 f9 f10 f11 f12 f13 : Field} {v : Value} {d : DataW H} {p : List MemPlace} (hs : P.underlying t = some (.struct #[f0, f1, f2, f3, f4, f5, f6, f7, f8, f9, f10, f11, f12, f13])) (hone : oneCellFields P #[f0, f1, f2, f3, f4, f5, f6, f7, f8, f9, f10, f11, f12, f13] = true) (hC : P.cellsOf t = 14)
    (hv : Value.okWide P w r b0 t v) (h : DataW.Trod enc P w base spare held t v d p) :
    ∃ (v0 v1 v2 v3 v4 v5 v6 v7 v8 v9 v10 v11 v12 v13 : Value) (y0 y1 y2 y3 y4 y5 y6 y7 y8 y9 y10 y11 y12 y13 : DataW H × List MemPlace) (n : Nat), v = .agg #[v0, v1, v2, v3, v4, v5, v6, v7, v8, v9, v10, v11, v12, v13] ∧ d = .agg [y0.1, y1.1, y2.1, y3.1, y4.1, y5.1, y6.1, y7.1, y8.1, y9.1, y10.1, y11.1, y12.1, y13.1] ∧ p = y0.2 ++ (y1.2 ++ (y2.2 ++ (y3.2 ++ (y4.2 ++ (y5.2 ++ (y6.2 ++ (y7.2 ++ (y8.2 ++ (y9.2 ++ (y10.2 ++ (y11.2 ++ (y12.2 ++ (y13.2))))))))))))) ∧
      DataW.trod enc P w base spare held n f0.type [v0] = some y0 ∧ DataW.trod enc P w base spare held n f1.type [v1] = some y1 ∧ DataW.trod enc P w base spare held n f2.type [v2] = some y2 ∧ DataW.trod enc P w base spare held n f3.type [v3] = some y3 ∧ DataW.trod enc P w base spare held n f4.type [v4] = some y4 ∧ DataW.trod enc P w base spare held n f5.type [v5] = some y5 ∧ DataW.trod enc P w base spare held n f6.type [v6] = some y6 ∧ DataW.trod enc P w base spare held n f7.type [v7] = some y7 ∧ DataW.trod enc P w base spare held n f8.type [v8] = some y8 ∧ DataW.trod enc P w base spare held n f9.type [v9] = some y9 ∧ DataW.trod enc P w base spare held n f10.type [v10] = some y10 ∧ DataW.trod enc P w base spare held n f11.type [v11] = some y11 ∧ DataW.trod enc P w base spare held n f12.type [v12] = some y12 ∧ DataW.trod enc P w base spare held n f13.type [v13] = some y13 := by
  obtain ⟨cs, rfl, hsz⟩ := okWide_struct hs hv
  obtain ⟨l⟩ := cs
  match l, hsz.trans hC with
  | [c0, c1, c2, c3, c4, c5, c6, c7, c8, c9, c10, c11, c12, c13], _ =>
    obtain ⟨fuel, hf⟩ := h
    obtain ⟨xs, n, _, hx, _, hlen, hg⟩ := DataW.trod_struct hs hf
    obtain ⟨o0, k0⟩ := hone_of hone 0 f0 rfl
    obtain ⟨o1, k1⟩ := hone_of hone 1 f1 rfl
    obtain ⟨o2, k2⟩ := hone_of hone 2 f2 rfl
    obtain ⟨o3, k3⟩ := hone_of hone 3 f3 rfl
    obtain ⟨o4, k4⟩ := hone_of hone 4 f4 rfl
    obtain ⟨o5, k5⟩ := hone_of hone 5 f5 rfl
    obtain ⟨o6, k6⟩ := hone_of hone 6 f6 rfl
    obtain ⟨o7, k7⟩ := hone_of hone 7 f7 rfl
    obtain ⟨o8, k8⟩ := hone_of hone 8 f8 rfl
    obtain ⟨o9, k9⟩ := hone_of hone 9 f9 rfl
    obtain ⟨o10, k10⟩ := hone_of hone 10 f10 rfl
    obtain ⟨o11, k11⟩ := hone_of hone 11 f11 rfl
    obtain ⟨o12, k12⟩ := hone_of hone 12 f12 rfl
    obtain ⟨o13, k13⟩ := hone_of hone 13 f13 rfl
    match xs, hlen with
    | [y0, y1, y2, y3, y4, y5, y6, y7, y8, y9, y10, y11, y12, y13], _ =>
      simp only [Prod.mk.injEq] at hx
      exact ⟨c0, c1, c2, c3, c4, c5, c6, c7, c8, c9, c10, c11, c12, c13, y0, y1, y2, y3, y4, y5, y6, y7, y8, y9, y10, y11, y12, y13, n, rfl, by simpa using hx.1, by simpa using hx.2, by simpa [Value.cells, o0, k0] using hg 0 f0 rfl, by simpa [Value.cells, o1, k1] using hg 1 f1 rfl, by simpa [Value.cells, o2, k2] using hg 2 f2 rfl, by simpa [Value.cells, o3, k3] using hg 3 f3 rfl, by simpa [Value.cells, o4, k4] using hg 4 f4 rfl, by simpa [Value.cells, o5, k5] using hg 5 f5 rfl, by simpa [Value.cells, o6, k6] using hg 6 f6 rfl, by simpa [Value.cells, o7, k7] using hg 7 f7 rfl, by simpa [Value.cells, o8, k8] using hg 8 f8 rfl, by simpa [Value.cells, o9, k9] using hg 9 f9 rfl, by simpa [Value.cells, o10, k10] using hg 10 f10 rfl, by simpa [Value.cells, o11, k11] using hg 11 f11 rfl, by simpa [Value.cells, o12, k12] using hg 12 f12 rfl, by simpa [Value.cells, o13, k13] using hg 13 f13 rfl⟩
end
theorem u32_le {n : Int} (h : (Lit.int .u32 n).wf = true) : ∃ m : Nat, n = (m : Nat) ∧ m ≤ 4294967295 := by
  have hb : 0 ≤ n ∧ n ≤ 4294967295 := by simpa [Lit.wf, IntKind.min, IntKind.max, IntKind.signed, IntKind.bits] using h
  exact ⟨n.toNat, by omega, by omega⟩
theorem u16_le {n : Int} (h : (Lit.int .u16 n).wf = true) : ∃ m : Nat, n = (m : Nat) ∧ m ≤ 65535 := by
  have hb : 0 ≤ n ∧ n ≤ 65535 := by simpa [Lit.wf, IntKind.min, IntKind.max, IntKind.signed, IntKind.bits] using h
  exact ⟨n.toNat, by omega, by omega⟩
section
variable {H : Type} {enc : TypeId × Value → H} {w : World} {base : Nat} {spare : Nat → Bool} {held : Bool}
theorem open_msg {r : Reach} {b0 : Nat} {v : Value} {d : DataW H} {p : List MemPlace} (hv : Value.okWide Try.prog w r b0 51 v) (h : DataW.Trod enc Try.prog w base spare held 51 v d p) :
    ∃ (M : Ms) (A : Option Addr) (c : Nat), v = .agg (msV M A M.data.length c) ∧ M.size ≤ 4294967295 ∧ M.code ≤ 4294967295 ∧ M.sum ≤ 65535 ∧ M.data.length ≤ c ∧ Sl w A (M.data.map bv) := by
  obtain ⟨x0, x1, x2, x3, x4, x5, x6, x7, x8, x9, x10, x11, x12, x13, y0, y1, y2, y3, y4, y5, y6, y7, y8, y9, y10, y11, y12, y13, fu, rfl, _, _, g0, g1, g2, g3, g4, g5, g6, g7, g8, g9, g10, g11, g12, g13⟩ := open_agg14 Try.underlying51 (by kernel_rfl) (by kernel_rfl) hv h
  obtain ⟨n0, e0, _, _⟩ := DataW.trod_int Try.underlying3 g0
  obtain ⟨n1, e1, _, _⟩ := DataW.trod_int Try.underlying3 g1
  obtain ⟨n2, e2, _, _⟩ := DataW.trod_int Try.underlying3 g2
  obtain ⟨n3, e3, _⟩ := DataW.trod_bool Try.underlying4 g3
  obtain ⟨n4, e4, _⟩ := DataW.trod_bool Try.underlying4 g4
  obtain ⟨n5, e5, _⟩ := DataW.trod_bool Try.underlying4 g5
  obtain ⟨n6, e6, _⟩ := DataW.trod_bool Try.underlying4 g6
  obtain ⟨m7, e7, _, hw7⟩ := DataW.trod_int Try.underlying33 g7
  obtain ⟨n7, rfl, hu7⟩ := u32_le hw7
  obtain ⟨m8, e8, _, hw8⟩ := DataW.trod_int Try.underlying33 g8
  obtain ⟨n8, rfl, hu8⟩ := u32_le hw8
  obtain ⟨A, c, l, e9, hc, hs⟩ := open_bytes g9
  obtain ⟨n10, e10, _, _⟩ := DataW.trod_int Try.underlying3 g10
  obtain ⟨n11, e11, _, _⟩ := DataW.trod_int Try.underlying3 g11
  obtain ⟨n12, e12, _, _⟩ := DataW.trod_int Try.underlying3 g12
  obtain ⟨m13, e13, _, hw13⟩ := DataW.trod_int Try.underlying37 g13
  obtain ⟨n13, rfl, hu13⟩ := u16_le hw13
  simp only [List.cons.injEq, and_true] at e0 e1 e2 e3 e4 e5 e6 e7 e8 e10 e11 e12 e13
  subst e0 e1 e2 e3 e4 e5 e6 e7 e8 e9 e10 e11 e12 e13
  exact ⟨⟨n0, n1, n2, n3, n4, n5, n6, n7, n8, l, n10, n11, n12, n13⟩, A, c, rfl, hu7, hu8, hu13, hc, hs⟩
end
end Go.Proofs.Ytimdmhhgomfijaa
