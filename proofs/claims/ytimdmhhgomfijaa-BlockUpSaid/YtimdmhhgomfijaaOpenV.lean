/- What an argument reads as: an entry, bytes, bools and more. -/
import Derived.Test.YtimdmhhgomfijaaOpenE
import Derived.Test.YtimdmhhgomfijaaOpenB
namespace Go.Proofs.Ytimdmhhgomfijaa
set_option linter.unusedVariables false
set_option linter.unusedSimpArgs false
set_option linter.unnecessarySimpa false
def bsenuV (E : Ent) (A : Option Addr) (n c : Nat) (A2 : Option Addr) (n2 c2 : Nat) (A4 : Option Addr) (n4 c4 : Nat) (cr s : Bool) (A5 : Option Addr) (n5 c5 : Nat) : Array Value := #[.int .i64 E.ix, .int .i64 E.sub, .string E.nm, .int .i64 E.ty, .int .i64 E.acc, .bool E.mp, .bool E.st, .int .i64 E.mx, .int .i64 E.lo, .int .i64 E.hi, .slice A n c, .slice A2 n2 c2, .slice A4 n4 c4, .bool cr, .bool s, .slice A5 n5 c5]
section
open Go.RowKit Go.ChangeShapes Go.WideShapes Go.Deep
set_option maxRecDepth 20000
variable {H : Type} {enc : TypeId × Value → H} {w : World} {base : Nat} {spare : Nat → Bool} {held : Bool}
theorem open_bools {fuel : Nat} {v : Value} {x : DataW H × List MemPlace} (h : DataW.trod enc Try.prog w base spare held fuel 57 [v] = some x) :
    ∃ (A : Option Addr) (c : Nat) (l : List Bool), v = .slice A l.length c ∧ l.length ≤ c ∧ Sl w A (l.map Value.bool) := by
  rcases open_slice Try.underlying57 h with ⟨hcs, _⟩ | ⟨a, len, cap, m, n, D, Pl, hcs, _, hl, hm, hmm, _, hi⟩
  · simp at hcs
    exact ⟨none, 0, [], hcs, Nat.le_refl _, Sl.nil _ _⟩
  · simp at hcs
    have hlm : len ≤ m := by rw [hmm]; split <;> omega
    obtain ⟨L, hL, hQ⟩ := list_of len (fun i (b : Bool) => w.cell? (a.add i) = some (.bool b)) (by
      intro i hilen
      obtain ⟨cs', hc, ht⟩ := hi i (by omega)
      rw [show Try.prog.cellsOf 4 = 1 by kernel_rfl] at hc
      obtain ⟨_, hcl, hat⟩ := World.cells?_some hc
      match cs', hcl with
      | [v0], _ =>
        obtain ⟨b, hb, _⟩ := DataW.trod_bool Try.underlying4 ht
        simp only [List.cons.injEq, and_true] at hb
        subst hb
        have a0 := hat 0 (by omega)
        refine ⟨b, ?_⟩
        simpa [Addr.add] using a0)
    refine ⟨some a, cap, L, by rw [hL]; exact hcs, by omega, ?_⟩
    intro j u hu
    rw [List.getElem?_map] at hu
    obtain ⟨b, hb, rfl⟩ := Option.map_eq_some_iff.1 hu
    exact ⟨a, rfl, hQ j b hb⟩
end
section
open Go.RowKit Go.ChangeShapes Go.WideShapes Go.Deep Go.Joins
set_option maxRecDepth 20000
variable {H : Type} {enc : TypeId × Value → H} {w : World} {base : Nat} {spare : Nat → Bool} {held : Bool}
theorem open_bsenu {r : Reach} {b0 : Nat} {v : Value} {d : DataW H} {p : List MemPlace} (hv : Value.okWide Try.prog w r b0 59 v) (h : DataW.Trod enc Try.prog w base spare held 59 v d p) :
    ∃ (E : Ent) (A : Option Addr) (c : Nat) (B : List UInt8) (A2 : Option Addr) (c2 : Nat) (lost : List Bool) (A4 : Option Addr) (c4 : Nat) (cr s : Bool) (tk : List UInt8) (A5 : Option Addr) (c5 : Nat), v = .agg (bsenuV E A E.df.length c A2 B.length c2 A4 lost.length c4 cr s A5 tk.length c5) ∧ E.df.length ≤ c ∧ Sl w A (E.df.map bv) ∧ E.nm.size ≤ 9223372036854775807 ∧ B.length ≤ c2 ∧ Sl w A2 (B.map bv) ∧ lost.length ≤ c4 ∧ Sl w A4 (lost.map Value.bool) ∧ tk.length ≤ c5 ∧ Sl w A5 (tk.map bv) := by
  obtain ⟨cs, rfl, hsz⟩ := okWide_struct Try.underlying59 hv
  obtain ⟨l⟩ := cs
  match l, hsz.trans (show Try.prog.cellsOf 59 = 16 by kernel_rfl) with
  | [u0, u1, u2, u3, u4, u5, u6, u7, u8, u9, u10, u11, u12, u13, u14, u15], _ =>
    obtain ⟨fuel, hf⟩ := h
    obtain ⟨xs, n, _, hx, _, hlen, hg⟩ := DataW.trod_struct Try.underlying59 hf
    match xs, hlen with
    | [y0, y1, y2, y3, y4, y5], _ =>
      have f0 : DataW.trod enc Try.prog w base spare held n 24 ((([u0, u1, u2, u3, u4, u5, u6, u7, u8, u9, u10, u11, u12, u13, u14, u15] : List Value).drop 0).take (Try.prog.cellsOf 24)) = some y0 := hg 0 _ rfl
      have f1 : DataW.trod enc Try.prog w base spare held n 22 ((([u0, u1, u2, u3, u4, u5, u6, u7, u8, u9, u10, u11, u12, u13, u14, u15] : List Value).drop 11).take (Try.prog.cellsOf 22)) = some y1 := hg 1 _ rfl
      have f2 : DataW.trod enc Try.prog w base spare held n 57 ((([u0, u1, u2, u3, u4, u5, u6, u7, u8, u9, u10, u11, u12, u13, u14, u15] : List Value).drop 12).take (Try.prog.cellsOf 57)) = some y2 := hg 2 _ rfl
      have f3 : DataW.trod enc Try.prog w base spare held n 4 ((([u0, u1, u2, u3, u4, u5, u6, u7, u8, u9, u10, u11, u12, u13, u14, u15] : List Value).drop 13).take (Try.prog.cellsOf 4)) = some y3 := hg 3 _ rfl
      have f4 : DataW.trod enc Try.prog w base spare held n 4 ((([u0, u1, u2, u3, u4, u5, u6, u7, u8, u9, u10, u11, u12, u13, u14, u15] : List Value).drop 14).take (Try.prog.cellsOf 4)) = some y4 := hg 4 _ rfl
      have f5 : DataW.trod enc Try.prog w base spare held n 22 ((([u0, u1, u2, u3, u4, u5, u6, u7, u8, u9, u10, u11, u12, u13, u14, u15] : List Value).drop 15).take (Try.prog.cellsOf 22)) = some y5 := hg 5 _ rfl
      have ci : Try.prog.cellsOf 3 = 1 := by kernel_rfl
      have cl : Try.prog.cellsOf 2 = 1 := by kernel_rfl
      have cb : Try.prog.cellsOf 4 = 1 := by kernel_rfl
      have ct : Try.prog.cellsOf 9 = 1 := by kernel_rfl
      have cu : Try.prog.cellsOf 22 = 1 := by kernel_rfl
      have cbb : Try.prog.cellsOf 57 = 1 := by kernel_rfl
      rw [show Try.prog.cellsOf 24 = 11 by kernel_rfl] at f0
      rw [cu] at f1 f5
      rw [cbb] at f2
      rw [cb] at f3 f4
      simp only [List.drop_zero, List.take_succ_cons, List.take_zero, List.drop_succ_cons] at f0 f1 f2 f3 f4 f5
      obtain ⟨A2, c2, B, rfl, hc2, hs2⟩ := open_bytes f1
      obtain ⟨A4, c4, lost, rfl, hc4, hs4⟩ := open_bools f2
      obtain ⟨A5, c5, tk, rfl, hc5, hs5⟩ := open_bytes f5
      obtain ⟨cr, e13, _⟩ := DataW.trod_bool Try.underlying4 f3
      obtain ⟨s, e14, _⟩ := DataW.trod_bool Try.underlying4 f4
      obtain ⟨zs, m, _, hz, _, hlz, hh⟩ := DataW.trod_struct Try.underlying24 f0
      match zs, hlz with
      | [z0, z1, z2, z3, z4, z5, z6, z7, z8, z9, z10], _ =>
        have g0 : DataW.trod enc Try.prog w base spare held m 3 ((([u0, u1, u2, u3, u4, u5, u6, u7, u8, u9, u10] : List Value).drop 0).take (Try.prog.cellsOf 3)) = some z0 := hh 0 _ rfl
        have g1 : DataW.trod enc Try.prog w base spare held m 3 ((([u0, u1, u2, u3, u4, u5, u6, u7, u8, u9, u10] : List Value).drop 1).take (Try.prog.cellsOf 3)) = some z1 := hh 1 _ rfl
        have g2 : DataW.trod enc Try.prog w base spare held m 9 ((([u0, u1, u2, u3, u4, u5, u6, u7, u8, u9, u10] : List Value).drop 2).take (Try.prog.cellsOf 9)) = some z2 := hh 2 _ rfl
        have g3 : DataW.trod enc Try.prog w base spare held m 3 ((([u0, u1, u2, u3, u4, u5, u6, u7, u8, u9, u10] : List Value).drop 3).take (Try.prog.cellsOf 3)) = some z3 := hh 3 _ rfl
        have g4 : DataW.trod enc Try.prog w base spare held m 3 ((([u0, u1, u2, u3, u4, u5, u6, u7, u8, u9, u10] : List Value).drop 4).take (Try.prog.cellsOf 3)) = some z4 := hh 4 _ rfl
        have g5 : DataW.trod enc Try.prog w base spare held m 4 ((([u0, u1, u2, u3, u4, u5, u6, u7, u8, u9, u10] : List Value).drop 5).take (Try.prog.cellsOf 4)) = some z5 := hh 5 _ rfl
        have g6 : DataW.trod enc Try.prog w base spare held m 4 ((([u0, u1, u2, u3, u4, u5, u6, u7, u8, u9, u10] : List Value).drop 6).take (Try.prog.cellsOf 4)) = some z6 := hh 6 _ rfl
        have g7 : DataW.trod enc Try.prog w base spare held m 3 ((([u0, u1, u2, u3, u4, u5, u6, u7, u8, u9, u10] : List Value).drop 7).take (Try.prog.cellsOf 3)) = some z7 := hh 7 _ rfl
        have g8 : DataW.trod enc Try.prog w base spare held m 2 ((([u0, u1, u2, u3, u4, u5, u6, u7, u8, u9, u10] : List Value).drop 8).take (Try.prog.cellsOf 2)) = some z8 := hh 8 _ rfl
        have g9 : DataW.trod enc Try.prog w base spare held m 2 ((([u0, u1, u2, u3, u4, u5, u6, u7, u8, u9, u10] : List Value).drop 9).take (Try.prog.cellsOf 2)) = some z9 := hh 9 _ rfl
        have g10 : DataW.trod enc Try.prog w base spare held m 22 ((([u0, u1, u2, u3, u4, u5, u6, u7, u8, u9, u10] : List Value).drop 10).take (Try.prog.cellsOf 22)) = some z10 := hh 10 _ rfl
        rw [ci] at g0 g1 g3 g4 g7
        rw [cl] at g8 g9
        rw [cb] at g5 g6
        rw [ct] at g2
        rw [cu] at g10
        simp only [List.drop_zero, List.take_succ_cons, List.take_zero, List.drop_succ_cons] at g0 g1 g2 g3 g4 g5 g6 g7 g8 g9 g10
        obtain ⟨n0, e0, _, _⟩ := DataW.trod_int Try.underlying3 g0
        obtain ⟨n1, e1, _, _⟩ := DataW.trod_int Try.underlying3 g1
        obtain ⟨n2, e2, _, hsz2⟩ := DataW.trod_string Try.underlying9 g2
        obtain ⟨n3, e3, _, _⟩ := DataW.trod_int Try.underlying3 g3
        obtain ⟨n4, e4, _, _⟩ := DataW.trod_int Try.underlying3 g4
        obtain ⟨n5, e5, _⟩ := DataW.trod_bool Try.underlying4 g5
        obtain ⟨n6, e6, _⟩ := DataW.trod_bool Try.underlying4 g6
        obtain ⟨n7, e7, _, _⟩ := DataW.trod_int Try.underlying3 g7
        obtain ⟨n8, e8, _, _⟩ := DataW.trod_int Try.underlying2 g8
        obtain ⟨n9, e9, _, _⟩ := DataW.trod_int Try.underlying2 g9
        obtain ⟨A, c, l, e10, hc, hs⟩ := open_bytes g10
        simp only [List.cons.injEq, and_true] at e0 e1 e2 e3 e4 e5 e6 e7 e8 e9 e13 e14
        subst e0 e1 e2 e3 e4 e5 e6 e7 e8 e9 e10 e13 e14
        exact ⟨⟨n0, n1, n2, n3, n4, n5, n6, n7, n8, n9, l⟩, A, c, B, A2, c2, lost, A4, c4, cr, s, tk, A5, c5, rfl, hc, hs, hsz2, hc2, hs2, hc4, hs4, hc5, hs5⟩
end
end Go.Proofs.Ytimdmhhgomfijaa
