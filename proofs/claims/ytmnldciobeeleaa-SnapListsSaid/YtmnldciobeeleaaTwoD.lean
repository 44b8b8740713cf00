/- A dictionary and the reference's one beside it, with the same entries and values, in blocks of their own. -/
import Derived.Test.YtmnldciobeeleaaDicM
import Derived.Test.YtmnldciobeeleaaSvL
namespace Go.Proofs.Ytmnldciobeeleaa
set_option linter.unusedVariables false
set_option linter.unusedSimpArgs false
set_option linter.unnecessarySimpa false
open Go.RowKit
set_option maxRecDepth 20000
/-- the parts -/
structure Two (N : Nat) (X : Nat → Prop) (L : List Ent) (V : List (List UInt8)) (pr : Nat) (w : World) (p : Nat) (Fd Fr : Nat → Prop) (gl n cl : Nat) (Av : Option Addr) (cv : Nat) (ds es : List (Option Addr × Nat)) (Al2 : Option Addr) (cl2 : Nat) (Av2 : Option Addr) (cv2 : Nat) (ds2 es2 : List (Option Addr × Nat)) : Prop where
  hn : n = L.length
  d : DB 76 w Fd p (some ⟨gl, 0, none⟩) n cl Av cv L V ds es
  r : DB 62 w Fr pr Al2 n cl2 Av2 cv2 L V ds2 es2
  bd : ∀ g, Fd g → N ≤ g ∧ g < w.heap.size ∧ ¬ X g
  br : ∀ g, Fr g → N ≤ g ∧ g < w.heap.size ∧ ¬ X g
  dj : ∀ g, Fd g → ¬ Fr g
def TwoD (N : Nat) (X : Nat → Prop) (L : List Ent) (V : List (List UInt8)) (pr : Nat) (w : World) (p : Nat) : Prop :=
  ∃ Fd Fr gl n cl Av cv ds es Al2 cl2 Av2 cv2 ds2 es2, Two N X L V pr w p Fd Fr gl n cl Av cv ds es Al2 cl2 Av2 cv2 ds2 es2
section
variable {N : Nat} {X Y : Nat → Prop} {L : List Ent} {V : List (List UInt8)} {pr p : Nat} {w w' : World}
theorem TwoD.below (h : TwoD N X L V pr w p) (hb : Below w.heap.size w w') : TwoD N X L V pr w' p := by
  obtain ⟨Fd, Fr, gl, n, cl, Av, cv, ds, es, Al2, cl2, Av2, cv2, ds2, es2, h⟩ := h
  have := hb.size
  exact ⟨Fd, Fr, gl, n, cl, Av, cv, ds, es, Al2, cl2, Av2, cv2, ds2, es2, ⟨h.hn, h.d.below hb, h.r.below hb, fun g hg => ⟨(h.bd g hg).1, by have := (h.bd g hg).2.1; omega, (h.bd g hg).2.2⟩, fun g hg => ⟨(h.br g hg).1, by have := (h.br g hg).2.1; omega, (h.br g hg).2.2⟩, h.dj⟩⟩
/-- blocks of X alone have turned -/
theorem TwoD.far (h : TwoD N X L V pr w p) (ho : Only X w w') : TwoD N X L V pr w' p := by
  obtain ⟨Fd, Fr, gl, n, cl, Av, cv, ds, es, Al2, cl2, Av2, cv2, ds2, es2, h⟩ := h
  have := ho.size
  exact ⟨Fd, Fr, gl, n, cl, Av, cv, ds, es, Al2, cl2, Av2, cv2, ds2, es2, ⟨h.hn, h.d.keep (fun g hg hlt => ho.block g hlt (h.bd g hg).2.2), h.r.keep (fun g hg hlt => ho.block g hlt (h.br g hg).2.2), fun g hg => ⟨(h.bd g hg).1, by have := (h.bd g hg).2.1; omega, (h.bd g hg).2.2⟩, fun g hg => ⟨(h.br g hg).1, by have := (h.br g hg).2.1; omega, (h.br g hg).2.2⟩, h.dj⟩⟩
theorem TwoD.exc (h : TwoD N X L V pr w p) (hY : ∀ g, Y g → g < w.heap.size → X g) : TwoD N Y L V pr w p := by
  obtain ⟨Fd, Fr, gl, n, cl, Av, cv, ds, es, Al2, cl2, Av2, cv2, ds2, es2, h⟩ := h
  exact ⟨Fd, Fr, gl, n, cl, Av, cv, ds, es, Al2, cl2, Av2, cv2, ds2, es2, ⟨h.hn, h.d, h.r, fun g hg => ⟨(h.bd g hg).1, (h.bd g hg).2.1, fun hy => (h.bd g hg).2.2 (hY g hy (h.bd g hg).2.1)⟩, fun g hg => ⟨(h.br g hg).1, (h.br g hg).2.1, fun hy => (h.br g hg).2.2 (hY g hy (h.br g hg).2.1)⟩, h.dj⟩⟩
end
section
variable {N : Nat} {X : Nat → Prop} {L : List Ent} {V V1 : List (List UInt8)} {pr p : Nat} {w w1 w2 : World} {Fd Fr : Nat → Prop} {gl n cl : Nat} {Av : Option Addr} {cv : Nat} {ds es : List (Option Addr × Nat)} {Al2 : Option Addr} {cl2 : Nat} {Av2 : Option Addr} {cv2 : Nat} {ds2 es2 : List (Option Addr × Nat)}
/-- the reference's one behind a step of the first one -/
theorem Two.other (h : Two N X L V pr w p Fd Fr gl n cl Av cv ds es Al2 cl2 Av2 cv2 ds2 es2) (ho : Only Fd w w1) : DB 62 w1 Fr pr Al2 n cl2 Av2 cv2 L V ds2 es2 :=
  h.r.keep (fun g hg hlt => ho.block g hlt (fun hd => h.dj g hd hg))
/-- both have made their step -/
theorem Two.both (h : Two N X L V pr w p Fd Fr gl n cl Av cv ds es Al2 cl2 Av2 cv2 ds2 es2) (ho : Only Fd w w1) {es' es2' : List (Option Addr × Nat)} (hd : DB 76 w1 (fun g => Fd g ∨ w.heap.size ≤ g) p (some ⟨gl, 0, none⟩) n cl Av cv L V1 ds es')
    (ho2 : Only Fr w1 w2) (hr : DB 62 w2 (fun g => Fr g ∨ w1.heap.size ≤ g) pr Al2 n cl2 Av2 cv2 L V1 ds2 es2') (hX : ∀ g, X g → g < w.heap.size) (hN : N ≤ w.heap.size) : TwoD N X L V1 pr w2 p := by
  have z1 := ho.size
  have z2 := ho2.size
  refine ⟨fun g => (Fd g ∨ w.heap.size ≤ g) ∧ g < w1.heap.size, fun g => (Fr g ∨ w1.heap.size ≤ g) ∧ g < w2.heap.size, gl, n, cl, Av, cv, ds, es', Al2, cl2, Av2, cv2, ds2, es2', ⟨h.hn, ?_, hr.mono (fun g h1 h2 => ⟨h2, h1⟩), ?_, ?_, ?_⟩⟩
  · refine (hd.mono (G := fun g => (Fd g ∨ w.heap.size ≤ g) ∧ g < w1.heap.size) (fun g h1 h2 => ⟨h2, h1⟩)).keep (fun g hg hlt => ho2.block g hlt (fun hf => ?_))
    rcases hg.1 with hg | hg
    · exact h.dj g hg hf
    · have := (h.br g hf).2.1; omega
  · rintro g ⟨hg | hg, hlt⟩
    · exact ⟨(h.bd g hg).1, by omega, (h.bd g hg).2.2⟩
    · exact ⟨by omega, by omega, fun hx => by have := hX g hx; omega⟩
  · rintro g ⟨hg | hg, hlt⟩
    · exact ⟨(h.br g hg).1, by omega, (h.br g hg).2.2⟩
    · exact ⟨by omega, by omega, fun hx => by have := hX g hx; omega⟩
  · rintro g ⟨hg | hg, hlt⟩ ⟨hf | hf, hlt'⟩
    · exact h.dj g hg hf
    · have := (h.bd g hg).2.1; omega
    · have := (h.br g hf).2.1; omega
    · omega
theorem Two.low (h : Two N X L V pr w p Fd Fr gl n cl Av cv ds es Al2 cl2 Av2 cv2 ds2 es2) (ho : Only Fd w w1) (ho2 : Only Fr w1 w2) (hN : N ≤ w.heap.size) : Below N w w2 :=
  (ho.below hN (fun i hi => (h.bd i hi).1)).trans (ho2.below (by have := ho.size; omega) (fun i hi => (h.br i hi).1))
end
end Go.Proofs.Ytmnldciobeeleaa
