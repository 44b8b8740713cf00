/- The reference of entries: Right. -/
import Derived.Test.YtehabbnohoomjaaGreatDoorNv35
import Derived.Deep.Light
import Derived.Test.YtehabbnohoomjaaGreatDoorNv39
import Derived.Test.YtehabbnohoomjaaGreatDoorNv38
import Derived.Test.YtehabbnohoomjaaGreatDoorNv08
import Derived.Deep.DeepCutAuto
import Derived.Test.YtehabbnohoomjaaGreatDoorNv32
import Derived.RegionTactic
import Derived.Deep.RegionHeld3
import Derived.Test.YtehabbnohoomjaaGreatDoorNv03
import Derived.Test.YtehabbnohoomjaaGreatDoorNv27
import Derived.Test.YtehabbnohoomjaaGreatDoorNv41
import Derived.Test.YtehabbnohoomjaaGreatDoorNv42
import Derived.Test.YtehabbnohoomjaaGreatDoorNv28
namespace Go.Proofs.YtehabbnohoomjaaGreatDoor
section
set_option linter.unusedVariables false
set_option linter.unusedSimpArgs false
set_option linter.unnecessarySimpa false
open Go.RowKit
set_option maxRecDepth 100000
set_option maxHeartbeats 4000000

/-- the ways that Right goes behind the names, each with what it answers -/
inductive RightW (acc mx lo hi lw hg v : Int) (mp st nb : Bool) (r : Int) : Prop
  | a0 (h : acc < 1) (e : r = 1)
  | a1 (h : 1 ≤ acc) (h2 : 4 < acc) (e : r = 1)
  | n0 (h : 1 ≤ acc) (h2 : acc ≤ 4) (b : nb = true) (h3 : (mx != 0) = true) (e : r = 1)
  | n1 (h : 1 ≤ acc) (h2 : acc ≤ 4) (b : nb = true) (h3 : mx = 0) (h4 : lo < lw) (e : r = 1)
  | n2 (h : 1 ≤ acc) (h2 : acc ≤ 4) (b : nb = true) (h3 : mx = 0) (h4 : lw ≤ lo) (h5 : hg < hi) (e : r = 1)
  | n3 (h : 1 ≤ acc) (h2 : acc ≤ 4) (b : nb = true) (h3 : mx = 0) (h4 : lw ≤ lo) (h5 : hi ≤ hg) (h6 : hi < lo) (e : r = 1)
  | s0 (h : 1 ≤ acc) (h2 : acc ≤ 4) (b : nb = false) (h3 : (lo != 0) = true) (e : r = 1)
  | s1 (h : 1 ≤ acc) (h2 : acc ≤ 4) (b : nb = false) (h3 : lo = 0) (h4 : (hi != 0) = true) (e : r = 1)
  | s2 (h : 1 ≤ acc) (h2 : acc ≤ 4) (b : nb = false) (h3 : lo = 0) (h4 : hi = 0) (h5 : mx < 1) (e : r = 1)
  | s3 (h : 1 ≤ acc) (h2 : acc ≤ 4) (b : nb = false) (h3 : lo = 0) (h4 : hi = 0) (h5 : 1 ≤ mx) (h6 : 256 < mx) (e : r = 1)
  | s4 (h : 1 ≤ acc) (h2 : acc ≤ 4) (b : nb = false) (h3 : lo = 0) (h4 : hi = 0) (h5 : 1 ≤ mx) (h6 : mx ≤ 256) (h7 : mp = true) (e : r = 1)
  | gn0 (h : 1 ≤ acc) (h2 : acc ≤ 4) (b : nb = true) (h3 : mx = 0) (h4 : lw ≤ lo) (h5 : hi ≤ hg) (h6 : lo ≤ hi) (h7 : st = true) (h8 : acc < 3) (e : r = 1)
  | gn1 (h : 1 ≤ acc) (h2 : acc ≤ 4) (b : nb = true) (h3 : mx = 0) (h4 : lw ≤ lo) (h5 : hi ≤ hg) (h6 : lo ≤ hi) (h7 : st = true) (h8 : 3 ≤ acc) (h9 : (acc == 1) = false) (h10 : mp = true) (e : r = if v ≠ 0 then 4 else 0)
  | gn2 (h : 1 ≤ acc) (h2 : acc ≤ 4) (b : nb = true) (h3 : mx = 0) (h4 : lw ≤ lo) (h5 : hi ≤ hg) (h6 : lo ≤ hi) (h7 : st = true) (h8 : 3 ≤ acc) (h10 : mp = false) (e : r = if v ≠ 0 then 4 else 0)
  | gn3 (h : 1 ≤ acc) (h2 : acc ≤ 4) (b : nb = true) (h3 : mx = 0) (h4 : lw ≤ lo) (h5 : hi ≤ hg) (h6 : lo ≤ hi) (h7 : st = false) (h9 : acc = 1) (h10 : mp = true) (e : r = 1)
  | gn4 (h : 1 ≤ acc) (h2 : acc ≤ 4) (b : nb = true) (h3 : mx = 0) (h4 : lw ≤ lo) (h5 : hi ≤ hg) (h6 : lo ≤ hi) (h7 : st = false) (h9 : (acc == 1) = false) (h10 : mp = true) (e : r = if v ≠ 0 then 4 else 0)
  | gn5 (h : 1 ≤ acc) (h2 : acc ≤ 4) (b : nb = true) (h3 : mx = 0) (h4 : lw ≤ lo) (h5 : hi ≤ hg) (h6 : lo ≤ hi) (h7 : st = false) (h10 : mp = false) (e : r = if v ≠ 0 then 4 else 0)
  | gs0 (h : 1 ≤ acc) (h2 : acc ≤ 4) (b : nb = false) (h3 : lo = 0) (h4 : hi = 0) (h5 : 1 ≤ mx) (h6 : mx ≤ 256) (h10 : mp = false) (h7 : st = true) (h8 : acc < 3) (e : r = 1)
  | gs1 (h : 1 ≤ acc) (h2 : acc ≤ 4) (b : nb = false) (h3 : lo = 0) (h4 : hi = 0) (h5 : 1 ≤ mx) (h6 : mx ≤ 256) (h10 : mp = false) (h7 : st = true) (h8 : 3 ≤ acc) (e : r = if v ≠ 0 then 4 else 0)
  | gs2 (h : 1 ≤ acc) (h2 : acc ≤ 4) (b : nb = false) (h3 : lo = 0) (h4 : hi = 0) (h5 : 1 ≤ mx) (h6 : mx ≤ 256) (h10 : mp = false) (h7 : st = false) (e : r = if v ≠ 0 then 4 else 0)
def RRightR (E : Ent) (w : World) (e : Ending) (w' : World) : Prop := e = .returned (.int .i64 (rightE E)) ∧ Below w.heap.size w w'
end
end Go.Proofs.YtehabbnohoomjaaGreatDoor
namespace Go.Proofs.YtehabbnohoomjaaGreatDoor
section
set_option linter.unusedVariables false
set_option linter.unusedSimpArgs false
set_option linter.unnecessarySimpa false
section
open Go.RowKit
set_option maxRecDepth 100000
set_option maxHeartbeats 4000000
end
section
open Go.RowKit
set_option maxRecDepth 100000
set_option maxHeartbeats 4000000
def RNewR (L : List Ent) (w : World) (e : Ending) (w' : World) : Prop :=
  ∃ p er at_, e = .returned (.tuple #[.pointer (some ⟨p, 0, none⟩), .int .i64 er, .int .i64 at_]) ∧ NewP L er at_ ∧
    (er = 0 → ∃ Al n cl Av cv ds es, n = L.length ∧ DB 112 w' (fun g => w.heap.size ≤ g) p Al n cl Av cv L (L.map Ent.df) ds es) ∧ Below w.heap.size w w'
end
section
open Go.RowKit
set_option maxRecDepth 100000
set_option maxHeartbeats 4000000
section
variable {F : Nat → Prop} {p n cl cv : Nat} {Al Av : Option Addr} {L : List Ent} {V : List (List UInt8)} {ds es : List (Option Addr × Nat)}
def RPutR (F : Nat → Prop) (p n cl : Nat) (Al Av : Option Addr) (cv : Nat) (L : List Ent) (V : List (List UInt8)) (ds : List (Option Addr × Nat)) (ix sub : Int) (b : List UInt8) (any : Bool) (w : World) (e : Ending) (w' : World) : Prop :=
  ∃ V' es', e = .returned (.int .u32 (mayC L ix sub b any)) ∧ V' = putV L V ix sub b any ∧ DB 112 w' (fun g => F g ∨ w.heap.size ≤ g) p Al n cl Av cv L V' ds es' ∧ Only F w w'
def RResetR (F : Nat → Prop) (p n cl : Nat) (Al Av : Option Addr) (cv : Nat) (L : List Ent) (ds : List (Option Addr × Nat)) (w : World) (e : Ending) (w' : World) : Prop :=
  ∃ es', e = .returned (.tuple #[]) ∧ DB 112 w' (fun g => F g ∨ w.heap.size ≤ g) p Al n cl Av cv L (L.map Ent.df) ds es' ∧ Only F w w'
end
end
end
end Go.Proofs.YtehabbnohoomjaaGreatDoor
namespace Go.Proofs.YtehabbnohoomjaaGreatDoor
section
set_option linter.unusedVariables false
set_option linter.unusedSimpArgs false
set_option linter.unnecessarySimpa false
open Go.RowKit
set_option maxRecDepth 100000
set_option maxHeartbeats 4000000
def lightE (E : Ent) : Bool := decide (E.df.length ≤ 1000) && decide (E.nm.size ≤ 1000)
def lightL (L : List Ent) : Bool := decide (L.length ≤ 200) && L.all lightE
end
end Go.Proofs.YtehabbnohoomjaaGreatDoor
namespace Go.Proofs.YtehabbnohoomjaaGreatDoor
section
set_option linter.unusedVariables false
set_option linter.unusedSimpArgs false
set_option linter.unnecessarySimpa false
open Go.RowKit
set_option maxRecDepth 20000
set_option maxHeartbeats 1000000

def lightB (L : List SV) : Bool := decide (L.length ≤ 200 ∧ ∀ v ∈ L, v.data.length ≤ 2000)
end
end Go.Proofs.YtehabbnohoomjaaGreatDoor
namespace Go.Proofs.YtehabbnohoomjaaGreatDoor
section
set_option linter.unusedVariables false
set_option linter.unusedSimpArgs false
set_option linter.unnecessarySimpa false
open Go.RowKit
set_option maxRecDepth 100000
set_option maxHeartbeats 4000000
/-- all values poked, one behind the other -/
def pokeAll (L : List Ent) (V : List (List UInt8)) (X : List SV) : List (List UInt8) := X.foldl (fun V v => putV L V v.ix v.sub v.data true) V
theorem pokeAll_take {L : List Ent} {V : List (List UInt8)} {X : List SV} {k : Nat} {v : SV} (h : X[k]? = some v) : pokeAll L V (X.take (k + 1)) = putV L (pokeAll L V (X.take k)) v.ix v.sub v.data true := by
  obtain ⟨hk, rfl⟩ := List.getElem?_eq_some_iff.1 h
  unfold pokeAll
  rw [List.take_succ_eq_append_getElem hk, List.foldl_append]
  rfl
def MadeR (L : List Ent) (X : List SV) (w : World) (e : Ending) (w' : World) : Prop :=
  ∃ vd vr ok, e = .returned (.tuple #[vd, vr, .bool ok]) ∧ (ok = true → ∃ p pr, vd = .pointer (some ⟨p, 0, none⟩) ∧ vr = .pointer (some ⟨pr, 0, none⟩) ∧ TwoD w.heap.size (fun _ => False) L (pokeAll L (L.map Ent.df) X) pr w' p ∧ SortedE L ∧ lightL L = true ∧ lightB X = true ∧ ∀ E ∈ L, rightE E = 0) ∧
    (ok = false → vd = .pointer none ∧ vr = .pointer none) ∧ Below w.heap.size w w'
end
end Go.Proofs.YtehabbnohoomjaaGreatDoor
namespace Go.Proofs.YtehabbnohoomjaaGreatDoor
section
set_option linter.unusedVariables false
set_option linter.unusedSimpArgs false
set_option linter.unnecessarySimpa false
open Go.RowKit
set_option maxRecDepth 100000
set_option maxHeartbeats 4000000
/-- how many lie in the groups from 2 to below k -/
def cntG (X : List SV) : Nat → Nat
  | 0 => 0
  | k + 1 => cntG X k + (if 2 ≤ k then (X.filter (fun v => inE v.ix k)).length else 0)
theorem of_len (L : List Ent) (V : List (List UInt8)) (g : Int) : (ofV L V g).length ≤ L.length := by
  induction L generalizing V with
  | nil => cases V <;> simp [ofV]
  | cons E L ih =>
    cases V with
    | nil => simp [ofV]
    | cons u V =>
      have := ih V
      rw [ofV]
      split <;> simp <;> omega
end
end Go.Proofs.YtehabbnohoomjaaGreatDoor
namespace Go.Proofs.YtehabbnohoomjaaGreatDoor
section
set_option linter.unusedVariables false
set_option linter.unusedSimpArgs false
set_option linter.unnecessarySimpa false
set_option maxHeartbeats 1000000
def ahV (u v : SV) : Bool := aheadB u.ix u.sub v.ix v.sub
def placeE (u v : SV) : Prop := u.ix = v.ix ∧ u.sub = v.sub
/-- put at its place -/
def insV : List SV → SV → List SV
  | [], v => [v]
  | u :: L, v => if ahV u v = true then u :: insV L v else if ahV v u = true then v :: u :: L else v :: L
def SortV (L : List SV) : Prop := L.Pairwise (fun u v => ahV u v = true)
def OnceV (L : List SV) : Prop := L.Pairwise (fun u v => ¬ placeE u v)
/-- at its index -/
theorem ins_at {L : List SV} {v : SV} : ∀ {i : Nat}, i ≤ L.length → (∀ j u, j < i → L[j]? = some u → ahV u v = true) → (∀ u, L[i]? = some u → ahV u v = false) →
    insV L v = L.take i ++ v :: (if (∃ u, L[i]? = some u ∧ ahV v u = false) then L.drop (i + 1) else L.drop i) := by
  induction L with
  | nil =>
    intro i hi _ _
    have : i = 0 := by simpa using hi
    subst this
    simp [insV]
  | cons x L ih =>
    intro i hi h1 h2
    cases i with
    | zero =>
      have hx := h2 x rfl
      rw [insV, if_neg (by rw [hx]; decide)]
      cases hv : ahV v x
      · rw [if_neg (by decide), if_pos ⟨x, rfl, hv⟩]
        rfl
      · rw [if_pos rfl, if_neg (by rintro ⟨u, e, h⟩; injection e with e; subst e; rw [hv] at h; cases h)]
        rfl
    | succ i =>
      have hx := h1 0 x (by omega) rfl
      rw [insV, if_pos hx, ih (i := i) (by simpa using hi) (fun j u hj hu => h1 (j + 1) u (by omega) (by simpa using hu)) (fun u hu => h2 u (by simpa using hu))]
      simp
def joinV (a b : List SV) : List SV := b.foldl insV (a.foldl insV [])
/-! selection -/
def svZ : SV := ⟨0, 0, []⟩
def minF (L : List SV) : Nat → Nat
  | 0 => 0
  | i + 1 => if ahV (L.getD i svZ) (L.getD (minF L i) svZ) = true then i else minF L i
def selV : Nat → List SV → List SV
  | 0, _ => []
  | f + 1, L => if L.length = 0 then [] else L.getD (minF L L.length) svZ :: selV f (L.take (minF L L.length) ++ L.drop (minF L L.length + 1))
/-- those of a whose place is not in b -/
def metB (b : List SV) (u : SV) : Bool := b.any fun v => decide (v.ix = u.ix) && decide (v.sub = u.sub)
def restV (a b : List SV) : List SV := a.filter fun u => !metB b u
theorem joinV_len (a b : List SV) : (joinV a b).length ≤ a.length + b.length := by
  have h1 : ∀ (L : List SV) (v : SV), (insV L v).length ≤ L.length + 1 := by
    intro L v
    induction L with
    | nil => simp [insV]
    | cons x L ih =>
      rw [insV]
      split
      · simp; omega
      · split <;> simp
  have h2 : ∀ (X L : List SV), (X.foldl insV L).length ≤ L.length + X.length := by
    intro X
    induction X with
    | nil => intro L; simp
    | cons v X ih => intro L; have := ih (insV L v); have := h1 L v; simp; omega
  have h3 := h2 a []
  have h4 := h2 b (a.foldl insV [])
  unfold joinV
  simp at h3
  omega
end
end Go.Proofs.YtehabbnohoomjaaGreatDoor
