/- The groups of values that are stored, plain; and the walk of SnapGroups. -/
import Derived.Test.YtmnldciobeeleaaSnpA
import Derived.Test.YtmnldciobeeleaaMade
import Derived.Test.YtmnldciobeeleaaSnapC
namespace Go.Proofs.Ytmnldciobeeleaa
set_option linter.unusedVariables false
set_option linter.unusedSimpArgs false
set_option linter.unnecessarySimpa false
open Go.RowKit
set_option maxRecDepth 100000
set_option maxHeartbeats 4000000
theorem inE_one (ix : Int) : inE ix 1 = true := by simp [inE]
theorem ofV_filter (L : List Ent) (V : List (List UInt8)) (g : Int) : ofV L V g = (ofV L V 1).filter (fun v => inE v.ix g) := by
  induction L generalizing V with
  | nil => cases V <;> rfl
  | cons E L ih =>
    cases V with
    | nil => rfl
    | cons v V =>
      rw [ofV, ofV, inE_one]
      cases hs : E.st
      · simp [ih V]
      · cases hg : inE E.ix g
        · simp [hg, ih V]
        · simp [hg, ih V]
theorem drop_own (X : List SV) (g : Int) : dropL (X.filter (fun v => inE v.ix g)) g = [] := by
  unfold dropL
  rw [List.filter_filter]
  apply List.filter_eq_nil_iff.2
  intro v _
  rw [inB_inE]
  cases inE v.ix g <;> simp
theorem drop_count (X : List SV) (g : Int) : (dropL X g).length + (X.filter (fun v => inE v.ix g)).length = X.length := by
  induction X with
  | nil => rfl
  | cons v X ih =>
    unfold dropL at *
    rw [List.filter_cons, List.filter_cons, inB_inE]
    cases inE v.ix g
    · simp; omega
    · simp; omega
theorem drop_one (X : List SV) : dropL X 1 = [] := by
  unfold dropL
  apply List.filter_eq_nil_iff.2
  intro v _
  rw [inB_inE, inE_one]
  simp
theorem drop_five (X : List SV) : dropL X 5 = X := by
  unfold dropL
  apply List.filter_eq_self.2
  intro v _
  rw [inB_inE]
  simp [inE]
theorem of_zero (L : List Ent) (V : List (List UInt8)) : ofV L V 0 = [] := by
  rw [ofV_filter]
  apply List.filter_eq_nil_iff.2
  intro v _
  simp [inE]
/-- how many lie in the groups from 2 to below k -/
def cntG (X : List SV) : Nat → Nat
  | 0 => 0
  | k + 1 => cntG X k + (if 2 ≤ k then (X.filter (fun v => inE v.ix k)).length else 0)
theorem cnt_le (X : List SV) : cntG X 5 ≤ X.length := by
  have e : ∀ X : List SV, cntG X 5 = (X.filter (fun v => inE v.ix 2)).length + (X.filter (fun v => inE v.ix 3)).length + (X.filter (fun v => inE v.ix 4)).length := by intro X; simp [cntG]
  rw [e]
  induction X with
  | nil => simp
  | cons v X ih =>
    have h : (if inE v.ix 2 = true then 1 else 0) + (if inE v.ix 3 = true then 1 else 0) + (if inE v.ix 4 = true then 1 else 0) ≤ 1 := by
      simp only [inE, decide_eq_true_eq]
      (repeat' split) <;> omega
    simp only [List.filter_cons, List.length_cons]
    (repeat' split) <;> simp_all <;> omega
theorem of_fits {T : TypeId} {w : World} {F : Nat → Prop} {p n cl cv : Nat} {Al Av : Option Addr} {L : List Ent} {V : List (List UInt8)} {ds es : List (Option Addr × Nat)} (h : DB T w F p Al n cl Av cv L V ds es) (g : Int) : fitsV (ofV L V g) := by
  have h1 := h.fv
  clear h
  induction L generalizing V with
  | nil => cases V <;> (intro v hv; simp [ofV] at hv)
  | cons E L ih =>
    cases V with
    | nil => intro v hv; simp [ofV] at hv
    | cons u V =>
      have h2 := ih (V := V) (fun v hv => h1 v (by simp [hv]))
      intro v hv
      rw [ofV] at hv
      split at hv
      · rcases List.mem_cons.1 hv with rfl | hv
        · exact h1 u (by simp)
        · exact h2 v hv
      · exact h2 v hv
theorem of_len (L : List Ent) (V : List (List UInt8)) (g : Int) : (ofV L V g).length ≤ L.length := by
  induction L generalizing V with
  | nil => cases V <;> simp [ofV]
  | cons E L ih =>
    cases V with
    | nil => simp [ofV]
    | cons u V =>
      have := ih V
      rw [ofV]
      split <;> simp <;> omega
end Go.Proofs.Ytmnldciobeeleaa
