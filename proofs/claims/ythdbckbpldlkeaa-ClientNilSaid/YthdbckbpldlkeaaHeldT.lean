/- A region that draws its order and writes, at its end, what it read at its beginning: operations that wait for every operation of a list T owe nothing to S. No program in sight. -/
import Derived.RegionTactic
import Derived.Deep.RegionHeld3
namespace Go.Proofs.Ythdbckbpldlkeaa
set_option linter.unusedVariables false
set_option linter.unusedSimpArgs false
set_option linter.unnecessarySimpa false
open Go
section
variable {P : Program} {ops : Array Oper} {Q : Exit → Act → World → Prop} {md : Region.Mode} {S : World → Prop} {T : List Nat}

/-- operation j waits for i, by itself or by what it waits for -/
def waitsF (md : Region.Mode) (ops : Array Oper) : Nat → Nat → Nat → Bool
  | 0, _, _ => false
  | f + 1, i, j => match ops[j]? with | some o => o.after.any (fun e => Region.binds md e && (e.on == i || waitsF md ops f i e.on)) | none => false
/-- operation j waits for each one of T -/
def waitsT (md : Region.Mode) (ops : Array Oper) (T : List Nat) (j : Nat) : Bool := T.all fun i => waitsF md ops ops.size i j
/-- what a listed operation waits for is listed -/
def closedL (md : Region.Mode) (ops : Array Oper) (listed : Array Bool) : Prop := ∀ (k : Nat) (o : Oper), ops[k]? = some o → listed.getD k false = true → ∀ e ∈ o.after, Region.binds md e = true → listed.getD e.on false = true
def closedB (md : Region.Mode) (ops : Array Oper) (listed : Array Bool) : Bool := (List.range ops.size).all fun k => !(listed.getD k false) || match ops[k]? with | some o => o.after.all (fun e => !(Region.binds md e) || listed.getD e.on false) | none => true
theorem closed_of {listed : Array Bool} (h : closedB md ops listed = true) : closedL md ops listed := by
  intro k o ho hk e he hb
  unfold closedB at h
  rw [List.all_eq_true] at h
  have h1 := h k (List.mem_range.2 (Array.getElem?_eq_some_iff.1 ho).1)
  rw [hk, ho] at h1
  simp only [Bool.not_true, Bool.false_or] at h1
  have h2 := Array.all_eq_true_iff_forall_mem.1 h1 e he
  rw [hb] at h2
  simpa using h2
theorem waitsF_listed {listed : Array Bool} (hc : closedL md ops listed) {i : Nat} : ∀ (f j : Nat) (o : Oper), ops[j]? = some o → (∀ e ∈ o.after, Region.binds md e = true → listed.getD e.on false = true) → waitsF md ops f i j = true → listed.getD i false = true := by
  intro f
  induction f with
  | zero => intro j o _ _ h; cases h
  | succ f ih =>
    intro j o ho hall h
    rw [waitsF, ho] at h
    obtain ⟨e, he, hb⟩ := Array.any_eq_true'.1 h
    simp only [Bool.and_eq_true, Bool.or_eq_true, beq_iff_eq] at hb
    have hl := hall e he hb.1
    rcases hb.2 with h1 | h1
    · rw [← h1]; exact hl
    · cases hk : ops[e.on]? with
      | none =>
        cases f with
        | zero => cases h1
        | succ f => rw [waitsF, hk] at h1; cases h1
      | some o' => exact ih e.on o' hk (hc e.on o' hk hl) h1
/-- whatever comes up: S is owed behind each operation that does not wait for all of T -/
def wpAnyT (P : Program) (md : Region.Mode) (ops : Array Oper) (Q : Exit → Act → World → Prop) (S : World → Prop) (T : List Nat) : Nat → Array Bool → Act → World → Prop
  | 0, listed, a, w => Region.ready md ops listed = [] ∧ Q .normal a w
  | f + 1, listed, a, w => (Region.ready md ops listed = [] → Q .normal a w) ∧
    ∀ j ∈ Region.ready md ops listed, wpOp P ops Q j (fun a' w' => (waitsT md ops T j = false → S w') ∧ wpAnyT P md ops Q S T f (listed.setIfInBounds j true) a' w') a w
theorem wpAnyT.any : ∀ {f : Nat} {listed : Array Bool} {a : Act} {w : World}, wpAnyT P md ops Q S T f listed a w → wpAny P md ops Q f listed a w
  | 0, _, _, _, h => h
  | _ + 1, _, _, _, h => And.intro h.1 (fun j hj => wpOp_mono (fun _ _ h' => wpAnyT.any h'.2) (h.2 j hj))
theorem waitsT_no {listed : Array Bool} (hc : closedL md ops listed) {i j : Nat} (hT : i ∈ T) (hi : listed.getD i true = false) (hj : j ∈ Region.ready md ops listed) : waitsT md ops T j = false := by
  obtain ⟨_, o, ho, hall⟩ := mem_ready.1 hj
  unfold waitsT
  rw [List.all_eq_false]
  refine ⟨i, hT, ?_⟩
  intro h
  have h1 := waitsF_listed hc _ j o ho hall h
  rcases Nat.lt_or_ge i listed.size with h2 | h2
  · rw [Array.getD, dif_pos h2] at h1 hi
    rw [h1] at hi
    cases hi
  · rw [Array.getD, dif_neg (by omega)] at h1
    cases h1
theorem closed_step {listed : Array Bool} (hc : closedL md ops listed) {j : Nat} (hj : j ∈ Region.ready md ops listed) : closedL md ops (listed.setIfInBounds j true) := by
  intro k o ho hk e he hb
  refine getD_set_true ?_
  rcases Nat.decEq j k with hne | rfl
  · refine hc k o ho ?_ e he hb
    simpa [Array.getElem?_setIfInBounds_ne hne] using hk
  · obtain ⟨_, o', ho', hall⟩ := mem_ready.1 hj
    rw [ho] at ho'
    injection ho' with ho'
    subst ho'
    exact hall e he hb
theorem wpAnyT.first {i : Nat} {oi : Oper} {v : Value} (hT : i ∈ T) (hi : ops[i]? = some oi) (hsel : ∀ (j : Nat) (o : Oper) cs b, ops[j]? = some o → o.op ≠ .select cs b)
    (hQ : ∀ c a w, Q (.panic c) (a.put oi.dst v) w → Q (.panic c) a w) (f : Nat) :
    ∀ (listed : Array Bool) (a : Act) (w : World), closedL md ops listed →
      (∀ j oj, ops[j]? = some oj → j ≠ i → listed.getD j true = false → (∀ e ∈ oj.after, Region.binds md e = true → e.on ≠ i) → oi.apart ops oj = true) →
      i ∈ Region.ready md ops listed → YieldsIf P ops S oi v a → S w →
      wpAnyT P md ops Q S T f (listed.setIfInBounds i true) (a.put oi.dst v) w → wpAnyT P md ops Q S T (f + 1) listed a w := by
  induction f with
  | zero =>
    intro listed a w _ _ hr hy hS H
    refine ⟨fun h0 => (by rw [h0] at hr; cases hr), fun j hj => ?_⟩
    rcases Nat.decEq j i with hji | rfl
    · have h1 := ready_mono hj hji
      rw [H.1] at h1
      cases h1
    · exact hy.wpOp hi hS ⟨fun _ => hS, H⟩
  | succ f ih =>
    intro listed a w hcl hfr hr hy hS H
    refine ⟨fun h0 => (by rw [h0] at hr; cases hr), fun j hj => ?_⟩
    rcases Nat.decEq j i with hji | rfl
    · have hnw := waitsT_no hcl hT (mem_ready.1 hr).1 hj
      have hju := (mem_ready.1 hj).1
      obtain ⟨_, oj, hoj, hall⟩ := mem_ready.1 hj
      have hno : ∀ e ∈ oj.after, Region.binds md e = true → e.on ≠ i := by
        rintro e he hb rfl
        have h1 := hall e he hb
        have h0 := (mem_ready.1 hr).1
        rcases Nat.lt_or_ge e.on listed.size with h2 | h2
        · rw [Array.getD, dif_pos h2] at h0 h1
          rw [h1] at h0
          cases h0
        · rw [Array.getD, dif_neg (by omega)] at h1
          cases h1
      have hp := wpOp_putIf hoj (hfr j oj hoj hji hju hno) (fun cs b => hsel i oi cs b hi) (fun cs b => hsel j oj cs b hoj) hQ hy (H.2 j (ready_mono hj hji))
      refine wpOp_mono ?_ hp
      rintro a' w' ⟨hy', hS', hrest⟩
      refine ⟨fun _ => hS' hnw, ih (listed.setIfInBounds j true) a' w' (closed_step hcl hj) ?_ (ready_mono hr (Ne.symm hji)) hy' (hS' hnw) (by rw [Array.setIfInBounds_comm _ _ hji]; exact hrest)⟩
      intro m om hm hmi hmu hmn
      refine hfr m om hm hmi ?_ hmn
      rcases Nat.decEq j m with hjm | rfl
      · rw [getD_set_ne true hjm] at hmu; exact hmu
      · exact hju
    · exact hy.wpOp hi hS ⟨fun _ => hS, H⟩
/-- take number i of T first -/
theorem wpAnyT_take {i : Nat} {oi : Oper} {v : Value} {f : Nat} {listed : Array Bool} {a : Act} {w : World} (hT : T.contains i = true) (hcl : closedB md ops listed = true) (hi : ops[i]? = some oi)
    (hs : Region.noSelect ops = true) (hf : Region.free md ops listed i = true) (hr : (Region.ready md ops listed).contains i = true)
    (hQ : ∀ c a w, Q (.panic c) (a.put oi.dst v) w → Q (.panic c) a w) (hy : YieldsIf P ops S oi v a) (hS : S w)
    (h : wpAnyT P md ops Q S T f (listed.setIfInBounds i true) (a.put oi.dst v) w) : wpAnyT P md ops Q S T (f + 1) listed a w :=
  wpAnyT.first (by simpa using hT) hi (Region.noSelect_spec hs) hQ f listed a w (closed_of hcl) (Region.free_spec hi hf) (by simpa using hr) hy hS h
/-- number i comes up alone; S is shown behind it -/
theorem wpAnyT_one {i : Nat} {o : Oper} {f : Nat} {listed : Array Bool} {a : Act} {w : World} (ho : ops[i]? = some o) (hr : Region.ready md ops listed = [i])
    (h : ∀ K' : Act → World → Prop, Shut (∀ a w, S w → (S w → wpAnyT P md ops Q S T f (listed.setIfInBounds i true) a w) → K' a w) → if Region.wanted o (yielded ops a.tmps) = true then Oper.wp P o a w K' Q else K' (a.put o.dst undef) w) :
    wpAnyT P md ops Q S T (f + 1) listed a w := by
  refine ⟨fun h0 => (by rw [hr] at h0; cases h0), ?_⟩
  rw [hr]
  intro j hj
  obtain rfl := List.mem_singleton.1 hj
  exact wpOp_step ho (fun K' hK => h K' (fun a w hS hW => hK a w ⟨fun _ => hS, hW hS⟩))
/-- number i comes up alone and waits for all of T: it owes nothing -/
theorem wpAnyT_late {i : Nat} {o : Oper} {f : Nat} {listed : Array Bool} {a : Act} {w : World} (ho : ops[i]? = some o) (hr : Region.ready md ops listed = [i]) (hw : waitsT md ops T i = true)
    (h : ∀ K' : Act → World → Prop, Shut (∀ a w, wpAnyT P md ops Q S T f (listed.setIfInBounds i true) a w → K' a w) → if Region.wanted o (yielded ops a.tmps) = true then Oper.wp P o a w K' Q else K' (a.put o.dst undef) w) :
    wpAnyT P md ops Q S T (f + 1) listed a w := by
  refine ⟨fun h0 => (by rw [hr] at h0; cases h0), ?_⟩
  rw [hr]
  intro j hj
  obtain rfl := List.mem_singleton.1 hj
  exact wpOp_step ho (fun K' hK => h K' (fun a w hW => hK a w ⟨fun h0 => (by rw [hw] at h0; cases h0), hW⟩))
theorem wpAnyT_done {listed : Array Bool} {a : Act} {w : World} (hr : Region.ready md ops listed = []) (h : Q .normal a w) : ∀ f, wpAnyT P md ops Q S T f listed a w
  | 0 => ⟨hr, h⟩
  | _ + 1 => ⟨fun _ => h, by rw [hr]; intro j hj; cases hj⟩
theorem wp_region_T (S : World → Prop) (T : List Nat) {id : Nat} {a : Act} {w : World} (hm : P.follows .mixedOrders = true) (hS : S w.drew)
    (h : S w.drew → wpAnyT P .any ops Q S T ops.size (Array.replicate ops.size false) a w.drew) : (Code.region id ops true).wp P Q a w :=
  wp_region_any hm (wpAnyT.any (h hS))
end
end Go.Proofs.Ythdbckbpldlkeaa
