/- Dictionaries, plain: each value is one of its entry, always. No program in sight. -/
import Derived.Test.YtehabbnohoomjaaGreatDoorC37
import Derived.Test.YtehabbnohoomjaaGreatDoorC40
import Derived.Test.YtehabbnohoomjaaGreatDoorC11
import Derived.Test.YtehabbnohoomjaaGreatDoorC22
import Derived.Test.YtehabbnohoomjaaGreatDoorC13
import Derived.Test.YtehabbnohoomjaaGreatDoorC34
import Derived.Test.YtehabbnohoomjaaGreatDoorC31
namespace Go.Proofs.YtehabbnohoomjaaGreatDoor
section
set_option linter.unusedVariables false
set_option linter.unusedSimpArgs false
set_option linter.unnecessarySimpa false
open Go.RowKit
/-- each value is one of its entry -/
def ValsP (L : List Ent) (V : List (List UInt8)) : Prop := ∀ (j : Nat) E v, L[j]? = some E → V[j]? = some v → valC E v = 0
theorem right_val {E : Ent} (h : rightE E = 0) : valC E E.df = 0 := by
  unfold rightE at h
  unfold valC
  split at h
  · omega
  split at h
  · omega
  split at h
  · omega
  split at h
  · omega
  split at h
  · omega
  split at h
  · omega
  · rename_i hh; simpa using hh
theorem vals_df {L : List Ent} (h : ∀ E ∈ L, rightE E = 0) : ValsP L (L.map Ent.df) := by
  intro j E v hE hv
  rw [List.getElem?_map, hE] at hv
  simp at hv
  subst hv
  exact right_val (h E (List.mem_of_getElem? hE))
theorem may_val {L : List Ent} {ix sub : Int} {b : List UInt8} {any : Bool} (h : mayC L ix sub b any = 0) : valC (entK L (locK L ix sub)) b = 0 := by
  unfold mayC at h
  split at h
  · split at h
    · rename_i h1 h2; exact absurd h h2.2
    · exact h
  · rename_i h1; exact absurd h h1
theorem vals_put {L : List Ent} (hs : SortedE L) {V : List (List UInt8)} (hV : V.length = L.length) (h : ValsP L V) (ix sub : Int) (b : List UInt8) (any : Bool) : ValsP L (putV L V ix sub b any) := by
  intro j E v hE hv
  rw [put_at hs hV hE] at hv
  split at hv
  · rename_i hp
    injection hv with hv
    subst hv
    have h1 := may_val hp.2.2
    rw [(place_one hs hE ⟨hp.1, hp.2.1⟩).1, entK_at hE] at h1
    exact h1
  · exact h j E v hE hv
end
end Go.Proofs.YtehabbnohoomjaaGreatDoor
namespace Go.Proofs.YtehabbnohoomjaaGreatDoor
section
set_option linter.unusedVariables false
set_option linter.unusedSimpArgs false
set_option linter.unnecessarySimpa false
open Go.RowKit
theorem ofV_mem {L : List Ent} {V : List (List UInt8)} {g : Int} {v : SV} (h : v ∈ ofV L V g) : ∃ (k : Nat) (E : Ent) (u : List UInt8), L[k]? = some E ∧ V[k]? = some u ∧ E.st = true ∧ v = ⟨E.ix, E.sub, u⟩ := by
  induction L generalizing V with
  | nil => cases V <;> simp [ofV] at h
  | cons E L ih =>
    cases V with
    | nil => simp [ofV] at h
    | cons u V =>
      rw [ofV] at h
      split at h
      · rename_i hs
        rcases List.mem_cons.1 h with rfl | h
        · exact ⟨0, E, u, rfl, rfl, hs.1, rfl⟩
        · obtain ⟨k, E', u', h1, h2, h3, h4⟩ := ih h
          exact ⟨k + 1, E', u', by simpa using h1, by simpa using h2, h3, h4⟩
      · obtain ⟨k, E', u', h1, h2, h3, h4⟩ := ih h
        exact ⟨k + 1, E', u', by simpa using h1, by simpa using h2, h3, h4⟩
theorem mem_ofV {L : List Ent} {V : List (List UInt8)} {g : Int} {k : Nat} {E : Ent} {u : List UInt8} (hE : L[k]? = some E) (hv : V[k]? = some u) (hs : E.st = true) (hg : inE E.ix g = true) : (⟨E.ix, E.sub, u⟩ : SV) ∈ ofV L V g := by
  induction L generalizing V k with
  | nil => simp at hE
  | cons D L ih =>
    cases V with
    | nil => simp at hv
    | cons x V =>
      rw [ofV]
      cases k with
      | zero =>
        simp at hE hv
        subst hE
        subst hv
        rw [if_pos ⟨hs, hg⟩]
        exact List.mem_cons_self
      | succ k =>
        have := ih (V := V) (k := k) (by simpa using hE) (by simpa using hv)
        split
        · exact List.mem_cons_of_mem _ this
        · exact this
theorem place_inj {L : List Ent} (hs : SortedE L) {k j : Nat} {E D : Ent} (hE : L[k]? = some E) (hD : L[j]? = some D) (h : D.ix = E.ix ∧ D.sub = E.sub) : j = k := by
  have h1 := (place_one hs hE ⟨rfl, rfl⟩).1
  have h2 := (place_one hs hD h).1
  omega
theorem may_self {L : List Ent} (hs : SortedE L) {k : Nat} {E : Ent} (hE : L[k]? = some E) (b : List UInt8) : mayC L E.ix E.sub b true = valC E b := by
  have h := place_one hs hE ⟨rfl, rfl⟩
  unfold mayC
  rw [if_pos h.2, if_neg (by simp), h.1, entK_at hE]
/-- a value of an entry that is stored, as V has it -/
def OfP (L : List Ent) (V : List (List UInt8)) (v : SV) : Prop := ∃ (k : Nat) (E : Ent) (u : List UInt8), L[k]? = some E ∧ V[k]? = some u ∧ E.st = true ∧ valC E u = 0 ∧ v = ⟨E.ix, E.sub, u⟩
theorem of_P {L : List Ent} {V : List (List UInt8)} (hv : ValsP L V) (g : Int) : ∀ v ∈ ofV L V g, OfP L V v := by
  intro v h
  obtain ⟨k, E, u, h1, h2, h3, h4⟩ := ofV_mem h
  exact ⟨k, E, u, h1, h2, h3, hv k E u h1 h2, h4⟩
theorem check_of {L : List Ent} (hs : SortedE L) {V : List (List UInt8)} {X : List SV} (h : ∀ v ∈ X, OfP L V v) : checkL L X = 0 := by
  induction X with
  | nil => rfl
  | cons v X ih =>
    rw [checkL]
    obtain ⟨k, E, u, h1, h2, h3, h4, rfl⟩ := h v (by simp)
    have hc : chkS L ⟨E.ix, E.sub, u⟩ = 0 := by
      have hf := find_self hs h1
      have hl := (place_one hs h1 ⟨rfl, rfl⟩).1
      unfold chkS
      simp only []
      rw [hl, entK_at h1, h3, h4, show hasL L E.ix E.sub = true by unfold hasL; rw [hf]; simp]
      rfl
    rw [hc]
    exact ih (fun v hv => h v (by simp [hv]))
theorem poke_far {L : List Ent} (hs : SortedE L) {V1 : List (List UInt8)} {X : List SV} (h : ∀ v ∈ X, OfP L V1 v) {V : List (List UInt8)} (hV : V.length = L.length) {k : Nat} {E : Ent} (hE : L[k]? = some E) (hst : E.st = false) : (pokeAll L V X)[k]? = V[k]? := by
  unfold pokeAll
  induction X generalizing V with
  | nil => rfl
  | cons v X ih =>
    rw [List.foldl_cons, ih (fun v hv => h v (by simp [hv])) (by rw [putV_length]; exact hV)]
    obtain ⟨j, D, u, h1, h2, h3, h4, rfl⟩ := h v (by simp)
    rw [put_at hs hV hE, if_neg]
    rintro ⟨e1, e2, _⟩
    have := place_inj hs h1 hE ⟨e1, e2⟩
    subst this
    rw [hE] at h1
    injection h1 with h1
    subst h1
    rw [hst] at h3
    cases h3
theorem poke_near {L : List Ent} (hs : SortedE L) {V1 : List (List UInt8)} {X : List SV} (h : ∀ v ∈ X, OfP L V1 v) {V : List (List UInt8)} (hV : V.length = L.length) {k : Nat} {E : Ent} {u : List UInt8} (hE : L[k]? = some E) (hu : V1[k]? = some u)
    (hk : V[k]? = some u ∨ (⟨E.ix, E.sub, u⟩ : SV) ∈ X) : (pokeAll L V X)[k]? = some u := by
  unfold pokeAll
  induction X generalizing V with
  | nil =>
    rcases hk with hk | hk
    · exact hk
    · cases hk
  | cons v X ih =>
    rw [List.foldl_cons]
    refine ih (fun v hv => h v (by simp [hv])) (by rw [putV_length]; exact hV) ?_
    obtain ⟨j, D, x, h1, h2, h3, h4, rfl⟩ := h v (by simp)
    by_cases hp : E.ix = D.ix ∧ E.sub = D.sub
    · left
      have hj := place_inj hs h1 hE hp
      subst hj
      rw [hE] at h1
      injection h1 with h1
      subst h1
      rw [hu] at h2
      injection h2 with h2
      subst h2
      rw [put_at hs hV hE, if_pos ⟨rfl, rfl, by rw [may_self hs hE]; exact h4⟩]
    · rcases hk with hk | hk
      · left
        rw [put_at hs hV hE, if_neg (fun hh => hp ⟨hh.1, hh.2.1⟩)]
        exact hk
      · right
        rcases List.mem_cons.1 hk with hk | hk
        · injection hk with k1 k2 k3
          exact absurd ⟨k1, k2⟩ hp
        · exact hk
theorem ofV_congr {L : List Ent} {V V' : List (List UInt8)} (g : Int) (hV : V.length = L.length) (hV' : V'.length = L.length) (h : ∀ (k : Nat) E, L[k]? = some E → E.st = true → V[k]? = V'[k]?) : ofV L V g = ofV L V' g := by
  induction L generalizing V V' with
  | nil => cases V <;> cases V' <;> rfl
  | cons E L ih =>
    cases V with
    | nil => simp at hV
    | cons u V =>
      cases V' with
      | nil => simp at hV'
      | cons u' V' =>
        rw [ofV, ofV, ih (by simpa using hV) (by simpa using hV') (fun k E hE hs => by have := h (k + 1) E (by simpa using hE) hs; simpa using this)]
        by_cases hs : E.st = true
        · have := h 0 E rfl hs
          simp at this
          rw [this]
        · rw [if_neg (fun hh => hs hh.1), if_neg (fun hh => hs hh.1)]
theorem poke_len (L : List Ent) (V : List (List UInt8)) (X : List SV) : (pokeAll L V X).length = V.length := by
  unfold pokeAll
  induction X generalizing V with
  | nil => rfl
  | cons v X ih => rw [List.foldl_cons, ih, putV_length]
theorem poke_carry {L : List Ent} (hs : SortedE L) {V1 V2 : List (List UInt8)} (h1 : V1.length = L.length) (h2 : V2.length = L.length) (hv : ValsP L V1) :
    checkL L (ofV L V1 1) = 0 ∧ applyV L V2 (ofV L V1 1) = pokeAll L V2 (ofV L V1 1) ∧ ofV L (pokeAll L V2 (ofV L V1 1)) 1 = ofV L V1 1 ∧ ∀ (k : Nat) E, L[k]? = some E → E.st = false → (pokeAll L V2 (ofV L V1 1))[k]? = V2[k]? := by
  have hP := of_P hv 1
  have hc := check_of hs hP
  refine ⟨hc, by unfold applyV; rw [if_pos hc], ?_, fun k E hE hst => poke_far hs hP h2 hE hst⟩
  refine ofV_congr 1 (by rw [poke_len]; exact h2) h1 ?_
  intro k E hE hst
  have hk : k < V1.length := by rw [h1]; exact (List.getElem?_eq_some_iff.1 hE).1
  rw [List.getElem?_eq_getElem hk]
  exact poke_near hs hP h2 hE (List.getElem?_eq_getElem hk) (.inr (mem_ofV hE (List.getElem?_eq_getElem hk) hst (inE_one _)))
end
end Go.Proofs.YtehabbnohoomjaaGreatDoor
namespace Go.Proofs.YtehabbnohoomjaaGreatDoor
section
set_option linter.unusedVariables false
set_option linter.unusedSimpArgs false
set_option linter.unnecessarySimpa false
open Go.RowKit
set_option maxRecDepth 20000
set_option maxHeartbeats 8000000

theorem ins_sub : ∀ {L : List SV} {v u : SV}, u ∈ insV L v → u = v ∨ u ∈ L
  | [], v, u, h => by simp [insV] at h; exact .inl h
  | x :: L, v, u, h => by
    rw [insV] at h
    split at h
    · rcases List.mem_cons.1 h with rfl | h
      · exact .inr (List.mem_cons_self ..)
      · exact (ins_sub h).imp id (List.mem_cons_of_mem _)
    · split at h
      · exact (List.mem_cons.1 h).imp id id
      · exact (List.mem_cons.1 h).imp id (List.mem_cons_of_mem _)
theorem fold_sub : ∀ {X L : List SV} {u : SV}, u ∈ X.foldl insV L → u ∈ X ∨ u ∈ L
  | [], L, u, h => .inr h
  | v :: X, L, u, h => by
    rcases fold_sub (X := X) (L := insV L v) h with h | h
    · exact .inl (List.mem_cons_of_mem _ h)
    · exact (ins_sub h).elim (fun e => .inl (by rw [e]; exact List.mem_cons_self ..)) .inr
theorem join_sub {a b : List SV} {u : SV} (h : u ∈ joinV a b) : u ∈ a ∨ u ∈ b := by
  rcases fold_sub h with h | h
  · exact .inr h
  · exact (fold_sub h).imp id (fun h => by cases h)
theorem flat5_ge : ∀ (l : List SV), 5 * l.length ≤ (l.flatMap vbytes).length
  | [] => by simp
  | v :: l => by have h1 := flat5_ge l; have h2 := vbytes_length v; simp only [List.flatMap_cons, List.length_append, List.length_cons]; omega
theorem flat5_mem : ∀ (l : List SV) (v : SV), v ∈ l → v.data.length ≤ (l.flatMap vbytes).length
  | [], v, h => by cases h
  | x :: l, v, h => by
    have h2 := vbytes_length x
    simp only [List.flatMap_cons, List.length_append]
    rcases List.mem_cons.1 h with rfl | h
    · omega
    · have := flat5_mem l v h; omega
theorem built_fits {l : List SV} {b : List UInt8} (h : BuildR l b 0) : l.length ≤ 192 ∧ (∀ v ∈ l, v.data.length ≤ 960) := by
  rcases h with ⟨h, _⟩ | ⟨_, h | h⟩
  · exact absurd rfl h
  · have := h.2.2; omega
  · have h1 := flat5_ge l
    exact ⟨by omega, fun v hv => by have := flat5_mem l v hv; omega⟩
theorem wr_zero {J : JS} {S : FS} {kd : Int} {l : List SV} {R : JS × FS × Int} (h : WrP J S kd l R) (h0 : R.2.2 = 0) : ∃ b, BuildR l b 0 ∧ R = appJ J S kd b := by
  obtain ⟨b, er, hb, ⟨h1, rfl⟩ | ⟨rfl, h2⟩⟩ := h
  · exact absurd h0 h1
  · exact ⟨b, hb, h2⟩
def KeepV (M : Nat) (Fj FL : Nat → Prop) (pv pj : Nat) (q : FP) (A : Option Addr) (n c : Nat) (J : JS) (S : FS) (X : List SV) (odd off : Bool) (kd : Int) (l : List SV) (w : World) (e : Ending) (w' : World) : Prop :=
  ∃ (R : JS × FS × Int) (dj' : List (Option Addr × Nat)) (Fj' FL' : Nat → Prop) (As' : Option Addr) (ns' cs' : Nat) (dx' : List (Option Addr × Nat)), WrP J S kd l R ∧ e = .returned (.int .u32 (codeV R.2.2 : Nat)) ∧
    VD w' M Fj' FL' pv pj q A n c dj' As' ns' cs' dx' R.1 R.2.1 (if R.2.2 = 0 then l else X) (if R.2.2 = 0 then false else odd) (off || decide (R.2.2 = 7)) ∧ Only (fun g => Fj g ∨ q.F g ∨ g = pv) w w' ∧
    (∀ g, Fj' g ∨ FL' g → Fj g ∨ FL g ∨ (w.heap.size ≤ g ∧ g < w'.heap.size))
section
variable {w w' : World} {M pv pj n c ns cs : Nat} {Fj FL : Nat → Prop} {q : FP} {A As : Option Addr} {dj dx : List (Option Addr × Nat)} {J : JS} {S : FS} {X : List SV} {odd off : Bool}
/-- a keep, over the whole vault -/
theorem keep_vd (a : Nat → Addr) (kd : Int) (w w2 : World) (h : VD w2 M Fj FL pv pj q A n c dj As ns cs dx J S X odd off) (hw : Below w.heap.size w w2) (hFw : ∀ g, Fj g ∨ q.F g ∨ FL g ∨ g = pv → g < w.heap.size) (hG : GV w2 a M) (hM : M ≤ w.heap.size) (hrun : RunJ J S) (hops : S.ops + 2000 < 4611686018427387904)
    {Al : Option Addr} {nl cl : Nat} {l : List SV} {dl : List (Option Addr × Nat)} {FN : Nat → Prop} (hO : OwnSV w2 FN Al nl cl l dl) (hFN : ∀ g, FN g → w.heap.size ≤ g ∧ g < w2.heap.size) (hl : nl ≤ 1000) (hf : fitsV l) :
    Calls Tryz.prog 49 #[.pointer (some ⟨pv, 0, none⟩), .int .i64 kd, .slice Al nl cl] w2 (KeepV M Fj FL pv pj q A n c J S X odd off kd l w) := by
  refine (va_keep a M pv (.slice As ns cs) odd off kd Al nl cl l w2 hG (Nat.le_trans hM hw.size) h.mv h.blk h.jd h.fd h.dq hrun hops (fun g hg => h.fw g hg) hO.hn hO.own.le hl hO.slV hf).mono ?_
  rintro e w3 ⟨R, ds', hW, rfl, hB, hJ, hF, ho⟩
  have hfn : ∀ g, FN g → ¬ (Fj g ∨ q.F g ∨ g = pv) := fun g hg hx => by
    have h1 := (hFN g hg).1
    have h2 := hFw g (hx.elim .inl (fun hx => hx.elim (fun h => .inr (.inl h)) (fun h => .inr (.inr (.inr h)))))
    omega
  have hsz := ho.size
  have hwsz := hw.size
  have hJ' : JD w3 (fun g => Fj g ∨ (w2.heap.size ≤ g ∧ g < w3.heap.size)) pj q.p A n c R.1 ds' := hJ.mono (fun g hlt hg => hg.imp id (fun hg => ⟨hg, hlt⟩))
  have hfw : ∀ g, (Fj g ∨ (w2.heap.size ≤ g ∧ g < w3.heap.size)) ∨ q.F g → g < w3.heap.size ∧ M ≤ g ∧ g ≠ pv := by
    rintro g ((hg | hg) | hg)
    · exact ⟨Nat.lt_of_lt_of_le (h.fw g (.inl hg)).1 hsz, (h.fw g (.inl hg)).2⟩
    · have := h.blk.lt
      exact ⟨hg.2, by omega, by omega⟩
    · exact ⟨Nat.lt_of_lt_of_le (h.fw g (.inr hg)).1 hsz, (h.fw g (.inr hg)).2⟩
  have hdq : ∀ g, (Fj g ∨ (w2.heap.size ≤ g ∧ g < w3.heap.size)) → ¬ q.F g := by
    rintro g (hg | hg) hx
    · exact h.dq g hg hx
    · have := (h.fw g (.inr hx)).1
      omega
  have hOn : Only (fun g => Fj g ∨ q.F g ∨ g = pv) w w3 := (Only.of_below hw).trans ho (fun _ _ h => h)
  by_cases h0 : R.2.2 = 0
  · obtain ⟨b, hb, hR⟩ := wr_zero hW h0
    obtain ⟨hb1, hb2⟩ := built_fits hb
    refine ⟨R, ds', (fun g => Fj g ∨ (w2.heap.size ≤ g ∧ g < w3.heap.size)), FN, Al, nl, cl, dl, hW, rfl, ?_, hOn, ?_⟩
    · rw [if_pos h0, if_pos h0] at hB ⊢
      refine ⟨hB, hJ', hF, hO.keep (fun g hg hlt => ho.block g hlt (hfn g hg)), h.mv, hfw, ?_, hdq, by have := hO.hn; omega, fun v hv => by have := hb2 v hv; omega⟩
      intro g hg
      have h1 := hFN g hg
      refine ⟨by omega, by omega, fun e => hfn g hg (.inr (.inr e)), ?_⟩
      rintro ((hx | hx) | hx)
      · exact hfn g hg (.inl hx)
      · omega
      · exact hfn g hg (.inr (.inl hx))
    · rintro g ((hg | hg) | hg)
      · exact .inl hg
      · exact .inr (.inr ⟨by omega, hg.2⟩)
      · have := hFN g hg
        exact .inr (.inr ⟨by omega, by omega⟩)
  · refine ⟨R, ds', (fun g => Fj g ∨ (w2.heap.size ≤ g ∧ g < w3.heap.size)), FL, As, ns, cs, dx, hW, rfl, ?_, hOn, ?_⟩
    · rw [if_neg h0, if_neg h0] at hB ⊢
      refine ⟨hB, hJ', hF, h.row.keep (fun g hg hlt => ho.block g hlt (by
        have h1 := h.lw g hg
        rintro (hx | hx | hx)
        · exact h1.2.2.2 (.inl hx)
        · exact h1.2.2.2 (.inr hx)
        · exact h1.2.2.1 hx)), h.mv, hfw, ?_, hdq, h.sz, h.fit⟩
      intro g hg
      have h1 := h.lw g hg
      refine ⟨by omega, h1.2.1, h1.2.2.1, ?_⟩
      rintro ((hx | hx) | hx)
      · exact h1.2.2.2 (.inl hx)
      · omega
      · exact h1.2.2.2 (.inr hx)
    · rintro g ((hg | hg) | hg)
      · exact .inl hg
      · exact .inr (.inr ⟨by omega, hg.2⟩)
      · exact .inr (.inl hg)
theorem va_store (a : Nat → Addr) (gr : Int) (w : World) (h : VD w M Fj FL pv pj q A n c dj As ns cs dx J S X odd off) (hG : GV w a M) (hM : M ≤ w.heap.size) (hrun : RunJ J S) (hops : S.ops + 2000 < 4611686018427387904) (h1 : 1 ≤ gr ∧ gr ≤ 4)
    {Fd : Nat → Prop} {pd gl nd cl cv : Nat} {Av : Option Addr} {L : List Ent} {V : List (List UInt8)} {ds es : List (Option Addr × Nat)} (hD : DB 102 w Fd pd (some ⟨gl, 0, none⟩) nd cl Av cv L V ds es) (hnd : nd ≤ 200) (hVl : ∀ v ∈ V, v.length ≤ 2000) :
    Calls Tryz.prog 14 #[.pointer (some ⟨pv, 0, none⟩), .pointer (some ⟨pd, 0, none⟩), .int .i64 gr] w (KeepV M Fj FL pv pj q A n c J S X odd off 1 (joinV (dropL X gr) (ofV L V gr)) w) := by
  have HH := hide h
  have hB := h.blk
  unfold vauC at hB
  obtain ⟨hB_c0, hB_c1, hB_c2, hB_c3⟩ := cel4 hB
  have hB_f := hB.frozen
  have HG := hide hG
  have HM := hide hM
  have HRN := hide hrun
  have HOP := hide hops
  have HCK := hide (va_check (pv := pv) (pj := pj) gr w hB_c0)
  rw [if_pos h1] at HCK
  have HDR := hide (snap_drop As ns cs X gr w h.row.hn h.row.own.le (by have := h.sz; omega) h.row.slV (fun v hv => by have := h.fit v hv; omega))
  have HOF := hide (fun W (hb : Below w.heap.size w W) => snap_of gr W (hD.below hb) (show nd ≤ 1000 by omega))
  have HL1 : Hid (lightB (dropL X gr) = true) := hide (by
    unfold lightB
    have hx := h.row.hn
    have hs := h.sz
    have hl : (dropL X gr).length ≤ X.length := List.length_filter_le _ _
    exact decide_eq_true ⟨by omega, fun v hv => h.fit v (List.mem_filter.1 hv).1⟩)
  have HL2 : Hid (lightB (ofV L V gr) = true) := hide (by
    unfold lightB
    have hl := of_len L V gr
    have hx := hD.ents.hn
    refine decide_eq_true ⟨by omega, fun v hv => ?_⟩
    obtain ⟨k, E, u, _, hu, _, rfl⟩ := ofV_mem hv
    exact hVl u (List.mem_of_getElem? hu))
  have HFW : Hid (∀ g, Fj g ∨ q.F g ∨ FL g ∨ g = pv → g < w.heap.size) := hide (by
    rintro g (hg | hg | hg | rfl)
    · exact (h.fw g (.inl hg)).1
    · exact (h.fw g (.inr hg)).1
    · exact (h.lw g hg).1
    · exact h.blk.lt)
  obtain ⟨R0, hR0⟩ : ∃ R0, R0 = KeepV M Fj FL pv pj q A n c J S X odd off 1 (joinV (dropL X gr) (ofV L V gr)) w := ⟨_, rfl⟩
  rw [← hR0]
  have HR := hide hR0
  clear h hG hM hrun hops h1 hD hnd hVl hR0
  go_enter Tryz.func14, Tryz.ntmps14
  go_wp2_with fail
  refine HCK.out.mono ?_
  rintro e w1 ⟨rfl, rfl⟩
  go_wp2_with fail
  refine HDR.out.mono ?_
  rintro e w1 ⟨A1, n1, c1, ds1, rfl, hO1, hb1⟩
  have HO1 := hide hO1
  have HB1 := hide hb1
  clear hO1 hb1
  go_wp2_with fail
  refine (HOF.out _ HB1.out).mono ?_
  rintro e w2 ⟨A2, n2, c2, ds2, rfl, hO2, hb2⟩
  have HO2 := hide hO2
  have HB2 := hide (below_step hb2 HB1.out)
  have HO1' := hide (HO1.out.below hb2)
  clear hO2 hb2
  go_wp2_with fail
  refine (snap_join A1 n1 c1 (dropL X gr) A2 n2 c2 (ofV L V gr) _ HO1'.out.hn HO1'.out.slV HO2.out.hn HO2.out.slV HL1.out HL2.out).mono ?_
  rintro e w3 ⟨A3, n3, c3, ds3, rfl, hO3, hb3⟩
  have HO3 := hide hO3
  have HB3 := hide (below_step hb3 HB2.out)
  have hjl := joinV_len (dropL X gr) (ofV L V gr)
  have hj1 := (of_decide_eq_true HL1.out : (dropL X gr).length ≤ 200 ∧ _).1
  have hj2 := (of_decide_eq_true HL2.out : (ofV L V gr).length ≤ 200 ∧ _).1
  have HN3 : Hid (n3 ≤ 1000) := hide (by have := hO3.hn; omega)
  have HS2 := hide (And.intro HB2.out.size hb3.size)
  clear hO3 hb3 hjl hj1 hj2
  go_wp2_with fail
  refine (keep_vd a 1 w _ (HH.out.below HB3.out) HB3.out HFW.out (HG.out.below HB3.out) HM.out HRN.out HOP.out (ownV_sv HO3.out) (fun g hg => ⟨by have := HS2.out.1; omega, hg.2⟩) HN3.out (fun v hv => by
    rcases join_sub hv with h | h
    · have := (of_decide_eq_true HL1.out : (dropL X gr).length ≤ 200 ∧ ∀ v ∈ dropL X gr, v.data.length ≤ 2000).2 v h
      omega
    · have := (of_decide_eq_true HL2.out : (ofV L V gr).length ≤ 200 ∧ ∀ v ∈ ofV L V gr, v.data.length ≤ 2000).2 v h
      omega)).mono ?_
  rintro e w4 hK
  obtain ⟨R, dj', Fj', FL', As', ns', cs', dx', hW, rfl, hrest⟩ := hK
  have HX := hide (And.intro hW hrest)
  clear hW hrest
  go_wp2_with fail
  rw [HR.out]
  exact ⟨R, dj', Fj', FL', As', ns', cs', dx', HX.out.1, rfl, HX.out.2⟩
end
end
end Go.Proofs.YtehabbnohoomjaaGreatDoor
namespace Go.Proofs.YtehabbnohoomjaaGreatDoor
section
set_option linter.unusedVariables false
set_option linter.unusedSimpArgs false
set_option linter.unnecessarySimpa false
set_option maxHeartbeats 1000000

theorem recS_num (S : FS) : (recS S).2.1 = numJ (openJ S) := by
  unfold recS numJ lastJ openJ
  simp only []
  split <;> rfl
theorem recS_has (S : FS) (h : (newL (looksF S)).2 = false) : recS S = (0, 0, []) := by
  unfold recS
  rw [h]
  rfl
/-- a flash on which little was done -/
structure Fresh (S : FS) (N : Nat) : Prop where
  len : S.b.length = 1024 * S.wear.length
  three : 3 ≤ S.wear.length
  wear : ∀ j, j < S.wear.length → S.wear.getD j 0 ≤ N
  most : (N : Int) < S.most
  num : numJ (openJ S) ≤ N
  small : N ≤ 1000000
theorem next_any {S : FS} {N : Nat} (h : Fresh S N) : (nextL (looksF S) S.wear S.most).2 = true := by
  cases hb : (nextL (looksF S) S.wear S.most).2
  · exfalso
    have h1 := ((nextL_spec (looksF S) S.wear S.most (looksF_len S).symm).2 hb).2
    have hsk : ∀ j, j < S.wear.length → newL (looksF S) ≠ (j, true) → False := by
      intro j hj hne
      have h2 := h1 j (by rw [looksF_len]; exact hj)
      unfold skipL at h2
      simp only [Bool.or_eq_true, Bool.and_eq_true, decide_eq_true_eq] at h2
      rcases h2 with ⟨h2, h3⟩ | ⟨_, h2⟩
      · exact hne (Prod.ext h3.symm h2)
      · have := h.wear j hj
        have := h.most
        omega
    have := h.three
    by_cases h0 : newL (looksF S) = (0, true)
    · exact hsk 1 (by omega) (by rw [h0]; simp)
    · exact hsk 0 (by omega) h0
  · rfl
section
variable {S S' : FS} {J' : JS} {kd e : Int} {d : List UInt8} {N i : Nat} {y : LK} {er : Bool}
theorem fresh_app (h : Fresh S N) (hoff : S.off = false) (hr : rightR kd (numJ (openJ S) + 1) d.length = 0) (ha : appJ (openJ S) S kd d = (J', S', e)) : ∃ i y er, StepR S S' J' kd (numJ (openJ S) + 1) d e i y er := by
  rcases app_step h.len hoff (by have := h.num; have := h.small; omega) hr ha with ⟨_, _, _, h4⟩ | h
  · rw [next_any h] at h4; cases h4
  · exact h
theorem wear_at (h : StepR S S' J' kd (numJ (openJ S) + 1) d e i y er) (j : Nat) : S'.wear.getD j 0 = S.wear.getD j 0 + (if er = true ∧ j = i then 1 else 0) := by
  rw [h.wear]
  cases er
  · simp
  · simp only [if_true, true_and]
    rw [List.getD_eq_getElem?_getD, List.getElem?_set]
    by_cases hj : i = j
    · subst hj
      rw [if_pos rfl, if_pos h.hi, if_pos rfl]
      rfl
    · rw [if_neg hj, if_neg (fun e => hj e.symm), ← List.getD_eq_getElem?_getD]
      rfl
theorem fresh_step (h : Fresh S N) (hs : StepR S S' J' kd (numJ (openJ S) + 1) d e i y er) (hN : ((N + 1 : Nat) : Int) < S.most) (hN2 : N + 1 ≤ 1000000) : Fresh S' (N + 1) := by
  refine ⟨by rw [hs.kept.len, hs.kept.wear, h.len], by rw [hs.kept.wear]; exact h.three, ?_, by rw [hs.kept.most]; exact hN, ?_, hN2⟩
  · intro j hj
    rw [hs.kept.wear] at hj
    rw [wear_at hs]
    have := h.wear j hj
    split <;> omega
  · have hn := h.num
    rcases step_rec hs with ⟨_, h2⟩ | ⟨_, _, h2, _⟩
    · rw [← recS_num, h2]
      simp only []
      omega
    · rw [← recS_num, h2, recS_num]
      omega
/-! the wear -/
/-- how far the sectors' wears lie apart, behind c failures -/
structure WInv (S : FS) (c : Nat) : Prop where
  gap : ∀ k j, k < S.wear.length → j < S.wear.length → S.wear.getD k 0 ≤ S.wear.getD j 0 + 2 + c
  near : ∀ k j, k < S.wear.length → j < S.wear.length → (newL (looksF S) = (j, true) ∨ begunL ((looksF S).getD j lookZ) = false) → S.wear.getD k 0 ≤ S.wear.getD j 0 + 1 + c
end
/-- a flash that is erased -/
def newF (n : Nat) (most : Int) : FS := ⟨List.replicate (n * 1024) 255, List.replicate n 0, most, false, -1, 0, 0⟩
theorem newF_looks (n : Nat) (most : Int) : looksF (newF n most) = List.replicate n ⟨0, 0, [], 0, 0, true⟩ := by
  apply List.ext_getElem?
  intro j
  by_cases hj : j < n
  · rw [looksF_at _ (by simp [newF]; exact hj), List.getElem?_replicate, if_pos hj]
    have hs : secB (newF n most).b j = List.replicate 1024 255 := by
      unfold secB newF
      simp only [List.drop_replicate, List.take_replicate]
      congr 1
      omega
    rw [hs]
    obtain ⟨c, h1, h2⟩ := look_erased (List.replicate 1024 255) 1024 (by omega) (by rw [List.length_replicate]; exact Nat.le_refl _)
    have h3 : put (List.replicate 1024 255) 0 (List.replicate 1024 255) = List.replicate 1024 (255 : UInt8) := by
      unfold put
      rw [List.take_zero, List.nil_append, List.drop_eq_nil_of_le (by rw [List.length_replicate]; omega), List.append_nil]
    rw [h3] at h1
    rw [h1, h2 (by rw [List.length_replicate])]
  · rw [List.getElem?_eq_none (by rw [looksF_len]; simp [newF]; omega), List.getElem?_eq_none (by simp; omega)]
theorem newF_new (n : Nat) (most : Int) : newL (looksF (newF n most)) = (0, false) := by
  refine newL_none.2 ?_
  intro j hj
  rw [newF_looks] at hj ⊢
  rw [List.length_replicate] at hj
  rw [List.getD_eq_getElem?_getD, List.getElem?_replicate, if_pos hj]
  rfl
theorem newF_fresh (n : Nat) (most : Int) (h3 : 3 ≤ n) (hm : 0 < most) : Fresh (newF n most) 0 := by
  refine ⟨by simp [newF]; omega, by simp [newF]; omega, ?_, hm, ?_, by omega⟩
  · intro j hj
    simp only [newF] at hj ⊢
    rw [List.length_replicate] at hj
    rw [List.getD_eq_getElem?_getD, List.getElem?_replicate, if_pos hj]
    exact Nat.le_refl _
  · rw [← recS_num, recS_has _ (by rw [newF_new])]
    exact Nat.le_refl _
end
end Go.Proofs.YtehabbnohoomjaaGreatDoor
namespace Go.Proofs.YtehabbnohoomjaaGreatDoor
section
set_option linter.unusedVariables false
set_option linter.unusedSimpArgs false
set_option linter.unnecessarySimpa false
open Go.RowKit
set_option maxRecDepth 20000
set_option maxHeartbeats 4000000
end
end Go.Proofs.YtehabbnohoomjaaGreatDoor
namespace Go.Proofs.YtehabbnohoomjaaGreatDoor
section
set_option linter.unusedVariables false
set_option linter.unusedSimpArgs false
set_option linter.unnecessarySimpa false
open Go.RowKit
set_option maxRecDepth 20000
set_option maxHeartbeats 8000000
end
end Go.Proofs.YtehabbnohoomjaaGreatDoor
namespace Go.Proofs.YtehabbnohoomjaaGreatDoor
section
set_option linter.unusedVariables false
set_option linter.unusedSimpArgs false
set_option linter.unnecessarySimpa false
open Go.RowKit
set_option maxRecDepth 20000
set_option maxHeartbeats 8000000

def OpenVR (M : Nat) (q : FP) (S : FS) (w : World) (e : Ending) (w' : World) : Prop :=
  ∃ pv pj A n c dj, e = .returned (.tuple #[.pointer (some ⟨pv, 0, none⟩), .int .i64 0]) ∧ VD w' M (fun g => w.heap.size ≤ g ∧ g < w'.heap.size ∧ g ≠ pv) (fun _ => False) pv pj q A n c dj none 0 0 [] (openJ S) S [] false false ∧ w.heap.size ≤ pv ∧ Below w.heap.size w w'
theorem va_open_new (M : Nat) (q : FP) (S : FS) (pd : Addr) (w : World) (hD : FD w q S) (hoff : S.off = false) (h3 : 3 ≤ S.wear.length) (hh : (openJ S).has = false) (hM : M ≤ w.heap.size) (hq : ∀ g, q.F g → g < w.heap.size ∧ M ≤ g) :
    Calls Tryz.prog 11 #[.pointer (some ⟨q.p, 0, none⟩), .pointer (some pd)] w (OpenVR M q S w) := by
  have HO := hide (jo_Open q S w hD hoff h3)
  have HD := hide hD
  have HH := hide hh
  have HM := hide hM
  have HQ := hide hq
  obtain ⟨R0, hR0⟩ : ∃ R0, R0 = OpenVR M q S w := ⟨_, rfl⟩
  rw [← hR0]
  have HR := hide hR0
  clear hD hoff h3 hh hM hq hR0
  go_enter Tryz.func11, Tryz.ntmps11
  go_wp2_with fail
  refine HO.out.mono ?_
  rintro e w1 ⟨pj, A, n, c, ds, rfl, hJ, hb⟩
  have k0 := blk_one w1 90 #[.pointer (some ⟨pj, 0, none⟩), .slice none 0 0, .bool false, .bool false]
  have hba := below_alloc (Below.refl w1.heap.size w1) (.cells #[.pointer (some ⟨pj, 0, none⟩), .slice none 0 0, .bool false, .bool false] 90)
  have HJ0 := hide hJ
  have HB1 := hide hb
  have HJ1 := hide (hJ.below hba)
  have HJC := hide ((show JD w1 (fun g => w.heap.size ≤ g ∧ g < w1.heap.size) pj q.p A n c (openJ S) ds from hJ.mono (fun g hlt h => ⟨h, hlt⟩)).below hba)
  have HBA := hide (below_step hba hb)
  have HK0 := hide k0
  have HLT := hide (jo_Last _ (hJ.below hba))
  rw [HH.out] at HLT
  clear hJ hb k0 hba
  go_wp2_with fail
  refine HLT.out.mono ?_
  rintro e w2 ⟨A', c', rfl, hO, hb2⟩
  have hb3 := below_step (below_alloc (Below.refl w2.heap.size w2) (.cells (rcV (recJ (openJ S)).1 (recJ (openJ S)).2.1 A' (recJ (openJ S)).2.2.length c') 92)) hb2
  have HB3 := hide (below_step hb3 HBA.out)
  have HJ3 := hide (HJC.out.below hb3)
  have HK3 := hide (HK0.out.below hb3 HK0.out.lt)
  have HZ := hide hb3.size
  unfold rcV at HB3 HJ3 HK3 HZ ⊢
  clear hO hb2 hb3 HLT HO
  go_wp2_with fail
  rw [HR.out]
  have hz1 := HB1.out.size
  have hz2 := HBA.out.size
  have hkl := HK0.out.lt
  have hz3 := HZ.out
  refine ⟨w1.heap.size, pj, A, n, c, ds, rfl, ⟨HK3.out, ?_, HD.out.below HB3.out, OwnF.nil _ _, by have := HM.out; omega, ?_, fun g h => h.elim, ?_, by omega, fun v hv => by cases hv⟩, hz1, HB3.out⟩
  · exact HJ3.out.mono (fun g hlt h => ⟨h.1, hlt, by omega⟩)
  · rintro g (h | h)
    · exact ⟨h.2.1, by have := HM.out; omega, h.2.2⟩
    · have := HQ.out g h
      have h4 := HB3.out.size
      exact ⟨by omega, this.2, by omega⟩
  · intro g h hq
    have := HQ.out g hq
    have := h.1
    omega
end
end Go.Proofs.YtehabbnohoomjaaGreatDoor
namespace Go.Proofs.YtehabbnohoomjaaGreatDoor
section
set_option linter.unusedVariables false
set_option linter.unusedSimpArgs false
set_option linter.unnecessarySimpa false
open Go.RowKit
set_option maxRecDepth 100000
set_option maxHeartbeats 4000000
theorem slE_one {w : World} {g : Nat} {E : Ent} {A : Option Addr} {c : Nat} (hB : Blk w g 55 (entV E A E.df.length c)) (hc : E.df.length ≤ c) (hs : Sl w A (E.df.map bv)) : SlE w (some ⟨g, 0, none⟩) [E] := by
  intro j D hD
  cases j with
  | zero =>
    simp at hD
    subst hD
    obtain ⟨c0, c1, c2, c3, c4, c5, c6, c7, c8, c9, c10⟩ := ec_of hB
    exact ⟨g, 0, A, c, rfl, ⟨c0, c1, c2, c3, c4, c5, c6, c7, c8, c9, c10⟩, hc, hs⟩
  | succ j => simp at hD
def kD : Ent := ⟨4119, 0, ⟨#[98, 101, 97, 116]⟩, 6, 4, false, false, 0, 10, 1000, [20, 0]⟩
end
end Go.Proofs.YtehabbnohoomjaaGreatDoor
