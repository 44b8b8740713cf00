/- Law 19: what a Store or a Restore that may be cut leaves; values poked anew. No walk. -/
import Derived.Test.YtehabbnohoomjaaGreatDoorC45
import Derived.Test.YtehabbnohoomjaaGreatDoorC03
import Derived.Test.YtehabbnohoomjaaGreatDoorC23
import Derived.RegionTactic
import Derived.Deep.RegionHeld3
import Derived.RegionCalls
import Derived.BigQuiet
import Derived.Deep.QuietTactic
namespace Go.Proofs.YtehabbnohoomjaaGreatDoor
section
set_option linter.unusedVariables false
set_option linter.unusedSimpArgs false
set_option linter.unnecessarySimpa false
open Go.RowKit
set_option maxRecDepth 20000
set_option maxHeartbeats 2000000

theorem poke_near9 {L : List Ent} (hs : SortedE L) {V1 : List (List UInt8)} {X : List SV} (h : ∀ v ∈ X, ∃ (k : Nat) (E : Ent) (u : List UInt8), L[k]? = some E ∧ V1[k]? = some u ∧ valC E u = 0 ∧ v = ⟨E.ix, E.sub, u⟩) {V : List (List UInt8)} (hV : V.length = L.length) {k : Nat} {E : Ent} {u : List UInt8} (hE : L[k]? = some E) (hu : V1[k]? = some u)
    (hk : V[k]? = some u ∨ (⟨E.ix, E.sub, u⟩ : SV) ∈ X) : (pokeAll L V X)[k]? = some u := by
  unfold pokeAll
  induction X generalizing V with
  | nil =>
    rcases hk with hk | hk
    · exact hk
    · cases hk
  | cons v X ih =>
    rw [List.foldl_cons]
    refine ih (fun v hv => h v (by simp [hv])) (by rw [putV_length]; exact hV) ?_
    obtain ⟨j, D, x, h1, h2, h4, rfl⟩ := h v (by simp)
    by_cases hp : E.ix = D.ix ∧ E.sub = D.sub
    · left
      have hj := place_inj hs h1 hE hp
      subst hj
      rw [hE] at h1
      injection h1 with h1
      subst h1
      rw [hu] at h2
      injection h2 with h2
      subst h2
      rw [put_at hs hV hE, if_pos ⟨rfl, rfl, by rw [may_self hs hE]; exact h4⟩]
    · rcases hk with hk | hk
      · left
        rw [put_at hs hV hE, if_neg (fun hh => hp ⟨hh.1, hh.2.1⟩)]
        exact hk
      · right
        rcases List.mem_cons.1 hk with hk | hk
        · injection hk with k1 k2 k3
          exact absurd ⟨k1, k2⟩ hp
        · exact hk
/-- all values poked into another dictionary -/
theorem poke_self {L : List Ent} (hs : SortedE L) {V V0 : List (List UInt8)} (h0 : V0.length = L.length) (hV : V.length = L.length) (hv : ValsP L V) : pokeAll L V0 (svL L V) = V := by
  have hP : ∀ v ∈ svL L V, ∃ (k : Nat) (E : Ent) (u : List UInt8), L[k]? = some E ∧ V[k]? = some u ∧ valC E u = 0 ∧ v = ⟨E.ix, E.sub, u⟩ := by
    intro v h
    obtain ⟨k, hk, rfl⟩ := List.getElem_of_mem h
    have hk2 : k < L.length := by rw [svL_len L V hV] at hk; exact hk
    have e1 := List.getElem?_eq_getElem hk2
    have e2 := List.getElem?_eq_getElem (show k < V.length by omega)
    refine ⟨k, _, _, e1, e2, hv k _ _ e1 e2, ?_⟩
    have e3 := svL_at e1 e2
    rw [List.getElem?_eq_getElem hk] at e3
    injection e3
  refine List.ext_getElem? (fun k => ?_)
  by_cases hk : k < L.length
  · have e1 := List.getElem?_eq_getElem hk
    have e2 := List.getElem?_eq_getElem (show k < V.length by omega)
    rw [poke_near9 hs hP h0 e1 e2 (.inr (List.mem_of_getElem? (svL_at e1 e2))), e2]
  · rw [List.getElem?_eq_none (by rw [poke_len]; omega), List.getElem?_eq_none (by omega)]
theorem good_len {L : List Ent} (hs : SortedE L) {X : List SV} (h : SortV X) (hp : ∀ v ∈ X, ∃ (k : Nat) (E : Ent), L[k]? = some E ∧ v.ix = E.ix ∧ v.sub = E.sub) : X.length ≤ L.length := by
  induction X generalizing L with
  | nil => exact Nat.zero_le _
  | cons v X ih =>
    obtain ⟨k, E, hE, e1, e2⟩ := hp v (by simp)
    obtain ⟨h1, h2⟩ := List.pairwise_cons.1 h
    have hkl := (List.getElem?_eq_some_iff.1 hE).1
    have := ih (L := L.drop (k + 1)) (hs.drop) h2 (by
      intro u hu
      obtain ⟨j, D, hD, f1, f2⟩ := hp u (by simp [hu])
      have hjl := (List.getElem?_eq_some_iff.1 hD).1
      have hah := h1 u hu
      rw [ah_iff] at hah
      have hjk : k < j := by
        rcases Nat.lt_trichotomy j k with hlt | rfl | hgt
        · have := List.pairwise_iff_getElem.1 hs j k hjl hkl hlt
          have hb : beforeB D.ix D.sub E.ix E.sub = true := by
            rw [List.getElem?_eq_getElem hjl] at hD
            rw [List.getElem?_eq_getElem hkl] at hE
            injection hD with hD
            injection hE with hE
            rw [← hD, ← hE]
            exact this
          rw [bef_iff] at hb
          omega
        · rw [hE] at hD
          injection hD with hD
          subst hD
          omega
        · exact hgt
      refine ⟨j - (k + 1), D, ?_, f1, f2⟩
      rw [List.getElem?_drop, ← hD]
      congr 1
      omega)
    rw [List.length_drop] at this
    simp only [List.length_cons]
    omega
theorem good_light {L : List Ent} (hs : SortedE L) {X : List SV} (h : GoodX L X) (hl : L.length ≤ 200) : lightB X = true := by
  have h1 := good_len hs h.1 (fun v hv => by
    obtain ⟨k, E, h1, _, _, h5, h6⟩ := h.2 v hv
    exact ⟨k, E, h1, h5, h6⟩)
  refine decide_eq_true ⟨by omega, fun v hv => ?_⟩
  obtain ⟨k, E, h1, h2, h3, _⟩ := h.2 v hv
  have := val_len9 h3
  omega
theorem good_I64 {L : List Ent} (hr : ∀ E ∈ L, rightE E = 0) {X : List SV} (h : GoodX L X) : ∀ v ∈ X, I64 v.ix := by
  intro v hv
  obtain ⟨k, E, h1, _, _, h5, _⟩ := h.2 v hv
  have := right_place (hr E (List.mem_of_getElem? h1))
  unfold thereB at this
  simp at this
  rw [h5]
  exact ⟨by omega, by omega⟩
theorem right_I64 {L : List Ent} (hr : ∀ E ∈ L, rightE E = 0) : ∀ E ∈ L, I64 E.ix := by
  intro E hE
  have := right_place (hr E hE)
  unfold thereB at this
  simp at this
  exact ⟨by omega, by omega⟩
theorem good_fits {L : List Ent} {X : List SV} (h : GoodX L X) : fitsV X := by
  intro v hv
  obtain ⟨k, E, h1, h2, h3, _⟩ := h.2 v hv
  have := val_len9 h3
  omega
theorem drop_zero (X : List SV) : dropL X 0 = X := by
  unfold dropL
  rw [List.filter_eq_self]
  intro v _
  simp [inB]
/-- what a round of law 19 begins with -/
structure CrS (L : List Ent) (S : FS) (X : List SV) (k : Nat) : Prop where
  fresh : Fresh S k
  off : S.off = false
  most : S.most = 50
  ops : S.ops ≤ 1000 * k
  rcx : recX L (openJ S) = (X, false)
  good : GoodX L X
theorem crs_zero (L : List Ent) : CrS L (newF 3 50) [] 0 :=
  ⟨newF_fresh 3 50 (by decide) (by decide), rfl, rfl, by show (0 : Nat) ≤ _; decide, newF_recX L, good_nil L⟩
theorem crs_cut {L : List Ent} {S : FS} {X : List SV} {k : Nat} (h : CrS L S X k) (ah : Int) (mk : Nat) : CrS L { S with ahead := ah, mask := mk } X k :=
  ⟨⟨h.fresh.len, h.fresh.three, h.fresh.wear, h.fresh.most, h.fresh.num, h.fresh.small⟩, h.off, h.most, h.ops, h.rcx, h.good⟩
theorem crs_more {L : List Ent} {S : FS} {X : List SV} {k : Nat} (h : CrS L S X k) (hk : k < 30) : CrS L S X (k + 1) :=
  ⟨⟨h.fresh.len, h.fresh.three, fun j hj => Nat.le_succ_of_le (h.fresh.wear j hj), by have := h.most; rw [this]; omega, Nat.le_succ_of_le h.fresh.num, by omega⟩, h.off, h.most, by have := h.ops; omega, h.rcx, h.good⟩
theorem crs_step {L : List Ent} (hs : SortedE L) (hr : ∀ E ∈ L, rightE E = 0) {S : FS} {X l : List SV} {k : Nat} {kd : Int} {R : JS × FS × Int} (h : CrS L S X k) (hk : k < 30) (hl : GoodX L l) (hkd : kd = 1 ∨ (kd = 2 ∧ l = [])) (hw : WrP (openJ S) S kd l R) :
    ∃ X2, CrS L { R.2.1 with off := false } X2 (k + 1) ∧ (X2 = l ∨ X2 = X) ∧ (R.2.2 = 0 → X2 = l) ∧ (R.2.2 = 0 ∨ R.2.2 = 3 ∨ R.2.2 = 7) := by
  have hm := h.most
  rcases kept_of hs hr hl h.fresh h.off (by rw [hm]; omega) (by omega) hkd hw with ⟨h3, _, hS, _⟩ | ⟨hf, hmo, hops, _, hres⟩
  · rw [hS]
    have h2 := crs_more h hk
    exact ⟨X, ⟨⟨h2.fresh.len, h2.fresh.three, h2.fresh.wear, h2.fresh.most, h2.fresh.num, h2.fresh.small⟩, rfl, h2.most, h2.ops, h2.rcx, h2.good⟩, .inr rfl, fun h0 => by omega, .inr (.inl h3)⟩
  · have ho := h.ops
    have base : ∀ X2, recX L (openJ R.2.1) = (X2, false) → GoodX L X2 → CrS L { R.2.1 with off := false } X2 (k + 1) := fun X2 h1 h2 =>
      ⟨⟨hf.len, hf.three, hf.wear, hf.most, hf.num, hf.small⟩, rfl, by show R.2.1.most = 50; rw [hmo]; exact hm, by show R.2.1.ops ≤ _; omega, h1, h2⟩
    rcases hres with ⟨h0, _, _, h4⟩ | ⟨h7, _, h4 | h4⟩
    · exact ⟨l, base l h4 hl, .inl rfl, fun _ => rfl, .inl h0⟩
    · exact ⟨l, base l h4 hl, .inl rfl, fun _ => rfl, .inr (.inr h7)⟩
    · exact ⟨X, base X (h4.trans h.rcx) h.good, .inr rfl, fun h0 => by omega, .inr (.inr h7)⟩
/-- a Store or a Restore without a cut -/
theorem store_plain {L : List Ent} (hs : SortedE L) (hr : ∀ E ∈ L, rightE E = 0) {S : FS} {l : List SV} {k : Nat} {kd : Int} {R : JS × FS × Int} (hf : Fresh S k) (hoff : S.off = false) (ha : S.ahead < 0) (hm : S.most = 50) (hops : S.ops ≤ 1000 * k) (hk : k < 30) (hl : GoodX L l) (hkd : kd = 1 ∨ (kd = 2 ∧ l = [])) (hw : WrP (openJ S) S kd l R) :
    (R.2.2 = 3 ∧ ∃ b, BuildR l b 3) ∨ ∃ T : FS, R = (openJ T, T, 0) ∧ Fresh T (k + 1) ∧ T.off = false ∧ T.ahead < 0 ∧ T.most = 50 ∧ T.ops ≤ 1000 * (k + 1) ∧ recX L (openJ T) = (l, false) := by
  rcases kept_of hs hr hl hf hoff (by rw [hm]; omega) (by omega) hkd hw with ⟨h3, _, _, h⟩ | ⟨h1, h2, h3, h4, h5⟩
  · exact .inl ⟨h3, h⟩
  · obtain ⟨h0, h6⟩ := h4 ha
    rcases h5 with ⟨_, h7, h8, h9⟩ | ⟨h7, _⟩
    · exact .inr ⟨R.2.1, by rw [← h7, ← h0], h1, h8, by rw [h6]; exact ha, by rw [h2]; exact hm, by omega, h9⟩
    · omega
end
end Go.Proofs.YtehabbnohoomjaaGreatDoor
namespace Go.Proofs.YtehabbnohoomjaaGreatDoor
section
set_option linter.unusedVariables false
set_option linter.unusedSimpArgs false
set_option linter.unnecessarySimpa false
open Go.RowKit
set_option maxRecDepth 20000
set_option maxHeartbeats 1000000

theorem vals_same (A A2 : Option Addr) (n n2 c c2 : Nat) (L : List SV) (w : World) (hn : n = L.length) (hn2 : n2 = L.length) (hc : n ≤ c) (hc2 : n2 ≤ c2) (hb : n ≤ 35184372088) (hL : SlV w A L) (hL2 : SlV w A2 L) :
    Calls Tryz.prog 30 #[.slice A n c, .slice A2 n2 c2] w fun e w' => e = .returned (.bool true) ∧ Below w.heap.size w w' := by
  obtain rfl : n = n2 := by omega
  have HN := hide hn
  clear hn hn2
  go_enter Tryz.func30, Tryz.ntmps30
  go_wp2_with fail
  go_loopw [5] (fun i wr => ∃ k, k ≤ n ∧ i = .int .i64 (k : Nat) ∧ Below w.heap.size w wr) (fun i _ => n - (intOf i).toNat)
  case atStart => exact ⟨0, by omega, rfl, Below.refl _ _⟩
  case round =>
    obtain ⟨k, hk, rfl, hbr⟩ := hrel
    by_cases hlt : k < n
    · obtain ⟨v, hv⟩ : ∃ v, L[k]? = some v := ⟨L[k]'(by have := HN.out; omega), List.getElem?_eq_getElem _⟩
      obtain ⟨b, off, Aj, cj, rfl, h0, h1, h2, h4, h5⟩ := (hL.below hbr) k v hv
      obtain ⟨b', off', Aj', cj', rfl, g0, g1, g2, g4, g5⟩ := (hL2.below hbr) k v hv
      have HV := hide hv
      clear hv
      have k1 := fun nq => str_b (w := wr.drewN nq) cj rfl (l := v.data) (show Sl (wr.drewN nq) Aj (v.data.map bv) from h5)
      have k2 := fun nq => str_b (w := wr.drewN nq) cj' rfl (l := v.data) (show Sl (wr.drewN nq) Aj' (v.data.map bv) from g5)
      obtain ⟨i1, i2, i3⟩ := idx_at hlt
      have hself : (v.ix != v.ix) = false := by simp
      have hself2 : (v.sub != v.sub) = false := by simp
      go_wp2_with fail
      go_quiet (fail)
      go_wp2_with fail
      go_roundw
      case rel => exact ⟨k + 1, by omega, by go_num, below_drewN hbr _⟩
      case measure => simp [intOf]; omega
    · go_wp2_with fail
      go_ret
      exact ⟨rfl, hbr⟩
end
end Go.Proofs.YtehabbnohoomjaaGreatDoor
