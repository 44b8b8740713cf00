/- What a call that hands back values leaves. -/
import Derived.Test.YtehabbnohoomjaaGreatDoorC01
import Derived.Test.YtehabbnohoomjaaGreatDoorC32
import Derived.Test.YtehabbnohoomjaaGreatDoorC31
import Derived.Test.YtehabbnohoomjaaGreatDoorC27
import Derived.Test.YtehabbnohoomjaaGreatDoorC23
import Derived.Test.YtehabbnohoomjaaGreatDoorC24
import Derived.Test.YtehabbnohoomjaaGreatDoorC28
namespace Go.Proofs.YtehabbnohoomjaaGreatDoor
section
set_option linter.unusedVariables false
set_option linter.unusedSimpArgs false
set_option linter.unnecessarySimpa false
section
open Go.RowKit
def ValuesR (X : List SV) (w : World) (e : Ending) (w' : World) : Prop :=
  ∃ A n c ds, e = .returned (.slice A n c) ∧ OwnSV w' (fun g => w.heap.size ≤ g) A n c X ds ∧ Apart ds ∧ Below w.heap.size w w'
end
section
open Go.RowKit
set_option maxRecDepth 100000
set_option maxHeartbeats 4000000
section
variable {F : Nat → Prop} {p n cl cv : Nat} {Av : Option Addr} {L : List Ent} {V : List (List UInt8)} {ds es : List (Option Addr × Nat)} {gl : Nat}
theorem dict_values (w : World) (hD : DB 102 w F p (some ⟨gl, 0, none⟩) n cl Av cv L V ds es) (hn : n ≤ 1000) :
    Calls Tryz.prog 13 #[.pointer (some ⟨p, 0, none⟩)] w (ValuesR (svL L V) w) := by
  have HD := hide hD
  have HN := hide hD.ents.hn
  have HNV := hide hD.vals.hn
  have HLV := hide hD.lenV
  have hB := hD.blk
  have zp := hB.lt
  clear hD
  obtain ⟨hB_c0, hB_c1⟩ := cel2 hB
  have hB_f := hB.frozen
  go_enter Tryz.func13, Tryz.ntmps13
  go_wp2_with fail
  refine (dict_len _ hB).mono ?_
  rintro e w1 ⟨rfl, rfl⟩
  go_wp2_with fail
  go_loopw [3, 7] (fun o i wr => ∃ k A' c' ds', k ≤ n ∧ i = .int .i64 (k : Nat) ∧ o = .slice A' k c' ∧ Hid (OwnSV wr (fun g => w.heap.size ≤ g) A' k c' ((svL L V).take k) ds' ∧ Apart ds') ∧ Below w.heap.size w wr) (fun _ i _ => n - (intOf i).toNat)
  case atStart => exact ⟨0, none, 0, [], by omega, rfl, rfl, hide ⟨OwnF.nil _ _, Apart.nil⟩, Below.refl _ _⟩
  case round =>
    obtain ⟨k, A', c', ds', hk, rfl, rfl, HO, hbr⟩ := hrel
    by_cases hlt : k < n
    · obtain ⟨E, hE⟩ : ∃ E, L[k]? = some E := ⟨L[k]'(by rw [← HN.out]; exact hlt), List.getElem?_eq_getElem _⟩
      obtain ⟨v, hv⟩ : ∃ v, V[k]? = some v := ⟨V[k]'(by rw [← HNV.out]; exact hlt), List.getElem?_eq_getElem _⟩
      obtain ⟨g, d, hA, zg, _, _, _, c0, c1, _, _, _, _, _, _, _, _, _⟩ := HD.out.ent hE
      injection hA with hA
      injection hA with hA
      subst hA
      obtain ⟨gv, dv, hAv, zv, _, hOv, hfit, cv0, _, _⟩ := HD.out.val hv
      subst hAv
      have HT := hide (take_snoc (svL_at hE hv))
      have HSv := hide (hOv.sl.below hbr)
      have HF := hide hfit
      obtain ⟨i1, i2, i3⟩ := idx_at hlt
      clear hE hv hOv hfit
      go_wp2_with fail
      refine wp_region_held_drew (S := (fun w' => (∀ qA : Addr, qA.block < (w).heap.size → w'.cell? qA = (w).cell? qA) ∧ Below (w).heap.size (w) w')) (by kernel_rfl) ?hS1 (fun hHeld => ?rest1)
      case hS1 => ((try dsimp only); (((try go_split_ands); refine sn_of ?_; repeat' (first | with_reducible assumption | with_reducible exact Below.refl _ _ | with_reducible apply below_alloc | with_reducible apply below_drew1 | with_reducible apply below_drewN | (with_reducible apply below_step; with_reducible assumption) | (with_reducible apply below_sg2; (first | exact Nat.le_refl _ | (simp; done) | omega))))))
      case' rest1 => skip
      refine tkH 0 ?_
      try simp only [PqL, Act.put]
      refine tkH 1 ?_
      try simp only [PqL, Act.put]
      refine tkH 2 ?_
      try simp only [PqL, Act.put]
      refine tkH 3 ?_
      try simp only [PqL, Act.put]
      refine tkH 4 ?_
      try simp only [PqL, Act.put]
      refine tkH 5 ?_
      try simp only [PqL, Act.put]
      refine tkH 6 ?_
      try simp only [PqL, Act.put]
      refine tkH 7 ?_
      try simp only [PqL, Act.put]
      refine tkH 8 ?_
      try simp only [PqL, Act.put]
      refine tkH 9 ?_
      try simp only [PqL, Act.put]
      refine tkH 10 ?_
      try simp only [PqL, Act.put]
      refine tkH 11 ?_
      try simp only [PqL, Act.put]
      refine tkH 12 ?_
      try simp only [PqL, Act.put]
      refine tkH 13 ?_
      try simp only [PqL, Act.put]
      refine tkH 14 ?_
      try simp only [PqL, Act.put]
      refine tkH 15 ?_
      try simp only [PqL, Act.put]
      refine tkH 16 ?_
      try simp only [PqL, Act.put]
      refine tkH 17 ?_
      try simp only [PqL, Act.put]
      refine tkH 18 ?_
      try simp only [PqL, Act.put]
      refine tkH 19 ?_
      try simp only [PqL, Act.put]
      refine tkH 20 ?_
      try simp only [PqL, Act.put]
      refine tkH 21 ?_
      try simp only [PqL, Act.put]
      refine tkH 22 ?_
      try simp only [PqL, Act.put]
      refine tkH 23 ?_
      try simp only [PqL, Act.put]
      refine wpAnyH_ready (rs := [24]) (by kernel_rfl) (by simp) ?_
      refine AllReadyH.cons (o := _) rfl (fun K hK => ?_) AllReadyH.nil
      go_simp
      refine (dict_own dv.1 v.length dv.2 v _ rfl HF.out HSv.out.drew).mono ?_
      rintro e w2 ⟨A3, c3, rfl, hO3, hb3⟩
      dsimp only
      refine hK.out _ _ ?hS28 (fun hHeld => ?rest28)
      case hS28 => ((try dsimp only); (((try go_split_ands); refine sn_of ?_; repeat' (first | with_reducible assumption | with_reducible exact Below.refl _ _ | with_reducible apply below_alloc | with_reducible apply below_drew1 | with_reducible apply below_drewN | (with_reducible apply below_step; with_reducible assumption) | (with_reducible apply below_sg2; (first | exact Nat.le_refl _ | (simp; done) | omega))))))
      case' rest28 => (clear hK K; try simp only [PqL, Act.put])
      refine tkH 25 ?_
      try simp only [PqL, Act.put]
      refine wpAnyH_ready (rs := [26]) (by kernel_rfl) (by simp) ?_
      refine AllReadyH.cons (o := _) rfl (fun K hK => ?_) AllReadyH.nil
      go_simp
      refine hK.out _ _ ?hS32 (fun hHeld => ?rest32)
      case hS32 => ((try dsimp only); (((try go_split_ands); refine sn_of ?_; repeat' (first | with_reducible assumption | with_reducible exact Below.refl _ _ | with_reducible apply below_alloc | with_reducible apply below_drew1 | with_reducible apply below_drewN | (with_reducible apply below_step; with_reducible assumption) | (with_reducible apply below_sg2; (first | exact Nat.le_refl _ | (simp; done) | omega))))))
      case' rest32 => (clear hK K; try simp only [PqL, Act.put])
      have hb4 : Below wr.heap.size wr w2 := ⟨hb3.os, hb3.tape, hb3.output, hb3.size, hb3.block⟩
      have hb5 := below_alloc hb4 (.cells #[.int .i64 E.ix, .int .i64 E.sub, .slice A3 v.length c3] 52)
      have hz5 := hbr.size
      have hz6 := hb4.size
      refine wpAnyH_ready (rs := [27]) (by kernel_rfl) (by simp) ?_
      refine AllReadyH.cons (o := _) rfl (fun K hK => ?_) AllReadyH.nil
      rw [if_pos (show Region.wanted _ _ = true by kernel_rfl)]
      refine wp_app_f (f := svF) (k := 3) (e := 52) (dat := SV.data) (F := fun g => w.heap.size ≤ g) _ _ 27 rfl svF_len svF_one (by decide) 40 _ Tryz.underlying27 infoSV rfl (by omega) (by omega) A' k c' ((svL L V).take k) ds' rfl (HO.out.1.below hb5) ⟨E.ix, E.sub, v⟩ (A3, c3) _ rfl (by exact (Blk.new _ _ _).sl) ((hO3.alloc _).mono (Nat.zero_le _)) (hO3.own.fin.mono (fun g h => Nat.le_trans hz5 h.1)) (fun g h => by simp at h; omega) (by omega) ?_
      intro A4 c4 w4 hO4 hg4 hr4
      have hO4' := hO4
      rw [← HT.out] at hO4'
      have hap : Apart (ds' ++ [(A3, c3)]) := HO.out.2.snoc (N := wr.heap.size) HO.out.1.dlt (hO3.own.fin.mono (fun g h => h.1))
      have HO4 := hide (And.intro hO4' hap)
      have hb7 : Below w.heap.size w (w2.alloc (.cells #[.int .i64 E.ix, .int .i64 E.sub, .slice A3 v.length c3] 52)) := below_step hb5 hbr
      have hb6 : Below w.heap.size w w4 := hb7.grown hg4 hb7.size (fun q hq => by
        rcases HO.out.1.own.shape with ⟨h1, _⟩ | ⟨g', h1, _, _⟩
        · rw [h1] at hq; cases hq
        · have := HO.out.1.inF g' h1
          rw [h1] at hq
          simp [Value.ownBlock] at hq
          omega)
      clear hO4 hO4' hap hb7 hO3
      refine hK.out _ _ ?hS35 (fun hHeld => ?rest35)
      case hS35 => ((try dsimp only); (((try go_split_ands); refine sn_of ?_; repeat' (first | with_reducible assumption | with_reducible exact Below.refl _ _ | with_reducible apply below_alloc | with_reducible apply below_drew1 | with_reducible apply below_drewN | (with_reducible apply below_step; with_reducible assumption) | (with_reducible apply below_sg2; (first | exact Nat.le_refl _ | (simp; done) | omega))))))
      case' rest35 => (clear hK K; try simp only [PqL, Act.put])
      refine tkH 28 ?_
      try simp only [PqL, Act.put]
      refine wpAnyH_done (by kernel_rfl) ?_ _
      have hEnd := hHeld.2
      repeat (clear hHeld)
      go_wp2_with fail
      go_roundw
      case rel => exact ⟨k + 1, A4, c4, _, by omega, by go_num, by go_num, HO4, hb6⟩
      case measure => simp [intOf]; omega
    · go_wp2_with fail
      go_ret
      have hkn : k = n := by omega
      refine ⟨_, _, _, ds', rfl, ?_, HO.out.2, hbr⟩
      have h1 := HO.out.1
      rw [List.take_of_length_le (by rw [svL_len _ _ HLV.out, hkn, HN.out]; exact Nat.le_refl _)] at h1
      exact h1
end
end
section
open Go.RowKit
set_option maxRecDepth 100000
set_option maxHeartbeats 4000000
section
variable {F : Nat → Prop} {p n cl cv : Nat} {Al Av : Option Addr} {L : List Ent} {V : List (List UInt8)} {ds es : List (Option Addr × Nat)}
end
end
end
end Go.Proofs.YtehabbnohoomjaaGreatDoor
namespace Go.Proofs.YtehabbnohoomjaaGreatDoor
section
set_option linter.unusedVariables false
set_option linter.unusedSimpArgs false
set_option linter.unnecessarySimpa false
section
open Go.RowKit
/-- whether an index is in a group -/
def inE (ix g : Int) : Bool := decide (g = 1 ∨ (2 ≤ g ∧ g ≤ 4 ∧ groupE ix = g))
/-- the values of those entries that are stored and in the group -/
def ofV : List Ent → List (List UInt8) → Int → List SV
  | E :: L, v :: V, g => if E.st = true ∧ inE E.ix g = true then ⟨E.ix, E.sub, v⟩ :: ofV L V g else ofV L V g
  | _, _, _ => []
theorem ofV_snoc (L : List Ent) (V : List (List UInt8)) (E : Ent) (v : List UInt8) (g : Int) (h : V.length = L.length) : ofV (L ++ [E]) (V ++ [v]) g = ofV L V g ++ (if E.st = true ∧ inE E.ix g = true then [⟨E.ix, E.sub, v⟩] else []) := by
  induction L generalizing V with
  | nil =>
    obtain rfl : V = [] := List.eq_nil_of_length_eq_zero h
    simp [ofV]
  | cons D L ih =>
    cases V with
    | nil => simp at h
    | cons u V =>
      simp only [List.cons_append, ofV]
      rw [ih V (by simpa using h)]
      split <;> simp
theorem ofV_take {L : List Ent} {V : List (List UInt8)} {k : Nat} {E : Ent} {v : List UInt8} (g : Int) (hE : L[k]? = some E) (hv : V[k]? = some v) :
    ofV (L.take (k + 1)) (V.take (k + 1)) g = ofV (L.take k) (V.take k) g ++ (if E.st = true ∧ inE E.ix g = true then [⟨E.ix, E.sub, v⟩] else []) := by
  obtain ⟨h1, rfl⟩ := List.getElem?_eq_some_iff.1 hE
  obtain ⟨h2, rfl⟩ := List.getElem?_eq_some_iff.1 hv
  rw [List.take_succ_eq_append_getElem h1, List.take_succ_eq_append_getElem h2]
  exact ofV_snoc _ _ _ _ _ (by simp; omega)
end
section
open Go.RowKit
set_option maxRecDepth 100000
set_option maxHeartbeats 4000000
theorem inB_inE (ix g : Int) : inB ix g = inE ix g := by
  have : groupZ ix = groupE ix := by unfold groupZ groupE; (repeat' split) <;> omega
  unfold inB inE
  rw [this]
def OfR (X : List SV) (w : World) (e : Ending) (w' : World) : Prop :=
  ∃ A n c ds, e = .returned (.slice A n c) ∧ OwnSV w' (fun g => w.heap.size ≤ g) A n c X ds ∧ Below w.heap.size w w'
section
variable {F : Nat → Prop} {p n cl cv : Nat} {Av : Option Addr} {L : List Ent} {V : List (List UInt8)} {ds es : List (Option Addr × Nat)} {gl : Nat}
theorem snap_of (gr : Int) (w : World) (hD : DB 102 w F p (some ⟨gl, 0, none⟩) n cl Av cv L V ds es) (hn : n ≤ 1000) :
    Calls Tryz.prog 52 #[.pointer (some ⟨p, 0, none⟩), .int .i64 gr] w (OfR (ofV L V gr) w) := by
  have HD := hide hD
  have HN := hide hD.ents.hn
  have HNV := hide hD.vals.hn
  have HLV := hide hD.lenV
  clear hD
  go_enter Tryz.func52, Tryz.ntmps52
  go_wp2_with fail
  refine (dict_values _ HD.out hn).mono ?_
  rintro e w1 ⟨A1, n1, c1, ds1, rfl, hO1, _, hb1⟩
  have hn1 : n1 = n := by rw [hO1.hn, svL_len _ _ HLV.out, HN.out]
  subst hn1
  have HO1 := hide hO1
  clear hO1
  go_wp2_with fail
  go_loopw [5, 13] (fun o i wr => ∃ k A' m c' ds', k ≤ n1 ∧ m ≤ k ∧ i = .int .i64 (k : Nat) ∧ o = .slice A' m c' ∧ Hid (OwnSV wr (fun g => w.heap.size ≤ g) A' m c' (ofV (L.take k) (V.take k) gr) ds' ∧ FIn (fun g => w1.heap.size ≤ g) A') ∧ Below w1.heap.size w1 wr) (fun _ i _ => n1 - (intOf i).toNat)
  case atStart => exact ⟨0, none, 0, 0, [], by omega, by omega, rfl, rfl, hide ⟨OwnF.nil _ _, FIn.nil _⟩, Below.refl _ _⟩
  case round =>
    obtain ⟨k, A', m, c', ds', hk, hmk, rfl, rfl, HO, hbr⟩ := hrel
    by_cases hlt : k < n1
    · obtain ⟨E, hE⟩ : ∃ E, L[k]? = some E := ⟨L[k]'(by rw [← HN.out]; exact hlt), List.getElem?_eq_getElem _⟩
      obtain ⟨v, hv⟩ : ∃ v, V[k]? = some v := ⟨V[k]'(by rw [← HNV.out]; exact hlt), List.getElem?_eq_getElem _⟩
      obtain ⟨d, hd, hOd, hFd⟩ := HO1.out.elem (svL_at hE hv)
      obtain ⟨g1, hA1, z1, hc1⟩ := (HO1.out.below hbr).cells svF_len (svL_at hE hv) hd (by omega)
      have c0 : wr.cell? ⟨g1, k * 3, none⟩ = some (.int .i64 E.ix) := hc1 0 _ rfl
      have c1' : wr.cell? ⟨g1, k * 3 + 1, none⟩ = some (.int .i64 E.sub) := hc1 1 _ rfl
      have c2' : wr.cell? ⟨g1, k * 3 + 2, none⟩ = some (.slice d.1 v.length d.2) := hc1 2 _ rfl
      subst hA1
      have HT := hide (ofV_take gr hE hv)
      have HE := hide hE
      have HOd := hide (hOd.below hbr)
      have HFd := hide hFd
      obtain ⟨i1, i2, i3⟩ := idx_at hlt
      have q := blk_one wr 52 #[.int .i64 E.ix, .int .i64 E.sub, .slice d.1 v.length d.2]
      have hb2 := below_alloc (Below.refl wr.heap.size wr) (.cells #[.int .i64 E.ix, .int .i64 E.sub, .slice d.1 v.length d.2] 52)
      have HDr := hide ((HD.out.below hb1).below (below_step hb2 hbr))
      clear hE hv hd hOd hFd hc1
      go_wp2_with fail
      refine (dict_entry_yes k E _ _ p gl n1 cl cv Av L V ds es HDr.out HE.out).mono ?_
      rintro e w2 ⟨A2, c2, rfl, hO2, hb3⟩
      have qv := q.below hb3 q.lt
      have q2 := blk_one w2 55 (entV E A2 E.df.length c2)
      have hb4 := below_step (below_alloc (Below.refl w2.heap.size w2) (.cells (entV E A2 E.df.length c2) 55)) (below_step hb3 hb2)
      have qv2 := qv.alloc (.cells (entV E A2 E.df.length c2) 55)
      have HQV := hide qv2
      obtain ⟨st, hst⟩ : ∃ st, st = E.st := ⟨_, rfl⟩
      have HST := hide hst
      clear hO2 c0 c1' c2'
      unfold entV at q2 hb4 qv2 ⊢
      rw [← hst] at q2 hb4 qv2 ⊢
      clear hst
      cases st
      · go_wp2_with fail
        have HO4 := hide (And.intro (HO.out.1.below hb4) HO.out.2)
        have HTF : Hid (ofV (L.take (k + 1)) (V.take (k + 1)) gr = ofV (L.take k) (V.take k) gr) := hide (by rw [HT.out, ← HST.out]; simp)
        rw [← HTF.out] at HO4
        go_roundw
        case rel => exact ⟨k + 1, A', m, c', ds', by omega, by omega, by go_num, by rfl, HO4, below_step hb4 hbr⟩
        case measure => simp [intOf]; omega
      · skip
        obtain ⟨q2_c0, q2_c1, q2_c2, q2_c3, q2_c4, q2_c5, q2_c6, q2_c7, q2_c8, q2_c9, q2_c10⟩ := cel11 q2
        have q2_f := q2.frozen
        go_wp2_with fail
        refine (snap_in E.ix E.sub gr _ _ _ _ _ _ _ _ _ _).mono ?_
        rintro e w3 ⟨rfl, hb5⟩
        have hb6 := below_step hb5 hb4
        have qv3 := qv2.below hb5 qv2.lt
        clear q2_c0 q2_c1 q2_c2 q2_c3 q2_c4 q2_c5 q2_c6 q2_c7 q2_c8 q2_c9 q2_c10 q2_f
        cases hin : inB E.ix gr
        · have HTF : Hid (ofV (L.take (k + 1)) (V.take (k + 1)) gr = ofV (L.take k) (V.take k) gr) := hide (by rw [HT.out, ← inB_inE, hin]; simp)
          clear hin
          go_wp2_with fail
          have HO4 := hide (And.intro (HO.out.1.below hb6) HO.out.2)
          rw [← HTF.out] at HO4
          go_roundw
          case rel => exact ⟨k + 1, A', m, c', ds', by omega, by omega, by go_num, by rfl, HO4, below_step hb6 hbr⟩
          case measure => simp [intOf]; omega
        · have HTF : Hid (ofV (L.take (k + 1)) (V.take (k + 1)) gr = ofV (L.take k) (V.take k) gr ++ [⟨E.ix, E.sub, v⟩]) := hide (by rw [HT.out, ← inB_inE, hin, ← HST.out]; simp)
          clear hin
          have hb7 := below_alloc hb6 (.cells #[.int .i64 E.ix, .int .i64 E.sub, .slice d.1 v.length d.2] 52)
          have hb8 := below_step hb7 hbr
          have hz8 := hb8.size
          have hz1 := hb1.size
          have HO4 := hide (HO.out.1.below hb7)
          have HOd7 := hide (HOd.out.below hb7)
          obtain ⟨qv3_c0, qv3_c1, qv3_c2⟩ := cel3 qv3
          have qv3_f := qv3.frozen
          go_wp2_with (at_builtin; refine app_f _ rfl _ _ 27 rfl svF_len svF_one (by decide) (info_parts infoSV).choose _ 40 Tryz.underlying27 (info_parts infoSV).choose_spec.1 (info_parts infoSV).choose_spec.2.1 (info_parts infoSV).choose_spec.2.2.1 (info_parts infoSV).choose_spec.2.2.2 rfl (by omega) (by omega) A' m c' (ofV (L.take k) (V.take k) gr) ds' rfl HO4.out ⟨E.ix, E.sub, v⟩ d _ rfl (by exact (Blk.new _ _ _).sl) HOd7.out HFd.out (fun g h => Nat.le_trans (Nat.le_trans hz1 hz8) h) (by omega) (m + 1) rfl ?_; intro A4 c4 w4 hO5 hg4 hr4)
          have hF4 : FIn (fun g => w1.heap.size ≤ g) A4 := by
            rcases hr4 with h | h
            · rw [h]; exact HO.out.2
            · rw [h]; intro g hg; injection hg with hg; injection hg with hg; subst hg; exact hz8
          have hO5' := hO5
          rw [← HTF.out] at hO5'
          have HO5 := hide (And.intro hO5' hF4)
          have hb9 : Below w1.heap.size w1 w4 := hb8.grown hg4 hz8 (fun q hq => by
            rcases HO.out.1.own.shape with ⟨h1, _⟩ | ⟨g', h1, _, _⟩
            · rw [h1] at hq; cases hq
            · have := HO.out.2 g' h1
              rw [h1] at hq
              simp [Value.ownBlock] at hq
              omega)
          go_roundw
          case rel => exact ⟨k + 1, A4, m + 1, c4, _, by omega, by omega, by go_num, by rfl, HO5, hb9⟩
          case measure => simp [intOf]; omega
    · go_wp2_with fail
      go_ret
      have hkn : k = n1 := by omega
      refine ⟨_, _, _, ds', rfl, ?_, below_step hbr hb1⟩
      have h1 := HO.out.1
      rw [List.take_of_length_le (by rw [hkn, HN.out]; exact Nat.le_refl _), List.take_of_length_le (by rw [HLV.out, hkn, HN.out]; exact Nat.le_refl _)] at h1
      exact h1
end
end
end
end Go.Proofs.YtehabbnohoomjaaGreatDoor
namespace Go.Proofs.YtehabbnohoomjaaGreatDoor
section
set_option linter.unusedVariables false
set_option linter.unusedSimpArgs false
set_option linter.unnecessarySimpa false
open Go.RowKit
set_option maxRecDepth 20000
/-- the parts -/
structure Two (N : Nat) (X : Nat → Prop) (L : List Ent) (V : List (List UInt8)) (pr : Nat) (w : World) (p : Nat) (Fd Fr : Nat → Prop) (gl n cl : Nat) (Av : Option Addr) (cv : Nat) (ds es : List (Option Addr × Nat)) (Al2 : Option Addr) (cl2 : Nat) (Av2 : Option Addr) (cv2 : Nat) (ds2 es2 : List (Option Addr × Nat)) : Prop where
  hn : n = L.length
  d : DB 102 w Fd p (some ⟨gl, 0, none⟩) n cl Av cv L V ds es
  r : DB 112 w Fr pr Al2 n cl2 Av2 cv2 L V ds2 es2
  bd : ∀ g, Fd g → N ≤ g ∧ g < w.heap.size ∧ ¬ X g
  br : ∀ g, Fr g → N ≤ g ∧ g < w.heap.size ∧ ¬ X g
  dj : ∀ g, Fd g → ¬ Fr g
def TwoD (N : Nat) (X : Nat → Prop) (L : List Ent) (V : List (List UInt8)) (pr : Nat) (w : World) (p : Nat) : Prop :=
  ∃ Fd Fr gl n cl Av cv ds es Al2 cl2 Av2 cv2 ds2 es2, Two N X L V pr w p Fd Fr gl n cl Av cv ds es Al2 cl2 Av2 cv2 ds2 es2
section
variable {N : Nat} {X Y : Nat → Prop} {L : List Ent} {V : List (List UInt8)} {pr p : Nat} {w w' : World}
end
section
variable {N : Nat} {X : Nat → Prop} {L : List Ent} {V V1 : List (List UInt8)} {pr p : Nat} {w w1 w2 : World} {Fd Fr : Nat → Prop} {gl n cl : Nat} {Av : Option Addr} {cv : Nat} {ds es : List (Option Addr × Nat)} {Al2 : Option Addr} {cl2 : Nat} {Av2 : Option Addr} {cv2 : Nat} {ds2 es2 : List (Option Addr × Nat)}
end
end
end Go.Proofs.YtehabbnohoomjaaGreatDoor
