/- Dictionaries: what must come of fixed calls (law15's known). -/
import Derived.Test.YtehabbnohoomjaaGreatDoorNv42
import Derived.Test.YtehabbnohoomjaaGreatDoorNv38
import Derived.Test.YtehabbnohoomjaaGreatDoorNv48
import Derived.Test.YtehabbnohoomjaaGreatDoorNv49
import Derived.Test.YtehabbnohoomjaaGreatDoorNv32
namespace Go.Proofs.YtehabbnohoomjaaGreatDoor
section
set_option linter.unusedVariables false
set_option linter.unusedSimpArgs false
set_option linter.unnecessarySimpa false
open Go.RowKit
set_option maxRecDepth 100000
set_option maxHeartbeats 4000000
theorem slE_one {w : World} {g : Nat} {E : Ent} {A : Option Addr} {c : Nat} (hB : Blk w g 55 (entV E A E.df.length c)) (hc : E.df.length ≤ c) (hs : Sl w A (E.df.map bv)) : SlE w (some ⟨g, 0, none⟩) [E] := by
  intro j D hD
  cases j with
  | zero =>
    simp at hD
    subst hD
    obtain ⟨c0, c1, c2, c3, c4, c5, c6, c7, c8, c9, c10⟩ := ec_of hB
    exact ⟨g, 0, A, c, rfl, ⟨c0, c1, c2, c3, c4, c5, c6, c7, c8, c9, c10⟩, hc, hs⟩
  | succ j => simp at hD
def kD : Ent := ⟨4119, 0, ⟨#[98, 101, 97, 116]⟩, 6, 4, false, false, 0, 10, 1000, [20, 0]⟩
end
end Go.Proofs.YtehabbnohoomjaaGreatDoor
namespace Go.Proofs.YtehabbnohoomjaaGreatDoor
section
set_option linter.unusedVariables false
set_option linter.unusedSimpArgs false
set_option linter.unnecessarySimpa false
open Go.RowKit
set_option maxRecDepth 100000
set_option maxHeartbeats 8000000

def vE : Ent := ⟨24576, 0, ⟨#[103, 97, 105, 110]⟩, 5, 4, false, true, 0, 0, 9, [3]⟩
def vX : SV := ⟨24576, 0, [5]⟩
theorem vE_chk : chkE [vE] 0 = 0 := by decide +kernel
theorem vE_new : NewP [vE] 0 0 := .inr (.inr ⟨by decide, rfl, rfl, by intro j hj; obtain rfl : j = 0 := by simp at hj; omega
                                                                      exact vE_chk⟩)
theorem vE_sorted : SortedE [vE] := List.pairwise_singleton _ _
theorem vE_all : mayC [vE] 24576 0 [5] false = 0 ∧ putV [vE] [[3]] 24576 0 [5] false = [[5]] ∧ mayC [vE] 24576 0 [7] false = 0 ∧ putV [vE] [[5]] 24576 0 [7] false = [[7]] ∧ getC [vE] 24576 0 = 0 ∧ valK [[5]] (locK [vE] 24576 0) = [5] ∧ checkL [vE] [vX] = 0 ∧ applyV [vE] [[3]] [vX] = [[5]] := by decide +kernel
theorem vX_all : ofV [vE] [[5]] 1 = [vX] ∧ dropL [] 1 = [] ∧ joinV [] [vX] = [vX] ∧ dropL [vX] 0 = [vX] ∧ dropL [vX] 3 = [] ∧ dropL [] 0 = [] := ⟨by first | rfl | kernel_rfl, by first | rfl | kernel_rfl, by first | rfl | kernel_rfl, by first | rfl | kernel_rfl, by first | rfl | kernel_rfl, by first | rfl | kernel_rfl⟩
theorem vX_built {b : List UInt8} {er : Int} (h : BuildR [vX] b er) : er = 0 ∧ b.length ≤ 960 := by
  have h1 : ∀ j, j < [vX].length → chkV [vX] j = 0 := by
    intro j hj
    obtain rfl : j = 0 := by simp at hj; omega
    decide +kernel
  have h2 : BuildR [vX] ([vX].flatMap vbytes) 0 := .inr ⟨h1, .inr ⟨by decide +kernel, rfl, rfl⟩⟩
  obtain ⟨h3, h4⟩ := BuildR_det h h2
  exact ⟨h4, by rw [h3]; decide +kernel⟩
theorem nil_built {b : List UInt8} {er : Int} (h : BuildR [] b er) : er = 0 ∧ b.length ≤ 960 ∧ b = [] := by
  have h2 : BuildR [] [] 0 := .inr ⟨by intro j hj; simp at hj, .inr ⟨by simp, rfl, rfl⟩⟩
  obtain ⟨h3, h4⟩ := BuildR_det h h2
  exact ⟨h4, by rw [h3]; simp, h3⟩
/-- a write without a cut -/
theorem wr_step {S : FS} {k : Nat} {kd : Int} {l : List SV} {R : JS × FS × Int} (hf : Fresh S k) (hoff : S.off = false) (ha : S.ahead < 0) (hk : ((k + 1 : Nat) : Int) < S.most) (hk2 : k + 1 ≤ 1000000) (hb : ∀ b er, BuildR l b er → er = 0 ∧ b.length ≤ 960) (hkd : kd = 1 ∨ (kd = 2 ∧ ∀ b er, BuildR l b er → b = [])) (h : WrP (openJ S) S kd l R) :
    ∃ S', R = (openJ S', S', 0) ∧ Fresh S' (k + 1) ∧ S'.off = false ∧ S'.ahead = S.ahead ∧ S'.most = S.most ∧ S'.ops ≤ S.ops + 1000 := by
  obtain ⟨b, er, hB, hc⟩ := h
  obtain ⟨rfl, hd⟩ := hb b er hB
  rcases hc with ⟨h, _⟩ | ⟨_, rfl⟩
  · exact absurd rfl h
  have hr : rightR kd (numJ (openJ S) + 1) b.length = 0 := by
    unfold rightR
    rcases hkd with rfl | ⟨rfl, hz⟩
    · rw [if_neg (by omega), if_neg (by omega), if_neg (by decide), if_neg (by omega)]
    · rw [if_neg (by omega), if_pos ⟨rfl, by rw [hz b 0 hB]; rfl⟩]
  obtain ⟨⟨J1, S1, e⟩, hap⟩ : ∃ r, r = appJ (openJ S) S kd b := ⟨_, rfl⟩
  obtain ⟨i, y, er, hs⟩ := fresh_app hf hoff hr hap.symm
  rcases hs.ends with ⟨he, h2, h3, h4, h5, h6⟩ | ⟨_, h, _⟩
  · subst he
    have hJ1 := step_open hs
    refine ⟨S1, by rw [← hap, hJ1], fresh_step hf hs hk hk2, h2, h6 ha, hs.kept.most, ?_⟩
    rw [h5]
    cases er <;> simp <;> omega
  · omega
end
end Go.Proofs.YtehabbnohoomjaaGreatDoor
namespace Go.Proofs.YtehabbnohoomjaaGreatDoor
section
set_option linter.unusedVariables false
set_option linter.unusedSimpArgs false
set_option linter.unnecessarySimpa false
open Go.RowKit
set_option maxRecDepth 100000
set_option maxHeartbeats 4000000
section
variable {F : Nat → Prop} {p n cl cv : Nat} {Av : Option Addr} {L : List Ent} {V : List (List UInt8)} {ds es : List (Option Addr × Nat)} {gl : Nat}
def ResetR (F : Nat → Prop) (p gl n cl : Nat) (Av : Option Addr) (cv : Nat) (L : List Ent) (ds : List (Option Addr × Nat)) (w : World) (e : Ending) (w' : World) : Prop :=
  ∃ es', e = .returned (.tuple #[]) ∧ DB 102 w' (fun g => F g ∨ w.heap.size ≤ g) p (some ⟨gl, 0, none⟩) n cl Av cv L (L.map Ent.df) ds es' ∧ Only F w w'
theorem dict_reset (w : World) (hD : DB 102 w F p (some ⟨gl, 0, none⟩) n cl Av cv L V ds es) (hn : n ≤ 1000) :
    Calls Tryz.prog 54 #[.pointer (some ⟨p, 0, none⟩)] w (ResetR F p gl n cl Av cv L ds w) := by
  have HD := hide hD
  have HN := hide hD.ents.hn
  have HLV := hide hD.lenV
  have hB := hD.blk
  clear hD
  go_enter Tryz.func54, Tryz.ntmps54
  go_wp2_with fail
  refine (dict_len _ hB).mono ?_
  rintro e w1 ⟨rfl, rfl⟩
  clear hB
  go_wp2_with fail
  go_loopw [5] (fun i wr => ∃ k es', k ≤ n ∧ i = .int .i64 (k : Nat) ∧ Hid (DB 102 wr (fun g => F g ∨ w.heap.size ≤ g) p (some ⟨gl, 0, none⟩) n cl Av cv L (rsV L V k) ds es') ∧ Hid (Only F w wr)) (fun i _ => n - (intOf i).toNat)
  case atStart => exact ⟨0, es, by omega, rfl, hide (by rw [rs_zero]; exact HD.out.mono (fun g _ h => .inl h)), hide (Only.refl _ _)⟩
  case round =>
    obtain ⟨k, es', hk, rfl, HDr, HOr⟩ := hrel
    by_cases hlt : k < n
    · obtain ⟨E, hE⟩ : ∃ E, L[k]? = some E := ⟨L[k]'(by rw [← HN.out]; exact hlt), List.getElem?_eq_getElem _⟩
      obtain ⟨v, hv⟩ : ∃ v, (rsV L V k)[k]? = some v := ⟨(rsV L V k)[k]'(by rw [rs_len HLV.out, ← HN.out]; exact hlt), List.getElem?_eq_getElem _⟩
      obtain ⟨g, d, hA, zg, _, hOd, hfit, _, _, _, _, _, _, _, _, _, _, c10⟩ := HDr.out.ent hE
      injection hA with hA
      injection hA with hA
      subst hA
      obtain ⟨gv, dv, hAv, zv, _, _, _, cv0, cf0, hFv⟩ := HDr.out.val hv
      subst hAv
      have hB2 := HDr.out.blk
      have zp := hB2.lt
      obtain ⟨hB2_c0, hB2_c1⟩ := cel2 hB2
      have hB2_f := hB2.frozen
      have HS := hide hOd.sl
      have HF := hide hfit.1
      have HT := hide (rs_step hE HLV.out)
      have HFV := hide hFv
      obtain ⟨i1, i2, i3⟩ := idx_at hlt
      have hne1 : gv ≠ p := fun h => blk_own_ne hB2 HDr.out.vals.own (by decide) (by rw [h]; rfl)
      have hne2 : gv ≠ gl := by
        have := own_ne' HDr.out.ents.own HDr.out.vals.own (by decide) gl rfl
        simp [Value.ownBlock] at this
        omega
      clear hE hv hOd hfit hFv
      go_wp2_with fail
      refine wp_region_held_drew (S := (fun w' => w'.cell? ⟨p, 0, none⟩ = some (.slice (some ⟨gl, 0, none⟩) n cl) ∧ w'.cell? ⟨p, 1, none⟩ = some (.slice (some ⟨gv, 0, none⟩) n cv) ∧ w'.cell? ⟨gl, k * 11 + 10, none⟩ = some (.slice d.1 E.df.length d.2))) (by kernel_rfl) ?hS1 (fun hHeld => ?rest1)
      case hS1 => ((try dsimp only); (exact ⟨hB2_c0, hB2_c1, c10⟩))
      case' rest1 => skip
      refine wpAnyH_take (i := 0) (oi := _) (v := ?v2) rfl (by kernel_rfl) (by kernel_rfl) (by kernel_rfl) (fun _ _ _ h => h) (Or.inl ⟨by rfl, ?hy2⟩) (by assumption) ?rest2
      case hy2 => ((intro w hSw; (try dsimp only at hSw); go_simp) <;> with_reducible rfl)
      case' rest2 => try simp only [List.getElem_toArray, List.getElem_cons_zero, List.getElem_cons_succ, Act.put, List.setIfInBounds_toArray, List.set_cons_zero, List.set_cons_succ]
      refine wpAnyH_take (i := 1) (oi := _) (v := ?v3) rfl (by kernel_rfl) (by kernel_rfl) (by kernel_rfl) (fun _ _ _ h => h) (Or.inl ⟨by rfl, ?hy3⟩) (by assumption) ?rest3
      case hy3 => ((intro w hSw; (try dsimp only at hSw); go_simp) <;> with_reducible rfl)
      case' rest3 => try simp only [List.getElem_toArray, List.getElem_cons_zero, List.getElem_cons_succ, Act.put, List.setIfInBounds_toArray, List.set_cons_zero, List.set_cons_succ]
      refine wpAnyH_take (i := 2) (oi := _) (v := ?v4) rfl (by kernel_rfl) (by kernel_rfl) (by kernel_rfl) (fun _ _ _ h => h) (Or.inl ⟨by rfl, ?hy4⟩) (by assumption) ?rest4
      case hy4 => ((intro w hSw; (try dsimp only at hSw); go_simp) <;> with_reducible rfl)
      case' rest4 => try simp only [List.getElem_toArray, List.getElem_cons_zero, List.getElem_cons_succ, Act.put, List.setIfInBounds_toArray, List.set_cons_zero, List.set_cons_succ]
      refine wpAnyH_take (i := 3) (oi := _) (v := ?v5) rfl (by kernel_rfl) (by kernel_rfl) (by kernel_rfl) (fun _ _ _ h => h) (Or.inl ⟨by rfl, ?hy5⟩) (by assumption) ?rest5
      case hy5 => ((intro w hSw; (try dsimp only at hSw); go_simp) <;> with_reducible rfl)
      case' rest5 => try simp only [List.getElem_toArray, List.getElem_cons_zero, List.getElem_cons_succ, Act.put, List.setIfInBounds_toArray, List.set_cons_zero, List.set_cons_succ]
      refine wpAnyH_take (i := 4) (oi := _) (v := ?v6) rfl (by kernel_rfl) (by kernel_rfl) (by kernel_rfl) (fun _ _ _ h => h) (Or.inl ⟨by rfl, ?hy6⟩) (by assumption) ?rest6
      case hy6 => ((intro w hSw; (try dsimp only at hSw); go_simp) <;> with_reducible rfl)
      case' rest6 => try simp only [List.getElem_toArray, List.getElem_cons_zero, List.getElem_cons_succ, Act.put, List.setIfInBounds_toArray, List.set_cons_zero, List.set_cons_succ]
      refine wpAnyH_take (i := 5) (oi := _) (v := ?v7) rfl (by kernel_rfl) (by kernel_rfl) (by kernel_rfl) (fun _ _ _ h => h) (Or.inl ⟨by rfl, ?hy7⟩) (by assumption) ?rest7
      case hy7 => ((intro w hSw; (try dsimp only at hSw); go_simp) <;> with_reducible rfl)
      case' rest7 => try simp only [List.getElem_toArray, List.getElem_cons_zero, List.getElem_cons_succ, Act.put, List.setIfInBounds_toArray, List.set_cons_zero, List.set_cons_succ]
      refine wpAnyH_take (i := 6) (oi := _) (v := ?v8) rfl (by kernel_rfl) (by kernel_rfl) (by kernel_rfl) (fun _ _ _ h => h) (Or.inl ⟨by rfl, ?hy8⟩) (by assumption) ?rest8
      case hy8 => ((intro w hSw; (try dsimp only at hSw); go_simp) <;> with_reducible rfl)
      case' rest8 => try simp only [List.getElem_toArray, List.getElem_cons_zero, List.getElem_cons_succ, Act.put, List.setIfInBounds_toArray, List.set_cons_zero, List.set_cons_succ]
      refine wpAnyH_take (i := 7) (oi := _) (v := ?v9) rfl (by kernel_rfl) (by kernel_rfl) (by kernel_rfl) (fun _ _ _ h => h) (Or.inl ⟨by rfl, ?hy9⟩) (by assumption) ?rest9
      case hy9 => ((intro w hSw; (try dsimp only at hSw); go_simp) <;> with_reducible rfl)
      case' rest9 => try simp only [List.getElem_toArray, List.getElem_cons_zero, List.getElem_cons_succ, Act.put, List.setIfInBounds_toArray, List.set_cons_zero, List.set_cons_succ]
      refine wpAnyH_take (i := 8) (oi := _) (v := ?v10) rfl (by kernel_rfl) (by kernel_rfl) (by kernel_rfl) (fun _ _ _ h => h) (Or.inl ⟨by rfl, ?hy10⟩) (by assumption) ?rest10
      case hy10 => ((intro w hSw; (try dsimp only at hSw); go_simp) <;> with_reducible rfl)
      case' rest10 => try simp only [List.getElem_toArray, List.getElem_cons_zero, List.getElem_cons_succ, Act.put, List.setIfInBounds_toArray, List.set_cons_zero, List.set_cons_succ]
      refine wpAnyH_take (i := 9) (oi := _) (v := ?v11) rfl (by kernel_rfl) (by kernel_rfl) (by kernel_rfl) (fun _ _ _ h => h) (Or.inl ⟨by rfl, ?hy11⟩) (by assumption) ?rest11
      case hy11 => ((intro w hSw; (try dsimp only at hSw); go_simp) <;> with_reducible rfl)
      case' rest11 => try simp only [List.getElem_toArray, List.getElem_cons_zero, List.getElem_cons_succ, Act.put, List.setIfInBounds_toArray, List.set_cons_zero, List.set_cons_succ]
      refine wpAnyH_take (i := 10) (oi := _) (v := ?v12) rfl (by kernel_rfl) (by kernel_rfl) (by kernel_rfl) (fun _ _ _ h => h) (Or.inl ⟨by rfl, ?hy12⟩) (by assumption) ?rest12
      case hy12 => ((intro w hSw; (try dsimp only at hSw); go_simp) <;> with_reducible rfl)
      case' rest12 => try simp only [List.getElem_toArray, List.getElem_cons_zero, List.getElem_cons_succ, Act.put, List.setIfInBounds_toArray, List.set_cons_zero, List.set_cons_succ]
      refine wpAnyH_take (i := 11) (oi := _) (v := ?v13) rfl (by kernel_rfl) (by kernel_rfl) (by kernel_rfl) (fun _ _ _ h => h) (Or.inl ⟨by rfl, ?hy13⟩) (by assumption) ?rest13
      case hy13 => ((intro w hSw; (try dsimp only at hSw); go_simp) <;> with_reducible rfl)
      case' rest13 => try simp only [List.getElem_toArray, List.getElem_cons_zero, List.getElem_cons_succ, Act.put, List.setIfInBounds_toArray, List.set_cons_zero, List.set_cons_succ]
      refine wpAnyH_take (i := 12) (oi := _) (v := ?v14) rfl (by kernel_rfl) (by kernel_rfl) (by kernel_rfl) (fun _ _ _ h => h) (Or.inl ⟨by rfl, ?hy14⟩) (by assumption) ?rest14
      case hy14 => ((intro w hSw; (try dsimp only at hSw); go_simp) <;> with_reducible rfl)
      case' rest14 => try simp only [List.getElem_toArray, List.getElem_cons_zero, List.getElem_cons_succ, Act.put, List.setIfInBounds_toArray, List.set_cons_zero, List.set_cons_succ]
      refine wpAnyH_ready (rs := [13]) (by kernel_rfl) (by simp) ?_
      refine AllReadyH.cons (o := _) rfl (fun K hK => ?_) AllReadyH.nil
      go_simp
      refine (dict_own d.1 E.df.length d.2 E.df _ rfl HF.out HS.out.drew).mono ?_
      rintro e w2 ⟨A3, c3, rfl, hO3, hb3⟩
      dsimp only
      have e0 := (hb3.cell (p := ⟨p, 0, none⟩) zp).trans hB2_c0
      have e1 := (hb3.cell (p := ⟨p, 1, none⟩) zp).trans hB2_c1
      have e2 := (hb3.cell (p := ⟨gl, k * 11 + 10, none⟩) zg).trans c10
      refine hK.out _ _ ?hS17 (fun hHeld => ?rest17)
      case hS17 => ((try dsimp only); (exact ⟨e0, e1, e2⟩))
      case' rest17 => (clear hK K; try simp only [List.getElem_toArray, List.getElem_cons_zero, List.getElem_cons_succ, Act.put, List.setIfInBounds_toArray, List.set_cons_zero, List.set_cons_succ])
      have hf3 : w2.frozen? ⟨gv, k, none⟩ = false := (hb3.frozen (p := ⟨gv, k, none⟩) zv).trans cf0
      have hc3 := (hb3.cell (p := ⟨gv, k, none⟩) zv).trans cv0
      refine wpAnyH_take (i := 14) (oi := _) (v := ?v18) rfl (by kernel_rfl) (by kernel_rfl) (by kernel_rfl) (fun _ _ _ h => h) (Or.inl ⟨by rfl, ?hy18⟩) (by assumption) ?rest18
      case hy18 => ((intro w hSw; (try dsimp only at hSw); go_simp) <;> with_reducible rfl)
      case' rest18 => try simp only [List.getElem_toArray, List.getElem_cons_zero, List.getElem_cons_succ, Act.put, List.setIfInBounds_toArray, List.set_cons_zero, List.set_cons_succ]
      refine wpAnyH_ready (rs := [15]) (by kernel_rfl) (by simp) ?_
      refine AllReadyH.cons (o := _) rfl (fun K hK => ?_) AllReadyH.nil
      go_simp
      refine hK.out _ _ ?hS21 (fun hHeld => ?rest21)
      case hS21 => ((try dsimp only); (exact ⟨(World.cell?_setCell_far _ _ _ _ hne1).trans e0, (World.cell?_setCell_far _ _ _ _ hne1).trans e1, (World.cell?_setCell_far _ _ _ _ hne2).trans e2⟩))
      case' rest21 => (clear hK K; try simp only [List.getElem_toArray, List.getElem_cons_zero, List.getElem_cons_succ, Act.put, List.setIfInBounds_toArray, List.set_cons_zero, List.set_cons_succ])
      refine wpAnyH_done (by kernel_rfl) ?_ _
      have hEnd := hHeld.2
      repeat (clear hHeld)
      have hb4 : Below wr.heap.size wr w2 := ⟨hb3.os, hb3.tape, hb3.output, hb3.size, hb3.block⟩
      have hz := HOr.out.size
      have HD3 := hide (DB.store (T := 102) (HDr.out.below hb4) (by decide) hlt (hO3.mono (Nat.zero_le _)) (hO3.own.fin.mono (fun g h => .inr (Nat.le_trans hz h.1))) HF.out)
      rw [HT.out] at HD3
      have HO3 : Hid (Only F w (w2.setCell ⟨gv, k, none⟩ (.slice A3 E.df.length c3))) := hide ((HOr.out.step hb4).trans (Only.of_set (F := fun g => F g ∨ w.heap.size ≤ g) HFV.out _) (fun i hi h => by
        rcases h with h | h
        · exact h
        · omega))
      go_wp2_with fail
      go_roundw
      case rel => exact ⟨k + 1, _, by omega, by go_num, HD3, HO3⟩
      case measure => simp [intOf]; omega
    · go_wp2_with fail
      have hkn : k = n := by omega
      go_end0
      refine ⟨es', rfl, ?_, HOr.out⟩
      have := HDr.out
      rw [rs_full HLV.out (by rw [hkn, HN.out])] at this
      exact this
end
end
end Go.Proofs.YtehabbnohoomjaaGreatDoor
