/- Package snap: Check. -/
import Derived.Test.YtabgdfbiocoimaaSnpA
import Derived.Test.YtabgdfbiocoimaaMade
namespace Go.Proofs.Ytabgdfbiocoimaa
set_option linter.unusedVariables false
set_option linter.unusedSimpArgs false
set_option linter.unnecessarySimpa false
section
open Go.RowKit
set_option maxRecDepth 100000
set_option maxHeartbeats 4000000
/-- why one value can not be set -/
def chkS (L : List Ent) (v : SV) : Int := if hasL L v.ix v.sub = false ∨ (entK L (locK L v.ix v.sub)).st = false then 8 else if valC (entK L (locK L v.ix v.sub)) v.data ≠ 0 then 4 else 0
/-- why values can not be set: the first reason -/
def checkL (L : List Ent) : List SV → Int
  | [] => 0
  | v :: X => if chkS L v ≠ 0 then chkS L v else checkL L X
theorem check_drop {L : List Ent} {X : List SV} {k : Nat} {v : SV} (h : X[k]? = some v) : checkL L (X.drop k) = if chkS L v ≠ 0 then chkS L v else checkL L (X.drop (k + 1)) := by
  rw [drop_cons h]; rfl
section
variable {F : Nat → Prop} {p n cl cv : Nat} {Av : Option Addr} {L : List Ent} {V : List (List UInt8)} {ds es : List (Option Addr × Nat)} {gl : Nat}
theorem snap_check0 (v : Value) (w : World) : Calls Try.prog 42 #[.pointer none, v] w fun e w' => e = .returned (.int .i64 17) ∧ w = w' := by
  go_enter Try.func42, Try.ntmps42
  go_wp2_with fail
  go_ret
  exact ⟨rfl, rfl⟩
theorem snap_apply0 (v : Value) (w : World) : Calls Try.prog 44 #[.pointer none, v] w fun e w' => e = .returned (.int .i64 17) ∧ w = w' := by
  go_enter Try.func44, Try.ntmps44
  go_wp2_with fail
  refine (snap_check0 _ _).mono ?_
  rintro e w1 ⟨rfl, rfl⟩
  go_wp2_with fail
  go_ret
  exact ⟨rfl, rfl⟩
theorem snap_check (A : Option Addr) (m c : Nat) (X : List SV) (w : World) (hD : DB 86 w F p (some ⟨gl, 0, none⟩) n cl Av cv L V ds es) (hs : SortedE L) (hn : n ≤ 1000) (hm : m = X.length) (hmb : m ≤ 1000) (hX : SlV w A X) (hf : fitsV X) :
    Calls Try.prog 42 #[.pointer (some ⟨p, 0, none⟩), .slice A m c] w fun e w' => e = .returned (.int .i64 (checkL L X)) ∧ Below w.heap.size w w' := by
  have HD := hide hD
  have HN := hide hD.ents.hn
  have HS := hide hs
  have HM := hide hm
  have HX := hide hX
  have HF := hide hf
  have H1 := hide hn
  clear hD hs hm hX hf hn
  go_enter Try.func42, Try.ntmps42
  go_wp2_with fail
  go_loopw [15] (fun i wr => ∃ k, k ≤ m ∧ i = .int .i64 (k : Nat) ∧ Hid (checkL L (X.drop k) = checkL L X) ∧ Below w.heap.size w wr) (fun i _ => m - (intOf i).toNat)
  case atStart => exact ⟨0, by omega, rfl, hide rfl, Below.refl _ _⟩
  case round =>
    obtain ⟨k, hk, rfl, HC, hbr⟩ := hrel
    by_cases hlt : k < m
    · obtain ⟨v, hv⟩ : ∃ v, X[k]? = some v := ⟨X[k]'(by rw [← HM.out]; exact hlt), List.getElem?_eq_getElem _⟩
      obtain ⟨b, off, Aj, cj, rfl, c0, c1, c2, hcj, hsj⟩ := (HX.out.below hbr) k v hv
      have HV : Hid (checkL L X = if chkS L v ≠ 0 then chkS L v else checkL L (X.drop (k + 1))) := hide (by rw [← HC.out]; exact check_drop hv)
      have q := blk_one wr 37 #[.int .i64 v.ix, .int .i64 v.sub, .slice Aj v.data.length cj]
      have hb2 := below_alloc (Below.refl wr.heap.size wr) (.cells #[.int .i64 v.ix, .int .i64 v.sub, .slice Aj v.data.length cj] 37)
      have hbr2 := below_step hb2 hbr
      have HSJ := hide (hsj.below hb2)
      have HCJ := hide hcj
      have hvd := HF.out v (List.mem_of_getElem? hv)
      have HVD := hide hvd
      obtain ⟨i1, i2, i3⟩ := idx_at hlt
      clear hv hcj hsj hvd
      go_wp2_with fail
      refine (dict_find v.ix v.sub _ (HD.out.below hbr2) HS.out H1.out).mono ?_
      rintro e w2 ⟨rfl, hb3⟩
      have hbr3 := below_step hb3 hbr2
      have q2 := q.below hb3 q.lt
      have HD3 := hide (HD.out.below hbr3)
      clear c0 c1 c2
      by_cases hf : 0 ≤ findL L v.ix v.sub
      · obtain ⟨j, hj, hlj, hjl⟩ := find_nat hf
        obtain ⟨E, hE⟩ : ∃ E, L[j]? = some E := ⟨L[j], List.getElem?_eq_getElem _⟩
        have hh : hasL L v.ix v.sub = true := by simp [hasL, hf]
        have HCS : Hid (chkS L v = if E.st = false then 8 else if valC E v.data ≠ 0 then 4 else 0) := hide (by unfold chkS; rw [hh, hlj, entK_at hE]; simp)
        rw [hh, hlj]
        have HE := hide hE
        clear hf hj hlj hh hE
        go_wp2_with fail
        refine (dict_entry_yes j E _ _ p gl n cl cv Av L V ds es HD3.out HE.out).mono ?_
        rintro e w3 ⟨A3, c3, rfl, hO3, hb4⟩
        have q3 := (q2.below hb4 q2.lt).alloc (.cells (entV E A3 E.df.length c3) 39)
        have q4 := blk_one w3 39 (entV E A3 E.df.length c3)
        have hb5 := below_step (below_alloc (Below.refl w3.heap.size w3) (.cells (entV E A3 E.df.length c3) 39)) hb4
        have hbr5 := below_step hb5 hbr3
        obtain ⟨st, hst⟩ : ∃ st, st = E.st := ⟨_, rfl⟩
        have HST := hide hst
        clear hO3 q q2
        unfold entV at q4 hb5 q3 hbr5 ⊢
        rw [← hst] at q4 hb5 q3 hbr5 ⊢
        have HSK := hide (HSJ.out.below (below_step hb5 hb3))
        clear hst
        cases st
        · have HR : Hid (checkL L X = 8) := hide (by rw [HV.out, HCS.out, ← HST.out]; rfl)
          go_wp2_with fail
          go_ret
          exact ⟨ret_int HR.out.symm, hbr5⟩
        · have HCS2 : Hid (chkS L v = if valC E v.data ≠ 0 then 4 else 0) := hide (by rw [HCS.out, ← HST.out]; rfl)
          have q3_c0 := q3.cell 0 rfl
          have q3_f0 := q3.frozen 0
          have q3_c1 := q3.cell 1 rfl
          have q3_f1 := q3.frozen 1
          have q3_c2 := q3.cell 2 rfl
          have q3_f2 := q3.frozen 2
          have q4_c0 := q4.cell 0 rfl
          have q4_f0 := q4.frozen 0
          have q4_c1 := q4.cell 1 rfl
          have q4_f1 := q4.frozen 1
          have q4_c2 := q4.cell 2 rfl
          have q4_f2 := q4.frozen 2
          have q4_c3 := q4.cell 3 rfl
          have q4_f3 := q4.frozen 3
          have q4_c4 := q4.cell 4 rfl
          have q4_f4 := q4.frozen 4
          have q4_c5 := q4.cell 5 rfl
          have q4_f5 := q4.frozen 5
          have q4_c6 := q4.cell 6 rfl
          have q4_f6 := q4.frozen 6
          have q4_c7 := q4.cell 7 rfl
          have q4_f7 := q4.frozen 7
          have q4_c8 := q4.cell 8 rfl
          have q4_f8 := q4.frozen 8
          have q4_c9 := q4.cell 9 rfl
          have q4_f9 := q4.frozen 9
          have q4_c10 := q4.cell 10 rfl
          have q4_f10 := q4.frozen 10
          go_wp2_with fail
          refine (ent_value { E with st := true } A3 E.df.length c3 Aj v.data.length cj v.data _ rfl HCJ.out HVD.out HSK.out).mono ?_
          rintro e w4 ⟨rfl, hb6⟩
          have hbr6 := below_step hb6 hbr5
          obtain ⟨cc, hcc⟩ : ∃ cc, cc = valC E v.data := ⟨_, rfl⟩
          have hcc' : valueE ({ E with st := true } : Ent).ty ({ E with st := true } : Ent).mx ({ E with st := true } : Ent).lo ({ E with st := true } : Ent).hi v.data = cc := by rw [hcc]; rfl
          rw [hcc']
          rw [← hcc] at HCS2
          clear hcc hcc'
          by_cases h0 : cc = 0
          · have HR : Hid (checkL L (X.drop (k + 1)) = checkL L X) := hide (by rw [HV.out, HCS2.out, h0]; rfl)
            go_wp2_with fail
            go_roundw
            case rel => exact ⟨k + 1, by omega, by go_num, HR, hbr6⟩
            case measure => simp [intOf]; omega
          · have HR : Hid (checkL L X = 4) := hide (by rw [HV.out, HCS2.out, if_pos h0]; rfl)
            go_wp2_with fail
            go_ret
            exact ⟨ret_int HR.out.symm, hbr6⟩
      · have hh : hasL L v.ix v.sub = false := by simp [hasL, hf]
        have hlk : locK L v.ix v.sub = 0 := by unfold locK; omega
        have HR : Hid (checkL L X = 8) := hide (by rw [HV.out]; have : chkS L v = 8 := by unfold chkS; rw [hh]; rfl
                                                   rw [this]; rfl)
        rw [hh, hlk]
        clear hf hh hlk
        rcases Nat.eq_zero_or_pos n with h0 | h0
        · go_wp2_with fail
          refine (dict_entry_no 0 _ p gl n cl cv Av HD3.out.blk (.inr ⟨by omega, by omega⟩)).mono ?_
          rintro e w3 ⟨rfl, hb4⟩
          have hbr5 := below_alloc (below_step hb4 hbr3) (.cells (entV zeroE none 0 0) 39)
          unfold entV zeroE at hbr5 ⊢
          go_wp2_with fail
          go_ret
          exact ⟨ret_int HR.out.symm, hbr5⟩
        · obtain ⟨E, hE⟩ : ∃ E, L[0]? = some E := ⟨L[0]'(by rw [← HN.out]; exact h0), List.getElem?_eq_getElem _⟩
          have HE := hide hE
          clear hE
          go_wp2_with fail
          refine (dict_entry_yes 0 E _ _ p gl n cl cv Av L V ds es HD3.out HE.out).mono ?_
          rintro e w3 ⟨A3, c3, rfl, hO3, hb4⟩
          have hbr5 := below_alloc (below_step hb4 hbr3) (.cells (entV E A3 E.df.length c3) 39)
          clear hO3
          unfold entV at hbr5 ⊢
          go_wp2_with fail
          go_ret
          exact ⟨ret_int HR.out.symm, hbr5⟩
    · have HR : Hid (checkL L X = 0) := hide (by rw [← HC.out, List.drop_eq_nil_of_le (by rw [← HM.out]; omega)]; rfl)
      go_wp2_with fail
      go_ret
      exact ⟨ret_int HR.out.symm, hbr⟩
end
end
section
open Go.RowKit
set_option maxRecDepth 100000
set_option maxHeartbeats 4000000
section
variable {F : Nat → Prop} {p n cl cv : Nat} {Al Av : Option Addr} {L : List Ent} {V : List (List UInt8)} {ds es : List (Option Addr × Nat)}
theorem rsnap_check (A : Option Addr) (m c : Nat) (X : List SV) (w : World) (hD : DB 66 w F p Al n cl Av cv L V ds es) (hn : n ≤ 1000) (hm : m = X.length) (hmb : m ≤ 1000) (hX : SlV w A X) (hf : fitsV X) :
    Calls Try.prog 43 #[.pointer (some ⟨p, 0, none⟩), .slice A m c] w fun e w' => e = .returned (.int .i64 (checkL L X)) ∧ Below w.heap.size w w' := by
  have HD := hide hD
  have HN := hide hD.ents.hn
  have HM := hide hm
  have HX := hide hX
  have HF := hide hf
  have H1 := hide hn
  clear hD hm hX hf hn
  go_enter Try.func43, Try.ntmps43
  go_wp2_with fail
  go_loopw [5] (fun i wr => ∃ k, k ≤ m ∧ i = .int .i64 (k : Nat) ∧ Hid (checkL L (X.drop k) = checkL L X) ∧ Below w.heap.size w wr) (fun i _ => m - (intOf i).toNat)
  case atStart => exact ⟨0, by omega, rfl, hide rfl, Below.refl _ _⟩
  case round =>
    obtain ⟨k, hk, rfl, HC, hbr⟩ := hrel
    by_cases hlt : k < m
    · obtain ⟨v, hv⟩ : ∃ v, X[k]? = some v := ⟨X[k]'(by rw [← HM.out]; exact hlt), List.getElem?_eq_getElem _⟩
      obtain ⟨b, off, Aj, cj, rfl, c0, c1, c2, hcj, hsj⟩ := (HX.out.below hbr) k v hv
      have HV : Hid (checkL L X = if chkS L v ≠ 0 then chkS L v else checkL L (X.drop (k + 1))) := hide (by rw [← HC.out]; exact check_drop hv)
      have HSJ := hide hsj
      have HCJ := hide hcj
      have hvd := HF.out v (List.mem_of_getElem? hv)
      have HVD := hide hvd
      have HDr := hide (HD.out.below hbr)
      have zb := lt_of_cell c0
      simp only [] at zb
      obtain ⟨i1, i2, i3⟩ := idx_at hlt
      clear hv hcj hsj hvd
      go_wp2_with fail
      refine wp_region_held_drew (S := (fun w' => (∀ p : Addr, p.block < (wr).heap.size → w'.cell? p = (wr).cell? p) ∧ Below (wr).heap.size (wr) w')) (by kernel_rfl) ?hS1 (fun hHeld => ?rest1)
      case hS1 => ((try dsimp only); (((try go_split_ands); refine sn_of ?_; repeat' (first | with_reducible assumption | with_reducible exact Below.refl _ _ | with_reducible apply below_alloc | with_reducible apply below_drew1 | with_reducible apply below_drewN | (with_reducible apply below_step; with_reducible assumption) | (with_reducible apply below_sg2; (first | exact Nat.le_refl _ | (simp; done) | omega))))))
      case' rest1 => skip
      refine wpAnyH_take (i := 0) (oi := _) (v := ?v2) rfl (by kernel_rfl) (by kernel_rfl) (by kernel_rfl) (fun _ _ _ h => h) (Or.inl ⟨by rfl, ?hy2⟩) (by assumption) ?rest2
      case hy2 => ((intro w hSw; (try dsimp only at hSw); go_simp) <;> with_reducible rfl)
      case' rest2 => try simp only [List.getElem_toArray, List.getElem_cons_zero, List.getElem_cons_succ, Act.put, List.setIfInBounds_toArray, List.set_cons_zero, List.set_cons_succ]
      refine wpAnyH_take (i := 1) (oi := _) (v := ?v3) rfl (by kernel_rfl) (by kernel_rfl) (by kernel_rfl) (fun _ _ _ h => h) (Or.inl ⟨by rfl, ?hy3⟩) (by assumption) ?rest3
      case hy3 => ((intro w hSw; (try dsimp only at hSw); go_simp) <;> with_reducible rfl)
      case' rest3 => try simp only [List.getElem_toArray, List.getElem_cons_zero, List.getElem_cons_succ, Act.put, List.setIfInBounds_toArray, List.set_cons_zero, List.set_cons_succ]
      refine wpAnyH_take (i := 2) (oi := _) (v := ?v4) rfl (by kernel_rfl) (by kernel_rfl) (by kernel_rfl) (fun _ _ _ h => h) (Or.inl ⟨by rfl, ?hy4⟩) (by assumption) ?rest4
      case hy4 => ((intro w hSw; (try dsimp only at hSw); go_simp) <;> with_reducible rfl)
      case' rest4 => try simp only [List.getElem_toArray, List.getElem_cons_zero, List.getElem_cons_succ, Act.put, List.setIfInBounds_toArray, List.set_cons_zero, List.set_cons_succ]
      refine wpAnyH_take (i := 3) (oi := _) (v := ?v5) rfl (by kernel_rfl) (by kernel_rfl) (by kernel_rfl) (fun _ _ _ h => h) (Or.inl ⟨by rfl, ?hy5⟩) (by assumption) ?rest5
      case hy5 => ((intro w hSw; (try dsimp only at hSw); go_simp) <;> with_reducible rfl)
      case' rest5 => try simp only [List.getElem_toArray, List.getElem_cons_zero, List.getElem_cons_succ, Act.put, List.setIfInBounds_toArray, List.set_cons_zero, List.set_cons_succ]
      refine wpAnyH_take (i := 4) (oi := _) (v := ?v6) rfl (by kernel_rfl) (by kernel_rfl) (by kernel_rfl) (fun _ _ _ h => h) (Or.inl ⟨by rfl, ?hy6⟩) (by assumption) ?rest6
      case hy6 => ((intro w hSw; (try dsimp only at hSw); go_simp) <;> with_reducible rfl)
      case' rest6 => try simp only [List.getElem_toArray, List.getElem_cons_zero, List.getElem_cons_succ, Act.put, List.setIfInBounds_toArray, List.set_cons_zero, List.set_cons_succ]
      refine wpAnyH_take (i := 5) (oi := _) (v := ?v7) rfl (by kernel_rfl) (by kernel_rfl) (by kernel_rfl) (fun _ _ _ h => h) (Or.inl ⟨by rfl, ?hy7⟩) (by assumption) ?rest7
      case hy7 => ((intro w hSw; (try dsimp only at hSw); go_simp) <;> with_reducible rfl)
      case' rest7 => try simp only [List.getElem_toArray, List.getElem_cons_zero, List.getElem_cons_succ, Act.put, List.setIfInBounds_toArray, List.set_cons_zero, List.set_cons_succ]
      refine wpAnyH_take (i := 6) (oi := _) (v := ?v8) rfl (by kernel_rfl) (by kernel_rfl) (by kernel_rfl) (fun _ _ _ h => h) (Or.inl ⟨by rfl, ?hy8⟩) (by assumption) ?rest8
      case hy8 => ((intro w hSw; (try dsimp only at hSw); go_simp) <;> with_reducible rfl)
      case' rest8 => try simp only [List.getElem_toArray, List.getElem_cons_zero, List.getElem_cons_succ, Act.put, List.setIfInBounds_toArray, List.set_cons_zero, List.set_cons_succ]
      refine wpAnyH_take (i := 7) (oi := _) (v := ?v9) rfl (by kernel_rfl) (by kernel_rfl) (by kernel_rfl) (fun _ _ _ h => h) (Or.inl ⟨by rfl, ?hy9⟩) (by assumption) ?rest9
      case hy9 => ((intro w hSw; (try dsimp only at hSw); go_simp) <;> with_reducible rfl)
      case' rest9 => try simp only [List.getElem_toArray, List.getElem_cons_zero, List.getElem_cons_succ, Act.put, List.setIfInBounds_toArray, List.set_cons_zero, List.set_cons_succ]
      refine wpAnyH_take (i := 8) (oi := _) (v := ?v10) rfl (by kernel_rfl) (by kernel_rfl) (by kernel_rfl) (fun _ _ _ h => h) (Or.inl ⟨by rfl, ?hy10⟩) (by assumption) ?rest10
      case hy10 => ((intro w hSw; (try dsimp only at hSw); go_simp) <;> with_reducible rfl)
      case' rest10 => try simp only [List.getElem_toArray, List.getElem_cons_zero, List.getElem_cons_succ, Act.put, List.setIfInBounds_toArray, List.set_cons_zero, List.set_cons_succ]
      refine wpAnyH_take (i := 9) (oi := _) (v := ?v11) rfl (by kernel_rfl) (by kernel_rfl) (by kernel_rfl) (fun _ _ _ h => h) (Or.inl ⟨by rfl, ?hy11⟩) (by assumption) ?rest11
      case hy11 => ((intro w hSw; (try dsimp only at hSw); go_simp) <;> with_reducible rfl)
      case' rest11 => try simp only [List.getElem_toArray, List.getElem_cons_zero, List.getElem_cons_succ, Act.put, List.setIfInBounds_toArray, List.set_cons_zero, List.set_cons_succ]
      refine wpAnyH_take (i := 10) (oi := _) (v := ?v12) rfl (by kernel_rfl) (by kernel_rfl) (by kernel_rfl) (fun _ _ _ h => h) (Or.inl ⟨by rfl, ?hy12⟩) (by assumption) ?rest12
      case hy12 => ((intro w hSw; (try dsimp only at hSw); go_simp) <;> with_reducible rfl)
      case' rest12 => try simp only [List.getElem_toArray, List.getElem_cons_zero, List.getElem_cons_succ, Act.put, List.setIfInBounds_toArray, List.set_cons_zero, List.set_cons_succ]
      refine wpAnyH_ready (rs := [11]) (by kernel_rfl) (by simp) ?_
      refine AllReadyH.cons (o := _) rfl (fun K hK => ?_) AllReadyH.nil
      go_simp
      refine (rdic_find v.ix v.sub _ (HDr.out.below (Below.drew (Below.refl _ _))) H1.out).mono ?_
      rintro e w2 ⟨rfl, hw2⟩
      subst hw2
      dsimp only
      refine hK.out _ _ ?hS15 (fun hHeld => ?rest15)
      case hS15 => ((try dsimp only); (((try go_split_ands); refine sn_of ?_; repeat' (first | with_reducible assumption | with_reducible exact Below.refl _ _ | with_reducible apply below_alloc | with_reducible apply below_drew1 | with_reducible apply below_drewN | (with_reducible apply below_step; with_reducible assumption) | (with_reducible apply below_sg2; (first | exact Nat.le_refl _ | (simp; done) | omega))))))
      case' rest15 => (clear hK K; try simp only [List.getElem_toArray, List.getElem_cons_zero, List.getElem_cons_succ, Act.put, List.setIfInBounds_toArray, List.set_cons_zero, List.set_cons_succ])
      refine wpAnyH_take (i := 12) (oi := _) (v := ?v16) rfl (by kernel_rfl) (by kernel_rfl) (by kernel_rfl) (fun _ _ _ h => h) (Or.inl ⟨by rfl, ?hy16⟩) (by assumption) ?rest16
      case hy16 => ((intro w hSw; (try dsimp only at hSw); go_simp) <;> with_reducible rfl)
      case' rest16 => try simp only [List.getElem_toArray, List.getElem_cons_zero, List.getElem_cons_succ, Act.put, List.setIfInBounds_toArray, List.set_cons_zero, List.set_cons_succ]
      refine wpAnyH_done (by kernel_rfl) ?_ _
      have hEnd := hHeld.2
      repeat (clear hHeld)
      clear hEnd
      by_cases hf : 0 ≤ findL L v.ix v.sub
      · obtain ⟨j, hj, hlj, hjl⟩ := find_nat hf
        obtain ⟨E, hE⟩ : ∃ E, L[j]? = some E := ⟨L[j], List.getElem?_eq_getElem _⟩
        have hh : hasL L v.ix v.sub = true := by simp [hasL, hf]
        have HCS : Hid (chkS L v = if E.st = false then 8 else if valC E v.data ≠ 0 then 4 else 0) := hide (by unfold chkS; rw [hh, hlj, entK_at hE]; simp)
        rw [hj]
        have hjn : j < n := by rw [HN.out]; exact hjl
        obtain ⟨g, d, rfl, zg, _, _, _, e0, e1, e2, e3, e4, e5, e6, e7, e8, e9, e10⟩ := HDr.out.ent hE
        have hBr := HDr.out.blk
        have zp := hBr.lt
        have hj0 : (0 : Int) ≤ (j : Int) := by omega
        obtain ⟨j1, j2, j3⟩ := idx_at hjn
        clear hf hj hlj hh hE hjl
        have hBr_c0 := hBr.cell 0 rfl
        have hBr_f0 := hBr.frozen 0
        have hBr_c1 := hBr.cell 1 rfl
        have hBr_f1 := hBr.frozen 1
        cases hst : E.st
        · have HR : Hid (checkL L X = 8) := hide (by rw [HV.out, HCS.out, hst]; rfl)
          rw [hst] at e6
          clear hst
          go_wp2_with fail
          go_ret
          exact ⟨ret_int HR.out.symm, hbr.drew⟩
        · have HCS2 : Hid (chkS L v = if valC E v.data ≠ 0 then 4 else 0) := hide (by rw [HCS.out, hst]; rfl)
          rw [hst] at e6
          clear hst
          go_wp2_with fail
          refine wp_region_held_drew (S := (fun w' => (∀ p : Addr, p.block < (wr).heap.size → w'.cell? p = (wr).cell? p) ∧ Below (wr).heap.size (wr) w')) (by kernel_rfl) ?hS18 (fun hHeld => ?rest18)
          case hS18 => ((try dsimp only); (((try go_split_ands); refine sn_of ?_; repeat' (first | with_reducible assumption | with_reducible exact Below.refl _ _ | with_reducible apply below_alloc | with_reducible apply below_drew1 | with_reducible apply below_drewN | (with_reducible apply below_step; with_reducible assumption) | (with_reducible apply below_sg2; (first | exact Nat.le_refl _ | (simp; done) | omega))))))
          case' rest18 => skip
          refine wpAnyH_take (i := 0) (oi := _) (v := ?v19) rfl (by kernel_rfl) (by kernel_rfl) (by kernel_rfl) (fun _ _ _ h => h) (Or.inl ⟨by rfl, ?hy19⟩) (by assumption) ?rest19
          case hy19 => ((intro w hSw; (try dsimp only at hSw); go_simp) <;> with_reducible rfl)
          case' rest19 => try simp only [List.getElem_toArray, List.getElem_cons_zero, List.getElem_cons_succ, Act.put, List.setIfInBounds_toArray, List.set_cons_zero, List.set_cons_succ]
          refine wpAnyH_take (i := 1) (oi := _) (v := ?v20) rfl (by kernel_rfl) (by kernel_rfl) (by kernel_rfl) (fun _ _ _ h => h) (Or.inl ⟨by rfl, ?hy20⟩) (by assumption) ?rest20
          case hy20 => ((intro w hSw; (try dsimp only at hSw); go_simp) <;> with_reducible rfl)
          case' rest20 => try simp only [List.getElem_toArray, List.getElem_cons_zero, List.getElem_cons_succ, Act.put, List.setIfInBounds_toArray, List.set_cons_zero, List.set_cons_succ]
          refine wpAnyH_take (i := 2) (oi := _) (v := ?v21) rfl (by kernel_rfl) (by kernel_rfl) (by kernel_rfl) (fun _ _ _ h => h) (Or.inl ⟨by rfl, ?hy21⟩) (by assumption) ?rest21
          case hy21 => ((intro w hSw; (try dsimp only at hSw); go_simp) <;> with_reducible rfl)
          case' rest21 => try simp only [List.getElem_toArray, List.getElem_cons_zero, List.getElem_cons_succ, Act.put, List.setIfInBounds_toArray, List.set_cons_zero, List.set_cons_succ]
          refine wpAnyH_take (i := 3) (oi := _) (v := ?v22) rfl (by kernel_rfl) (by kernel_rfl) (by kernel_rfl) (fun _ _ _ h => h) (Or.inl ⟨by rfl, ?hy22⟩) (by assumption) ?rest22
          case hy22 => ((intro w hSw; (try dsimp only at hSw); go_simp) <;> with_reducible rfl)
          case' rest22 => try simp only [List.getElem_toArray, List.getElem_cons_zero, List.getElem_cons_succ, Act.put, List.setIfInBounds_toArray, List.set_cons_zero, List.set_cons_succ]
          refine wpAnyH_take (i := 4) (oi := _) (v := ?v23) rfl (by kernel_rfl) (by kernel_rfl) (by kernel_rfl) (fun _ _ _ h => h) (Or.inl ⟨by rfl, ?hy23⟩) (by assumption) ?rest23
          case hy23 => ((intro w hSw; (try dsimp only at hSw); go_simp) <;> with_reducible rfl)
          case' rest23 => try simp only [List.getElem_toArray, List.getElem_cons_zero, List.getElem_cons_succ, Act.put, List.setIfInBounds_toArray, List.set_cons_zero, List.set_cons_succ]
          refine wpAnyH_take (i := 5) (oi := _) (v := ?v24) rfl (by kernel_rfl) (by kernel_rfl) (by kernel_rfl) (fun _ _ _ h => h) (Or.inl ⟨by rfl, ?hy24⟩) (by assumption) ?rest24
          case hy24 => ((intro w hSw; (try dsimp only at hSw); go_simp) <;> with_reducible rfl)
          case' rest24 => try simp only [List.getElem_toArray, List.getElem_cons_zero, List.getElem_cons_succ, Act.put, List.setIfInBounds_toArray, List.set_cons_zero, List.set_cons_succ]
          refine wpAnyH_take (i := 6) (oi := _) (v := ?v25) rfl (by kernel_rfl) (by kernel_rfl) (by kernel_rfl) (fun _ _ _ h => h) (Or.inl ⟨by rfl, ?hy25⟩) (by assumption) ?rest25
          case hy25 => ((intro w hSw; (try dsimp only at hSw); go_simp) <;> with_reducible rfl)
          case' rest25 => try simp only [List.getElem_toArray, List.getElem_cons_zero, List.getElem_cons_succ, Act.put, List.setIfInBounds_toArray, List.set_cons_zero, List.set_cons_succ]
          refine wpAnyH_take (i := 7) (oi := _) (v := ?v26) rfl (by kernel_rfl) (by kernel_rfl) (by kernel_rfl) (fun _ _ _ h => h) (Or.inl ⟨by rfl, ?hy26⟩) (by assumption) ?rest26
          case hy26 => ((intro w hSw; (try dsimp only at hSw); go_simp) <;> with_reducible rfl)
          case' rest26 => try simp only [List.getElem_toArray, List.getElem_cons_zero, List.getElem_cons_succ, Act.put, List.setIfInBounds_toArray, List.set_cons_zero, List.set_cons_succ]
          refine wpAnyH_take (i := 8) (oi := _) (v := ?v27) rfl (by kernel_rfl) (by kernel_rfl) (by kernel_rfl) (fun _ _ _ h => h) (Or.inl ⟨by rfl, ?hy27⟩) (by assumption) ?rest27
          case hy27 => ((intro w hSw; (try dsimp only at hSw); go_simp) <;> with_reducible rfl)
          case' rest27 => try simp only [List.getElem_toArray, List.getElem_cons_zero, List.getElem_cons_succ, Act.put, List.setIfInBounds_toArray, List.set_cons_zero, List.set_cons_succ]
          refine wpAnyH_take (i := 9) (oi := _) (v := ?v28) rfl (by kernel_rfl) (by kernel_rfl) (by kernel_rfl) (fun _ _ _ h => h) (Or.inl ⟨by rfl, ?hy28⟩) (by assumption) ?rest28
          case hy28 => ((intro w hSw; (try dsimp only at hSw); go_simp) <;> with_reducible rfl)
          case' rest28 => try simp only [List.getElem_toArray, List.getElem_cons_zero, List.getElem_cons_succ, Act.put, List.setIfInBounds_toArray, List.set_cons_zero, List.set_cons_succ]
          refine wpAnyH_take (i := 10) (oi := _) (v := ?v29) rfl (by kernel_rfl) (by kernel_rfl) (by kernel_rfl) (fun _ _ _ h => h) (Or.inl ⟨by rfl, ?hy29⟩) (by assumption) ?rest29
          case hy29 => ((intro w hSw; (try dsimp only at hSw); go_simp) <;> with_reducible rfl)
          case' rest29 => try simp only [List.getElem_toArray, List.getElem_cons_zero, List.getElem_cons_succ, Act.put, List.setIfInBounds_toArray, List.set_cons_zero, List.set_cons_succ]
          refine wpAnyH_take (i := 11) (oi := _) (v := ?v30) rfl (by kernel_rfl) (by kernel_rfl) (by kernel_rfl) (fun _ _ _ h => h) (Or.inl ⟨by rfl, ?hy30⟩) (by assumption) ?rest30
          case hy30 => ((intro w hSw; (try dsimp only at hSw); go_simp) <;> with_reducible rfl)
          case' rest30 => try simp only [List.getElem_toArray, List.getElem_cons_zero, List.getElem_cons_succ, Act.put, List.setIfInBounds_toArray, List.set_cons_zero, List.set_cons_succ]
          refine wpAnyH_ready (rs := [12]) (by kernel_rfl) (by simp) ?_
          refine AllReadyH.cons (o := _) rfl (fun K hK => ?_) AllReadyH.nil
          go_simp
          refine (rent_value { E with st := true } d.1 E.df.length d.2 Aj v.data.length cj v.data _ rfl HCJ.out HVD.out HSJ.out.drew.drew).mono ?_
          rintro e w4 ⟨rfl, hb6⟩
          obtain ⟨cc, hcc⟩ : ∃ cc, cc = valC E v.data := ⟨_, rfl⟩
          have hcc' : valueE ({ E with st := true } : Ent).ty ({ E with st := true } : Ent).mx ({ E with st := true } : Ent).lo ({ E with st := true } : Ent).hi v.data = cc := by rw [hcc]; rfl
          rw [hcc']
          rw [← hcc] at HCS2
          clear hcc hcc'
          dsimp only
          refine hK.out _ _ ?hS33 (fun hHeld => ?rest33)
          case hS33 => ((try dsimp only); (((try go_split_ands); refine sn_of ?_; repeat' (first | with_reducible assumption | with_reducible exact Below.refl _ _ | with_reducible apply below_alloc | with_reducible apply below_drew1 | with_reducible apply below_drewN | (with_reducible apply below_step; with_reducible assumption) | (with_reducible apply below_sg2; (first | exact Nat.le_refl _ | (simp; done) | omega))))))
          case' rest33 => (clear hK K; try simp only [List.getElem_toArray, List.getElem_cons_zero, List.getElem_cons_succ, Act.put, List.setIfInBounds_toArray, List.set_cons_zero, List.set_cons_succ])
          refine wpAnyH_take (i := 13) (oi := _) (v := ?v34) rfl (by kernel_rfl) (by kernel_rfl) (by kernel_rfl) (fun _ _ _ h => h) (Or.inl ⟨by rfl, ?hy34⟩) (by assumption) ?rest34
          case hy34 => ((intro w hSw; (try dsimp only at hSw); go_simp) <;> with_reducible rfl)
          case' rest34 => try simp only [List.getElem_toArray, List.getElem_cons_zero, List.getElem_cons_succ, Act.put, List.setIfInBounds_toArray, List.set_cons_zero, List.set_cons_succ]
          refine wpAnyH_done (by kernel_rfl) ?_ _
          have hEnd := hHeld.2
          repeat (clear hHeld)
          have hbr6 := below_step hEnd hbr
          by_cases h0 : cc = 0
          · have HR : Hid (checkL L (X.drop (k + 1)) = checkL L X) := hide (by rw [HV.out, HCS2.out, h0]; rfl)
            go_wp2_with fail
            go_roundw
            case rel => exact ⟨k + 1, by omega, by go_num, HR, hbr6⟩
            case measure => simp [intOf]; omega
          · have HR : Hid (checkL L X = 4) := hide (by rw [HV.out, HCS2.out, if_pos h0]; rfl)
            go_wp2_with fail
            go_ret
            exact ⟨ret_int HR.out.symm, hbr6⟩
      · have HR : Hid (checkL L X = 8) := hide (by
          rw [HV.out]
          have : chkS L v = 8 := by unfold chkS; rw [show hasL L v.ix v.sub = false by simp [hasL, hf]]; rfl
          rw [this]; rfl)
        have hf' : findL L v.ix v.sub < 0 := by omega
        clear hf
        go_wp2_with fail
        go_ret
        exact ⟨ret_int HR.out.symm, hbr.drew⟩
    · have HR : Hid (checkL L X = 0) := hide (by rw [← HC.out, List.drop_eq_nil_of_le (by rw [← HM.out]; omega)]; rfl)
      go_wp2_with fail
      go_ret
      exact ⟨ret_int HR.out.symm, hbr⟩
end
end
section
open Go.RowKit
set_option maxRecDepth 100000
set_option maxHeartbeats 4000000
section
variable {F : Nat → Prop} {p n cl cv : Nat} {Av : Option Addr} {L : List Ent} {V : List (List UInt8)} {ds es : List (Option Addr × Nat)} {gl : Nat}
def applyV (L : List Ent) (V : List (List UInt8)) (X : List SV) : List (List UInt8) := if checkL L X = 0 then pokeAll L V X else V
def ApplyR (F : Nat → Prop) (p gl n cl : Nat) (Av : Option Addr) (cv : Nat) (L : List Ent) (V : List (List UInt8)) (ds : List (Option Addr × Nat)) (X : List SV) (w : World) (e : Ending) (w' : World) : Prop :=
  ∃ V' es', e = .returned (.int .i64 (checkL L X)) ∧ V' = applyV L V X ∧ DB 86 w' (fun g => F g ∨ w.heap.size ≤ g) p (some ⟨gl, 0, none⟩) n cl Av cv L V' ds es' ∧ Only F w w'
theorem snap_apply (A : Option Addr) (m c : Nat) (X : List SV) (w : World) (hD : DB 86 w F p (some ⟨gl, 0, none⟩) n cl Av cv L V ds es) (hs : SortedE L) (hn : n ≤ 1000) (hm : m = X.length) (hmb : m ≤ 1000) (hX : ∀ W, Only F w W → SlV W A X) (hf : fitsV X) :
    Calls Try.prog 44 #[.pointer (some ⟨p, 0, none⟩), .slice A m c] w (ApplyR F p gl n cl Av cv L V ds X w) := by
  have HCK := hide (snap_check A m c X w hD hs hn hm hmb (hX w (Only.refl _ _)) hf)
  have HD := hide hD
  have HS := hide hs
  have HM := hide hm
  have HX := hide hX
  have HF := hide hf
  have H1 := hide hn
  obtain ⟨cc, hcc⟩ : ∃ cc, cc = checkL L X := ⟨_, rfl⟩
  have HCC := hide hcc
  clear hD hs hm hX hf hn hcc
  go_enter Try.func44, Try.ntmps44
  go_wp2_with fail
  refine HCK.out.mono ?_
  rintro e w1 ⟨rfl, hb1⟩
  rw [← HCC.out]
  have HD1 := hide (HD.out.below hb1)
  by_cases h0 : cc = 0
  · have HA : Hid (applyV L V X = pokeAll L V X) := hide (by unfold applyV; rw [← HCC.out, if_pos h0])
    subst h0
    have HO1 : Hid (Only F w w1) := hide (Only.of_below hb1)
    have HD0 : Hid (DB 86 w1 (fun g => F g ∨ w.heap.size ≤ g) p (some ⟨gl, 0, none⟩) n cl Av cv L (pokeAll L V (X.take 0)) ds es) := hide (HD1.out.mono (fun g _ h => .inl h))
    clear hb1
    go_wp2_with fail
    go_loopw [16] (fun i wr => ∃ k es', k ≤ m ∧ i = .int .i64 (k : Nat) ∧ Hid (DB 86 wr (fun g => F g ∨ w.heap.size ≤ g) p (some ⟨gl, 0, none⟩) n cl Av cv L (pokeAll L V (X.take k)) ds es') ∧ Hid (Only F w wr)) (fun i _ => m - (intOf i).toNat)
    case atStart => exact ⟨0, es, by omega, rfl, HD0, HO1⟩
    case round =>
      obtain ⟨k, es', hk, rfl, HDr, HOr⟩ := hrel
      by_cases hlt : k < m
      · obtain ⟨v, hv⟩ : ∃ v, X[k]? = some v := ⟨X[k]'(by rw [← HM.out]; exact hlt), List.getElem?_eq_getElem _⟩
        obtain ⟨b, off, Aj, cj, rfl, c0, c1, c2, hcj, hsj⟩ := (HX.out wr HOr.out) k v hv
        have HV := hide hv
        have q := blk_one wr 37 #[.int .i64 v.ix, .int .i64 v.sub, .slice Aj v.data.length cj]
        have hb2 := below_alloc (Below.refl wr.heap.size wr) (.cells #[.int .i64 v.ix, .int .i64 v.sub, .slice Aj v.data.length cj] 37)
        have HSJ := hide (hsj.below hb2)
        have HCJ := hide hcj
        have hvd := HF.out v (List.mem_of_getElem? hv)
        have HVD := hide hvd
        have HDq := hide (HDr.out.below hb2)
        obtain ⟨i1, i2, i3⟩ := idx_at hlt
        clear hv hcj hsj hvd
        go_wp2_with fail
        refine (dict_poke v.ix v.sub Aj v.data.length cj v.data _ HDq.out HS.out H1.out rfl HCJ.out HVD.out HSJ.out).mono ?_
        rintro e w2 ⟨V2, es2, rfl, hV2, hD2, ho2⟩
        have hzr := HOr.out.size
        have hz2 := hb2.size
        have HD3 : Hid (DB 86 w2 (fun g => F g ∨ w.heap.size ≤ g) p (some ⟨gl, 0, none⟩) n cl Av cv L (pokeAll L V (X.take (k + 1))) ds es2) := hide (by
          rw [pokeAll_take HV.out, ← hV2]
          exact hD2.mono (fun g _ h => h.elim id (fun h => .inr (Nat.le_trans (Nat.le_trans hzr hz2) h))))
        have HO3 : Hid (Only F w w2) := hide ((HOr.out.step hb2).trans ho2 (fun i hi h => h.elim id (fun h => by omega)))
        clear hD2 ho2 hV2 hzr hz2
        go_wp2_with fail
        go_roundw
        case rel => exact ⟨k + 1, _, by omega, by go_num, HD3, HO3⟩
        case measure => simp [intOf]; omega
      · go_wp2_with fail
        go_ret
        have h1 := HDr.out
        rw [List.take_of_length_le (by rw [← HM.out]; omega)] at h1
        exact ⟨_, es', ret_int HCC.out, HA.out.symm, h1, HOr.out⟩
  · have HA : Hid (applyV L V X = V) := hide (by unfold applyV; rw [← HCC.out, if_neg h0])
    go_wp2_with fail
    go_ret
    exact ⟨_, es, ret_int HCC.out, HA.out.symm, HD1.out.mono (fun g _ h => .inl h), Only.of_below hb1⟩
end
end
section
open Go.RowKit
set_option maxRecDepth 100000
set_option maxHeartbeats 4000000
section
variable {F : Nat → Prop} {p n cl cv : Nat} {Al Av : Option Addr} {L : List Ent} {V : List (List UInt8)} {ds es : List (Option Addr × Nat)}
def RApplyR (F : Nat → Prop) (p n cl : Nat) (Al Av : Option Addr) (cv : Nat) (L : List Ent) (V : List (List UInt8)) (ds : List (Option Addr × Nat)) (X : List SV) (w : World) (e : Ending) (w' : World) : Prop :=
  ∃ V' es', e = .returned (.int .i64 (checkL L X)) ∧ V' = applyV L V X ∧ DB 66 w' (fun g => F g ∨ w.heap.size ≤ g) p Al n cl Av cv L V' ds es' ∧ Only F w w'
theorem rsnap_apply (A : Option Addr) (m c : Nat) (X : List SV) (w : World) (hD : DB 66 w F p Al n cl Av cv L V ds es) (hn : n ≤ 1000) (hm : m = X.length) (hmb : m ≤ 1000) (hX : ∀ W, Only F w W → SlV W A X) (hf : fitsV X) :
    Calls Try.prog 45 #[.pointer (some ⟨p, 0, none⟩), .slice A m c] w (RApplyR F p n cl Al Av cv L V ds X w) := by
  have HCK := hide (rsnap_check A m c X w hD hn hm hmb (hX w (Only.refl _ _)) hf)
  have HD := hide hD
  have HM := hide hm
  have HX := hide hX
  have HF := hide hf
  have H1 := hide hn
  obtain ⟨cc, hcc⟩ : ∃ cc, cc = checkL L X := ⟨_, rfl⟩
  have HCC := hide hcc
  clear hD hm hX hf hn hcc
  go_enter Try.func45, Try.ntmps45
  go_wp2_with fail
  refine HCK.out.mono ?_
  rintro e w1 ⟨rfl, hb1⟩
  rw [← HCC.out]
  have HD1 := hide (HD.out.below hb1)
  by_cases h0 : cc = 0
  · have HA : Hid (applyV L V X = pokeAll L V X) := hide (by unfold applyV; rw [← HCC.out, if_pos h0])
    subst h0
    have HO1 : Hid (Only F w w1) := hide (Only.of_below hb1)
    have HD0 : Hid (DB 66 w1 (fun g => F g ∨ w.heap.size ≤ g) p Al n cl Av cv L (pokeAll L V (X.take 0)) ds es) := hide (HD1.out.mono (fun g _ h => .inl h))
    clear hb1
    go_wp2_with fail
    go_loopw [6] (fun i wr => ∃ k es', k ≤ m ∧ i = .int .i64 (k : Nat) ∧ Hid (DB 66 wr (fun g => F g ∨ w.heap.size ≤ g) p Al n cl Av cv L (pokeAll L V (X.take k)) ds es') ∧ Hid (Only F w wr)) (fun i _ => m - (intOf i).toNat)
    case atStart => exact ⟨0, es, by omega, rfl, HD0, HO1⟩
    case round =>
      obtain ⟨k, es', hk, rfl, HDr, HOr⟩ := hrel
      by_cases hlt : k < m
      · obtain ⟨v, hv⟩ : ∃ v, X[k]? = some v := ⟨X[k]'(by rw [← HM.out]; exact hlt), List.getElem?_eq_getElem _⟩
        obtain ⟨b, off, Aj, cj, rfl, c0, c1, c2, hcj, hsj⟩ := (HX.out wr HOr.out) k v hv
        have HV := hide hv
        have HSJ := hide hsj
        have HCJ := hide hcj
        have hvd := HF.out v (List.mem_of_getElem? hv)
        have HVD := hide hvd
        have HDq := hide (HDr.out.below (Below.drew (Below.refl _ _)))
        have HXX := hide (fun W (h : Only F w W) => HX.out W h k v hv)
        obtain ⟨i1, i2, i3⟩ := idx_at hlt
        clear hv hcj hsj hvd
        go_wp2_with fail
        refine wp_region_T (fun w' => w'.cell? ⟨b, off + k * 3, none⟩ = some (.int .i64 v.ix) ∧ w'.cell? ⟨b, off + k * 3 + 1, none⟩ = some (.int .i64 v.sub) ∧ w'.cell? ⟨b, off + k * 3 + 2, none⟩ = some (.slice Aj v.data.length cj)) [0, 1, 2, 3, 4, 5, 6, 7, 8, 9, 10, 11, 12, 13, 14, 15] (by kernel_rfl) ?hS36 (fun hHeld => ?rest36)
        case hS36 => ((try dsimp only); exact ⟨c0, c1, c2⟩)
        case' rest36 => skip
        refine wpAnyT_take (by kernel_rfl) (by kernel_rfl) (i := 0) (oi := _) (v := ?v37) rfl (by kernel_rfl) (by kernel_rfl) (by kernel_rfl) (fun _ _ _ h => h) (Or.inl ⟨by rfl, ?hy37⟩) (by assumption) ?rest37
        case hy37 => ((intro w hSw; (try dsimp only at hSw); go_simp) <;> with_reducible rfl)
        case' rest37 => try simp only [List.getElem_toArray, List.getElem_cons_zero, List.getElem_cons_succ, Act.put, List.setIfInBounds_toArray, List.set_cons_zero, List.set_cons_succ]
        refine wpAnyT_take (by kernel_rfl) (by kernel_rfl) (i := 1) (oi := _) (v := ?v38) rfl (by kernel_rfl) (by kernel_rfl) (by kernel_rfl) (fun _ _ _ h => h) (Or.inl ⟨by rfl, ?hy38⟩) (by assumption) ?rest38
        case hy38 => ((intro w hSw; (try dsimp only at hSw); go_simp) <;> with_reducible rfl)
        case' rest38 => try simp only [List.getElem_toArray, List.getElem_cons_zero, List.getElem_cons_succ, Act.put, List.setIfInBounds_toArray, List.set_cons_zero, List.set_cons_succ]
        refine wpAnyT_take (by kernel_rfl) (by kernel_rfl) (i := 2) (oi := _) (v := ?v39) rfl (by kernel_rfl) (by kernel_rfl) (by kernel_rfl) (fun _ _ _ h => h) (Or.inl ⟨by rfl, ?hy39⟩) (by assumption) ?rest39
        case hy39 => ((intro w hSw; (try dsimp only at hSw); go_simp) <;> with_reducible rfl)
        case' rest39 => try simp only [List.getElem_toArray, List.getElem_cons_zero, List.getElem_cons_succ, Act.put, List.setIfInBounds_toArray, List.set_cons_zero, List.set_cons_succ]
        refine wpAnyT_take (by kernel_rfl) (by kernel_rfl) (i := 3) (oi := _) (v := ?v40) rfl (by kernel_rfl) (by kernel_rfl) (by kernel_rfl) (fun _ _ _ h => h) (Or.inl ⟨by rfl, ?hy40⟩) (by assumption) ?rest40
        case hy40 => ((intro w hSw; (try dsimp only at hSw); go_simp) <;> with_reducible rfl)
        case' rest40 => try simp only [List.getElem_toArray, List.getElem_cons_zero, List.getElem_cons_succ, Act.put, List.setIfInBounds_toArray, List.set_cons_zero, List.set_cons_succ]
        refine wpAnyT_take (by kernel_rfl) (by kernel_rfl) (i := 4) (oi := _) (v := ?v41) rfl (by kernel_rfl) (by kernel_rfl) (by kernel_rfl) (fun _ _ _ h => h) (Or.inl ⟨by rfl, ?hy41⟩) (by assumption) ?rest41
        case hy41 => ((intro w hSw; (try dsimp only at hSw); go_simp) <;> with_reducible rfl)
        case' rest41 => try simp only [List.getElem_toArray, List.getElem_cons_zero, List.getElem_cons_succ, Act.put, List.setIfInBounds_toArray, List.set_cons_zero, List.set_cons_succ]
        refine wpAnyT_take (by kernel_rfl) (by kernel_rfl) (i := 5) (oi := _) (v := ?v42) rfl (by kernel_rfl) (by kernel_rfl) (by kernel_rfl) (fun _ _ _ h => h) (Or.inl ⟨by rfl, ?hy42⟩) (by assumption) ?rest42
        case hy42 => ((intro w hSw; (try dsimp only at hSw); go_simp) <;> with_reducible rfl)
        case' rest42 => try simp only [List.getElem_toArray, List.getElem_cons_zero, List.getElem_cons_succ, Act.put, List.setIfInBounds_toArray, List.set_cons_zero, List.set_cons_succ]
        refine wpAnyT_take (by kernel_rfl) (by kernel_rfl) (i := 6) (oi := _) (v := ?v43) rfl (by kernel_rfl) (by kernel_rfl) (by kernel_rfl) (fun _ _ _ h => h) (Or.inl ⟨by rfl, ?hy43⟩) (by assumption) ?rest43
        case hy43 => ((intro w hSw; (try dsimp only at hSw); go_simp) <;> with_reducible rfl)
        case' rest43 => try simp only [List.getElem_toArray, List.getElem_cons_zero, List.getElem_cons_succ, Act.put, List.setIfInBounds_toArray, List.set_cons_zero, List.set_cons_succ]
        refine wpAnyT_take (by kernel_rfl) (by kernel_rfl) (i := 7) (oi := _) (v := ?v44) rfl (by kernel_rfl) (by kernel_rfl) (by kernel_rfl) (fun _ _ _ h => h) (Or.inl ⟨by rfl, ?hy44⟩) (by assumption) ?rest44
        case hy44 => ((intro w hSw; (try dsimp only at hSw); go_simp) <;> with_reducible rfl)
        case' rest44 => try simp only [List.getElem_toArray, List.getElem_cons_zero, List.getElem_cons_succ, Act.put, List.setIfInBounds_toArray, List.set_cons_zero, List.set_cons_succ]
        refine wpAnyT_take (by kernel_rfl) (by kernel_rfl) (i := 8) (oi := _) (v := ?v45) rfl (by kernel_rfl) (by kernel_rfl) (by kernel_rfl) (fun _ _ _ h => h) (Or.inl ⟨by rfl, ?hy45⟩) (by assumption) ?rest45
        case hy45 => ((intro w hSw; (try dsimp only at hSw); go_simp) <;> with_reducible rfl)
        case' rest45 => try simp only [List.getElem_toArray, List.getElem_cons_zero, List.getElem_cons_succ, Act.put, List.setIfInBounds_toArray, List.set_cons_zero, List.set_cons_succ]
        refine wpAnyT_take (by kernel_rfl) (by kernel_rfl) (i := 9) (oi := _) (v := ?v46) rfl (by kernel_rfl) (by kernel_rfl) (by kernel_rfl) (fun _ _ _ h => h) (Or.inl ⟨by rfl, ?hy46⟩) (by assumption) ?rest46
        case hy46 => ((intro w hSw; (try dsimp only at hSw); go_simp) <;> with_reducible rfl)
        case' rest46 => try simp only [List.getElem_toArray, List.getElem_cons_zero, List.getElem_cons_succ, Act.put, List.setIfInBounds_toArray, List.set_cons_zero, List.set_cons_succ]
        refine wpAnyT_take (by kernel_rfl) (by kernel_rfl) (i := 10) (oi := _) (v := ?v47) rfl (by kernel_rfl) (by kernel_rfl) (by kernel_rfl) (fun _ _ _ h => h) (Or.inl ⟨by rfl, ?hy47⟩) (by assumption) ?rest47
        case hy47 => ((intro w hSw; (try dsimp only at hSw); go_simp) <;> with_reducible rfl)
        case' rest47 => try simp only [List.getElem_toArray, List.getElem_cons_zero, List.getElem_cons_succ, Act.put, List.setIfInBounds_toArray, List.set_cons_zero, List.set_cons_succ]
        refine wpAnyT_take (by kernel_rfl) (by kernel_rfl) (i := 11) (oi := _) (v := ?v48) rfl (by kernel_rfl) (by kernel_rfl) (by kernel_rfl) (fun _ _ _ h => h) (Or.inl ⟨by rfl, ?hy48⟩) (by assumption) ?rest48
        case hy48 => ((intro w hSw; (try dsimp only at hSw); go_simp) <;> with_reducible rfl)
        case' rest48 => try simp only [List.getElem_toArray, List.getElem_cons_zero, List.getElem_cons_succ, Act.put, List.setIfInBounds_toArray, List.set_cons_zero, List.set_cons_succ]
        refine wpAnyT_take (by kernel_rfl) (by kernel_rfl) (i := 12) (oi := _) (v := ?v49) rfl (by kernel_rfl) (by kernel_rfl) (by kernel_rfl) (fun _ _ _ h => h) (Or.inl ⟨by rfl, ?hy49⟩) (by assumption) ?rest49
        case hy49 => ((intro w hSw; (try dsimp only at hSw); go_simp) <;> with_reducible rfl)
        case' rest49 => try simp only [List.getElem_toArray, List.getElem_cons_zero, List.getElem_cons_succ, Act.put, List.setIfInBounds_toArray, List.set_cons_zero, List.set_cons_succ]
        refine wpAnyT_take (by kernel_rfl) (by kernel_rfl) (i := 13) (oi := _) (v := ?v50) rfl (by kernel_rfl) (by kernel_rfl) (by kernel_rfl) (fun _ _ _ h => h) (Or.inl ⟨by rfl, ?hy50⟩) (by assumption) ?rest50
        case hy50 => ((intro w hSw; (try dsimp only at hSw); go_simp) <;> with_reducible rfl)
        case' rest50 => try simp only [List.getElem_toArray, List.getElem_cons_zero, List.getElem_cons_succ, Act.put, List.setIfInBounds_toArray, List.set_cons_zero, List.set_cons_succ]
        refine wpAnyT_take (by kernel_rfl) (by kernel_rfl) (i := 14) (oi := _) (v := ?v51) rfl (by kernel_rfl) (by kernel_rfl) (by kernel_rfl) (fun _ _ _ h => h) (Or.inl ⟨by rfl, ?hy51⟩) (by assumption) ?rest51
        case hy51 => ((intro w hSw; (try dsimp only at hSw); go_simp) <;> with_reducible rfl)
        case' rest51 => try simp only [List.getElem_toArray, List.getElem_cons_zero, List.getElem_cons_succ, Act.put, List.setIfInBounds_toArray, List.set_cons_zero, List.set_cons_succ]
        refine wpAnyT_take (by kernel_rfl) (by kernel_rfl) (i := 15) (oi := _) (v := ?v52) rfl (by kernel_rfl) (by kernel_rfl) (by kernel_rfl) (fun _ _ _ h => h) (Or.inl ⟨by rfl, ?hy52⟩) (by assumption) ?rest52
        case hy52 => ((intro w hSw; (try dsimp only at hSw); go_simp) <;> with_reducible rfl)
        case' rest52 => try simp only [List.getElem_toArray, List.getElem_cons_zero, List.getElem_cons_succ, Act.put, List.setIfInBounds_toArray, List.set_cons_zero, List.set_cons_succ]
        refine wpAnyT_late (i := 16) (o := _) rfl (by kernel_rfl) (by kernel_rfl) (fun K hK => ?_)
        go_simp
        refine (rdic_poke v.ix v.sub Aj v.data.length cj v.data _ HDq.out H1.out rfl HCJ.out HVD.out HSJ.out.drew).mono ?_
        rintro e w2 ⟨V2, es2, rfl, hV2, hD2, ho2⟩
        dsimp only
        have hzr := HOr.out.size
        have HD3 : Hid (DB 66 w2 (fun g => F g ∨ w.heap.size ≤ g) p Al n cl Av cv L (pokeAll L V (X.take (k + 1))) ds es2) := hide (by
          rw [pokeAll_take HV.out, ← hV2]
          exact hD2.mono (fun g _ h => h.elim id (fun h => .inr (Nat.le_trans hzr h))))
        have HO3 : Hid (Only F w w2) := hide (HOr.out.trans (only_undrew' ho2) (fun i hi h => h.elim id (fun h => by omega)))
        clear hD2 ho2 hV2 hzr
        refine hK.out _ _ ?_
        clear hK K
        try simp only [List.getElem_toArray, List.getElem_cons_zero, List.getElem_cons_succ, Act.put, List.setIfInBounds_toArray, List.set_cons_zero, List.set_cons_succ]
        refine wpAnyT_done (by kernel_rfl) ?_ _
        repeat (clear hHeld)
        go_wp2_with fail
        go_roundw
        case rel => exact ⟨k + 1, _, by omega, by go_num, HD3, HO3⟩
        case measure => simp [intOf]; omega
      · go_wp2_with fail
        go_ret
        have h1 := HDr.out
        rw [List.take_of_length_le (by rw [← HM.out]; omega)] at h1
        exact ⟨_, es', ret_int HCC.out, HA.out.symm, h1, HOr.out⟩
  · have HA : Hid (applyV L V X = V) := hide (by unfold applyV; rw [← HCC.out, if_neg h0])
    go_wp2_with fail
    go_loopw [6] (fun i wr => i = .int .i64 0 ∧ wr = w1) (fun _ _ => 0)
    case atStart => exact ⟨rfl, rfl⟩
    case round =>
      obtain ⟨rfl, rfl⟩ := hrel
      rcases (show m = 0 ∨ 0 < m by omega) with hm0 | hm0
      all_goals
        go_wp2_with fail
        go_ret
        exact ⟨_, es, ret_int HCC.out, HA.out.symm, HD1.out.mono (fun g _ h => .inl h), Only.of_below hb1⟩
end
end
end Go.Proofs.Ytabgdfbiocoimaa
