/- The reference's snap: Build. -/
import Derived.Test.YtapfadaplncpeaaSnapB
namespace Go.Proofs.Ytapfadaplncpeaa
open Go.RowKit
set_option maxRecDepth 20000
set_option maxHeartbeats 1000000

theorem rsnap_ahead (i s j t : Int) (d d' : Value) (w : World) :
    Calls Try.prog 64 #[.agg #[.int .i64 i, .int .i64 s, d], .agg #[.int .i64 j, .int .i64 t, d']] w
      fun e w' => e = .returned (.bool (aheadB i s j t)) ∧ Below w.heap.size w w' := by
  have fin : ∀ b, b = aheadB i s j t → Ending.returned (.bool b) = .returned (.bool (aheadB i s j t)) := fun b h => by rw [h]
  by_cases h1 : i < j
  · go_enter Try.func64, Try.ntmps64
    go_wp2
    go_ret
    exact ⟨fin _ (by simp [aheadB]; omega), below_alloc (below_alloc (Below.refl _ _) _) _⟩
  · by_cases h2 : i = j
    · subst h2
      go_enter Try.func64, Try.ntmps64
      go_wp2
      go_ret
      exact ⟨fin _ (by simp [aheadB]), below_alloc (below_alloc (Below.refl _ _) _) _⟩
    · have h2' : (i == j) = false := by simpa using h2
      have HF := hide (show false = aheadB i s j t by simp [aheadB]; omega)
      clear h2
      go_enter Try.func64, Try.ntmps64
      go_wp2
      go_ret
      exact ⟨fin _ HF.out, below_alloc (below_alloc (Below.refl _ _) _) _⟩

theorem rsnap_put (A : Option Addr) (n c : Nat) (l : List UInt8) (wd : Int) (x : Nat) (w : World) (hu : x ≤ 4611686018427387904) (h1 : 1 ≤ wd) (h8 : wd ≤ 8) (h : x < 256 ^ wd.toNat) (hn : n = l.length) (hl : n ≤ 35184372088832)
    (hs : Sl w A (l.map bv)) :
    Calls Try.prog 65 #[.slice A n c, .int .i64 wd, .int .i64 x] w fun e w' => ∃ A' n' c', e = .returned (.slice A' n' c') ∧
      OwnB w' w.heap.size A' n' c' (l ++ leB wd.toNat x) ∧ Below w.heap.size w w' := by
  have hc := rput_ok A n c l wd x w (by unfold U64; omega) h1 h8 h hn hl hs
  have HC := hide hc
  clear hc h hn
  go_enter Try.func65, Try.ntmps65
  go_wp2_with (go_at_call 100; refine HC.out.mono ?_; rintro e w1 ⟨A1, n1, c1, rfl, hO1, hb1⟩)
  go_ret
  exact ⟨_, _, _, rfl, hO1, hb1⟩

theorem rsnap_build (A : Option Addr) (n c : Nat) (L : List SV) (w : World) (hn : n = L.length) (hc : n ≤ c) (hl : n ≤ 35184372088832) (hL : SlV w A L) (hf : fitsV L) :
    Calls Try.prog 20 #[.slice A n c] w fun e w' => ∃ A' n' c' b er, e = .returned (.tuple #[.slice A' n' c', .int .i64 er]) ∧ OwnB w' w.heap.size A' n' c' b ∧ BuildR L b er ∧ Below w.heap.size w w' := by
  have HN := hide hn
  clear hn
  go_enter Try.func20, Try.ntmps20
  go_wp2_with fail
  go_loopw [4, 5] (fun v i wr => ∃ k t : Nat, k ≤ n ∧ i = .int .i64 (k : Nat) ∧ v = .int .i64 (t : Nat) ∧ t ≤ 35184372090000 ∧ Hid (((L.take k).flatMap vbytes).length ≤ 960 → t = ((L.take k).flatMap vbytes).length) ∧ Hid (960 < ((L.take k).flatMap vbytes).length → 960 < t) ∧
     Hid (∀ j, j < k → chkV L j = 0) ∧ Below w.heap.size w wr) (fun _ i _ => n - (intOf i).toNat)
  case atStart => exact ⟨0, 0, by omega, rfl, rfl, by omega, hide (by simp), hide (by simp), hide (by omega), Below.refl _ _⟩
  case round =>
    obtain ⟨k, t, hk, rfl, rfl, ht, HT1, HT2, HC, hbr⟩ := hrel
    by_cases hlt : k < n
    · obtain ⟨v, hv⟩ : ∃ v, L[k]? = some v := ⟨L[k]'(by have := HN.out; omega), List.getElem?_eq_getElem _⟩
      obtain ⟨b, off, Aj, cj, rfl, h0, h1, h2, h4, h5⟩ := (hL.below hbr) k v hv
      have hfd := hf _ (List.mem_of_getElem? hv)
      have HV := hide hv
      clear hv
      obtain ⟨i1, i2, i3⟩ := idx_at hlt
      obtain ⟨m, hm⟩ : ∃ m, m = v.data.length := ⟨_, rfl⟩
      rw [← hm] at h2 h4 hfd
      have HM := hide hm
      clear hm
      by_cases hth : 1 ≤ v.ix ∧ v.ix ≤ 65535 ∧ 0 ≤ v.sub ∧ v.sub ≤ 255
      · have hb2 : thereB v.ix v.sub = true := by simpa [thereB] using hth
        obtain ⟨t1, t2, t3, t4⟩ := hth
        have step : ∀ t', ((t ≤ 960 ∧ t' = t + 5 + m) ∨ (960 < t ∧ t' = t)) → Hid (((L.take (k+1)).flatMap vbytes).length ≤ 960 → t' = ((L.take (k+1)).flatMap vbytes).length) ∧ Hid (960 < ((L.take (k+1)).flatMap vbytes).length → 960 < t') := by
          intro t' h
          have e1 := HT1.out
          have e2 := HT2.out
          have e3 := HM.out
          rw [flat_take_succ L k v HV.out, List.length_append, vbytes_length, ← e3]
          refine ⟨hide ?_, hide ?_⟩ <;> omega
        have hk0 : k = 0 ∨ 1 ≤ k := by omega
        rcases hk0 with hk0 | hk0
        · have hchk : ∀ j, j < k + 1 → chkV L j = 0 := by
            intro j hj
            rcases Nat.lt_succ_iff_lt_or_eq.1 hj with h | h
            · exact HC.out j h
            · subst h; simp [chkV, List.getD, HV.out, hb2]; omega
          have HC2 := hide hchk
          have HS := hide step
          have hd : decide ((0 : Int) < (k : Int)) = false := by simp; omega
          have hd' : decide (0 < k) = false := by simp; omega
          clear hk0 hchk hb2 step
          by_cases ht9 : t ≤ 960
          all_goals
            go_wp2_with fail
            go_quiet (fail)
            clear hd hd'
            go_wp2_with fail
            go_roundw
            case measure => simp [intOf]; omega
          · exact ⟨k + 1, t + 5 + m, by omega, by go_num, by go_num, by omega, (HS.out _ (.inl ⟨by omega, rfl⟩)).1, (HS.out _ (.inl ⟨by omega, rfl⟩)).2, HC2, ⟨hbr.os, hbr.tape, hbr.output, hbr.size, hbr.block⟩⟩
          · exact ⟨k + 1, t, by omega, by go_num, by go_num, by omega, (HS.out _ (.inr ⟨by omega, rfl⟩)).1, (HS.out _ (.inr ⟨by omega, rfl⟩)).2, HC2, ⟨hbr.os, hbr.tape, hbr.output, hbr.size, hbr.block⟩⟩
        · obtain ⟨u, hu⟩ : ∃ u, L[k - 1]? = some u := ⟨L[k - 1]'(by have := HN.out; omega), List.getElem?_eq_getElem _⟩
          obtain ⟨b', off', Ap, cp, hA, g0, g1, g2, g4, g5⟩ := (hL.below hbr) (k - 1) u hu
          injection hA with hA
          injection hA with hA1 hA2
          subst hA1
          subst hA2
          have z1 := lt_of_cell g0
          have z2 := lt_of_cell h0
          simp only [] at z1 z2
          have HU := hide hu
          clear hu
          have HS := hide step
          clear step
          by_cases ha : aheadB u.ix u.sub v.ix v.sub = true
          · have hchk : ∀ j, j < k + 1 → chkV L j = 0 := by
              intro j hj
              rcases Nat.lt_succ_iff_lt_or_eq.1 hj with h | h
              · exact HC.out j h
              · subst h; simp [chkV, List.getD, HV.out, HU.out, hb2, ha]
            have HC2 := hide hchk
            clear hchk hb2
            obtain ⟨q1, q2, q3, q4, q5, q6, q7, q8, q9, q10, q11⟩ := idx_pred hk0 hk (by omega)
            by_cases ht9 : t ≤ 960
            all_goals
              go_wp2_with fail
              go_region_held3 (fun w' => (∀ p : Addr, p.block < (wr).heap.size → w'.cell? p = (wr).cell? p) ∧ Below (wr).heap.size (wr) w') (((try go_split_ands); refine sn_of ?_; repeat' (first | with_reducible assumption | with_reducible exact Below.refl _ _ | with_reducible apply below_alloc | with_reducible apply below_drew1 | with_reducible apply below_drewN | (with_reducible apply below_step; with_reducible assumption) | (with_reducible apply below_sg2; (first | exact Nat.le_refl _ | (simp; done) | omega))))) (first
                | (go_at_call 64; refine (rsnap_ahead _ _ _ _ _ _ _).mono ?_; rintro e w2 ⟨rfl, hw2⟩))
              clear q1 q2 q3 q4 q5 q6 q7 q8 q9 q10 q11
              have hb3 := below_step (by assumption : _ ∧ Below _ wr w2).2 hbr
              have d0 := (hw2.cell (p := ⟨b, off + k * 3 + 2, none⟩) (by simpa using z2)).trans h2
              go_wp2_with fail
              go_roundw
              case measure => simp [intOf]; omega
            · exact ⟨k + 1, t + 5 + m, by omega, by go_num, by go_num, by omega, (HS.out _ (.inl ⟨by omega, rfl⟩)).1, (HS.out _ (.inl ⟨by omega, rfl⟩)).2, HC2, hb3⟩
            · exact ⟨k + 1, t, by omega, by go_num, by go_num, by omega, (HS.out _ (.inr ⟨by omega, rfl⟩)).1, (HS.out _ (.inr ⟨by omega, rfl⟩)).2, HC2, hb3⟩
          · have ha : aheadB u.ix u.sub v.ix v.sub = false := by simpa using ha
            obtain ⟨q1, q2, q3, q4, q5, q6, q7, q8, q9, q10, q11⟩ := idx_pred hk0 hk (by omega)
            go_wp2_with fail
            go_region_held3 (fun w' => (∀ p : Addr, p.block < (wr).heap.size → w'.cell? p = (wr).cell? p) ∧ Below (wr).heap.size (wr) w') (((try go_split_ands); refine sn_of ?_; repeat' (first | with_reducible assumption | with_reducible exact Below.refl _ _ | with_reducible apply below_alloc | with_reducible apply below_drew1 | with_reducible apply below_drewN | (with_reducible apply below_step; with_reducible assumption) | (with_reducible apply below_sg2; (first | exact Nat.le_refl _ | (simp; done) | omega))))) (first
              | (go_at_call 64; refine (rsnap_ahead _ _ _ _ _ _ _).mono ?_; rintro e w2 ⟨rfl, hw2⟩))
            clear q1 q2 q3 q4 q5 q6 q7 q8 q9 q10 q11
            have hb3 := below_step (by assumption : _ ∧ Below _ wr w2).2 hbr
            go_wp2_with fail
            go_ret2
            refine ⟨_, _, _, [], _, rfl, OwnB.nil _ _, .inl ⟨by omega, rfl, k, by have := HN.out; omega, ?_, HC.out⟩, hb3⟩
            exact chkV_16 HV.out HU.out hk0 (by assumption) ha
      · have hb2 : thereB v.ix v.sub = false := by simp [thereB]; omega
        have hq : chkV L k = 9 := by simp [chkV, List.getD, HV.out, hb2]
        have HQ := hide hq
        clear hq hb2
        have hcase : v.ix < 1 ∨ (1 ≤ v.ix ∧ 65535 < v.ix) ∨ (1 ≤ v.ix ∧ v.ix ≤ 65535 ∧ v.sub < 0) ∨ (1 ≤ v.ix ∧ v.ix ≤ 65535 ∧ 0 ≤ v.sub ∧ 255 < v.sub) := by omega
        rcases hcase with hq1 | ⟨hq1, hq2⟩ | ⟨hq1, hq2, hq3⟩ | ⟨hq1, hq2, hq3, hq4⟩
        all_goals
          go_wp2_with fail
          go_ret2
          exact ⟨_, _, _, [], _, rfl, OwnB.nil _ _, .inl ⟨by omega, rfl, k, by have := HN.out; omega, HQ.out, HC.out⟩, hbr⟩
    · have hkn : k = n := by omega
      subst hkn
      have hnl := HN.out
      have e1 : L.take k = L := List.take_of_length_le (by omega)
      rw [e1] at HT1 HT2
      clear hnl e1
      by_cases ht9 : t ≤ 960
      · go_wp2_with fail
        have hS : (L.flatMap vbytes).length ≤ 960 := by
          have e2 := HT2.out
          omega
        clear HT1 HT2
        have HSS := hide hS
        clear hS
        go_loopw [6, 7] (fun v i wr => ∃ j bA bn bc b, j ≤ k ∧ i = .int .i64 (j : Nat) ∧ v = .slice bA bn bc ∧ OwnB wr w.heap.size bA bn bc b ∧ Hid (b = (L.take j).flatMap vbytes) ∧ Below w.heap.size w wr) (fun _ i _ => k - (intOf i).toNat)
        case atStart => exact ⟨0, _, _, _, [], by omega, rfl, rfl, OwnB.nil _ _, hide (by simp), hbr⟩
        case round =>
          clear hbr
          obtain ⟨j, bA, bn, bc, b, hj, rfl, rfl, hO, HB, hbr⟩ := hrel
          have hbn : bn ≤ 960 := by
            have e2 := flat_take_le L j
            rw [← HB.out, ← hO.hn] at e2
            have := HSS.out
            omega
          by_cases hjk : j < k
          · obtain ⟨⟨ix, sub, data⟩, hv⟩ : ∃ v, L[j]? = some v := ⟨L[j]'(by have := HN.out; omega), List.getElem?_eq_getElem _⟩
            obtain ⟨t1, t2, t3, t4⟩ := chkV_there hv (HC.out j hjk)
            obtain ⟨bb, off, Aj, cj, rfl, h0, h1, h2, h4, h5⟩ := (hL.below hbr) j _ hv
            simp only [] at t1 t2 t3 t4 h0 h1 h2 h4 h5
            obtain ⟨ix, rfl⟩ := Int.eq_ofNat_of_zero_le (show 0 ≤ ix by omega)
            obtain ⟨sub, rfl⟩ := Int.eq_ofNat_of_zero_le t3
            obtain ⟨m, hm⟩ : ∃ m, m = data.length := ⟨_, rfl⟩
            have hfd : m ≤ 960 := by
              have e1 := flat_take_succ L j _ hv
              have e2 := flat_take_le L (j + 1)
              rw [e1, List.length_append, vbytes_length] at e2
              have := HSS.out
              simp only [] at e2
              omega
            rw [← hm] at h2 h4
            have HV := hide hv
            have HM := hide hm
            clear hv hm
            obtain ⟨i1, i2, i3⟩ := idx_at hjk
            have z0 := lt_of_cell h0
            simp only [] at z0
            go_wp2_with fail
            go_region_held3 (fun w' => (∀ p : Addr, p.block < (wr).heap.size → w'.cell? p = (wr).cell? p) ∧ Below (wr).heap.size (wr) w') (((try go_split_ands); refine sn_of ?_; repeat' (first | with_reducible assumption | with_reducible exact Below.refl _ _ | with_reducible apply below_alloc | with_reducible apply below_drew1 | with_reducible apply below_drewN | (with_reducible apply below_step; with_reducible assumption) | (with_reducible apply below_sg2; (first | exact Nat.le_refl _ | (simp; done) | omega))))) (first
                | (go_at_call 65; (with_reducible refine (rsnap_put _ _ _ b _ ix _ (by omega) (by omega) (by omega) (by rw [p2]; omega) hO.hn (by omega) hO.sl.drew).mono ?_); rintro e w1 ⟨A1, n1, c1, rfl, hO1, hb1⟩; have l1 : n1 ≤ 970 := (by have := hO1.hn; have := hO.hn; simp [leB_length] at *; omega))
                | (go_at_call 65; (with_reducible refine (rsnap_put _ _ _ _ _ sub _ (by omega) (by omega) (by omega) (by rw [p1]; omega) hO1.hn (by omega) hO1.sl).mono ?_); rintro e w2 ⟨A2, n2, c2, rfl, hO2, hb2⟩; have l2 : n2 ≤ 970 := (by have := hO2.hn; have := hO.hn; simp [leB_length] at *; omega))
                | (go_at_call 65; (with_reducible refine (rsnap_put _ _ _ _ _ m _ (by omega) (by omega) (by omega) (by rw [p2]; omega) hO2.hn (by omega) hO2.sl).mono ?_); rintro e w3 ⟨A3, n3, c3, rfl, hO3, hb3⟩))
            obtain ⟨rc3, hbb0⟩ := (by assumption : _ ∧ Below _ wr w3)
            have hbb := below_step hbb0 hbr
            have d2 := (hbb0.cell (p := ⟨bb, off + j * 3 + 2, none⟩) (by simpa using z0)).trans h2
            have h5' := h5.below hbb0
            have hO3' := hO3.mono (B' := w.heap.size) (by have := hbr.size; have := hb1.size; have := hb2.size; simp at *; omega)
            have l3 : n3 ≤ 970 := by have := hO3.hn; have := hO.hn; simp [leB_length] at *; omega
            clear rc3
            go_wp2_with (at_builtin; refine app_b _ rfl (.tmp 98) (.tmp 103) rfl w.heap.size _ _ _ _ rfl hO3' _ _ _ data rfl HM.out h5' (by omega) hbb.size (n3 + m) rfl ?_; intro A4 c4 w4 hO4 _ _ hb4)
            go_roundw
            case rel =>
              refine ⟨j + 1, _, _, _, _, by omega, by go_num, rfl, hO4, hide ?_, hbb.trans hb4⟩
              rw [flat_take_succ L j _ HV.out, ← HB.out]
              simp [vbytes, ← HM.out]
            case measure => simp [intOf]; omega
          · have hjk' : j = k := by omega
            subst hjk'
            go_wp2_with fail
            go_ret2
            have hnl := HN.out
            have e1 : L.take j = L := List.take_of_length_le (by omega)
            refine ⟨_, _, _, b, _, rfl, hO, .inr ⟨by subst hnl; exact HC.out, .inr ⟨HSS.out, ?_, rfl⟩⟩, hbr⟩
            · rw [HB.out, e1]
      · go_wp2_with fail
        go_ret2
        refine ⟨_, _, _, [], _, rfl, OwnB.nil _ _, .inr ⟨by have := HN.out; subst this; exact HC.out, .inl ⟨?_, rfl, rfl⟩⟩, hbr⟩
        have := HT1.out
        omega
end Go.Proofs.Ytapfadaplncpeaa
