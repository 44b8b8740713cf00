/- Package snap: Build. -/
import Derived.Test.YtapfadaplncpeaaSnapA
import Derived.BigQuiet
import Derived.Deep.QuietTactic
namespace Go.Proofs.Ytapfadaplncpeaa
open Go.RowKit
set_option maxRecDepth 20000
set_option maxHeartbeats 1000000

/-- a value: its place and its data -/
structure SV where
  ix : Int
  sub : Int
  data : List UInt8
/-- the slice at A reads as the values L -/
def SlV (w : World) (A : Option Addr) (L : List SV) : Prop := ∀ j v, L[j]? = some v → ∃ b off Aj cj, A = some ⟨b, off, none⟩ ∧ w.cell? ⟨b, off + j * 3, none⟩ = some (.int .i64 v.ix) ∧ w.cell? ⟨b, off + j * 3 + 1, none⟩ = some (.int .i64 v.sub) ∧
  w.cell? ⟨b, off + j * 3 + 2, none⟩ = some (.slice Aj v.data.length cj) ∧ v.data.length ≤ cj ∧ Sl w Aj (v.data.map bv)
theorem SlV.keep {w w' : World} {A : Option Addr} {L : List SV} (h : SlV w A L) (hk : ∀ p v, w.cell? p = some v → w'.cell? p = some v) : SlV w' A L := by
  intro j v hv
  obtain ⟨b, off, Aj, cj, e, h1, h2, h3, h4, h5⟩ := h j v hv
  exact ⟨b, off, Aj, cj, e, hk _ _ h1, hk _ _ h2, hk _ _ h3, h4, h5.keep hk⟩
theorem SlV.below {w w' : World} {A : Option Addr} {L : List SV} (h : SlV w A L) (hb : Below w.heap.size w w') : SlV w' A L :=
  h.keep fun _ _ hc => (hb.cell (lt_of_cell hc)).trans hc
def fitsV (L : List SV) : Prop := ∀ v ∈ L, v.data.length ≤ 35184372088832

def chkV (L : List SV) (k : Nat) : Int :=
  if thereB (L.getD k ⟨0, 0, []⟩).ix (L.getD k ⟨0, 0, []⟩).sub = false then 9
  else if 0 < k ∧ aheadB (L.getD (k - 1) ⟨0, 0, []⟩).ix (L.getD (k - 1) ⟨0, 0, []⟩).sub (L.getD k ⟨0, 0, []⟩).ix (L.getD k ⟨0, 0, []⟩).sub = false then 16 else 0
def vbytes (v : SV) : List UInt8 := leB 2 v.ix.toNat ++ leB 1 v.sub.toNat ++ leB 2 v.data.length ++ v.data
def BuildR (L : List SV) (b : List UInt8) (e : Int) : Prop :=
  (e ≠ 0 ∧ b = [] ∧ ∃ k, k < L.length ∧ chkV L k = e ∧ ∀ j, j < k → chkV L j = 0) ∨
  ((∀ j, j < L.length → chkV L j = 0) ∧ ((960 < (L.flatMap vbytes).length ∧ b = [] ∧ e = 3) ∨ ((L.flatMap vbytes).length ≤ 960 ∧ b = L.flatMap vbytes ∧ e = 0)))

theorem p1 : 256 ^ (Int.toNat 1) = 256 := rfl
theorem p2 : 256 ^ (Int.toNat 2) = 65536 := rfl
theorem p4 : 256 ^ (Int.toNat 4) = 4294967296 := rfl
theorem vbytes_length (v : SV) : (vbytes v).length = 5 + v.data.length := by simp [vbytes, leB_length]; omega
theorem flat_take_succ (L : List SV) (k : Nat) (v : SV) (hv : L[k]? = some v) : (L.take (k + 1)).flatMap vbytes = (L.take k).flatMap vbytes ++ vbytes v := by
  obtain ⟨hk, rfl⟩ := List.getElem?_eq_some_iff.1 hv
  rw [List.take_succ_eq_append_getElem hk, List.flatMap_append]
  simp only [List.flatMap_cons, List.flatMap_nil, List.append_nil]
theorem flat_take_le (L : List SV) (k : Nat) : ((L.take k).flatMap vbytes).length ≤ (L.flatMap vbytes).length := by
  have := congrArg List.length (congrArg (List.flatMap vbytes) (List.take_append_drop k L))
  rw [List.flatMap_append, List.length_append] at this
  omega
theorem chkV_there {L : List SV} {k : Nat} {v : SV} (hv : L[k]? = some v) (h : chkV L k = 0) : 1 ≤ v.ix ∧ v.ix ≤ 65535 ∧ 0 ≤ v.sub ∧ v.sub ≤ 255 := by
  unfold chkV at h
  rw [List.getD_eq_getElem?_getD, hv] at h
  simp only [Option.getD_some] at h
  split at h
  · omega
  · rename_i hh
    simpa [thereB] using hh

theorem chkV_16 {L : List SV} {k : Nat} {v u : SV} (hv : L[k]? = some v) (hu : L[k - 1]? = some u) (hk : 1 ≤ k) (ht : thereB v.ix v.sub = true) (ha : aheadB u.ix u.sub v.ix v.sub = false) : chkV L k = 16 := by
  unfold chkV
  simp only [List.getD_eq_getElem?_getD, hv, hu, Option.getD_some]
  rw [if_neg (by rw [ht]; simp), if_pos ⟨by omega, ha⟩]

theorem snap_build (A : Option Addr) (n c : Nat) (L : List SV) (w : World) (hn : n = L.length) (hc : n ≤ c) (hl : n ≤ 35184372088832) (hL : SlV w A L) (hf : fitsV L) :
    Calls Try.prog 19 #[.slice A n c] w fun e w' => ∃ A' n' c' b er, e = .returned (.tuple #[.slice A' n' c', .int .i64 er]) ∧ OwnB w' w.heap.size A' n' c' b ∧ BuildR L b er ∧ Below w.heap.size w w' := by
  have HN := hide hn
  clear hn
  go_enter Try.func19, Try.ntmps19
  go_wp2_with fail
  go_loopw [11] (fun i wr => ∃ k, k ≤ n ∧ i = .int .i64 (k : Nat) ∧ (∀ j, j < k → chkV L j = 0) ∧ Below w.heap.size w wr) (fun i _ => n - (intOf i).toNat)
  case atStart => exact ⟨0, by omega, rfl, by omega, Below.refl _ _⟩
  case round =>
    obtain ⟨k, hk, rfl, hchk, hbr⟩ := hrel
    have HC := hide hchk
    clear hchk
    by_cases hlt : k < n
    · obtain ⟨v, hv⟩ : ∃ v, L[k]? = some v := ⟨L[k]'(by have := HN.out; omega), List.getElem?_eq_getElem _⟩
      obtain ⟨b, off, Aj, cj, rfl, h0, h1, h2, h4, h5⟩ := (hL.below hbr) k v hv
      have HV := hide hv
      clear hv
      by_cases ht : thereB v.ix v.sub = true
      · have hk0 : k = 0 ∨ 1 ≤ k := by omega
        rcases hk0 with hk0 | hk0
        · have hd : decide ((0 : Int) < (k : Int)) = false := by simp; omega
          have hd' : decide (0 < k) = false := by simp; omega
          have HK := hide hk0
          clear hk0
          go_wp2_with (go_at_call 61; refine (snap_there _ _ _ _).mono ?_; rintro e w1 ⟨rfl, hb1⟩)
          go_quiet (fail)
          go_wp2
          go_roundw
          case rel =>
            refine ⟨k + 1, by omega, by go_num, ?_, (below_step hb1 (below_alloc hbr _)).trans ?_⟩
            · intro j hj
              rcases Nat.lt_succ_iff_lt_or_eq.1 hj with h | h
              · exact HC.out j h
              · subst h; have := HK.out; simp [chkV, List.getD, HV.out, ht]; omega
            · exact ⟨rfl, rfl, rfl, Nat.le_refl _, fun _ _ => rfl⟩
          case measure => simp [intOf]; omega
        · obtain ⟨u, hu⟩ : ∃ u, L[k - 1]? = some u := ⟨L[k - 1]'(by have := HN.out; omega), List.getElem?_eq_getElem _⟩
          by_cases ha : aheadB u.ix u.sub v.ix v.sub = true
          all_goals
            try have ha := Bool.eq_false_of_not_eq_true ha
            go_wp2_with (go_at_call 61; refine (snap_there _ _ _ _).mono ?_; rintro e w1 ⟨rfl, hb1⟩)
            obtain ⟨b', off', Ap, cp, hA, g0, g1, g2, g4, g5⟩ := (hL.below (below_step hb1 (below_alloc hbr _))) (k - 1) u hu
            injection hA with hA
            injection hA with hA1 hA2
            subst hA1
            subst hA2
            have HU := hide hu
            clear hu
            have k1 := (blk_one _ _ _).below hb1 (by simp)
            have c0 := k1.cell 0 rfl
            have c1 := k1.cell 1 rfl
            have c2 := k1.cell 2 rfl
            have z1 := lt_of_cell g0
            have z2 := lt_of_cell c0
            simp only [] at z1 z2
            obtain ⟨q1, q2, q3, q4, q5, q6, q7, q8, q9, q10, q11⟩ := idx_pred hk0 hk (by omega)
            go_region_held3 (fun w' => (∀ p : Addr, p.block < (w1).heap.size → w'.cell? p = (w1).cell? p) ∧ Below (w1).heap.size (w1) w') (((try go_split_ands); refine sn_of ?_; repeat' (first | with_reducible assumption | with_reducible exact Below.refl _ _ | with_reducible apply below_alloc | with_reducible apply below_drew1 | with_reducible apply below_drewN | (with_reducible apply below_step; with_reducible assumption) | (with_reducible apply below_sg2; (first | exact Nat.le_refl _ | (simp; done) | omega))))) (first
              | (go_at_call 62; refine (snap_ahead _ _ _ _ _ _ _).mono ?_; rintro e w2 ⟨rfl, hb2⟩))
            clear q1 q2 q3 q4 q5 q6 q7 q8 q9 q10 q11
            have hb3 := below_step (by assumption : _ ∧ Below _ w1 w2).2 (below_step hb1 (below_alloc hbr _))
            go_wp2
          · go_roundw
            case rel =>
              refine ⟨k + 1, by omega, by go_num, ?_, hb3⟩
              intro j hj
              rcases Nat.lt_succ_iff_lt_or_eq.1 hj with h | h
              · exact HC.out j h
              · subst h; simp [chkV, List.getD, HV.out, HU.out, ht, ha]
            case measure => simp [intOf]; omega
          · go_ret2
            refine ⟨_, _, _, [], _, rfl, OwnB.nil _ _, .inl ⟨by omega, rfl, k, by have := HN.out; omega, ?_, HC.out⟩, hb3⟩
            simp [chkV, List.getD, HV.out, HU.out, ht, ha]; omega
      · have ht' : thereB v.ix v.sub = false := by simpa using ht
        go_wp2_with (go_at_call 61; refine (snap_there _ _ _ _).mono ?_; rintro e w1 ⟨rfl, hb1⟩)
        go_ret2
        refine ⟨_, _, _, [], _, rfl, OwnB.nil _ _, .inl ⟨by omega, rfl, k, by have := HN.out; omega, ?_, HC.out⟩, ?_⟩
        · simp [chkV, List.getD, HV.out, ht']
        · exact below_step hb1 (below_alloc hbr _)
    · have hkn : k = n := by omega
      subst hkn
      go_wp2_with fail
      go_loopw [6, 34] (fun v i wr => ∃ j bA bn bc b, j ≤ k ∧ i = .int .i64 (j : Nat) ∧ v = .slice bA bn bc ∧ OwnB wr w.heap.size bA bn bc b ∧ b = (L.take j).flatMap vbytes ∧ bn ≤ 960 ∧ Below w.heap.size w wr) (fun _ i _ => k - (intOf i).toNat)
      case atStart => exact ⟨0, _, _, _, [], by omega, rfl, rfl, OwnB.nil _ _, by simp, by omega, hbr⟩
      case round =>
        clear hbr
        obtain ⟨j, bA, bn, bc, b, hj, rfl, rfl, hO, hb, hbn, hbr⟩ := hrel
        have HB := hide hb
        clear hb
        by_cases hjk : j < k
        · obtain ⟨⟨ix, sub, data⟩, hv⟩ : ∃ v, L[j]? = some v := ⟨L[j]'(by have := HN.out; omega), List.getElem?_eq_getElem _⟩
          obtain ⟨t1, t2, t3, t4⟩ := chkV_there hv (HC.out j hjk)
          obtain ⟨bb, off, Aj, cj, rfl, h0, h1, h2, h4, h5⟩ := (hL.below hbr) j _ hv
          have hfd := hf _ (List.mem_of_getElem? hv)
          simp only [] at t1 t2 t3 t4 h0 h1 h2 h4 h5 hfd
          obtain ⟨ix, rfl⟩ := Int.eq_ofNat_of_zero_le (show 0 ≤ ix by omega)
          obtain ⟨sub, rfl⟩ := Int.eq_ofNat_of_zero_le t3
          have HV := hide hv
          clear hv
          obtain ⟨m, hm⟩ : ∃ m, m = data.length := ⟨_, rfl⟩
          rw [← hm] at h2 h4 hfd
          have HM := hide hm
          clear hm
          by_cases hbig : (955 : Int) - bn < m
          · go_wp2_with fail
            go_ret2
            refine ⟨_, _, _, [], _, rfl, OwnB.nil _ _, .inr ⟨by have := HN.out; subst this; exact HC.out, .inl ⟨?_, rfl, rfl⟩⟩, below_alloc hbr _⟩
            have e1 := flat_take_succ L j _ HV.out
            have e2 := flat_take_le L (j + 1)
            have e3 := hO.hn
            rw [e1, List.length_append, ← HB.out, ← e3, vbytes_length] at e2
            have := HM.out
            simp only [] at e2
            omega
          · have hbig' : (m : Int) ≤ 955 - bn := by omega
            go_wp2_with fail
            refine (put_ok' _ _ _ b _ ix _ hO.hn (by omega) (by omega) (by rw [p2]; omega) (by omega) (hO.sl.alloc _)).mono ?_
            rintro e w1 ⟨A1, n1, c1, rfl, hO1, hb1⟩
            have k1 := (blk_one wr 35 #[.int .i64 ix, .int .i64 sub, .slice Aj m cj]).below hb1 (by simp)
            have x1 := k1.cell 1 rfl
            have x2 := k1.cell 2 rfl
            have l1 : n1 ≤ 970 := by have := hO1.hn; have := hO.hn; simp [leB_length] at *; omega
            go_wp2_with fail
            refine (put_ok' _ _ _ _ _ sub _ hO1.hn (by omega) (by omega) (by rw [p1]; omega) (by omega) hO1.sl).mono ?_
            rintro e w2 ⟨A2, n2, c2, rfl, hO2, hb2⟩
            have k2 := k1.below hb2 k1.lt
            have y2 := k2.cell 2 rfl
            have l2 : n2 ≤ 970 := by have := hO2.hn; have := hO.hn; simp [leB_length] at *; omega
            clear x1 x2 k1
            go_wp2_with fail
            refine (put_ok' _ _ _ _ _ m _ hO2.hn (by omega) (by omega) (by rw [p2]; omega) (by omega) hO2.sl).mono ?_
            rintro e w3 ⟨A3, n3, c3, rfl, hO3, hb3⟩
            have k3 := k2.below hb3 k2.lt
            have z2 := k3.cell 2 rfl
            have l3 : n3 ≤ 970 := by have := hO3.hn; have := hO.hn; simp [leB_length] at *; omega
            clear y2 k2
            have hbb := below_step hb3 (below_step hb2 (below_step hb1 (below_alloc hbr _)))
            have hB3 : w.heap.size ≤ w3.heap.size := hbb.size
            have h5' := h5.below (below_step hb3 (below_step hb2 (below_step hb1 (below_alloc (Below.refl _ _) _))))
            go_wp2_with (at_builtin; refine app_b _ rfl (.tmp 70) (.tmp 72) rfl w.heap.size _ _ _ _ rfl (hO3.mono (by have := hbr.size; have := hb1.size; have := hb2.size; simp at *; omega)) _ _ _ data rfl HM.out h5' (by omega) hB3 (n3 + m) rfl ?_; intro A4 c4 w4 hO4 _ _ hb4)
            go_roundw
            case rel =>
              refine ⟨j + 1, _, _, _, _, by omega, by go_num, rfl, hO4, ?_, ?_, hbb.trans hb4⟩
              · rw [flat_take_succ L j _ HV.out, ← HB.out]
                simp [vbytes, ← HM.out]
              · have := hO4.hn; have := hO.hn; have := HM.out; simp [leB_length] at *; omega
            case measure => simp [intOf]; omega
        · have hjk' : j = k := by omega
          subst hjk'
          go_wp2_with fail
          go_ret2
          have hnl := HN.out
          have e1 : L.take j = L := List.take_of_length_le (by omega)
          refine ⟨_, _, _, b, _, rfl, hO, .inr ⟨by subst hnl; exact HC.out, .inr ⟨?_, ?_, rfl⟩⟩, hbr⟩
          · rw [← e1, ← HB.out, ← hO.hn]; exact hbn
          · rw [HB.out, e1]
end Go.Proofs.Ytapfadaplncpeaa
