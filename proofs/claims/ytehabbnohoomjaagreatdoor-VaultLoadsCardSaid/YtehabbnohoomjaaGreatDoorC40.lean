/- Package snap: Join. -/
import Derived.Test.YtehabbnohoomjaaGreatDoorC39
import Derived.Test.YtehabbnohoomjaaGreatDoorC37
import Derived.Test.YtehabbnohoomjaaGreatDoorC01
import Derived.Test.YtehabbnohoomjaaGreatDoorC33
import Derived.Test.YtehabbnohoomjaaGreatDoorC26
namespace Go.Proofs.YtehabbnohoomjaaGreatDoor
section
set_option linter.unusedVariables false
set_option linter.unusedSimpArgs false
set_option linter.unnecessarySimpa false
open Go.RowKit
set_option maxRecDepth 20000
set_option maxHeartbeats 4000000

theorem ins_len (L : List SV) (v : SV) : (insV L v).length ≤ L.length + 1 := by
  induction L with
  | nil => simp [insV]
  | cons x L ih =>
    rw [insV]
    split
    · simp; omega
    · split <;> simp
theorem fold_len : ∀ (X L : List SV), (X.foldl insV L).length ≤ L.length + X.length
  | [], L => by simp
  | v :: X, L => by have h1 := fold_len X (insV L v); have h2 := ins_len L v; simp; omega
theorem fold_take {X L : List SV} {k : Nat} {v : SV} (h : X[k]? = some v) : (X.take (k + 1)).foldl insV L = insV ((X.take k).foldl insV L) v := by
  obtain ⟨hk, rfl⟩ := List.getElem?_eq_some_iff.1 h
  rw [List.take_succ_eq_append_getElem hk, List.foldl_append]
  rfl
def foJ (a b : List SV) (i : Nat) : List SV := if i = 0 then [] else if i = 1 then a.foldl insV [] else joinV a b
theorem foJ_len (a b : List SV) (i : Nat) : (foJ a b i).length ≤ a.length + b.length := by
  unfold foJ
  split
  · simp
  · split
    · have := fold_len a []; simp at this; omega
    · exact joinV_len a b
abbrev JoinR (a b : List SV) (w : World) (e : Ending) (w' : World) : Prop := ∃ A' n' c' ds', e = .returned (.slice A' n' c') ∧ OwnV w' w.heap.size A' n' c' (joinV a b) ds' ∧ Below w.heap.size w w'
theorem snap_join (A1 : Option Addr) (n1 c1 : Nat) (X1 : List SV) (A2 : Option Addr) (n2 c2 : Nat) (X2 : List SV) (w : World) (hn1 : n1 = X1.length) (hX1 : SlV w A1 X1) (hn2 : n2 = X2.length) (hX2 : SlV w A2 X2) (h1 : lightB X1 = true) (h2 : lightB X2 = true) :
    Calls Tryz.prog 50 #[.slice A1 n1 c1, .slice A2 n2 c2] w (JoinR X1 X2 w) := by
  have f1 : X1.length ≤ 200 ∧ ∀ v ∈ X1, v.data.length ≤ 2000 := of_decide_eq_true h1
  have f2 : X2.length ≤ 200 ∧ ∀ v ∈ X2, v.data.length ≤ 2000 := of_decide_eq_true h2
  have q0 := blk_one w 27 #[.slice A1 n1 c1, .slice A2 n2 c2]
  have hb0 := below_alloc (Below.refl w.heap.size w) (.cells #[.slice A1 n1 c1, .slice A2 n2 c2] 27)
  obtain ⟨R, hR⟩ : ∃ R, R = JoinR X1 X2 w := ⟨_, rfl⟩
  rw [← hR]
  have HR := hide hR
  obtain ⟨Q, hQ⟩ : ∃ Q, Q = w.heap.size := ⟨_, rfl⟩
  obtain ⟨W1, hW1⟩ : ∃ W, W = w.alloc (.cells #[.slice A1 n1 c1, .slice A2 n2 c2] 27) := ⟨_, rfl⟩
  have HW1 := hide hW1
  have HQ := hide hQ
  rw [← hQ] at q0
  rw [← hW1] at q0 hb0
  have HQ0 := hide q0
  have HB0 := hide hb0
  have HS1 : Hid (W1.heap.size = w.heap.size + 1) := hide (by rw [hW1]; show (w.heap.push _).size = _; simp)
  have HN1 := hide hn1
  have HN2 := hide hn2
  have HX1 := hide hX1
  have HX2 := hide hX2
  have HF1 := hide f1
  have HF2 := hide f2
  have hm1 : n1 ≤ 200 := by omega
  have hm2 : n2 ≤ 200 := by omega
  clear hR hQ hW1 q0 hb0 hn1 hn2 hX1 hX2 h1 h2 f1 f2
  go_enter Tryz.func50, Tryz.ntmps50
  go_wp2_with fail
  rw [← HW1.out, ← HQ.out]
  go_loopw [5, 7, 9, 14] (fun s5 _ _ t14 wr => ∃ (i : Nat) (z : Int) (A : Option Addr) (n c : Nat) (ds : List (Option Addr × Nat)), i ≤ 2 ∧ z = (i : Nat) ∧ t14 = .int .i64 z ∧ s5 = .slice A n c ∧ Hid (OwnV wr W1.heap.size A n c (foJ X1 X2 i) ds ∧ Below w.heap.size w wr ∧ Blk wr Q 27 #[.slice A1 n1 c1, .slice A2 n2 c2] ∧ W1.heap.size ≤ wr.heap.size)) (fun _ _ _ t14 _ => 2 - (intOf t14).toNat)
  case atStart => exact ⟨0, 0, none, 0, 0, [], by omega, rfl, rfl, rfl, hide ⟨OwnV.nil _ _, HB0.out, HQ0.out, Nat.le_refl _⟩⟩
  case round =>
    obtain ⟨i, z, A, n, c, ds, hi, hz, rfl, rfl, HK⟩ := hrel
    have qc0 := HK.out.2.2.1.cell 0 (u := .slice A1 n1 c1) rfl
    have qc1 := HK.out.2.2.1.cell 1 (u := .slice A2 n2 c2) rfl
    have hways : i = 0 ∨ i = 1 ∨ i = 2 := by omega
    rcases hways with rfl | rfl | rfl
    · obtain rfl : z = 0 := by omega
      clear hz hi
      go_wp2_with fail
      go_loopw [5, 9, 20] (fun s5 _ t20 wx => ∃ (k : Nat) (A : Option Addr) (n c : Nat) (ds : List (Option Addr × Nat)), k ≤ n1 ∧ t20 = .int .i64 (k : Nat) ∧ s5 = .slice A n c ∧ Hid (OwnV wx W1.heap.size A n c ((X1.take k).foldl insV (foJ X1 X2 0)) ds ∧ Below w.heap.size w wx ∧ Blk wx Q 27 #[.slice A1 n1 c1, .slice A2 n2 c2] ∧ W1.heap.size ≤ wx.heap.size)) (fun _ _ t20 _ => n1 - (intOf t20).toNat)
      case atStart => exact ⟨0, A, n, c, ds, by omega, rfl, rfl, hide HK.out⟩
      case round =>
        clear HK qc0 qc1
        obtain ⟨k, A, n, c, ds, hk, rfl, rfl, HK⟩ := hrel
        by_cases hlt : k < n1
        · obtain ⟨v, hv⟩ : ∃ v, X1[k]? = some v := ⟨X1[k]'(by have := HN1.out; omega), List.getElem?_eq_getElem _⟩
          obtain ⟨b, off, Aj, cj, rfl, e0, e1, e2, e4, e5⟩ := (HX1.out.below HK.out.2.1) k v hv
          obtain ⟨vl, hvl⟩ : ∃ vl, vl = v.data.length := ⟨_, rfl⟩
          have hx5 : ∀ W, Below w.heap.size w W → Sl W Aj (v.data.map bv) := fun W hW => by
            obtain ⟨b', off', Aj', cj', h, _, _, h3, _, h5⟩ := HX1.out k v hv
            have c2' := (hW.cell (lt_of_cell h3)).trans h3
            have c2'' := (HK.out.2.1.cell (lt_of_cell h3)).trans h3
            simp only [Option.some.injEq, Addr.mk.injEq, and_true] at h
            obtain ⟨rfl, rfl⟩ := h
            rw [e2] at c2''
            injection c2'' with c2''
            injection c2'' with c2'' _ _
            rw [c2'']
            exact h5.below hW
          have hvf := HF1.out.2 v (List.mem_of_getElem? hv)
          have hn4 : n ≤ 1000 := by
            have h1 := HK.out.1.hn
            have h2 := fold_len (X1.take k) (foJ X1 X2 0)
            have h3 := foJ_len X1 X2 0
            have h4 := HF1.out.1
            have h5 := HF2.out.1
            rw [List.length_take] at h2
            omega
          have HT := hide (fold_take (L := foJ X1 X2 0) hv)
          have hba := below_alloc (Below.refl wr.heap.size wr) (.cells #[.int .i64 v.ix, .int .i64 v.sub, .slice Aj v.data.length cj] 52)
          have HI := hide (snap_insert W1.heap.size A n c _ ds v Aj cj _ (HK.out.1.below hba) (Nat.le_trans HK.out.2.2.2 hba.size) hn4 hvf (fun W hW => hx5 W ((below_step hba HK.out.2.1).trans (weak_b hW (by have := HS1.out; omega)))))
          have HBA := hide (And.intro (below_step hba HK.out.2.1) (And.intro (HK.out.2.2.1.below hba HK.out.2.2.1.lt) (Nat.le_trans HK.out.2.2.2 hba.size)))
          rw [← hvl] at e2 HI HBA
          clear hv hvl hx5 hvf hn4 hba e4 e5
          go_wp2_with fail
          refine HI.out.mono ?_
          rintro e w3 ⟨A3, n3, c3, ds3, rfl, hO3, hb3⟩
          go_wp2_with fail
          go_roundw
          case rel =>
            have hs := HBA.out.2.2
            exact ⟨k + 1, A3, n3, c3, ds3, by omega, by go_num, rfl, hide ⟨by rw [HT.out]; exact hO3, HBA.out.1.trans (weak_b hb3 (by have := HS1.out; omega)), (hb3.block Q (by rw [HQ.out]; have := HS1.out; omega)).trans HBA.out.2.1, Nat.le_trans hs hb3.size⟩⟩
          case measure => simp [intOf]; omega
        · have HKN := hide (show k = n1 by omega)
          go_wp2_with fail
          go_roundw
          case rel =>
            refine ⟨0 + 1, 1, A, n, c, ds, by omega, by omega, by go_num, rfl, hide ⟨?_, HK.out.2⟩⟩
            have h := HK.out.1
            rw [List.take_of_length_le (by rw [HKN.out, HN1.out]; exact Nat.le_refl _)] at h
            exact h
          case measure => simp [intOf]
    · obtain rfl : z = 1 := by omega
      clear hz hi
      go_wp2_with fail
      go_loopw [5, 9, 20] (fun s5 _ t20 wx => ∃ (k : Nat) (A : Option Addr) (n c : Nat) (ds : List (Option Addr × Nat)), k ≤ n2 ∧ t20 = .int .i64 (k : Nat) ∧ s5 = .slice A n c ∧ Hid (OwnV wx W1.heap.size A n c ((X2.take k).foldl insV (foJ X1 X2 1)) ds ∧ Below w.heap.size w wx ∧ Blk wx Q 27 #[.slice A1 n1 c1, .slice A2 n2 c2] ∧ W1.heap.size ≤ wx.heap.size)) (fun _ _ t20 _ => n2 - (intOf t20).toNat)
      case atStart => exact ⟨0, A, n, c, ds, by omega, rfl, rfl, hide HK.out⟩
      case round =>
        clear HK qc0 qc1
        obtain ⟨k, A, n, c, ds, hk, rfl, rfl, HK⟩ := hrel
        by_cases hlt : k < n2
        · obtain ⟨v, hv⟩ : ∃ v, X2[k]? = some v := ⟨X2[k]'(by have := HN2.out; omega), List.getElem?_eq_getElem _⟩
          obtain ⟨b, off, Aj, cj, rfl, e0, e1, e2, e4, e5⟩ := (HX2.out.below HK.out.2.1) k v hv
          obtain ⟨vl, hvl⟩ : ∃ vl, vl = v.data.length := ⟨_, rfl⟩
          have hx5 : ∀ W, Below w.heap.size w W → Sl W Aj (v.data.map bv) := fun W hW => by
            obtain ⟨b', off', Aj', cj', h, _, _, h3, _, h5⟩ := HX2.out k v hv
            have c2' := (hW.cell (lt_of_cell h3)).trans h3
            have c2'' := (HK.out.2.1.cell (lt_of_cell h3)).trans h3
            simp only [Option.some.injEq, Addr.mk.injEq, and_true] at h
            obtain ⟨rfl, rfl⟩ := h
            rw [e2] at c2''
            injection c2'' with c2''
            injection c2'' with c2'' _ _
            rw [c2'']
            exact h5.below hW
          have hvf := HF2.out.2 v (List.mem_of_getElem? hv)
          have hn4 : n ≤ 1000 := by
            have h1 := HK.out.1.hn
            have h2 := fold_len (X2.take k) (foJ X1 X2 1)
            have h3 := foJ_len X1 X2 1
            have h4 := HF1.out.1
            have h5 := HF2.out.1
            rw [List.length_take] at h2
            omega
          have HT := hide (fold_take (L := foJ X1 X2 1) hv)
          have hba := below_alloc (Below.refl wr.heap.size wr) (.cells #[.int .i64 v.ix, .int .i64 v.sub, .slice Aj v.data.length cj] 52)
          have HI := hide (snap_insert W1.heap.size A n c _ ds v Aj cj _ (HK.out.1.below hba) (Nat.le_trans HK.out.2.2.2 hba.size) hn4 hvf (fun W hW => hx5 W ((below_step hba HK.out.2.1).trans (weak_b hW (by have := HS1.out; omega)))))
          have HBA := hide (And.intro (below_step hba HK.out.2.1) (And.intro (HK.out.2.2.1.below hba HK.out.2.2.1.lt) (Nat.le_trans HK.out.2.2.2 hba.size)))
          rw [← hvl] at e2 HI HBA
          clear hv hvl hx5 hvf hn4 hba e4 e5
          go_wp2_with fail
          refine HI.out.mono ?_
          rintro e w3 ⟨A3, n3, c3, ds3, rfl, hO3, hb3⟩
          go_wp2_with fail
          go_roundw
          case rel =>
            have hs := HBA.out.2.2
            exact ⟨k + 1, A3, n3, c3, ds3, by omega, by go_num, rfl, hide ⟨by rw [HT.out]; exact hO3, HBA.out.1.trans (weak_b hb3 (by have := HS1.out; omega)), (hb3.block Q (by rw [HQ.out]; have := HS1.out; omega)).trans HBA.out.2.1, Nat.le_trans hs hb3.size⟩⟩
          case measure => simp [intOf]; omega
        · have HKN := hide (show k = n2 by omega)
          go_wp2_with fail
          go_roundw
          case rel =>
            refine ⟨1 + 1, 2, A, n, c, ds, by omega, by omega, by go_num, rfl, hide ⟨?_, HK.out.2⟩⟩
            have h := HK.out.1
            rw [List.take_of_length_le (by rw [HKN.out, HN2.out]; exact Nat.le_refl _)] at h
            exact h
          case measure => simp [intOf]
    · obtain rfl : z = 2 := by omega
      clear hz hi
      go_wp2_with fail
      rw [HR.out]
      exact ⟨A, n, c, ds, rfl, HK.out.1.mono (by have := HS1.out; omega), HK.out.2.1⟩
end
end Go.Proofs.YtehabbnohoomjaaGreatDoor
namespace Go.Proofs.YtehabbnohoomjaaGreatDoor
section
set_option linter.unusedVariables false
set_option linter.unusedSimpArgs false
set_option linter.unnecessarySimpa false
section
open Go.RowKit
set_option maxRecDepth 100000
set_option maxHeartbeats 4000000
/-- why one value can not be set -/
def chkS (L : List Ent) (v : SV) : Int := if hasL L v.ix v.sub = false ∨ (entK L (locK L v.ix v.sub)).st = false then 8 else if valC (entK L (locK L v.ix v.sub)) v.data ≠ 0 then 4 else 0
/-- why values can not be set: the first reason -/
def checkL (L : List Ent) : List SV → Int
  | [] => 0
  | v :: X => if chkS L v ≠ 0 then chkS L v else checkL L X
theorem check_drop {L : List Ent} {X : List SV} {k : Nat} {v : SV} (h : X[k]? = some v) : checkL L (X.drop k) = if chkS L v ≠ 0 then chkS L v else checkL L (X.drop (k + 1)) := by
  rw [drop_cons h]; rfl
section
variable {F : Nat → Prop} {p n cl cv : Nat} {Av : Option Addr} {L : List Ent} {V : List (List UInt8)} {ds es : List (Option Addr × Nat)} {gl : Nat}
theorem snap_check (A : Option Addr) (m c : Nat) (X : List SV) (w : World) (hD : DB 102 w F p (some ⟨gl, 0, none⟩) n cl Av cv L V ds es) (hs : SortedE L) (hn : n ≤ 1000) (hm : m = X.length) (hmb : m ≤ 1000) (hX : SlV w A X) (hf : fitsV X) :
    Calls Tryz.prog 44 #[.pointer (some ⟨p, 0, none⟩), .slice A m c] w fun e w' => e = .returned (.int .i64 (checkL L X)) ∧ Below w.heap.size w w' := by
  have HD := hide hD
  have HN := hide hD.ents.hn
  have HS := hide hs
  have HM := hide hm
  have HX := hide hX
  have HF := hide hf
  have H1 := hide hn
  clear hD hs hm hX hf hn
  go_enter Tryz.func44, Tryz.ntmps44
  go_wp2_with fail
  go_loopw [15] (fun i wr => ∃ k, k ≤ m ∧ i = .int .i64 (k : Nat) ∧ Hid (checkL L (X.drop k) = checkL L X) ∧ Below w.heap.size w wr) (fun i _ => m - (intOf i).toNat)
  case atStart => exact ⟨0, by omega, rfl, hide rfl, Below.refl _ _⟩
  case round =>
    obtain ⟨k, hk, rfl, HC, hbr⟩ := hrel
    by_cases hlt : k < m
    · obtain ⟨v, hv⟩ : ∃ v, X[k]? = some v := ⟨X[k]'(by rw [← HM.out]; exact hlt), List.getElem?_eq_getElem _⟩
      obtain ⟨b, off, Aj, cj, rfl, c0, c1, c2, hcj, hsj⟩ := (HX.out.below hbr) k v hv
      have HV : Hid (checkL L X = if chkS L v ≠ 0 then chkS L v else checkL L (X.drop (k + 1))) := hide (by rw [← HC.out]; exact check_drop hv)
      have q := blk_one wr 52 #[.int .i64 v.ix, .int .i64 v.sub, .slice Aj v.data.length cj]
      have hb2 := below_alloc (Below.refl wr.heap.size wr) (.cells #[.int .i64 v.ix, .int .i64 v.sub, .slice Aj v.data.length cj] 52)
      have hbr2 := below_step hb2 hbr
      have HSJ := hide (hsj.below hb2)
      have HCJ := hide hcj
      have hvd := HF.out v (List.mem_of_getElem? hv)
      have HVD := hide hvd
      obtain ⟨i1, i2, i3⟩ := idx_at hlt
      clear hv hcj hsj hvd
      go_wp2_with fail
      refine (dict_find v.ix v.sub _ (HD.out.below hbr2) HS.out H1.out).mono ?_
      rintro e w2 ⟨rfl, hb3⟩
      have hbr3 := below_step hb3 hbr2
      have q2 := q.below hb3 q.lt
      have HD3 := hide (HD.out.below hbr3)
      clear c0 c1 c2
      by_cases hf : 0 ≤ findL L v.ix v.sub
      · obtain ⟨j, hj, hlj, hjl⟩ := find_nat hf
        obtain ⟨E, hE⟩ : ∃ E, L[j]? = some E := ⟨L[j], List.getElem?_eq_getElem _⟩
        have hh : hasL L v.ix v.sub = true := by simp [hasL, hf]
        have HCS : Hid (chkS L v = if E.st = false then 8 else if valC E v.data ≠ 0 then 4 else 0) := hide (by unfold chkS; rw [hh, hlj, entK_at hE]; simp)
        rw [hh, hlj]
        have HE := hide hE
        clear hf hj hlj hh hE
        go_wp2_with fail
        refine (dict_entry_yes j E _ _ p gl n cl cv Av L V ds es HD3.out HE.out).mono ?_
        rintro e w3 ⟨A3, c3, rfl, hO3, hb4⟩
        have q3 := (q2.below hb4 q2.lt).alloc (.cells (entV E A3 E.df.length c3) 55)
        have q4 := blk_one w3 55 (entV E A3 E.df.length c3)
        have hb5 := below_step (below_alloc (Below.refl w3.heap.size w3) (.cells (entV E A3 E.df.length c3) 55)) hb4
        have hbr5 := below_step hb5 hbr3
        obtain ⟨st, hst⟩ : ∃ st, st = E.st := ⟨_, rfl⟩
        have HST := hide hst
        clear hO3 q q2
        unfold entV at q4 hb5 q3 hbr5 ⊢
        rw [← hst] at q4 hb5 q3 hbr5 ⊢
        have HSK := hide (HSJ.out.below (below_step hb5 hb3))
        clear hst
        cases st
        · have HR : Hid (checkL L X = 8) := hide (by rw [HV.out, HCS.out, ← HST.out]; rfl)
          go_wp2_with fail
          go_ret
          exact ⟨ret_int HR.out.symm, hbr5⟩
        · have HCS2 : Hid (chkS L v = if valC E v.data ≠ 0 then 4 else 0) := hide (by rw [HCS.out, ← HST.out]; rfl)
          obtain ⟨q3_c0, q3_c1, q3_c2⟩ := cel3 q3
          have q3_f := q3.frozen
          obtain ⟨q4_c0, q4_c1, q4_c2, q4_c3, q4_c4, q4_c5, q4_c6, q4_c7, q4_c8, q4_c9, q4_c10⟩ := cel11 q4
          have q4_f := q4.frozen
          go_wp2_with fail
          refine (ent_value { E with st := true } A3 E.df.length c3 Aj v.data.length cj v.data _ rfl HCJ.out HVD.out HSK.out).mono ?_
          rintro e w4 ⟨rfl, hb6⟩
          have hbr6 := below_step hb6 hbr5
          obtain ⟨cc, hcc⟩ : ∃ cc, cc = valC E v.data := ⟨_, rfl⟩
          have hcc' : valueE ({ E with st := true } : Ent).ty ({ E with st := true } : Ent).mx ({ E with st := true } : Ent).lo ({ E with st := true } : Ent).hi v.data = cc := by rw [hcc]; rfl
          rw [hcc']
          rw [← hcc] at HCS2
          clear hcc hcc'
          by_cases h0 : cc = 0
          · have HR : Hid (checkL L (X.drop (k + 1)) = checkL L X) := hide (by rw [HV.out, HCS2.out, h0]; rfl)
            go_wp2_with fail
            go_roundw
            case rel => exact ⟨k + 1, by omega, by go_num, HR, hbr6⟩
            case measure => simp [intOf]; omega
          · have HR : Hid (checkL L X = 4) := hide (by rw [HV.out, HCS2.out, if_pos h0]; rfl)
            go_wp2_with fail
            go_ret
            exact ⟨ret_int HR.out.symm, hbr6⟩
      · have hh : hasL L v.ix v.sub = false := by simp [hasL, hf]
        have hlk : locK L v.ix v.sub = 0 := by unfold locK; omega
        have HR : Hid (checkL L X = 8) := hide (by rw [HV.out]; have : chkS L v = 8 := by unfold chkS; rw [hh]; rfl
                                                   rw [this]; rfl)
        rw [hh, hlk]
        clear hf hh hlk
        rcases Nat.eq_zero_or_pos n with h0 | h0
        · go_wp2_with fail
          refine (dict_entry_no 0 _ p gl n cl cv Av HD3.out.blk (.inr ⟨by omega, by omega⟩)).mono ?_
          rintro e w3 ⟨rfl, hb4⟩
          have hbr5 := below_alloc (below_step hb4 hbr3) (.cells (entV zeroE none 0 0) 55)
          unfold entV zeroE at hbr5 ⊢
          go_wp2_with fail
          go_ret
          exact ⟨ret_int HR.out.symm, hbr5⟩
        · obtain ⟨E, hE⟩ : ∃ E, L[0]? = some E := ⟨L[0]'(by rw [← HN.out]; exact h0), List.getElem?_eq_getElem _⟩
          have HE := hide hE
          clear hE
          go_wp2_with fail
          refine (dict_entry_yes 0 E _ _ p gl n cl cv Av L V ds es HD3.out HE.out).mono ?_
          rintro e w3 ⟨A3, c3, rfl, hO3, hb4⟩
          have hbr5 := below_alloc (below_step hb4 hbr3) (.cells (entV E A3 E.df.length c3) 55)
          clear hO3
          unfold entV at hbr5 ⊢
          go_wp2_with fail
          go_ret
          exact ⟨ret_int HR.out.symm, hbr5⟩
    · have HR : Hid (checkL L X = 0) := hide (by rw [← HC.out, List.drop_eq_nil_of_le (by rw [← HM.out]; omega)]; rfl)
      go_wp2_with fail
      go_ret
      exact ⟨ret_int HR.out.symm, hbr⟩
end
end
section
open Go.RowKit
set_option maxRecDepth 100000
set_option maxHeartbeats 4000000
section
variable {F : Nat → Prop} {p n cl cv : Nat} {Al Av : Option Addr} {L : List Ent} {V : List (List UInt8)} {ds es : List (Option Addr × Nat)}
end
end
section
open Go.RowKit
set_option maxRecDepth 100000
set_option maxHeartbeats 4000000
section
variable {F : Nat → Prop} {p n cl cv : Nat} {Av : Option Addr} {L : List Ent} {V : List (List UInt8)} {ds es : List (Option Addr × Nat)} {gl : Nat}
def applyV (L : List Ent) (V : List (List UInt8)) (X : List SV) : List (List UInt8) := if checkL L X = 0 then pokeAll L V X else V
def ApplyR (F : Nat → Prop) (p gl n cl : Nat) (Av : Option Addr) (cv : Nat) (L : List Ent) (V : List (List UInt8)) (ds : List (Option Addr × Nat)) (X : List SV) (w : World) (e : Ending) (w' : World) : Prop :=
  ∃ V' es', e = .returned (.int .i64 (checkL L X)) ∧ V' = applyV L V X ∧ DB 102 w' (fun g => F g ∨ w.heap.size ≤ g) p (some ⟨gl, 0, none⟩) n cl Av cv L V' ds es' ∧ Only F w w'
theorem snap_apply (A : Option Addr) (m c : Nat) (X : List SV) (w : World) (hD : DB 102 w F p (some ⟨gl, 0, none⟩) n cl Av cv L V ds es) (hs : SortedE L) (hn : n ≤ 1000) (hm : m = X.length) (hmb : m ≤ 1000) (hX : ∀ W, Only F w W → SlV W A X) (hf : fitsV X) :
    Calls Tryz.prog 55 #[.pointer (some ⟨p, 0, none⟩), .slice A m c] w (ApplyR F p gl n cl Av cv L V ds X w) := by
  have HCK := hide (snap_check A m c X w hD hs hn hm hmb (hX w (Only.refl _ _)) hf)
  have HD := hide hD
  have HS := hide hs
  have HM := hide hm
  have HX := hide hX
  have HF := hide hf
  have H1 := hide hn
  obtain ⟨cc, hcc⟩ : ∃ cc, cc = checkL L X := ⟨_, rfl⟩
  have HCC := hide hcc
  clear hD hs hm hX hf hn hcc
  go_enter Tryz.func55, Tryz.ntmps55
  go_wp2_with fail
  refine HCK.out.mono ?_
  rintro e w1 ⟨rfl, hb1⟩
  rw [← HCC.out]
  have HD1 := hide (HD.out.below hb1)
  by_cases h0 : cc = 0
  · have HA : Hid (applyV L V X = pokeAll L V X) := hide (by unfold applyV; rw [← HCC.out, if_pos h0])
    subst h0
    have HO1 : Hid (Only F w w1) := hide (Only.of_below hb1)
    have HD0 : Hid (DB 102 w1 (fun g => F g ∨ w.heap.size ≤ g) p (some ⟨gl, 0, none⟩) n cl Av cv L (pokeAll L V (X.take 0)) ds es) := hide (HD1.out.mono (fun g _ h => .inl h))
    clear hb1
    go_wp2_with fail
    go_loopw [16] (fun i wr => ∃ k es', k ≤ m ∧ i = .int .i64 (k : Nat) ∧ Hid (DB 102 wr (fun g => F g ∨ w.heap.size ≤ g) p (some ⟨gl, 0, none⟩) n cl Av cv L (pokeAll L V (X.take k)) ds es') ∧ Hid (Only F w wr)) (fun i _ => m - (intOf i).toNat)
    case atStart => exact ⟨0, es, by omega, rfl, HD0, HO1⟩
    case round =>
      obtain ⟨k, es', hk, rfl, HDr, HOr⟩ := hrel
      by_cases hlt : k < m
      · obtain ⟨v, hv⟩ : ∃ v, X[k]? = some v := ⟨X[k]'(by rw [← HM.out]; exact hlt), List.getElem?_eq_getElem _⟩
        obtain ⟨b, off, Aj, cj, rfl, c0, c1, c2, hcj, hsj⟩ := (HX.out wr HOr.out) k v hv
        have HV := hide hv
        have q := blk_one wr 52 #[.int .i64 v.ix, .int .i64 v.sub, .slice Aj v.data.length cj]
        have hb2 := below_alloc (Below.refl wr.heap.size wr) (.cells #[.int .i64 v.ix, .int .i64 v.sub, .slice Aj v.data.length cj] 52)
        have HSJ := hide (hsj.below hb2)
        have HCJ := hide hcj
        have hvd := HF.out v (List.mem_of_getElem? hv)
        have HVD := hide hvd
        have HDq := hide (HDr.out.below hb2)
        obtain ⟨i1, i2, i3⟩ := idx_at hlt
        clear hv hcj hsj hvd
        go_wp2_with fail
        refine (dict_poke v.ix v.sub Aj v.data.length cj v.data _ HDq.out HS.out H1.out rfl HCJ.out HVD.out HSJ.out).mono ?_
        rintro e w2 ⟨V2, es2, rfl, hV2, hD2, ho2⟩
        have hzr := HOr.out.size
        have hz2 := hb2.size
        have HD3 : Hid (DB 102 w2 (fun g => F g ∨ w.heap.size ≤ g) p (some ⟨gl, 0, none⟩) n cl Av cv L (pokeAll L V (X.take (k + 1))) ds es2) := hide (by
          rw [pokeAll_take HV.out, ← hV2]
          exact hD2.mono (fun g _ h => h.elim id (fun h => .inr (Nat.le_trans (Nat.le_trans hzr hz2) h))))
        have HO3 : Hid (Only F w w2) := hide ((HOr.out.step hb2).trans ho2 (fun i hi h => h.elim id (fun h => by omega)))
        clear hD2 ho2 hV2 hzr hz2
        go_wp2_with fail
        go_roundw
        case rel => exact ⟨k + 1, _, by omega, by go_num, HD3, HO3⟩
        case measure => simp [intOf]; omega
      · go_wp2_with fail
        go_ret
        have h1 := HDr.out
        rw [List.take_of_length_le (by rw [← HM.out]; omega)] at h1
        exact ⟨_, es', ret_int HCC.out, HA.out.symm, h1, HOr.out⟩
  · have HA : Hid (applyV L V X = V) := hide (by unfold applyV; rw [← HCC.out, if_neg h0])
    go_wp2_with fail
    go_ret
    exact ⟨_, es, ret_int HCC.out, HA.out.symm, HD1.out.mono (fun g _ h => .inl h), Only.of_below hb1⟩
end
end
section
open Go.RowKit
set_option maxRecDepth 100000
set_option maxHeartbeats 4000000
section
variable {F : Nat → Prop} {p n cl cv : Nat} {Al Av : Option Addr} {L : List Ent} {V : List (List UInt8)} {ds es : List (Option Addr × Nat)}
def RApplyR (F : Nat → Prop) (p n cl : Nat) (Al Av : Option Addr) (cv : Nat) (L : List Ent) (V : List (List UInt8)) (ds : List (Option Addr × Nat)) (X : List SV) (w : World) (e : Ending) (w' : World) : Prop :=
  ∃ V' es', e = .returned (.int .i64 (checkL L X)) ∧ V' = applyV L V X ∧ DB 112 w' (fun g => F g ∨ w.heap.size ≤ g) p Al n cl Av cv L V' ds es' ∧ Only F w w'
end
end
end
end Go.Proofs.YtehabbnohoomjaaGreatDoor
namespace Go.Proofs.YtehabbnohoomjaaGreatDoor
section
set_option linter.unusedVariables false
set_option linter.unusedSimpArgs false
set_option linter.unnecessarySimpa false
open Go.RowKit
set_option maxRecDepth 20000
set_option maxHeartbeats 8000000

theorem cellsV_G : ∀ (L : List SV) (ds : List (Option Addr × Nat)), cellsV L ds = cellsG svF L ds
  | [], _ => by simp [cellsV, cellsG]
  | _ :: _, [] => by simp [cellsV, cellsG]
  | x :: L, d :: ds => by rw [cellsV_cons, cellsG, cellsV_G L ds]; rfl
theorem ownV_sv {w : World} {B n c : Nat} {A : Option Addr} {L : List SV} {ds : List (Option Addr × Nat)} (h : OwnV w B A n c L ds) : OwnSV w (fun g => B ≤ g ∧ g < w.heap.size) A n c L ds :=
  ⟨h.hn, h.hd, by rw [← cellsV_G]; exact h.own.mono (Nat.zero_le _), h.own.fin, fun j v d h1 h2 => ⟨(h.data j v d h1 h2).mono (Nat.zero_le _), (h.data j v d h1 h2).own.fin⟩⟩
/-- a vault: its struct, its journal and flash, what is stored -/
structure VD (w : World) (M : Nat) (Fj FL : Nat → Prop) (pv pj : Nat) (q : FP) (A : Option Addr) (n c : Nat) (dj : List (Option Addr × Nat)) (As : Option Addr) (ns cs : Nat) (dx : List (Option Addr × Nat)) (J : JS) (S : FS) (X : List SV) (odd off : Bool) : Prop where
  blk : Blk w pv 90 (vauC (.pointer (some ⟨pj, 0, none⟩)) (.slice As ns cs) odd off)
  jd : JD w Fj pj q.p A n c J dj
  fd : FD w q S
  row : OwnSV w FL As ns cs X dx
  mv : M ≤ pv
  fw : ∀ g, Fj g ∨ q.F g → g < w.heap.size ∧ M ≤ g ∧ g ≠ pv
  lw : ∀ g, FL g → g < w.heap.size ∧ M ≤ g ∧ g ≠ pv ∧ ¬ (Fj g ∨ q.F g)
  dq : ∀ g, Fj g → ¬ q.F g
  sz : ns ≤ 200
  fit : ∀ v ∈ X, v.data.length ≤ 2000
section
variable {w w' : World} {M pv pj n c ns cs : Nat} {Fj FL : Nat → Prop} {q : FP} {A As : Option Addr} {dj dx : List (Option Addr × Nat)} {J : JS} {S : FS} {X : List SV} {odd off : Bool}
theorem VD.below (h : VD w M Fj FL pv pj q A n c dj As ns cs dx J S X odd off) (hb : Below w.heap.size w w') : VD w' M Fj FL pv pj q A n c dj As ns cs dx J S X odd off :=
  ⟨h.blk.below hb h.blk.lt, h.jd.below hb, h.fd.below hb, h.row.below hb, h.mv, fun g hg => ⟨Nat.lt_of_lt_of_le (h.fw g hg).1 hb.size, (h.fw g hg).2⟩, fun g hg => ⟨Nat.lt_of_lt_of_le (h.lw g hg).1 hb.size, (h.lw g hg).2⟩, h.dq, h.sz, h.fit⟩
theorem VD.only {H : Nat → Prop} (h : VD w M Fj FL pv pj q A n c dj As ns cs dx J S X odd off) (ho : Only H w w') (hH : ∀ g, H g → ¬ (Fj g ∨ q.F g ∨ FL g ∨ g = pv)) : VD w' M Fj FL pv pj q A n c dj As ns cs dx J S X odd off :=
  ⟨(ho.block pv h.blk.lt (fun e => hH pv e (.inr (.inr (.inr rfl))))).trans h.blk, h.jd.only ho (fun g hg e => hH g e (.inl hg)), h.fd.only ho (fun g hg e => hH g e (.inr (.inl hg))), h.row.keep (fun g hg hlt => ho.block g hlt (fun e => hH g e (.inr (.inr (.inl hg))))), h.mv,
    fun g hg => ⟨Nat.lt_of_lt_of_le (h.fw g hg).1 ho.size, (h.fw g hg).2⟩, fun g hg => ⟨Nat.lt_of_lt_of_le (h.lw g hg).1 ho.size, (h.lw g hg).2⟩, h.dq, h.sz, h.fit⟩
theorem va_there (x1 : Value) (w : World) (hc : w.cell? ⟨pv, 0, none⟩ = some (.pointer (some ⟨pj, 0, none⟩))) : Calls Tryz.prog 53 #[.pointer (some ⟨pv, 0, none⟩)] w fun e w' => e = .returned (.bool true) ∧ w = w' := by
  go_enter Tryz.func53, Tryz.ntmps53
  go_wp2_with fail
  go_ret
  exact ⟨rfl, rfl⟩
theorem va_odd (w : World) (h : VD w M Fj FL pv pj q A n c dj As ns cs dx J S X odd off) : Calls Tryz.prog 20 #[.pointer (some ⟨pv, 0, none⟩)] w fun e w' => e = .returned (.bool odd) ∧ w = w' := by
  have hB := h.blk
  unfold vauC at hB
  obtain ⟨hB_c0, hB_c1, hB_c2, hB_c3⟩ := cel4 hB
  have hB_f := hB.frozen
  clear h
  go_enter Tryz.func20, Tryz.ntmps20
  go_wp2_with fail
  refine (va_there .nilIface _ hB_c0).mono ?_
  rintro e w1 ⟨rfl, rfl⟩
  go_wp2_with fail
  go_ret
  exact ⟨rfl, rfl⟩
theorem va_off (w : World) (h : VD w M Fj FL pv pj q A n c dj As ns cs dx J S X odd off) : Calls Tryz.prog 21 #[.pointer (some ⟨pv, 0, none⟩)] w fun e w' => e = .returned (.bool off) ∧ w = w' := by
  have hB := h.blk
  unfold vauC at hB
  obtain ⟨hB_c0, hB_c1, hB_c2, hB_c3⟩ := cel4 hB
  have hB_f := hB.frozen
  clear h
  go_enter Tryz.func21, Tryz.ntmps21
  go_wp2_with fail
  refine (va_there .nilIface _ hB_c0).mono ?_
  rintro e w1 ⟨rfl, rfl⟩
  go_wp2_with fail
  go_ret
  exact ⟨rfl, rfl⟩
theorem va_check (g : Int) (w : World) (hc : w.cell? ⟨pv, 0, none⟩ = some (.pointer (some ⟨pj, 0, none⟩))) : Calls Tryz.prog 48 #[.pointer (some ⟨pv, 0, none⟩), .int .i64 g] w fun e w' => e = .returned (.int .u32 (if 1 ≤ g ∧ g ≤ 4 then 0 else 101253168)) ∧ w = w' := by
  by_cases h1 : g < 1
  · rw [if_neg (by omega)]
    go_enter Tryz.func48, Tryz.ntmps48
    go_wp2_with fail
    refine (va_there .nilIface _ hc).mono ?_
    rintro e w1 ⟨rfl, rfl⟩
    go_wp2_with fail
    go_ret
    exact ⟨rfl, rfl⟩
  · by_cases h2 : 4 < g
    · rw [if_neg (by omega)]
      go_enter Tryz.func48, Tryz.ntmps48
      go_wp2_with fail
      refine (va_there .nilIface _ hc).mono ?_
      rintro e w1 ⟨rfl, rfl⟩
      go_wp2_with fail
      go_ret
      exact ⟨rfl, rfl⟩
    · rw [if_pos (by omega)]
      go_enter Tryz.func48, Tryz.ntmps48
      go_wp2_with fail
      refine (va_there .nilIface _ hc).mono ?_
      rintro e w1 ⟨rfl, rfl⟩
      go_wp2_with fail
      go_ret
      exact ⟨rfl, rfl⟩
theorem va_values (w : World) (h : VD w M Fj FL pv pj q A n c dj As ns cs dx J S X odd off) : Calls Tryz.prog 17 #[.pointer (some ⟨pv, 0, none⟩)] w (fun e w' => ∃ A' n' c' ds, e = .returned (.slice A' n' c') ∧ OwnV w' w.heap.size A' n' c' (dropL X 0) ds ∧ Below w.heap.size w w') := by
  have hB := h.blk
  unfold vauC at hB
  obtain ⟨hB_c0, hB_c1, hB_c2, hB_c3⟩ := cel4 hB
  have hB_f := hB.frozen
  have HD := hide (snap_drop As ns cs X 0 w h.row.hn h.row.own.le (by have := h.sz; omega) h.row.slV (fun v hv => by have := h.fit v hv; omega))
  clear h
  go_enter Tryz.func17, Tryz.ntmps17
  go_wp2_with fail
  refine (va_there .nilIface _ hB_c0).mono ?_
  rintro e w1 ⟨rfl, rfl⟩
  go_wp2_with fail
  refine HD.out.mono ?_
  rintro e w1 ⟨A', n', c', ds, rfl, hO, hb⟩
  go_wp2_with fail
  go_ret
  exact ⟨A', n', c', ds, rfl, hO, hb⟩
end
end
end Go.Proofs.YtehabbnohoomjaaGreatDoor
