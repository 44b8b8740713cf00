/- Law 19: what is stored is right, and comes back. No walk. -/
import Derived.Test.YtehabbnohoomjaaGreatDoorC43
import Derived.Test.YtehabbnohoomjaaGreatDoorC42
import Derived.Test.YtehabbnohoomjaaGreatDoorC44
import Derived.Test.YtehabbnohoomjaaGreatDoorC41
namespace Go.Proofs.YtehabbnohoomjaaGreatDoor
section
set_option linter.unusedVariables false
set_option linter.unusedSimpArgs false
set_option linter.unnecessarySimpa false
open Go.RowKit
set_option maxRecDepth 20000
set_option maxHeartbeats 2000000

/-- a value of an entry that is stored -/
def PlP (L : List Ent) (v : SV) : Prop := ∃ (k : Nat) (E : Ent), L[k]? = some E ∧ E.st = true ∧ valC E v.data = 0 ∧ v.ix = E.ix ∧ v.sub = E.sub
def GoodX (L : List Ent) (X : List SV) : Prop := SortV X ∧ ∀ v ∈ X, PlP L v
theorem good_nil (L : List Ent) : GoodX L [] := ⟨List.Pairwise.nil, fun v h => by cases h⟩
theorem once_sort {X : List SV} (h : SortV X) : OnceV X := by
  refine List.Pairwise.imp ?_ h
  intro u v huv hp
  rw [ah_iff] at huv
  obtain ⟨h1, h2⟩ := hp
  omega
theorem sort_ofV {L : List Ent} (hs : SortedE L) : ∀ (V : List (List UInt8)) (g : Int), SortV (ofV L V g) := by
  induction L with
  | nil => intro V g; cases V <;> exact List.Pairwise.nil
  | cons E L ih =>
    intro V g
    cases V with
    | nil => exact List.Pairwise.nil
    | cons v V =>
      obtain ⟨h1, h2⟩ := List.pairwise_cons.1 hs
      rw [ofV]
      split
      · refine List.pairwise_cons.2 ⟨fun u hu => ?_, ih h2 V g⟩
        obtain ⟨k, D, x, hD, _, _, rfl⟩ := ofV_mem hu
        have h3 := h1 D (List.mem_of_getElem? hD)
        have h4 : beforeB E.ix E.sub D.ix D.sub = true := h3
        rw [bef_iff] at h4
        rw [ah_iff]
        exact h4
      · exact ih h2 V g
theorem good_ofV {L : List Ent} (hs : SortedE L) {V : List (List UInt8)} (hv : ValsP L V) (g : Int) : GoodX L (ofV L V g) :=
  ⟨sort_ofV hs V g, fun v h => by
    obtain ⟨k, E, u, h1, h2, h3, h4, rfl⟩ := of_P hv g v h
    exact ⟨k, E, h1, h3, h4, rfl, rfl⟩⟩
theorem good_drop {L : List Ent} {X : List SV} (h : GoodX L X) (g : Int) : GoodX L (dropL X g) :=
  ⟨h.1.filter _, fun v hv => h.2 v (List.mem_filter.1 hv).1⟩
theorem good_join {L : List Ent} {X Y : List SV} (h : GoodX L X) (k : GoodX L Y) : GoodX L (joinV X Y) := by
  obtain ⟨h1, h2⟩ := join_spec (once_sort h.1) (once_sort k.1)
  exact ⟨h1, fun v hv => ((h2 v).1 hv).elim (fun hv => k.2 v hv) (fun hv => h.2 v hv.1)⟩
theorem join_none {X : List SV} (h : SortV X) : joinV [] X = X := by
  obtain ⟨h1, h2⟩ := join_spec (a := []) List.Pairwise.nil (once_sort h)
  refine sort_uniq h1 h (fun u => ?_)
  rw [h2]
  simp
theorem good_check {L : List Ent} (hs : SortedE L) {X : List SV} (h : ∀ v ∈ X, PlP L v) : checkL L X = 0 := by
  induction X with
  | nil => rfl
  | cons v X ih =>
    rw [checkL]
    obtain ⟨k, E, h1, h3, h4, h5, h6⟩ := h v (by simp)
    have hc : chkS L v = 0 := by
      have hf := find_self hs h1
      have hl := (place_one hs h1 ⟨rfl, rfl⟩).1
      unfold chkS
      rw [h5, h6, hl, entK_at h1, h3, h4, show hasL L E.ix E.sub = true by unfold hasL; rw [hf]; simp]
      rfl
    rw [hc]
    exact ih (fun v hv => h v (by simp [hv]))
theorem right_place {E : Ent} (h : rightE E = 0) : thereB E.ix E.sub = true := by
  unfold rightE at h
  split at h
  · cases h
  · rename_i hp
    have hp' : placeB E.ix E.sub = true := by simpa using hp
    unfold placeB at hp'
    unfold thereB
    simpa [and_assoc] using hp'
theorem good_chk {L : List Ent} (hr : ∀ E ∈ L, rightE E = 0) {X : List SV} (h : GoodX L X) : ∀ j, j < X.length → chkV X j = 0 := by
  intro j hj
  have hv : X[j]? = some (X[j]) := List.getElem?_eq_getElem hj
  have ht : thereB (X[j]).ix (X[j]).sub = true := by
    obtain ⟨k, E, h1, _, _, h5, h6⟩ := h.2 (X[j]) (List.getElem_mem hj)
    rw [h5, h6]
    exact right_place (hr E (List.mem_of_getElem? h1))
  unfold chkV
  rw [List.getD_eq_getElem?_getD, hv]
  simp only [Option.getD_some]
  rw [if_neg (by rw [ht]; simp)]
  rw [if_neg]
  rintro ⟨h0, ha⟩
  have hu : X[j - 1]? = some (X[j - 1]'(by omega)) := List.getElem?_eq_getElem (by omega)
  rw [List.getD_eq_getElem?_getD, hu] at ha
  simp only [Option.getD_some] at ha
  have := List.pairwise_iff_getElem.1 h.1 (j - 1) j (by omega) hj (by omega)
  unfold ahV at this
  rw [this] at ha
  cases ha
theorem good_built {L : List Ent} (hr : ∀ E ∈ L, rightE E = 0) {X : List SV} (h : GoodX L X) {b : List UInt8} {er : Int} (hb : BuildR X b er) : (er = 0 ∨ er = 3) ∧ b.length ≤ 960 := by
  rcases hb with ⟨h1, _, k, hk, h2, _⟩ | ⟨_, ⟨_, rfl, rfl⟩ | ⟨h1, rfl, rfl⟩⟩
  · exact absurd ((good_chk hr h k hk).symm.trans h2).symm h1
  · exact ⟨.inr rfl, by simp⟩
  · exact ⟨.inl rfl, h1⟩
theorem recX_new {L : List Ent} (hs : SortedE L) {X : List SV} (h : GoodX L X) {J : JS} {b : List UInt8} (hb : BuildR X b 0) {num : Nat} (hh : J.has = true) (hr : recJ J = (1, num, b)) : recX L J = (X, false) := by
  unfold recX
  rw [hr, if_pos ⟨hh, rfl⟩]
  simp only [(build_parse hb).1, good_check hs h.2]
  rw [if_neg (by simp)]
theorem recX_two {L : List Ent} {J : JS} {b : List UInt8} {num : Nat} (hr : recJ J = (2, num, b)) : recX L J = ([], false) := by
  unfold recX
  rw [hr, if_neg (by simp)]
theorem recX_old {L : List Ent} {J J' : JS} (h : recJ J' = recJ J) (hh : J'.has = J.has) : recX L J' = recX L J := by
  unfold recX
  rw [h, hh]
/-- what a keep leaves that may be cut -/
def KeptP (L : List Ent) (l : List SV) (S : FS) (k : Nat) (R : JS × FS × Int) : Prop :=
  (R.2.2 = 3 ∧ R.1 = openJ S ∧ R.2.1 = S ∧ ∃ b, BuildR l b 3) ∨
  (Fresh R.2.1 (k + 1) ∧ R.2.1.most = S.most ∧ R.2.1.ops ≤ S.ops + 1000 ∧ (S.ahead < 0 → R.2.2 = 0 ∧ R.2.1.ahead = S.ahead) ∧
    ((R.2.2 = 0 ∧ R.1 = openJ R.2.1 ∧ R.2.1.off = false ∧ recX L (openJ R.2.1) = (l, false)) ∨ (R.2.2 = 7 ∧ R.2.1.off = true ∧ (recX L (openJ R.2.1) = (l, false) ∨ recX L (openJ R.2.1) = recX L (openJ S)))))
theorem kept_of {L : List Ent} (hs : SortedE L) (hr : ∀ E ∈ L, rightE E = 0) {l : List SV} (hg : GoodX L l) {S : FS} {k : Nat} {kd : Int} {R : JS × FS × Int} (hf : Fresh S k) (hoff : S.off = false) (hk : ((k + 1 : Nat) : Int) < S.most) (hk2 : k + 1 ≤ 1000000) (hkd : kd = 1 ∨ (kd = 2 ∧ l = [])) (h : WrP (openJ S) S kd l R) :
    KeptP L l S k R := by
  obtain ⟨b, er, hB, hc⟩ := h
  obtain ⟨h03, hd⟩ := good_built hr hg hB
  rcases hc with ⟨h0, rfl⟩ | ⟨rfl, rfl⟩
  · rcases h03 with h | h
    · exact absurd h h0
    · exact .inl ⟨h, rfl, rfl, b, by rw [← h]; exact hB⟩
  · right
    have hrr : rightR kd (numJ (openJ S) + 1) b.length = 0 := by
      unfold rightR
      rcases hkd with rfl | ⟨rfl, hz⟩
      · rw [if_neg (by omega), if_neg (by omega), if_neg (by decide), if_neg (by omega)]
      · subst hz
        rw [if_neg (by omega), if_pos ⟨rfl, by rw [(nil_built hB).2.2]; rfl⟩]
    have hnew : ∀ (J : JS) (num : Nat), J.has = true → recJ J = (kd, num, b) → recX L J = (l, false) := by
      intro J num h1 h2
      rcases hkd with rfl | ⟨rfl, rfl⟩
      · exact recX_new hs hg hB h1 h2
      · exact recX_two h2
    obtain ⟨⟨J1, S1, e⟩, hap⟩ : ∃ r, r = appJ (openJ S) S kd b := ⟨_, rfl⟩
    obtain ⟨i, y, er, hst⟩ := fresh_app hf hoff hrr hap.symm
    have hBl := (build_parse_rec [] [] b kd (numJ (openJ S) + 1) hrr (by have := hf.num; have := hf.small; unfold U32; omega)).2
    have hops := appJ_ops (openJ S) S kd b
    rw [← hap, hBl] at hops
    have hrec := step_rec hst
    have hnew' : newL (looksF S1) = (i, true) → (openJ S1).has = true := fun h => by unfold openJ; rw [h]
    rw [← hap]
    refine ⟨fresh_step hf hst hk hk2, hst.kept.most, by simp only [] at hops ⊢; omega, ?_, ?_⟩
    · intro ha
      rcases hst.ends with ⟨he, h2, h3, h4, h5, h6⟩ | ⟨_, h, _⟩
      · exact ⟨he, h6 ha⟩
      · omega
    · rcases hst.ends with ⟨he, h2, _⟩ | ⟨he, _, h2, _⟩
      · left
        rcases hrec with ⟨h3, h4⟩ | ⟨h3, _⟩
        · subst he
          exact ⟨rfl, step_open hst, h2, hnew _ _ (hnew' h3) (by rw [recJ_recS, h4])⟩
        · exact absurd he h3
      · right
        refine ⟨he, h2, ?_⟩
        rcases hrec with ⟨h3, h4⟩ | ⟨_, h3, h4, _⟩
        · exact .inl (hnew _ _ (hnew' h3) (by rw [recJ_recS, h4]))
        · exact .inr (recX_old (by rw [recJ_recS, recJ_recS, h4]) (by unfold openJ; rw [h3]))
/-- what was stored of all groups comes back -/
theorem load_back {L : List Ent} (hs : SortedE L) (hr : ∀ E ∈ L, rightE E = 0) {V : List (List UInt8)} (hV : V.length = L.length) (hv : ValsP L V) :
    checkL L (ofV L V 1) = 0 ∧ ∀ (k : Nat) (E : Ent), L[k]? = some E → (applyV L (L.map Ent.df) (ofV L V 1))[k]? = (if E.st = true then V[k]? else some E.df) := by
  obtain ⟨h1, h2, h3, h4⟩ := poke_carry (V2 := L.map Ent.df) hs hV (by simp) hv
  refine ⟨h1, fun k E hE => ?_⟩
  rw [h2]
  by_cases hst : E.st = true
  · rw [if_pos hst]
    have hk : k < V.length := by rw [hV]; exact (List.getElem?_eq_some_iff.1 hE).1
    rw [List.getElem?_eq_getElem hk]
    exact poke_near hs (of_P hv 1) (by simp) hE (List.getElem?_eq_getElem hk) (.inr (mem_ofV hE (List.getElem?_eq_getElem hk) hst (inE_one _)))
  · rw [if_neg hst, h4 k E hE (by simpa using hst), List.getElem?_map, hE]
    rfl
theorem dropL_one (X : List SV) : dropL X 1 = [] := by
  unfold dropL
  rw [List.filter_eq_nil_iff]
  intro v hv
  simp [inB]
theorem size_le9 (t : Int) : tySize t ≤ 8 := by unfold tySize; (repeat' split) <;> omega
theorem val_len9 {E : Ent} {b : List UInt8} (h : valC E b = 0) : b.length ≤ 256 := by
  unfold valC at h
  by_cases hb : 0 < tyBits E.ty
  · rw [value_num hb] at h
    unfold NumV at h
    have h8 := size_le9 E.ty
    by_cases h1 : (b.length : Int) < tySize E.ty
    · omega
    · by_cases h2 : tySize E.ty < (b.length : Int)
      · exfalso
        have hd : decE E.ty b = 3 := by unfold decE; rw [if_neg (by omega), if_neg h1, if_pos h2]
        rw [hd] at h
        simp at h
      · omega
  · rw [value_other hb] at h
    by_cases hc : checkE E.ty E.mx b = 0
    · unfold checkE at hc
      split at hc
      · omega
      · split at hc
        · omega
        · omega
    · rw [if_neg hc] at h
      exfalso
      revert h
      (repeat' split) <;> omega
theorem vals_le9 {L : List Ent} {V : List (List UInt8)} (h : ValsP L V) (hl : V.length = L.length) : ∀ v ∈ V, v.length ≤ 256 := by
  intro v hv
  obtain ⟨j, hj, rfl⟩ := List.getElem_of_mem hv
  exact val_len9 (h j _ _ (List.getElem?_eq_getElem (by omega)) (List.getElem?_eq_getElem hj))
theorem newF_recX (L : List Ent) : recX L (openJ (newF 3 50)) = ([], false) := by
  have hnew : (openJ (newF 3 50)).has = false := by
    show (newL (looksF (newF 3 50))).2 = false
    rw [newF_new]
  unfold recX
  rw [if_neg (by rw [hnew]; simp)]
end
end Go.Proofs.YtehabbnohoomjaaGreatDoor
namespace Go.Proofs.YtehabbnohoomjaaGreatDoor
section
set_option linter.unusedVariables false
set_option linter.unusedSimpArgs false
set_option linter.unnecessarySimpa false
open Go.RowKit
set_option maxRecDepth 100000
set_option maxHeartbeats 8000000

theorem known_19 (a : Nat → Addr) (M : Nat) (w : World) (hG : GV w a M) (hM : M ≤ w.heap.size) : Calls Tryz.prog 9 #[] w fun e w' => e = .returned (.bool true) ∧ Below w.heap.size w w' := by
  obtain ⟨r1, r2, r3, r4, r5, r6, r7, r8⟩ := vE_all
  obtain ⟨s1, s2, s3, s4, s5, s6⟩ := vX_all
  have R1 := hide r1
  have R2 := hide r2
  have R3 := hide r3
  have R4 := hide r4
  have R5 := hide r5
  have R6 := hide r6
  have R7 := hide r7
  have R8 := hide r8
  have S1 := hide s1
  have S2 := hide s2
  have S3 := hide s3
  have S4 := hide s4
  have S5 := hide s5
  have S6 := hide s6
  have HG := hide hG
  have HM := hide hM
  clear r1 r2 r3 r4 r5 r6 r7 r8 s1 s2 s3 s4 s5 s6 hG hM
  have q := blk_two w 5 55 #[.int .u8 3] (entV vE (some ⟨w.heap.size, 0, none⟩) 1 1)
  have hbw := below_alloc (below_alloc (Below.refl w.heap.size w) (.cells #[.int .u8 3] 5)) (.cells (entV vE (some ⟨w.heap.size, 0, none⟩) 1 1) 55)
  have HSL := hide (slE_one (E := vE) q.2 (Nat.le_refl _) q.1.sl)
  have HBW := hide hbw
  clear q hbw
  go_enter Tryz.func9, Tryz.ntmps9
  go_wp2_with fail
  refine (dict_new _ 1 1 [vE] _ rfl HSL.out (by intro E hE; simp at hE; subst hE; exact ⟨by decide, by decide⟩)).mono ?_
  rintro e w1 ⟨v, er, at_, rfl, h1, h2, h3, hb1⟩
  obtain ⟨rfl, rfl⟩ := new_one h1 vE_new
  obtain ⟨p, gl, n, cl, Av, cv, ds, es, rfl, hn, hD⟩ := h3 rfl
  have hn1 : n = 1 := hn
  subst hn1
  have z0 := HBW.out.size
  have z1 := hb1.size
  have HD1 := hide (hD.mono (G := fun g => w.heap.size ≤ g ∧ g < w1.heap.size) (fun g hlt hg => ⟨by omega, hlt⟩))
  have HB1 := hide (below_step hb1 HBW.out)
  have Z1 := hide (Nat.le_trans z0 z1)
  clear h1 h2 h3 hD hb1 hn z0 z1 HSL HBW
  go_wp2_with fail
  have HFN := fl_New 3 9 w1 (by decide) (by decide) (by decide) (by decide)
  refine HFN.mono ?_
  clear HFN
  rintro e w2 ⟨qf, rfl, hF2, hq2, hb2⟩
  have HF2 := hide (show FD w2 qf (newF 3 9) from hF2)
  have HQ2 := hide (show ∀ g, qf.F g → w1.heap.size ≤ g ∧ g < w2.heap.size from fun g hg => ⟨hq2 g hg, hF2.lt g hg⟩)
  have HB2 := hide (below_step hb2 HB1.out)
  have HD2 := hide (HD1.out.below hb2)
  have Z2 := hide hb2.size
  clear hF2 hq2 hb2
  go_wp2_with fail
  have hfr := newF_fresh 3 9 (by decide) (by decide)
  have HFR := hide hfr
  have hnew : (openJ (newF 3 9)).has = false := by
    show (newL (looksF (newF 3 9))).2 = false
    rw [newF_new]
  obtain ⟨S0, hS0⟩ : ∃ S, S = newF 3 9 := ⟨_, rfl⟩
  have HS0 : Hid (S0.off = false ∧ S0.ahead < 0 ∧ S0.most = 9 ∧ S0.ops = 0) := hide (by rw [hS0]; exact ⟨rfl, by decide, rfl, rfl⟩)
  rw [← hS0] at HF2 HFR hnew
  have HOP := va_open_new M qf S0 ⟨p, 0, none⟩ w2 HF2.out HS0.out.1 HFR.out.three hnew (Nat.le_trans HM.out HB2.out.size) (fun g hg => ⟨(HQ2.out g hg).2, by have := (HQ2.out g hg).1; have := HM.out; have := HB1.out.size; omega⟩)
  refine HOP.mono ?_
  clear HOP hfr hS0 hnew
  rintro e w3 ⟨pv, pj, A, nj, cj, dj, rfl, hV3, hpv, hb3⟩
  have HV3 := hide hV3
  have HPV := hide (And.intro hpv hV3.blk.lt)
  have HB3 := hide (below_step hb3 HB2.out)
  have HD3 := hide (HD2.out.below hb3)
  have Z3 := hide hb3.size
  clear hV3 hpv hb3
  go_wp2_with fail
  have b1 := blk_one w3 5 #[.int .u8 5]
  have ha3 := below_alloc (Below.refl w3.heap.size w3) (.cells #[.int .u8 5] 5)
  obtain ⟨wa, hwa⟩ : ∃ W, W = w3.alloc (.cells #[.int .u8 5] 5) := ⟨_, rfl⟩
  rw [← hwa] at b1 ha3 ⊢
  have HDa := hide (HD3.out.below ha3)
  have HVa := hide (HV3.out.below ha3)
  have HBa := hide (below_step ha3 HB3.out)
  have Za := hide ha3.size
  have Bl := hide b1
  clear ha3 hwa b1
  refine (dict_set 24576 0 _ 1 1 [5] _ HDa.out vE_sorted (by decide) rfl (by decide) (by decide) Bl.out.sl).mono ?_
  rintro e w4 ⟨V4, es4, rfl, hV4, hD4, ho4⟩
  rw [R1.out]
  have hV4' : V4 = [[5]] := hV4.trans R2.out
  subst hV4'
  have HD4 := hide (hD4.mono (G := fun g => (w.heap.size ≤ g ∧ g < w1.heap.size) ∨ (wa.heap.size ≤ g ∧ g < w4.heap.size)) (fun g hlt hg => hg.imp id (fun h => ⟨h, hlt⟩)))
  have HV4 := hide (HVa.out.only ho4 (fun g hg hx => by
    have q1 := hg.2
    have q2 := Z2.out
    rcases hx with h | h | h | h
    · have := h.1; omega
    · have := (HQ2.out g h).1; omega
    · exact h
    · have := HPV.out.1; omega))
  have HB4 := hide (below_only ho4 HBa.out (fun i h => h.1))
  have Z4 := hide ho4.size
  clear hV4 hD4 ho4 HVa HDa HV3 HD3 HD2 HD1
  go_wp2_with fail
  have hst := va_store a 1 w4 HV4.out (HG.out.below HB4.out) (Nat.le_trans HM.out HB4.out.size) (.inr ⟨rfl, HS0.out.1⟩) (by rw [HS0.out.2.2.2]; decide) ⟨by decide, by decide⟩ HD4.out (by decide) (by intro v hv; simp at hv; subst hv; decide)
  refine hst.mono ?_
  clear hst
  rintro e w5 ⟨R, dj5, Fj5, FL5, As5, ns5, cs5, dx5, hW5, rfl, hV5, ho5, hf5⟩
  rw [S2.out, S1.out, S3.out] at hW5 hV5
  obtain ⟨T, rfl, hfrT, hoffT, haT, hmT, hopT⟩ := wr_step HFR.out HS0.out.1 HS0.out.2.1 (by rw [HS0.out.2.2.1]; decide) (by decide) (fun b er hb => vX_built hb) (.inl rfl) hW5
  have hV5' : VD w5 M Fj5 FL5 pv pj qf A nj cj dj5 As5 ns5 cs5 dx5 (openJ T) T [vX] false false := by
    have h := hV5
    rw [if_pos rfl, if_pos rfl] at h
    exact h
  have HV5 := hide hV5'
  have HT := hide (show Fresh T 1 ∧ T.off = false ∧ T.ahead < 0 ∧ T.most = 9 ∧ T.ops ≤ 1000 from ⟨hfrT, hoffT, by rw [haT]; exact HS0.out.2.1, by rw [hmT]; exact HS0.out.2.2.1, by have := HS0.out.2.2.2; omega⟩)
  rw [show codeV ((openJ T, T, (0 : Int)) : JS × FS × Int).2.2 = 0 from rfl, show ((0 : Nat) : Int) = 0 from rfl]
  have HF5 := hide (show ∀ g, Fj5 g ∨ FL5 g → ((w2.heap.size ≤ g ∧ g < w3.heap.size ∧ g ≠ pv) ∨ (w4.heap.size ≤ g ∧ g < w5.heap.size)) from fun g hg => (hf5 g hg).elim .inl (fun h => h.elim False.elim .inr))
  have HD5 := hide (HD4.out.keep (fun g hg hlt => ho5.block g hlt (fun hx => by
    have q2 := Z2.out
    have q3 := Z3.out
    have qa := Za.out
    have qp := HPV.out
    rcases hg with h | h <;> rcases hx with k | k | k
    · have := k.1; omega
    · have := (HQ2.out g k).1; omega
    · omega
    · have := k.2.1; omega
    · have := (HQ2.out g k).2; omega
    · omega)))
  have HB5 := hide (below_only ho5 HB4.out (fun i h => by
    have q1 := Z1.out
    have q2 := Z2.out
    rcases h with k | k | k
    · have := k.1; omega
    · have := (HQ2.out i k).1; omega
    · have := HPV.out.1; omega))
  have Z5 := hide ho5.size
  clear hW5 hV5 hV5' ho5 hf5 hfrT hoffT haT hmT hopT HV4 HD4 HFR HF2 HS0
  go_wp2_with fail
  have b1 := blk_one w5 5 #[.int .u8 7]
  have ha5 := below_alloc (Below.refl w5.heap.size w5) (.cells #[.int .u8 7] 5)
  obtain ⟨wb, hwb⟩ : ∃ W, W = w5.alloc (.cells #[.int .u8 7] 5) := ⟨_, rfl⟩
  rw [← hwb] at b1 ha5 ⊢
  have HDb := hide (HD5.out.below ha5)
  have HVb := hide (HV5.out.below ha5)
  have HBb := hide (below_step ha5 HB5.out)
  have Zb := hide ha5.size
  have Bm := hide b1
  clear ha5 hwb b1
  refine (dict_set 24576 0 _ 1 1 [7] _ HDb.out vE_sorted (by decide) rfl (by decide) (by decide) Bm.out.sl).mono ?_
  rintro e w6 ⟨V6, es6, rfl, hV6, hD6, ho6⟩
  rw [R3.out]
  have hV6' : V6 = [[7]] := hV6.trans R4.out
  subst hV6'
  have HDJ : Hid (∀ g, ((w.heap.size ≤ g ∧ g < w1.heap.size) ∨ (wa.heap.size ≤ g ∧ g < w4.heap.size)) → ¬ (Fj5 g ∨ qf.F g ∨ FL5 g ∨ g = pv)) := hide (by
    intro g hg hx
    have q2 := Z2.out
    have q3 := Z3.out
    have qa := Za.out
    have q4 := Z4.out
    have qp := HPV.out
    rcases hx with k | k | k | k
    · have h1 := HF5.out g (.inl k); omega
    · have h1 := HQ2.out g k; omega
    · have h1 := HF5.out g (.inr k); omega
    · omega)
  have HD6 := hide (hD6.mono (G := fun g => ((w.heap.size ≤ g ∧ g < w1.heap.size) ∨ (wa.heap.size ≤ g ∧ g < w4.heap.size)) ∨ (wb.heap.size ≤ g ∧ g < w6.heap.size)) (fun g hlt hg => hg.imp id (fun h => ⟨h, hlt⟩)))
  have HV6 := hide (HVb.out.only ho6 HDJ.out)
  have HB6 := hide (below_only ho6 HBb.out (fun i h => by
    have q1 := Z1.out
    have q2 := Z2.out
    have q3 := Z3.out
    have qa := Za.out
    rcases h with h | h
    · exact h.1
    · omega))
  have Z6 := hide ho6.size
  clear hV6 hD6 ho6 HVb HDb HV5 HD5
  go_wp2_with fail
  have HDK : Hid (∀ g, (((w.heap.size ≤ g ∧ g < w1.heap.size) ∨ (wa.heap.size ≤ g ∧ g < w4.heap.size)) ∨ (wb.heap.size ≤ g ∧ g < w6.heap.size)) → g < w6.heap.size ∧ ¬ (Fj5 g ∨ qf.F g ∨ FL5 g ∨ g = pv)) := hide (by
    intro g hg
    have q2 := Z2.out
    have q3 := Z3.out
    have qa := Za.out
    have q4 := Z4.out
    have q5 := Z5.out
    have qb := Zb.out
    have q6 := Z6.out
    have qp := HPV.out
    rcases hg with hg | hg
    · exact ⟨by omega, HDJ.out g hg⟩
    · refine ⟨hg.2, fun hx => ?_⟩
      rcases hx with k | k | k | k
      · have h1 := HF5.out g (.inl k); omega
      · have h1 := HQ2.out g k; omega
      · have h1 := HF5.out g (.inr k); omega
      · omega)
  have hld := va_load w6 HV6.out HD6.out vE_sorted (by decide) (fun g hg => ⟨(HDK.out g hg).1, fun hx => (HDK.out g hg).2 (hx.elim (fun h => .inr (.inr (.inl h))) (fun h => .inr (.inr (.inr h))))⟩)
  refine hld.mono ?_
  clear hld
  rintro e w7 ⟨V7, es7, rfl, hV7, hD7, ho7⟩
  rw [R7.out]
  have hV7' : V7 = [[5]] := hV7.trans R8.out
  subst hV7'
  have HD7 := hide hD7
  have HV7 := hide (HV6.out.only ho7 (fun g hg => (HDK.out g hg).2))
  have HB7 := hide (below_only ho7 HB6.out (fun i h => by
    have q1 := Z1.out
    have q2 := Z2.out
    have q3 := Z3.out
    have qa := Za.out
    have q4 := Z4.out
    have q5 := Z5.out
    have qb := Zb.out
    rcases h with (h | h) | h
    · exact h.1
    · omega
    · omega))
  have Z7 := hide ho7.size
  clear hV7 hD7 ho7 HV6 HD6
  go_wp2_with fail
  refine (dict_get 24576 0 _ HD7.out vE_sorted (by decide)).mono ?_
  rintro e w8 ⟨A8, m8, c8, b8, rfl, hO8, hb8, hw8⟩
  rw [R5.out] at hb8 ⊢
  have hb8' : b8 = [5] := by rw [hb8]; exact R6.out
  subst hb8'
  have hm8 : m8 = 1 := hO8.hn
  subst hm8
  have HO8 := hide hO8
  have HV8 := hide (HV7.out.below hw8)
  have HB8 := hide (below_step hw8 HB7.out)
  have Z8 := hide hw8.size
  clear hb8 hO8 hw8 HV7 HD7
  go_wp2_with fail
  refine (va_values w8 HV8.out).mono ?_
  rintro e w9 ⟨A9, n9, c9, ds9, rfl, hO9, hw9⟩
  have hn9 : n9 = 1 := by rw [hO9.hn, S4.out]; rfl
  subst hn9
  have HO9 := hide (HO8.out.below hw9)
  have HV9 := hide (HV8.out.below hw9)
  have HB9 := hide (below_step hw9 HB8.out)
  have Z9 := hide hw9.size
  clear hO9 hw9 HV8 HO8
  go_wp2_with fail
  have hrs := va_restore a 3 w9 HV9.out (HG.out.below HB9.out) (Nat.le_trans HM.out HB9.out.size) (.inr ⟨rfl, HT.out.2.1⟩) (by have := HT.out.2.2.2.2; omega) ⟨by decide, by decide⟩
  rw [S5.out] at hrs
  refine hrs.mono ?_
  clear hrs
  rintro e w10 ⟨R, dj10, Fj10, FL10, As10, ns10, cs10, dx10, hW10, rfl, hV10, ho10, _⟩
  obtain ⟨U, rfl, _⟩ := wr_step HT.out.1 HT.out.2.1 HT.out.2.2.1 (by rw [HT.out.2.2.2.1]; decide) (by decide) (fun b er hb => ⟨(nil_built hb).1, (nil_built hb).2.1⟩) (.inr ⟨rfl, fun b er hb => (nil_built hb).2.2⟩) hW10
  have hV10' : VD w10 M Fj10 FL10 pv pj qf A nj cj dj10 As10 ns10 cs10 dx10 (openJ U) U [] false false := by
    have h := hV10
    rw [if_pos rfl, if_pos rfl] at h
    exact h
  have HV10 := hide hV10'
  rw [show codeV ((openJ U, U, (0 : Int)) : JS × FS × Int).2.2 = 0 from rfl, show ((0 : Nat) : Int) = 0 from rfl]
  have hO10 : OwnB w10 w7.heap.size A8 1 c8 [5] := ⟨HO9.out.hn, HO9.out.own.keep (fun g hg hlt _ => ho10.block g hlt (fun hx => by
    have q2 := Z2.out
    have q3 := Z3.out
    have qa := Za.out
    have q4 := Z4.out
    have q5 := Z5.out
    have qb := Zb.out
    have q6 := Z6.out
    have q7 := Z7.out
    have qp := HPV.out
    rcases hx with k | k | k
    · have h1 := HF5.out g (.inl k); omega
    · have h1 := HQ2.out g k; omega
    · omega))⟩
  have hst10 := str_b c8 hO10.hn hO10.sl
  have HB10 := hide (below_only ho10 HB9.out (fun i h => by
    have q1 := Z1.out
    have q2 := Z2.out
    have q3 := Z3.out
    have qa := Za.out
    have q4 := Z4.out
    rcases h with k | k | k
    · have h1 := HF5.out i (.inl k); omega
    · have h1 := HQ2.out i k; omega
    · have := HPV.out.1; omega))
  clear hW10 hV10 hV10' ho10 hO10 HV9 HO9
  go_wp2_with fail
  refine (va_values w10 HV10.out).mono ?_
  rintro e w11 ⟨A11, n11, c11, ds11, rfl, hO11, hw11⟩
  have hn11 : n11 = 0 := by rw [hO11.hn, S6.out]; rfl
  subst hn11
  have HV11 := hide (HV10.out.below hw11)
  have HB11 := hide (below_step hw11 HB10.out)
  clear hO11 hw11 HV10 hst10
  go_wp2_with fail
  refine (va_store_no 5 _ _ HV11.out (by decide)).mono ?_
  rintro e w12 ⟨rfl, rfl⟩
  go_wp2_with fail
  refine (va_odd _ HV11.out).mono ?_
  rintro e w12 ⟨rfl, rfl⟩
  go_wp2_with fail
  refine (va_off _ HV11.out).mono ?_
  rintro e w12 ⟨rfl, rfl⟩
  go_wp2_with fail
  go_ret
  exact ⟨rfl, HB11.out⟩
end
end Go.Proofs.YtehabbnohoomjaaGreatDoor
