/- Law 19, plain: what must come of fixed calls. -/
import Derived.Test.YtehabbnohoomjaaGreatDoorC41
import Derived.Test.YtehabbnohoomjaaGreatDoorC16
import Derived.Test.YtehabbnohoomjaaGreatDoorC37
import Derived.Test.YtehabbnohoomjaaGreatDoorC01
import Derived.Test.YtehabbnohoomjaaGreatDoorC31
import Derived.Test.YtehabbnohoomjaaGreatDoorC27
namespace Go.Proofs.YtehabbnohoomjaaGreatDoor
section
set_option linter.unusedVariables false
set_option linter.unusedSimpArgs false
set_option linter.unnecessarySimpa false
open Go.RowKit
set_option maxRecDepth 100000
set_option maxHeartbeats 8000000

def vE : Ent := ⟨24576, 0, ⟨#[103, 97, 105, 110]⟩, 5, 4, false, true, 0, 0, 9, [3]⟩
def vX : SV := ⟨24576, 0, [5]⟩
theorem vE_chk : chkE [vE] 0 = 0 := by decide +kernel
theorem vE_new : NewP [vE] 0 0 := .inr (.inr ⟨by decide, rfl, rfl, by intro j hj; obtain rfl : j = 0 := by simp at hj; omega
                                                                      exact vE_chk⟩)
theorem vE_sorted : SortedE [vE] := List.pairwise_singleton _ _
theorem vE_all : mayC [vE] 24576 0 [5] false = 0 ∧ putV [vE] [[3]] 24576 0 [5] false = [[5]] ∧ mayC [vE] 24576 0 [7] false = 0 ∧ putV [vE] [[5]] 24576 0 [7] false = [[7]] ∧ getC [vE] 24576 0 = 0 ∧ valK [[5]] (locK [vE] 24576 0) = [5] ∧ checkL [vE] [vX] = 0 ∧ applyV [vE] [[3]] [vX] = [[5]] := by decide +kernel
theorem vX_all : ofV [vE] [[5]] 1 = [vX] ∧ dropL [] 1 = [] ∧ joinV [] [vX] = [vX] ∧ dropL [vX] 0 = [vX] ∧ dropL [vX] 3 = [] ∧ dropL [] 0 = [] := ⟨by first | rfl | kernel_rfl, by first | rfl | kernel_rfl, by first | rfl | kernel_rfl, by first | rfl | kernel_rfl, by first | rfl | kernel_rfl, by first | rfl | kernel_rfl⟩
theorem vX_built {b : List UInt8} {er : Int} (h : BuildR [vX] b er) : er = 0 ∧ b.length ≤ 960 := by
  have h1 : ∀ j, j < [vX].length → chkV [vX] j = 0 := by
    intro j hj
    obtain rfl : j = 0 := by simp at hj; omega
    decide +kernel
  have h2 : BuildR [vX] ([vX].flatMap vbytes) 0 := .inr ⟨h1, .inr ⟨by decide +kernel, rfl, rfl⟩⟩
  obtain ⟨h3, h4⟩ := BuildR_det h h2
  exact ⟨h4, by rw [h3]; decide +kernel⟩
theorem nil_built {b : List UInt8} {er : Int} (h : BuildR [] b er) : er = 0 ∧ b.length ≤ 960 ∧ b = [] := by
  have h2 : BuildR [] [] 0 := .inr ⟨by intro j hj; simp at hj, .inr ⟨by simp, rfl, rfl⟩⟩
  obtain ⟨h3, h4⟩ := BuildR_det h h2
  exact ⟨h4, by rw [h3]; simp, h3⟩
/-- a write without a cut -/
theorem wr_step {S : FS} {k : Nat} {kd : Int} {l : List SV} {R : JS × FS × Int} (hf : Fresh S k) (hoff : S.off = false) (ha : S.ahead < 0) (hk : ((k + 1 : Nat) : Int) < S.most) (hk2 : k + 1 ≤ 1000000) (hb : ∀ b er, BuildR l b er → er = 0 ∧ b.length ≤ 960) (hkd : kd = 1 ∨ (kd = 2 ∧ ∀ b er, BuildR l b er → b = [])) (h : WrP (openJ S) S kd l R) :
    ∃ S', R = (openJ S', S', 0) ∧ Fresh S' (k + 1) ∧ S'.off = false ∧ S'.ahead = S.ahead ∧ S'.most = S.most ∧ S'.ops ≤ S.ops + 1000 := by
  obtain ⟨b, er, hB, hc⟩ := h
  obtain ⟨rfl, hd⟩ := hb b er hB
  rcases hc with ⟨h, _⟩ | ⟨_, rfl⟩
  · exact absurd rfl h
  have hr : rightR kd (numJ (openJ S) + 1) b.length = 0 := by
    unfold rightR
    rcases hkd with rfl | ⟨rfl, hz⟩
    · rw [if_neg (by omega), if_neg (by omega), if_neg (by decide), if_neg (by omega)]
    · rw [if_neg (by omega), if_pos ⟨rfl, by rw [hz b 0 hB]; rfl⟩]
  obtain ⟨⟨J1, S1, e⟩, hap⟩ : ∃ r, r = appJ (openJ S) S kd b := ⟨_, rfl⟩
  obtain ⟨i, y, er, hs⟩ := fresh_app hf hoff hr hap.symm
  rcases hs.ends with ⟨he, h2, h3, h4, h5, h6⟩ | ⟨_, h, _⟩
  · subst he
    have hJ1 := step_open hs
    refine ⟨S1, by rw [← hap, hJ1], fresh_step hf hs hk hk2, h2, h6 ha, hs.kept.most, ?_⟩
    rw [h5]
    cases er <;> simp <;> omega
  · omega
end
end Go.Proofs.YtehabbnohoomjaaGreatDoor
namespace Go.Proofs.YtehabbnohoomjaaGreatDoor
section
set_option linter.unusedVariables false
set_option linter.unusedSimpArgs false
set_option linter.unnecessarySimpa false
open Go.RowKit
set_option maxRecDepth 20000
set_option maxHeartbeats 8000000

structure SOp where
  kind : Int
  ix : Int
  sub : Int
  n : Int
  w : Nat
  b : List UInt8
def SlS (w : World) (A : Option Addr) (L : List SOp) : Prop := ∀ j o, L[j]? = some o → ∃ b off Aj cj, A = some ⟨b, off, none⟩ ∧ (w.cell? ⟨b, off + j * 6, none⟩ = some (.int .i64 o.kind) ∧ w.cell? ⟨b, off + j * 6 + 1, none⟩ = some (.int .i64 o.ix) ∧
  w.cell? ⟨b, off + j * 6 + 2, none⟩ = some (.int .i64 o.sub) ∧ w.cell? ⟨b, off + j * 6 + 3, none⟩ = some (.int .i64 o.n) ∧ w.cell? ⟨b, off + j * 6 + 4, none⟩ = some (.int .u32 (o.w : Nat)) ∧ w.cell? ⟨b, off + j * 6 + 5, none⟩ = some (.slice Aj o.b.length cj)) ∧ o.b.length ≤ cj ∧ Sl w Aj (o.b.map bv)
theorem SlS.below {w w' : World} {A : Option Addr} {L : List SOp} (h : SlS w A L) (hb : Below w.heap.size w w') : SlS w' A L := by
  intro j o ho
  obtain ⟨b, off, Aj, cj, hA, ⟨h0, h1, h2, h3, h4, h5⟩, h6, h7⟩ := h j o ho
  have k : ∀ p v, w.cell? p = some v → w'.cell? p = some v := fun p v hp => (hb.cell (lt_of_cell hp)).trans hp
  exact ⟨b, off, Aj, cj, hA, ⟨k _ _ h0, k _ _ h1, k _ _ h2, k _ _ h3, k _ _ h4, k _ _ h5⟩, h6, h7.below hb⟩
def lightS (o : SOp) : Bool := decide (o.b.length ≤ 1000)
def lightC (L : List Ent) (nf : Nat) (S : List SOp) : Bool := lightL L && decide (nf ≤ 9000) && (S.take 30).all lightS
theorem take_snocS {S : List SOp} {k : Nat} {o : SOp} (h : S[k]? = some o) : S.take (k + 1) = S.take k ++ [o] := by
  obtain ⟨hk, rfl⟩ := List.getElem?_eq_some_iff.1 h
  exact List.take_succ_eq_append_getElem hk
theorem vlight (A : Option Addr) (n c : Nat) (L : List Ent) (Af : Option Addr) (nf cf : Nat) (mo : Int) (As : Option Addr) (ns cs : Nat) (S : List SOp) (w : World) (hn : n = L.length) (hL : SlE w A L) (hs : ns = S.length) (hS : SlS w As S) :
    Calls Tryz.prog 7 #[.agg #[.slice A n c, .slice Af nf cf, .int .i64 mo, .slice As ns cs]] w fun e w' => e = .returned (.bool (lightC L nf S)) ∧ Below w.heap.size w w' := by
  have q0 := blk_one w 26 #[.slice A n c, .slice Af nf cf, .int .i64 mo, .slice As ns cs]
  have hb0 := below_alloc (Below.refl w.heap.size w) (.cells #[.slice A n c, .slice Af nf cf, .int .i64 mo, .slice As ns cs] 26)
  have HLG := hide (rlight A n c L _ hn (hL.below hb0))
  have HS := hide (hS.below hb0)
  have HN := hide hs
  have HB := hide hb0
  have HQ := hide q0
  obtain ⟨q0_c0, q0_c1, q0_c2, q0_c3⟩ := cel4 q0
  have q0_f := q0.frozen
  clear q0 hb0 hn hL hs hS
  cases hl : lightL L
  · have HR : Hid (lightC L nf S = false) := hide (by simp [lightC, hl])
    rw [hl] at HLG
    clear hl
    go_enter Tryz.func7, Tryz.ntmps7
    go_wp2_with fail
    refine HLG.out.mono ?_
    rintro e w1 ⟨rfl, rfl⟩
    go_wp2_with fail
    go_ret
    exact ⟨ret_bool HR.out.symm, HB.out⟩
  rw [hl] at HLG
  by_cases hf : 9000 < nf
  · have HR : Hid (lightC L nf S = false) := hide (by simp [lightC]; intro _ h; omega)
    clear hl
    go_enter Tryz.func7, Tryz.ntmps7
    go_wp2_with fail
    refine HLG.out.mono ?_
    rintro e w1 ⟨rfl, rfl⟩
    go_wp2_with fail
    go_ret
    exact ⟨ret_bool HR.out.symm, HB.out⟩
  have HLL := hide hl
  clear hl
  go_enter Tryz.func7, Tryz.ntmps7
  go_wp2_with fail
  refine HLG.out.mono ?_
  rintro e w1 ⟨rfl, rfl⟩
  go_wp2_with fail
  go_loopw [3] (fun i wr => ∃ k, k ≤ ns ∧ k ≤ 30 ∧ i = .int .i64 (k : Nat) ∧ Hid (∀ o ∈ S.take k, lightS o = true) ∧ wr = w.alloc (.cells #[.slice A n c, .slice Af nf cf, .int .i64 mo, .slice As ns cs] 26)) (fun i _ => 30 - (intOf i).toNat)
  case atStart => exact ⟨0, by omega, by omega, rfl, hide (by simp), rfl⟩
  case round =>
    obtain ⟨k, hk, hk2, rfl, HA, rfl⟩ := hrel
    by_cases hlt : k < ns
    · by_cases hlt2 : k < 30
      · obtain ⟨o, ho⟩ : ∃ o, S[k]? = some o := ⟨S[k]'(by rw [← HN.out]; exact hlt), List.getElem?_eq_getElem _⟩
        obtain ⟨b, off, Aj, cj, rfl, ⟨c0, c1, c2, c3, c4, c5⟩, hcj, hsj⟩ := HS.out k o ho
        obtain ⟨i1, i2, i3⟩ := idx_at hlt
        have HT := hide (take_snocS ho)
        have HM := hide (List.mem_of_getElem? ho)
        clear c0 c1 c2 c3 c4 hcj hsj
        obtain ⟨m, hm⟩ : ∃ m, m = o.b.length := ⟨_, rfl⟩
        rw [← hm] at c5
        have HMM := hide hm
        have HO := hide ho
        clear hm ho
        by_cases h1 : 1000 < m
        · have HR : Hid (lightC L nf S = false) := hide (by
            have : (S.take 30).all lightS = false := by
              rw [List.all_eq_false]
              refine ⟨o, ?_, by simp [lightS, ← HMM.out]; omega⟩
              have h9 : (S.take 30)[k]? = some o := by rw [List.getElem?_take]; rw [if_pos hlt2]; exact HO.out
              exact List.mem_of_getElem? h9
            simp [lightC, this])
          go_wp2_with fail
          go_ret
          exact ⟨ret_bool HR.out.symm, HB.out⟩
        · have HA2 : Hid (∀ u ∈ S.take (k + 1), lightS u = true) := hide (by
            rw [HT.out]
            intro u hu
            rcases List.mem_append.1 hu with h | h
            · exact HA.out u h
            · obtain rfl := List.mem_singleton.1 h
              simp [lightS, ← HMM.out]; omega)
          go_wp2_with fail
          go_roundw
          case rel => exact ⟨k + 1, by omega, by omega, by go_num, HA2, trivial⟩
          case measure => simp [intOf]; omega
      · obtain rfl : k = 30 := by omega
        have HR : Hid (lightC L nf S = true) := hide (by
          have : (S.take 30).all lightS = true := by rw [List.all_eq_true]; exact HA.out
          simp [lightC, this, HLL.out]; omega)
        go_wp2_with fail
        go_ret
        exact ⟨ret_bool HR.out.symm, HB.out⟩
    · have HR : Hid (lightC L nf S = true) := hide (by
        have : (S.take 30).all lightS = true := by
          rw [List.all_eq_true]
          intro u hu
          refine HA.out u ?_
          rw [List.take_of_length_le (by rw [← HN.out]; omega)]
          exact List.mem_of_mem_take hu
        simp [lightC, this, HLL.out]; omega)
      go_wp2_with fail
      go_ret
      exact ⟨ret_bool HR.out.symm, HB.out⟩
/-- a case's world: its dictionary, its flash -/
structure Beg (w : World) (lo m1 m2 pw pd gl n cl cv : Nat) (Av : Option Addr) (L : List Ent) (V : List (List UInt8)) (ds es : List (Option Addr × Nat)) (Fd : Nat → Prop) (q : FP) (S : FS) (pt pr : Nat) : Prop where
  blk : Blk w pw 44 #[.pointer (some ⟨pd, 0, none⟩), .pointer (some ⟨pt, 0, none⟩), .pointer (some ⟨q.p, 0, none⟩), .pointer (some ⟨pr, 0, none⟩), .pointer none, .pointer none]
  db : DB 102 w Fd pd (some ⟨gl, 0, none⟩) n cl Av cv L V ds es
  hn : n = L.length
  fd : FD w q S
  inD : ∀ g, Fd g → lo ≤ g ∧ g < w.heap.size ∧ ¬ q.F g ∧ g ≠ pw
  inQ : ∀ g, q.F g → lo ≤ g ∧ g < w.heap.size ∧ g ≠ pw
  lo_pw : lo ≤ pw
def BegR (L : List Ent) (w : World) (e : Ending) (w' : World) : Prop :=
  ∃ v ok, e = .returned (.tuple #[v, .bool ok]) ∧ (ok = false → v = .pointer none) ∧ (ok = true → SortedE L ∧ (∀ E ∈ L, rightE E = 0) ∧ (∃ at_, NewP L 0 at_) ∧
    ∃ pw pd gl n cl cv Av ds es Fd q pt pr, v = .pointer (some ⟨pw, 0, none⟩) ∧ (∃ m1 m2, Beg w' w.heap.size m1 m2 pw pd gl n cl cv Av L (L.map Ent.df) ds es Fd q (newF 3 50) pt pr)) ∧ Below w.heap.size w w'
theorem begin0 (A : Option Addr) (n c : Nat) (L : List Ent) (As : Option Addr) (ns cs : Nat) (w : World) (hn : n = L.length) (hL : SlE w A L) (hli : lightL L = true) :
    Calls Tryz.prog 10 #[.agg #[.slice A n c, .slice none 0 0, .int .i64 49, .slice As ns cs]] w (BegR L w) := by
  have q0 := blk_one w 26 #[.slice A n c, .slice none 0 0, .int .i64 49, .slice As ns cs]
  have hb0 := below_alloc (Below.refl w.heap.size w) (.cells #[.slice A n c, .slice none 0 0, .int .i64 49, .slice As ns cs] 26)
  have HFT := hide (light_fit hli)
  have HL0 := hide (hL.below hb0)
  have HN := hide hn
  have HB0 := hide hb0
  have HQ0 := hide q0
  obtain ⟨q0_c0, q0_c1, q0_c2, q0_c3⟩ := cel4 q0
  have q0_f := q0.frozen
  have F0 : ∀ W, Below w.heap.size w W → BegR L w (.returned (.tuple #[.pointer none, .bool false])) W := fun W h => ⟨_, false, rfl, fun _ => rfl, fun h => (by cases h), h⟩
  have HF0 := hide F0
  clear q0 hb0 hn hL F0 hli
  go_enter Tryz.func10, Tryz.ntmps10
  go_wp2_with fail
  refine (dict_new A n c L _ HN.out HL0.out HFT.out).mono ?_
  rintro e w1 ⟨v, er, at_, rfl, hnp, h2, h3, hb1⟩
  have HNP := hide hnp
  have H2 := hide h2
  have H3 := hide h3
  have HB1 := hide (below_step hb1 HB0.out)
  have HL1 := hide (HL0.out.below hb1)
  have HQ1 := hide (HQ0.out.below hb1 HQ0.out.lt)
  have q1 := HQ1.out
  have HZ1 := hide hb1.size
  clear q0_c0 q0_c1 q0_c2 q0_c3 q0_f
  obtain ⟨q1_c0, q1_c1, q1_c2, q1_c3⟩ := cel4 q1
  have q1_f := q1.frozen
  clear hnp h2 h3 hb1 q1
  go_wp2_with fail
  refine (rdic_new A n c L _ HN.out HL1.out HFT.out).mono ?_
  rintro e w2 ⟨pt, er', at', rfl, hnp', _, hb2⟩
  obtain ⟨rfl, rfl⟩ := new_one hnp' HNP.out
  have HB2 := hide (below_step hb2 HB1.out)
  have HB12 := hide hb2
  have HQ2 := hide (HQ1.out.below hb2 HQ1.out.lt)
  have q2 := HQ2.out
  have HZ2 := hide hb2.size
  clear q1_c0 q1_c1 q1_c2 q1_c3 q1_f
  obtain ⟨q2_c0, q2_c1, q2_c2, q2_c3⟩ := cel4 q2
  have q2_f := q2.frozen
  clear hnp' hb2 q2
  by_cases her : er' = 0
  · subst her
    have HS : Hid (SortedE L ∧ (∀ E ∈ L, rightE E = 0) ∧ ∃ at_, NewP L 0 at_) := hide ⟨new_sorted' HNP.out, by
      intro E hE
      obtain ⟨k, hk, rfl⟩ := List.getElem_of_mem hE
      rcases HNP.out with ⟨_, h, _⟩ | ⟨_, h, _⟩ | ⟨_, _, _, h⟩
      · omega
      · exact absurd rfl h
      · exact rightE_zero (List.getElem?_eq_getElem hk) (h k hk), _, HNP.out⟩
    obtain ⟨pd, gl, n', cl, Av, cv, ds, es, rfl, hn', hD⟩ := H3.out rfl
    have HD := hide ((hD.mono (G := fun g => (w.alloc (.cells #[.slice A n c, .slice none 0 0, .int .i64 49, .slice As ns cs] 26)).heap.size ≤ g ∧ g < w1.heap.size) (fun g h1 h2 => ⟨h2, h1⟩)).below HB12.out)
    have HN' := hide hn'
    clear hn' hD H2 H3 HNP
    go_wp2_with fail
    refine (count_any 49 50 _ (by decide) (by decide)).mono ?_
    rintro e w3 ⟨rfl, rfl⟩
    go_wp2_with fail
    refine (fl_OfM_no none 0 0 _ (.inl rfl) (by decide) 50 (by decide)).mono ?_
    rintro e w3 ⟨rfl, hb3⟩
    have HB3 := hide hb3
    have HQ3 := hide (HQ2.out.below hb3 HQ2.out.lt)
    have q3 := HQ3.out
    clear q2_c0 q2_c1 q2_c2 q2_c3 q2_f
    obtain ⟨q3_c0, q3_c1, q3_c2, q3_c3⟩ := cel4 q3
    have q3_f := q3.frozen
    clear hb3 q3
    go_wp2_with fail
    refine (rfl_OfM_no none 0 0 _ (.inl rfl) (by decide) 50 (by decide)).mono ?_
    rintro e w4 ⟨p4, rfl, hb4⟩
    have HB4 := hide (below_step hb4 HB3.out)
    clear q3_c0 q3_c1 q3_c2 q3_c3 q3_f
    clear hb4
    go_wp2_with fail
    refine (fl_New 3 50 _ (by decide) (by decide) (by decide) (by decide)).mono ?_
    rintro e w5 ⟨qf, rfl, hF5, hq5, hb5⟩
    have HF5 := hide (show FD w5 qf (newF 3 50) from hF5)
    have HQF := hide (show ∀ g, qf.F g → w4.heap.size ≤ g ∧ g < w5.heap.size from fun g hg => ⟨hq5 g hg, hF5.lt g hg⟩)
    have HB5 := hide (below_step hb5 HB4.out)
    have HZ5 := hide hb5.size
    clear hF5 hq5 hb5
    go_wp2_with fail
    refine (rfl_Made 3 50 _ (by decide) (by decide) (by decide) (by decide)).mono ?_
    rintro e w6 ⟨qr, rfl, hR6, hq6, hb6⟩
    have HB6 := hide hb6
    clear hR6 hq6 hb6
    go_wp2_with fail
    have z0 := HB0.out.size
    have z1 := HZ1.out
    have z2 := HZ2.out
    have z4 := HB4.out.size
    have z5 := HZ5.out
    have z6 := HB6.out.size
    have hba := below_alloc HB6.out (.cells #[.pointer (some ⟨pd, 0, none⟩), .pointer (some ⟨pt, 0, none⟩), .pointer (some ⟨qf.p, 0, none⟩), .pointer (some ⟨qr.p, 0, none⟩), .pointer none, .pointer none] 44)
    go_ret2
    refine ⟨_, true, rfl, fun h => (by cases h), fun _ => ⟨HS.out.1, HS.out.2.1, HS.out.2.2, w6.heap.size, pd, gl, n', cl, cv, Av, ds, es, _, qf, pt, qr.p, rfl, w1.heap.size, 0, ⟨blk_one w6 _ _, (HD.out.below HB5.out).below hba, HN'.out, HF5.out.below hba, ?_, ?_, by omega⟩⟩, below_step hba (below_step HB5.out HB2.out)⟩
    · rintro g ⟨h1, h2⟩
      refine ⟨by omega, by simp; omega, fun hx => ?_, by omega⟩
      have := HQF.out g hx
      omega
    · intro g hg
      have := HQF.out g hg
      exact ⟨by omega, by simp; omega, by omega⟩
  · have hp := H2.out her
    subst hp
    clear H2 H3 HNP
    go_wp2_with fail
    go_ret2
    exact HF0.out _ HB2.out
end
end Go.Proofs.YtehabbnohoomjaaGreatDoor
namespace Go.Proofs.YtehabbnohoomjaaGreatDoor
section
set_option linter.unusedVariables false
set_option linter.unusedSimpArgs false
set_option linter.unnecessarySimpa false
open Go.RowKit
set_option maxRecDepth 100000
set_option maxHeartbeats 4000000
section
variable {F : Nat → Prop} {p n cl cv : Nat} {Av : Option Addr} {L : List Ent} {V : List (List UInt8)} {ds es : List (Option Addr × Nat)} {gl : Nat}
def ResetR (F : Nat → Prop) (p gl n cl : Nat) (Av : Option Addr) (cv : Nat) (L : List Ent) (ds : List (Option Addr × Nat)) (w : World) (e : Ending) (w' : World) : Prop :=
  ∃ es', e = .returned (.tuple #[]) ∧ DB 102 w' (fun g => F g ∨ w.heap.size ≤ g) p (some ⟨gl, 0, none⟩) n cl Av cv L (L.map Ent.df) ds es' ∧ Only F w w'
theorem dict_reset (w : World) (hD : DB 102 w F p (some ⟨gl, 0, none⟩) n cl Av cv L V ds es) (hn : n ≤ 1000) :
    Calls Tryz.prog 54 #[.pointer (some ⟨p, 0, none⟩)] w (ResetR F p gl n cl Av cv L ds w) := by
  have HD := hide hD
  have HN := hide hD.ents.hn
  have HLV := hide hD.lenV
  have hB := hD.blk
  clear hD
  go_enter Tryz.func54, Tryz.ntmps54
  go_wp2_with fail
  refine (dict_len _ hB).mono ?_
  rintro e w1 ⟨rfl, rfl⟩
  clear hB
  go_wp2_with fail
  go_loopw [5] (fun i wr => ∃ k es', k ≤ n ∧ i = .int .i64 (k : Nat) ∧ Hid (DB 102 wr (fun g => F g ∨ w.heap.size ≤ g) p (some ⟨gl, 0, none⟩) n cl Av cv L (rsV L V k) ds es') ∧ Hid (Only F w wr)) (fun i _ => n - (intOf i).toNat)
  case atStart => exact ⟨0, es, by omega, rfl, hide (by rw [rs_zero]; exact HD.out.mono (fun g _ h => .inl h)), hide (Only.refl _ _)⟩
  case round =>
    obtain ⟨k, es', hk, rfl, HDr, HOr⟩ := hrel
    by_cases hlt : k < n
    · obtain ⟨E, hE⟩ : ∃ E, L[k]? = some E := ⟨L[k]'(by rw [← HN.out]; exact hlt), List.getElem?_eq_getElem _⟩
      obtain ⟨v, hv⟩ : ∃ v, (rsV L V k)[k]? = some v := ⟨(rsV L V k)[k]'(by rw [rs_len HLV.out, ← HN.out]; exact hlt), List.getElem?_eq_getElem _⟩
      obtain ⟨g, d, hA, zg, _, hOd, hfit, _, _, _, _, _, _, _, _, _, _, c10⟩ := HDr.out.ent hE
      injection hA with hA
      injection hA with hA
      subst hA
      obtain ⟨gv, dv, hAv, zv, _, _, _, cv0, cf0, hFv⟩ := HDr.out.val hv
      subst hAv
      have hB2 := HDr.out.blk
      have zp := hB2.lt
      obtain ⟨hB2_c0, hB2_c1⟩ := cel2 hB2
      have hB2_f := hB2.frozen
      have HS := hide hOd.sl
      have HF := hide hfit.1
      have HT := hide (rs_step hE HLV.out)
      have HFV := hide hFv
      obtain ⟨i1, i2, i3⟩ := idx_at hlt
      have hne1 : gv ≠ p := fun h => blk_own_ne hB2 HDr.out.vals.own (by decide) (by rw [h]; rfl)
      have hne2 : gv ≠ gl := by
        have := own_ne' HDr.out.ents.own HDr.out.vals.own (by decide) gl rfl
        simp [Value.ownBlock] at this
        omega
      clear hE hv hOd hfit hFv
      go_wp2_with fail
      refine wp_region_held_drew (S := (fun w' => w'.cell? ⟨p, 0, none⟩ = some (.slice (some ⟨gl, 0, none⟩) n cl) ∧ w'.cell? ⟨p, 1, none⟩ = some (.slice (some ⟨gv, 0, none⟩) n cv) ∧ w'.cell? ⟨gl, k * 11 + 10, none⟩ = some (.slice d.1 E.df.length d.2))) (by kernel_rfl) ?hS1 (fun hHeld => ?rest1)
      case hS1 => ((try dsimp only); (exact ⟨hB2_c0, hB2_c1, c10⟩))
      case' rest1 => skip
      refine tkH 0 ?_
      try simp only [PqL, Act.put]
      refine tkH 1 ?_
      try simp only [PqL, Act.put]
      refine tkH 2 ?_
      try simp only [PqL, Act.put]
      refine tkH 3 ?_
      try simp only [PqL, Act.put]
      refine tkH 4 ?_
      try simp only [PqL, Act.put]
      refine tkH 5 ?_
      try simp only [PqL, Act.put]
      refine tkH 6 ?_
      try simp only [PqL, Act.put]
      refine tkH 7 ?_
      try simp only [PqL, Act.put]
      refine tkH 8 ?_
      try simp only [PqL, Act.put]
      refine tkH 9 ?_
      try simp only [PqL, Act.put]
      refine tkH 10 ?_
      try simp only [PqL, Act.put]
      refine tkH 11 ?_
      try simp only [PqL, Act.put]
      refine tkH 12 ?_
      try simp only [PqL, Act.put]
      refine wpAnyH_ready (rs := [13]) (by kernel_rfl) (by simp) ?_
      refine AllReadyH.cons (o := _) rfl (fun K hK => ?_) AllReadyH.nil
      go_simp
      refine (dict_own d.1 E.df.length d.2 E.df _ rfl HF.out HS.out.drew).mono ?_
      rintro e w2 ⟨A3, c3, rfl, hO3, hb3⟩
      dsimp only
      have e0 := (hb3.cell (p := ⟨p, 0, none⟩) zp).trans hB2_c0
      have e1 := (hb3.cell (p := ⟨p, 1, none⟩) zp).trans hB2_c1
      have e2 := (hb3.cell (p := ⟨gl, k * 11 + 10, none⟩) zg).trans c10
      refine hK.out _ _ ?hS17 (fun hHeld => ?rest17)
      case hS17 => ((try dsimp only); (exact ⟨e0, e1, e2⟩))
      case' rest17 => (clear hK K; try simp only [PqL, Act.put])
      have hf3 : w2.frozen? ⟨gv, k, none⟩ = false := (hb3.frozen (p := ⟨gv, k, none⟩) zv).trans cf0
      have hc3 := (hb3.cell (p := ⟨gv, k, none⟩) zv).trans cv0
      refine tkH 14 ?_
      try simp only [PqL, Act.put]
      refine wpAnyH_ready (rs := [15]) (by kernel_rfl) (by simp) ?_
      refine AllReadyH.cons (o := _) rfl (fun K hK => ?_) AllReadyH.nil
      go_simp
      refine hK.out _ _ ?hS21 (fun hHeld => ?rest21)
      case hS21 => ((try dsimp only); (exact ⟨(World.cell?_setCell_far _ _ _ _ hne1).trans e0, (World.cell?_setCell_far _ _ _ _ hne1).trans e1, (World.cell?_setCell_far _ _ _ _ hne2).trans e2⟩))
      case' rest21 => (clear hK K; try simp only [PqL, Act.put])
      refine wpAnyH_done (by kernel_rfl) ?_ _
      have hEnd := hHeld.2
      repeat (clear hHeld)
      have hb4 : Below wr.heap.size wr w2 := ⟨hb3.os, hb3.tape, hb3.output, hb3.size, hb3.block⟩
      have hz := HOr.out.size
      have HD3 := hide (DB.store (T := 102) (HDr.out.below hb4) (by decide) hlt (hO3.mono (Nat.zero_le _)) (hO3.own.fin.mono (fun g h => .inr (Nat.le_trans hz h.1))) HF.out)
      rw [HT.out] at HD3
      have HO3 : Hid (Only F w (w2.setCell ⟨gv, k, none⟩ (.slice A3 E.df.length c3))) := hide ((HOr.out.step hb4).trans (Only.of_set (F := fun g => F g ∨ w.heap.size ≤ g) HFV.out _) (fun i hi h => by
        rcases h with h | h
        · exact h
        · omega))
      go_wp2_with fail
      go_roundw
      case rel => exact ⟨k + 1, _, by omega, by go_num, HD3, HO3⟩
      case measure => simp [intOf]; omega
    · go_wp2_with fail
      have hkn : k = n := by omega
      go_end0
      refine ⟨es', rfl, ?_, HOr.out⟩
      have := HDr.out
      rw [rs_full HLV.out (by rw [hkn, HN.out])] at this
      exact this
end
end
end Go.Proofs.YtehabbnohoomjaaGreatDoor
namespace Go.Proofs.YtehabbnohoomjaaGreatDoor
section
set_option linter.unusedVariables false
set_option linter.unusedSimpArgs false
set_option linter.unnecessarySimpa false
open Go.RowKit
set_option maxRecDepth 20000
set_option maxHeartbeats 8000000
section
variable {w w' : World} {M pv pj n c ns cs : Nat} {Fj FL : Nat → Prop} {q : FP} {A As : Option Addr} {dj dx : List (Option Addr × Nat)} {J : JS} {S : FS} {X : List SV} {odd off : Bool}
theorem vd_fw (h : VD w M Fj FL pv pj q A n c dj As ns cs dx J S X odd off) : ∀ g, Fj g ∨ q.F g ∨ FL g ∨ g = pv → g < w.heap.size := by
  rintro g (hg | hg | hg | rfl)
  · exact (h.fw g (.inl hg)).1
  · exact (h.fw g (.inr hg)).1
  · exact (h.lw g hg).1
  · exact h.blk.lt
theorem va_store_no (gr : Int) (p : Option Addr) (w : World) (h : VD w M Fj FL pv pj q A n c dj As ns cs dx J S X odd off) (h1 : ¬ (1 ≤ gr ∧ gr ≤ 4)) : Calls Tryz.prog 14 #[.pointer (some ⟨pv, 0, none⟩), .pointer p, .int .i64 gr] w fun e w' => e = .returned (.int .u32 101253168) ∧ w = w' := by
  have hB := h.blk
  unfold vauC at hB
  obtain ⟨hB_c0, hB_c1, hB_c2, hB_c3⟩ := cel4 hB
  have hB_f := hB.frozen
  have HCK := hide (va_check (pv := pv) (pj := pj) gr w hB_c0)
  rw [if_neg h1] at HCK
  clear h h1
  go_enter Tryz.func14, Tryz.ntmps14
  go_wp2_with fail
  refine HCK.out.mono ?_
  rintro e w1 ⟨rfl, rfl⟩
  go_wp2_with fail
  go_ret
  exact ⟨rfl, rfl⟩
theorem va_restore (a : Nat → Addr) (gr : Int) (w : World) (h : VD w M Fj FL pv pj q A n c dj As ns cs dx J S X odd off) (hG : GV w a M) (hM : M ≤ w.heap.size) (hrun : RunJ J S) (hops : S.ops + 2000 < 4611686018427387904) (h1 : 1 ≤ gr ∧ gr ≤ 4) :
    Calls Tryz.prog 16 #[.pointer (some ⟨pv, 0, none⟩), .int .i64 gr] w (KeepV M Fj FL pv pj q A n c J S X odd off (if (dropL X gr).length = 0 then 2 else 1) (dropL X gr) w) := by
  have HH := hide h
  have hB := h.blk
  unfold vauC at hB
  obtain ⟨hB_c0, hB_c1, hB_c2, hB_c3⟩ := cel4 hB
  have hB_f := hB.frozen
  have HG := hide hG
  have HM := hide hM
  have HRN := hide hrun
  have HOP := hide hops
  have HCK := hide (va_check (pv := pv) (pj := pj) gr w hB_c0)
  rw [if_pos h1] at HCK
  have HDR := hide (snap_drop As ns cs X gr w h.row.hn h.row.own.le (by have := h.sz; omega) h.row.slV (fun v hv => by have := h.fit v hv; omega))
  have HFW := hide (vd_fw h)
  have HFI : Hid (fitsV (dropL X gr)) := hide (fun v hv => by have := h.fit v (List.mem_filter.1 hv).1; omega)
  have HLL : Hid ((dropL X gr).length ≤ 200) := hide (by
    have hx := h.row.hn
    have hs := h.sz
    have hl : (dropL X gr).length ≤ X.length := List.length_filter_le _ _
    omega)
  obtain ⟨R0, hR0⟩ : ∃ R0, R0 = KeepV M Fj FL pv pj q A n c J S X odd off (if (dropL X gr).length = 0 then 2 else 1) (dropL X gr) w := ⟨_, rfl⟩
  rw [← hR0]
  have HR := hide hR0
  clear h hG hM hrun hops h1 hR0
  go_enter Tryz.func16, Tryz.ntmps16
  go_wp2_with fail
  refine HCK.out.mono ?_
  rintro e w1 ⟨rfl, rfl⟩
  go_wp2_with fail
  refine HDR.out.mono ?_
  rintro e w1 ⟨A1, n1, c1, ds1, rfl, hO1, hb1⟩
  have HO1 := hide hO1
  have HB1 := hide hb1
  by_cases h0 : n1 = 0
  · have HE : Hid (dropL X gr = []) := hide (List.eq_nil_of_length_eq_zero (by rw [← hO1.hn]; exact h0))
    clear hO1 hb1
    subst h0
    go_wp2_with fail
    refine (keep_vd a 2 w _ (HH.out.below HB1.out) HB1.out HFW.out (HG.out.below HB1.out) HM.out HRN.out HOP.out (OwnF.nil (f := svF) (k := 3) (e := 52) (dat := SV.data) w1 (fun _ => False)) (fun g hg => hg.elim) (by omega) (fun v hv => by cases hv)).mono ?_
    rintro e w4 hK
    obtain ⟨R, dj', Fj', FL', As', ns', cs', dx', hW, rfl, hrest⟩ := hK
    have HX := hide (And.intro hW hrest)
    clear hW hrest
    go_wp2_with fail
    rw [HR.out, HE.out]
    exact ⟨R, dj', Fj', FL', As', ns', cs', dx', HX.out.1, rfl, HX.out.2⟩
  · have HE : Hid ((if (dropL X gr).length = 0 then (2 : Int) else 1) = 1) := hide (by rw [if_neg (by rw [← hO1.hn]; exact h0)])
    have z0 : ((n1 : Int) == 0) = false := by simp; omega
    have hn1 : n1 ≤ 1000 := by have := hO1.hn; have := HLL.out; omega
    have HN1 := hide hn1
    clear hO1 hb1 h0 hn1
    go_wp2_with fail
    refine (keep_vd a 1 w _ (HH.out.below HB1.out) HB1.out HFW.out (HG.out.below HB1.out) HM.out HRN.out HOP.out (ownV_sv HO1.out) (fun g hg => hg) HN1.out HFI.out).mono ?_
    rintro e w4 hK
    obtain ⟨R, dj', Fj', FL', As', ns', cs', dx', hW, rfl, hrest⟩ := hK
    have HX := hide (And.intro hW hrest)
    clear hW hrest
    go_wp2_with fail
    rw [HR.out, HE.out]
    exact ⟨R, dj', Fj', FL', As', ns', cs', dx', HX.out.1, rfl, HX.out.2⟩
theorem va_load (w : World) (h : VD w M Fj FL pv pj q A n c dj As ns cs dx J S X odd off)
    {Fd : Nat → Prop} {pd gl nd cl cv : Nat} {Av : Option Addr} {L : List Ent} {V : List (List UInt8)} {ds es : List (Option Addr × Nat)} (hD : DB 102 w Fd pd (some ⟨gl, 0, none⟩) nd cl Av cv L V ds es) (hs : SortedE L) (hnd : nd ≤ 1000) (hdj : ∀ g, Fd g → g < w.heap.size ∧ ¬ (FL g ∨ g = pv)) :
    Calls Tryz.prog 15 #[.pointer (some ⟨pv, 0, none⟩), .pointer (some ⟨pd, 0, none⟩)] w fun e w' => ∃ V' es', e = .returned (.int .i64 (checkL L X)) ∧ V' = applyV L (L.map Ent.df) X ∧ DB 102 w' (fun g => Fd g ∨ w.heap.size ≤ g) pd (some ⟨gl, 0, none⟩) nd cl Av cv L V' ds es' ∧ Only Fd w w' := by
  have HH := hide h
  have hB := h.blk
  unfold vauC at hB
  obtain ⟨hB_c0, hB_c1, hB_c2, hB_c3⟩ := cel4 hB
  have hB_f := hB.frozen
  have HRS := hide (dict_reset w hD hnd)
  have HS := hide hs
  have HDJ := hide hdj
  have HSZ := hide (show ns ≤ 1000 by have := h.sz; omega)
  have HND := hide hnd
  have hpv := h.blk.lt
  clear h hD hs hdj hnd
  go_enter Tryz.func15, Tryz.ntmps15
  go_wp2_with fail
  refine (va_there .nilIface _ hB_c0).mono ?_
  rintro e w1 ⟨rfl, rfl⟩
  go_wp2_with fail
  refine HRS.out.mono ?_
  rintro e w1 ⟨es1, rfl, hD1, ho1⟩
  have kv := (ho1.block pv hpv (fun e => (HDJ.out pv e).2 (.inr rfl))).trans HH.out.blk
  have x1 := (show Blk w1 pv 90 _ from kv).cell 1 (u := .slice As ns cs) rfl
  have HO1 := hide ho1
  have HD1 := hide hD1
  clear hD1 kv hB_c0 hB_c1 hB_c2 hB_c3 hB_f
  go_wp2_with fail
  refine (snap_apply As ns cs X _ HD1.out HS.out HND.out HH.out.row.hn HSZ.out (fun W hW => by
    have hr : OwnSV W FL As ns cs X dx := (HH.out.row.keep (fun g hg hlt => HO1.out.block g hlt (fun e => (HDJ.out g e).2 (.inl hg)))).keep (fun g hg hlt => hW.block g hlt (by
      rintro (e | e)
      · exact (HDJ.out g e).2 (.inl hg)
      · have := (HH.out.lw g hg).1
        omega))
    exact hr.slV) (fun v hv => by have := HH.out.fit v hv; omega)).mono ?_
  rintro e w2 ⟨V2, es2, rfl, hV2, hD2, ho2⟩
  have HX2 := hide (And.intro hV2 (And.intro hD2 ho2))
  clear hV2 hD2 ho2
  go_wp2_with fail
  go_ret
  refine ⟨V2, es2, rfl, HX2.out.1, HX2.out.2.1.mono (fun g _ hg => ?_), HO1.out.trans HX2.out.2.2 (fun g hlt hg => ?_)⟩
  · rcases hg with (hg | hg) | hg
    · exact .inl hg
    · exact .inr hg
    · have := HO1.out.size
      exact .inr (by omega)
  · rcases hg with hg | hg
    · exact hg
    · omega
end
end
end Go.Proofs.YtehabbnohoomjaaGreatDoor
