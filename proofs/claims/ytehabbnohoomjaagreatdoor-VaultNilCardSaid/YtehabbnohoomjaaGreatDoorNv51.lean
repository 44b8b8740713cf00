/- Package vault: Restore, Load, Store of a wrong group. -/
import Derived.Test.YtehabbnohoomjaaGreatDoorNv48
import Derived.Test.YtehabbnohoomjaaGreatDoorNv50
namespace Go.Proofs.YtehabbnohoomjaaGreatDoor
section
set_option linter.unusedVariables false
set_option linter.unusedSimpArgs false
set_option linter.unnecessarySimpa false
open Go.RowKit
set_option maxRecDepth 20000
set_option maxHeartbeats 8000000
section
variable {w w' : World} {M pv pj n c ns cs : Nat} {Fj FL : Nat → Prop} {q : FP} {A As : Option Addr} {dj dx : List (Option Addr × Nat)} {J : JS} {S : FS} {X : List SV} {odd off : Bool}
theorem vd_fw (h : VD w M Fj FL pv pj q A n c dj As ns cs dx J S X odd off) : ∀ g, Fj g ∨ q.F g ∨ FL g ∨ g = pv → g < w.heap.size := by
  rintro g (hg | hg | hg | rfl)
  · exact (h.fw g (.inl hg)).1
  · exact (h.fw g (.inr hg)).1
  · exact (h.lw g hg).1
  · exact h.blk.lt
theorem va_store_no (gr : Int) (p : Option Addr) (w : World) (h : VD w M Fj FL pv pj q A n c dj As ns cs dx J S X odd off) (h1 : ¬ (1 ≤ gr ∧ gr ≤ 4)) : Calls Tryz.prog 14 #[.pointer (some ⟨pv, 0, none⟩), .pointer p, .int .i64 gr] w fun e w' => e = .returned (.int .u32 101253168) ∧ w = w' := by
  have hB := h.blk
  unfold vauC at hB
  obtain ⟨hB_c0, hB_c1, hB_c2, hB_c3⟩ := cel4 hB
  have hB_f := hB.frozen
  have HCK := hide (va_check (pv := pv) (pj := pj) gr w hB_c0)
  rw [if_neg h1] at HCK
  clear h h1
  go_enter Tryz.func14, Tryz.ntmps14
  go_wp2_with fail
  refine HCK.out.mono ?_
  rintro e w1 ⟨rfl, rfl⟩
  go_wp2_with fail
  go_ret
  exact ⟨rfl, rfl⟩
theorem va_restore (a : Nat → Addr) (gr : Int) (w : World) (h : VD w M Fj FL pv pj q A n c dj As ns cs dx J S X odd off) (hG : GV w a M) (hM : M ≤ w.heap.size) (hrun : RunJ J S) (hops : S.ops + 2000 < 4611686018427387904) (h1 : 1 ≤ gr ∧ gr ≤ 4) :
    Calls Tryz.prog 16 #[.pointer (some ⟨pv, 0, none⟩), .int .i64 gr] w (KeepV M Fj FL pv pj q A n c J S X odd off (if (dropL X gr).length = 0 then 2 else 1) (dropL X gr) w) := by
  have HH := hide h
  have hB := h.blk
  unfold vauC at hB
  obtain ⟨hB_c0, hB_c1, hB_c2, hB_c3⟩ := cel4 hB
  have hB_f := hB.frozen
  have HG := hide hG
  have HM := hide hM
  have HRN := hide hrun
  have HOP := hide hops
  have HCK := hide (va_check (pv := pv) (pj := pj) gr w hB_c0)
  rw [if_pos h1] at HCK
  have HDR := hide (snap_drop As ns cs X gr w h.row.hn h.row.own.le (by have := h.sz; omega) h.row.slV (fun v hv => by have := h.fit v hv; omega))
  have HFW := hide (vd_fw h)
  have HFI : Hid (fitsV (dropL X gr)) := hide (fun v hv => by have := h.fit v (List.mem_filter.1 hv).1; omega)
  have HLL : Hid ((dropL X gr).length ≤ 200) := hide (by
    have hx := h.row.hn
    have hs := h.sz
    have hl : (dropL X gr).length ≤ X.length := List.length_filter_le _ _
    omega)
  obtain ⟨R0, hR0⟩ : ∃ R0, R0 = KeepV M Fj FL pv pj q A n c J S X odd off (if (dropL X gr).length = 0 then 2 else 1) (dropL X gr) w := ⟨_, rfl⟩
  rw [← hR0]
  have HR := hide hR0
  clear h hG hM hrun hops h1 hR0
  go_enter Tryz.func16, Tryz.ntmps16
  go_wp2_with fail
  refine HCK.out.mono ?_
  rintro e w1 ⟨rfl, rfl⟩
  go_wp2_with fail
  refine HDR.out.mono ?_
  rintro e w1 ⟨A1, n1, c1, ds1, rfl, hO1, hb1⟩
  have HO1 := hide hO1
  have HB1 := hide hb1
  by_cases h0 : n1 = 0
  · have HE : Hid (dropL X gr = []) := hide (List.eq_nil_of_length_eq_zero (by rw [← hO1.hn]; exact h0))
    clear hO1 hb1
    subst h0
    go_wp2_with fail
    refine (keep_vd a 2 w _ (HH.out.below HB1.out) HB1.out HFW.out (HG.out.below HB1.out) HM.out HRN.out HOP.out (OwnF.nil (f := svF) (k := 3) (e := 52) (dat := SV.data) w1 (fun _ => False)) (fun g hg => hg.elim) (by omega) (fun v hv => by cases hv)).mono ?_
    rintro e w4 hK
    obtain ⟨R, dj', Fj', FL', As', ns', cs', dx', hW, rfl, hrest⟩ := hK
    have HX := hide (And.intro hW hrest)
    clear hW hrest
    go_wp2_with fail
    rw [HR.out, HE.out]
    exact ⟨R, dj', Fj', FL', As', ns', cs', dx', HX.out.1, rfl, HX.out.2⟩
  · have HE : Hid ((if (dropL X gr).length = 0 then (2 : Int) else 1) = 1) := hide (by rw [if_neg (by rw [← hO1.hn]; exact h0)])
    have z0 : ((n1 : Int) == 0) = false := by simp; omega
    have hn1 : n1 ≤ 1000 := by have := hO1.hn; have := HLL.out; omega
    have HN1 := hide hn1
    clear hO1 hb1 h0 hn1
    go_wp2_with fail
    refine (keep_vd a 1 w _ (HH.out.below HB1.out) HB1.out HFW.out (HG.out.below HB1.out) HM.out HRN.out HOP.out (ownV_sv HO1.out) (fun g hg => hg) HN1.out HFI.out).mono ?_
    rintro e w4 hK
    obtain ⟨R, dj', Fj', FL', As', ns', cs', dx', hW, rfl, hrest⟩ := hK
    have HX := hide (And.intro hW hrest)
    clear hW hrest
    go_wp2_with fail
    rw [HR.out, HE.out]
    exact ⟨R, dj', Fj', FL', As', ns', cs', dx', HX.out.1, rfl, HX.out.2⟩
theorem va_load (w : World) (h : VD w M Fj FL pv pj q A n c dj As ns cs dx J S X odd off)
    {Fd : Nat → Prop} {pd gl nd cl cv : Nat} {Av : Option Addr} {L : List Ent} {V : List (List UInt8)} {ds es : List (Option Addr × Nat)} (hD : DB 102 w Fd pd (some ⟨gl, 0, none⟩) nd cl Av cv L V ds es) (hs : SortedE L) (hnd : nd ≤ 1000) (hdj : ∀ g, Fd g → g < w.heap.size ∧ ¬ (FL g ∨ g = pv)) :
    Calls Tryz.prog 15 #[.pointer (some ⟨pv, 0, none⟩), .pointer (some ⟨pd, 0, none⟩)] w fun e w' => ∃ V' es', e = .returned (.int .i64 (checkL L X)) ∧ V' = applyV L (L.map Ent.df) X ∧ DB 102 w' (fun g => Fd g ∨ w.heap.size ≤ g) pd (some ⟨gl, 0, none⟩) nd cl Av cv L V' ds es' ∧ Only Fd w w' := by
  have HH := hide h
  have hB := h.blk
  unfold vauC at hB
  obtain ⟨hB_c0, hB_c1, hB_c2, hB_c3⟩ := cel4 hB
  have hB_f := hB.frozen
  have HRS := hide (dict_reset w hD hnd)
  have HS := hide hs
  have HDJ := hide hdj
  have HSZ := hide (show ns ≤ 1000 by have := h.sz; omega)
  have HND := hide hnd
  have hpv := h.blk.lt
  clear h hD hs hdj hnd
  go_enter Tryz.func15, Tryz.ntmps15
  go_wp2_with fail
  refine (va_there .nilIface _ hB_c0).mono ?_
  rintro e w1 ⟨rfl, rfl⟩
  go_wp2_with fail
  refine HRS.out.mono ?_
  rintro e w1 ⟨es1, rfl, hD1, ho1⟩
  have kv := (ho1.block pv hpv (fun e => (HDJ.out pv e).2 (.inr rfl))).trans HH.out.blk
  have x1 := (show Blk w1 pv 90 _ from kv).cell 1 (u := .slice As ns cs) rfl
  have HO1 := hide ho1
  have HD1 := hide hD1
  clear hD1 kv hB_c0 hB_c1 hB_c2 hB_c3 hB_f
  go_wp2_with fail
  refine (snap_apply As ns cs X _ HD1.out HS.out HND.out HH.out.row.hn HSZ.out (fun W hW => by
    have hr : OwnSV W FL As ns cs X dx := (HH.out.row.keep (fun g hg hlt => HO1.out.block g hlt (fun e => (HDJ.out g e).2 (.inl hg)))).keep (fun g hg hlt => hW.block g hlt (by
      rintro (e | e)
      · exact (HDJ.out g e).2 (.inl hg)
      · have := (HH.out.lw g hg).1
        omega))
    exact hr.slV) (fun v hv => by have := HH.out.fit v hv; omega)).mono ?_
  rintro e w2 ⟨V2, es2, rfl, hV2, hD2, ho2⟩
  have HX2 := hide (And.intro hV2 (And.intro hD2 ho2))
  clear hV2 hD2 ho2
  go_wp2_with fail
  go_ret
  refine ⟨V2, es2, rfl, HX2.out.1, HX2.out.2.1.mono (fun g _ hg => ?_), HO1.out.trans HX2.out.2.2 (fun g hlt hg => ?_)⟩
  · rcases hg with (hg | hg) | hg
    · exact .inl hg
    · exact .inr hg
    · have := HO1.out.size
      exact .inr (by omega)
  · rcases hg with hg | hg
    · exact hg
    · omega
end
end
end Go.Proofs.YtehabbnohoomjaaGreatDoor
namespace Go.Proofs.YtehabbnohoomjaaGreatDoor
section
set_option linter.unusedVariables false
set_option linter.unusedSimpArgs false
set_option linter.unnecessarySimpa false
open Go.RowKit
set_option maxRecDepth 100000
set_option maxHeartbeats 8000000

theorem known_19 (a : Nat → Addr) (M : Nat) (w : World) (hG : GV w a M) (hM : M ≤ w.heap.size) : Calls Tryz.prog 9 #[] w fun e w' => e = .returned (.bool true) ∧ Below w.heap.size w w' := by
  obtain ⟨r1, r2, r3, r4, r5, r6, r7, r8⟩ := vE_all
  obtain ⟨s1, s2, s3, s4, s5, s6⟩ := vX_all
  have R1 := hide r1
  have R2 := hide r2
  have R3 := hide r3
  have R4 := hide r4
  have R5 := hide r5
  have R6 := hide r6
  have R7 := hide r7
  have R8 := hide r8
  have S1 := hide s1
  have S2 := hide s2
  have S3 := hide s3
  have S4 := hide s4
  have S5 := hide s5
  have S6 := hide s6
  have HG := hide hG
  have HM := hide hM
  clear r1 r2 r3 r4 r5 r6 r7 r8 s1 s2 s3 s4 s5 s6 hG hM
  have q := blk_two w 5 55 #[.int .u8 3] (entV vE (some ⟨w.heap.size, 0, none⟩) 1 1)
  have hbw := below_alloc (below_alloc (Below.refl w.heap.size w) (.cells #[.int .u8 3] 5)) (.cells (entV vE (some ⟨w.heap.size, 0, none⟩) 1 1) 55)
  have HSL := hide (slE_one (E := vE) q.2 (Nat.le_refl _) q.1.sl)
  have HBW := hide hbw
  clear q hbw
  go_enter Tryz.func9, Tryz.ntmps9
  go_wp2_with fail
  refine (dict_new _ 1 1 [vE] _ rfl HSL.out (by intro E hE; simp at hE; subst hE; exact ⟨by decide, by decide⟩)).mono ?_
  rintro e w1 ⟨v, er, at_, rfl, h1, h2, h3, hb1⟩
  obtain ⟨rfl, rfl⟩ := new_one h1 vE_new
  obtain ⟨p, gl, n, cl, Av, cv, ds, es, rfl, hn, hD⟩ := h3 rfl
  have hn1 : n = 1 := hn
  subst hn1
  have z0 := HBW.out.size
  have z1 := hb1.size
  have HD1 := hide (hD.mono (G := fun g => w.heap.size ≤ g ∧ g < w1.heap.size) (fun g hlt hg => ⟨by omega, hlt⟩))
  have HB1 := hide (below_step hb1 HBW.out)
  have Z1 := hide (Nat.le_trans z0 z1)
  clear h1 h2 h3 hD hb1 hn z0 z1 HSL HBW
  go_wp2_with fail
  have HFN := fl_New 3 9 w1 (by decide) (by decide) (by decide) (by decide)
  refine HFN.mono ?_
  clear HFN
  rintro e w2 ⟨qf, rfl, hF2, hq2, hb2⟩
  have HF2 := hide (show FD w2 qf (newF 3 9) from hF2)
  have HQ2 := hide (show ∀ g, qf.F g → w1.heap.size ≤ g ∧ g < w2.heap.size from fun g hg => ⟨hq2 g hg, hF2.lt g hg⟩)
  have HB2 := hide (below_step hb2 HB1.out)
  have HD2 := hide (HD1.out.below hb2)
  have Z2 := hide hb2.size
  clear hF2 hq2 hb2
  go_wp2_with fail
  have hfr := newF_fresh 3 9 (by decide) (by decide)
  have HFR := hide hfr
  have hnew : (openJ (newF 3 9)).has = false := by
    show (newL (looksF (newF 3 9))).2 = false
    rw [newF_new]
  obtain ⟨S0, hS0⟩ : ∃ S, S = newF 3 9 := ⟨_, rfl⟩
  have HS0 : Hid (S0.off = false ∧ S0.ahead < 0 ∧ S0.most = 9 ∧ S0.ops = 0) := hide (by rw [hS0]; exact ⟨rfl, by decide, rfl, rfl⟩)
  rw [← hS0] at HF2 HFR hnew
  have HOP := va_open_new M qf S0 ⟨p, 0, none⟩ w2 HF2.out HS0.out.1 HFR.out.three hnew (Nat.le_trans HM.out HB2.out.size) (fun g hg => ⟨(HQ2.out g hg).2, by have := (HQ2.out g hg).1; have := HM.out; have := HB1.out.size; omega⟩)
  refine HOP.mono ?_
  clear HOP hfr hS0 hnew
  rintro e w3 ⟨pv, pj, A, nj, cj, dj, rfl, hV3, hpv, hb3⟩
  have HV3 := hide hV3
  have HPV := hide (And.intro hpv hV3.blk.lt)
  have HB3 := hide (below_step hb3 HB2.out)
  have HD3 := hide (HD2.out.below hb3)
  have Z3 := hide hb3.size
  clear hV3 hpv hb3
  go_wp2_with fail
  have b1 := blk_one w3 5 #[.int .u8 5]
  have ha3 := below_alloc (Below.refl w3.heap.size w3) (.cells #[.int .u8 5] 5)
  obtain ⟨wa, hwa⟩ : ∃ W, W = w3.alloc (.cells #[.int .u8 5] 5) := ⟨_, rfl⟩
  rw [← hwa] at b1 ha3 ⊢
  have HDa := hide (HD3.out.below ha3)
  have HVa := hide (HV3.out.below ha3)
  have HBa := hide (below_step ha3 HB3.out)
  have Za := hide ha3.size
  have Bl := hide b1
  clear ha3 hwa b1
  refine (dict_set 24576 0 _ 1 1 [5] _ HDa.out vE_sorted (by decide) rfl (by decide) (by decide) Bl.out.sl).mono ?_
  rintro e w4 ⟨V4, es4, rfl, hV4, hD4, ho4⟩
  rw [R1.out]
  have hV4' : V4 = [[5]] := hV4.trans R2.out
  subst hV4'
  have HD4 := hide (hD4.mono (G := fun g => (w.heap.size ≤ g ∧ g < w1.heap.size) ∨ (wa.heap.size ≤ g ∧ g < w4.heap.size)) (fun g hlt hg => hg.imp id (fun h => ⟨h, hlt⟩)))
  have HV4 := hide (HVa.out.only ho4 (fun g hg hx => by
    have q1 := hg.2
    have q2 := Z2.out
    rcases hx with h | h | h | h
    · have := h.1; omega
    · have := (HQ2.out g h).1; omega
    · exact h
    · have := HPV.out.1; omega))
  have HB4 := hide (below_only ho4 HBa.out (fun i h => h.1))
  have Z4 := hide ho4.size
  clear hV4 hD4 ho4 HVa HDa HV3 HD3 HD2 HD1
  go_wp2_with fail
  have hst := va_store a 1 w4 HV4.out (HG.out.below HB4.out) (Nat.le_trans HM.out HB4.out.size) (.inr ⟨rfl, HS0.out.1⟩) (by rw [HS0.out.2.2.2]; decide) ⟨by decide, by decide⟩ HD4.out (by decide) (by intro v hv; simp at hv; subst hv; decide)
  refine hst.mono ?_
  clear hst
  rintro e w5 ⟨R, dj5, Fj5, FL5, As5, ns5, cs5, dx5, hW5, rfl, hV5, ho5, hf5⟩
  rw [S2.out, S1.out, S3.out] at hW5 hV5
  obtain ⟨T, rfl, hfrT, hoffT, haT, hmT, hopT⟩ := wr_step HFR.out HS0.out.1 HS0.out.2.1 (by rw [HS0.out.2.2.1]; decide) (by decide) (fun b er hb => vX_built hb) (.inl rfl) hW5
  have hV5' : VD w5 M Fj5 FL5 pv pj qf A nj cj dj5 As5 ns5 cs5 dx5 (openJ T) T [vX] false false := by
    have h := hV5
    rw [if_pos rfl, if_pos rfl] at h
    exact h
  have HV5 := hide hV5'
  have HT := hide (show Fresh T 1 ∧ T.off = false ∧ T.ahead < 0 ∧ T.most = 9 ∧ T.ops ≤ 1000 from ⟨hfrT, hoffT, by rw [haT]; exact HS0.out.2.1, by rw [hmT]; exact HS0.out.2.2.1, by have := HS0.out.2.2.2; omega⟩)
  rw [show codeV ((openJ T, T, (0 : Int)) : JS × FS × Int).2.2 = 0 from rfl, show ((0 : Nat) : Int) = 0 from rfl]
  have HF5 := hide (show ∀ g, Fj5 g ∨ FL5 g → ((w2.heap.size ≤ g ∧ g < w3.heap.size ∧ g ≠ pv) ∨ (w4.heap.size ≤ g ∧ g < w5.heap.size)) from fun g hg => (hf5 g hg).elim .inl (fun h => h.elim False.elim .inr))
  have HD5 := hide (HD4.out.keep (fun g hg hlt => ho5.block g hlt (fun hx => by
    have q2 := Z2.out
    have q3 := Z3.out
    have qa := Za.out
    have qp := HPV.out
    rcases hg with h | h <;> rcases hx with k | k | k
    · have := k.1; omega
    · have := (HQ2.out g k).1; omega
    · omega
    · have := k.2.1; omega
    · have := (HQ2.out g k).2; omega
    · omega)))
  have HB5 := hide (below_only ho5 HB4.out (fun i h => by
    have q1 := Z1.out
    have q2 := Z2.out
    rcases h with k | k | k
    · have := k.1; omega
    · have := (HQ2.out i k).1; omega
    · have := HPV.out.1; omega))
  have Z5 := hide ho5.size
  clear hW5 hV5 hV5' ho5 hf5 hfrT hoffT haT hmT hopT HV4 HD4 HFR HF2 HS0
  go_wp2_with fail
  have b1 := blk_one w5 5 #[.int .u8 7]
  have ha5 := below_alloc (Below.refl w5.heap.size w5) (.cells #[.int .u8 7] 5)
  obtain ⟨wb, hwb⟩ : ∃ W, W = w5.alloc (.cells #[.int .u8 7] 5) := ⟨_, rfl⟩
  rw [← hwb] at b1 ha5 ⊢
  have HDb := hide (HD5.out.below ha5)
  have HVb := hide (HV5.out.below ha5)
  have HBb := hide (below_step ha5 HB5.out)
  have Zb := hide ha5.size
  have Bm := hide b1
  clear ha5 hwb b1
  refine (dict_set 24576 0 _ 1 1 [7] _ HDb.out vE_sorted (by decide) rfl (by decide) (by decide) Bm.out.sl).mono ?_
  rintro e w6 ⟨V6, es6, rfl, hV6, hD6, ho6⟩
  rw [R3.out]
  have hV6' : V6 = [[7]] := hV6.trans R4.out
  subst hV6'
  have HDJ : Hid (∀ g, ((w.heap.size ≤ g ∧ g < w1.heap.size) ∨ (wa.heap.size ≤ g ∧ g < w4.heap.size)) → ¬ (Fj5 g ∨ qf.F g ∨ FL5 g ∨ g = pv)) := hide (by
    intro g hg hx
    have q2 := Z2.out
    have q3 := Z3.out
    have qa := Za.out
    have q4 := Z4.out
    have qp := HPV.out
    rcases hx with k | k | k | k
    · have h1 := HF5.out g (.inl k); omega
    · have h1 := HQ2.out g k; omega
    · have h1 := HF5.out g (.inr k); omega
    · omega)
  have HD6 := hide (hD6.mono (G := fun g => ((w.heap.size ≤ g ∧ g < w1.heap.size) ∨ (wa.heap.size ≤ g ∧ g < w4.heap.size)) ∨ (wb.heap.size ≤ g ∧ g < w6.heap.size)) (fun g hlt hg => hg.imp id (fun h => ⟨h, hlt⟩)))
  have HV6 := hide (HVb.out.only ho6 HDJ.out)
  have HB6 := hide (below_only ho6 HBb.out (fun i h => by
    have q1 := Z1.out
    have q2 := Z2.out
    have q3 := Z3.out
    have qa := Za.out
    rcases h with h | h
    · exact h.1
    · omega))
  have Z6 := hide ho6.size
  clear hV6 hD6 ho6 HVb HDb HV5 HD5
  go_wp2_with fail
  have HDK : Hid (∀ g, (((w.heap.size ≤ g ∧ g < w1.heap.size) ∨ (wa.heap.size ≤ g ∧ g < w4.heap.size)) ∨ (wb.heap.size ≤ g ∧ g < w6.heap.size)) → g < w6.heap.size ∧ ¬ (Fj5 g ∨ qf.F g ∨ FL5 g ∨ g = pv)) := hide (by
    intro g hg
    have q2 := Z2.out
    have q3 := Z3.out
    have qa := Za.out
    have q4 := Z4.out
    have q5 := Z5.out
    have qb := Zb.out
    have q6 := Z6.out
    have qp := HPV.out
    rcases hg with hg | hg
    · exact ⟨by omega, HDJ.out g hg⟩
    · refine ⟨hg.2, fun hx => ?_⟩
      rcases hx with k | k | k | k
      · have h1 := HF5.out g (.inl k); omega
      · have h1 := HQ2.out g k; omega
      · have h1 := HF5.out g (.inr k); omega
      · omega)
  have hld := va_load w6 HV6.out HD6.out vE_sorted (by decide) (fun g hg => ⟨(HDK.out g hg).1, fun hx => (HDK.out g hg).2 (hx.elim (fun h => .inr (.inr (.inl h))) (fun h => .inr (.inr (.inr h))))⟩)
  refine hld.mono ?_
  clear hld
  rintro e w7 ⟨V7, es7, rfl, hV7, hD7, ho7⟩
  rw [R7.out]
  have hV7' : V7 = [[5]] := hV7.trans R8.out
  subst hV7'
  have HD7 := hide hD7
  have HV7 := hide (HV6.out.only ho7 (fun g hg => (HDK.out g hg).2))
  have HB7 := hide (below_only ho7 HB6.out (fun i h => by
    have q1 := Z1.out
    have q2 := Z2.out
    have q3 := Z3.out
    have qa := Za.out
    have q4 := Z4.out
    have q5 := Z5.out
    have qb := Zb.out
    rcases h with (h | h) | h
    · exact h.1
    · omega
    · omega))
  have Z7 := hide ho7.size
  clear hV7 hD7 ho7 HV6 HD6
  go_wp2_with fail
  refine (dict_get 24576 0 _ HD7.out vE_sorted (by decide)).mono ?_
  rintro e w8 ⟨A8, m8, c8, b8, rfl, hO8, hb8, hw8⟩
  rw [R5.out] at hb8 ⊢
  have hb8' : b8 = [5] := by rw [hb8]; exact R6.out
  subst hb8'
  have hm8 : m8 = 1 := hO8.hn
  subst hm8
  have HO8 := hide hO8
  have HV8 := hide (HV7.out.below hw8)
  have HB8 := hide (below_step hw8 HB7.out)
  have Z8 := hide hw8.size
  clear hb8 hO8 hw8 HV7 HD7
  go_wp2_with fail
  refine (va_values w8 HV8.out).mono ?_
  rintro e w9 ⟨A9, n9, c9, ds9, rfl, hO9, hw9⟩
  have hn9 : n9 = 1 := by rw [hO9.hn, S4.out]; rfl
  subst hn9
  have HO9 := hide (HO8.out.below hw9)
  have HV9 := hide (HV8.out.below hw9)
  have HB9 := hide (below_step hw9 HB8.out)
  have Z9 := hide hw9.size
  clear hO9 hw9 HV8 HO8
  go_wp2_with fail
  have hrs := va_restore a 3 w9 HV9.out (HG.out.below HB9.out) (Nat.le_trans HM.out HB9.out.size) (.inr ⟨rfl, HT.out.2.1⟩) (by have := HT.out.2.2.2.2; omega) ⟨by decide, by decide⟩
  rw [S5.out] at hrs
  refine hrs.mono ?_
  clear hrs
  rintro e w10 ⟨R, dj10, Fj10, FL10, As10, ns10, cs10, dx10, hW10, rfl, hV10, ho10, _⟩
  obtain ⟨U, rfl, _⟩ := wr_step HT.out.1 HT.out.2.1 HT.out.2.2.1 (by rw [HT.out.2.2.2.1]; decide) (by decide) (fun b er hb => ⟨(nil_built hb).1, (nil_built hb).2.1⟩) (.inr ⟨rfl, fun b er hb => (nil_built hb).2.2⟩) hW10
  have hV10' : VD w10 M Fj10 FL10 pv pj qf A nj cj dj10 As10 ns10 cs10 dx10 (openJ U) U [] false false := by
    have h := hV10
    rw [if_pos rfl, if_pos rfl] at h
    exact h
  have HV10 := hide hV10'
  rw [show codeV ((openJ U, U, (0 : Int)) : JS × FS × Int).2.2 = 0 from rfl, show ((0 : Nat) : Int) = 0 from rfl]
  have hO10 : OwnB w10 w7.heap.size A8 1 c8 [5] := ⟨HO9.out.hn, HO9.out.own.keep (fun g hg hlt _ => ho10.block g hlt (fun hx => by
    have q2 := Z2.out
    have q3 := Z3.out
    have qa := Za.out
    have q4 := Z4.out
    have q5 := Z5.out
    have qb := Zb.out
    have q6 := Z6.out
    have q7 := Z7.out
    have qp := HPV.out
    rcases hx with k | k | k
    · have h1 := HF5.out g (.inl k); omega
    · have h1 := HQ2.out g k; omega
    · omega))⟩
  have hst10 := str_b c8 hO10.hn hO10.sl
  have HB10 := hide (below_only ho10 HB9.out (fun i h => by
    have q1 := Z1.out
    have q2 := Z2.out
    have q3 := Z3.out
    have qa := Za.out
    have q4 := Z4.out
    rcases h with k | k | k
    · have h1 := HF5.out i (.inl k); omega
    · have h1 := HQ2.out i k; omega
    · have := HPV.out.1; omega))
  clear hW10 hV10 hV10' ho10 hO10 HV9 HO9
  go_wp2_with fail
  refine (va_values w10 HV10.out).mono ?_
  rintro e w11 ⟨A11, n11, c11, ds11, rfl, hO11, hw11⟩
  have hn11 : n11 = 0 := by rw [hO11.hn, S6.out]; rfl
  subst hn11
  have HV11 := hide (HV10.out.below hw11)
  have HB11 := hide (below_step hw11 HB10.out)
  clear hO11 hw11 HV10 hst10
  go_wp2_with fail
  refine (va_store_no 5 _ _ HV11.out (by decide)).mono ?_
  rintro e w12 ⟨rfl, rfl⟩
  go_wp2_with fail
  refine (va_odd _ HV11.out).mono ?_
  rintro e w12 ⟨rfl, rfl⟩
  go_wp2_with fail
  refine (va_off _ HV11.out).mono ?_
  rintro e w12 ⟨rfl, rfl⟩
  go_wp2_with fail
  go_ret
  exact ⟨rfl, HB11.out⟩
end
end Go.Proofs.YtehabbnohoomjaaGreatDoor
