/- Package seg: Most, Fits, May, New, Busy, Drop, send, refuse, Abort, Answer; a server in memory. -/
import Derived.Test.YtimdmhhgomfijaaSegL
import Derived.Test.YtimdmhhgomfijaaDicD
import Derived.Test.YtimdmhhgomfijaaDicH
import Derived.Deep.DeepCutAuto
namespace Go.Proofs.Ytimdmhhgomfijaa
set_option linter.unusedVariables false
set_option linter.unusedSimpArgs false
set_option linter.unnecessarySimpa false
open Go.RowKit
set_option maxRecDepth 100000
set_option maxHeartbeats 4000000
theorem most_max (mx : Int) : max (0 : Int) (min mx 256) = if mx < 0 then 0 else if 256 < mx then 256 else mx := by
  (repeat' split) <;> omega
theorem seg_most (E : Ent) (A : Option Addr) (n c : Nat) (w : World) : Calls Try.prog 35 #[.agg (entV E A n c)] w fun e w' => e = .returned (.int .i64 (mostE E)) ∧ Below w.heap.size w w' := by
  obtain ⟨ix, sub, nm, ty, acc, mp, st, mx, lo, hi, df⟩ := E
  have q := blk_one w 24 (entV ⟨ix, sub, nm, ty, acc, mp, st, mx, lo, hi, df⟩ A n c)
  have hbw := below_alloc (Below.refl w.heap.size w) (.cells (entV ⟨ix, sub, nm, ty, acc, mp, st, mx, lo, hi, df⟩ A n c) 24)
  unfold entV at *
  go_enter Try.func35, Try.ntmps35
  go_wp2_with fail
  refine (ty_bits ty _).mono ?_
  rintro e w1 ⟨rfl, hb1⟩
  have q1 := q.below hb1 q.lt
  have hbw1 := below_step hb1 hbw
  by_cases hb : 0 < tyBits ty
  · have HM : Hid (mostE ⟨ix, sub, nm, ty, acc, mp, st, mx, lo, hi, df⟩ = tySize ty) := hide (by unfold mostE; rw [if_pos hb])
    have q1_c0 := q1.cell 0 rfl
    have q1_f0 := q1.frozen 0
    have q1_c1 := q1.cell 1 rfl
    have q1_f1 := q1.frozen 1
    have q1_c2 := q1.cell 2 rfl
    have q1_f2 := q1.frozen 2
    have q1_c3 := q1.cell 3 rfl
    have q1_f3 := q1.frozen 3
    have q1_c4 := q1.cell 4 rfl
    have q1_f4 := q1.frozen 4
    have q1_c5 := q1.cell 5 rfl
    have q1_f5 := q1.frozen 5
    have q1_c6 := q1.cell 6 rfl
    have q1_f6 := q1.frozen 6
    have q1_c7 := q1.cell 7 rfl
    have q1_f7 := q1.frozen 7
    have q1_c8 := q1.cell 8 rfl
    have q1_f8 := q1.frozen 8
    have q1_c9 := q1.cell 9 rfl
    have q1_f9 := q1.frozen 9
    have q1_c10 := q1.cell 10 rfl
    have q1_f10 := q1.frozen 10
    go_wp2_with fail
    refine (ty_size ty _).mono ?_
    rintro e w2 ⟨rfl, hb2⟩
    go_wp2_with fail
    go_ret
    exact ⟨ret_int HM.out.symm, below_step hb2 hbw1⟩
  · have HM : Hid (mostE ⟨ix, sub, nm, ty, acc, mp, st, mx, lo, hi, df⟩ = if mx < 0 then 0 else if 256 < mx then 256 else mx) := hide (by unfold mostE; rw [if_neg hb])
    have q1_c0 := q1.cell 0 rfl
    have q1_f0 := q1.frozen 0
    have q1_c1 := q1.cell 1 rfl
    have q1_f1 := q1.frozen 1
    have q1_c2 := q1.cell 2 rfl
    have q1_f2 := q1.frozen 2
    have q1_c3 := q1.cell 3 rfl
    have q1_f3 := q1.frozen 3
    have q1_c4 := q1.cell 4 rfl
    have q1_f4 := q1.frozen 4
    have q1_c5 := q1.cell 5 rfl
    have q1_f5 := q1.frozen 5
    have q1_c6 := q1.cell 6 rfl
    have q1_f6 := q1.frozen 6
    have q1_c7 := q1.cell 7 rfl
    have q1_f7 := q1.frozen 7
    have q1_c8 := q1.cell 8 rfl
    have q1_f8 := q1.frozen 8
    have q1_c9 := q1.cell 9 rfl
    have q1_f9 := q1.frozen 9
    have q1_c10 := q1.cell 10 rfl
    have q1_f10 := q1.frozen 10
    go_wp2_with fail
    all_goals
      go_ret
      refine ⟨ret_int ?_, hbw1⟩
      rw [HM.out]
      clear hbw1 hb1 hbw
      (repeat' split) <;> omega
theorem seg_fits (E : Ent) (k : Int) (A : Option Addr) (n c : Nat) (w : World) : Calls Try.prog 11 #[.agg (entV E A n c), .int .i64 k] w fun e w' => e = .returned (.int .u32 (fitsC E k)) ∧ Below w.heap.size w w' := by
  have HM := hide (fun W => seg_most E A n c W)
  have HF : Hid (fitsC E k = if mostE E < k then 101122066 else if k < tySize E.ty then 101122067 else 0) := hide rfl
  obtain ⟨m, hm⟩ : ∃ m, m = mostE E := ⟨_, rfl⟩
  rw [← hm] at HM HF
  obtain ⟨f, hf⟩ : ∃ f, f = fitsC E k := ⟨_, rfl⟩
  rw [← hf] at HF ⊢
  clear hm hf
  obtain ⟨ix, sub, nm, ty, acc, mp, st, mx, lo, hi, df⟩ := E
  have q := blk_one w 24 (entV ⟨ix, sub, nm, ty, acc, mp, st, mx, lo, hi, df⟩ A n c)
  have hbw := below_alloc (Below.refl w.heap.size w) (.cells (entV ⟨ix, sub, nm, ty, acc, mp, st, mx, lo, hi, df⟩ A n c) 24)
  unfold entV at *
  go_enter Try.func11, Try.ntmps11
  go_wp2_with fail
  refine (HM.out _).mono ?_
  rintro e w1 ⟨rfl, hb1⟩
  have q1 := q.below hb1 q.lt
  have hbw1 := below_step hb1 hbw
  by_cases h0 : m < k
  · have HR : Hid (f = 101122066) := hide (by rw [HF.out, if_pos h0])
    go_wp2_with fail
    go_ret
    exact ⟨ret_int HR.out.symm, hbw1⟩
  · have HR : Hid (f = if k < tySize ty then 101122067 else 0) := hide (by rw [HF.out, if_neg h0])
    have q1_c0 := q1.cell 0 rfl
    have q1_f0 := q1.frozen 0
    have q1_c1 := q1.cell 1 rfl
    have q1_f1 := q1.frozen 1
    have q1_c2 := q1.cell 2 rfl
    have q1_f2 := q1.frozen 2
    have q1_c3 := q1.cell 3 rfl
    have q1_f3 := q1.frozen 3
    have q1_c4 := q1.cell 4 rfl
    have q1_f4 := q1.frozen 4
    have q1_c5 := q1.cell 5 rfl
    have q1_f5 := q1.frozen 5
    have q1_c6 := q1.cell 6 rfl
    have q1_f6 := q1.frozen 6
    have q1_c7 := q1.cell 7 rfl
    have q1_f7 := q1.frozen 7
    have q1_c8 := q1.cell 8 rfl
    have q1_f8 := q1.frozen 8
    have q1_c9 := q1.cell 9 rfl
    have q1_f9 := q1.frozen 9
    have q1_c10 := q1.cell 10 rfl
    have q1_f10 := q1.frozen 10
    go_wp2_with fail
    refine (ty_size ty _).mono ?_
    rintro e w2 ⟨rfl, hb2⟩
    have hbw2 := below_step hb2 hbw1
    obtain ⟨s, hs⟩ : ∃ s, s = tySize ty := ⟨_, rfl⟩
    rw [← hs] at HR ⊢
    clear hs
    by_cases h1 : k < s
    · have HR2 : Hid (f = 101122067) := hide (by rw [HR.out, if_pos h1])
      go_wp2_with fail
      go_ret
      exact ⟨ret_int HR2.out.symm, hbw2⟩
    · have HR2 : Hid (f = 0) := hide (by rw [HR.out, if_neg h1])
      go_wp2_with fail
      go_ret
      exact ⟨ret_int HR2.out.symm, hbw2⟩
section
variable {F : Nat → Prop} {p n cl cv : Nat} {Av : Option Addr} {L : List Ent} {V : List (List UInt8)} {ds es : List (Option Addr × Nat)} {gl : Nat}
/-- May's answer -/
def SMayR (L : List Ent) (ix sub : Int) (w : World) (e : Ending) (w' : World) : Prop :=
  ∃ E A n c, e = .returned (.tuple #[.agg (entV E A n c), .int .u32 (smayC L ix sub)]) ∧ (smayC L ix sub = 0 → E = entK L (locK L ix sub)) ∧ Below w.heap.size w w'
theorem seg_may (ix sub : Int) (w : World) (hD : DB 75 w F p (some ⟨gl, 0, none⟩) n cl Av cv L V ds es) (hs : SortedE L) (hn : n ≤ 1000) :
    Calls Try.prog 63 #[.pointer (some ⟨p, 0, none⟩), .int .i64 ix, .int .i64 sub] w (SMayR L ix sub w) := by
  have HS := hide hs
  have H1 := hide hn
  have hbw := below_alloc (Below.refl w.heap.size w) (.cells (entV zeroE none 0 0) 24)
  have q := blk_one w 24 (entV zeroE none 0 0)
  have HD := hide (hD.below hbw)
  have HQ := hide q
  have HP : Hid (∀ w1 E A m c, Below w.heap.size w w1 → Blk w1 w.heap.size 24 (entV zeroE none 0 0) → Blk (put11 w1 w.heap.size E A m c) w.heap.size 24 (entV E A m c) ∧ Below w.heap.size w (put11 w1 w.heap.size E A m c)) := hide (by
    intro w1 E A m c hb hB
    have o1 := put11_only w1 w.heap.size E A m c
    exact ⟨put11_blk hB rfl E A m c, hb.trans (o1.below hb.size (fun i h => by omega))⟩)
  unfold put11 at HP
  have HP' := hide HP
  clear hD hs HP
  unfold entV zeroE at q hbw
  go_enter Try.func63, Try.ntmps63
  go_wp2_with fail
  refine (dict_find ix sub _ HD.out HS.out H1.out).mono ?_
  rintro e w1 ⟨rfl, hb1⟩
  have HD1 := hide (HD.out.below hb1)
  have hbw1 := below_step hb1 hbw
  have HQ1 := hide (HQ.out.below hb1 HQ.out.lt)
  have q1 := HQ1.out
  unfold entV zeroE at q1
  have q1_c0 := q1.cell 0 rfl
  have q1_f0 := q1.frozen 0
  have q1_c1 := q1.cell 1 rfl
  have q1_f1 := q1.frozen 1
  have q1_c2 := q1.cell 2 rfl
  have q1_f2 := q1.frozen 2
  have q1_c3 := q1.cell 3 rfl
  have q1_f3 := q1.frozen 3
  have q1_c4 := q1.cell 4 rfl
  have q1_f4 := q1.frozen 4
  have q1_c5 := q1.cell 5 rfl
  have q1_f5 := q1.frozen 5
  have q1_c6 := q1.cell 6 rfl
  have q1_f6 := q1.frozen 6
  have q1_c7 := q1.cell 7 rfl
  have q1_f7 := q1.frozen 7
  have q1_c8 := q1.cell 8 rfl
  have q1_f8 := q1.frozen 8
  have q1_c9 := q1.cell 9 rfl
  have q1_f9 := q1.frozen 9
  have q1_c10 := q1.cell 10 rfl
  have q1_f10 := q1.frozen 10
  by_cases hf : 0 ≤ findL L ix sub
  · obtain ⟨j, hj, hlj, hjl⟩ := find_nat hf
    obtain ⟨E, hE⟩ : ∃ E, L[j]? = some E := ⟨L[j], List.getElem?_eq_getElem _⟩
    have hh : hasL L ix sub = true := by simp [hasL, hf]
    have HC : Hid (smayC L ix sub = writeE E.acc) := hide (by unfold smayC; rw [if_pos (code_zero.2 hf), hlj, entK_at hE])
    have HK : Hid (E = entK L (locK L ix sub)) := hide (by rw [hlj, entK_at hE])
    rw [hh, hlj]
    have HE := hide hE
    clear hf hj hlj hh hE
    go_wp2_with fail
    refine (dict_entry_yes j E _ _ p gl n cl cv Av L V ds es HD1.out HE.out).mono ?_
    rintro e w2 ⟨A2, c2, rfl, hO2, hb2⟩
    clear hO2
    have hbw2 := below_step hb2 hbw1
    have HQ2 := hide (HQ1.out.below hb2 HQ1.out.lt)
    have HQ3 := hide (HQ2.out.alloc (.cells (entV E A2 E.df.length c2) 24))
    have hbw3 := below_alloc hbw2 (.cells (entV E A2 E.df.length c2) 24)
    have q3 := blk_one w2 24 (entV E A2 E.df.length c2)
    have HW := hide (fun W => ent_writable E A2 E.df.length c2 W)
    obtain ⟨wc, hwc⟩ : ∃ wc, wc = writeE E.acc := ⟨_, rfl⟩
    rw [← hwc] at HC HW
    clear hwc
    have HQ3b := hide HQ3
    clear HQ2
    unfold entV at HW q3 hbw3 ⊢
    clear q1_c0 q1_f0 q1_c1 q1_f1 q1_c2 q1_f2 q1_c3 q1_f3 q1_c4 q1_f4 q1_c5 q1_f5 q1_c6 q1_f6 q1_c7 q1_f7 q1_c8 q1_f8 q1_c9 q1_f9 q1_c10 q1_f10
    have q3_c0 := q3.cell 0 rfl
    have q3_f0 := q3.frozen 0
    have q3_c1 := q3.cell 1 rfl
    have q3_f1 := q3.frozen 1
    have q3_c2 := q3.cell 2 rfl
    have q3_f2 := q3.frozen 2
    have q3_c3 := q3.cell 3 rfl
    have q3_f3 := q3.frozen 3
    have q3_c4 := q3.cell 4 rfl
    have q3_f4 := q3.frozen 4
    have q3_c5 := q3.cell 5 rfl
    have q3_f5 := q3.frozen 5
    have q3_c6 := q3.cell 6 rfl
    have q3_f6 := q3.frozen 6
    have q3_c7 := q3.cell 7 rfl
    have q3_f7 := q3.frozen 7
    have q3_c8 := q3.cell 8 rfl
    have q3_f8 := q3.frozen 8
    have q3_c9 := q3.cell 9 rfl
    have q3_f9 := q3.frozen 9
    have q3_c10 := q3.cell 10 rfl
    have q3_f10 := q3.frozen 10
    go_wp2_with fail
    refine (HW.out _).mono ?_
    rintro e w4 ⟨rfl, hb4⟩
    have hbw4 := below_step hb4 hbw3
    have HQ4 := hide (HQ3b.out.out.below hb4 HQ3b.out.out.lt)
    have q4 := q3.below hb4 q3.lt
    have r4 := HQ4.out
    unfold entV zeroE at r4
    clear q3_c0 q3_f0 q3_c1 q3_f1 q3_c2 q3_f2 q3_c3 q3_f3 q3_c4 q3_f4 q3_c5 q3_f5 q3_c6 q3_f6 q3_c7 q3_f7 q3_c8 q3_f8 q3_c9 q3_f9 q3_c10 q3_f10
    have q4_c0 := q4.cell 0 rfl
    have q4_f0 := q4.frozen 0
    have q4_c1 := q4.cell 1 rfl
    have q4_f1 := q4.frozen 1
    have q4_c2 := q4.cell 2 rfl
    have q4_f2 := q4.frozen 2
    have q4_c3 := q4.cell 3 rfl
    have q4_f3 := q4.frozen 3
    have q4_c4 := q4.cell 4 rfl
    have q4_f4 := q4.frozen 4
    have q4_c5 := q4.cell 5 rfl
    have q4_f5 := q4.frozen 5
    have q4_c6 := q4.cell 6 rfl
    have q4_f6 := q4.frozen 6
    have q4_c7 := q4.cell 7 rfl
    have q4_f7 := q4.frozen 7
    have q4_c8 := q4.cell 8 rfl
    have q4_f8 := q4.frozen 8
    have q4_c9 := q4.cell 9 rfl
    have q4_f9 := q4.frozen 9
    have q4_c10 := q4.cell 10 rfl
    have q4_f10 := q4.frozen 10
    have r4_c0 := r4.cell 0 rfl
    have r4_f0 := r4.frozen 0
    have r4_c1 := r4.cell 1 rfl
    have r4_f1 := r4.frozen 1
    have r4_c2 := r4.cell 2 rfl
    have r4_f2 := r4.frozen 2
    have r4_c3 := r4.cell 3 rfl
    have r4_f3 := r4.frozen 3
    have r4_c4 := r4.cell 4 rfl
    have r4_f4 := r4.frozen 4
    have r4_c5 := r4.cell 5 rfl
    have r4_f5 := r4.frozen 5
    have r4_c6 := r4.cell 6 rfl
    have r4_f6 := r4.frozen 6
    have r4_c7 := r4.cell 7 rfl
    have r4_f7 := r4.frozen 7
    have r4_c8 := r4.cell 8 rfl
    have r4_f8 := r4.frozen 8
    have r4_c9 := r4.cell 9 rfl
    have r4_f9 := r4.frozen 9
    have r4_c10 := r4.cell 10 rfl
    have r4_f10 := r4.frozen 10
    by_cases h0 : wc = 0
    · subst h0
      go_wp2_with fail
      obtain ⟨r1, r2⟩ := HP'.out.out _ E A2 E.df.length c2 hbw4 HQ4.out
      exact ret_ent_tmp (E := E) (A := A2) (n := E.df.length) (c := c2) rfl rfl rfl r1 ⟨E, A2, _, c2, by rw [HC.out]; rfl, fun _ => HK.out, r2⟩
    · go_wp2_with fail
      obtain ⟨r1, r2⟩ := HP'.out.out _ zeroE none 0 0 hbw4 HQ4.out
      exact ret_ent_tmp (E := zeroE) (A := none) (n := 0) (c := 0) rfl rfl rfl r1 ⟨zeroE, none, 0, 0, by rw [HC.out]; rfl, fun h => absurd (by rw [← HC.out]; exact h) h0, r2⟩
  · have hh : hasL L ix sub = false := by simp [hasL, hf]
    have hlk : locK L ix sub = 0 := by unfold locK; omega
    have hcz : codeL L ix sub ≠ 0 := fun h => hf (code_zero.1 h)
    have HC : Hid (smayC L ix sub = mayC L ix sub [] false) := hide (by unfold smayC mayC; rw [if_neg hcz, if_neg hcz])
    have HCZ : Hid (mayC L ix sub [] false ≠ 0) := hide (by unfold mayC; rw [if_neg hcz]; exact hcz)
    rw [hh, hlk]
    clear hf hh hlk hcz
    go_wp2_with fail
    refine (dict_may ix sub none 0 0 [] _ HD1.out HS.out H1.out rfl (by omega) (by omega) (by intro j u hu; simp at hu)).mono ?_
    rintro e w2 ⟨rfl, hb2⟩
    have hbw2 := below_step hb2 hbw1
    have HQ2 := hide (HQ1.out.below hb2 HQ1.out.lt)
    have r2 := HQ2.out
    unfold entV zeroE at r2
    clear q1_c0 q1_f0 q1_c1 q1_f1 q1_c2 q1_f2 q1_c3 q1_f3 q1_c4 q1_f4 q1_c5 q1_f5 q1_c6 q1_f6 q1_c7 q1_f7 q1_c8 q1_f8 q1_c9 q1_f9 q1_c10 q1_f10
    have r2_c0 := r2.cell 0 rfl
    have r2_f0 := r2.frozen 0
    have r2_c1 := r2.cell 1 rfl
    have r2_f1 := r2.frozen 1
    have r2_c2 := r2.cell 2 rfl
    have r2_f2 := r2.frozen 2
    have r2_c3 := r2.cell 3 rfl
    have r2_f3 := r2.frozen 3
    have r2_c4 := r2.cell 4 rfl
    have r2_f4 := r2.frozen 4
    have r2_c5 := r2.cell 5 rfl
    have r2_f5 := r2.frozen 5
    have r2_c6 := r2.cell 6 rfl
    have r2_f6 := r2.frozen 6
    have r2_c7 := r2.cell 7 rfl
    have r2_f7 := r2.frozen 7
    have r2_c8 := r2.cell 8 rfl
    have r2_f8 := r2.frozen 8
    have r2_c9 := r2.cell 9 rfl
    have r2_f9 := r2.frozen 9
    have r2_c10 := r2.cell 10 rfl
    have r2_f10 := r2.frozen 10
    obtain ⟨cc, hcc⟩ : ∃ cc, cc = mayC L ix sub [] false := ⟨_, rfl⟩
    rw [← hcc] at HC HCZ ⊢
    clear hcc
    go_wp2_with fail
    obtain ⟨r1, r3⟩ := HP'.out.out _ zeroE none 0 0 hbw2 HQ2.out
    exact ret_ent_tmp (E := zeroE) (A := none) (n := 0) (c := 0) rfl rfl rfl r1 ⟨zeroE, none, 0, 0, by rw [HC.out]; rfl, fun h => absurd (by rw [← HC.out]; exact h) HCZ.out, r3⟩
end
end Go.Proofs.Ytimdmhhgomfijaa
