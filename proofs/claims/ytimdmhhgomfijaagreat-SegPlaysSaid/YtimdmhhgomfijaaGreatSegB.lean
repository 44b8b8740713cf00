/- Package seg: Most, Fits, May, New, Busy, Drop, send, refuse, Abort, Answer; a server in memory. -/
import Derived.Test.YtimdmhhgomfijaaGreatSegL
import Derived.Test.YtimdmhhgomfijaaGreatDicD
import Derived.Test.YtimdmhhgomfijaaGreatDicH
import Derived.Deep.DeepCutAuto
import Derived.Test.YtimdmhhgomfijaaGreatSegA
import Derived.Test.YtimdmhhgomfijaaGreatOwnF
import Derived.Deep.RegionHeld3
import Derived.RegionTactic
import Derived.Deep.Light
namespace Go.Proofs.YtimdmhhgomfijaaGreat
set_option linter.unusedVariables false
set_option linter.unusedSimpArgs false
set_option linter.unnecessarySimpa false
section
open Go.RowKit
set_option maxRecDepth 100000
set_option maxHeartbeats 4000000
theorem most_max (mx : Int) : max (0 : Int) (min mx 256) = if mx < 0 then 0 else if 256 < mx then 256 else mx := by
  (repeat' split) <;> omega
theorem seg_most (E : Ent) (A : Option Addr) (n c : Nat) (w : World) : Calls Tryz.prog 100 #[.agg (entV E A n c)] w fun e w' => e = .returned (.int .i64 (mostE E)) ∧ Below w.heap.size w w' := by
  obtain ⟨ix, sub, nm, ty, acc, mp, st, mx, lo, hi, df⟩ := E
  have q := blk_one w 67 (entV ⟨ix, sub, nm, ty, acc, mp, st, mx, lo, hi, df⟩ A n c)
  have hbw := below_alloc (Below.refl w.heap.size w) (.cells (entV ⟨ix, sub, nm, ty, acc, mp, st, mx, lo, hi, df⟩ A n c) 67)
  unfold entV at *
  go_enter Tryz.func100, Tryz.ntmps100
  go_wp2_with fail
  refine (ty_bits ty _).mono ?_
  rintro e w1 ⟨rfl, hb1⟩
  have q1 := q.below hb1 q.lt
  have hbw1 := below_step hb1 hbw
  by_cases hb : 0 < tyBits ty
  · have HM : Hid (mostE ⟨ix, sub, nm, ty, acc, mp, st, mx, lo, hi, df⟩ = tySize ty) := hide (by unfold mostE; rw [if_pos hb])
    obtain ⟨q1_c0, q1_c1, q1_c2, q1_c3, q1_c4, q1_c5, q1_c6, q1_c7, q1_c8, q1_c9, q1_c10⟩ := cel11 q1
    have q1_f := q1.frozen
    go_wp2_with fail
    refine (ty_size ty _).mono ?_
    rintro e w2 ⟨rfl, hb2⟩
    go_wp2_with fail
    go_ret
    exact ⟨ret_int HM.out.symm, below_step hb2 hbw1⟩
  · have HM : Hid (mostE ⟨ix, sub, nm, ty, acc, mp, st, mx, lo, hi, df⟩ = if mx < 0 then 0 else if 256 < mx then 256 else mx) := hide (by unfold mostE; rw [if_neg hb])
    obtain ⟨q1_c0, q1_c1, q1_c2, q1_c3, q1_c4, q1_c5, q1_c6, q1_c7, q1_c8, q1_c9, q1_c10⟩ := cel11 q1
    have q1_f := q1.frozen
    go_wp2_with fail
    all_goals
      go_ret
      refine ⟨ret_int ?_, hbw1⟩
      rw [HM.out]
      clear hbw1 hb1 hbw
      (repeat' split) <;> omega
theorem seg_fits (E : Ent) (k : Int) (A : Option Addr) (n c : Nat) (w : World) : Calls Tryz.prog 98 #[.agg (entV E A n c), .int .i64 k] w fun e w' => e = .returned (.int .u32 (fitsC E k)) ∧ Below w.heap.size w w' := by
  have HM := hide (fun W => seg_most E A n c W)
  have HF : Hid (fitsC E k = if mostE E < k then 101122066 else if k < tySize E.ty then 101122067 else 0) := hide rfl
  obtain ⟨m, hm⟩ : ∃ m, m = mostE E := ⟨_, rfl⟩
  rw [← hm] at HM HF
  obtain ⟨f, hf⟩ : ∃ f, f = fitsC E k := ⟨_, rfl⟩
  rw [← hf] at HF ⊢
  clear hm hf
  obtain ⟨ix, sub, nm, ty, acc, mp, st, mx, lo, hi, df⟩ := E
  have q := blk_one w 67 (entV ⟨ix, sub, nm, ty, acc, mp, st, mx, lo, hi, df⟩ A n c)
  have hbw := below_alloc (Below.refl w.heap.size w) (.cells (entV ⟨ix, sub, nm, ty, acc, mp, st, mx, lo, hi, df⟩ A n c) 67)
  unfold entV at *
  go_enter Tryz.func98, Tryz.ntmps98
  go_wp2_with fail
  refine (HM.out _).mono ?_
  rintro e w1 ⟨rfl, hb1⟩
  have q1 := q.below hb1 q.lt
  have hbw1 := below_step hb1 hbw
  by_cases h0 : m < k
  · have HR : Hid (f = 101122066) := hide (by rw [HF.out, if_pos h0])
    go_wp2_with fail
    go_ret
    exact ⟨ret_int HR.out.symm, hbw1⟩
  · have HR : Hid (f = if k < tySize ty then 101122067 else 0) := hide (by rw [HF.out, if_neg h0])
    obtain ⟨q1_c0, q1_c1, q1_c2, q1_c3, q1_c4, q1_c5, q1_c6, q1_c7, q1_c8, q1_c9, q1_c10⟩ := cel11 q1
    have q1_f := q1.frozen
    go_wp2_with fail
    refine (ty_size ty _).mono ?_
    rintro e w2 ⟨rfl, hb2⟩
    have hbw2 := below_step hb2 hbw1
    obtain ⟨s, hs⟩ : ∃ s, s = tySize ty := ⟨_, rfl⟩
    rw [← hs] at HR ⊢
    clear hs
    by_cases h1 : k < s
    · have HR2 : Hid (f = 101122067) := hide (by rw [HR.out, if_pos h1])
      go_wp2_with fail
      go_ret
      exact ⟨ret_int HR2.out.symm, hbw2⟩
    · have HR2 : Hid (f = 0) := hide (by rw [HR.out, if_neg h1])
      go_wp2_with fail
      go_ret
      exact ⟨ret_int HR2.out.symm, hbw2⟩
section
variable {F : Nat → Prop} {p n cl cv : Nat} {Av : Option Addr} {L : List Ent} {V : List (List UInt8)} {ds es : List (Option Addr × Nat)} {gl : Nat}
/-- May's answer -/
def SMayR (L : List Ent) (ix sub : Int) (w : World) (e : Ending) (w' : World) : Prop :=
  ∃ E A n c, e = .returned (.tuple #[.agg (entV E A n c), .int .u32 (smayC L ix sub)]) ∧ (smayC L ix sub = 0 → E = entK L (locK L ix sub)) ∧ Below w.heap.size w w'
theorem seg_may (ix sub : Int) (w : World) (hD : DB 76 w F p (some ⟨gl, 0, none⟩) n cl Av cv L V ds es) (hs : SortedE L) (hn : n ≤ 1000) :
    Calls Tryz.prog 97 #[.pointer (some ⟨p, 0, none⟩), .int .i64 ix, .int .i64 sub] w (SMayR L ix sub w) := by
  have HS := hide hs
  have H1 := hide hn
  have hbw := below_alloc (Below.refl w.heap.size w) (.cells (entV zeroE none 0 0) 67)
  have q := blk_one w 67 (entV zeroE none 0 0)
  have HD := hide (hD.below hbw)
  have HQ := hide q
  have HP : Hid (∀ w1 E A m c, Below w.heap.size w w1 → Blk w1 w.heap.size 67 (entV zeroE none 0 0) → Blk (put11 w1 w.heap.size E A m c) w.heap.size 67 (entV E A m c) ∧ Below w.heap.size w (put11 w1 w.heap.size E A m c)) := hide (by
    intro w1 E A m c hb hB
    have o1 := put11_only w1 w.heap.size E A m c
    exact ⟨put11_blk hB rfl E A m c, hb.trans (o1.below hb.size (fun i h => by omega))⟩)
  unfold put11 at HP
  have HP' := hide HP
  clear hD hs HP
  unfold entV zeroE at q hbw
  go_enter Tryz.func97, Tryz.ntmps97
  go_wp2_with fail
  refine (dict_find ix sub _ HD.out HS.out H1.out).mono ?_
  rintro e w1 ⟨rfl, hb1⟩
  have HD1 := hide (HD.out.below hb1)
  have hbw1 := below_step hb1 hbw
  have HQ1 := hide (HQ.out.below hb1 HQ.out.lt)
  have q1 := HQ1.out
  unfold entV zeroE at q1
  obtain ⟨q1_c0, q1_c1, q1_c2, q1_c3, q1_c4, q1_c5, q1_c6, q1_c7, q1_c8, q1_c9, q1_c10⟩ := cel11 q1
  have q1_f := q1.frozen
  by_cases hf : 0 ≤ findL L ix sub
  · obtain ⟨j, hj, hlj, hjl⟩ := find_nat hf
    obtain ⟨E, hE⟩ : ∃ E, L[j]? = some E := ⟨L[j], List.getElem?_eq_getElem _⟩
    have hh : hasL L ix sub = true := by simp [hasL, hf]
    have HC : Hid (smayC L ix sub = writeE E.acc) := hide (by unfold smayC; rw [if_pos (code_zero.2 hf), hlj, entK_at hE])
    have HK : Hid (E = entK L (locK L ix sub)) := hide (by rw [hlj, entK_at hE])
    rw [hh, hlj]
    have HE := hide hE
    clear hf hj hlj hh hE
    go_wp2_with fail
    refine (dict_entry_yes j E _ _ p gl n cl cv Av L V ds es HD1.out HE.out).mono ?_
    rintro e w2 ⟨A2, c2, rfl, hO2, hb2⟩
    clear hO2
    have hbw2 := below_step hb2 hbw1
    have HQ2 := hide (HQ1.out.below hb2 HQ1.out.lt)
    have HQ3 := hide (HQ2.out.alloc (.cells (entV E A2 E.df.length c2) 67))
    have hbw3 := below_alloc hbw2 (.cells (entV E A2 E.df.length c2) 67)
    have q3 := blk_one w2 67 (entV E A2 E.df.length c2)
    have HW := hide (fun W => ent_writable E A2 E.df.length c2 W)
    obtain ⟨wc, hwc⟩ : ∃ wc, wc = writeE E.acc := ⟨_, rfl⟩
    rw [← hwc] at HC HW
    clear hwc
    have HQ3b := hide HQ3
    clear HQ2
    unfold entV at HW q3 hbw3 ⊢
    clear q1_c0 q1_c1 q1_c2 q1_c3 q1_c4 q1_c5 q1_c6 q1_c7 q1_c8 q1_c9 q1_c10 q1_f
    obtain ⟨q3_c0, q3_c1, q3_c2, q3_c3, q3_c4, q3_c5, q3_c6, q3_c7, q3_c8, q3_c9, q3_c10⟩ := cel11 q3
    have q3_f := q3.frozen
    go_wp2_with fail
    refine (HW.out _).mono ?_
    rintro e w4 ⟨rfl, hb4⟩
    have hbw4 := below_step hb4 hbw3
    have HQ4 := hide (HQ3b.out.out.below hb4 HQ3b.out.out.lt)
    have q4 := q3.below hb4 q3.lt
    have r4 := HQ4.out
    unfold entV zeroE at r4
    clear q3_c0 q3_c1 q3_c2 q3_c3 q3_c4 q3_c5 q3_c6 q3_c7 q3_c8 q3_c9 q3_c10 q3_f
    obtain ⟨q4_c0, q4_c1, q4_c2, q4_c3, q4_c4, q4_c5, q4_c6, q4_c7, q4_c8, q4_c9, q4_c10⟩ := cel11 q4
    have q4_f := q4.frozen
    obtain ⟨r4_c0, r4_c1, r4_c2, r4_c3, r4_c4, r4_c5, r4_c6, r4_c7, r4_c8, r4_c9, r4_c10⟩ := cel11 r4
    have r4_f := r4.frozen
    by_cases h0 : wc = 0
    · subst h0
      go_wp2_with fail
      obtain ⟨r1, r2⟩ := HP'.out.out _ E A2 E.df.length c2 hbw4 HQ4.out
      exact ret_ent_tmp (E := E) (A := A2) (n := E.df.length) (c := c2) rfl rfl rfl r1 ⟨E, A2, _, c2, by rw [HC.out]; rfl, fun _ => HK.out, r2⟩
    · go_wp2_with fail
      obtain ⟨r1, r2⟩ := HP'.out.out _ zeroE none 0 0 hbw4 HQ4.out
      exact ret_ent_tmp (E := zeroE) (A := none) (n := 0) (c := 0) rfl rfl rfl r1 ⟨zeroE, none, 0, 0, by rw [HC.out]; rfl, fun h => absurd (by rw [← HC.out]; exact h) h0, r2⟩
  · have hh : hasL L ix sub = false := by simp [hasL, hf]
    have hlk : locK L ix sub = 0 := by unfold locK; omega
    have hcz : codeL L ix sub ≠ 0 := fun h => hf (code_zero.1 h)
    have HC : Hid (smayC L ix sub = mayC L ix sub [] false) := hide (by unfold smayC mayC; rw [if_neg hcz, if_neg hcz])
    have HCZ : Hid (mayC L ix sub [] false ≠ 0) := hide (by unfold mayC; rw [if_neg hcz]; exact hcz)
    rw [hh, hlk]
    clear hf hh hlk hcz
    go_wp2_with fail
    refine (dict_may ix sub none 0 0 [] _ HD1.out HS.out H1.out rfl (by omega) (by omega) (by intro j u hu; simp at hu)).mono ?_
    rintro e w2 ⟨rfl, hb2⟩
    have hbw2 := below_step hb2 hbw1
    have HQ2 := hide (HQ1.out.below hb2 HQ1.out.lt)
    have r2 := HQ2.out
    unfold entV zeroE at r2
    clear q1_c0 q1_c1 q1_c2 q1_c3 q1_c4 q1_c5 q1_c6 q1_c7 q1_c8 q1_c9 q1_c10 q1_f
    obtain ⟨r2_c0, r2_c1, r2_c2, r2_c3, r2_c4, r2_c5, r2_c6, r2_c7, r2_c8, r2_c9, r2_c10⟩ := cel11 r2
    have r2_f := r2.frozen
    obtain ⟨cc, hcc⟩ : ∃ cc, cc = mayC L ix sub [] false := ⟨_, rfl⟩
    rw [← hcc] at HC HCZ ⊢
    clear hcc
    go_wp2_with fail
    obtain ⟨r1, r3⟩ := HP'.out.out _ zeroE none 0 0 hbw2 HQ2.out
    exact ret_ent_tmp (E := zeroE) (A := none) (n := 0) (c := 0) rfl rfl rfl r1 ⟨zeroE, none, 0, 0, by rw [HC.out]; rfl, fun h => absurd (by rw [← HC.out]; exact h) HCZ.out, r3⟩
end
end
section
open Go.RowKit
set_option maxRecDepth 100000
set_option maxHeartbeats 4000000
def srvV (S : SegS) (pd : Nat) (A : Option Addr) (n c : Nat) : Array Value := #[.pointer (some ⟨pd, 0, none⟩), .int .i64 S.st, .int .i64 S.ix, .int .i64 S.sub, .int .i64 S.mo, .int .i64 S.sz, .slice A n c, .bool S.tg, .int .i64 S.wk, .int .i64 S.wi, .int .i64 S.ws, .bool S.wt, .bool false, .bool false, .bool false, .int .u32 0, .int .u32 0, .slice none 0 0, .int .i64 0, .int .i64 0, .int .i64 0, .int .u16 0]
/-- a server at block p over the dictionary at block pd; its bytes lie in blocks of F -/
structure SB (w : World) (F : Nat → Prop) (p pd : Nat) (S : SegS) : Prop where
  nF : ¬ F p
  some_ : ∃ A n c, Blk w p 86 (srvV S pd A n c) ∧ ((S.st = 1 ∨ S.st = 2) → n = S.b.length ∧ n ≤ c ∧ Sl w A (S.b.map bv) ∧ ∀ ad, A = some ad → F ad.block ∧ ad.block < w.heap.size)
def outV (As : Option Addr) (ns cs : Nat) (O : SegO) (A : Option Addr) (n c : Nat) : Array Value := #[.slice As ns cs, .bool O.wr, .int .i64 O.ix, .int .i64 O.sub, .slice A n c]
theorem out_size : (Tryz.prog.info? 70).map (·.size) = some 5 := by kernel_rfl
/-- a result of type Out, whole -/
theorem ret_out {fn : Func} {p : Tmp} (h : fn.results = #[.cell p 70]) {a : Act} {w : World} {g : Nat} {As : Option Addr} {ns cs : Nat} {O : SegO} {A : Option Addr} {n c : Nat} {R : Ending → World → Prop} (hd : a.defers = []) (hp : a.tmps.getD p undef = .pointer (some ⟨g, 0, none⟩))
    (hB : Blk w g 70 (outV As ns cs O A n c)) (hR : R (.returned (.agg (outV As ns cs O A n c))) w) : bodyPost Tryz.prog fn R .ret a w :=
  bodyPost_ret (results_cell_row h _ _ _ _ _ _ _ hp hB Tryz.underlying70 rfl out_size) hd hR
/-- a result of type Out, stored anew -/
def putO (w : World) (g : Nat) (As : Option Addr) (ns cs : Nat) (O : SegO) (A : Option Addr) (n c : Nat) : World := ((((w.setCell ⟨g, 0, none⟩ (.slice As ns cs)).setCell ⟨g, 1, none⟩ (.bool O.wr)).setCell ⟨g, 2, none⟩ (.int .i64 O.ix)).setCell ⟨g, 3, none⟩ (.int .i64 O.sub)).setCell ⟨g, 4, none⟩ (.slice A n c)
theorem putO_blk {w : World} {g : Nat} {As As' : Option Addr} {ns cs ns' cs' : Nat} {O O' : SegO} {A A' : Option Addr} {n c n' c' : Nat} (h : Blk w g 70 (outV As ns cs O A n c)) : Blk (putO w g As' ns' cs' O' A' n' c') g 70 (outV As' ns' cs' O' A' n' c') :=
  ((((h.set_ 0 (.slice As' ns' cs')).set_ 1 (.bool O'.wr)).set_ 2 (.int .i64 O'.ix)).set_ 3 (.int .i64 O'.sub)).set_ 4 (.slice A' n' c')
theorem putO_far {w : World} {g p : Nat} {t : TypeId} {arr : Array Value} (h : Blk w p t arr) (hne : p ≠ g) (As : Option Addr) (ns cs : Nat) (O : SegO) (A : Option Addr) (n c : Nat) : Blk (putO w g As ns cs O A n c) p t arr :=
  (((((h.far (p := ⟨g, 0, none⟩) hne _).far (p := ⟨g, 1, none⟩) hne _).far (p := ⟨g, 2, none⟩) hne _).far (p := ⟨g, 3, none⟩) hne _).far (p := ⟨g, 4, none⟩) hne _)
theorem putO_only {F : Nat → Prop} {w W : World} {g : Nat} (h : Only F w W) (hg : w.heap.size ≤ g) (As : Option Addr) (ns cs : Nat) (O : SegO) (A : Option Addr) (n c : Nat) : Only F w (putO W g As ns cs O A n c) :=
  ((((h.setNew hg _).setNew hg _).setNew hg _).setNew hg _).setNew hg _
theorem putO_own {w : World} {B g n c : Nat} {A : Option Addr} {l : List UInt8} (h : OwnB w B A n c l) (hg : g < B) (As : Option Addr) (ns cs : Nat) (O : SegO) (A2 : Option Addr) (n2 c2 : Nat) : OwnB (putO w g As ns cs O A2 n2 c2) B A n c l :=
  ((((h.set_ (p := ⟨g, 0, none⟩) hg _).set_ (p := ⟨g, 1, none⟩) hg _).set_ (p := ⟨g, 2, none⟩) hg _).set_ (p := ⟨g, 3, none⟩) hg _).set_ (p := ⟨g, 4, none⟩) hg _
theorem seg_new (pd : Nat) (w : World) : Calls Tryz.prog 10 #[.pointer (some ⟨pd, 0, none⟩)] w fun e w' => e = .returned (.pointer (some ⟨w.heap.size, 0, none⟩)) ∧ Blk w' w.heap.size 86 (srvV segZ pd none 0 0) ∧ Below w.heap.size w w' ∧ w'.heap.size = w.heap.size + 1 := by
  have q := blk_one w 86 (srvV segZ pd none 0 0)
  have hbw := below_alloc (Below.refl w.heap.size w) (.cells (srvV segZ pd none 0 0) 86)
  have HQ := hide q
  have HB := hide hbw
  clear q hbw
  unfold srvV segZ at *
  go_enter Tryz.func10, Tryz.ntmps10
  go_wp2_with fail
  go_ret
  exact ⟨rfl, HQ.out, HB.out, by simp⟩
theorem seg_new0 (w : World) : Calls Tryz.prog 10 #[.pointer none] w fun e w' => e = .returned (.pointer none) ∧ w = w' := by
  go_enter Tryz.func10, Tryz.ntmps10
  go_wp2_with fail
  go_ret
  exact ⟨rfl, rfl⟩
theorem seg_busy (p pd : Nat) (S : SegS) (A : Option Addr) (n c : Nat) (w : World) (hB : Blk w p 86 (srvV S pd A n c)) : Calls Tryz.prog 13 #[.pointer (some ⟨p, 0, none⟩)] w fun e w' => e = .returned (.bool (S.st != 0)) ∧ w = w' := by
  have c1 : w.cell? ⟨p, 1, none⟩ = some (.int .i64 S.st) := hB.cell 1 rfl
  go_enter Tryz.func13, Tryz.ntmps13
  go_wp2_with fail
  go_ret
  exact ⟨rfl, rfl⟩
theorem seg_busy0 (w : World) : Calls Tryz.prog 13 #[.pointer none] w fun e w' => e = .returned (.bool false) ∧ w = w' := by
  go_enter Tryz.func13, Tryz.ntmps13
  go_wp2_with fail
  go_ret
  exact ⟨rfl, rfl⟩
theorem seg_refuse (ix sub : Int) (code : Nat) (w : World) : Calls Tryz.prog 57 #[.int .i64 ix, .int .i64 sub, .int .u32 (code : Nat)] w fun e w' => e = .returned (.slice (some ⟨w.heap.size, 0, none⟩) 1 1) ∧ Blk w' w.heap.size 72 (msV (abM ix sub code) none 0 0) ∧ Below w.heap.size w w' ∧ w'.heap.size = w.heap.size + 1 := by
  have q := blk_one w 72 (msV (abM ix sub code) none 0 0)
  have hbw := below_alloc (Below.refl w.heap.size w) (.cells (msV (abM ix sub code) none 0 0) 72)
  have HQ := hide q
  have HB := hide hbw
  clear q hbw
  unfold msV abM at *
  go_enter Tryz.func57, Tryz.ntmps57
  go_wp2_with fail
  go_ret
  exact ⟨rfl, HQ.out, HB.out, by simp⟩
theorem seg_send (M : Ms) (A : Option Addr) (n c : Nat) (w : World) : Calls Tryz.prog 101 #[.agg (msV M A n c)] w fun e w' => ∃ g, w.heap.size ≤ g ∧ e = .returned (.agg (outV (some ⟨g, 0, none⟩) 1 1 outZ none 0 0)) ∧ Blk w' g 72 (msV M A n c) ∧ Below w.heap.size w w' := by
  obtain ⟨k1, k2, k3⟩ := blk_three w 72 70 72 (msV M A n c) (outV (some ⟨w.heap.size + 1 + 1, 0, none⟩) 1 1 outZ none 0 0) (msV M A n c)
  have hbw := below_alloc (below_alloc (below_alloc (Below.refl w.heap.size w) (.cells (msV M A n c) 72)) (.cells (outV (some ⟨w.heap.size + 1 + 1, 0, none⟩) 1 1 outZ none 0 0) 70)) (.cells (msV M A n c) 72)
  have HK2 := hide k2
  have HK3 := hide k3
  have HB := hide hbw
  clear k1 k2 k3 hbw
  obtain ⟨kind, ix, sub, tg, la, cr, sz, size, code, data, sq, bl, em, sum⟩ := M
  unfold msV at *
  go_enter Tryz.func101, Tryz.ntmps101
  go_wp2_with fail
  exact ret_out (O := outZ) rfl rfl rfl HK2.out ⟨w.heap.size + 1 + 1, by omega, rfl, HK3.out, HB.out⟩
theorem seg_abort (p pd : Nat) (S : SegS) (code : Nat) (A : Option Addr) (n c : Nat) (w : World) (hB : Blk w p 86 (srvV S pd A n c)) :
    Calls Tryz.prog 39 #[.pointer (some ⟨p, 0, none⟩), .int .u32 (code : Nat)] w fun e w' => (S.st = 0 → e = .returned (.slice none 0 0) ∧ w' = w) ∧
      (S.st ≠ 0 → ∃ g, w.heap.size ≤ g ∧ e = .returned (.slice (some ⟨g, 0, none⟩) 1 1) ∧ Blk w' g 72 (msV (abM S.ix S.sub code) none 0 0) ∧ Blk w' p 86 (srvV (abortS S) pd A n c) ∧ Only (fun k => k = p) w w') := by
  have HB := hide hB
  clear hB
  by_cases h0 : S.st = 0
  · have hf : (S.st != 0) = false := by simp [h0]
    go_enter Tryz.func39, Tryz.ntmps39
    go_wp2_with fail
    refine (seg_busy p pd S A n c _ HB.out).mono ?_
    rintro e w1 ⟨rfl, rfl⟩
    rw [hf]
    go_wp2_with fail
    go_ret
    exact ⟨fun _ => ⟨rfl, rfl⟩, fun h => absurd h0 h⟩
  · have hf : (S.st != 0) = true := by simp [h0]
    have hs : Hid (Blk (w.setCell ⟨p, 1, none⟩ (.int .i64 0)) p 86 (srvV (abortS S) pd A n c)) := hide (HB.out.set_ 1 (.int .i64 0))
    have ho : Only (fun k => k = p) w (w.setCell ⟨p, 1, none⟩ (.int .i64 0)) := Only.of_set (F := fun k => k = p) rfl _
    have hz := HB.out.lt
    have qB := HB.out
    unfold srvV at qB
    have c1 : w.cell? ⟨p, 1, none⟩ = some (.int .i64 S.st) := HB.out.cell 1 rfl
    have f1 := HB.out.frozen 1
    have q' := hs.out
    unfold srvV abortS at q'
    have hz0 : (w.setCell ⟨p, 1, none⟩ (.int .i64 0)).heap.size = w.heap.size := by simp [World.setCell]
    have d2 : (w.setCell ⟨p, 1, none⟩ (.int .i64 0)).cell? ⟨p, 2, none⟩ = some (.int .i64 S.ix) := q'.cell 2 rfl
    have d3 : (w.setCell ⟨p, 1, none⟩ (.int .i64 0)).cell? ⟨p, 3, none⟩ = some (.int .i64 S.sub) := q'.cell 3 rfl
    go_enter Tryz.func39, Tryz.ntmps39
    go_wp2_with fail
    refine (seg_busy p pd S A n c _ HB.out).mono ?_
    rintro e w1 ⟨rfl, rfl⟩
    rw [hf]
    clear qB q'
    go_wp2_with fail
    refine wp_region_held_drew (S := (fun w' => (∀ qA : Addr, qA.block < ((w.setCell ⟨p, 1, none⟩ (.int .i64 0))).heap.size → w'.cell? qA = ((w.setCell ⟨p, 1, none⟩ (.int .i64 0))).cell? qA) ∧ Below ((w.setCell ⟨p, 1, none⟩ (.int .i64 0))).heap.size ((w.setCell ⟨p, 1, none⟩ (.int .i64 0))) w')) (by kernel_rfl) ?hS1 (fun hHeld => ?rest1)
    case hS1 => ((try dsimp only); (((try go_split_ands); refine sn_of ?_; repeat' (first | with_reducible assumption | with_reducible exact Below.refl _ _ | with_reducible apply below_alloc | with_reducible apply below_drew1 | with_reducible apply below_drewN | (with_reducible apply below_step; with_reducible assumption) | (with_reducible apply below_sg2; (first | exact Nat.le_refl _ | (simp; done) | omega))))))
    case' rest1 => skip
    refine wpAnyH_take (i := 0) (oi := _) (v := ?v2) rfl (by kernel_rfl) (by kernel_rfl) (by kernel_rfl) (fun _ _ _ h => h) (Or.inl ⟨by rfl, ?hy2⟩) (by assumption) ?rest2
    case hy2 => ((intro w hSw; (try dsimp only at hSw); go_simp) <;> with_reducible rfl)
    case' rest2 => try simp only [List.getElem_toArray, List.getElem_cons_zero, List.getElem_cons_succ, Act.put, List.setIfInBounds_toArray, List.set_cons_zero, List.set_cons_succ]
    refine wpAnyH_take (i := 1) (oi := _) (v := ?v3) rfl (by kernel_rfl) (by kernel_rfl) (by kernel_rfl) (fun _ _ _ h => h) (Or.inl ⟨by rfl, ?hy3⟩) (by assumption) ?rest3
    case hy3 => ((intro w hSw; (try dsimp only at hSw); go_simp) <;> with_reducible rfl)
    case' rest3 => try simp only [List.getElem_toArray, List.getElem_cons_zero, List.getElem_cons_succ, Act.put, List.setIfInBounds_toArray, List.set_cons_zero, List.set_cons_succ]
    refine wpAnyH_take (i := 2) (oi := _) (v := ?v4) rfl (by kernel_rfl) (by kernel_rfl) (by kernel_rfl) (fun _ _ _ h => h) (Or.inl ⟨by rfl, ?hy4⟩) (by assumption) ?rest4
    case hy4 => ((intro w hSw; (try dsimp only at hSw); go_simp) <;> with_reducible rfl)
    case' rest4 => try simp only [List.getElem_toArray, List.getElem_cons_zero, List.getElem_cons_succ, Act.put, List.setIfInBounds_toArray, List.set_cons_zero, List.set_cons_succ]
    refine wpAnyH_take (i := 3) (oi := _) (v := ?v5) rfl (by kernel_rfl) (by kernel_rfl) (by kernel_rfl) (fun _ _ _ h => h) (Or.inl ⟨by rfl, ?hy5⟩) (by assumption) ?rest5
    case hy5 => ((intro w hSw; (try dsimp only at hSw); go_simp) <;> with_reducible rfl)
    case' rest5 => try simp only [List.getElem_toArray, List.getElem_cons_zero, List.getElem_cons_succ, Act.put, List.setIfInBounds_toArray, List.set_cons_zero, List.set_cons_succ]
    refine wpAnyH_take (i := 4) (oi := _) (v := ?v6) rfl (by kernel_rfl) (by kernel_rfl) (by kernel_rfl) (fun _ _ _ h => h) (Or.inl ⟨by rfl, ?hy6⟩) (by assumption) ?rest6
    case hy6 => ((intro w hSw; (try dsimp only at hSw); go_simp) <;> with_reducible rfl)
    case' rest6 => try simp only [List.getElem_toArray, List.getElem_cons_zero, List.getElem_cons_succ, Act.put, List.setIfInBounds_toArray, List.set_cons_zero, List.set_cons_succ]
    refine wpAnyH_take (i := 5) (oi := _) (v := ?v7) rfl (by kernel_rfl) (by kernel_rfl) (by kernel_rfl) (fun _ _ _ h => h) (Or.inl ⟨by rfl, ?hy7⟩) (by assumption) ?rest7
    case hy7 => ((intro w hSw; (try dsimp only at hSw); go_simp) <;> with_reducible rfl)
    case' rest7 => try simp only [List.getElem_toArray, List.getElem_cons_zero, List.getElem_cons_succ, Act.put, List.setIfInBounds_toArray, List.set_cons_zero, List.set_cons_succ]
    refine wpAnyH_take (i := 6) (oi := _) (v := ?v8) rfl (by kernel_rfl) (by kernel_rfl) (by kernel_rfl) (fun _ _ _ h => h) (Or.inl ⟨by rfl, ?hy8⟩) (by assumption) ?rest8
    case hy8 => ((intro w hSw; (try dsimp only at hSw); go_simp) <;> with_reducible rfl)
    case' rest8 => try simp only [List.getElem_toArray, List.getElem_cons_zero, List.getElem_cons_succ, Act.put, List.setIfInBounds_toArray, List.set_cons_zero, List.set_cons_succ]
    refine wpAnyH_take (i := 7) (oi := _) (v := ?v9) rfl (by kernel_rfl) (by kernel_rfl) (by kernel_rfl) (fun _ _ _ h => h) (Or.inl ⟨by rfl, ?hy9⟩) (by assumption) ?rest9
    case hy9 => ((intro w hSw; (try dsimp only at hSw); go_simp) <;> with_reducible rfl)
    case' rest9 => try simp only [List.getElem_toArray, List.getElem_cons_zero, List.getElem_cons_succ, Act.put, List.setIfInBounds_toArray, List.set_cons_zero, List.set_cons_succ]
    refine wpAnyH_take (i := 8) (oi := _) (v := ?v10) rfl (by kernel_rfl) (by kernel_rfl) (by kernel_rfl) (fun _ _ _ h => h) (Or.inl ⟨by rfl, ?hy10⟩) (by assumption) ?rest10
    case hy10 => ((intro w hSw; (try dsimp only at hSw); go_simp) <;> with_reducible rfl)
    case' rest10 => try simp only [List.getElem_toArray, List.getElem_cons_zero, List.getElem_cons_succ, Act.put, List.setIfInBounds_toArray, List.set_cons_zero, List.set_cons_succ]
    refine wpAnyH_ready (rs := [9]) (by kernel_rfl) (by simp) ?_
    refine AllReadyH.cons (o := _) rfl (fun K hK => ?_) AllReadyH.nil
    go_simp
    refine (seg_refuse S.ix S.sub code _).mono ?_
    rintro e w2 ⟨rfl, hB2, hb2, hz2⟩
    rw [show (w.setCell ⟨p, 1, none⟩ (.int .i64 0)).drew.heap.size = w.heap.size from hz0] at hB2
    have HB2 := hide hB2
    dsimp only
    refine hK.out _ _ ?hS13 (fun hHeld => ?rest13)
    case hS13 => ((try dsimp only); (((try go_split_ands); refine sn_of ?_; repeat' (first | with_reducible assumption | with_reducible exact Below.refl _ _ | with_reducible apply below_alloc | with_reducible apply below_drew1 | with_reducible apply below_drewN | (with_reducible apply below_step; with_reducible assumption) | (with_reducible apply below_sg2; (first | exact Nat.le_refl _ | (simp; done) | omega))))))
    case' rest13 => (clear hK K; try simp only [List.getElem_toArray, List.getElem_cons_zero, List.getElem_cons_succ, Act.put, List.setIfInBounds_toArray, List.set_cons_zero, List.set_cons_succ])
    refine wpAnyH_take (i := 10) (oi := _) (v := ?v14) rfl (by kernel_rfl) (by kernel_rfl) (by kernel_rfl) (fun _ _ _ h => h) (Or.inl ⟨by rfl, ?hy14⟩) (by assumption) ?rest14
    case hy14 => ((intro w hSw; (try dsimp only at hSw); go_simp) <;> with_reducible rfl)
    case' rest14 => try simp only [List.getElem_toArray, List.getElem_cons_zero, List.getElem_cons_succ, Act.put, List.setIfInBounds_toArray, List.set_cons_zero, List.set_cons_succ]
    refine wpAnyH_done (by kernel_rfl) ?_ _
    have hEnd := hHeld.2
    repeat (clear hHeld)
    go_wp2_with fail
    go_ret
    exact ⟨fun h => absurd h h0, fun _ => ⟨w.heap.size, Nat.le_refl _, rfl, HB2.out, hs.out.below hEnd hs.out.lt, ho.trans (Only.of_below (F := fun k => k = p) hEnd) (fun _ _ h => h)⟩⟩
theorem seg_abort0 (code : Nat) (w : World) : Calls Tryz.prog 39 #[.pointer none, .int .u32 (code : Nat)] w fun e w' => e = .returned (.slice none 0 0) ∧ w = w' := by
  go_enter Tryz.func39, Tryz.ntmps39
  go_wp2_with fail
  refine (seg_busy0 _).mono ?_
  rintro e w1 ⟨rfl, rfl⟩
  go_wp2_with fail
  go_ret
  exact ⟨rfl, rfl⟩
theorem seg_drop (p pd : Nat) (S : SegS) (A : Option Addr) (n c : Nat) (w : World) (hB : Blk w p 86 (srvV S pd A n c)) :
    Calls Tryz.prog 41 #[.pointer (some ⟨p, 0, none⟩)] w fun e w' => e = .returned (.tuple #[]) ∧ Blk w' p 86 (srvV (segIdle S) pd A n c) ∧ Only (fun k => k = p) w w' := by
  have hs : Hid (Blk (w.setCell ⟨p, 1, none⟩ (.int .i64 0)) p 86 (srvV (segIdle S) pd A n c)) := hide (hB.set_ 1 (.int .i64 0))
  have ho : Only (fun k => k = p) w (w.setCell ⟨p, 1, none⟩ (.int .i64 0)) := Only.of_set (F := fun k => k = p) rfl _
  have hz := hB.lt
  have c1 : w.cell? ⟨p, 1, none⟩ = some (.int .i64 S.st) := hB.cell 1 rfl
  have f1 := hB.frozen 1
  go_enter Tryz.func41, Tryz.ntmps41
  go_wp2_with fail
  go_end0
  exact ⟨rfl, hs.out, ho⟩
theorem seg_drop0 (w : World) : Calls Tryz.prog 41 #[.pointer none] w fun e w' => e = .returned (.tuple #[]) ∧ w = w' := by
  go_enter Tryz.func41, Tryz.ntmps41
  go_wp2_with fail
  go_end0
  exact ⟨rfl, rfl⟩
end
end Go.Proofs.YtimdmhhgomfijaaGreat
