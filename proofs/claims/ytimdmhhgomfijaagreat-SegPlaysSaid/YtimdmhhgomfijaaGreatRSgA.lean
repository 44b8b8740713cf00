/- The reference of seg: Most, Fits, May, New, Abort, refuse, Answer, told; its server in memory. -/
import Derived.Test.YtimdmhhgomfijaaGreatSegB
import Derived.Test.YtimdmhhgomfijaaGreatRDicN
import Derived.Test.YtimdmhhgomfijaaGreatRDicA
import Derived.Deep.DeepCutAuto
import Derived.Test.YtimdmhhgomfijaaGreatOwnF
import Derived.Test.YtimdmhhgomfijaaGreatSegD
import Derived.Test.YtimdmhhgomfijaaGreatHeldT
import Derived.Deep.RegionHeld3
import Derived.RegionTactic
import Derived.Deep.Light
namespace Go.Proofs.YtimdmhhgomfijaaGreat
set_option linter.unusedVariables false
set_option linter.unusedSimpArgs false
set_option linter.unnecessarySimpa false
section
open Go.RowKit
set_option maxRecDepth 100000
set_option maxHeartbeats 4000000
theorem rsg_most (E : Ent) (A : Option Addr) (n c : Nat) (w : World) : Calls Tryz.prog 117 #[.agg (entV E A n c)] w fun e w' => e = .returned (.int .i64 (mostE E)) ∧ Below w.heap.size w w' := by
  obtain ⟨ix, sub, nm, ty, acc, mp, st, mx, lo, hi, df⟩ := E
  have q := blk_one w 67 (entV ⟨ix, sub, nm, ty, acc, mp, st, mx, lo, hi, df⟩ A n c)
  have hbw := below_alloc (Below.refl w.heap.size w) (.cells (entV ⟨ix, sub, nm, ty, acc, mp, st, mx, lo, hi, df⟩ A n c) 67)
  unfold entV at *
  obtain ⟨q_c0, q_c1, q_c2, q_c3, q_c4, q_c5, q_c6, q_c7, q_c8, q_c9, q_c10⟩ := cel11 q
  have q_f := q.frozen
  go_enter Tryz.func117, Tryz.ntmps117
  go_wp2_with fail
  refine (rty_bits ty _).mono ?_
  rintro e w1 ⟨rfl, rfl⟩
  by_cases hb : 0 < tyBits ty
  · have HM : Hid (mostE ⟨ix, sub, nm, ty, acc, mp, st, mx, lo, hi, df⟩ = tySize ty) := hide (by unfold mostE; rw [if_pos hb])
    go_wp2_with fail
    refine (rty_size ty _).mono ?_
    rintro e w2 ⟨rfl, rfl⟩
    go_wp2_with fail
    go_ret
    exact ⟨ret_int HM.out.symm, hbw⟩
  · have HM : Hid (mostE ⟨ix, sub, nm, ty, acc, mp, st, mx, lo, hi, df⟩ = if mx < 0 then 0 else if 256 < mx then 256 else mx) := hide (by unfold mostE; rw [if_neg hb])
    go_wp2_with fail
    all_goals
      go_ret
      refine ⟨ret_int ?_, hbw⟩
      rw [HM.out]
      clear hbw
      (repeat' split) <;> omega
theorem rsg_fits (E : Ent) (k : Int) (hk : 0 ≤ k) (A : Option Addr) (n c : Nat) (w : World) : Calls Tryz.prog 116 #[.agg (entV E A n c), .int .i64 k] w fun e w' => e = .returned (.int .u32 (fitsC E k)) ∧ Below w.heap.size w w' := by
  have HM := hide (fun W => rsg_most E A n c W)
  have HF : Hid (fitsC E k = if 0 < tyBits E.ty ∧ k < tySize E.ty then 101122067 else if mostE E < k then 101122066 else 0) := hide (by
    unfold fitsC mostE
    by_cases hb : 0 < tyBits E.ty
    · rw [if_pos hb]
      (repeat' split) <;> first | rfl | (exfalso; omega)
    · have h0 : tySize E.ty = 0 := by
        unfold tyBits at hb
        split at hb
        · omega
        · have := (bits_nn E.ty).1
          unfold tyBits at this
          split at this <;> omega
      rw [h0]
      (repeat' split) <;> first | rfl | (exfalso; omega))
  obtain ⟨m, hm⟩ : ∃ m, m = mostE E := ⟨_, rfl⟩
  rw [← hm] at HM HF
  obtain ⟨f, hf⟩ : ∃ f, f = fitsC E k := ⟨_, rfl⟩
  rw [← hf] at HF ⊢
  clear hm hf
  obtain ⟨ix, sub, nm, ty, acc, mp, st, mx, lo, hi, df⟩ := E
  have q := blk_one w 67 (entV ⟨ix, sub, nm, ty, acc, mp, st, mx, lo, hi, df⟩ A n c)
  have hbw := below_alloc (Below.refl w.heap.size w) (.cells (entV ⟨ix, sub, nm, ty, acc, mp, st, mx, lo, hi, df⟩ A n c) 67)
  unfold entV at *
  obtain ⟨q_c0, q_c1, q_c2, q_c3, q_c4, q_c5, q_c6, q_c7, q_c8, q_c9, q_c10⟩ := cel11 q
  have q_f := q.frozen
  go_enter Tryz.func116, Tryz.ntmps116
  by_cases hb : 0 < tyBits ty
  · obtain ⟨s, hs⟩ : ∃ s, s = tySize ty := ⟨_, rfl⟩
    have HS := hide (fun W => rty_size ty W)
    rw [← hs] at HF HS
    clear hs
    by_cases h1 : k < s
    · have HR : Hid (f = 101122067) := hide (by rw [HF.out, if_pos ⟨hb, h1⟩])
      go_wp2_with fail
      refine (rty_bits ty _).mono ?_
      rintro e w1 ⟨rfl, rfl⟩
      go_wp2_with fail
      refine (HS.out _).mono ?_
      rintro e w1 ⟨rfl, rfl⟩
      go_wp2_with fail
      go_ret
      exact ⟨ret_int HR.out.symm, hbw⟩
    · have HR : Hid (f = if m < k then 101122066 else 0) := hide (by rw [HF.out, if_neg (fun h => h1 h.2)])
      go_wp2_with fail
      refine (rty_bits ty _).mono ?_
      rintro e w1 ⟨rfl, rfl⟩
      go_wp2_with fail
      refine (HS.out _).mono ?_
      rintro e w1 ⟨rfl, rfl⟩
      go_wp2_with fail
      refine (HM.out _).mono ?_
      rintro e w1 ⟨rfl, hb1⟩
      have hbw1 := below_step hb1 hbw
      by_cases h0 : m < k
      · have HR2 : Hid (f = 101122066) := hide (by rw [HR.out, if_pos h0])
        go_wp2_with fail
        go_ret
        exact ⟨ret_int HR2.out.symm, hbw1⟩
      · have HR2 : Hid (f = 0) := hide (by rw [HR.out, if_neg h0])
        go_wp2_with fail
        go_ret
        exact ⟨ret_int HR2.out.symm, hbw1⟩
  · have HR : Hid (f = if m < k then 101122066 else 0) := hide (by rw [HF.out, if_neg (fun h => hb h.1)])
    go_wp2_with fail
    refine (rty_bits ty _).mono ?_
    rintro e w1 ⟨rfl, rfl⟩
    go_wp2_with fail
    refine (HM.out _).mono ?_
    rintro e w1 ⟨rfl, hb1⟩
    have hbw1 := below_step hb1 hbw
    by_cases h0 : m < k
    · have HR2 : Hid (f = 101122066) := hide (by rw [HR.out, if_pos h0])
      go_wp2_with fail
      go_ret
      exact ⟨ret_int HR2.out.symm, hbw1⟩
    · have HR2 : Hid (f = 0) := hide (by rw [HR.out, if_neg h0])
      go_wp2_with fail
      go_ret
      exact ⟨ret_int HR2.out.symm, hbw1⟩
section
variable {F : Nat → Prop} {p n cl cv : Nat} {Al Av : Option Addr} {L : List Ent} {V : List (List UInt8)} {ds es : List (Option Addr × Nat)}
theorem rsg_may (ix sub : Int) (w : World) (hD : DB 82 w F p Al n cl Av cv L V ds es) (hn : n ≤ 1000) :
    Calls Tryz.prog 114 #[.pointer (some ⟨p, 0, none⟩), .int .i64 ix, .int .i64 sub] w (SMayR L ix sub w) := by
  have H1 := hide hn
  have hN := hD.ents.hn
  have hbw := below_alloc (Below.refl w.heap.size w) (.cells (entV zeroE none 0 0) 67)
  have q := blk_one w 67 (entV zeroE none 0 0)
  have HD := hide (hD.below hbw)
  have HQ := hide q
  have HP : Hid (∀ w1 E A m c, Below w.heap.size w w1 → Blk w1 w.heap.size 67 (entV zeroE none 0 0) → Blk (put11 w1 w.heap.size E A m c) w.heap.size 67 (entV E A m c) ∧ Below w.heap.size w (put11 w1 w.heap.size E A m c)) := hide (by
    intro w1 E A m c hb hB
    have o1 := put11_only w1 w.heap.size E A m c
    exact ⟨put11_blk hB rfl E A m c, hb.trans (o1.below hb.size (fun i h => by omega))⟩)
  unfold put11 at HP
  have HP' := hide HP
  have HB := hide hbw
  unfold entV zeroE at HD
  clear hD HP
  unfold entV zeroE at q hbw
  obtain ⟨q_c0, q_c1, q_c2, q_c3, q_c4, q_c5, q_c6, q_c7, q_c8, q_c9, q_c10⟩ := cel11 q
  have q_f := q.frozen
  by_cases hf : 0 ≤ findL L ix sub
  · obtain ⟨j, hj, hlj, hjl⟩ := find_nat hf
    obtain ⟨E, hE⟩ : ∃ E, L[j]? = some E := ⟨L[j], List.getElem?_eq_getElem _⟩
    have HC : Hid (smayC L ix sub = writeE E.acc) := hide (by unfold smayC; rw [if_pos (code_zero.2 hf), hlj, entK_at hE])
    have HK : Hid (E = entK L (locK L ix sub)) := hide (by rw [hlj, entK_at hE])
    have HJ := hide hj
    have hjn : j < n := by rw [hN]; exact hjl
    obtain ⟨g, d, rfl, zg, _, hO, hfit, c0, c1, c2, c3, c4, c5, c6, c7, c8, c9, c10⟩ := HD.out.ent hE
    have hBr := HD.out.blk
    obtain ⟨hBr_c0, hBr_c1⟩ := cel2 hBr
    have hBr_f := hBr.frozen
    have HE := hide hE
    have HW := hide (fun W => rent_writable E d.1 E.df.length d.2 W)
    obtain ⟨wc, hwc⟩ : ∃ wc, wc = writeE E.acc := ⟨_, rfl⟩
    rw [← hwc] at HC HW
    clear hwc hf hj hlj hE hN
    unfold entV at HW
    go_enter Tryz.func114, Tryz.ntmps114
    go_wp2_with fail
    refine (rdic_find ix sub _ HD.out H1.out).mono ?_
    rintro e w1 ⟨rfl, rfl⟩
    rw [HJ.out]
    go_wp2_with fail
    refine (HW.out _).mono ?_
    rintro e w2 ⟨rfl, hb2⟩
    have HD2 := hide (HD.out.below hb2)
    have hbw2 := below_step hb2 hbw
    have HQ2 := hide (HQ.out.below hb2 HQ.out.lt)
    clear c0 c1 c2 c3 c4 c5 c6 c7 c8 c9 c10 zg hfit hO
    clear hBr_c0 hBr_c1 hBr_f
    clear q_c0 q_c1 q_c2 q_c3 q_c4 q_c5 q_c6 q_c7 q_c8 q_c9 q_c10 q_f
    clear q
    have r4 := HQ2.out
    unfold entV zeroE at r4
    by_cases h0 : wc = 0
    · subst h0
      obtain ⟨g2, d2, hg2, zg, _, hO, hfit, c0, c1, c2, c3, c4, c5, c6, c7, c8, c9, c10⟩ := HD2.out.ent HE.out
      injection hg2 with hg2
      injection hg2 with hg2
      subst hg2
      have hB2 := HD2.out.blk
      obtain ⟨hB2_c0, hB2_c1⟩ := cel2 hB2
      have hB2_f := hB2.frozen
      have HO := hide hO
      have HLE := hide (fun W (h : Below w2.heap.size w2 W) => rent_lent E d2.1 E.df.length d2.2 W rfl hfit.1 (HO.out.sl.below h))
      unfold entV at HLE
      clear hO
      obtain ⟨r4_c0, r4_c1, r4_c2, r4_c3, r4_c4, r4_c5, r4_c6, r4_c7, r4_c8, r4_c9, r4_c10⟩ := cel11 r4
      have r4_f := r4.frozen
      go_wp2_with fail
      refine (HLE.out _ (Below.refl _ _)).mono ?_
      rintro e w4 ⟨A2, c2', rfl, hO2, hb4⟩
      have HQ4 := hide (HQ2.out.below hb4 HQ2.out.lt)
      have hbw4 := below_step hb4 hbw2
      clear c0 c1 c2 c3 c4 c5 c6 c7 c8 c9 c10 zg hfit hO2
      clear hB2_c0 hB2_c1 hB2_f
      clear r4_c0 r4_c1 r4_c2 r4_c3 r4_c4 r4_c5 r4_c6 r4_c7 r4_c8 r4_c9 r4_c10 r4_f
      have r5 := HQ4.out
      unfold entV zeroE at r5
      obtain ⟨r5_c0, r5_c1, r5_c2, r5_c3, r5_c4, r5_c5, r5_c6, r5_c7, r5_c8, r5_c9, r5_c10⟩ := cel11 r5
      have r5_f := r5.frozen
      go_wp2_with fail
      obtain ⟨r1, r2⟩ := HP'.out.out _ E A2 E.df.length c2' hbw4 HQ4.out
      exact ret_ent_tmp (E := E) (A := A2) (n := E.df.length) (c := c2') rfl rfl rfl r1 ⟨E, A2, _, c2', by rw [HC.out]; rfl, fun _ => HK.out, r2⟩
    · skip
      obtain ⟨r4_c0, r4_c1, r4_c2, r4_c3, r4_c4, r4_c5, r4_c6, r4_c7, r4_c8, r4_c9, r4_c10⟩ := cel11 r4
      have r4_f := r4.frozen
      go_wp2_with fail
      obtain ⟨r1, r2⟩ := HP'.out.out _ zeroE none 0 0 hbw2 HQ2.out
      exact ret_ent_tmp (E := zeroE) (A := none) (n := 0) (c := 0) rfl rfl rfl r1 ⟨zeroE, none, 0, 0, by rw [HC.out]; rfl, fun h => absurd (by rw [← HC.out]; exact h) h0, r2⟩
  · have hcz : codeL L ix sub ≠ 0 := fun h => hf (code_zero.1 h)
    have HC : Hid (smayC L ix sub = if findL L ix sub = -2 then 100794368 else 101253137) := hide (by unfold smayC; rw [if_neg hcz]; unfold codeL; rw [if_neg hf])
    have HCZ := hide hcz
    have HCY : Hid (smayC L ix sub = codeL L ix sub) := hide (by unfold smayC; rw [if_neg hcz])
    rcases find_range L ix sub with h2 | h2 | h2
    · have HF := hide h2
      rw [h2] at HC
      clear h2 hf hcz hN
      go_enter Tryz.func114, Tryz.ntmps114
      go_wp2_with fail
      refine (rdic_find ix sub _ HD.out H1.out).mono ?_
      rintro e w1 ⟨rfl, rfl⟩
      rw [HF.out]
      go_wp2_with fail
      have r1 := HQ.out
      have r3 := HB.out
      exact ret_ent_tmp (E := zeroE) (A := none) (n := 0) (c := 0) rfl rfl rfl r1 ⟨zeroE, none, 0, 0, by rw [HC.out]; rfl, fun h => absurd (by rw [← HCY.out]; exact h) HCZ.out, r3⟩
    · have HF := hide h2
      rw [h2] at HC
      clear h2 hf hcz hN
      go_enter Tryz.func114, Tryz.ntmps114
      go_wp2_with fail
      refine (rdic_find ix sub _ HD.out H1.out).mono ?_
      rintro e w1 ⟨rfl, rfl⟩
      rw [HF.out]
      go_wp2_with fail
      have r1 := HQ.out
      have r3 := HB.out
      exact ret_ent_tmp (E := zeroE) (A := none) (n := 0) (c := 0) rfl rfl rfl r1 ⟨zeroE, none, 0, 0, by rw [HC.out]; rfl, fun h => absurd (by rw [← HCY.out]; exact h) HCZ.out, r3⟩
    · exact absurd h2.1 hf
end
end
section
open Go.RowKit
set_option maxRecDepth 100000
set_option maxHeartbeats 4000000
def srvL (S : SegS) (pd : Nat) (A : Option Addr) (n c : Nat) : List Value := [.pointer (some ⟨pd, 0, none⟩), .int .i64 S.st, .int .i64 S.ix, .int .i64 S.sub, .int .i64 S.mo, .int .i64 S.sz, .slice A n c, .bool S.tg, .int .i64 S.wk, .int .i64 S.wi, .int .i64 S.ws, .bool S.wt, .bool false, .bool false, .bool false, .int .u32 0, .int .u32 0, .slice none 0 0, .int .i64 0, .int .i64 0, .int .i64 0, .int .u16 0]
def outL_ (As : Option Addr) (ns cs : Nat) (O : SegO) (A : Option Addr) (n c : Nat) : List Value := [.slice As ns cs, .bool O.wr, .int .i64 O.ix, .int .i64 O.sub, .slice A n c]
def msL_ (M : Ms) (A : Option Addr) (n c : Nat) : List Value := [.int .i64 M.kind, .int .i64 M.ix, .int .i64 M.sub, .bool M.tg, .bool M.la, .bool M.cr, .bool M.sz, .int .u32 (M.size : Nat), .int .u32 (M.code : Nat), .slice A n c, .int .i64 M.sq, .int .i64 M.bl, .int .i64 M.em, .int .u16 (M.sum : Nat)]
theorem rout_size : (Tryz.prog.info? 90).map (·.size) = some 5 := by kernel_rfl
theorem rret_out {fn : Func} {p : Tmp} (h : fn.results = #[.cell p 90]) {a : Act} {w : World} {g : Nat} {As : Option Addr} {ns cs : Nat} {O : SegO} {A : Option Addr} {n c : Nat} {R : Ending → World → Prop} (hd : a.defers = []) (hp : a.tmps.getD p undef = .pointer (some ⟨g, 0, none⟩))
    (hB : Blk w g 90 (outV As ns cs O A n c)) (hR : R (.returned (.agg (outV As ns cs O A n c))) w) : bodyPost Tryz.prog fn R .ret a w :=
  bodyPost_ret (results_cell_row h _ _ _ _ _ _ _ hp hB Tryz.underlying90 rfl rout_size) hd hR
theorem PX.new2 {w W : World} {p N : Nat} {t : TypeId} {cs : List Value} {ks : List KB} (h : PX w p t cs ks W) (hz : W.heap.size = N) (T1 T2 : TypeId) (l1 l2 : List Value) : PX w p t cs (⟨N + 1, T2, l2⟩ :: ⟨N, T1, l1⟩ :: ks) ((W.alloc (.cells l1.toArray T1)).alloc (.cells l2.toArray T2)) := by
  have h2 := (h.new T1 l1).new T2 l2
  rwa [show (W.alloc (.cells l1.toArray T1)).heap.size = N + 1 by simp [hz], hz] at h2
theorem putO_blkT {w : World} {g : Nat} {t : TypeId} {As As' : Option Addr} {ns cs ns' cs' : Nat} {O O' : SegO} {A A' : Option Addr} {n c n' c' : Nat} (h : Blk w g t (outV As ns cs O A n c)) : Blk (putO w g As' ns' cs' O' A' n' c') g t (outV As' ns' cs' O' A' n' c') :=
  ((((h.set_ 0 (.slice As' ns' cs')).set_ 1 (.bool O'.wr)).set_ 2 (.int .i64 O'.ix)).set_ 3 (.int .i64 O'.sub)).set_ 4 (.slice A' n' c')
theorem rsg_new (pd : Nat) (w : World) : Calls Tryz.prog 11 #[.pointer (some ⟨pd, 0, none⟩)] w fun e w' => e = .returned (.pointer (some ⟨w.heap.size, 0, none⟩)) ∧ Blk w' w.heap.size 52 (srvV segZ pd none 0 0) ∧ Below w.heap.size w w' ∧ w'.heap.size = w.heap.size + 1 := by
  have q := blk_one w 52 (srvV segZ pd none 0 0)
  have hbw := below_alloc (Below.refl w.heap.size w) (.cells (srvV segZ pd none 0 0) 52)
  have HQ := hide q
  have HB := hide hbw
  clear q hbw
  unfold srvV segZ at *
  go_enter Tryz.func11, Tryz.ntmps11
  go_wp2_with fail
  go_ret
  exact ⟨rfl, HQ.out, HB.out, by simp⟩
theorem rsg_refuse (M : Ms) (A : Option Addr) (n c : Nat) (code : Nat) (w : World) : Calls Tryz.prog 73 #[.agg (msV M A n c), .int .u32 (code : Nat)] w fun e w' => ∃ g, w.heap.size ≤ g ∧ e = .returned (.agg (outV (some ⟨g, 0, none⟩) 1 1 outZ none 0 0)) ∧ Blk w' g 48 (msV (abM M.ix M.sub code) none 0 0) ∧ Below w.heap.size w w' := by
  obtain ⟨k1, k2, k3⟩ := blk_three w 48 90 48 (msV M A n c) (outV (some ⟨w.heap.size + 1 + 1, 0, none⟩) 1 1 outZ none 0 0) (msV (abM M.ix M.sub code) none 0 0)
  have hbw := below_alloc (below_alloc (below_alloc (Below.refl w.heap.size w) (.cells (msV M A n c) 48)) (.cells (outV (some ⟨w.heap.size + 1 + 1, 0, none⟩) 1 1 outZ none 0 0) 90)) (.cells (msV (abM M.ix M.sub code) none 0 0) 48)
  have HK2 := hide k2
  have HK3 := hide k3
  have HB := hide hbw
  clear k1 k2 k3 hbw
  obtain ⟨kind, ix, sub, tg, la, cr, sz, size, code0, data, sq, bl, em, sum⟩ := M
  unfold msV abM at *
  go_enter Tryz.func73, Tryz.ntmps73
  go_wp2_with fail
  exact rret_out (O := outZ) rfl rfl rfl HK2.out ⟨w.heap.size + 1 + 1, by omega, rfl, HK3.out, HB.out⟩
theorem rsg_abort (p pd : Nat) (S : SegS) (code : Nat) (A : Option Addr) (n c : Nat) (w : World) (hB : Blk w p 52 (srvV S pd A n c)) :
    Calls Tryz.prog 40 #[.pointer (some ⟨p, 0, none⟩), .int .u32 (code : Nat)] w fun e w' => (S.st = 0 → e = .returned (.slice none 0 0) ∧ w' = w) ∧
      (S.st ≠ 0 → ∃ g, w.heap.size ≤ g ∧ e = .returned (.slice (some ⟨g, 0, none⟩) 1 1) ∧ Blk w' g 48 (msV (abM S.ix S.sub code) none 0 0) ∧ Blk w' p 52 (srvV (abortS S) pd A n c) ∧ Only (fun k => k = p) w w') := by
  have HB := hide hB
  clear hB
  have c1 : w.cell? ⟨p, 1, none⟩ = some (.int .i64 S.st) := HB.out.cell 1 rfl
  by_cases h0 : S.st = 0
  · rw [h0] at c1
    have H0 := hide h0
    clear h0
    go_enter Tryz.func40, Tryz.ntmps40
    go_wp2_with fail
    go_ret
    exact ⟨fun _ => ⟨rfl, rfl⟩, fun h => absurd H0.out h⟩
  · obtain ⟨s, hs0⟩ : ∃ s, s = S.st := ⟨_, rfl⟩
    have hf : ¬ s = 0 := by rw [hs0]; exact h0
    have H0 := hide h0
    rw [← hs0] at c1
    have hs : Hid (Blk (w.setCell ⟨p, 1, none⟩ (.int .i64 0)) p 52 (srvV (abortS S) pd A n c)) := hide (HB.out.set_ 1 (.int .i64 0))
    have ho : Only (fun k => k = p) w (w.setCell ⟨p, 1, none⟩ (.int .i64 0)) := Only.of_set (F := fun k => k = p) rfl _
    have hz := HB.out.lt
    have f1 := HB.out.frozen 1
    have q' := hs.out
    unfold srvV abortS at q'
    have hz0 : (w.setCell ⟨p, 1, none⟩ (.int .i64 0)).heap.size = w.heap.size := by simp [World.setCell]
    have d2 : (w.setCell ⟨p, 1, none⟩ (.int .i64 0)).cell? ⟨p, 2, none⟩ = some (.int .i64 S.ix) := q'.cell 2 rfl
    have d3 : (w.setCell ⟨p, 1, none⟩ (.int .i64 0)).cell? ⟨p, 3, none⟩ = some (.int .i64 S.sub) := q'.cell 3 rfl
    have hBn := Blk.new (w.setCell ⟨p, 1, none⟩ (.int .i64 0)) 48 (msV (abM S.ix S.sub code) none 0 0)
    rw [hz0] at hBn
    have HBn := hide hBn
    unfold msV abM at HBn
    clear q' hBn h0 hs0
    go_enter Tryz.func40, Tryz.ntmps40
    go_wp2_with fail
    go_upto_region 4 with fail
    refine wp_region_held_drew (S := (fun w' => (∀ qA : Addr, qA.block < ((w.setCell ⟨p, 1, none⟩ (.int .i64 0))).heap.size → w'.cell? qA = ((w.setCell ⟨p, 1, none⟩ (.int .i64 0))).cell? qA) ∧ Below ((w.setCell ⟨p, 1, none⟩ (.int .i64 0))).heap.size ((w.setCell ⟨p, 1, none⟩ (.int .i64 0))) w')) (by kernel_rfl) ?hS1 (fun hHeld => ?rest1)
    case hS1 => ((try dsimp only); (((try go_split_ands); refine sn_of ?_; repeat' (first | with_reducible assumption | with_reducible exact Below.refl _ _ | with_reducible apply below_alloc | with_reducible apply below_drew1 | with_reducible apply below_drewN | (with_reducible apply below_step; with_reducible assumption) | (with_reducible apply below_sg2; (first | exact Nat.le_refl _ | (simp; done) | omega))))))
    case' rest1 => skip
    refine wpAnyH_take (i := 0) (oi := _) (v := ?v2) rfl (by kernel_rfl) (by kernel_rfl) (by kernel_rfl) (fun _ _ _ h => h) (Or.inl ⟨by rfl, ?hy2⟩) (by assumption) ?rest2
    case hy2 => ((intro w hSw; (try dsimp only at hSw); go_simp) <;> with_reducible rfl)
    case' rest2 => try simp only [List.getElem_toArray, List.getElem_cons_zero, List.getElem_cons_succ, Act.put, List.setIfInBounds_toArray, List.set_cons_zero, List.set_cons_succ]
    refine wpAnyH_take (i := 1) (oi := _) (v := ?v3) rfl (by kernel_rfl) (by kernel_rfl) (by kernel_rfl) (fun _ _ _ h => h) (Or.inl ⟨by rfl, ?hy3⟩) (by assumption) ?rest3
    case hy3 => ((intro w hSw; (try dsimp only at hSw); go_simp) <;> with_reducible rfl)
    case' rest3 => try simp only [List.getElem_toArray, List.getElem_cons_zero, List.getElem_cons_succ, Act.put, List.setIfInBounds_toArray, List.set_cons_zero, List.set_cons_succ]
    refine wpAnyH_take (i := 2) (oi := _) (v := ?v4) rfl (by kernel_rfl) (by kernel_rfl) (by kernel_rfl) (fun _ _ _ h => h) (Or.inl ⟨by rfl, ?hy4⟩) (by assumption) ?rest4
    case hy4 => ((intro w hSw; (try dsimp only at hSw); go_simp) <;> with_reducible rfl)
    case' rest4 => try simp only [List.getElem_toArray, List.getElem_cons_zero, List.getElem_cons_succ, Act.put, List.setIfInBounds_toArray, List.set_cons_zero, List.set_cons_succ]
    refine wpAnyH_take (i := 3) (oi := _) (v := ?v5) rfl (by kernel_rfl) (by kernel_rfl) (by kernel_rfl) (fun _ _ _ h => h) (Or.inl ⟨by rfl, ?hy5⟩) (by assumption) ?rest5
    case hy5 => ((intro w hSw; (try dsimp only at hSw); go_simp) <;> with_reducible rfl)
    case' rest5 => try simp only [List.getElem_toArray, List.getElem_cons_zero, List.getElem_cons_succ, Act.put, List.setIfInBounds_toArray, List.set_cons_zero, List.set_cons_succ]
    refine wpAnyH_take (i := 4) (oi := _) (v := ?v6) rfl (by kernel_rfl) (by kernel_rfl) (by kernel_rfl) (fun _ _ _ h => h) (Or.inl ⟨by rfl, ?hy6⟩) (by assumption) ?rest6
    case hy6 => ((intro w hSw; (try dsimp only at hSw); go_simp) <;> with_reducible rfl)
    case' rest6 => try simp only [List.getElem_toArray, List.getElem_cons_zero, List.getElem_cons_succ, Act.put, List.setIfInBounds_toArray, List.set_cons_zero, List.set_cons_succ]
    refine wpAnyH_take (i := 5) (oi := _) (v := ?v7) rfl (by kernel_rfl) (by kernel_rfl) (by kernel_rfl) (fun _ _ _ h => h) (Or.inl ⟨by rfl, ?hy7⟩) (by assumption) ?rest7
    case hy7 => ((intro w hSw; (try dsimp only at hSw); go_simp) <;> with_reducible rfl)
    case' rest7 => try simp only [List.getElem_toArray, List.getElem_cons_zero, List.getElem_cons_succ, Act.put, List.setIfInBounds_toArray, List.set_cons_zero, List.set_cons_succ]
    refine wpAnyH_take (i := 6) (oi := _) (v := ?v8) rfl (by kernel_rfl) (by kernel_rfl) (by kernel_rfl) (fun _ _ _ h => h) (Or.inl ⟨by rfl, ?hy8⟩) (by assumption) ?rest8
    case hy8 => ((intro w hSw; (try dsimp only at hSw); go_simp) <;> with_reducible rfl)
    case' rest8 => try simp only [List.getElem_toArray, List.getElem_cons_zero, List.getElem_cons_succ, Act.put, List.setIfInBounds_toArray, List.set_cons_zero, List.set_cons_succ]
    refine wpAnyH_take (i := 7) (oi := _) (v := ?v9) rfl (by kernel_rfl) (by kernel_rfl) (by kernel_rfl) (fun _ _ _ h => h) (Or.inl ⟨by rfl, ?hy9⟩) (by assumption) ?rest9
    case hy9 => ((intro w hSw; (try dsimp only at hSw); go_simp) <;> with_reducible rfl)
    case' rest9 => try simp only [List.getElem_toArray, List.getElem_cons_zero, List.getElem_cons_succ, Act.put, List.setIfInBounds_toArray, List.set_cons_zero, List.set_cons_succ]
    refine wpAnyH_take (i := 8) (oi := _) (v := ?v10) rfl (by kernel_rfl) (by kernel_rfl) (by kernel_rfl) (fun _ _ _ h => h) (Or.inl ⟨by rfl, ?hy10⟩) (by assumption) ?rest10
    case hy10 => ((intro w hSw; (try dsimp only at hSw); go_simp) <;> with_reducible rfl)
    case' rest10 => try simp only [List.getElem_toArray, List.getElem_cons_zero, List.getElem_cons_succ, Act.put, List.setIfInBounds_toArray, List.set_cons_zero, List.set_cons_succ]
    refine wpAnyH_take (i := 9) (oi := _) (v := ?v11) rfl (by kernel_rfl) (by kernel_rfl) (by kernel_rfl) (fun _ _ _ h => h) (Or.inl ⟨by rfl, ?hy11⟩) (by assumption) ?rest11
    case hy11 => ((intro w hSw; (try dsimp only at hSw); go_simp) <;> with_reducible rfl)
    case' rest11 => try simp only [List.getElem_toArray, List.getElem_cons_zero, List.getElem_cons_succ, Act.put, List.setIfInBounds_toArray, List.set_cons_zero, List.set_cons_succ]
    refine wpAnyH_ready (rs := [10]) (by kernel_rfl) (by simp) ?_
    refine AllReadyH.cons (o := _) rfl (fun K hK => ?_) AllReadyH.nil
    go_simp
    refine hK.out _ _ ?hS14 (fun hHeld => ?rest14)
    case hS14 => ((try dsimp only); (((try go_split_ands); refine sn_of ?_; repeat' (first | with_reducible assumption | with_reducible exact Below.refl _ _ | with_reducible apply below_alloc | with_reducible apply below_drew1 | with_reducible apply below_drewN | (with_reducible apply below_step; with_reducible assumption) | (with_reducible apply below_sg2; (first | exact Nat.le_refl _ | (simp; done) | omega))))))
    case' rest14 => (clear hK K; try simp only [List.getElem_toArray, List.getElem_cons_zero, List.getElem_cons_succ, Act.put, List.setIfInBounds_toArray, List.set_cons_zero, List.set_cons_succ])
    refine wpAnyH_take (i := 11) (oi := _) (v := ?v15) rfl (by kernel_rfl) (by kernel_rfl) (by kernel_rfl) (fun _ _ _ h => h) (Or.inl ⟨by rfl, ?hy15⟩) (by assumption) ?rest15
    case hy15 => ((intro w hSw; (try dsimp only at hSw); go_simp) <;> with_reducible rfl)
    case' rest15 => try simp only [List.getElem_toArray, List.getElem_cons_zero, List.getElem_cons_succ, Act.put, List.setIfInBounds_toArray, List.set_cons_zero, List.set_cons_succ]
    refine wpAnyH_done (by kernel_rfl) ?_ _
    have hEnd := hHeld.2
    repeat (clear hHeld)
    go_wp2_with fail
    go_ret
    exact ⟨fun h => absurd h H0.out, fun _ => ⟨w.heap.size, Nat.le_refl _, rfl, HBn.out, hs.out.below hEnd hs.out.lt, ho.trans (Only.of_below (F := fun k => k = p) hEnd) (fun _ _ h => h)⟩⟩
theorem rsg_answer (p pd : Nat) (S : SegS) (code : Nat) (A : Option Addr) (n c : Nat) (w : World) (hB : Blk w p 52 (srvV S pd A n c)) :
    Calls Tryz.prog 38 #[.pointer (some ⟨p, 0, none⟩), .int .u32 (code : Nat)] w fun e w' => (S.st ≠ 3 → e = .returned (.slice none 0 0) ∧ w' = w) ∧
      (S.st = 3 → ∃ g, w.heap.size ≤ g ∧ e = .returned (.slice (some ⟨g, 0, none⟩) 1 1) ∧ Blk w' g 48 (msV (if code = 0 then wellM S else abM S.ix S.sub code) none 0 0) ∧ Blk w' p 52 (srvV (segIdle S) pd A n c) ∧ Only (fun k => k = p) w w') := by
  have HB := hide hB
  have c1 : w.cell? ⟨p, 1, none⟩ = some (.int .i64 S.st) := hB.cell 1 rfl
  have hz := hB.lt
  by_cases h3 : S.st = 3
  · rw [h3] at c1
    have H3 := hide h3
    clear h3
    by_cases h0 : code = 0
    · subst h0
      have bb := hB
      unfold srvV at bb
      rw [H3.out] at bb
      obtain ⟨bb_c0, bb_c1, bb_c2, bb_c3, bb_c4, bb_c5, bb_c6, bb_c7, bb_c8, bb_c9, bb_c10, bb_c11, bb_c12, bb_c13, bb_c14, bb_c15, bb_c16, bb_c17, bb_c18, bb_c19, bb_c20, bb_c21⟩ := cel22 bb
      have bb_f := bb.frozen
      have hs : Hid (Blk (w.setCell ⟨p, 1, none⟩ (.int .i64 0)) p 52 (srvV (segIdle S) pd A n c)) := hide (HB.out.set_ 1 (.int .i64 0))
      have ho : Only (fun k => k = p) w (w.setCell ⟨p, 1, none⟩ (.int .i64 0)) := Only.of_set (F := fun k => k = p) rfl _
      have hz0 : (w.setCell ⟨p, 1, none⟩ (.int .i64 0)).heap.size = w.heap.size := by simp [World.setCell]
      have hg := Blk.new (w.setCell ⟨p, 1, none⟩ (.int .i64 0)) 48 (msV (wellM S) none 0 0)
      rw [hz0] at hg
      have HR := hide (And.intro hg (And.intro (hs.out.alloc (.cells (msV (wellM S) none 0 0) 48)) (ho.new (.cells (msV (wellM S) none 0 0) 48))))
      clear hg hs ho hz0 hB bb
      unfold msV wellM okM at HR
      go_enter Tryz.func38, Tryz.ntmps38
      go_wp2_with fail
      go_ret
      exact ⟨fun h => absurd H3.out h, fun _ => ⟨w.heap.size, Nat.le_refl _, rfl, HR.out⟩⟩
    · have HA := hide (rsg_abort p pd S code A n c w hB)
      have HC := hide h0
      have hne : ¬ (code : Int) = 0 := by omega
      clear hB h0
      go_enter Tryz.func38, Tryz.ntmps38
      go_wp2_with fail
      refine HA.out.mono ?_
      rintro e w1 ⟨_, h5⟩
      obtain ⟨g, hg, rfl, hBg, hBp, ho⟩ := h5 (by rw [H3.out]; decide)
      have HX := hide (And.intro hBg (And.intro hBp ho))
      clear hBg hBp ho h5
      go_wp2_with fail
      go_ret
      exact ⟨fun h => absurd H3.out h, fun _ => ⟨g, hg, rfl, HX.out⟩⟩
  · obtain ⟨s, hs⟩ : ∃ s, s = S.st := ⟨_, rfl⟩
    have H3 := hide h3
    rw [← hs] at c1
    have hne : (s == 3) = false := by simp [hs, h3]
    have hne2 : ¬ s = 3 := by rw [hs]; exact h3
    clear hB hs h3
    go_enter Tryz.func38, Tryz.ntmps38
    go_wp2_with fail
    all_goals
      go_ret
      exact ⟨fun _ => ⟨rfl, rfl⟩, fun h => absurd h H3.out⟩
theorem rsg_told (p pd : Nat) (S : SegS) (A : Option Addr) (n c : Nat) (A2 : Option Addr) (m c2 : Nat) (b : List UInt8) (k ix sub : Int) (tg : Bool) (w : World) (hB : Blk w p 52 (srvV S pd A n c)) (hm : m = b.length) (hmb : m ≤ 35184372088832) (hb : ∀ W, Only (fun g => g = p) w W → Sl W A2 (b.map bv)) :
    Calls Tryz.prog 115 #[.pointer (some ⟨p, 0, none⟩), .slice A2 m c2, .agg (msV (okM k ix sub tg) none 0 0)] w fun e w' => ∃ A3 c3, e = .returned (.agg (outV none 0 0 ⟨[], true, S.ix, S.sub, b⟩ A3 m c3)) ∧ OwnB w' w.heap.size A3 m c3 b ∧ Blk w' p 52 (srvV (writeS S (okM k ix sub tg)) pd A n c) ∧ Only (fun k => k = p) w w' := by
  have HM := hide hm
  have HMB := hide hmb
  have HBB := hide hb
  have hz := hB.lt
  have P1 := ((PX.start (cs := srvL S pd A n c) hB).set 1 (.int .i64 3)).sets (msL_ (okM k ix sub tg) none 0 0) 8 (by simp [srvL, msL_])
  have P2 := P1.new2 (N := w.heap.size) (by rw [size_sets]; simp [World.setCell]) 48 90 (msL_ (okM k ix sub tg) none 0 0) (outL_ none 0 0 outZ none 0 0)
  have P3 : Hid (PX w p 52 (srvL (writeS S (okM k ix sub tg)) pd A n c) [⟨w.heap.size + 1, 90, outL_ none 0 0 outZ none 0 0⟩, ⟨w.heap.size, 48, msL_ (okM k ix sub tg) none 0 0⟩] _) := hide P2
  simp only [msL_, outL_, okM, outZ, World.setCells, Nat.reduceAdd] at P3
  clear P1 P2 hm hmb hb
  have c0 := hB
  unfold srvV at c0
  obtain ⟨c0_c0, c0_c1, c0_c2, c0_c3, c0_c4, c0_c5, c0_c6, c0_c7, c0_c8, c0_c9, c0_c10, c0_c11, c0_c12, c0_c13, c0_c14, c0_c15, c0_c16, c0_c17, c0_c18, c0_c19, c0_c20, c0_c21⟩ := cel22 c0
  have c0_f := c0.frozen
  unfold msV okM
  go_enter Tryz.func115, Tryz.ntmps115
  go_wp2_with fail
  refine wp_gen (P := PX w p 52 (srvL (writeS S (okM k ix sub tg)) pd A n c) [⟨w.heap.size + 1, 90, outL_ none 0 0 outZ none 0 0⟩, ⟨w.heap.size, 48, msL_ (okM k ix sub tg) none 0 0⟩]) P3.out (fun W hW => ?_)
  clear P3
  clear c0_c0 c0_c1 c0_c2 c0_c3 c0_c4 c0_c5 c0_c6 c0_c7 c0_c8 c0_c9 c0_c10 c0_c11 c0_c12 c0_c13 c0_c14 c0_c15 c0_c16 c0_c17 c0_c18 c0_c19 c0_c20 c0_c21 c0_f
  clear c0 hB
  have HX := hide hW
  have d2 : W.cell? ⟨p, 2, none⟩ = some (.int .i64 S.ix) := hW.blk.cell 2 rfl
  have d3 : W.cell? ⟨p, 3, none⟩ = some (.int .i64 S.sub) := hW.blk.cell 3 rfl
  have HX2 := hide (HBB.out _ hW.only)
  have zz : w.heap.size + 1 < W.heap.size := hW.k0.lt
  have hne1 : p ≠ w.heap.size + 1 := by omega
  clear hW
  refine wp_region_T (fun w' => w'.cell? ⟨p, 2, none⟩ = some (.int .i64 S.ix) ∧ w'.cell? ⟨p, 3, none⟩ = some (.int .i64 S.sub)) [0, 1, 2, 3, 4, 5, 6, 7, 8, 10, 11] (by kernel_rfl) ?hS17 (fun hHeld => ?rest17)
  case hS17 => ((try dsimp only); exact ⟨d2, d3⟩)
  case' rest17 => skip
  refine wpAnyT_take (by kernel_rfl) (by kernel_rfl) (i := 0) (oi := _) (v := ?v18) rfl (by kernel_rfl) (by kernel_rfl) (by kernel_rfl) (fun _ _ _ h => h) (Or.inl ⟨by rfl, ?hy18⟩) (by assumption) ?rest18
  case hy18 => ((intro w hSw; (try dsimp only at hSw); go_simp) <;> with_reducible rfl)
  case' rest18 => try simp only [List.getElem_toArray, List.getElem_cons_zero, List.getElem_cons_succ, Act.put, List.setIfInBounds_toArray, List.set_cons_zero, List.set_cons_succ]
  refine wpAnyT_take (by kernel_rfl) (by kernel_rfl) (i := 1) (oi := _) (v := ?v19) rfl (by kernel_rfl) (by kernel_rfl) (by kernel_rfl) (fun _ _ _ h => h) (Or.inl ⟨by rfl, ?hy19⟩) (by assumption) ?rest19
  case hy19 => ((intro w hSw; (try dsimp only at hSw); go_simp) <;> with_reducible rfl)
  case' rest19 => try simp only [List.getElem_toArray, List.getElem_cons_zero, List.getElem_cons_succ, Act.put, List.setIfInBounds_toArray, List.set_cons_zero, List.set_cons_succ]
  refine wpAnyT_take (by kernel_rfl) (by kernel_rfl) (i := 2) (oi := _) (v := ?v20) rfl (by kernel_rfl) (by kernel_rfl) (by kernel_rfl) (fun _ _ _ h => h) (Or.inl ⟨by rfl, ?hy20⟩) (by assumption) ?rest20
  case hy20 => ((intro w hSw; (try dsimp only at hSw); go_simp) <;> with_reducible rfl)
  case' rest20 => try simp only [List.getElem_toArray, List.getElem_cons_zero, List.getElem_cons_succ, Act.put, List.setIfInBounds_toArray, List.set_cons_zero, List.set_cons_succ]
  refine wpAnyT_take (by kernel_rfl) (by kernel_rfl) (i := 3) (oi := _) (v := ?v21) rfl (by kernel_rfl) (by kernel_rfl) (by kernel_rfl) (fun _ _ _ h => h) (Or.inl ⟨by rfl, ?hy21⟩) (by assumption) ?rest21
  case hy21 => ((intro w hSw; (try dsimp only at hSw); go_simp) <;> with_reducible rfl)
  case' rest21 => try simp only [List.getElem_toArray, List.getElem_cons_zero, List.getElem_cons_succ, Act.put, List.setIfInBounds_toArray, List.set_cons_zero, List.set_cons_succ]
  refine wpAnyT_take (by kernel_rfl) (by kernel_rfl) (i := 4) (oi := _) (v := ?v22) rfl (by kernel_rfl) (by kernel_rfl) (by kernel_rfl) (fun _ _ _ h => h) (Or.inl ⟨by rfl, ?hy22⟩) (by assumption) ?rest22
  case hy22 => ((intro w hSw; (try dsimp only at hSw); go_simp) <;> with_reducible rfl)
  case' rest22 => try simp only [List.getElem_toArray, List.getElem_cons_zero, List.getElem_cons_succ, Act.put, List.setIfInBounds_toArray, List.set_cons_zero, List.set_cons_succ]
  refine wpAnyT_take (by kernel_rfl) (by kernel_rfl) (i := 5) (oi := _) (v := ?v23) rfl (by kernel_rfl) (by kernel_rfl) (by kernel_rfl) (fun _ _ _ h => h) (Or.inl ⟨by rfl, ?hy23⟩) (by assumption) ?rest23
  case hy23 => ((intro w hSw; (try dsimp only at hSw); go_simp) <;> with_reducible rfl)
  case' rest23 => try simp only [List.getElem_toArray, List.getElem_cons_zero, List.getElem_cons_succ, Act.put, List.setIfInBounds_toArray, List.set_cons_zero, List.set_cons_succ]
  refine wpAnyT_take (by kernel_rfl) (by kernel_rfl) (i := 6) (oi := _) (v := ?v24) rfl (by kernel_rfl) (by kernel_rfl) (by kernel_rfl) (fun _ _ _ h => h) (Or.inl ⟨by rfl, ?hy24⟩) (by assumption) ?rest24
  case hy24 => ((intro w hSw; (try dsimp only at hSw); go_simp) <;> with_reducible rfl)
  case' rest24 => try simp only [List.getElem_toArray, List.getElem_cons_zero, List.getElem_cons_succ, Act.put, List.setIfInBounds_toArray, List.set_cons_zero, List.set_cons_succ]
  refine wpAnyT_take (by kernel_rfl) (by kernel_rfl) (i := 7) (oi := _) (v := ?v25) rfl (by kernel_rfl) (by kernel_rfl) (by kernel_rfl) (fun _ _ _ h => h) (Or.inl ⟨by rfl, ?hy25⟩) (by assumption) ?rest25
  case hy25 => ((intro w hSw; (try dsimp only at hSw); go_simp) <;> with_reducible rfl)
  case' rest25 => try simp only [List.getElem_toArray, List.getElem_cons_zero, List.getElem_cons_succ, Act.put, List.setIfInBounds_toArray, List.set_cons_zero, List.set_cons_succ]
  refine wpAnyT_take (by kernel_rfl) (by kernel_rfl) (i := 8) (oi := _) (v := ?v26) rfl (by kernel_rfl) (by kernel_rfl) (by kernel_rfl) (fun _ _ _ h => h) (Or.inl ⟨by rfl, ?hy26⟩) (by assumption) ?rest26
  case hy26 => ((intro w hSw; (try dsimp only at hSw); go_simp) <;> with_reducible rfl)
  case' rest26 => try simp only [List.getElem_toArray, List.getElem_cons_zero, List.getElem_cons_succ, Act.put, List.setIfInBounds_toArray, List.set_cons_zero, List.set_cons_succ]
  refine wpAnyT_one (i := 9) (o := _) rfl (by kernel_rfl) (fun K hK => ?_)
  go_simp
  refine (join_nil A2 m c2 b _ HM.out HMB.out (HX2.out.below (Below.drew (Below.refl _ _)))).mono ?_
  rintro e w3 ⟨A3, c3, rfl, hO3, hb3⟩
  dsimp only
  replace hb3 := below_undrew hb3
  have HO3 := hide (hO3.mono (B' := W.heap.size) (Nat.le_refl _))
  have HX3 := hide (HX.out.step hb3)
  have hk3 : Blk w3 (w.heap.size + 1) 90 (outV none 0 0 outZ none 0 0) := HX3.out.k0
  have HK3 := hide hk3
  have g2 : w3.cell? ⟨p, 2, none⟩ = some (.int .i64 S.ix) := HX3.out.blk.cell 2 rfl
  have g3 : w3.cell? ⟨p, 3, none⟩ = some (.int .i64 S.sub) := HX3.out.blk.cell 3 rfl
  clear hO3 hb3
  refine hK.out _ _ ?hS28 (fun hHeld => ?rest28)
  case hS28 => ((try dsimp only); (exact ⟨g2, g3⟩))
  case' rest28 => (clear hK K; try simp only [List.getElem_toArray, List.getElem_cons_zero, List.getElem_cons_succ, Act.put, List.setIfInBounds_toArray, List.set_cons_zero, List.set_cons_succ])
  unfold outV outZ at hk3
  obtain ⟨hk3_c0, hk3_c1, hk3_c2, hk3_c3, hk3_c4⟩ := cel5 hk3
  have hk3_f := hk3.frozen
  refine wpAnyT_take (by kernel_rfl) (by kernel_rfl) (i := 10) (oi := _) (v := ?v29) rfl (by kernel_rfl) (by kernel_rfl) (by kernel_rfl) (fun _ _ _ h => h) (Or.inl ⟨by rfl, ?hy29⟩) (by assumption) ?rest29
  case hy29 => ((intro w hSw; (try dsimp only at hSw); go_simp) <;> with_reducible rfl)
  case' rest29 => try simp only [List.getElem_toArray, List.getElem_cons_zero, List.getElem_cons_succ, Act.put, List.setIfInBounds_toArray, List.set_cons_zero, List.set_cons_succ]
  refine wpAnyT_take (by kernel_rfl) (by kernel_rfl) (i := 11) (oi := _) (v := ?v30) rfl (by kernel_rfl) (by kernel_rfl) (by kernel_rfl) (fun _ _ _ h => h) (Or.inl ⟨by rfl, ?hy30⟩) (by assumption) ?rest30
  case hy30 => ((intro w hSw; (try dsimp only at hSw); go_simp) <;> with_reducible rfl)
  case' rest30 => try simp only [List.getElem_toArray, List.getElem_cons_zero, List.getElem_cons_succ, Act.put, List.setIfInBounds_toArray, List.set_cons_zero, List.set_cons_succ]
  refine wpAnyT_late (i := 12) (o := _) rfl (by kernel_rfl) (by kernel_rfl) (fun K hK => ?_)
  go_simp
  refine hK.out _ _ ?rest32
  case' rest32 => (clear hK K; try simp only [List.getElem_toArray, List.getElem_cons_zero, List.getElem_cons_succ, Act.put, List.setIfInBounds_toArray, List.set_cons_zero, List.set_cons_succ])
  refine wpAnyT_done (by kernel_rfl) ?_ _
  repeat (clear hHeld)
  go_wp2_with fail
  have F1 := putO_blkT (As' := none) (ns' := 0) (cs' := 0) (O' := ⟨[], true, S.ix, S.sub, b⟩) (A' := A3) (n' := m) (c' := c3) HK3.out
  have F2 := putO_own HO3.out zz none 0 0 ⟨[], true, S.ix, S.sub, b⟩ A3 m c3
  have F3 := putO_far HX3.out.blk hne1 none 0 0 ⟨[], true, S.ix, S.sub, b⟩ A3 m c3
  have F4 := putO_only HX3.out.only (show w.heap.size ≤ w.heap.size + 1 by omega) none 0 0 ⟨[], true, S.ix, S.sub, b⟩ A3 m c3
  unfold putO at F1 F2 F3 F4
  refine rret_out (O := ⟨[], true, S.ix, S.sub, b⟩) (As := none) (ns := 0) (cs := 0) (A := A3) (n := m) (c := c3) rfl rfl rfl F1 ?_
  exact ⟨A3, c3, rfl, F2.mono (by omega), F3, F4⟩
end
end Go.Proofs.YtimdmhhgomfijaaGreat
