/- The walk of JournalWork. -/
import Derived.Test.YtapfadaplncpeaaJouX
namespace Go.Proofs.Ytapfadaplncpeaa
set_option linter.unusedVariables false
set_option linter.unusedSimpArgs false
set_option linter.unnecessarySimpa false
open Go.RowKit
set_option maxRecDepth 20000
set_option maxHeartbeats 8000000

def uv (x : Nat) : Value := .int .u16 (x : Nat)
structure WorkS (S : FS) (k : Nat) : Prop where
  fresh : Fresh S k
  off : S.off = false
  ah : S.ahead < 0
  most : S.most = 1000
  num : numJ (openJ S) = k
  ops : S.ops ≤ 1000 * k
  len : S.wear.length = 4
theorem journalWork_walk (A : Option Addr) (n c : Nat) (L : List Nat) (w : World) (hn : n = L.length) (hs : Sl w A (L.map uv)) (hL : ∀ x ∈ L, x ≤ 65535) :
    Calls Try.prog 14 #[.slice A n c] w (TrueB w) := by
  have HN := hide hn
  have HS := hide hs
  have HL := hide hL
  clear hn hs hL
  obtain ⟨S0, hS0⟩ : ∃ S, S = newF 4 1000 := ⟨_, rfl⟩
  have HNEW := hide (fun W => fl_New 4 1000 W (by decide) (by decide) (by decide) (by decide))
  rw [show ofF (List.replicate (4 * 1024) 255) 4 1000 = S0 from hS0.symm] at HNEW
  have hw0 : WorkS S0 0 := by
    rw [hS0]
    have hf := newF_fresh 4 1000 (by decide) (by decide)
    exact ⟨hf, rfl, by decide, rfl, by have := hf.num; omega, by simp [newF], by simp [newF]⟩
  have HW0 := hide hw0
  clear hS0 hw0
  go_enter Try.func14, Try.ntmps14
  go_wp2_with fail
  refine (HNEW.out _).mono ?_
  rintro e w1 ⟨q, rfl, hF1, hq1, hb1⟩
  have HF1 := hide hF1
  have HQ := hide hq1
  have HBW1 := hide hb1
  have HQL : Hid (∀ g, q.F g → g < w1.heap.size) := hide hF1.lt
  clear hF1 hq1 hb1
  go_wp2_with fail
  refine (jo_Open q S0 w1 HF1.out HW0.out.off (by rw [HW0.out.len]; decide)).mono ?_
  rintro e w2 ⟨p, Aj, nj, cj, ds, rfl, hJ2, hb2⟩
  have HJ2 := hide hJ2
  have HBW2 := hide (below_step hb2 HBW1.out)
  have HF2 := hide (HF1.out.below hb2)
  have hz12 := hb2.size
  have hz1 := HBW1.out.size
  have HDJ : Hid (∀ g, w1.heap.size ≤ g → ¬ q.F g) := hide (fun g hg hq => by have := HQL.out g hq; omega)
  clear hJ2 hb2
  go_wp2_with fail
  go_loopw [6, 7, 8, 9, 10, 11, 12, 13, 14] (fun i _ _ _ _ _ _ _ _ wr => ∃ k S ds, k ≤ n ∧ k ≤ 30 ∧ i = .int .i64 (k : Nat) ∧ Hid (WorkS S k) ∧ Hid (JD wr (fun g => w1.heap.size ≤ g) p q.p Aj nj cj (openJ S) ds) ∧ Hid (FD wr q S) ∧ Hid (Below w.heap.size w wr ∧ w1.heap.size ≤ wr.heap.size)) (fun i _ _ _ _ _ _ _ _ _ => 30 - (intOf i).toNat)
  case atStart => exact ⟨0, S0, ds, by omega, by omega, rfl, HW0, HJ2, HF2, hide ⟨HBW2.out, hz12⟩⟩
  case round =>
    obtain ⟨k, S, ds', hk, hk30, rfl, HW, HJ, HF, HBr⟩ := hrel
    by_cases hlt : k < n ∧ k < 30
    · obtain ⟨hkn, hk3⟩ := hlt
      obtain ⟨sz, hsz⟩ : ∃ x, L[k]? = some x := ⟨_, List.getElem?_eq_getElem (by rw [← HN.out]; exact hkn)⟩
      have hsz2 := HL.out sz (List.mem_of_getElem? hsz)
      obtain ⟨b, off, hA, cx⟩ := (HS.out.below HBr.out.1).at_ (j := k) (u := uv sz) (by rw [List.getElem?_map, hsz]; rfl)
      subst hA
      unfold uv at cx
      obtain ⟨i1, i2, i3⟩ := idx_at hkn
      have e1 : ((sz : Int) % 961) = ((sz % 961 : Nat) : Int) := by omega
      obtain ⟨s2, hs2⟩ : ∃ x, x = sz % 961 := ⟨_, rfl⟩
      rw [← hs2] at e1
      have hs960 : s2 ≤ 960 := by omega
      have hmod : s2 % 1001 = s2 := by omega
      have HJr : Hid (JD wr (fun g => w1.heap.size ≤ g ∧ g < wr.heap.size) p q.p Aj nj cj (openJ S) ds') := hide (HJ.out.mono (fun g hlt h => ⟨h, hlt⟩))
      have HDA := hide (law_data 0 0 0 s2 0 k wr (by omega) (by omega) (by omega))
      rw [hmod] at HDA
      clear hsz hs2 hmod
      go_wp2_with fail
      refine HDA.out.mono ?_
      rintro e w3 ⟨A3, c3, l, rfl, hl, hO3, hb3⟩
      have HO3 := hide hO3
      have HB3 := hide hb3
      have HLN := hide hl
      have HJ3 := hide (HJr.out.below hb3)
      have hz3 := hb3.size
      have HF3 := hide (HF.out.below hb3)
      clear hO3 hb3 hl
      obtain ⟨S2, bb, hap, hf2, hoff2, hah2, hmo2, hrec2, hhas2, hnum2, hops2, hbb, hsum2, hlen2⟩ := work_step (d := l) HW.out.fresh HW.out.off HW.out.ah (by rw [HW.out.most]; omega) (by omega) (by rw [← HLN.out]; exact hs960)
      have hT1 := sum_four HW.out.len
      have hT2 := sum_four (l := S2.wear) (by rw [hlen2]; exact HW.out.len)
      have hWn : Hid (WorkS S2 (k + 1)) := hide ⟨hf2, hoff2, by rw [hah2]; exact HW.out.ah, by rw [hmo2]; exact HW.out.most, by rw [hnum2, HW.out.num], by have := HW.out.ops; have := HLN.out; omega, by rw [hlen2]; exact HW.out.len⟩
      have hwb : ∀ j, S.wear.getD j 0 ≤ 1000 := fun j => by have := le_sum S.wear j; have h2 := HW.out.fresh.wear; by_cases hj : j < S.wear.length; exact Nat.le_trans (h2 j hj) (by omega); rw [List.getD_eq_getElem?_getD, List.getElem?_eq_none (by omega)]; simp
      have hwb2 : ∀ j, S2.wear.getD j 0 ≤ 1000 := fun j => by have h2 := hf2.wear; by_cases hj : j < S2.wear.length; exact Nat.le_trans (h2 j hj) (by omega); rw [List.getD_eq_getElem?_getD, List.getElem?_eq_none (by omega)]; simp
      have b0 := hwb 0
      have b1 := hwb 1
      have b2 := hwb 2
      have b3 := hwb 3
      have d0 := hwb2 0
      have d1 := hwb2 1
      have d2 := hwb2 2
      have d3 := hwb2 3
      have W0 := hide (fl_Worn q S w3 0 HF3.out (by rw [HW.out.len]; decide))
      have W1 := hide (fl_Worn q S w3 1 HF3.out (by rw [HW.out.len]; decide))
      have W2 := hide (fl_Worn q S w3 2 HF3.out (by rw [HW.out.len]; decide))
      have W3 := hide (fl_Worn q S w3 3 HF3.out (by rw [HW.out.len]; decide))
      have X0 := hide (fun W (h : FD W q S2) => fl_Worn q S2 W 0 h (by rw [hlen2, HW.out.len]; decide))
      have X1 := hide (fun W (h : FD W q S2) => fl_Worn q S2 W 1 h (by rw [hlen2, HW.out.len]; decide))
      have X2 := hide (fun W (h : FD W q S2) => fl_Worn q S2 W 2 h (by rw [hlen2, HW.out.len]; decide))
      have X3 := hide (fun W (h : FD W q S2) => fl_Worn q S2 W 3 h (by rw [hlen2, HW.out.len]; decide))
      have O1 := hide (fl_Ops q S w3 HF3.out)
      have O2 := hide (fun W (h : FD W q S2) => fl_Ops q S2 W h)
      have LS := hide (fun W ds (h : JD W (fun g => (w1.heap.size ≤ g ∧ g < wr.heap.size) ∨ w3.heap.size ≤ g) p q.p Aj nj cj (openJ S2) ds) => jo_Last W h)
      rw [hrec2, hhas2, HW.out.num] at LS
      have hapc := jo_Append_ok (c2 := c3) (d := l) 1 w3 HJ3.out HF3.out (fun g hg => HDJ.out g hg.1) rfl HW.out.off HLN.out (by omega) HO3.out.sl (by have := HW.out.ops; omega)
      rw [hap] at hapc
      have HAPC := hide hapc
      have ho1 : S.ops ≤ 100000 := by have := HW.out.ops; omega
      obtain ⟨a0, ha0⟩ : ∃ x, x = S.wear.getD 0 0 := ⟨_, rfl⟩
      obtain ⟨a1, ha1⟩ : ∃ x, x = S.wear.getD 1 0 := ⟨_, rfl⟩
      obtain ⟨a2, ha2⟩ : ∃ x, x = S.wear.getD 2 0 := ⟨_, rfl⟩
      obtain ⟨a3, ha3⟩ : ∃ x, x = S.wear.getD 3 0 := ⟨_, rfl⟩
      obtain ⟨f0, hf0⟩ : ∃ x, x = S2.wear.getD 0 0 := ⟨_, rfl⟩
      obtain ⟨f1, hf1⟩ : ∃ x, x = S2.wear.getD 1 0 := ⟨_, rfl⟩
      obtain ⟨f2, hf2'⟩ : ∃ x, x = S2.wear.getD 2 0 := ⟨_, rfl⟩
      obtain ⟨f3, hf3⟩ : ∃ x, x = S2.wear.getD 3 0 := ⟨_, rfl⟩
      obtain ⟨o1, ho1'⟩ : ∃ x, x = S.ops := ⟨_, rfl⟩
      obtain ⟨o2, ho2'⟩ : ∃ x, x = S2.ops := ⟨_, rfl⟩
      rw [← ha0] at W0 b0 hT1
      rw [← ha1] at W1 b1 hT1
      rw [← ha2] at W2 b2 hT1
      rw [← ha3] at W3 b3 hT1
      rw [← hf0] at X0 d0 hT2
      rw [← hf1] at X1 d1 hT2
      rw [← hf2'] at X2 d2 hT2
      rw [← hf3] at X3 d3 hT2
      rw [← ho1'] at O1 hops2 ho1
      rw [← ho2'] at O2 hops2
      obtain ⟨T1, hTT1⟩ : ∃ T, T = a0 + a1 + a2 + a3 := ⟨_, rfl⟩
      obtain ⟨T2, hTT2⟩ : ∃ T, T = f0 + f1 + f2 + f3 := ⟨_, rfl⟩
      have hT12 : T2 = T1 + bb := by omega
      have hT1b : T1 ≤ 4000 := by omega
      have g1 : (a0 : Int) + (a1 : Int) + (a2 : Int) + (a3 : Int) = (T1 : Int) := by omega
      have g2 : (f0 : Int) + (f1 : Int) + (f2 : Int) + (f3 : Int) = (T2 : Int) := by omega
      have hln : l.length = s2 := HLN.out.symm
      have u1 : decide ((T2 : Int) - (T1 : Int) < 0) = false := by simp; omega
      have u2 : decide ((1 : Int) < (T2 : Int) - (T1 : Int)) = false := by simp; omega
      have u3 : ((o2 : Int) - (o1 : Int) != (s2 : Int) + 13 + (T2 : Int) - (T1 : Int)) = false := by simp; omega
      have hT2b : T2 ≤ 4001 := by omega
      have ho2b : o2 ≤ 200000 := by omega
      have hT3 : T1 ≤ T2 := by omega
      have hT4 : T2 ≤ T1 + 1 := by omega
      clear hap hf2 hoff2 hah2 hmo2 hrec2 hhas2 hnum2 hops2 hbb hsum2 hlen2 hT1 hT2 hwb hwb2 ha0 ha1 ha2 ha3 hf0 hf1 hf2' hf3 ho1' ho2' hTT1 hTT2 hT12 hln hapc
      go_wp2_with fail
      refine O1.out.mono ?_
      rintro e w4 ⟨rfl, rfl⟩
      go_wp2_with fail
      refine W0.out.mono ?_
      rintro e w4 ⟨rfl, rfl⟩
      go_wp2_with fail
      refine W1.out.mono ?_
      rintro e w4 ⟨rfl, rfl⟩
      go_wp2_with fail
      refine W2.out.mono ?_
      rintro e w4 ⟨rfl, rfl⟩
      go_wp2_with fail
      refine W3.out.mono ?_
      rintro e w4 ⟨rfl, rfl⟩
      go_wp2_with fail
      refine HAPC.out.mono ?_
      rintro e w5 ⟨ds5, rfl, hJ5, hF5, hO5⟩
      have HJ5 := hide hJ5
      have HF5 := hide hF5
      have HB5 : Hid (Below w.heap.size w w5 ∧ w1.heap.size ≤ w5.heap.size) := hide ⟨below_only hO5 (below_step HB3.out HBr.out.1) (fun g hg => by
        rcases hg with hg | hg
        · omega
        · exact HQ.out g hg), by have := hO5.size; have := HBr.out.2; omega⟩
      have HO35 : Hid (OwnB w5 wr.heap.size A3 s2 c3 l) := hide ⟨HO3.out.hn, HO3.out.own.keep (fun g hg hlt _ => hO5.block g hlt (fun h => by
        rcases h with h | h
        · omega
        · have := HQL.out g h; have := HBr.out.2; omega))⟩
      have hz5 := hO5.size
      clear hJ5 hF5 hO5
      dsimp only
      go_wp2_with fail
      refine (O2.out w5 HF5.out).mono ?_
      rintro e w6 ⟨rfl, rfl⟩
      go_wp2_with fail
      refine (X0.out w5 HF5.out).mono ?_
      rintro e w6 ⟨rfl, rfl⟩
      go_wp2_with fail
      refine (X1.out w5 HF5.out).mono ?_
      rintro e w6 ⟨rfl, rfl⟩
      go_wp2_with fail
      refine (X2.out w5 HF5.out).mono ?_
      rintro e w6 ⟨rfl, rfl⟩
      go_wp2_with fail
      refine (X3.out w5 HF5.out).mono ?_
      rintro e w6 ⟨rfl, rfl⟩
      go_wp2_with fail
      refine (LS.out w5 ds5 HJ5.out).mono ?_
      rintro e w6 ⟨A6, c6, rfl, hO6, hb6⟩
      unfold rcV
      dsimp only
      rw [← HLN.out] at hO6 ⊢
      rw [show (((k + 1 : Nat)) : Int) = (k : Int) + 1 by omega]
      have q6 := blk_one w6 40 #[.int .i64 1, .int .u32 ((k : Int) + 1), .slice A6 s2 c6]
      have hb7 := below_step (below_alloc (Below.refl w6.heap.size w6) (.cells #[.int .i64 1, .int .u32 ((k : Int) + 1), .slice A6 s2 c6] 40)) hb6
      have HJ7 := hide (HJ5.out.below hb7)
      have HF7 := hide (HF5.out.below hb7)
      have HB7 : Hid (Below w.heap.size w (w6.alloc (.cells #[.int .i64 1, .int .u32 ((k : Int) + 1), .slice A6 s2 c6] 40)) ∧ w1.heap.size ≤ (w6.alloc (.cells #[.int .i64 1, .int .u32 ((k : Int) + 1), .slice A6 s2 c6] 40)).heap.size) := hide ⟨below_step hb7 HB5.out.1, Nat.le_trans HB5.out.2 hb7.size⟩
      have k1 := str_b c6 HLN.out (hO6.alloc (.cells #[.int .i64 1, .int .u32 ((k : Int) + 1), .slice A6 s2 c6] 40)).sl
      have k2 := str_b c3 HLN.out (HO35.out.below hb7).sl
      obtain ⟨q6_c0, q6_c1, q6_c2⟩ := cel3 q6
      have q6_f := q6.frozen
      clear hO6 hb6 q6 hb7
      go_wp2_with fail
      go_roundw
      case rel => exact ⟨k + 1, S2, ds5, by omega, by omega, by go_num, hWn, hide (HJ7.out.mono (fun g _ h => by have := HBr.out.2; rcases h with h | h; exact h.1; omega)), HF7, HB7⟩
      case measure => simp [intOf]; omega
    · have HKN := hide (known_09 wr)
      by_cases hkn : k < n
      · have hk3 : ¬ k < 30 := fun h => hlt ⟨hkn, h⟩
        have u1 : decide ((k : Int) < 30) = false := by simp; omega
        have u2 : decide (k < 30) = false := by simp; omega
        clear hlt
        go_wp2_with fail
        refine HKN.out.mono ?_
        rintro e w9 ⟨rfl, hb9⟩
        go_wp2_with fail
        go_ret
        exact (⟨rfl, below_step hb9 HBr.out.1⟩ : TrueB w _ _)
      · clear hlt
        go_wp2_with fail
        refine HKN.out.mono ?_
        rintro e w9 ⟨rfl, hb9⟩
        go_wp2_with fail
        go_ret
        exact (⟨rfl, below_step hb9 HBr.out.1⟩ : TrueB w _ _)
end Go.Proofs.Ytapfadaplncpeaa
