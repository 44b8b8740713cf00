/- The walk of JournalCrashes. -/
import Derived.Test.YtapfadaplncpeaaJouZ
import Derived.Deep.DeepCutAuto
namespace Go.Proofs.Ytapfadaplncpeaa
set_option linter.unusedVariables false
set_option linter.unusedSimpArgs false
set_option linter.unnecessarySimpa false
open Go.RowKit
set_option maxRecDepth 20000
set_option maxHeartbeats 8000000

structure JOp where
  kd : Int
  kk : Int
  sz : Nat
  n : Int
  wm : Nat
def SlOp (w : World) (A : Option Addr) (L : List JOp) : Prop := ∀ j v, L[j]? = some v → ∃ b off, A = some ⟨b, off, none⟩ ∧ w.cell? ⟨b, off + j * 5, none⟩ = some (.int .i64 v.kd) ∧ w.cell? ⟨b, off + j * 5 + 1, none⟩ = some (.int .i64 v.kk) ∧
  w.cell? ⟨b, off + j * 5 + 2, none⟩ = some (.int .u16 (v.sz : Nat)) ∧ w.cell? ⟨b, off + j * 5 + 3, none⟩ = some (.int .i64 v.n) ∧ w.cell? ⟨b, off + j * 5 + 4, none⟩ = some (.int .u32 (v.wm : Nat))
theorem SlOp.below {w w' : World} {A : Option Addr} {L : List JOp} (h : SlOp w A L) (hb : Below w.heap.size w w') : SlOp w' A L := by
  intro j v hv
  obtain ⟨b, off, e, h0, h1, h2, h3, h4⟩ := h j v hv
  have hk : ∀ {p : Addr} {u : Value}, w.cell? p = some u → w'.cell? p = some u := fun hc => (hb.cell (lt_of_cell hc)).trans hc
  exact ⟨b, off, e, hk h0, hk h1, hk h2, hk h3, hk h4⟩
structure CrashS (S : FS) (k : Nat) : Prop where
  fresh : Fresh S k
  off : S.off = false
  most : S.most = 1000
  ops : S.ops ≤ 1000 * k
  len : S.wear.length = 3
/-- the last record, as the loop keeps it -/
structure LastK (w : World) (g6 hi : Nat) (A : Option Addr) (c : Nat) (r : Int × Nat × List UInt8) : Prop where
  blk : Blk w g6 40 (rcV r.1 r.2.1 A r.2.2.length c)
  own : OwnB w hi A r.2.2.length c r.2.2
theorem fresh_more {S : FS} {N : Nat} (h : Fresh S N) (hN : ((N + 1 : Nat) : Int) < S.most) (hN2 : N + 1 ≤ 1000000) : Fresh S (N + 1) :=
  ⟨h.len, h.three, fun j hj => Nat.le_succ_of_le (h.wear j hj), hN, Nat.le_succ_of_le h.num, hN2⟩
theorem LastK.keep {w w' : World} {g6 hi : Nat} {A : Option Addr} {c : Nat} {r : Int × Nat × List UInt8} (h : LastK w g6 hi A c r) (hk : ∀ g, (g = g6 ∨ hi ≤ g) → g < w.heap.size → w'.heap[g]? = w.heap[g]?) : LastK w' g6 hi A c r :=
  ⟨(hk g6 (.inl rfl) h.blk.lt).trans h.blk, ⟨h.own.hn, h.own.own.keep (fun g hg hlt _ => hk g (.inr hg) hlt)⟩⟩
theorem journalCrashes_walk (A : Option Addr) (n c : Nat) (L : List JOp) (w : World) (hn : n = L.length) (hs : SlOp w A L) (hL : ∀ x ∈ L, x.sz ≤ 65535 ∧ x.wm ≤ 4294967295) :
    Calls Try.prog 15 #[.slice A n c] w (TrueB w) := by
  have HN := hide hn
  have HS := hide hs
  have HL := hide hL
  clear hn hs hL
  obtain ⟨S0, hS0⟩ : ∃ S, S = newF 3 1000 := ⟨_, rfl⟩
  have HNEW := hide (fun W => fl_New 3 1000 W (by decide) (by decide) (by decide) (by decide))
  rw [show ofF (List.replicate (3 * 1024) 255) 3 1000 = S0 from hS0.symm] at HNEW
  have hw0 : CrashS S0 0 := by
    rw [hS0]
    exact ⟨newF_fresh 3 1000 (by decide) (by decide), rfl, rfl, by simp [newF], by simp [newF]⟩
  have HW0 := hide hw0
  clear hS0 hw0
  go_enter Try.func15, Try.ntmps15
  go_wp2_with fail
  refine (HNEW.out _).mono ?_
  rintro e w1 ⟨q, rfl, hF1, hq1, hb1⟩
  have HF1 := hide hF1
  have HQ := hide hq1
  have HBW1 := hide hb1
  have HQL : Hid (∀ g, q.F g → g < w1.heap.size) := hide hF1.lt
  clear hF1 hq1 hb1
  go_wp2_with fail
  refine (jo_Open q S0 w1 HF1.out HW0.out.off (by rw [HW0.out.len]; decide)).mono ?_
  rintro e w2 ⟨p, Aj, nj, cj, ds, rfl, hJ2, hb2⟩
  have HJ2 := hide hJ2
  have HBW2 := hide (below_step hb2 HBW1.out)
  have HF2 := hide (HF1.out.below hb2)
  have hz12 := hb2.size
  have hz1 := HBW1.out.size
  clear hJ2 hb2
  go_wp2_with fail
  refine (jo_Last w2 HJ2.out).mono ?_
  rintro e w3 ⟨A3, c3, rfl, hO3, hb3⟩
  have q3 := blk_one w3 40 (rcV (recJ (openJ S0)).1 (recJ (openJ S0)).2.1 A3 (recJ (openJ S0)).2.2.length c3)
  have hb4 := below_step (below_alloc (Below.refl w3.heap.size w3) (.cells (rcV (recJ (openJ S0)).1 (recJ (openJ S0)).2.1 A3 (recJ (openJ S0)).2.2.length c3) 40)) hb3
  have HLK : Hid (LastK (w3.alloc (.cells (rcV (recJ (openJ S0)).1 (recJ (openJ S0)).2.1 A3 (recJ (openJ S0)).2.2.length c3) 40)) w3.heap.size w2.heap.size A3 c3 (recJ (openJ S0))) := hide ⟨q3, hO3.alloc _⟩
  have HJ4 : Hid (JD (w3.alloc (.cells (rcV (recJ (openJ S0)).1 (recJ (openJ S0)).2.1 A3 (recJ (openJ S0)).2.2.length c3) 40)) (fun g => w1.heap.size ≤ g ∧ g < w2.heap.size) p q.p Aj nj cj (openJ S0) ds) := hide ((HJ2.out.mono (fun g hlt h => ⟨h, hlt⟩)).below hb4)
  have HF4 := hide (HF2.out.below hb4)
  have HB4 := hide (below_step hb4 HBW2.out)
  have hz23 := hb3.size
  obtain ⟨g6, hg6⟩ : ∃ g, g = w3.heap.size := ⟨_, rfl⟩
  rw [← hg6] at HLK
  have HG6 := hide hg6
  unfold rcV at HLK HJ4 HF4 HB4 ⊢
  dsimp only
  clear q3 hb4 hO3 hb3 hg6
  go_wp2_with fail
  rw [← HG6.out]
  go_loopw [4, 7, 8, 9, 10, 11, 12, 13, 14, 15, 16, 17] (fun s4 s7 i _ _ _ _ _ _ _ _ _ wr => ∃ k S p Aj nj cj ds lo hi Ar cr, k ≤ n ∧ k ≤ 30 ∧ s4 = .pointer (some ⟨p, 0, none⟩) ∧ s7 = .bool (openJ S).has ∧ i = .int .i64 (k : Nat) ∧ Hid (CrashS S k) ∧ Hid (JD wr (fun g => lo ≤ g ∧ g < hi) p q.p Aj nj cj (openJ S) ds) ∧ Hid (FD wr q S) ∧ Hid (LastK wr g6 hi Ar cr (recJ (openJ S))) ∧
    Hid (w1.heap.size ≤ lo ∧ lo ≤ hi ∧ hi ≤ wr.heap.size ∧ (g6 < lo ∨ hi ≤ g6) ∧ g6 < wr.heap.size ∧ w1.heap.size ≤ g6) ∧ Hid (Below w.heap.size w wr)) (fun _ _ i _ _ _ _ _ _ _ _ _ _ => 30 - (intOf i).toNat)
  case atStart => exact ⟨0, S0, p, Aj, nj, cj, ds, w1.heap.size, w2.heap.size, A3, c3, by omega, by omega, rfl, rfl, rfl, HW0, HJ4, HF4, HLK, hide ⟨Nat.le_refl _, hz12, by simp; omega, .inr (by rw [HG6.out]; exact hz23), by rw [HG6.out]; simp, by rw [HG6.out]; omega⟩, HB4⟩
  case round =>
    obtain ⟨k, S, p, Aj, nj, cj, ds, lo, hi, Ar, cr, hk, hk30, rfl, rfl, rfl, HW, HJ, HF, HLR, HZ, HBr⟩ := hrel
    by_cases hlt : k < n ∧ k < 30
    · obtain ⟨hkn, hk3⟩ := hlt
      obtain ⟨v, hv⟩ : ∃ x, L[k]? = some x := ⟨_, List.getElem?_eq_getElem (by rw [← HN.out]; exact hkn)⟩
      have hvb := HL.out v (List.mem_of_getElem? hv)
      obtain ⟨b, off, hA, cx0, cx1, cx2, cx3, cx4⟩ := (HS.out.below HBr.out) k v hv
      subst hA
      obtain ⟨i1, i2, i3⟩ := idx_at hkn
      obtain ⟨hvs, hvw⟩ := hvb
      have q0 := blk_one wr 79 #[.int .i64 v.kd, .int .i64 v.kk, .int .u16 (v.sz : Nat), .int .i64 v.n, .int .u32 (v.wm : Nat)]
      have hb0 := below_alloc (Below.refl wr.heap.size wr) (.cells #[.int .i64 v.kd, .int .i64 v.kk, .int .u16 (v.sz : Nat), .int .i64 v.n, .int .u32 (v.wm : Nat)] 79)
      obtain ⟨s2, hs2⟩ : ∃ x, x = v.sz % 1001 := ⟨_, rfl⟩
      have hs1000 : s2 ≤ 1000 := by omega
      have HDA := hide (law_data v.kd v.kk v.n v.sz v.wm k (wr.alloc (.cells #[.int .i64 v.kd, .int .i64 v.kk, .int .u16 (v.sz : Nat), .int .i64 v.n, .int .u32 (v.wm : Nat)] 79)) hvs hvw (by omega))
      rw [← hs2] at HDA
      have HQ0 := hide q0
      have HB0 := hide hb0
      obtain ⟨q0_c0, q0_c1, q0_c2, q0_c3, q0_c4⟩ := cel5 q0
      have q0_f := q0.frozen
      clear hv hs2 q0 hb0
      go_wp2_with fail
      refine HDA.out.mono ?_
      rintro e w3 ⟨A3, c3, l, rfl, hl, hO3, hb3⟩
      have HO3 := hide hO3
      have HB3 := hide (below_step hb3 HB0.out)
      have HQ3 := hide (HQ0.out.below hb3 HQ0.out.lt)
      have HLN := hide hl
      have HJ3 := hide (HJ.out.below HB3.out)
      have HF3 := hide (HF.out.below HB3.out)
      have HL3 := hide (HLR.out.keep (fun g _ hlt => HB3.out.block g hlt))
      have hz3 := HB3.out.size
      have q3 := HQ3.out
      clear q0_c0 q0_c1 q0_c2 q0_c3 q0_c4 q0_f
      obtain ⟨q3_c0, q3_c1, q3_c2, q3_c3, q3_c4⟩ := cel5 q3
      have q3_f := q3.frozen
      clear hO3 hb3 hl q3 cx0 cx1 cx2 cx3 cx4
      by_cases hbig : 960 < s2
      · have HWn : Hid (CrashS S (k + 1)) := hide ⟨fresh_more HW.out.fresh (by rw [HW.out.most]; omega) (by omega), HW.out.off, HW.out.most, by have := HW.out.ops; omega, HW.out.len⟩
        go_wp2_with fail
        go_roundw
        case rel => exact ⟨k + 1, S, p, Aj, nj, cj, ds, lo, hi, Ar, cr, by omega, by omega, rfl, rfl, by go_num, HWn, HJ3, HF3, HL3, hide ⟨HZ.out.1, HZ.out.2.1, by have := HZ.out.2.2.1; omega, HZ.out.2.2.2.1, by have := HZ.out.2.2.2.2.1; omega, HZ.out.2.2.2.2.2⟩, hide (below_step HB3.out HBr.out)⟩
        case measure => simp [intOf]; omega
      · have hs960 : s2 ≤ 960 := by omega
        have HCU := hide (fl_Cut q S w3 1099511627776 0 HF3.out (by decide) (by show (0 : Nat) < _; decide))
        go_wp2_with fail
        refine HCU.out.mono ?_
        rintro e w4 ⟨rfl, hF4, hO4⟩
        have HF4' := hide hF4
        have HO4 := hide hO4
        clear hF4 hO4
        have hqp : wr.heap.size ≠ q.p := fun e => by have := HQL.out q.p (.inl rfl); have := HZ.out; omega
        have HQ4 := hide ((HO4.out.block _ HQ3.out.lt hqp).trans HQ3.out)
        have q4c3 : w4.cell? ⟨wr.heap.size, 3, none⟩ = some (.int .i64 v.n) := Blk.cell HQ4.out 3 rfl
        have q4c4 : w4.cell? ⟨wr.heap.size, 4, none⟩ = some (.int .u32 (v.wm : Nat)) := Blk.cell HQ4.out 4 rfl
        have q4c0 : w4.cell? ⟨wr.heap.size, 0, none⟩ = some (.int .i64 v.kd) := Blk.cell HQ4.out 0 rfl
        obtain ⟨ev, hev⟩ : ∃ b, (v.kd.tmod 2 == 1) = b := ⟨_, rfl⟩
        obtain ⟨cn, hcn⟩ : ∃ cn : Nat, v.n % ((s2 : Int) + 20) = ((cn : Nat) : Int) := Int.eq_ofNat_of_zero_le (Int.emod_nonneg _ (by omega))
        have hcnb : cn ≤ 2000 := by have := Int.emod_lt_of_pos v.n (show (0 : Int) < (s2 : Int) + 20 by omega); omega
        have HCN := hide (fun W => count_any v.n ((s2 : Int) + 20) W (by omega) (by omega))
        rw [hcn] at HCN
        have HCC := hide (fun W (h : FD W q { S with ahead := ((1099511627776 : Nat) : Int), mask := 0 }) => fl_Cut q _ W cn v.wm h (by omega) (by show v.wm < _; omega))
        have hw20 : IntKind.i64.wrap ((s2 : Int) + 20) = (s2 : Int) + 20 := by rw [IntKind.wrap_i64]; omega
        clear hcn q3_c0 q3_c1 q3_c2 q3_c3 q3_c4 q3_f
        go_upto_if 60 with fail
        go_cut [] (fun wx => ∃ (ah : Int) (mk : Nat), Hid (FD wx q { S with ahead := ah, mask := mk }) ∧ Hid (Only (fun g => g = q.p) w3 wx))
        case first =>
          cases ev
          · go_wp2_with fail
            go_meet
            case rel => exact ⟨_, _, HF4', HO4⟩
          · go_wp2_with fail
            refine wp_region_held_drew (S := (fun w' => w'.cell? ⟨wr.heap.size, 3, none⟩ = some (.int .i64 v.n) ∧ w'.cell? ⟨wr.heap.size, 4, none⟩ = some (.int .u32 (v.wm : Nat)))) (by kernel_rfl) ?hS1 (fun hHeld => ?rest1)
            case hS1 => ((try dsimp only); (exact ⟨q4c3, q4c4⟩))
            case' rest1 => skip
            refine wpAnyH_take (i := 0) (oi := _) (v := ?v2) rfl (by kernel_rfl) (by kernel_rfl) (by kernel_rfl) (fun _ _ _ h => h) (Or.inl ⟨by rfl, ?hy2⟩) (by assumption) ?rest2
            case hy2 => ((intro w hSw; (try dsimp only at hSw); go_simp) <;> with_reducible rfl)
            case' rest2 => try simp only [List.getElem_toArray, List.getElem_cons_zero, List.getElem_cons_succ, Act.put, List.setIfInBounds_toArray, List.set_cons_zero, List.set_cons_succ]
            refine wpAnyH_take (i := 1) (oi := _) (v := ?v3) rfl (by kernel_rfl) (by kernel_rfl) (by kernel_rfl) (fun _ _ _ h => h) (Or.inl ⟨by rfl, ?hy3⟩) (by assumption) ?rest3
            case hy3 => ((intro w hSw; (try dsimp only at hSw); go_simp) <;> with_reducible rfl)
            case' rest3 => try simp only [List.getElem_toArray, List.getElem_cons_zero, List.getElem_cons_succ, Act.put, List.setIfInBounds_toArray, List.set_cons_zero, List.set_cons_succ]
            refine wpAnyH_take (i := 2) (oi := _) (v := ?v4) rfl (by kernel_rfl) (by kernel_rfl) (by kernel_rfl) (fun _ _ _ h => h) (Or.inl ⟨by rfl, ?hy4⟩) (by assumption) ?rest4
            case hy4 => ((intro w hSw; (try dsimp only at hSw); go_simp) <;> with_reducible rfl)
            case' rest4 => try simp only [List.getElem_toArray, List.getElem_cons_zero, List.getElem_cons_succ, Act.put, List.setIfInBounds_toArray, List.set_cons_zero, List.set_cons_succ]
            refine wpAnyH_take (i := 3) (oi := _) (v := ?v5) rfl (by kernel_rfl) (by kernel_rfl) (by kernel_rfl) (fun _ _ _ h => h) (Or.inl ⟨by rfl, ?hy5⟩) (by assumption) ?rest5
            case hy5 => ((intro w hSw; (try dsimp only at hSw); go_simp) <;> with_reducible rfl)
            case' rest5 => try simp only [List.getElem_toArray, List.getElem_cons_zero, List.getElem_cons_succ, Act.put, List.setIfInBounds_toArray, List.set_cons_zero, List.set_cons_succ]
            refine wpAnyH_take (i := 4) (oi := _) (v := ?v6) rfl (by kernel_rfl) (by kernel_rfl) (by kernel_rfl) (fun _ _ _ h => h) (Or.inl ⟨by rfl, ?hy6⟩) (by assumption) ?rest6
            case hy6 => ((intro w hSw; (try dsimp only at hSw); go_simp) <;> with_reducible rfl)
            case' rest6 => try simp only [List.getElem_toArray, List.getElem_cons_zero, List.getElem_cons_succ, Act.put, List.setIfInBounds_toArray, List.set_cons_zero, List.set_cons_succ]
            refine wpAnyH_take (i := 5) (oi := _) (v := ?v7) rfl (by kernel_rfl) (by kernel_rfl) (by kernel_rfl) (fun _ _ _ h => h) (Or.inl ⟨by rfl, ?hy7⟩) (by assumption) ?rest7
            case hy7 => ((intro w hSw; (try dsimp only at hSw); go_simp) <;> with_reducible rfl)
            case' rest7 => try simp only [List.getElem_toArray, List.getElem_cons_zero, List.getElem_cons_succ, Act.put, List.setIfInBounds_toArray, List.set_cons_zero, List.set_cons_succ]
            refine wpAnyH_take (i := 7) (oi := _) (v := ?v8) rfl (by kernel_rfl) (by kernel_rfl) (by kernel_rfl) (fun _ _ _ h => h) (Or.inl ⟨by rfl, ?hy8⟩) (by assumption) ?rest8
            case hy8 => ((intro w hSw; (try dsimp only at hSw); go_simp) <;> with_reducible rfl)
            case' rest8 => try simp only [List.getElem_toArray, List.getElem_cons_zero, List.getElem_cons_succ, Act.put, List.setIfInBounds_toArray, List.set_cons_zero, List.set_cons_succ]
            refine wpAnyH_take (i := 8) (oi := _) (v := ?v9) rfl (by kernel_rfl) (by kernel_rfl) (by kernel_rfl) (fun _ _ _ h => h) (Or.inl ⟨by rfl, ?hy9⟩) (by assumption) ?rest9
            case hy9 => ((intro w hSw; (try dsimp only at hSw); go_simp) <;> with_reducible rfl)
            case' rest9 => try simp only [List.getElem_toArray, List.getElem_cons_zero, List.getElem_cons_succ, Act.put, List.setIfInBounds_toArray, List.set_cons_zero, List.set_cons_succ]
            refine wpAnyH_ready (rs := [6]) (by kernel_rfl) (by simp) ?_
            refine AllReadyH.cons (o := _) rfl (fun K hK => ?_) AllReadyH.nil
            go_simp
            refine (HCN.out _).mono ?_
            rintro e w5 ⟨rfl, rfl⟩
            try dsimp only
            refine hK.out _ _ ?hS12 (fun hHeld => ?rest12)
            case hS12 => ((try dsimp only); (exact ⟨q4c3, q4c4⟩))
            case' rest12 => (clear hK K; try simp only [List.getElem_toArray, List.getElem_cons_zero, List.getElem_cons_succ, Act.put, List.setIfInBounds_toArray, List.set_cons_zero, List.set_cons_succ])
            refine wpAnyH_ready (rs := [9]) (by kernel_rfl) (by simp) ?_
            refine AllReadyH.cons (o := _) rfl (fun K hK => ?_) AllReadyH.nil
            go_simp
            refine (HCC.out _ (FD.below HF4'.out (below_drew1 (Below.refl _ _)))).mono ?_
            rintro e w6 ⟨rfl, hF6, hO6⟩
            have HF6 := hide hF6
            have HO6 : Hid (Only (fun g => g = q.p) w3 w6) := hide (Only.trans HO4.out (⟨hO6.os, hO6.tape, hO6.output, hO6.size, hO6.block⟩ : Only (fun g => g = q.p) w4 w6) (fun _ _ h => h))
            have q6 := (Only.block hO6 _ (Blk.lt HQ4.out) hqp).trans HQ4.out
            clear hF6 hO6
            try dsimp only
            refine hK.out _ _ ?hS15 (fun hHeld => ?rest15)
            case hS15 => ((try dsimp only); (exact ⟨Blk.cell q6 3 rfl, Blk.cell q6 4 rfl⟩))
            case' rest15 => (clear hK K; try simp only [List.getElem_toArray, List.getElem_cons_zero, List.getElem_cons_succ, Act.put, List.setIfInBounds_toArray, List.set_cons_zero, List.set_cons_succ])
            refine wpAnyH_done (by kernel_rfl) ?_ _
            have hEnd := hHeld.2
            repeat (clear hHeld)
            go_wp2_with fail
            go_meet
            case rel => exact ⟨_, _, HF6, HO6⟩
        case rest =>
          obtain ⟨ah, mk, HF7, HO7⟩ := hcut
          obtain ⟨S1, hS1⟩ : ∃ S1 : FS, S1 = { S with ahead := ah, mask := mk } := ⟨_, rfl⟩
          rw [← hS1] at HF7
          have hop : openJ S1 = openJ S := by rw [hS1]; rfl
          have hfr1 : Fresh S1 k := by rw [hS1]; exact ⟨HW.out.fresh.len, HW.out.fresh.three, HW.out.fresh.wear, HW.out.fresh.most, HW.out.fresh.num, HW.out.fresh.small⟩
          have hoff1 : S1.off = false := by rw [hS1]; exact HW.out.off
          have hmo1 : S1.most = 1000 := by rw [hS1]; exact HW.out.most
          have hops1 : S1.ops ≤ 1000 * k := by rw [hS1]; exact HW.out.ops
          have hlen1 : S1.wear.length = 3 := by rw [hS1]; exact HW.out.len
          obtain ⟨J', S2, er, hap, hfr2, hmo2, hlen2, hops2, hnum2, hres⟩ := crash_step (d := l) hfr1 hoff1 (by rw [hmo1]; omega) (by omega) (by rw [← HLN.out]; exact hs960)
          obtain ⟨⟨rk, rm, rd⟩, hrc⟩ : ∃ r, r = recJ (openJ S) := ⟨_, rfl⟩
          obtain ⟨hs, hhs⟩ : ∃ h, h = (openJ S).has := ⟨_, rfl⟩
          have hrm : numJ (openJ S) = rm := by
            have h1 := recS_num S
            rw [← recJ_recS, ← hrc] at h1
            exact h1.symm
          rw [hop, ← hrc, ← hhs, hrm] at hres
          have hrm30 : rm ≤ 31 := by rw [← hrm]; have := HW.out.fresh.num; omega
          rw [← hrc] at HL3
          rw [← hhs]
          have HGP : Hid (∀ g, (g = g6 ∨ hi ≤ g) → ¬ g = q.p) := hide (fun g hg e => by have := HQL.out q.p (.inl rfl); have := HZ.out; rcases hg with hg | hg <;> omega)
          have HGF : Hid (∀ g, (g = g6 ∨ hi ≤ g) → ¬ ((lo ≤ g ∧ g < hi) ∨ q.F g)) := hide (fun g hg h => by
            have hz := HZ.out
            rcases h with h | h
            · rcases hg with hg | hg <;> omega
            · have := HQL.out g h
              rcases hg with hg | hg <;> omega)
          have HJ7 := hide (HJ3.out.only HO7.out (fun g hg e => by have := HQL.out q.p (.inl rfl); have := HZ.out; omega))
          have HL7 := hide (HL3.out.keep (fun g hg hlt => HO7.out.block g hlt (HGP.out g hg)))
          have hzwr : wr.heap.size ≤ (wr.alloc (.cells #[.int .i64 v.kd, .int .i64 v.kk, .int .u16 (v.sz : Nat), .int .i64 v.n, .int .u32 (v.wm : Nat)] 79)).heap.size := HB0.out.size
          have HO37 : Hid (OwnB wc wr.heap.size A3 s2 c3 l) := hide ⟨HO3.out.hn, (HO3.out.own.keep (fun g hg hlt _ => HO7.out.block g hlt (HGP.out g (.inr (Nat.le_trans HZ.out.2.2.1 (Nat.le_trans hzwr hg)))))).mono hzwr⟩
          have HB7 := hide (below_only HO7.out (below_step HB3.out HBr.out) (fun g e => by rw [e]; exact HQ.out q.p (.inl rfl)))
          have hapc := jo_Append_ok (c2 := c3) (d := l) (J := openJ S) 1 wc HJ7.out HF7.out (fun g hg hq => by have := HQL.out g hq; have := HZ.out; omega) hop.symm hoff1 HLN.out (by omega) HO37.out.sl (by omega)
          rw [show appJ (openJ S) S1 1 l = (J', S2, er) by rw [← hop]; exact hap] at hapc
          have HAPC := hide hapc
          have HLEN2 : Hid (S2.wear.length = 3) := hide (by rw [hlen2, hlen1])
          have HWn : Hid (CrashS { S2 with off := false } (k + 1)) := hide ⟨⟨hfr2.len, hfr2.three, hfr2.wear, hfr2.most, hfr2.num, hfr2.small⟩, rfl, by show S2.most = 1000; rw [hmo2, hmo1], by show S2.ops ≤ _; omega, by show S2.wear.length = 3; rw [hlen2, hlen1]⟩
          have HRES := hide hres
          have hz7 := HO7.out.size
          clear hap hfr1 hoff1 hmo1 hops1 hlen1 hfr2 hmo2 hlen2 hops2 hnum2 hres hrc hhs hrm hapc hS1 hop q4c0 q4c3 q4c4
          go_wp2_with fail
          refine HAPC.out.mono ?_
          rintro e w8 ⟨ds8, rfl, _, hF8, hO8⟩
          dsimp only
          have HF8 := hide hF8
          have HL8 := hide (HL7.out.keep (fun g hg hlt => hO8.block g hlt (HGF.out g hg)))
          have HO38 : Hid (OwnB w8 wr.heap.size A3 s2 c3 l) := hide ⟨HO37.out.hn, HO37.out.own.keep (fun g hg hlt _ => hO8.block g hlt (HGF.out g (.inr (Nat.le_trans HZ.out.2.2.1 hg))))⟩
          have HB8 := hide (below_only hO8 HB7.out (fun g hg => by
            rcases hg with hg | hg
            · have := HZ.out; omega
            · exact HQ.out g hg))
          have hz8 := hO8.size
          have HON := hide (fl_On q S2 w8 HF8.out)
          clear hF8 hO8
          have hres := HRES.out
          clear HRES
          rcases hres with ⟨rfl, ho, hr, hh⟩ | ⟨rfl, ho, ⟨hr, hh⟩ | ⟨hr, hh⟩⟩
          · rw [ho] at HON
            go_wp2_with fail
            refine (fl_Start q S2 w8 HF8.out).mono ?_
            rintro e w9 ⟨rfl, hF9, hO9⟩
            have HF9 := hide hF9
            have HL9 := hide (HL8.out.keep (fun g hg hlt => hO9.block g hlt (HGP.out g hg)))
            have HO39 : Hid (OwnB w9 wr.heap.size A3 s2 c3 l) := hide ⟨HO38.out.hn, HO38.out.own.keep (fun g hg hlt _ => hO9.block g hlt (HGP.out g (.inr (Nat.le_trans HZ.out.2.2.1 hg))))⟩
            have HB9 := hide (below_only hO9 HB8.out (fun g e => by rw [e]; exact HQ.out q.p (.inl rfl)))
            have hz9 := hO9.size
            clear hF9 hO9
            go_wp2_with fail
            refine (jo_Open q { S2 with off := false } w9 HF9.out rfl (by show 3 ≤ S2.wear.length; rw [HLEN2.out]; decide)).mono ?_
            rintro e w10 ⟨p2, Aj2, nj2, cj2, ds2, rfl, hJ10, hb10⟩
            have HJ10 := hide hJ10
            have HF10 := hide (HF9.out.below hb10)
            have HL10 := hide (HL9.out.keep (fun g _ hlt => hb10.block g hlt))
            have HO310 := hide (HO39.out.below hb10)
            have HB10 := hide (below_step hb10 HB9.out)
            have hz10 := hb10.size
            clear hJ10 hb10
            go_wp2_with fail
            have hlast := jo_Last w10 HJ10.out
            rw [show recJ (openJ { S2 with off := false }) = (1, rm + 1, l) from hr, show (openJ { S2 with off := false }).has = true from hh] at hlast
            have HLAST := hide hlast
            clear hlast
            refine HLAST.out.mono ?_
            rintro e w11 ⟨A5, c5, rfl, hO11, hb11⟩
            unfold rcV
            dsimp only
            rw [show (((rm + 1 : Nat)) : Int) = (rm : Int) + 1 by omega]
            have q12 := blk_one w11 40 #[.int .i64 1, .int .u32 ((rm : Int) + 1), .slice A5 l.length c5]
            have hb12 := below_step (below_alloc (Below.refl w11.heap.size w11) (.cells #[.int .i64 1, .int .u32 ((rm : Int) + 1), .slice A5 l.length c5] 40)) hb11
            have HO5 := hide (hO11.alloc (.cells #[.int .i64 1, .int .u32 ((rm : Int) + 1), .slice A5 l.length c5] 40))
            have HJ12 := hide ((HJ10.out.mono (G := fun g => w9.heap.size ≤ g ∧ g < w10.heap.size) (fun g hlt h => ⟨h, hlt⟩)).below hb12)
            have HF12 := hide (HF10.out.below hb12)
            have HL12 := hide (HL10.out.keep (fun g _ hlt => hb12.block g hlt))
            have HO312 := hide (HO310.out.below hb12)
            have HB12 := hide (below_step hb12 HB10.out)
            have HQ12 := hide q12
            have hz12' := hb12.size
            have g6b : Blk _ g6 40 #[.int .i64 rk, .int .u32 (rm : Nat), .slice Ar rd.length cr] := HL12.out.blk
            obtain ⟨g6b_c0, g6b_c1, g6b_c2⟩ := cel3 g6b
            have g6b_f := g6b.frozen
            obtain ⟨q12_c0, q12_c1, q12_c2⟩ := cel3 q12
            have q12_f := q12.frozen
            clear q12 hb12 hO11 hb11 g6b
            have hsme := rsame A5 Ar 1 rk (rm + 1) rm l.length c5 rd.length cr l rd (w11.alloc (.cells #[.int .i64 1, .int .u32 ((rm : Int) + 1), .slice A5 l.length c5] 40)) rfl rfl HO5.out.sl HL12.out.own.sl
            obtain ⟨sm, hsm⟩ : ∃ x, x = sameR 1 (rm + 1) l rk rm rd := ⟨_, rfl⟩
            rw [← hsm] at hsme
            rw [show (((rm + 1 : Nat)) : Int) = (rm : Int) + 1 by omega] at hsme
            have HSME := hide hsme
            have hw1 : IntKind.u32.wrap ((rm : Int) + 1) = (rm : Int) + 1 := by rw [IntKind.wrap_u32]; omega
            clear hsme hsm
            go_wp2_with fail
            refine HSME.out.mono ?_
            rintro e w13 ⟨rfl, hb13⟩
            have HJ13 := hide (HJ12.out.below hb13)
            have HF13 := hide (HF12.out.below hb13)
            have HL13 := hide (HL12.out.keep (fun g _ hlt => hb13.block g hlt))
            have HO13 := hide (HO5.out.below hb13)
            have HB13 := hide (below_step hb13 HB12.out)
            have hz13 := hb13.size
            have k1 := str_b c5 (rfl : l.length = l.length) HO13.out.sl
            have k2 := str_b c3 HLN.out (HO312.out.below hb13).sl
            have q13 := HQ12.out.below hb13 HQ12.out.lt
            have g13 : Blk w13 g6 40 #[.int .i64 rk, .int .u32 (rm : Nat), .slice Ar rd.length cr] := HL13.out.blk
            have zg := g13.lt
            simp only [World.size_alloc] at hz12' hz13
            have hps := fun a b cc => put3_only w13 g6 a b cc
            have hg6n : ∀ g, (w9.heap.size ≤ g ∧ g < w10.heap.size) → ¬ g = g6 := fun g hg e => by have := HZ.out; omega
            have HLn := hide (show LastK (((w13.setCell ⟨g6, 0, none⟩ (.int .i64 1)).setCell ⟨g6, 1, none⟩ (.int .u32 ((rm + 1) : Nat))).setCell ⟨g6, 2, none⟩ (.slice A5 l.length c5)) g6 w10.heap.size A5 c5 (1, (rm + 1), l) from
              ⟨put3_blk HL13.out.blk rfl 1 (rm + 1) A5 l.length c5, ⟨rfl, HO13.out.own.keep (fun g hg hlt _ => (hps _ _ _).block g hlt (fun e => by have := HZ.out; omega))⟩⟩)
            have HJn := hide (fun a b cc => HJ13.out.only (hps a b cc) hg6n)
            have HFn := hide (fun a b cc => HF13.out.only (hps a b cc) (fun g hg e => by have := HQL.out g hg; have := HZ.out; omega))
            have HBn := hide (fun a b cc => below_only (hps a b cc) HB13.out (fun g e => by have := HZ.out; omega))
            have HZn : Hid (∀ a b cc, w1.heap.size ≤ w9.heap.size ∧ w9.heap.size ≤ w10.heap.size ∧ w10.heap.size ≤ (((w13.setCell ⟨g6, 0, none⟩ a).setCell ⟨g6, 1, none⟩ b).setCell ⟨g6, 2, none⟩ cc).heap.size ∧ (g6 < w9.heap.size ∨ w10.heap.size ≤ g6) ∧ g6 < (((w13.setCell ⟨g6, 0, none⟩ a).setCell ⟨g6, 1, none⟩ b).setCell ⟨g6, 2, none⟩ cc).heap.size ∧ w1.heap.size ≤ g6) := hide (fun a b cc => by
              have := HZ.out
              have := (hps a b cc).size
              omega)
            clear g6b_c0 g6b_c1 g6b_c2 g6b_f
            clear q12_c0 q12_c1 q12_c2 q12_f
            obtain ⟨g13_c0, g13_c1, g13_c2⟩ := cel3 g13
            have g13_f := g13.frozen
            obtain ⟨q13_c0, q13_c1, q13_c2⟩ := cel3 q13
            have q13_f := q13.frozen
            clear hb13 q13 g13 hps hg6n
            have hbe : ((1 : Int) == 1) = true := rfl
            cases sm <;> cases hs
            all_goals
              go_wp2_with fail
              go_roundw
              case rel => exact ⟨k + 1, { S2 with off := false }, p2, Aj2, nj2, cj2, ds2, w9.heap.size, w10.heap.size, A5, c5, by omega, by omega, rfl, by rw [show (openJ { S2 with off := false }).has = true from hh], by go_num, HWn, hide (HJn.out _ _ _), hide (HFn.out _ _ _), hide (by rw [show recJ (openJ { S2 with off := false }) = (1, (rm + 1), l) from hr]; exact HLn.out), hide (HZn.out _ _ _), hide (HBn.out _ _ _)⟩
              case measure => simp [intOf]; omega
          · rw [ho] at HON
            go_wp2_with fail
            refine HON.out.mono ?_
            rintro e w8' ⟨rfl, rfl⟩
            dsimp only [Bool.not_true]
            go_wp2_with fail
            refine (fl_Start q S2 w8 HF8.out).mono ?_
            rintro e w9 ⟨rfl, hF9, hO9⟩
            have HF9 := hide hF9
            have HL9 := hide (HL8.out.keep (fun g hg hlt => hO9.block g hlt (HGP.out g hg)))
            have HO39 : Hid (OwnB w9 wr.heap.size A3 s2 c3 l) := hide ⟨HO38.out.hn, HO38.out.own.keep (fun g hg hlt _ => hO9.block g hlt (HGP.out g (.inr (Nat.le_trans HZ.out.2.2.1 hg))))⟩
            have HB9 := hide (below_only hO9 HB8.out (fun g e => by rw [e]; exact HQ.out q.p (.inl rfl)))
            have hz9 := hO9.size
            clear hF9 hO9
            go_wp2_with fail
            refine (jo_Open q { S2 with off := false } w9 HF9.out rfl (by show 3 ≤ S2.wear.length; rw [HLEN2.out]; decide)).mono ?_
            rintro e w10 ⟨p2, Aj2, nj2, cj2, ds2, rfl, hJ10, hb10⟩
            have HJ10 := hide hJ10
            have HF10 := hide (HF9.out.below hb10)
            have HL10 := hide (HL9.out.keep (fun g _ hlt => hb10.block g hlt))
            have HO310 := hide (HO39.out.below hb10)
            have HB10 := hide (below_step hb10 HB9.out)
            have hz10 := hb10.size
            clear hJ10 hb10
            go_wp2_with fail
            have hlast := jo_Last w10 HJ10.out
            rw [show recJ (openJ { S2 with off := false }) = (1, rm + 1, l) from hr, show (openJ { S2 with off := false }).has = true from hh] at hlast
            have HLAST := hide hlast
            clear hlast
            refine HLAST.out.mono ?_
            rintro e w11 ⟨A5, c5, rfl, hO11, hb11⟩
            unfold rcV
            dsimp only
            rw [show (((rm + 1 : Nat)) : Int) = (rm : Int) + 1 by omega]
            have q12 := blk_one w11 40 #[.int .i64 1, .int .u32 ((rm : Int) + 1), .slice A5 l.length c5]
            have hb12 := below_step (below_alloc (Below.refl w11.heap.size w11) (.cells #[.int .i64 1, .int .u32 ((rm : Int) + 1), .slice A5 l.length c5] 40)) hb11
            have HO5 := hide (hO11.alloc (.cells #[.int .i64 1, .int .u32 ((rm : Int) + 1), .slice A5 l.length c5] 40))
            have HJ12 := hide ((HJ10.out.mono (G := fun g => w9.heap.size ≤ g ∧ g < w10.heap.size) (fun g hlt h => ⟨h, hlt⟩)).below hb12)
            have HF12 := hide (HF10.out.below hb12)
            have HL12 := hide (HL10.out.keep (fun g _ hlt => hb12.block g hlt))
            have HO312 := hide (HO310.out.below hb12)
            have HB12 := hide (below_step hb12 HB10.out)
            have HQ12 := hide q12
            have hz12' := hb12.size
            have g6b : Blk _ g6 40 #[.int .i64 rk, .int .u32 (rm : Nat), .slice Ar rd.length cr] := HL12.out.blk
            obtain ⟨g6b_c0, g6b_c1, g6b_c2⟩ := cel3 g6b
            have g6b_f := g6b.frozen
            obtain ⟨q12_c0, q12_c1, q12_c2⟩ := cel3 q12
            have q12_f := q12.frozen
            clear q12 hb12 hO11 hb11 g6b
            have hsme := rsame A5 Ar 1 rk (rm + 1) rm l.length c5 rd.length cr l rd (w11.alloc (.cells #[.int .i64 1, .int .u32 ((rm : Int) + 1), .slice A5 l.length c5] 40)) rfl rfl HO5.out.sl HL12.out.own.sl
            obtain ⟨sm, hsm⟩ : ∃ x, x = sameR 1 (rm + 1) l rk rm rd := ⟨_, rfl⟩
            rw [← hsm] at hsme
            rw [show (((rm + 1 : Nat)) : Int) = (rm : Int) + 1 by omega] at hsme
            have HSME := hide hsme
            have hw1 : IntKind.u32.wrap ((rm : Int) + 1) = (rm : Int) + 1 := by rw [IntKind.wrap_u32]; omega
            clear hsme hsm
            go_wp2_with fail
            refine HSME.out.mono ?_
            rintro e w13 ⟨rfl, hb13⟩
            have HJ13 := hide (HJ12.out.below hb13)
            have HF13 := hide (HF12.out.below hb13)
            have HL13 := hide (HL12.out.keep (fun g _ hlt => hb13.block g hlt))
            have HO13 := hide (HO5.out.below hb13)
            have HB13 := hide (below_step hb13 HB12.out)
            have hz13 := hb13.size
            have k1 := str_b c5 (rfl : l.length = l.length) HO13.out.sl
            have k2 := str_b c3 HLN.out (HO312.out.below hb13).sl
            have q13 := HQ12.out.below hb13 HQ12.out.lt
            have g13 : Blk w13 g6 40 #[.int .i64 rk, .int .u32 (rm : Nat), .slice Ar rd.length cr] := HL13.out.blk
            have zg := g13.lt
            simp only [World.size_alloc] at hz12' hz13
            have hps := fun a b cc => put3_only w13 g6 a b cc
            have hg6n : ∀ g, (w9.heap.size ≤ g ∧ g < w10.heap.size) → ¬ g = g6 := fun g hg e => by have := HZ.out; omega
            have HLn := hide (show LastK (((w13.setCell ⟨g6, 0, none⟩ (.int .i64 1)).setCell ⟨g6, 1, none⟩ (.int .u32 ((rm + 1) : Nat))).setCell ⟨g6, 2, none⟩ (.slice A5 l.length c5)) g6 w10.heap.size A5 c5 (1, (rm + 1), l) from
              ⟨put3_blk HL13.out.blk rfl 1 (rm + 1) A5 l.length c5, ⟨rfl, HO13.out.own.keep (fun g hg hlt _ => (hps _ _ _).block g hlt (fun e => by have := HZ.out; omega))⟩⟩)
            have HJn := hide (fun a b cc => HJ13.out.only (hps a b cc) hg6n)
            have HFn := hide (fun a b cc => HF13.out.only (hps a b cc) (fun g hg e => by have := HQL.out g hg; have := HZ.out; omega))
            have HBn := hide (fun a b cc => below_only (hps a b cc) HB13.out (fun g e => by have := HZ.out; omega))
            have HZn : Hid (∀ a b cc, w1.heap.size ≤ w9.heap.size ∧ w9.heap.size ≤ w10.heap.size ∧ w10.heap.size ≤ (((w13.setCell ⟨g6, 0, none⟩ a).setCell ⟨g6, 1, none⟩ b).setCell ⟨g6, 2, none⟩ cc).heap.size ∧ (g6 < w9.heap.size ∨ w10.heap.size ≤ g6) ∧ g6 < (((w13.setCell ⟨g6, 0, none⟩ a).setCell ⟨g6, 1, none⟩ b).setCell ⟨g6, 2, none⟩ cc).heap.size ∧ w1.heap.size ≤ g6) := hide (fun a b cc => by
              have := HZ.out
              have := (hps a b cc).size
              omega)
            clear g6b_c0 g6b_c1 g6b_c2 g6b_f
            clear q12_c0 q12_c1 q12_c2 q12_f
            obtain ⟨g13_c0, g13_c1, g13_c2⟩ := cel3 g13
            have g13_f := g13.frozen
            obtain ⟨q13_c0, q13_c1, q13_c2⟩ := cel3 q13
            have q13_f := q13.frozen
            clear hb13 q13 g13 hps hg6n
            have hbe : ((1 : Int) == 1) = true := rfl
            cases sm <;> cases hs
            all_goals
              go_wp2_with fail
              go_roundw
              case rel => exact ⟨k + 1, { S2 with off := false }, p2, Aj2, nj2, cj2, ds2, w9.heap.size, w10.heap.size, A5, c5, by omega, by omega, rfl, by rw [show (openJ { S2 with off := false }).has = true from hh], by go_num, HWn, hide (HJn.out _ _ _), hide (HFn.out _ _ _), hide (by rw [show recJ (openJ { S2 with off := false }) = (1, (rm + 1), l) from hr]; exact HLn.out), hide (HZn.out _ _ _), hide (HBn.out _ _ _)⟩
              case measure => simp [intOf]; omega
          · rw [ho] at HON
            go_wp2_with fail
            refine HON.out.mono ?_
            rintro e w8' ⟨rfl, rfl⟩
            dsimp only [Bool.not_true]
            go_wp2_with fail
            refine (fl_Start q S2 w8 HF8.out).mono ?_
            rintro e w9 ⟨rfl, hF9, hO9⟩
            have HF9 := hide hF9
            have HL9 := hide (HL8.out.keep (fun g hg hlt => hO9.block g hlt (HGP.out g hg)))
            have HO39 : Hid (OwnB w9 wr.heap.size A3 s2 c3 l) := hide ⟨HO38.out.hn, HO38.out.own.keep (fun g hg hlt _ => hO9.block g hlt (HGP.out g (.inr (Nat.le_trans HZ.out.2.2.1 hg))))⟩
            have HB9 := hide (below_only hO9 HB8.out (fun g e => by rw [e]; exact HQ.out q.p (.inl rfl)))
            have hz9 := hO9.size
            clear hF9 hO9
            go_wp2_with fail
            refine (jo_Open q { S2 with off := false } w9 HF9.out rfl (by show 3 ≤ S2.wear.length; rw [HLEN2.out]; decide)).mono ?_
            rintro e w10 ⟨p2, Aj2, nj2, cj2, ds2, rfl, hJ10, hb10⟩
            have HJ10 := hide hJ10
            have HF10 := hide (HF9.out.below hb10)
            have HL10 := hide (HL9.out.keep (fun g _ hlt => hb10.block g hlt))
            have HO310 := hide (HO39.out.below hb10)
            have HB10 := hide (below_step hb10 HB9.out)
            have hz10 := hb10.size
            clear hJ10 hb10
            go_wp2_with fail
            have hlast := jo_Last w10 HJ10.out
            rw [show recJ (openJ { S2 with off := false }) = (rk, rm, rd) from hr, show (openJ { S2 with off := false }).has = hs from hh] at hlast
            have HLAST := hide hlast
            clear hlast
            refine HLAST.out.mono ?_
            rintro e w11 ⟨A5, c5, rfl, hO11, hb11⟩
            unfold rcV
            dsimp only
            have q12 := blk_one w11 40 #[.int .i64 rk, .int .u32 (rm : Nat), .slice A5 rd.length c5]
            have hb12 := below_step (below_alloc (Below.refl w11.heap.size w11) (.cells #[.int .i64 rk, .int .u32 (rm : Nat), .slice A5 rd.length c5] 40)) hb11
            have HO5 := hide (hO11.alloc (.cells #[.int .i64 rk, .int .u32 (rm : Nat), .slice A5 rd.length c5] 40))
            have HJ12 := hide ((HJ10.out.mono (G := fun g => w9.heap.size ≤ g ∧ g < w10.heap.size) (fun g hlt h => ⟨h, hlt⟩)).below hb12)
            have HF12 := hide (HF10.out.below hb12)
            have HL12 := hide (HL10.out.keep (fun g _ hlt => hb12.block g hlt))
            have HO312 := hide (HO310.out.below hb12)
            have HB12 := hide (below_step hb12 HB10.out)
            have HQ12 := hide q12
            have hz12' := hb12.size
            have g6b : Blk _ g6 40 #[.int .i64 rk, .int .u32 (rm : Nat), .slice Ar rd.length cr] := HL12.out.blk
            obtain ⟨g6b_c0, g6b_c1, g6b_c2⟩ := cel3 g6b
            have g6b_f := g6b.frozen
            obtain ⟨q12_c0, q12_c1, q12_c2⟩ := cel3 q12
            have q12_f := q12.frozen
            clear q12 hb12 hO11 hb11 g6b
            have hsme := rsame A5 Ar rk rk rm rm rd.length c5 rd.length cr rd rd (w11.alloc (.cells #[.int .i64 rk, .int .u32 (rm : Nat), .slice A5 rd.length c5] 40)) rfl rfl HO5.out.sl HL12.out.own.sl
            obtain ⟨sm, hsm⟩ : ∃ x, x = sameR rk rm rd rk rm rd := ⟨_, rfl⟩
            rw [← hsm] at hsme
            have hsm1 : sm = true := by rw [hsm]; simp [sameR]
            subst hsm1
            have HSME := hide hsme
            have hw1 : IntKind.u32.wrap ((rm : Int) + 1) = (rm : Int) + 1 := by rw [IntKind.wrap_u32]; omega
            clear hsme hsm
            go_wp2_with fail
            refine HSME.out.mono ?_
            rintro e w13 ⟨rfl, hb13⟩
            have HJ13 := hide (HJ12.out.below hb13)
            have HF13 := hide (HF12.out.below hb13)
            have HL13 := hide (HL12.out.keep (fun g _ hlt => hb13.block g hlt))
            have HO13 := hide (HO5.out.below hb13)
            have HB13 := hide (below_step hb13 HB12.out)
            have hz13 := hb13.size
            have k1 := str_b c5 (rfl : rd.length = rd.length) HO13.out.sl
            have k2 := str_b c3 HLN.out (HO312.out.below hb13).sl
            have q13 := HQ12.out.below hb13 HQ12.out.lt
            have g13 : Blk w13 g6 40 #[.int .i64 rk, .int .u32 (rm : Nat), .slice Ar rd.length cr] := HL13.out.blk
            have zg := g13.lt
            simp only [World.size_alloc] at hz12' hz13
            have hps := fun a b cc => put3_only w13 g6 a b cc
            have hg6n : ∀ g, (w9.heap.size ≤ g ∧ g < w10.heap.size) → ¬ g = g6 := fun g hg e => by have := HZ.out; omega
            have HLn := hide (show LastK (((w13.setCell ⟨g6, 0, none⟩ (.int .i64 rk)).setCell ⟨g6, 1, none⟩ (.int .u32 (rm : Nat))).setCell ⟨g6, 2, none⟩ (.slice A5 rd.length c5)) g6 w10.heap.size A5 c5 (rk, rm, rd) from
              ⟨put3_blk HL13.out.blk rfl rk rm A5 rd.length c5, ⟨rfl, HO13.out.own.keep (fun g hg hlt _ => (hps _ _ _).block g hlt (fun e => by have := HZ.out; omega))⟩⟩)
            have HJn := hide (fun a b cc => HJ13.out.only (hps a b cc) hg6n)
            have HFn := hide (fun a b cc => HF13.out.only (hps a b cc) (fun g hg e => by have := HQL.out g hg; have := HZ.out; omega))
            have HBn := hide (fun a b cc => below_only (hps a b cc) HB13.out (fun g e => by have := HZ.out; omega))
            have HZn : Hid (∀ a b cc, w1.heap.size ≤ w9.heap.size ∧ w9.heap.size ≤ w10.heap.size ∧ w10.heap.size ≤ (((w13.setCell ⟨g6, 0, none⟩ a).setCell ⟨g6, 1, none⟩ b).setCell ⟨g6, 2, none⟩ cc).heap.size ∧ (g6 < w9.heap.size ∨ w10.heap.size ≤ g6) ∧ g6 < (((w13.setCell ⟨g6, 0, none⟩ a).setCell ⟨g6, 1, none⟩ b).setCell ⟨g6, 2, none⟩ cc).heap.size ∧ w1.heap.size ≤ g6) := hide (fun a b cc => by
              have := HZ.out
              have := (hps a b cc).size
              omega)
            clear g6b_c0 g6b_c1 g6b_c2 g6b_f
            clear q12_c0 q12_c1 q12_c2 q12_f
            obtain ⟨g13_c0, g13_c1, g13_c2⟩ := cel3 g13
            have g13_f := g13.frozen
            obtain ⟨q13_c0, q13_c1, q13_c2⟩ := cel3 q13
            have q13_f := q13.frozen
            clear hb13 q13 g13 hps hg6n
            have hne : ((rm : Int) == (rm : Int) + 1) = false := by simp; omega
            obtain ⟨kb, hkb⟩ : ∃ b, (rk == 1) = b := ⟨_, rfl⟩
            cases hs <;> cases kb
            all_goals
              go_wp2_with fail
              go_roundw
              case rel => exact ⟨k + 1, { S2 with off := false }, p2, Aj2, nj2, cj2, ds2, w9.heap.size, w10.heap.size, A5, c5, by omega, by omega, rfl, by rw [show (openJ { S2 with off := false }).has = _ from hh], by go_num, HWn, hide (HJn.out _ _ _), hide (HFn.out _ _ _), hide (by rw [show recJ (openJ { S2 with off := false }) = (rk, rm, rd) from hr]; exact HLn.out), hide (HZn.out _ _ _), hide (HBn.out _ _ _)⟩
              case measure => simp [intOf]; omega
    · have HKN := hide (known_09 wr)
      by_cases hkn : k < n
      · have hk3 : ¬ k < 30 := fun h => hlt ⟨hkn, h⟩
        have u1 : decide ((k : Int) < 30) = false := by simp; omega
        have u2 : decide (k < 30) = false := by simp; omega
        clear hlt
        go_wp2_with fail
        refine HKN.out.mono ?_
        rintro e w9 ⟨rfl, hb9⟩
        go_wp2_with fail
        go_ret
        exact (⟨rfl, below_step hb9 HBr.out⟩ : TrueB w _ _)
      · clear hlt
        go_wp2_with fail
        refine HKN.out.mono ?_
        rintro e w9 ⟨rfl, hb9⟩
        go_wp2_with fail
        go_ret
        exact (⟨rfl, below_step hb9 HBr.out⟩ : TrueB w _ _)
end Go.Proofs.Ytapfadaplncpeaa
