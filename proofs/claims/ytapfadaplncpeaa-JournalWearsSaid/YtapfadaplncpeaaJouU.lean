/- The walk of JournalWears. -/
import Derived.Test.YtapfadaplncpeaaJouT
import Derived.Test.YtapfadaplncpeaaJouV
namespace Go.Proofs.Ytapfadaplncpeaa
set_option linter.unusedVariables false
set_option linter.unusedSimpArgs false
set_option linter.unnecessarySimpa false
open Go.RowKit
set_option maxRecDepth 20000
set_option maxHeartbeats 8000000

structure WearS (S : FS) (ns m kk cc : Nat) : Prop where
  fresh : Fresh S m
  off : S.off = false
  most : S.most = 1073741824
  ops : S.ops ≤ 1000 * m
  len : S.wear.length = ns
  inv : WInv S cc
  sum : S.wear.sum ≤ kk + cc
theorem journalWears_walk (sec : Nat) (hsec : sec ≤ 255) (A : Option Addr) (n c : Nat) (L : List JOp) (w : World) (hn : n = L.length) (hs : SlOp w A L) (hL : ∀ x ∈ L, x.sz ≤ 65535 ∧ x.wm ≤ 4294967295) :
    Calls Try.prog 16 #[.int .u8 (sec : Nat), .slice A n c] w (TrueB w) := by
  have HN := hide hn
  have HS := hide hs
  have HL := hide hL
  clear hn hs hL
  obtain ⟨ns, hns⟩ : ∃ x, x = 3 + sec % 6 := ⟨_, rfl⟩
  have hns3 : 3 ≤ ns := by omega
  have hns8 : ns ≤ 8 := by omega
  have e6 : (3 : Int) + (sec : Int) % 6 = ((ns : Nat) : Int) := by omega
  obtain ⟨S0, hS0⟩ : ∃ S, S = newF ns 1073741824 := ⟨_, rfl⟩
  have HNEW := hide (fun W => fl_New ns 1073741824 W (by omega) hns8 (by decide) (by decide))
  rw [show ofF (List.replicate (ns * 1024) 255) ns 1073741824 = S0 from hS0.symm] at HNEW
  have hw0 : WearS S0 ns 0 0 0 := by
    rw [hS0]
    refine ⟨newF_fresh ns _ hns3 (by decide), rfl, rfl, by simp [newF], by simp [newF], newF_winv ns _, ?_⟩
    have : ∀ k, (List.replicate k 0).sum = 0 := fun k => by induction k with
      | zero => rfl
      | succ k ih => rw [List.replicate_succ, List.sum_cons, ih]
    simp only [newF, this]
    omega
  have HW0 := hide hw0
  clear hS0 hw0 hns
  go_enter Try.func16, Try.ntmps16
  go_wp2_with fail
  refine (HNEW.out _).mono ?_
  rintro e w1 ⟨q, rfl, hF1, hq1, hb1⟩
  have HF1 := hide hF1
  have HQ := hide hq1
  have HBW1 := hide hb1
  have HQL : Hid (∀ g, q.F g → g < w1.heap.size) := hide hF1.lt
  clear hF1 hq1 hb1
  go_wp2_with fail
  refine (jo_Open q S0 w1 HF1.out HW0.out.off (by rw [HW0.out.len]; exact hns3)).mono ?_
  rintro e w2 ⟨p, Aj, nj, cj, ds, rfl, hJ2, hb2⟩
  have HJ2 := hide (hJ2.mono (G := fun g => w1.heap.size ≤ g ∧ g < w2.heap.size) (fun g hlt h => ⟨h, hlt⟩))
  have HBW2 := hide (below_step hb2 HBW1.out)
  have HF2 := hide (HF1.out.below hb2)
  have hz12 := hb2.size
  have hz1 := HBW1.out.size
  clear hJ2 hb2
  go_wp2_with fail
  go_loopw [7, 9, 10, 11, 12, 13, 14, 15, 16, 17, 18, 19] (fun s7 s9 s10 i _ _ _ _ _ _ _ _ wr => ∃ m S p Aj nj cj ds lo hi kk cc, m ≤ n ∧ m ≤ 50 ∧ s7 = .pointer (some ⟨p, 0, none⟩) ∧ s9 = .int .i64 (kk : Nat) ∧ s10 = .int .i64 (cc : Nat) ∧ i = .int .i64 (m : Nat) ∧ kk + cc ≤ m ∧ Hid (WearS S ns m kk cc) ∧ Hid (JD wr (fun g => lo ≤ g ∧ g < hi) p q.p Aj nj cj (openJ S) ds) ∧ Hid (FD wr q S) ∧
    Hid (w1.heap.size ≤ lo ∧ lo ≤ hi ∧ hi ≤ wr.heap.size) ∧ Hid (Below w.heap.size w wr)) (fun _ _ _ i _ _ _ _ _ _ _ _ _ => 50 - (intOf i).toNat)
  case atStart => exact ⟨0, S0, p, Aj, nj, cj, ds, w1.heap.size, w2.heap.size, 0, 0, by omega, by omega, rfl, rfl, rfl, rfl, by omega, HW0, HJ2, HF2, hide ⟨Nat.le_refl _, hz12, Nat.le_refl _⟩, HBW2⟩
  case round =>
    obtain ⟨m, S, p, Aj, nj, cj, ds, lo, hi, kk, cc, hm, hm50, rfl, rfl, rfl, rfl, hkc, HW, HJ, HF, HZ, HBr⟩ := hrel
    by_cases hlt : m < n ∧ m < 50
    · obtain ⟨hmn, hm5⟩ := hlt
      obtain ⟨v, hv⟩ : ∃ x, L[m]? = some x := ⟨_, List.getElem?_eq_getElem (by rw [← HN.out]; exact hmn)⟩
      have hvb := HL.out v (List.mem_of_getElem? hv)
      obtain ⟨b, off, hA, cx0, cx1, cx2, cx3, cx4⟩ := (HS.out.below HBr.out) m v hv
      subst hA
      obtain ⟨i1, i2, i3⟩ := idx_at hmn
      obtain ⟨hvs, hvw⟩ := hvb
      have q0 := blk_one wr 79 #[.int .i64 v.kd, .int .i64 v.kk, .int .u16 (v.sz : Nat), .int .i64 v.n, .int .u32 (v.wm : Nat)]
      have hb0 := below_alloc (Below.refl wr.heap.size wr) (.cells #[.int .i64 v.kd, .int .i64 v.kk, .int .u16 (v.sz : Nat), .int .i64 v.n, .int .u32 (v.wm : Nat)] 79)
      obtain ⟨s2, hs2⟩ : ∃ x, x = 300 + v.sz % 661 := ⟨_, rfl⟩
      have hs960 : s2 ≤ 960 := by omega
      have es2 : (300 : Int) + (v.sz : Int) % 661 = ((s2 : Nat) : Int) := by omega
      have HDA := hide (law_data 0 0 0 s2 v.wm m (wr.alloc (.cells #[.int .i64 v.kd, .int .i64 v.kk, .int .u16 (v.sz : Nat), .int .i64 v.n, .int .u32 (v.wm : Nat)] 79)) (by omega) hvw (by omega))
      rw [show s2 % 1001 = s2 by omega] at HDA
      have HQ0 := hide q0
      have HB0 := hide hb0
      obtain ⟨q0_c0, q0_c1, q0_c2, q0_c3, q0_c4⟩ := cel5 q0
      have q0_f := q0.frozen
      clear hv hs2 q0 hb0
      go_wp2_with fail
      refine HDA.out.mono ?_
      rintro e w3 ⟨A3, c3, l, rfl, hl, hO3, hb3⟩
      have HO3 := hide hO3
      have HB3 := hide (below_step hb3 HB0.out)
      have HQ3 := hide (HQ0.out.below hb3 HQ0.out.lt)
      have HLN := hide hl
      have HJ3 := hide (HJ.out.below HB3.out)
      have HF3 := hide (HF.out.below HB3.out)
      have hz3 := HB3.out.size
      have HCU := hide (fl_Cut q S w3 1099511627776 0 HF3.out (by decide) (by show (0 : Nat) < _; decide))
      clear q0_c0 q0_c1 q0_c2 q0_c3 q0_c4 q0_f
      clear hO3 hb3 hl cx0 cx1 cx2 cx3 cx4
      go_wp2_with fail
      refine HCU.out.mono ?_
      rintro e w4 ⟨rfl, hF4, hO4⟩
      have HF4' := hide hF4
      have HO4 := hide hO4
      clear hF4 hO4
      have hqp : wr.heap.size ≠ q.p := fun e => by have := HQL.out q.p (.inl rfl); have := HZ.out; omega
      have HQ4 := hide ((HO4.out.block _ HQ3.out.lt hqp).trans HQ3.out)
      have q4c3 : w4.cell? ⟨wr.heap.size, 3, none⟩ = some (.int .i64 v.n) := Blk.cell HQ4.out 3 rfl
      have q4c4 : w4.cell? ⟨wr.heap.size, 4, none⟩ = some (.int .u32 (v.wm : Nat)) := Blk.cell HQ4.out 4 rfl
      have q4c0 : w4.cell? ⟨wr.heap.size, 0, none⟩ = some (.int .i64 v.kd) := Blk.cell HQ4.out 0 rfl
      obtain ⟨ev, hev⟩ : ∃ b, (v.kd.tmod 3 == 1) = b := ⟨_, rfl⟩
      obtain ⟨cn, hcn⟩ : ∃ cn : Nat, v.n % (400 : Int) = ((cn : Nat) : Int) := Int.eq_ofNat_of_zero_le (Int.emod_nonneg _ (by omega))
      have hcnb : cn ≤ 2000 := by have := Int.emod_lt_of_pos v.n (show (0 : Int) < 400 by omega); omega
      have HCN := hide (fun W => count_any v.n 400 W (by omega) (by omega))
      rw [hcn] at HCN
      have HCC := hide (fun W (h : FD W q { S with ahead := ((1099511627776 : Nat) : Int), mask := 0 }) => fl_Cut q _ W cn v.wm h (by omega) (by show v.wm < _; omega))
      clear hcn
      go_upto_if 65 with fail
      go_cut [] (fun wx => ∃ (ah : Int) (mk : Nat), Hid (FD wx q { S with ahead := ah, mask := mk }) ∧ Hid (Only (fun g => g = q.p) w3 wx))
      case first =>
        cases ev
        · go_wp2_with fail
          go_meet
          case rel => exact ⟨_, _, HF4', HO4⟩
        · go_wp2_with fail
          refine wp_region_held_drew (S := (fun w' => w'.cell? ⟨wr.heap.size, 3, none⟩ = some (.int .i64 v.n) ∧ w'.cell? ⟨wr.heap.size, 4, none⟩ = some (.int .u32 (v.wm : Nat)))) (by kernel_rfl) ?hS1 (fun hHeld => ?rest1)
          case hS1 => ((try dsimp only); (exact ⟨q4c3, q4c4⟩))
          case' rest1 => skip
          refine wpAnyH_take (i := 0) (oi := _) (v := ?v2) rfl (by kernel_rfl) (by kernel_rfl) (by kernel_rfl) (fun _ _ _ h => h) (Or.inl ⟨by rfl, ?hy2⟩) (by assumption) ?rest2
          case hy2 => ((intro w hSw; (try dsimp only at hSw); go_simp) <;> with_reducible rfl)
          case' rest2 => try simp only [List.getElem_toArray, List.getElem_cons_zero, List.getElem_cons_succ, Act.put, List.setIfInBounds_toArray, List.set_cons_zero, List.set_cons_succ]
          refine wpAnyH_take (i := 1) (oi := _) (v := ?v3) rfl (by kernel_rfl) (by kernel_rfl) (by kernel_rfl) (fun _ _ _ h => h) (Or.inl ⟨by rfl, ?hy3⟩) (by assumption) ?rest3
          case hy3 => ((intro w hSw; (try dsimp only at hSw); go_simp) <;> with_reducible rfl)
          case' rest3 => try simp only [List.getElem_toArray, List.getElem_cons_zero, List.getElem_cons_succ, Act.put, List.setIfInBounds_toArray, List.set_cons_zero, List.set_cons_succ]
          refine wpAnyH_take (i := 2) (oi := _) (v := ?v4) rfl (by kernel_rfl) (by kernel_rfl) (by kernel_rfl) (fun _ _ _ h => h) (Or.inl ⟨by rfl, ?hy4⟩) (by assumption) ?rest4
          case hy4 => ((intro w hSw; (try dsimp only at hSw); go_simp) <;> with_reducible rfl)
          case' rest4 => try simp only [List.getElem_toArray, List.getElem_cons_zero, List.getElem_cons_succ, Act.put, List.setIfInBounds_toArray, List.set_cons_zero, List.set_cons_succ]
          refine wpAnyH_take (i := 4) (oi := _) (v := ?v5) rfl (by kernel_rfl) (by kernel_rfl) (by kernel_rfl) (fun _ _ _ h => h) (Or.inl ⟨by rfl, ?hy5⟩) (by assumption) ?rest5
          case hy5 => ((intro w hSw; (try dsimp only at hSw); go_simp) <;> with_reducible rfl)
          case' rest5 => try simp only [List.getElem_toArray, List.getElem_cons_zero, List.getElem_cons_succ, Act.put, List.setIfInBounds_toArray, List.set_cons_zero, List.set_cons_succ]
          refine wpAnyH_take (i := 5) (oi := _) (v := ?v6) rfl (by kernel_rfl) (by kernel_rfl) (by kernel_rfl) (fun _ _ _ h => h) (Or.inl ⟨by rfl, ?hy6⟩) (by assumption) ?rest6
          case hy6 => ((intro w hSw; (try dsimp only at hSw); go_simp) <;> with_reducible rfl)
          case' rest6 => try simp only [List.getElem_toArray, List.getElem_cons_zero, List.getElem_cons_succ, Act.put, List.setIfInBounds_toArray, List.set_cons_zero, List.set_cons_succ]
          refine wpAnyH_ready (rs := [3]) (by kernel_rfl) (by simp) ?_
          refine AllReadyH.cons (o := _) rfl (fun K hK => ?_) AllReadyH.nil
          go_simp
          refine (HCN.out _).mono ?_
          rintro e w5 ⟨rfl, rfl⟩
          try dsimp only
          refine hK.out _ _ ?hS9 (fun hHeld => ?rest9)
          case hS9 => ((try dsimp only); (exact ⟨q4c3, q4c4⟩))
          case' rest9 => (clear hK K; try simp only [List.getElem_toArray, List.getElem_cons_zero, List.getElem_cons_succ, Act.put, List.setIfInBounds_toArray, List.set_cons_zero, List.set_cons_succ])
          refine wpAnyH_ready (rs := [6]) (by kernel_rfl) (by simp) ?_
          refine AllReadyH.cons (o := _) rfl (fun K hK => ?_) AllReadyH.nil
          go_simp
          refine (HCC.out _ (FD.below HF4'.out (below_drew1 (Below.refl _ _)))).mono ?_
          rintro e w6 ⟨rfl, hF6, hO6⟩
          have HF6 := hide hF6
          have HO6 : Hid (Only (fun g => g = q.p) w3 w6) := hide (Only.trans HO4.out (⟨hO6.os, hO6.tape, hO6.output, hO6.size, hO6.block⟩ : Only (fun g => g = q.p) w4 w6) (fun _ _ h => h))
          have q6 := (Only.block hO6 _ (Blk.lt HQ4.out) hqp).trans HQ4.out
          clear hF6 hO6
          try dsimp only
          refine hK.out _ _ ?hS12 (fun hHeld => ?rest12)
          case hS12 => ((try dsimp only); (exact ⟨Blk.cell q6 3 rfl, Blk.cell q6 4 rfl⟩))
          case' rest12 => (clear hK K; try simp only [List.getElem_toArray, List.getElem_cons_zero, List.getElem_cons_succ, Act.put, List.setIfInBounds_toArray, List.set_cons_zero, List.set_cons_succ])
          refine wpAnyH_done (by kernel_rfl) ?_ _
          have hEnd := hHeld.2
          repeat (clear hHeld)
          go_wp2_with fail
          go_meet
          case rel => exact ⟨_, _, HF6, HO6⟩
      case rest =>
        obtain ⟨ah, mk, HF7, HO7⟩ := hcut
        obtain ⟨S1, hS1⟩ : ∃ S1 : FS, S1 = { S with ahead := ah, mask := mk } := ⟨_, rfl⟩
        rw [← hS1] at HF7
        have hop : openJ S1 = openJ S := by rw [hS1]; rfl
        have hfr1 : Fresh S1 m := by rw [hS1]; exact ⟨HW.out.fresh.len, HW.out.fresh.three, HW.out.fresh.wear, HW.out.fresh.most, HW.out.fresh.num, HW.out.fresh.small⟩
        have hwi1 : WInv S1 cc := by rw [hS1]; exact ⟨HW.out.inv.gap, HW.out.inv.near⟩
        have hoff1 : S1.off = false := by rw [hS1]; exact HW.out.off
        have hmo1 : S1.most = 1073741824 := by rw [hS1]; exact HW.out.most
        have hops1 : S1.ops ≤ 1000 * m := by rw [hS1]; exact HW.out.ops
        have hlen1 : S1.wear.length = ns := by rw [hS1]; exact HW.out.len
        have hsm1 : S1.wear.sum ≤ kk + cc := by rw [hS1]; exact HW.out.sum
        obtain ⟨J', S2, er, hap, hfr2, hmo2, hlen2, hops2, hsum2, hres⟩ := wears_step (d := l) hfr1 hwi1 hoff1 (by rw [hmo1]; omega) (by omega) (by rw [← HLN.out]; exact hs960)
        have HJ7 := hide (HJ3.out.only HO7.out (fun g hg e => by have := HQL.out q.p (.inl rfl); have := HZ.out; omega))
        have hzwr : wr.heap.size ≤ (wr.alloc (.cells #[.int .i64 v.kd, .int .i64 v.kk, .int .u16 (v.sz : Nat), .int .i64 v.n, .int .u32 (v.wm : Nat)] 79)).heap.size := HB0.out.size
        have HO37 : Hid (OwnB wc wr.heap.size A3 s2 c3 l) := hide ⟨HO3.out.hn, (HO3.out.own.keep (fun g hg hlt _ => HO7.out.block g hlt (fun e => by have := HQL.out q.p (.inl rfl); have := HZ.out; omega))).mono hzwr⟩
        have HB7 := hide (below_only HO7.out (below_step HB3.out HBr.out) (fun g e => by rw [e]; exact HQ.out q.p (.inl rfl)))
        have hapc := jo_Append_ok (c2 := c3) (d := l) (J := openJ S) 1 wc HJ7.out HF7.out (fun g hg hq => by have := HQL.out g hq; have := HZ.out; omega) hop.symm hoff1 HLN.out (by omega) HO37.out.sl (by omega)
        rw [show appJ (openJ S) S1 1 l = (J', S2, er) by rw [← hop]; exact hap] at hapc
        have HAPC := hide hapc
        have hz7 := HO7.out.size
        have HRES : Hid ((er = 0 ∧ J' = openJ S2 ∧ WearS S2 ns (m + 1) (kk + 1) cc) ∨ (er = 7 ∧ WearS { S2 with off := false } ns (m + 1) kk (cc + 1))) := hide (by
          rcases hres with ⟨h1, h2, h3, h4⟩ | ⟨h1, h2, h4⟩
          · exact .inl ⟨h1, h3, hfr2, h2, by rw [hmo2, hmo1], by omega, by rw [hlen2, hlen1], h4, by omega⟩
          · exact .inr ⟨h1, ⟨hfr2.len, hfr2.three, hfr2.wear, hfr2.most, hfr2.num, hfr2.small⟩, rfl, by show S2.most = _; rw [hmo2, hmo1], by show S2.ops ≤ _; omega, by show S2.wear.length = _; rw [hlen2, hlen1], ⟨h4.gap, h4.near⟩, by show S2.wear.sum ≤ _; omega⟩)
        obtain ⟨eb, heb⟩ : ∃ b, (er == 0) = b := ⟨_, rfl⟩
        clear hap hfr1 hwi1 hoff1 hmo1 hops1 hlen1 hsm1 hfr2 hmo2 hlen2 hops2 hsum2 hres hapc hS1 hop q4c0 q4c3 q4c4
        go_wp2_with fail
        refine HAPC.out.mono ?_
        rintro e w8 ⟨ds8, rfl, hJ8, hF8, hO8⟩
        dsimp only
        have HF8 := hide hF8
        have HJ8 := hide (hJ8.mono (G := fun g => lo ≤ g ∧ g < w8.heap.size) (fun g hlt h => ⟨by have := HZ.out; rcases h with h | h <;> omega, hlt⟩))
        have HB8 := hide (below_only hO8 HB7.out (fun g hg => by
          rcases hg with hg | hg
          · have := HZ.out; omega
          · exact HQ.out g hg))
        have hz8 := hO8.size
        clear hJ8 hF8 hO8
        go_upto_if 76 with fail
        go_cut [7, 9, 10, 14, 15] (fun s7 s9 s10 _ _ wx => ∃ S p Aj nj cj ds lo hi kk cc, s7 = .pointer (some ⟨p, 0, none⟩) ∧ s9 = .int .i64 (kk : Nat) ∧ s10 = .int .i64 (cc : Nat) ∧ kk + cc ≤ m + 1 ∧ Hid (WearS S ns (m + 1) kk cc) ∧ Hid (JD wx (fun g => lo ≤ g ∧ g < hi) p q.p Aj nj cj (openJ S) ds) ∧ Hid (FD wx q S) ∧
          Hid (w1.heap.size ≤ lo ∧ lo ≤ hi ∧ hi ≤ wx.heap.size) ∧ Hid (Below w.heap.size w wx))
        case first =>
          have hres := HRES.out
          rcases hres with ⟨rfl, rfl, hw⟩ | ⟨rfl, hw⟩
          · obtain rfl : true = eb := heb
            go_wp2_with fail
            go_meet
            case rel => exact ⟨S2, p, Aj, nj, cj, ds8, lo, w8.heap.size, kk + 1, cc, rfl, by go_num, rfl, by omega, hide hw, HJ8, HF8, hide ⟨HZ.out.1, by have := HZ.out; omega, Nat.le_refl _⟩, HB8⟩
          · obtain rfl : false = eb := heb
            go_wp2_with fail
            refine (fl_Start q S2 w8 HF8.out).mono ?_
            rintro e w9 ⟨rfl, hF9, hO9⟩
            have HF9 := hide hF9
            have HB9 := hide (below_only hO9 HB8.out (fun g e => by rw [e]; exact HQ.out q.p (.inl rfl)))
            have hz9 := hO9.size
            clear hF9 hO9
            go_wp2_with fail
            refine (jo_Open q { S2 with off := false } w9 HF9.out rfl (by rw [hw.len]; exact hns3)).mono ?_
            rintro e w10 ⟨p2, Aj2, nj2, cj2, ds2, rfl, hJ10, hb10⟩
            have HJ10 := hide (hJ10.mono (G := fun g => w9.heap.size ≤ g ∧ g < w10.heap.size) (fun g hlt h => ⟨h, hlt⟩))
            have HF10 := hide (HF9.out.below hb10)
            have HB10 := hide (below_step hb10 HB9.out)
            have hz10 := hb10.size
            have HWW := hide hw
            clear hJ10 hb10 hw
            go_wp2_with fail
            go_meet
            case rel => exact ⟨{ S2 with off := false }, p2, Aj2, nj2, cj2, ds2, w9.heap.size, w10.heap.size, kk, cc + 1, rfl, rfl, by go_num, by omega, HWW, HJ10, HF10, hide ⟨by have := HZ.out; omega, hz10, Nat.le_refl _⟩, HB10⟩
        case rest =>
          obtain ⟨S, p, Aj, nj, cj, ds, lo, hi, kk, cc, rfl, rfl, rfl, hkc, HW, HJ, HF, HZ, HBr⟩ := hcut
          have HWO := hide (fun i (hi : i < ns) => fl_Worn q S wc i HF.out (by rw [HW.out.len]; exact hi))
          have hle : ∀ j, S.wear.getD j 0 ≤ 60 := fun j => by have := le_sum S.wear j; have := HW.out.sum; omega
          have HLE := hide hle
          have HGAP : Hid (∀ a b, a < ns → b < ns → S.wear.getD b 0 ≤ S.wear.getD a 0 + 2 + cc) := hide (fun a b ha hb => HW.out.inv.gap b a (by rw [HW.out.len]; exact hb) (by rw [HW.out.len]; exact ha))
          have HTK : Hid (∀ t, t < ns → (S.wear.take (t + 1)).sum = (S.wear.take t).sum + S.wear.getD t 0) := hide (fun t ht => sum_take S.wear t (by rw [HW.out.len]; exact ht))
          have HSM : Hid (∀ t, (S.wear.take t).sum ≤ S.wear.sum) := hide (fun t => by
            have := congrArg List.sum (List.take_append_drop t S.wear)
            rw [List.sum_append] at this
            omega)
          have HFU : Hid (S.wear.take ns = S.wear) := hide (List.take_of_length_le (by rw [HW.out.len]; exact Nat.le_refl _))
          obtain ⟨wear, hwe⟩ : ∃ l, l = S.wear := ⟨_, rfl⟩
          have hsum := HW.out.sum
          rw [← hwe] at HWO HLE HGAP HTK HSM HFU hsum
          clear hle hwe
          have l0 := HLE.out 0
          go_wp2_with fail
          refine (HWO.out 0 (by omega)).mono ?_
          rintro e w5 ⟨rfl, rfl⟩
          go_wp2_with fail
          refine (HWO.out 0 (by omega)).mono ?_
          rintro e w5 ⟨rfl, rfl⟩
          go_wp2_with fail
          go_loopw [16, 17, 18, 19] (fun s16 s17 s18 s19 wq => ∃ t a b, t ≤ ns ∧ a < ns ∧ b < ns ∧ s16 = .int .i64 (((wear.take t).sum : Nat) : Int) ∧ s17 = .int .i64 ((wear.getD a 0 : Nat) : Int) ∧ s18 = .int .i64 ((wear.getD b 0 : Nat) : Int) ∧ s19 = .int .i64 (t : Nat) ∧ wq = wc) (fun _ _ _ s19 _ => ns - (intOf s19).toNat)
          case atStart => exact ⟨0, 0, 0, by omega, by omega, by omega, by simp, rfl, rfl, rfl, rfl⟩
          case round =>
            obtain ⟨t, a, b, ht, ha, hb, rfl, rfl, rfl, rfl, rfl⟩ := hrel
            have la := HLE.out a
            have lb := HLE.out b
            have lt := HLE.out t
            have hst := HSM.out t
            by_cases htn : t < ns
            · have htk := HTK.out t htn
              have hst1 := HSM.out (t + 1)
              have HWt := hide (HWO.out t htn)
              obtain ⟨xa, hxa⟩ : ∃ x, x = wear.getD a 0 := ⟨_, rfl⟩
              obtain ⟨xb, hxb⟩ : ∃ x, x = wear.getD b 0 := ⟨_, rfl⟩
              obtain ⟨xt, hxt⟩ : ∃ x, x = wear.getD t 0 := ⟨_, rfl⟩
              obtain ⟨sm, hsm⟩ : ∃ x, x = (wear.take t).sum := ⟨_, rfl⟩
              rw [← hxa] at la ⊢
              rw [← hxb] at lb ⊢
              rw [← hxt] at lt htk HWt
              rw [← hsm] at hst htk ⊢
              have HXA := hide hxa
              have HXB := hide hxb
              have HXT := hide hxt
              have HKK := hide htk
              clear hxa hxb hxt hsm htk hst1
              have m1 : (xt : Int) < (xa : Int) ∨ ¬ (xt : Int) < (xa : Int) := by omega
              have m2 : (xb : Int) < (xt : Int) ∨ ¬ (xb : Int) < (xt : Int) := by omega
              rcases m1 with m1 | m1 <;> rcases m2 with m2 | m2
              all_goals
                go_wp2_with fail
                refine HWt.out.mono ?_
                rintro e w6 ⟨rfl, rfl⟩
                go_wp2_with fail
                refine HWt.out.mono ?_
                rintro e w6 ⟨rfl, rfl⟩
                go_wp2_with fail
                refine HWt.out.mono ?_
                rintro e w6 ⟨rfl, rfl⟩
                go_wp2_with fail
                go_roundw
                case rel => first
                  | exact ⟨t + 1, t, t, by omega, by omega, by omega, by rw [HKK.out]; rfl, congrArg (fun z : Nat => Value.int .i64 (z : Int)) HXT.out, congrArg (fun z : Nat => Value.int .i64 (z : Int)) HXT.out, by go_num, trivial⟩
                  | exact ⟨t + 1, t, b, by omega, by omega, by omega, by rw [HKK.out]; rfl, congrArg (fun z : Nat => Value.int .i64 (z : Int)) HXT.out, congrArg (fun z : Nat => Value.int .i64 (z : Int)) HXB.out, by go_num, trivial⟩
                  | exact ⟨t + 1, a, t, by omega, by omega, by omega, by rw [HKK.out]; rfl, congrArg (fun z : Nat => Value.int .i64 (z : Int)) HXA.out, congrArg (fun z : Nat => Value.int .i64 (z : Int)) HXT.out, by go_num, trivial⟩
                  | exact ⟨t + 1, a, b, by omega, by omega, by omega, by rw [HKK.out]; rfl, congrArg (fun z : Nat => Value.int .i64 (z : Int)) HXA.out, congrArg (fun z : Nat => Value.int .i64 (z : Int)) HXB.out, by go_num, trivial⟩
                case measure => simp [intOf]; omega
            · obtain rfl : t = ns := by omega
              have hgap := HGAP.out a b ha hb
              have hfin : (wear.take t).sum ≤ kk + cc := by omega
              obtain ⟨xa, hxa⟩ : ∃ x, x = wear.getD a 0 := ⟨_, rfl⟩
              obtain ⟨xb, hxb⟩ : ∃ x, x = wear.getD b 0 := ⟨_, rfl⟩
              obtain ⟨sm, hsm⟩ : ∃ x, x = (wear.take t).sum := ⟨_, rfl⟩
              rw [← hxa] at la hgap ⊢
              rw [← hxb] at lb hgap ⊢
              rw [← hsm] at hst hfin ⊢
              clear hxa hxb hsm hst
              have u1 : decide ((kk : Int) + (cc : Int) < (sm : Int)) = false := by simp; omega
              have u2 : decide ((cc : Int) + 2 < (xb : Int) - (xa : Int)) = false := by simp; omega
              go_wp2_with fail
              go_roundw
              case rel => exact ⟨m + 1, S, p, Aj, nj, cj, ds, lo, hi, kk, cc, by omega, by omega, rfl, rfl, rfl, by go_num, by omega, HW, HJ, HF, HZ, HBr⟩
              case measure => simp [intOf]; omega
    · have HKN := hide (known_09 wr)
      by_cases hkn : m < n
      · have hk3 : ¬ m < 50 := fun h => hlt ⟨hkn, h⟩
        have u1 : decide ((m : Int) < 50) = false := by simp; omega
        have u2 : decide (m < 50) = false := by simp; omega
        clear hlt
        go_wp2_with fail
        refine HKN.out.mono ?_
        rintro e w9 ⟨rfl, hb9⟩
        go_wp2_with fail
        go_ret
        exact (⟨rfl, below_step hb9 HBr.out⟩ : TrueB w _ _)
      · clear hlt
        go_wp2_with fail
        refine HKN.out.mono ?_
        rintro e w9 ⟨rfl, hb9⟩
        go_wp2_with fail
        go_ret
        exact (⟨rfl, below_step hb9 HBr.out⟩ : TrueB w _ _)
end Go.Proofs.Ytapfadaplncpeaa
