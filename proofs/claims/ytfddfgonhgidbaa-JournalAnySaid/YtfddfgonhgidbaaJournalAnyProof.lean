/- Proved: for every input, law JournalAny answers true, and what was handed in reads as it did. No condition. -/
import Derived.Test.YtfddfgonhgidbaaRjI
import Derived.Deep.DeepCutAuto
import Derived.Test.YtfddfgonhgidbaaOpenJ
import Derived.Test.YtfddfgonhgidbaaOpenB
namespace Go.Proofs.Ytfddfgonhgidbaa
set_option linter.unusedVariables false
set_option linter.unusedSimpArgs false
set_option linter.unnecessarySimpa false
open Go.RowKit
set_option maxRecDepth 20000
set_option maxHeartbeats 16000000

theorem journalAny_walk (A : Option Addr) (n c : Nat) (l : List UInt8) (o : JOp) (w : World) (hn : n = l.length) (hs : Sl w A (l.map bv)) (hsz : o.sz ≤ 65535) (hwm : o.wm ≤ 4294967295) :
    Calls Try.prog 3 #[.slice A n c, .agg #[.int .i64 o.kd, .int .i64 o.kk, .int .u16 (o.sz : Nat), .int .i64 o.n, .int .u32 (o.wm : Nat)]] w (TrueB w) := by
  obtain ⟨kd, kk, sz, on, wm⟩ := o
  dsimp only at hsz hwm ⊢
  have HS := hide hs
  have HN := hide hn
  have q0 := blk_one w 26 #[.int .i64 kd, .int .i64 kk, .int .u16 (sz : Nat), .int .i64 on, .int .u32 (wm : Nat)]
  have hb0 := below_alloc (Below.refl w.heap.size w) (.cells #[.int .i64 kd, .int .i64 kk, .int .u16 (sz : Nat), .int .i64 on, .int .u32 (wm : Nat)] 26)
  obtain ⟨w0, hw0⟩ : ∃ w0, w0 = w.alloc (.cells #[.int .i64 kd, .int .i64 kk, .int .u16 (sz : Nat), .int .i64 on, .int .u32 (wm : Nat)] 26) := ⟨_, rfl⟩
  rw [← hw0] at q0 hb0
  have HQ0 := hide q0
  have HB0 := hide hb0
  have HW0 := hide hw0
  clear hs hn q0 hb0 hw0
  by_cases hbig : 10000 < n
  · have e1 : decide ((10000 : Int) < (n : Int)) = true := by simp; omega
    have HKN := hide (known_09 w0)
    clear hbig
    go_enter Try.func3, Try.ntmps3
    go_wp2_with fail
    rw [← HW0.out]
    refine HKN.out.mono ?_
    rintro e w9 ⟨rfl, hb9⟩
    go_wp2_with fail
    go_ret
    exact (⟨rfl, below_step hb9 HB0.out⟩ : TrueB w _ _)
  have hn4 : n ≤ 10000 := by omega
  have e1 : decide ((10000 : Int) < (n : Int)) = false := by simp; omega
  clear hbig
  by_cases hno : n = 0 ∨ n % 1024 ≠ 0 ∨ 8192 < n
  · have HNO := hide (fl_Of_no A n c w0 hno (by omega))
    have HRNO := hide (fun W => rfl_Of_no A n c W hno (by omega))
    clear hno
    go_enter Try.func3, Try.ntmps3
    go_wp2_with fail
    rw [← HW0.out]
    refine HNO.out.mono ?_
    rintro e w1 ⟨rfl, hb1⟩
    have HB1 := hide (below_step hb1 HB0.out)
    clear hb1
    go_wp2_with fail
    refine (HRNO.out w1).mono ?_
    rintro e w2 ⟨p, rfl, hb2⟩
    have HB2 := hide (below_step hb2 HB1.out)
    clear hb2
    go_wp2_with fail
    refine (known_09 _).mono ?_
    rintro e w9 ⟨rfl, hb9⟩
    go_wp2_with fail
    go_ret
    exact (⟨rfl, below_step hb9 HB2.out⟩ : TrueB w _ _)
  obtain ⟨k, hk⟩ : ∃ k, k = n / 1024 := ⟨_, rfl⟩
  have hnk : n = 1024 * k := by omega
  have hk1 : 1 ≤ k := by omega
  have hk8 : k ≤ 8 := by omega
  have HOF := hide (fl_Of A n c l k 5 w0 HN.out hnk hk1 hk8 (by decide) (by decide) (HS.out.below HB0.out))
  have HROF := hide (fun W (h : Sl W A (l.map bv)) => rfl_Of A n c l k W HN.out hnk hk1 hk8 h)
  have hSb : (ofF l k 5).off = false ∧ (ofF l k 5).ahead = -1 ∧ (ofF l k 5).wear.length = k ∧ (ofF l k 5).ops = 0 ∧ (ofF l k 5).b.length = 1024 * (ofF l k 5).wear.length := ⟨rfl, rfl, by simp [ofF], rfl, by simp only [ofF, List.length_replicate]; rw [← HN.out]; exact hnk⟩
  have hfree : 3 ≤ k → FreeF (ofF l k 5) := ofF_free
  obtain ⟨S, hS⟩ : ∃ S, S = ofF l k 5 := ⟨_, rfl⟩
  rw [← hS] at HOF HROF hSb hfree
  have HSB := hide hSb
  have HFR := hide hfree
  clear hno hk hnk hSb hfree hS
  go_enter Try.func3, Try.ntmps3
  go_wp2_with fail
  rw [← HW0.out]
  refine HOF.out.mono ?_
  rintro e w1 ⟨q, rfl, hF1, hq1, hb1⟩
  have HF1 := hide hF1
  have HQ1 := hide hq1
  have HQL1 : Hid (∀ g, q.F g → g < w1.heap.size) := hide hF1.lt
  have HB01 := hide hb1
  have HB1 := hide (below_step hb1 HB0.out)
  clear hF1 hq1 hb1
  go_wp2_with fail
  refine (HROF.out w1 (HS.out.below HB1.out)).mono ?_
  rintro e w2 ⟨q', rfl, hR2, hq2, hb2⟩
  have hPB := below_alloc (Below.refl w2.heap.size w2) (.cells #[.pointer (some ⟨q.p, 0, none⟩), .pointer (some ⟨q'.p, 0, none⟩), .pointer none, .pointer none] 37)
  have hP := blk_one w2 37 #[.pointer (some ⟨q.p, 0, none⟩), .pointer (some ⟨q'.p, 0, none⟩), .pointer none, .pointer none]
  have hF2 := HF1.out.below hb2
  have HQ2 := hide hq2
  have HQL2 : Hid (∀ g, q'.F g → g < w2.heap.size) := hide hR2.lt
  have hz12 := hb2.size
  have hz01 := HB01.out.size
  obtain ⟨w3, hw3⟩ : ∃ w3, w3 = w2.alloc (.cells #[.pointer (some ⟨q.p, 0, none⟩), .pointer (some ⟨q'.p, 0, none⟩), .pointer none, .pointer none] 37) := ⟨_, rfl⟩
  rw [← hw3] at hPB hP
  have hz3 : w3.heap.size = w2.heap.size + 1 := by rw [hw3]; simp
  have HP3 := hide hP
  have HF3 := hide (hF2.below hPB)
  have HR3 := hide (hR2.below hPB)
  have HB03 := hide (below_step hPB (below_step hb2 HB01.out))
  have HB3 := hide (below_step hPB (below_step hb2 HB1.out))
  have HW3 := hide hw3
  obtain ⟨P, hPe⟩ : ∃ P, P = w2.heap.size := ⟨_, rfl⟩
  rw [← hPe] at HP3 hz3 HQL2
  have hPlo : w1.heap.size ≤ P := by rw [hPe]; exact hz12
  have hzw0 : w.heap.size < w0.heap.size := by rw [HW0.out]; simp
  have HPE := hide hPe
  have HNP : Hid (¬ q.F P ∧ ¬ q'.F P) := hide ⟨fun h => by have := HQL1.out P h; omega, fun h => by have := HQL2.out P h; omega⟩
  clear hPB hP hF2 hq2 hR2 hb2 hw3 hPe
  by_cases hk3 : k < 3
  · have HOP := hide (pr_open_few P q q' S w3 HP3.out HF3.out HR3.out HSB.out.1 (by rw [HSB.out.2.2.1]; exact hk3))
    clear hk3
    go_wp2_with fail
    rw [← HW3.out, ← HPE.out]
    refine HOP.out.mono ?_
    rintro e w4 ⟨rfl, c2, ho4⟩
    have HB4 := hide (below_only ho4 HB3.out (fun i hi => by have := HB1.out.size; omega))
    clear ho4
    go_wp2_with fail
    refine (known_09 _).mono ?_
    rintro e w9 ⟨rfl, hb9⟩
    go_wp2_with fail
    go_ret
    exact (⟨rfl, below_step hb9 HB4.out⟩ : TrueB w _ _)
  have HFF : Hid (FreeF S) := hide (HFR.out (by omega))
  have HOP := hide (pr_open P q q' S w3 HP3.out HF3.out HR3.out HNP.out.1 HNP.out.2 HSB.out.1 (by rw [HSB.out.2.2.1]; omega))
  clear hk3
  go_wp2_with fail
  rw [← HW3.out, ← HPE.out]
  refine HOP.out.mono ?_
  rintro e w4 ⟨rfl, ⟨mid, pj, Aj, nj, cj, ds, r, Ar, cr, hBJ⟩, ho4⟩
  have HBJ := hide hBJ
  have HB04 : Hid (Below w0.heap.size w0 w4) := hide (below_only ho4 HB03.out (fun i hi => by omega))
  have HB4 : Hid (Below w.heap.size w w4) := hide (below_only ho4 HB3.out (fun i hi => by have := HB1.out.size; omega))
  have hz4 := ho4.size
  have hmr := hBJ.mr
  have hlm : w3.heap.size < mid := by have h1 : w3.heap.size ≤ pj ∧ pj < mid := hBJ.jd.inF; omega
  have hrl := hBJ.rj.lt
  have x2 := hBJ.pair.cell 2 (u := .pointer (some ⟨pj, 0, none⟩)) rfl
  have HAL := hide (pr_alike P w3.heap.size mid q q' S pj Aj nj cj ds r Ar cr w4 hBJ)
  have HKEEP := hide (fun W (hb : Below w4.heap.size w4 W) => (⟨hBJ.pair.below hb hBJ.pair.lt, hBJ.jd.below hb, hBJ.fd.below hb, hBJ.rf.below hb, hBJ.rj.below hb hBJ.rj.lt, hBJ.rd.below hb, hBJ.mr⟩ : BothJ W P q q' S w3.heap.size mid pj Aj nj cj ds r Ar cr))
  clear hBJ ho4
  go_wp2_with fail
  refine HAL.out.mono ?_
  rintro e w5 ⟨rfl, hb5⟩
  have HB45 := hide hb5
  have x25 := (HKEEP.out w5 hb5).pair.cell 2 (u := .pointer (some ⟨pj, 0, none⟩)) rfl
  have hrc : recJ (openJ S) = recS S := by unfold recJ recS lastJ openJ; rfl
  have hla := jo_Last w5 (HKEEP.out w5 hb5).jd
  rw [hrc, show (openJ S).has = (newL (looksF S)).2 from rfl] at hla
  obtain ⟨R, hR⟩ : ∃ R, R = recS S := ⟨_, rfl⟩
  obtain ⟨has, hhs⟩ : ∃ x, x = (newL (looksF S)).2 := ⟨_, rfl⟩
  have hru := recS_u32 (S := S)
  rw [← hR, ← hhs] at hla
  rw [← hR] at hru
  obtain ⟨rk, rm, rd⟩ := R
  dsimp only at hla hru
  have HLA := hide hla
  have HRR := hide hR
  have HHS := hide hhs
  clear hb5 x2 hrc hla hR hhs
  go_wp2_with fail
  refine HLA.out.mono ?_
  rintro e w6 ⟨A6, c6, rfl, hO6, hb6⟩
  unfold rcV
  dsimp only
  have q6 := blk_one w6 39 #[.int .i64 rk, .int .u32 (rm : Nat), .slice A6 rd.length c6]
  have hb7 := below_step (below_alloc (Below.refl w6.heap.size w6) (.cells #[.int .i64 rk, .int .u32 (rm : Nat), .slice A6 rd.length c6] 39)) hb6
  have hO7 := hO6.alloc (.cells #[.int .i64 rk, .int .u32 (rm : Nat), .slice A6 rd.length c6] 39)
  obtain ⟨w7, hw7⟩ : ∃ w7, w7 = w6.alloc (.cells #[.int .i64 rk, .int .u32 (rm : Nat), .slice A6 rd.length c6] 39) := ⟨_, rfl⟩
  rw [← hw7] at q6 hb7 hO7
  obtain ⟨g6, hg6⟩ : ∃ g, g = w6.heap.size := ⟨_, rfl⟩
  have hz6 := hb6.size
  have hz7 : g6 < w7.heap.size := by rw [hw7, hg6]; simp
  rw [← hg6] at q6 hz6
  have HW7 := hide hw7
  have HG6 := hide hg6
  have HQ6 := hide q6
  have HO7 := hide hO7
  have HB47 := hide (below_step hb7 HB45.out)
  have o0 := HQ0.out.below (below_step HB47.out HB04.out) HQ0.out.lt
  have HQ07 := hide o0
  have HDA := hide (law_data kd kk on sz wm 0 w7 hsz hwm (by omega))
  have hz45 := HB45.out.size
  obtain ⟨m, hm⟩ : ∃ m, m = sz % 1001 := ⟨_, rfl⟩
  rw [← hm] at HDA
  have hm1 : m ≤ 1000 := by omega
  rw [hw7] at o0
  obtain ⟨o0_c0, o0_c1, o0_c2, o0_c3, o0_c4⟩ := cel5 o0
  have o0_f := o0.frozen
  rw [show ((0 : Nat) : Int) = 0 from rfl] at HDA
  clear hb6 hb7 hO6 hO7 q6 hw7 hg6 o0 x25 hm
  go_wp2_with fail
  rw [← HW7.out]
  refine HDA.out.mono ?_
  rintro e w8 ⟨A8, c8, d, rfl, hd8, hO8, hb8⟩
  rw [← HG6.out]
  have HD8 := hide hd8
  have HO8 := hide hO8
  have HB48 := hide (below_step hb8 HB47.out)
  have HB78 := hide hb8
  have hz78 := hb8.size
  obtain ⟨J', S', er, hap, her, hoff', hwl', hcase⟩ := any_step (S := S) (kd := kk) (d := d) HSB.out.2.2.2.2 HSB.out.1 (by rw [HSB.out.2.1]; decide) HFF.out
  have HAP := hide hap
  have HER := hide her
  have HS' := hide (And.intro hoff' hwl')
  have HCASE := hide hcase
  have hK8 := HKEEP.out w8 HB48.out
  have HAPC := hide (fun W (hb : Below w8.heap.size w8 W) => jo_Append_ok (c2 := c8) (d := d) kk W (hK8.jd.below hb) (hK8.fd.below hb) (fun g hg hq => by have := HQL1.out g hq; omega) rfl HSB.out.1 HD8.out (by omega) (HO8.out.below hb).sl (by rw [HSB.out.2.2.2.1]; decide))
  rw [hap] at HAPC
  have y2 := hK8.pair.cell 2 (u := .pointer (some ⟨pj, 0, none⟩)) rfl
  have o8 := HQ07.out.below HB78.out HQ07.out.lt
  have o81 := o8.cell 1 (u := .int .i64 kk) rfl
  clear o0_c0 o0_c1 o0_c2 o0_c3 o0_c4 o0_f o8 hd8 hO8 hb8 hap her hoff' hwl' hcase hK8
  go_wp2_with fail
  refine wp_region_held_drew (S := (fun w' => w'.cell? ⟨P, 2, none⟩ = some (.pointer (some ⟨pj, 0, none⟩)) ∧ w'.cell? ⟨w.heap.size, 1, none⟩ = some (.int .i64 kk))) (by kernel_rfl) ?hS1 (fun hHeld => ?rest1)
  case hS1 => ((try dsimp only); (exact ⟨y2, o81⟩))
  case' rest1 => skip
  refine wpAnyH_take (i := 0) (oi := _) (v := ?v2) rfl (by kernel_rfl) (by kernel_rfl) (by kernel_rfl) (fun _ _ _ h => h) (Or.inl ⟨by rfl, ?hy2⟩) (by assumption) ?rest2
  case hy2 => ((intro w hSw; (try dsimp only at hSw); go_simp) <;> with_reducible rfl)
  case' rest2 => try simp only [List.getElem_toArray, List.getElem_cons_zero, List.getElem_cons_succ, Act.put, List.setIfInBounds_toArray, List.set_cons_zero, List.set_cons_succ]
  refine wpAnyH_take (i := 1) (oi := _) (v := ?v3) rfl (by kernel_rfl) (by kernel_rfl) (by kernel_rfl) (fun _ _ _ h => h) (Or.inl ⟨by rfl, ?hy3⟩) (by assumption) ?rest3
  case hy3 => ((intro w hSw; (try dsimp only at hSw); go_simp) <;> with_reducible rfl)
  case' rest3 => try simp only [List.getElem_toArray, List.getElem_cons_zero, List.getElem_cons_succ, Act.put, List.setIfInBounds_toArray, List.set_cons_zero, List.set_cons_succ]
  refine wpAnyH_take (i := 2) (oi := _) (v := ?v4) rfl (by kernel_rfl) (by kernel_rfl) (by kernel_rfl) (fun _ _ _ h => h) (Or.inl ⟨by rfl, ?hy4⟩) (by assumption) ?rest4
  case hy4 => ((intro w hSw; (try dsimp only at hSw); go_simp) <;> with_reducible rfl)
  case' rest4 => try simp only [List.getElem_toArray, List.getElem_cons_zero, List.getElem_cons_succ, Act.put, List.setIfInBounds_toArray, List.set_cons_zero, List.set_cons_succ]
  refine wpAnyH_take (i := 3) (oi := _) (v := ?v5) rfl (by kernel_rfl) (by kernel_rfl) (by kernel_rfl) (fun _ _ _ h => h) (Or.inl ⟨by rfl, ?hy5⟩) (by assumption) ?rest5
  case hy5 => ((intro w hSw; (try dsimp only at hSw); go_simp) <;> with_reducible rfl)
  case' rest5 => try simp only [List.getElem_toArray, List.getElem_cons_zero, List.getElem_cons_succ, Act.put, List.setIfInBounds_toArray, List.set_cons_zero, List.set_cons_succ]
  refine wpAnyH_take (i := 4) (oi := _) (v := ?v6) rfl (by kernel_rfl) (by kernel_rfl) (by kernel_rfl) (fun _ _ _ h => h) (Or.inl ⟨by rfl, ?hy6⟩) (by assumption) ?rest6
  case hy6 => ((intro w hSw; (try dsimp only at hSw); go_simp) <;> with_reducible rfl)
  case' rest6 => try simp only [List.getElem_toArray, List.getElem_cons_zero, List.getElem_cons_succ, Act.put, List.setIfInBounds_toArray, List.set_cons_zero, List.set_cons_succ]
  refine wpAnyH_take (i := 5) (oi := _) (v := ?v7) rfl (by kernel_rfl) (by kernel_rfl) (by kernel_rfl) (fun _ _ _ h => h) (Or.inl ⟨by rfl, ?hy7⟩) (by assumption) ?rest7
  case hy7 => ((intro w hSw; (try dsimp only at hSw); go_simp) <;> with_reducible rfl)
  case' rest7 => try simp only [List.getElem_toArray, List.getElem_cons_zero, List.getElem_cons_succ, Act.put, List.setIfInBounds_toArray, List.set_cons_zero, List.set_cons_succ]
  refine wpAnyH_take (i := 6) (oi := _) (v := ?v8) rfl (by kernel_rfl) (by kernel_rfl) (by kernel_rfl) (fun _ _ _ h => h) (Or.inl ⟨by rfl, ?hy8⟩) (by assumption) ?rest8
  case hy8 => ((intro w hSw; (try dsimp only at hSw); go_simp) <;> with_reducible rfl)
  case' rest8 => try simp only [List.getElem_toArray, List.getElem_cons_zero, List.getElem_cons_succ, Act.put, List.setIfInBounds_toArray, List.set_cons_zero, List.set_cons_succ]
  refine wpAnyH_ready (rs := [7]) (by kernel_rfl) (by simp) ?_
  refine AllReadyH.cons (o := _) rfl (fun K hK => ?_) AllReadyH.nil
  go_simp
  refine (HAPC.out _ (below_drew1 (Below.refl _ _))).mono ?_
  rintro e w9 ⟨ds9, rfl, hJ9, hF9, hO9⟩
  dsimp only at hF9 ⊢
  have hFj : ∀ g, (w3.heap.size ≤ g ∧ g < mid) ∨ q.F g → (w3.heap.size ≤ g ∧ g < mid) ∨ (w0.heap.size ≤ g ∧ g < w1.heap.size) := fun g hg => hg.elim .inl (fun h => .inr ⟨HQ1.out g h, HQL1.out g h⟩)
  have hK8 := HKEEP.out w8 HB48.out
  have ho8 := HQ07.out.below HB78.out HQ07.out.lt
  have hg8 := HQ6.out.below HB78.out HQ6.out.lt
  have hA8 := HO7.out.own.below HB78.out
  have hP9 : Blk w9 P 37 #[.pointer (some ⟨q.p, 0, none⟩), .pointer (some ⟨q'.p, 0, none⟩), .pointer (some ⟨pj, 0, none⟩), .pointer (some ⟨r, 0, none⟩)] := (hO9.block P hK8.pair.lt (fun h => by rcases hFj P h with h | h <;> omega)).trans hK8.pair
  have ho9 : Blk w9 w.heap.size 26 #[.int .i64 kd, .int .i64 kk, .int .u16 (sz : Nat), .int .i64 on, .int .u32 (wm : Nat)] := (hO9.block w.heap.size ho8.lt (fun h => by rcases hFj _ h with h | h <;> omega)).trans ho8
  have hr9 : Blk w9 r 79 (rjS q'.p S Ar cr false).toArray := (hO9.block r hK8.rj.lt (fun h => by rcases hFj _ h with h | h <;> omega)).trans hK8.rj
  have hR9 : RF w9 q' S := hK8.rf.keep (fun g hg hlt => hO9.block g hlt (fun h => by have := HQL2.out g hg; have := HQ2.out g hg; rcases hFj _ h with h | h <;> omega))
  have hD9 : OwnB w9 w7.heap.size A8 m c8 d := ⟨HO8.out.hn, HO8.out.own.keep (fun g hg hlt _ => hO9.block g hlt (fun h => by rcases hFj _ h with h | h <;> omega))⟩
  have hg9 : Blk w9 g6 39 #[.int .i64 rk, .int .u32 (rm : Nat), .slice A6 rd.length c6] := (hO9.block g6 hg8.lt (fun h => by rcases hFj _ h with h | h <;> omega)).trans hg8
  have hA9 : OwnB w9 w5.heap.size A6 rd.length c6 rd := ⟨HO7.out.hn, hA8.keep (fun g hg hlt _ => hO9.block g hlt (fun h => by rcases hFj _ h with h | h <;> omega))⟩
  have HB9 : Hid (Below w.heap.size w w9) := hide ((below_drew1 (below_step HB48.out HB4.out)).trans (hO9.below (N := w.heap.size) (by have := HB4.out.size; have := HB48.out.size; show w.heap.size ≤ w8.heap.size; omega) (fun g hg => by rcases hFj _ hg with h | h <;> omega)))
  have hs9 := hO9.size
  have HP9 := hide hP9
  have Ho9 := hide ho9
  have HR9 := hide hR9
  have Hr9 := hide hr9
  have HD9 := hide hD9
  have Hg9 := hide hg9
  have HA9 := hide hA9
  have HF9 := hide hF9
  have hnr : ¬ q'.F r := fun h => by have := HQL2.out r h; omega
  have hrap := fun W (hb : Below w9.heap.size w9 W) => rjo_Append kk q' S r Ar cr A8 m c8 d W (hR9.below hb) (hr9.below hb hr9.lt) hnr HSB.out.1 HSB.out.2.1 HFF.out HD8.out (by omega) (hD9.below hb).sl (by rw [HSB.out.2.2.2.1]; decide)
  rw [show rappE S kk m = er by rw [HER.out, ← HD8.out]] at hrap
  have HRAP := hide hrap
  have p93 := hP9.cell 3 (u := .pointer (some ⟨r, 0, none⟩)) rfl
  have p92 := hP9.cell 2 (u := .pointer (some ⟨pj, 0, none⟩)) rfl
  have o91 := ho9.cell 1 (u := .int .i64 kk) rfl
  have hz8 : w8.heap.size ≤ w9.heap.size := hs9
  clear ho8 hg8 hA8 hJ9 hF9 hO9 hFj hK8 hP9 ho9 hr9 hR9 hD9 hg9 hA9 hs9 hrap y2 o81
  refine hK.out _ _ ?hS11 (fun hHeld => ?rest11)
  case hS11 => ((try dsimp only); (exact ⟨p92, o91⟩))
  case' rest11 => (clear hK K; try simp only [List.getElem_toArray, List.getElem_cons_zero, List.getElem_cons_succ, Act.put, List.setIfInBounds_toArray, List.set_cons_zero, List.set_cons_succ])
  refine wpAnyH_take (i := 8) (oi := _) (v := ?v12) rfl (by kernel_rfl) (by kernel_rfl) (by kernel_rfl) (fun _ _ _ h => h) (Or.inl ⟨by rfl, ?hy12⟩) (by assumption) ?rest12
  case hy12 => ((intro w hSw; (try dsimp only at hSw); go_simp) <;> with_reducible rfl)
  case' rest12 => try simp only [List.getElem_toArray, List.getElem_cons_zero, List.getElem_cons_succ, Act.put, List.setIfInBounds_toArray, List.set_cons_zero, List.set_cons_succ]
  refine wpAnyH_done (by kernel_rfl) ?_ _
  have hEnd := hHeld.2
  repeat (clear hHeld)
  clear hEnd
  go_wp2_with fail
  refine wp_region_held_drew (S := (fun w' => w'.cell? ⟨P, 3, none⟩ = some (.pointer (some ⟨r, 0, none⟩)) ∧ w'.cell? ⟨w.heap.size, 1, none⟩ = some (.int .i64 kk))) (by kernel_rfl) ?hS14 (fun hHeld => ?rest14)
  case hS14 => ((try dsimp only); (exact ⟨p93, o91⟩))
  case' rest14 => skip
  refine wpAnyH_take (i := 0) (oi := _) (v := ?v15) rfl (by kernel_rfl) (by kernel_rfl) (by kernel_rfl) (fun _ _ _ h => h) (Or.inl ⟨by rfl, ?hy15⟩) (by assumption) ?rest15
  case hy15 => ((intro w hSw; (try dsimp only at hSw); go_simp) <;> with_reducible rfl)
  case' rest15 => try simp only [List.getElem_toArray, List.getElem_cons_zero, List.getElem_cons_succ, Act.put, List.setIfInBounds_toArray, List.set_cons_zero, List.set_cons_succ]
  refine wpAnyH_take (i := 1) (oi := _) (v := ?v16) rfl (by kernel_rfl) (by kernel_rfl) (by kernel_rfl) (fun _ _ _ h => h) (Or.inl ⟨by rfl, ?hy16⟩) (by assumption) ?rest16
  case hy16 => ((intro w hSw; (try dsimp only at hSw); go_simp) <;> with_reducible rfl)
  case' rest16 => try simp only [List.getElem_toArray, List.getElem_cons_zero, List.getElem_cons_succ, Act.put, List.setIfInBounds_toArray, List.set_cons_zero, List.set_cons_succ]
  refine wpAnyH_take (i := 2) (oi := _) (v := ?v17) rfl (by kernel_rfl) (by kernel_rfl) (by kernel_rfl) (fun _ _ _ h => h) (Or.inl ⟨by rfl, ?hy17⟩) (by assumption) ?rest17
  case hy17 => ((intro w hSw; (try dsimp only at hSw); go_simp) <;> with_reducible rfl)
  case' rest17 => try simp only [List.getElem_toArray, List.getElem_cons_zero, List.getElem_cons_succ, Act.put, List.setIfInBounds_toArray, List.set_cons_zero, List.set_cons_succ]
  refine wpAnyH_take (i := 3) (oi := _) (v := ?v18) rfl (by kernel_rfl) (by kernel_rfl) (by kernel_rfl) (fun _ _ _ h => h) (Or.inl ⟨by rfl, ?hy18⟩) (by assumption) ?rest18
  case hy18 => ((intro w hSw; (try dsimp only at hSw); go_simp) <;> with_reducible rfl)
  case' rest18 => try simp only [List.getElem_toArray, List.getElem_cons_zero, List.getElem_cons_succ, Act.put, List.setIfInBounds_toArray, List.set_cons_zero, List.set_cons_succ]
  refine wpAnyH_take (i := 4) (oi := _) (v := ?v19) rfl (by kernel_rfl) (by kernel_rfl) (by kernel_rfl) (fun _ _ _ h => h) (Or.inl ⟨by rfl, ?hy19⟩) (by assumption) ?rest19
  case hy19 => ((intro w hSw; (try dsimp only at hSw); go_simp) <;> with_reducible rfl)
  case' rest19 => try simp only [List.getElem_toArray, List.getElem_cons_zero, List.getElem_cons_succ, Act.put, List.setIfInBounds_toArray, List.set_cons_zero, List.set_cons_succ]
  refine wpAnyH_take (i := 5) (oi := _) (v := ?v20) rfl (by kernel_rfl) (by kernel_rfl) (by kernel_rfl) (fun _ _ _ h => h) (Or.inl ⟨by rfl, ?hy20⟩) (by assumption) ?rest20
  case hy20 => ((intro w hSw; (try dsimp only at hSw); go_simp) <;> with_reducible rfl)
  case' rest20 => try simp only [List.getElem_toArray, List.getElem_cons_zero, List.getElem_cons_succ, Act.put, List.setIfInBounds_toArray, List.set_cons_zero, List.set_cons_succ]
  refine wpAnyH_take (i := 6) (oi := _) (v := ?v21) rfl (by kernel_rfl) (by kernel_rfl) (by kernel_rfl) (fun _ _ _ h => h) (Or.inl ⟨by rfl, ?hy21⟩) (by assumption) ?rest21
  case hy21 => ((intro w hSw; (try dsimp only at hSw); go_simp) <;> with_reducible rfl)
  case' rest21 => try simp only [List.getElem_toArray, List.getElem_cons_zero, List.getElem_cons_succ, Act.put, List.setIfInBounds_toArray, List.set_cons_zero, List.set_cons_succ]
  refine wpAnyH_take (i := 7) (oi := _) (v := ?v22) rfl (by kernel_rfl) (by kernel_rfl) (by kernel_rfl) (fun _ _ _ h => h) (Or.inl ⟨by rfl, ?hy22⟩) (by assumption) ?rest22
  case hy22 => ((intro w hSw; (try dsimp only at hSw); go_simp) <;> with_reducible rfl)
  case' rest22 => try simp only [List.getElem_toArray, List.getElem_cons_zero, List.getElem_cons_succ, Act.put, List.setIfInBounds_toArray, List.set_cons_zero, List.set_cons_succ]
  refine wpAnyH_ready (rs := [8]) (by kernel_rfl) (by simp) ?_
  refine AllReadyH.cons (o := _) rfl (fun K hK => ?_) AllReadyH.nil
  go_simp
  refine (HRAP.out _ (below_drew1 (Below.refl _ _))).mono ?_
  rintro e w10 ⟨rfl, hO10⟩
  have hFr : ∀ g, g = r ∨ q'.F g → g = r ∨ (w1.heap.size ≤ g ∧ g < P) := fun g hg => hg.elim .inl (fun h => .inr ⟨HQ2.out g h, HQL2.out g h⟩)
  have hF10 : FD w10 q S' := HF9.out.keep (fun g hg hlt => hO10.block g hlt (fun h => by have := HQL1.out g hg; have := HQ1.out g hg; rcases hFr _ h with h | h <;> omega))
  have hP10 : Blk w10 P 37 #[.pointer (some ⟨q.p, 0, none⟩), .pointer (some ⟨q'.p, 0, none⟩), .pointer (some ⟨pj, 0, none⟩), .pointer (some ⟨r, 0, none⟩)] := (hO10.block P HP9.out.lt (fun h => by rcases hFr _ h with h | h <;> omega)).trans HP9.out
  have ho10 : Blk w10 w.heap.size 26 #[.int .i64 kd, .int .i64 kk, .int .u16 (sz : Nat), .int .i64 on, .int .u32 (wm : Nat)] := (hO10.block w.heap.size Ho9.out.lt (fun h => by rcases hFr _ h with h | h <;> omega)).trans Ho9.out
  have hD10 : OwnB w10 w7.heap.size A8 m c8 d := ⟨HD9.out.hn, HD9.out.own.keep (fun g hg hlt _ => hO10.block g hlt (fun h => by rcases hFr _ h with h | h <;> omega))⟩
  have hg10 : Blk w10 g6 39 #[.int .i64 rk, .int .u32 (rm : Nat), .slice A6 rd.length c6] := (hO10.block g6 Hg9.out.lt (fun h => by rcases hFr _ h with h | h <;> omega)).trans Hg9.out
  have hA10 : OwnB w10 w5.heap.size A6 rd.length c6 rd := ⟨HA9.out.hn, HA9.out.own.keep (fun g hg hlt _ => hO10.block g hlt (fun h => by rcases hFr _ h with h | h <;> omega))⟩
  have HB10 : Hid (Below w.heap.size w w10) := hide ((below_drew1 HB9.out).trans (hO10.below (N := w.heap.size) HB9.out.size (fun g hg => by rcases hFr _ hg with h | h <;> omega)))
  have HF10 := hide hF10
  have Ho10 := hide ho10
  have HD10 := hide hD10
  have Hg10 := hide hg10
  have HA10 := hide hA10
  have p103 := hP10.cell 3 (u := .pointer (some ⟨r, 0, none⟩)) rfl
  have o101 := ho10.cell 1 (u := .int .i64 kk) rfl
  have hz10 : w9.heap.size ≤ w10.heap.size := hO10.size
  clear hO10 hFr hF10 hP10 ho10 hD10 hg10 hA10 p92 p93 o91
  try dsimp only
  refine hK.out _ _ ?hS25 (fun hHeld => ?rest25)
  case hS25 => ((try dsimp only); (exact ⟨p103, o101⟩))
  case' rest25 => (clear hK K; try simp only [List.getElem_toArray, List.getElem_cons_zero, List.getElem_cons_succ, Act.put, List.setIfInBounds_toArray, List.set_cons_zero, List.set_cons_succ])
  refine wpAnyH_take (i := 9) (oi := _) (v := ?v26) rfl (by kernel_rfl) (by kernel_rfl) (by kernel_rfl) (fun _ _ _ h => h) (Or.inl ⟨by rfl, ?hy26⟩) (by assumption) ?rest26
  case hy26 => ((intro w hSw; (try dsimp only at hSw); go_simp) <;> with_reducible rfl)
  case' rest26 => try simp only [List.getElem_toArray, List.getElem_cons_zero, List.getElem_cons_succ, Act.put, List.setIfInBounds_toArray, List.set_cons_zero, List.set_cons_succ]
  refine wpAnyH_done (by kernel_rfl) ?_ _
  have hEnd := hHeld.2
  repeat (clear hHeld)
  clear hEnd
  have HOP2 := hide (jo_Open q S' w10 HF10.out HS'.out.1 (by rw [HS'.out.2]; exact HFF.out.1))
  go_wp2_with fail
  refine HOP2.out.mono ?_
  rintro e w11 ⟨p11, A11, n11, c11, ds11, rfl, hJ11, hb11⟩
  have HJ11 := hide hJ11
  have HB11 := hide hb11
  have hrc : recJ (openJ S') = recS S' := by unfold recJ recS lastJ openJ; rfl
  have hla := jo_Last w11 hJ11
  rw [hrc, show (openJ S').has = (newL (looksF S')).2 from rfl] at hla
  have hrl := recS_len HF10.out.fit
  have hru2 := recS_u32 (S := S')
  obtain ⟨R, hR⟩ : ∃ R, R = recS S' := ⟨_, rfl⟩
  obtain ⟨has2, hhs⟩ : ∃ x, x = (newL (looksF S')).2 := ⟨_, rfl⟩
  rw [← hR, ← hhs] at hla
  rw [← hR] at hrl hru2
  obtain ⟨rk2, rm2, rd2⟩ := R
  dsimp only at hla hrl hru2
  have HLA2 := hide hla
  have HR2 := hide hR
  have HH2 := hide hhs
  clear hJ11 hb11 hrc hla hR hhs p103 o101
  go_wp2_with fail
  refine HLA2.out.mono ?_
  rintro e w12 ⟨A12, c12, rfl, hO12, hb12⟩
  unfold rcV
  dsimp only
  have q12 := blk_one w12 39 #[.int .i64 rk2, .int .u32 (rm2 : Nat), .slice A12 rd2.length c12]
  have hb13 := below_step (below_alloc (Below.refl w12.heap.size w12) (.cells #[.int .i64 rk2, .int .u32 (rm2 : Nat), .slice A12 rd2.length c12] 39)) (below_step hb12 HB11.out)
  obtain ⟨w13, hw13⟩ : ∃ w13, w13 = w12.alloc (.cells #[.int .i64 rk2, .int .u32 (rm2 : Nat), .slice A12 rd2.length c12] 39) := ⟨_, rfl⟩
  have hO13 := hO12.alloc (.cells #[.int .i64 rk2, .int .u32 (rm2 : Nat), .slice A12 rd2.length c12] 39)
  rw [← hw13] at q12 hb13 hO13
  obtain ⟨g12, hg12⟩ : ∃ g, g = w12.heap.size := ⟨_, rfl⟩
  rw [← hg12] at q12
  have HW13 := hide hw13
  have HG12 := hide hg12
  have HQ13 := hide q12
  have HB13 := hide hb13
  have HBB13 := hide (below_step hb13 HB10.out)
  have HO13 := hide hO13
  have Hg13 := hide (Hg10.out.below hb13 Hg10.out.lt)
  have HA13 := hide (HA10.out.below hb13)
  have HD13 := hide (HD10.out.below hb13)
  have Ho13 := hide (Ho10.out.below hb13 Ho10.out.lt)
  clear hO12 hb12 q12 hb13 hw13 hg12 hO13
  rcases HCASE.out with ⟨hne, hSS⟩ | ⟨he0, hrs, hnw, hmx⟩
  · have hee : ((er : Int) != 0) = true := by simpa using hne
    have hRR : (rk2, rm2, rd2) = (rk, rm, rd) := by rw [HR2.out, HRR.out, hSS]
    have hH2 : has2 = has := by rw [HH2.out, HHS.out, hSS]
    injection hRR with h1 h2
    injection h2 with h2 h3
    subst h1
    subst h2
    subst h3
    subst hH2
    have i1 := HQ13.out
    have i2 := Hg13.out
    have HSAME := hide (fun W (hb : Below w13.heap.size w13 W) => rsame A12 A6 rk2 rk2 rm2 rm2 rd2.length c12 rd2.length c6 rd2 rd2 W rfl rfl (HO13.out.below hb).sl (HA13.out.below hb).sl)
    rw [show sameR rk2 rm2 rd2 rk2 rm2 rd2 = true by simp [sameR]] at HSAME
    have z1 := i1.lt
    have z2 := i2.lt
    rw [HW13.out] at i1 i2
    rw [HG12.out] at i1
    obtain ⟨i1_c0, i1_c1, i1_c2⟩ := cel3 i1
    have i1_f := i1.frozen
    obtain ⟨i2_c0, i2_c1, i2_c2⟩ := cel3 i2
    have i2_f := i2.frozen
    clear i1 i2 hne hSS
    go_wp2_with fail
    rw [← HW13.out, ← HG12.out]
    refine (HSAME.out _ (Below.refl _ _)).mono ?_
    rintro e w14 ⟨rfl, hb14⟩
    go_wp2_with fail
    refine (known_09 _).mono ?_
    rintro e w15 ⟨rfl, hb15⟩
    go_wp2_with fail
    go_ret
    exact (⟨rfl, below_step hb15 (below_step hb14 HBB13.out)⟩ : TrueB w _ _)
  · subst he0
    have hRR : (rk2, rm2, rd2) = (kk, rm + 1, d) := by rw [HR2.out, hrs, ← HRR.out]
    have hH2 : has2 = true := by rw [HH2.out, hnw]
    injection hRR with h1 h2
    injection h2 with h2 h3
    subst h1
    subst h2
    subst h3
    subst hH2
    have hmm : rm ≠ 4294967295 := by rw [← HRR.out] at hmx; exact hmx
    have hms : rm + 1 ≤ 4294967295 := by unfold U32 at hru; omega
    have hwr : IntKind.u32.wrap ((rm : Int) + 1) = (rm : Int) + 1 := by rw [IntKind.wrap_u32]; omega
    have hcst : (((rm + 1 : Nat)) : Int) = (rm : Int) + 1 := by omega
    have HDL := hide HD8.out
    have i1 := HQ13.out
    have i2 := Hg13.out
    have i3 := Ho13.out
    have k1 := str_b c12 (rfl : rd2.length = rd2.length) HO13.out.sl
    have k2 := str_b c8 HD8.out HD13.out.sl
    have z1 := i1.lt
    have z2 := i2.lt
    have z3 := i3.lt
    rw [HW13.out] at i1 i2 i3 k1 k2
    rw [HG12.out] at i1
    rw [hcst] at i1 i2 i3 k1 k2
    obtain ⟨i1_c0, i1_c1, i1_c2⟩ := cel3 i1
    have i1_f := i1.frozen
    obtain ⟨i2_c0, i2_c1, i2_c2⟩ := cel3 i2
    have i2_f := i2.frozen
    obtain ⟨i3_c0, i3_c1, i3_c2, i3_c3, i3_c4⟩ := cel5 i3
    have i3_f := i3.frozen
    clear i1 i2 i3 hrs hnw hmx hmm
    rw [hcst]
    go_wp2_with fail
    rw [← hcst, ← HG12.out, ← HW13.out]
    refine (known_09 _).mono ?_
    rintro e w15 ⟨rfl, hb15⟩
    go_wp2_with fail
    go_ret
    exact (⟨rfl, below_step hb15 HBB13.out⟩ : TrueB w _ _)
end Go.Proofs.Ytfddfgonhgidbaa
namespace Go.Proofs.Ytfddfgonhgidbaa.lawJournalAny
open Go.ChangeShapes Go.WideShapes Go.ChangeAt Go.RowKit Go.Joins
set_option linter.unusedVariables false

theorem own : ownKnob Try.prog.godebug = none := by kernel_rfl
theorem laidOut : laidOutB Try.prog = true := by kernel_rfl

set_option maxRecDepth 100000 in
theorem lifted (os : Os) (started : os.Started) (H : Type) (enc : TypeId × Value → H) :
    ReturnsInHanded {} Try.checked os 3 .any (Rows.journalAnySpec.pre6 enc Try.prog Try.f3 Rows.journalAnyRow.domain false) (Rows.journalAnySpec.post enc Try.prog Try.f3 false true false false) := by
  refine returnsInHanded_of_change (C := Try.checked) own started (by kernel_rfl) Try.func3
    (ChangeSpec.witness6 (enc := enc) (C := Try.checked) false ⟨#[], #[.slice none 0 0, .agg #[.int .i64 0, .int .i64 0, .int .u16 0, .int .i64 0, .int .u32 0]], []⟩ 8 (by kernel_rfl) (by kernel_rfl) (by kernel_rfl) (by kernel_rfl)) ?_
  intro W base args ds gs before hval0 hW hcnd _
  have hval : ∀ (j : Nat) t v, Try.f3.params[j]? = some t → args[j]? = some v → Value.okWide Try.prog W .any base t v := hval0
  have hW' := hW
  obtain ⟨p, q, hA0, hV, rfl, hfz, hnd⟩ := hW
  have hA : DataW.TrodAll enc Try.prog W 0 (fun _ => true) true Try.f3.params.toList args.toList ds p := hA0
  rw [Try.params3] at hA hval
  obtain ⟨v0, vs0, d0, ds0, p0, q0, hargs, rfl, rfl, h0, r0⟩ := trodAll_cons hA
  obtain ⟨v1, vs1, d1, ds1, p1, q1, rfl, rfl, rfl, h1, r1⟩ := trodAll_cons r0
  obtain ⟨rfl, rfl, rfl⟩ := trodAll_nil r1
  obtain rfl : args = #[v0, v1] := by cases args; simp_all
  obtain ⟨rfl, rfl⟩ := trodVars_none hV
  have k0 := h0
  have lt0 : ∀ x ∈ p0, x.block < W.heap.size := by obtain ⟨m, hm⟩ := k0; exact DataW.trod_lt m _ _ _ hm
  have k1 := h1
  have lt1 : ∀ x ∈ p1, x.block < W.heap.size := by obtain ⟨m, hm⟩ := k1; exact DataW.trod_lt m _ _ _ hm
  obtain ⟨a0, len0, cap0, rfl⟩ := okWide_slice Try.underlying22 (hval 0 22 v0 rfl rfl)
  obtain ⟨fu0, hm0⟩ := h0
  obtain ⟨A0, c0, l0, hv0, hc0, hs0⟩ := open_bytes hm0
  injection hv0 with e01 e02 e03
  subst e01 e02 e03
  obtain ⟨o1, rfl, hz1, hw1⟩ := open_jop (hval 1 26 v1 rfl rfl) h1
  clear hA0 hval0
  refine (journalAny_walk _ _ _ l0 o1 W rfl hs0 hz1 hw1).mono fun e W' hTB => ?_
  obtain ⟨he, bel⟩ := hTB
  subst he
  exact ⟨_, rfl, _, _, _, [], _, [], hW', trodAll_mk1 (shut_bool Try.underlying4 _), (trodAll_cons_mk (Below.trod laidOut (by kernel_rfl) (of_decide_eq_true (by kernel_rfl)) k0 bel lt0) (trodAll_cons_mk (Below.trod laidOut (by kernel_rfl) (of_decide_eq_true (by kernel_rfl)) k1 bel lt1) trodAll_mk0)), rfl, bel.frame _, fun h => by cases h⟩

theorem over : Rows.journalAnyRow.holds Try.pinned (OpenSpec.ofChange Rows.journalAnySpec) :=
  OpenClaim.holds_of_wide 3 Try.f3 rfl rfl rfl rfl rfl rfl rfl ⟨rfl, rfl, rfl, rfl, rfl⟩ rfl rfl rfl rfl rfl (by kernel_rfl) Try.func3 (by kernel_rfl)
    (of_decide_eq_true (by kernel_rfl)) (by unfold Func.isWrapper; first | (rw [if_pos (by decide +kernel)]; kernel_rfl) | (rw [if_neg (by decide +kernel)]; exact ⟨rfl, rfl⟩))
    (fun os started H enc _ => lifted os started H enc)

theorem proved : Rows.JournalAnySaid := over
#print axioms proved
end Go.Proofs.Ytfddfgonhgidbaa.lawJournalAny
