/- Package journal: Open. -/
import Derived.Test.YtehabbnohoomjaaGreatDoorNv21
namespace Go.Proofs.YtehabbnohoomjaaGreatDoor
section
set_option linter.unusedVariables false
set_option linter.unusedSimpArgs false
set_option linter.unnecessarySimpa false
open Go.RowKit
set_option maxRecDepth 20000
set_option maxHeartbeats 4000000

theorem looksF_snoc (S : FS) {k : Nat} (h : k < S.wear.length) : (looksF S).take (k + 1) = (looksF S).take k ++ [lookL (secB S.b k)] := by
  have h1 := looksF_at S h
  obtain ⟨hk, he⟩ := List.getElem?_eq_some_iff.1 h1
  rw [List.take_succ_eq_append_getElem hk, he]
theorem looks_fit {S : FS} (hf : FitF S) : ∀ x ∈ looksF S, FitK x := by
  intro x hx
  unfold looksF at hx
  obtain ⟨i, hi, rfl⟩ := List.mem_map.1 hx
  rw [List.mem_range] at hi
  have := hf.len
  exact look_fit _ (by rw [secB_len (by omega)]; exact Nat.le_refl _)
/-- the looks, where another block is stored into -/
theorem lk_far {w : World} {F : Nat → Prop} {A : Option Addr} {n c p i : Nat} {L : List LK} {ds : List (Option Addr × Nat)} {cs : Array Value} (h : OwnLk w F A n c L ds) (hB : Blk w p 129 cs) (v : Value) : OwnLk (w.setCell ⟨p, i, none⟩ v) F A n c L ds := by
  have hk : ∀ g, g ≠ p → g < w.heap.size → (w.setCell ⟨p, i, none⟩ v).heap[g]? = w.heap[g]? := fun g hg _ => Below.heap_setCell _ _ _ _ (fun e => hg e)
  have hA : ∀ g, A = some ⟨g, 0, none⟩ → g ≠ p := fun g hg e => blk_own_ne hB h.own (by decide) (by rw [hg, ← e]; rfl)
  have hd : ∀ {m c' : Nat} {A' : Option Addr} {l : List UInt8}, OwnB w 0 A' m c' l → OwnB (w.setCell ⟨p, i, none⟩ v) 0 A' m c' l := fun hO => ⟨hO.hn, hO.own.keep (fun g _ hlt hA' => hk g (fun e => blk_own_ne hB hO.own (by decide) (by rw [hA', ← e]; rfl)) hlt)⟩
  exact ⟨h.hn, h.hd, h.own.keep (fun g _ hlt hA' => hk g (hA g hA') hlt), h.inF, fun j v d e1 e2 => ⟨hd (h.data j v d e1 e2).1, (h.data j v d e1 e2).2⟩⟩
def OpenR (q : FP) (S : FS) (w : World) (e : Ending) (w' : World) : Prop :=
  ∃ p A n c ds, e = .returned (.tuple #[.pointer (some ⟨p, 0, none⟩), .int .i64 0]) ∧ JD w' (fun g => w.heap.size ≤ g) p q.p A n c (openJ S) ds ∧ Below w.heap.size w w'
theorem jo_Open (q : FP) (S : FS) (w : World) (hD : FD w q S) (hoff : S.off = false) (h3 : 3 ≤ S.wear.length) :
    Calls Tryz.prog 41 #[.pointer (some ⟨q.p, 0, none⟩)] w (OpenR q S w) := by
  have HD := hide hD
  have HON := hide (fl_On q S w hD)
  rw [hoff, Bool.not_false] at HON
  have HSE := hide (fun W (hb : Below w.heap.size w W) => fl_Sectors q S W (hD.below hb))
  have HFIT := hide hD.fit
  have h8 := hD.fit.wl8
  obtain ⟨ns, hns⟩ : ∃ ns, ns = S.wear.length := ⟨_, rfl⟩
  have HNS := hide hns
  rw [← hns] at HSE h3 h8
  have HOFF := hide hoff
  have h3' : (3 : Int) ≤ (ns : Int) := by omega
  clear hD hoff hns
  go_enter Tryz.func41, Tryz.ntmps41
  go_wp2_with fail
  refine HON.out.mono ?_
  rintro e w1 ⟨rfl, rfl⟩
  go_wp2_with fail
  refine (HSE.out _ (Below.refl _ _)).mono ?_
  rintro e w1 ⟨rfl, rfl⟩
  have q0 := blk_one w 129 #[.slice none 0 0, .int .i64 0, .bool false, .pointer (some ⟨q.p, 0, none⟩), .bool false]
  have hb0 := below_alloc (Below.refl w.heap.size w) (.cells #[.slice none 0 0, .int .i64 0, .bool false, .pointer (some ⟨q.p, 0, none⟩), .bool false] 129)
  have HJ0 : Hid (JD (w.alloc (.cells #[.slice none 0 0, .int .i64 0, .bool false, .pointer (some ⟨q.p, 0, none⟩), .bool false] 129)) (fun g => w.heap.size ≤ g) w.heap.size q.p none 0 0 ⟨(looksF S).take 0, 0, false, false⟩ []) :=
    hide ⟨q0, Nat.le_refl _, OwnF.nil _ _, (fun x hx => by cases hx), by omega, by show 0 ≤ 8; omega, fun h => by cases h⟩
  have HB0 := hide hb0
  have HQ := hide q0
  clear q0 hb0
  go_wp2_with fail
  refine (HSE.out _ HB0.out).mono ?_
  rintro e w1 ⟨rfl, rfl⟩
  go_wp2_with fail
  go_loopw [5, 6, 7, 24] (fun _ _ _ i wr => ∃ k A c ds, k ≤ ns ∧ i = .int .i64 (k : Nat) ∧ Hid (JD wr (fun g => w.heap.size ≤ g) w.heap.size q.p A k c ⟨(looksF S).take k, 0, false, false⟩ ds) ∧ Hid (Below w.heap.size w wr)) (fun _ _ _ i _ => ns - (intOf i).toNat)
  case atStart => exact ⟨0, none, 0, [], by omega, rfl, HJ0, HB0⟩
  case round =>
    obtain ⟨k, A, c, ds, hk, rfl, HJ, HBr⟩ := hrel
    by_cases hlt : k < ns
    · have HLK := hide (jo_look q S k wr (HD.out.below HBr.out) HOFF.out (by rw [← HNS.out]; exact hlt))
      have HSN := hide (looksF_snoc S (k := k) (by rw [← HNS.out]; exact hlt))
      have HFX := hide (show FitK (lookL (secB S.b k)) from looks_fit HFIT.out _ (by
        have h1 := looksF_at S (i := k) (by rw [← HNS.out]; exact hlt)
        exact List.mem_of_getElem? h1))
      obtain ⟨x, hx⟩ : ∃ x, x = lookL (secB S.b k) := ⟨_, rfl⟩
      rw [← hx] at HLK HSN HFX
      clear hx
      go_wp2_with fail
      refine HLK.out.mono ?_
      rintro e w2 ⟨A2, c2, rfl, hO2, hb2⟩
      have HO2 := hide hO2
      clear hO2
      unfold lkV
      dsimp only
      have q2 := blk_one w2 131 #[.int .i64 x.k, .int .u32 (x.m : Nat), .slice A2 x.d.length c2, .int .i64 (x.cnt : Nat), .int .i64 (x.en : Nat), .bool x.cl]
      have hb3 := below_step (below_alloc (Below.refl w2.heap.size w2) (.cells #[.int .i64 x.k, .int .u32 (x.m : Nat), .slice A2 x.d.length c2, .int .i64 (x.cnt : Nat), .int .i64 (x.en : Nat), .bool x.cl] 131)) hb2
      have HJ2 := hide (HJ.out.below hb3)
      have p2 := HJ2.out.blk
      unfold joC at p2
      have HQ2 := hide q2
      have HB3 := hide hb3
      have hz2 := hb2.size
      obtain ⟨q2_c0, q2_c1, q2_c2, q2_c3, q2_c4, q2_c5⟩ := cel6 q2
      have q2_f := q2.frozen
      obtain ⟨p2_c0, p2_c1, p2_c2, p2_c3, p2_c4⟩ := cel5 p2
      have p2_f := p2.frozen
      clear q2 p2 hb2 hb3
      go_wp2_with fail
      refine wp_region_T (fun w' => w'.cell? ⟨w.heap.size, 0, none⟩ = some (.slice A k c) ∧ w'.cell? ⟨w2.heap.size, 0, none⟩ = some (.int .i64 x.k) ∧ w'.cell? ⟨w2.heap.size, 1, none⟩ = some (.int .u32 (x.m : Nat)) ∧ w'.cell? ⟨w2.heap.size, 2, none⟩ = some (.slice A2 x.d.length c2) ∧ w'.cell? ⟨w2.heap.size, 3, none⟩ = some (.int .i64 (x.cnt : Nat)) ∧ w'.cell? ⟨w2.heap.size, 4, none⟩ = some (.int .i64 (x.en : Nat)) ∧ w'.cell? ⟨w2.heap.size, 5, none⟩ = some (.bool x.cl)) [0, 1, 2, 3, 4, 5, 6] (by kernel_rfl) ?hS1 (fun hHeld => ?rest1)
      case hS1 => ((try dsimp only); exact ⟨p2_c0, q2_c0, q2_c1, q2_c2, q2_c3, q2_c4, q2_c5⟩)
      case' rest1 => skip
      refine wpAnyT_take (by kernel_rfl) (by kernel_rfl) (i := 0) (oi := _) (v := ?v2) rfl (by kernel_rfl) (by kernel_rfl) (by kernel_rfl) (fun _ _ _ h => h) (Or.inl ⟨by rfl, ?hy2⟩) (by assumption) ?rest2
      case hy2 => ((intro w hSw; (try dsimp only at hSw); go_simp) <;> with_reducible rfl)
      case' rest2 => try simp only [List.getElem_toArray, List.getElem_cons_zero, List.getElem_cons_succ, Act.put, List.setIfInBounds_toArray, List.set_cons_zero, List.set_cons_succ]
      refine wpAnyT_take (by kernel_rfl) (by kernel_rfl) (i := 1) (oi := _) (v := ?v3) rfl (by kernel_rfl) (by kernel_rfl) (by kernel_rfl) (fun _ _ _ h => h) (Or.inl ⟨by rfl, ?hy3⟩) (by assumption) ?rest3
      case hy3 => ((intro w hSw; (try dsimp only at hSw); go_simp) <;> with_reducible rfl)
      case' rest3 => try simp only [List.getElem_toArray, List.getElem_cons_zero, List.getElem_cons_succ, Act.put, List.setIfInBounds_toArray, List.set_cons_zero, List.set_cons_succ]
      refine wpAnyT_take (by kernel_rfl) (by kernel_rfl) (i := 2) (oi := _) (v := ?v4) rfl (by kernel_rfl) (by kernel_rfl) (by kernel_rfl) (fun _ _ _ h => h) (Or.inl ⟨by rfl, ?hy4⟩) (by assumption) ?rest4
      case hy4 => ((intro w hSw; (try dsimp only at hSw); go_simp) <;> with_reducible rfl)
      case' rest4 => try simp only [List.getElem_toArray, List.getElem_cons_zero, List.getElem_cons_succ, Act.put, List.setIfInBounds_toArray, List.set_cons_zero, List.set_cons_succ]
      refine wpAnyT_take (by kernel_rfl) (by kernel_rfl) (i := 3) (oi := _) (v := ?v5) rfl (by kernel_rfl) (by kernel_rfl) (by kernel_rfl) (fun _ _ _ h => h) (Or.inl ⟨by rfl, ?hy5⟩) (by assumption) ?rest5
      case hy5 => ((intro w hSw; (try dsimp only at hSw); go_simp) <;> with_reducible rfl)
      case' rest5 => try simp only [List.getElem_toArray, List.getElem_cons_zero, List.getElem_cons_succ, Act.put, List.setIfInBounds_toArray, List.set_cons_zero, List.set_cons_succ]
      refine wpAnyT_take (by kernel_rfl) (by kernel_rfl) (i := 4) (oi := _) (v := ?v6) rfl (by kernel_rfl) (by kernel_rfl) (by kernel_rfl) (fun _ _ _ h => h) (Or.inl ⟨by rfl, ?hy6⟩) (by assumption) ?rest6
      case hy6 => ((intro w hSw; (try dsimp only at hSw); go_simp) <;> with_reducible rfl)
      case' rest6 => try simp only [List.getElem_toArray, List.getElem_cons_zero, List.getElem_cons_succ, Act.put, List.setIfInBounds_toArray, List.set_cons_zero, List.set_cons_succ]
      refine wpAnyT_take (by kernel_rfl) (by kernel_rfl) (i := 5) (oi := _) (v := ?v7) rfl (by kernel_rfl) (by kernel_rfl) (by kernel_rfl) (fun _ _ _ h => h) (Or.inl ⟨by rfl, ?hy7⟩) (by assumption) ?rest7
      case hy7 => ((intro w hSw; (try dsimp only at hSw); go_simp) <;> with_reducible rfl)
      case' rest7 => try simp only [List.getElem_toArray, List.getElem_cons_zero, List.getElem_cons_succ, Act.put, List.setIfInBounds_toArray, List.set_cons_zero, List.set_cons_succ]
      refine wpAnyT_take (by kernel_rfl) (by kernel_rfl) (i := 6) (oi := _) (v := ?v8) rfl (by kernel_rfl) (by kernel_rfl) (by kernel_rfl) (fun _ _ _ h => h) (Or.inl ⟨by rfl, ?hy8⟩) (by assumption) ?rest8
      case hy8 => ((intro w hSw; (try dsimp only at hSw); go_simp) <;> with_reducible rfl)
      case' rest8 => try simp only [List.getElem_toArray, List.getElem_cons_zero, List.getElem_cons_succ, Act.put, List.setIfInBounds_toArray, List.set_cons_zero, List.set_cons_succ]
      refine wpAnyT_one (i := 7) (o := _) rfl (by kernel_rfl) (fun K hK => ?_)
      go_simp
      refine hK.out _ _ ?hS10 (fun hHeld => ?rest10)
      case hS10 => ((try dsimp only); (exact ⟨(HJ2.out.blk.drew.alloc _).cell 0 rfl, (HQ2.out.drew.alloc _).cell 0 rfl, (HQ2.out.drew.alloc _).cell 1 rfl, (HQ2.out.drew.alloc _).cell 2 rfl, (HQ2.out.drew.alloc _).cell 3 rfl, (HQ2.out.drew.alloc _).cell 4 rfl, (HQ2.out.drew.alloc _).cell 5 rfl⟩))
      case' rest10 => (clear hK K; try simp only [List.getElem_toArray, List.getElem_cons_zero, List.getElem_cons_succ, Act.put, List.setIfInBounds_toArray, List.set_cons_zero, List.set_cons_succ])
      have hb5 : Below wr.heap.size wr (((w2.alloc (.cells #[.int .i64 x.k, .int .u32 (x.m : Nat), .slice A2 x.d.length c2, .int .i64 (x.cnt : Nat), .int .i64 (x.en : Nat), .bool x.cl] 131)).drew).alloc (.cells #[.int .i64 x.k, .int .u32 (x.m : Nat), .slice A2 x.d.length c2, .int .i64 (x.cnt : Nat), .int .i64 (x.en : Nat), .bool x.cl] 131)) := below_alloc (below_drew1 HB3.out) _
      have hzr := HBr.out.size
      have hne : some w2.heap.size ≠ Value.ownBlock (.slice A k c) := by
        rcases HJ.out.lks.own.shape with ⟨h1, _⟩ | ⟨g, h1, _, h2⟩
        · rw [h1]; simp [Value.ownBlock]
        · rw [h1]; simp [Value.ownBlock]; omega
      refine wpAnyT_one (i := 8) (o := _) rfl (by kernel_rfl) (fun K hK => ?_)
      rw [if_pos (show Region.wanted _ _ = true by kernel_rfl)]
      refine wp_app_lk (F := fun g => w.heap.size ≤ g) _ _ rfl A k c ((looksF S).take k) ds rfl (HJ.out.lks.below hb5) x (A2, c2) _ rfl (by exact (blk_two _ _ _ _ _).2.drew.sl) (((HO2.out.alloc _).drew.alloc _).mono (Nat.zero_le _)) (HO2.out.own.fin.mono (fun g h => Nat.le_trans hzr h.1)) (fun g h => Nat.le_trans (Nat.le_trans hzr hb5.size) h) (by omega) ?_
      intro A4 c4 w4 hO4 hg4 hr4
      have m1 := hide ((HJ2.out.blk.drew.alloc (.cells #[.int .i64 x.k, .int .u32 (x.m : Nat), .slice A2 x.d.length c2, .int .i64 (x.cnt : Nat), .int .i64 (x.en : Nat), .bool x.cl] 131)).grown hg4 (blk_own_ne (HJ2.out.blk.drew.alloc _) (HJ.out.lks.below hb5).own (by decide)))
      have m2 := hide ((HQ2.out.drew.alloc (.cells #[.int .i64 x.k, .int .u32 (x.m : Nat), .slice A2 x.d.length c2, .int .i64 (x.cnt : Nat), .int .i64 (x.en : Nat), .bool x.cl] 131)).grown hg4 hne)
      have mb : Hid (Below w.heap.size w w4) := hide ((below_step hb5 HBr.out).grown hg4 (below_step hb5 HBr.out).size (fun g hg => by
        rcases HJ.out.lks.own.shape with ⟨h1, _⟩ | ⟨g', h1, _, h2⟩
        · rw [h1] at hg; simp [Value.ownBlock] at hg
        · have h3 := HJ.out.lks.inF g' h1
          rw [h1] at hg; simp [Value.ownBlock] at hg; omega))
      rw [← HSN.out] at hO4
      have mE := hide hO4
      clear hO4 hg4 hr4 hne hb5
      refine hK.out _ _ ?hS12 (fun hHeld => ?rest12)
      case hS12 => ((try dsimp only); (exact ⟨m1.out.cell 0 rfl, m2.out.cell 0 rfl, m2.out.cell 1 rfl, m2.out.cell 2 rfl, m2.out.cell 3 rfl, m2.out.cell 4 rfl, m2.out.cell 5 rfl⟩))
      case' rest12 => (clear hK K; try simp only [List.getElem_toArray, List.getElem_cons_zero, List.getElem_cons_succ, Act.put, List.setIfInBounds_toArray, List.set_cons_zero, List.set_cons_succ])
      have m1c := m1.out.cell 0 (u := .slice A k c) rfl
      have m1f := m1.out.frozen 0
      refine wpAnyT_one (i := 9) (o := _) rfl (by kernel_rfl) (fun K hK => ?_)
      go_simp
      refine hK.out _ _ ?hS14 (fun hHeld => ?rest14)
      case hS14 => ((try dsimp only); (exact ⟨m1.out.cell 0 rfl, m2.out.cell 0 rfl, m2.out.cell 1 rfl, m2.out.cell 2 rfl, m2.out.cell 3 rfl, m2.out.cell 4 rfl, m2.out.cell 5 rfl⟩))
      case' rest14 => (clear hK K; try simp only [List.getElem_toArray, List.getElem_cons_zero, List.getElem_cons_succ, Act.put, List.setIfInBounds_toArray, List.set_cons_zero, List.set_cons_succ])
      refine wpAnyT_one (i := 10) (o := _) rfl (by kernel_rfl) (fun K hK => ?_)
      go_simp
      refine hK.out _ _ ?hS16 (fun hHeld => ?rest16)
      case hS16 => ((try dsimp only); (exact ⟨m1.out.cell 0 rfl, m2.out.cell 0 rfl, m2.out.cell 1 rfl, m2.out.cell 2 rfl, m2.out.cell 3 rfl, m2.out.cell 4 rfl, m2.out.cell 5 rfl⟩))
      case' rest16 => (clear hK K; try simp only [List.getElem_toArray, List.getElem_cons_zero, List.getElem_cons_succ, Act.put, List.setIfInBounds_toArray, List.set_cons_zero, List.set_cons_succ])
      refine wpAnyT_one (i := 11) (o := _) rfl (by kernel_rfl) (fun K hK => ?_)
      go_simp
      refine hK.out _ _ ?hS18 (fun hHeld => ?rest18)
      case hS18 => ((try dsimp only); (exact ⟨m1.out.cell 0 rfl, m2.out.cell 0 rfl, m2.out.cell 1 rfl, m2.out.cell 2 rfl, m2.out.cell 3 rfl, m2.out.cell 4 rfl, m2.out.cell 5 rfl⟩))
      case' rest18 => (clear hK K; try simp only [List.getElem_toArray, List.getElem_cons_zero, List.getElem_cons_succ, Act.put, List.setIfInBounds_toArray, List.set_cons_zero, List.set_cons_succ])
      refine wpAnyT_late (i := 12) (o := _) rfl (by kernel_rfl) (by kernel_rfl) (fun K hK => ?_)
      go_simp
      refine hK.out _ _ ?rest20
      case' rest20 => (clear hK K; try simp only [List.getElem_toArray, List.getElem_cons_zero, List.getElem_cons_succ, Act.put, List.setIfInBounds_toArray, List.set_cons_zero, List.set_cons_succ])
      refine wpAnyT_done (by kernel_rfl) ?_ _
      repeat (clear hHeld)
      go_wp2_with fail
      have HJN : Hid (JD (w4.setCell ⟨w.heap.size, 0, none⟩ (.slice A4 (k + 1) c4)) (fun g => w.heap.size ≤ g) w.heap.size q.p A4 (k + 1) c4 ⟨(looksF S).take (k + 1), 0, false, false⟩ (ds ++ [(A2, c2)])) := hide ⟨blk_setL m1.out 0 _, Nat.le_refl _, lk_far mE.out m1.out _, (fun y hy => looks_fit HFIT.out y (List.mem_of_mem_take hy)), by omega, by show 0 ≤ 8; omega, fun h => by cases h⟩
      have HBN := hide (below_set mb.out (p := ⟨w.heap.size, 0, none⟩) (Nat.le_refl _) (.slice A4 (k + 1) c4))
      go_roundw
      case rel => exact ⟨k + 1, A4, c4, _, by omega, by go_num, HJN, HBN⟩
      case measure => simp [intOf]; omega
    · obtain rfl : k = ns := by omega
      have hfull : (looksF S).take k = looksF S := List.take_of_length_le (by rw [looksF_len, ← HNS.out]; exact Nat.le_refl _)
      have hJ := HJ.out
      rw [hfull] at hJ
      have HJF := hide hJ
      have hNE := sec_newest A k c (kvs (looksF S) ds) wr (by rw [kvs_len _ _ hJ.lks.hd, ← hJ.lks.hn]) (by omega) hJ.lks.slk
      have hnn := newest_kvs (looksF S) ds hJ.lks.hd
      rw [show (looksF S).length = k by rw [looksF_len, ← HNS.out]] at hnn
      rw [hnn] at hNE
      have HNE := hide hNE
      have hnow : (newL (looksF S)).1 ≤ 8 ∧ ((newL (looksF S)).2 = true → (newL (looksF S)).1 < k) := by
        rcases newL_cases (looksF S) with ⟨a, ha⟩ | ha
        · have h1 := (newL_at.1 ha).1
          rw [looksF_len, ← HNS.out] at h1
          rw [ha]
          exact ⟨by simp only []; omega, fun _ => h1⟩
        · rw [ha]
          exact ⟨by simp only []; omega, fun h => by cases h⟩
      have HNOW := hide hnow
      have p2 := hJ.blk
      unfold joC at p2
      obtain ⟨p2_c0, p2_c1, p2_c2, p2_c3, p2_c4⟩ := cel5 p2
      have p2_f := p2.frozen
      have z2 := p2.lt
      clear hfull hJ hNE hnn hnow p2
      go_wp2_with fail
      refine HNE.out.mono ?_
      rintro e w2 ⟨rfl, hb2⟩
      have HJ2 := hide (HJF.out.below hb2)
      have HB2 := hide (below_step hb2 HBr.out)
      have p3 := HJ2.out.blk
      unfold joC at p3
      obtain ⟨p3_c0, p3_c1, p3_c2, p3_c3, p3_c4⟩ := cel5 p3
      have p3_f := p3.frozen
      clear p2_c0 p2_c1 p2_c2 p2_c3 p2_c4 p2_f p3 hb2
      go_wp2_with fail
      go_ret2
      refine (⟨w.heap.size, A, k, c, ds, rfl, HJ2.out.reblk (J' := openJ S) (only2 _ _ _ _) (blk_setL (blk_setL HJ2.out.blk 1 _) 2 _) rfl HNOW.out.1 HNOW.out.2, ?_⟩ : OpenR q S w _ _)
      exact below_set (below_set HB2.out (p := ⟨w.heap.size, 1, none⟩) (Nat.le_refl _) _) (p := ⟨w.heap.size, 2, none⟩) (Nat.le_refl _) _
end
end Go.Proofs.YtehabbnohoomjaaGreatDoor
