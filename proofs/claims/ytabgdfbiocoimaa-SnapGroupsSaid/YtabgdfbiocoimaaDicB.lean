/- Package dict: seek. -/
import Derived.Test.YtabgdfbiocoimaaDicA
namespace Go.Proofs.Ytabgdfbiocoimaa
set_option linter.unusedVariables false
set_option linter.unusedSimpArgs false
set_option linter.unnecessarySimpa false
open Go.RowKit
set_option maxRecDepth 100000
set_option maxHeartbeats 2000000
def plE (ix sub : Int) : Ent := ⟨ix, sub, ⟨#[]⟩, 0, 0, false, false, 0, 0, 0, []⟩
section
variable {F : Nat → Prop} {p n cl cv : Nat} {Av : Option Addr} {L : List Ent} {V : List (List UInt8)} {ds es : List (Option Addr × Nat)} {gl : Nat}
theorem dict_seek (ix sub : Int) (w : World) (hD : DB 86 w F p (some ⟨gl, 0, none⟩) n cl Av cv L V ds es) (hs : SortedE L) (hn : n ≤ 1000) :
    Calls Try.prog 60 #[.pointer (some ⟨p, 0, none⟩), .int .i64 ix, .int .i64 sub] w fun e w' => e = .returned (.int .i64 (seekL L ix sub)) ∧ Below w.heap.size w w' := by
  have HS := hide hs
  have HN := hide hD.ents.hn
  obtain ⟨s, hse⟩ : ∃ s, s = seekL L ix sub := ⟨_, rfl⟩
  have hsl : s ≤ n := by rw [hse, HN.out]; exact seek_le L ix sub
  rw [← hse]
  have HSE := hide hse
  clear hse hs
  have hB1 := hD.blk.alloc (.cells (entV (plE ix sub) none 0 0) 39)
  have hbw := below_alloc (Below.refl w.heap.size w) (.cells (entV (plE ix sub) none 0 0) 39)
  have q := blk_one w 39 (entV (plE ix sub) none 0 0)
  go_enter Try.func60, Try.ntmps60
  go_wp2_with fail
  refine (dict_len _ hB1).mono ?_
  rintro e w1 ⟨rfl, rfl⟩
  go_wp2_with fail
  go_loopw [8, 9] (fun lo hi wr => ∃ a b, lo = .int .i64 (a : Nat) ∧ hi = .int .i64 (b : Nat) ∧ a ≤ s ∧ s ≤ b ∧ b ≤ n ∧ Below (w.heap.size + 1) (w.alloc (.cells (entV (plE ix sub) none 0 0) 39)) wr) (fun lo hi _ => (intOf hi).toNat - (intOf lo).toNat)
  case atStart => exact ⟨0, n, rfl, rfl, by omega, hsl, Nat.le_refl _, Below.refl _ _⟩
  case round =>
    obtain ⟨a, b, rfl, rfl, ha, hb, hbn, hbr⟩ := hrel
    by_cases hlt : a < b
    · obtain ⟨m, hm⟩ : ∃ m, m = (a + b) / 2 := ⟨_, rfl⟩
      have h2 : ((a : Int) + (b : Int)) / 2 = (m : Int) := by omega
      have hm1 : m < n := by omega
      have hm2 : a ≤ m ∧ m < b := by omega
      obtain ⟨hm3, hm4⟩ := hm2
      have HM := hide hm
      clear hm
      have hbw1 := hbw.trans (hbr.mono (Nat.le_succ _))
      have hDr := hD.below hbw1
      obtain ⟨E, hE⟩ : ∃ E, L[m]? = some E := ⟨L[m]'(by rw [← HN.out]; exact hm1), List.getElem?_eq_getElem _⟩
      have HBE := hide (seek_half L ix sub HS.out m E hE)
      obtain ⟨g, d, hA, zg, _, _, _, c0, c1, c2, c3, c4, c5, c6, c7, c8, c9, c10⟩ := hDr.ent hE
      injection hA with hA
      injection hA with hA
      subst hA
      have hBr := hDr.blk
      have zp := hBr.lt
      have q1 := q.below hbr (Nat.lt_succ_self _)
      have zq := q1.lt
      have hidx := idx_at hm1
      obtain ⟨i1, i2, i3⟩ := hidx
      unfold entV plE at q1
      simp only [] at q1
      have q1_c0 := q1.cell 0 rfl
      have q1_f0 := q1.frozen 0
      have q1_c1 := q1.cell 1 rfl
      have q1_f1 := q1.frozen 1
      have q1_c2 := q1.cell 2 rfl
      have q1_f2 := q1.frozen 2
      have q1_c3 := q1.cell 3 rfl
      have q1_f3 := q1.frozen 3
      have q1_c4 := q1.cell 4 rfl
      have q1_f4 := q1.frozen 4
      have q1_c5 := q1.cell 5 rfl
      have q1_f5 := q1.frozen 5
      have q1_c6 := q1.cell 6 rfl
      have q1_f6 := q1.frozen 6
      have q1_c7 := q1.cell 7 rfl
      have q1_f7 := q1.frozen 7
      have q1_c8 := q1.cell 8 rfl
      have q1_f8 := q1.frozen 8
      have q1_c9 := q1.cell 9 rfl
      have q1_f9 := q1.frozen 9
      have q1_c10 := q1.cell 10 rfl
      have q1_f10 := q1.frozen 10
      have hBr_c0 := hBr.cell 0 rfl
      have hBr_f0 := hBr.frozen 0
      have hBr_c1 := hBr.cell 1 rfl
      have hBr_f1 := hBr.frozen 1
      clear hE hDr
      go_wp2_with fail
      refine wp_region_held_drew (S := (fun w' => (∀ p : Addr, p.block < (wr).heap.size → w'.cell? p = (wr).cell? p) ∧ Below (wr).heap.size (wr) w')) (by kernel_rfl) ?hS1 (fun hHeld => ?rest1)
      case hS1 => ((try dsimp only); (((try go_split_ands); refine sn_of ?_; repeat' (first | with_reducible assumption | with_reducible exact Below.refl _ _ | with_reducible apply below_alloc | with_reducible apply below_drew1 | with_reducible apply below_drewN | (with_reducible apply below_step; with_reducible assumption) | (with_reducible apply below_sg2; (first | exact Nat.le_refl _ | (simp; done) | omega))))))
      case' rest1 => skip
      refine wpAnyH_take (i := 0) (oi := _) (v := ?v2) rfl (by kernel_rfl) (by kernel_rfl) (by kernel_rfl) (fun _ _ _ h => h) (Or.inl ⟨by rfl, ?hy2⟩) (by assumption) ?rest2
      case hy2 => ((intro w hSw; (try dsimp only at hSw); go_simp) <;> with_reducible rfl)
      case' rest2 => try simp only [List.getElem_toArray, List.getElem_cons_zero, List.getElem_cons_succ, Act.put, List.setIfInBounds_toArray, List.set_cons_zero, List.set_cons_succ]
      refine wpAnyH_take (i := 1) (oi := _) (v := ?v3) rfl (by kernel_rfl) (by kernel_rfl) (by kernel_rfl) (fun _ _ _ h => h) (Or.inl ⟨by rfl, ?hy3⟩) (by assumption) ?rest3
      case hy3 => ((intro w hSw; (try dsimp only at hSw); go_simp) <;> with_reducible rfl)
      case' rest3 => try simp only [List.getElem_toArray, List.getElem_cons_zero, List.getElem_cons_succ, Act.put, List.setIfInBounds_toArray, List.set_cons_zero, List.set_cons_succ]
      refine wpAnyH_take (i := 2) (oi := _) (v := ?v4) rfl (by kernel_rfl) (by kernel_rfl) (by kernel_rfl) (fun _ _ _ h => h) (Or.inl ⟨by rfl, ?hy4⟩) (by assumption) ?rest4
      case hy4 => ((intro w hSw; (try dsimp only at hSw); go_simp) <;> with_reducible rfl)
      case' rest4 => try simp only [List.getElem_toArray, List.getElem_cons_zero, List.getElem_cons_succ, Act.put, List.setIfInBounds_toArray, List.set_cons_zero, List.set_cons_succ]
      refine wpAnyH_take (i := 3) (oi := _) (v := ?v5) rfl (by kernel_rfl) (by kernel_rfl) (by kernel_rfl) (fun _ _ _ h => h) (Or.inl ⟨by rfl, ?hy5⟩) (by assumption) ?rest5
      case hy5 => ((intro w hSw; (try dsimp only at hSw); go_simp) <;> with_reducible rfl)
      case' rest5 => try simp only [List.getElem_toArray, List.getElem_cons_zero, List.getElem_cons_succ, Act.put, List.setIfInBounds_toArray, List.set_cons_zero, List.set_cons_succ]
      refine wpAnyH_take (i := 4) (oi := _) (v := ?v6) rfl (by kernel_rfl) (by kernel_rfl) (by kernel_rfl) (fun _ _ _ h => h) (Or.inl ⟨by rfl, ?hy6⟩) (by assumption) ?rest6
      case hy6 => ((intro w hSw; (try dsimp only at hSw); go_simp) <;> with_reducible rfl)
      case' rest6 => try simp only [List.getElem_toArray, List.getElem_cons_zero, List.getElem_cons_succ, Act.put, List.setIfInBounds_toArray, List.set_cons_zero, List.set_cons_succ]
      refine wpAnyH_take (i := 5) (oi := _) (v := ?v7) rfl (by kernel_rfl) (by kernel_rfl) (by kernel_rfl) (fun _ _ _ h => h) (Or.inl ⟨by rfl, ?hy7⟩) (by assumption) ?rest7
      case hy7 => ((intro w hSw; (try dsimp only at hSw); go_simp) <;> with_reducible rfl)
      case' rest7 => try simp only [List.getElem_toArray, List.getElem_cons_zero, List.getElem_cons_succ, Act.put, List.setIfInBounds_toArray, List.set_cons_zero, List.set_cons_succ]
      refine wpAnyH_take (i := 6) (oi := _) (v := ?v8) rfl (by kernel_rfl) (by kernel_rfl) (by kernel_rfl) (fun _ _ _ h => h) (Or.inl ⟨by rfl, ?hy8⟩) (by assumption) ?rest8
      case hy8 => ((intro w hSw; (try dsimp only at hSw); go_simp) <;> with_reducible rfl)
      case' rest8 => try simp only [List.getElem_toArray, List.getElem_cons_zero, List.getElem_cons_succ, Act.put, List.setIfInBounds_toArray, List.set_cons_zero, List.set_cons_succ]
      refine wpAnyH_take (i := 7) (oi := _) (v := ?v9) rfl (by kernel_rfl) (by kernel_rfl) (by kernel_rfl) (fun _ _ _ h => h) (Or.inl ⟨by rfl, ?hy9⟩) (by assumption) ?rest9
      case hy9 => ((intro w hSw; (try dsimp only at hSw); go_simp) <;> with_reducible rfl)
      case' rest9 => try simp only [List.getElem_toArray, List.getElem_cons_zero, List.getElem_cons_succ, Act.put, List.setIfInBounds_toArray, List.set_cons_zero, List.set_cons_succ]
      refine wpAnyH_ready (rs := [8]) (by kernel_rfl) (by simp) ?_
      refine AllReadyH.cons (o := _) rfl (fun K hK => ?_) AllReadyH.nil
      go_simp
      refine (ent_before E (plE ix sub) d.1 none E.df.length d.2 0 0 _).mono ?_
      rintro e w2 ⟨rfl, hb2⟩
      dsimp only
      refine hK.out _ _ ?hS12 (fun hHeld => ?rest12)
      case hS12 => ((try dsimp only); (((try go_split_ands); refine sn_of ?_; repeat' (first | with_reducible assumption | with_reducible exact Below.refl _ _ | with_reducible apply below_alloc | with_reducible apply below_drew1 | with_reducible apply below_drewN | (with_reducible apply below_step; with_reducible assumption) | (with_reducible apply below_sg2; (first | exact Nat.le_refl _ | (simp; done) | omega))))))
      case' rest12 => (clear hK K; try simp only [List.getElem_toArray, List.getElem_cons_zero, List.getElem_cons_succ, Act.put, List.setIfInBounds_toArray, List.set_cons_zero, List.set_cons_succ])
      refine wpAnyH_done (by kernel_rfl) ?_ _
      have hEnd := hHeld.2
      repeat (clear hHeld)
      have hb3 := hbr.trans (hEnd.mono (by have := hbr.size; simpa using this))
      cases hbe : befE E ix sub
      · have hsm : s ≤ m := by
          have := HBE.out
          rw [hbe, ← HSE.out] at this
          simpa using this.symm
        have HB := hide hbe
        have hbe' : beforeB E.ix E.sub (plE ix sub).ix (plE ix sub).sub = false := hbe
        rw [hbe']
        clear hbe hbe' HBE
        go_wp2_with fail
        go_roundw
        case rel => exact ⟨a, m, rfl, rfl, ha, hsm, by omega, hb3⟩
        case measure => simp [intOf]; omega
      · have hsm : m < s := by
          have := HBE.out
          rw [hbe, ← HSE.out] at this
          simpa using this.symm
        have HB := hide hbe
        have hbe' : beforeB E.ix E.sub (plE ix sub).ix (plE ix sub).sub = true := hbe
        rw [hbe']
        clear hbe hbe' HBE
        go_wp2_with fail
        go_roundw
        case rel => exact ⟨m + 1, b, by go_num, rfl, by omega, hb, hbn, hb3⟩
        case measure => simp [intOf]; omega
    · go_wp2_with fail
      go_ret
      refine ⟨ret_int (by omega), hbw.trans (hbr.mono (by omega))⟩
end
end Go.Proofs.Ytabgdfbiocoimaa
