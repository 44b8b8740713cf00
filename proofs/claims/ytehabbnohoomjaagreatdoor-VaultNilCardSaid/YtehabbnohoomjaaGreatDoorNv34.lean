/- Package dict: own, held, there, Len, at, in. -/
import Derived.Test.YtehabbnohoomjaaGreatDoorNv33
import Derived.Test.YtehabbnohoomjaaGreatDoorNv32
import Derived.RegionTactic
import Derived.Deep.RegionHeld3
import Derived.Deep.Light
import Derived.Test.YtehabbnohoomjaaGreatDoorNv09
import Derived.Deep.MidRow
namespace Go.Proofs.YtehabbnohoomjaaGreatDoor
section
set_option linter.unusedVariables false
set_option linter.unusedSimpArgs false
set_option linter.unnecessarySimpa false
section
open Go.RowKit
set_option maxRecDepth 100000
set_option maxHeartbeats 2000000

theorem dict_own (A : Option Addr) (n c : Nat) (l : List UInt8) (w : World) (hn : n = l.length) (hl : n ≤ 35184372088832) (hs : Sl w A (l.map bv)) :
    Calls Tryz.prog 47 #[.slice A n c] w fun e w' => ∃ A' c', e = .returned (.slice A' n c') ∧ OwnB w' w.heap.size A' n c' l ∧ Below w.heap.size w w' := by
  have H1 := hide hn
  clear hn
  go_enter Tryz.func47, Tryz.ntmps47
  go_wp2_with (at_builtin; refine app_b _ rfl _ (.tmp 3) rfl w.heap.size _ _ _ _ rfl (OwnB.nil _ _) _ _ _ l rfl H1.out hs (by omega) (Nat.le_refl _) n (by omega) ?_; intro A3 c3 w3 hown3 _ _ hb3)
  go_ret
  exact ⟨_, _, rfl, by simpa using hown3, hb3⟩
def PtrV (p : Nat) : Value := .pointer (some ⟨p, 0, none⟩)
section
variable {F : Nat → Prop} {p n cl cv : Nat} {Av : Option Addr} {L : List Ent} {V : List (List UInt8)} {ds es : List (Option Addr × Nat)} {gl : Nat}
theorem dict_there (w : World) (hB : Blk w p 102 #[.slice (some ⟨gl, 0, none⟩) n cl, .slice Av n cv]) :
    Calls Tryz.prog 88 #[.pointer (some ⟨p, 0, none⟩)] w fun e w' => e = .returned (.bool true) ∧ w = w' := by
  obtain ⟨hB_c0, hB_c1⟩ := cel2 hB
  have hB_f := hB.frozen
  go_enter Tryz.func88, Tryz.ntmps88
  go_wp2_with fail
  go_ret
  exact ⟨rfl, rfl⟩
theorem dict_len (w : World) (hB : Blk w p 102 #[.slice (some ⟨gl, 0, none⟩) n cl, .slice Av n cv]) :
    Calls Tryz.prog 46 #[.pointer (some ⟨p, 0, none⟩)] w fun e w' => e = .returned (.int .i64 n) ∧ w = w' := by
  have HT := hide (dict_there w hB)
  obtain ⟨hB_c0, hB_c1⟩ := cel2 hB
  have hB_f := hB.frozen
  go_enter Tryz.func46, Tryz.ntmps46
  go_wp2_with fail
  refine HT.out.mono ?_
  rintro e w1 ⟨rfl, rfl⟩
  go_wp2_with fail
  go_ret
  exact ⟨rfl, rfl⟩
theorem dict_at (k : Nat) (ix sub : Int) (w : World) (hD : DB 102 w F p (some ⟨gl, 0, none⟩) n cl Av cv L V ds es) :
    Calls Tryz.prog 118 #[.pointer (some ⟨p, 0, none⟩), .int .i64 k, .int .i64 ix, .int .i64 sub] w fun e w' => e = .returned (.bool (hereB L[k]? ix sub)) ∧ w = w' := by
  have HL := hide (dict_len w hD.blk)
  have hB := hD.blk
  have hn := hD.ents.hn
  by_cases hk : k < n
  · obtain ⟨E, hE⟩ : ∃ E, L[k]? = some E := ⟨L[k]'(by omega), List.getElem?_eq_getElem _⟩
    obtain ⟨g, d, hA, hlt, hd, hO, hfit, c0, c1, c2, c3, c4, c5, c6, c7, c8, c9, c10⟩ := hD.ent hE
    injection hA with hA
    injection hA with hA
    subst hA
    rw [hE]
    clear c2 c3 c4 c5 c6 c7 c8 c9 c10
    clear hn hE hd hO hfit hD hlt
    obtain ⟨hB_c0, hB_c1⟩ := cel2 hB
    have hB_f := hB.frozen
    go_enter Tryz.func118, Tryz.ntmps118
    go_wp2_with fail
    refine HL.out.mono ?_
    rintro e w1 ⟨rfl, rfl⟩
    go_wp2_with fail
    all_goals (go_ret; refine ⟨ret_bool ?_, rfl⟩; go_light; simp_all [hereB]; try (rw [Bool.eq_iff_iff]; simp))
  · have hE : L[k]? = none := List.getElem?_eq_none (by omega)
    rw [hE]
    clear hn hE hD
    obtain ⟨hB_c0, hB_c1⟩ := cel2 hB
    have hB_f := hB.frozen
    go_enter Tryz.func118, Tryz.ntmps118
    go_wp2_with fail
    refine HL.out.mono ?_
    rintro e w1 ⟨rfl, rfl⟩
    go_wp2_with fail
    go_ret
    exact ⟨rfl, rfl⟩
theorem dict_in (k : Int) (ix sub : Int) (w : World) (hD : DB 102 w F p (some ⟨gl, 0, none⟩) n cl Av cv L V ds es) :
    Calls Tryz.prog 119 #[.pointer (some ⟨p, 0, none⟩), .int .i64 k, .int .i64 ix, .int .i64 sub] w fun e w' => e = .returned (.bool (nearZ L k ix)) ∧ w = w' := by
  have HL := hide (dict_len w hD.blk)
  have hB := hD.blk
  have hn := hD.ents.hn
  by_cases hk0 : 0 ≤ k
  · obtain ⟨k, rfl⟩ := Int.eq_ofNat_of_zero_le hk0
    have hR : nearZ L (k : Nat) ix = nearB L[k]? ix := by simp [nearZ]
    rw [hR]
    clear hk0 hR
    by_cases hk : k < n
    · obtain ⟨E, hE⟩ : ∃ E, L[k]? = some E := ⟨L[k]'(by omega), List.getElem?_eq_getElem _⟩
      obtain ⟨g, d, hA, hlt, hd, hO, hfit, c0, c1, c2, c3, c4, c5, c6, c7, c8, c9, c10⟩ := hD.ent hE
      injection hA with hA
      injection hA with hA
      subst hA
      rw [hE]
      clear c1 c2 c3 c4 c5 c6 c7 c8 c9 c10
      clear hn hE hd hO hfit hD hlt
      obtain ⟨hB_c0, hB_c1⟩ := cel2 hB
      have hB_f := hB.frozen
      go_enter Tryz.func119, Tryz.ntmps119
      go_wp2_with fail
      refine HL.out.mono ?_
      rintro e w1 ⟨rfl, rfl⟩
      go_wp2_with fail
      go_ret
      refine ⟨ret_bool ?_, rfl⟩
      go_light
      simp_all [nearB]
      try rfl
    · have hE : L[k]? = none := List.getElem?_eq_none (by omega)
      rw [hE]
      clear hn hE hD
      obtain ⟨hB_c0, hB_c1⟩ := cel2 hB
      have hB_f := hB.frozen
      go_enter Tryz.func119, Tryz.ntmps119
      go_wp2_with fail
      refine HL.out.mono ?_
      rintro e w1 ⟨rfl, rfl⟩
      go_wp2_with fail
      go_ret
      exact ⟨rfl, rfl⟩
  · have hR : nearZ L k ix = false := by simp [nearZ]; intro h; omega
    rw [hR]
    have hk' : k < 0 := by omega
    clear hn hD hk0 hR
    obtain ⟨hB_c0, hB_c1⟩ := cel2 hB
    have hB_f := hB.frozen
    go_enter Tryz.func119, Tryz.ntmps119
    go_wp2_with fail
    go_ret
    exact ⟨rfl, rfl⟩
end
end
section
open Go.RowKit
set_option maxRecDepth 100000
set_option maxHeartbeats 2000000
def plE (ix sub : Int) : Ent := ⟨ix, sub, ⟨#[]⟩, 0, 0, false, false, 0, 0, 0, []⟩
section
variable {F : Nat → Prop} {p n cl cv : Nat} {Av : Option Addr} {L : List Ent} {V : List (List UInt8)} {ds es : List (Option Addr × Nat)} {gl : Nat}
theorem dict_seek (ix sub : Int) (w : World) (hD : DB 102 w F p (some ⟨gl, 0, none⟩) n cl Av cv L V ds es) (hs : SortedE L) (hn : n ≤ 1000) :
    Calls Tryz.prog 117 #[.pointer (some ⟨p, 0, none⟩), .int .i64 ix, .int .i64 sub] w fun e w' => e = .returned (.int .i64 (seekL L ix sub)) ∧ Below w.heap.size w w' := by
  have HS := hide hs
  have HN := hide hD.ents.hn
  obtain ⟨s, hse⟩ : ∃ s, s = seekL L ix sub := ⟨_, rfl⟩
  have hsl : s ≤ n := by rw [hse, HN.out]; exact seek_le L ix sub
  rw [← hse]
  have HSE := hide hse
  clear hse hs
  have hB1 := hD.blk.alloc (.cells (entV (plE ix sub) none 0 0) 55)
  have hbw := below_alloc (Below.refl w.heap.size w) (.cells (entV (plE ix sub) none 0 0) 55)
  have q := blk_one w 55 (entV (plE ix sub) none 0 0)
  go_enter Tryz.func117, Tryz.ntmps117
  go_wp2_with fail
  refine (dict_len _ hB1).mono ?_
  rintro e w1 ⟨rfl, rfl⟩
  go_wp2_with fail
  go_loopw [8, 9] (fun lo hi wr => ∃ a b, lo = .int .i64 (a : Nat) ∧ hi = .int .i64 (b : Nat) ∧ a ≤ s ∧ s ≤ b ∧ b ≤ n ∧ Below (w.heap.size + 1) (w.alloc (.cells (entV (plE ix sub) none 0 0) 55)) wr) (fun lo hi _ => (intOf hi).toNat - (intOf lo).toNat)
  case atStart => exact ⟨0, n, rfl, rfl, by omega, hsl, Nat.le_refl _, Below.refl _ _⟩
  case round =>
    obtain ⟨a, b, rfl, rfl, ha, hb, hbn, hbr⟩ := hrel
    by_cases hlt : a < b
    · obtain ⟨m, hm⟩ : ∃ m, m = (a + b) / 2 := ⟨_, rfl⟩
      have h2 : ((a : Int) + (b : Int)) / 2 = (m : Int) := by omega
      have hm1 : m < n := by omega
      have hm2 : a ≤ m ∧ m < b := by omega
      obtain ⟨hm3, hm4⟩ := hm2
      have HM := hide hm
      clear hm
      have hbw1 := hbw.trans (hbr.mono (Nat.le_succ _))
      have hDr := hD.below hbw1
      obtain ⟨E, hE⟩ : ∃ E, L[m]? = some E := ⟨L[m]'(by rw [← HN.out]; exact hm1), List.getElem?_eq_getElem _⟩
      have HBE := hide (seek_half L ix sub HS.out m E hE)
      obtain ⟨g, d, hA, zg, _, _, _, c0, c1, c2, c3, c4, c5, c6, c7, c8, c9, c10⟩ := hDr.ent hE
      injection hA with hA
      injection hA with hA
      subst hA
      have hBr := hDr.blk
      have zp := hBr.lt
      have q1 := q.below hbr (Nat.lt_succ_self _)
      have zq := q1.lt
      have hidx := idx_at hm1
      obtain ⟨i1, i2, i3⟩ := hidx
      unfold entV plE at q1
      simp only [] at q1
      obtain ⟨q1_c0, q1_c1, q1_c2, q1_c3, q1_c4, q1_c5, q1_c6, q1_c7, q1_c8, q1_c9, q1_c10⟩ := cel11 q1
      have q1_f := q1.frozen
      obtain ⟨hBr_c0, hBr_c1⟩ := cel2 hBr
      have hBr_f := hBr.frozen
      clear hE hDr
      go_wp2_with fail
      refine wp_region_held_drew (S := (fun w' => (∀ qA : Addr, qA.block < (wr).heap.size → w'.cell? qA = (wr).cell? qA) ∧ Below (wr).heap.size (wr) w')) (by kernel_rfl) ?hS1 (fun hHeld => ?rest1)
      case hS1 => ((try dsimp only); (((try go_split_ands); refine sn_of ?_; repeat' (first | with_reducible assumption | with_reducible exact Below.refl _ _ | with_reducible apply below_alloc | with_reducible apply below_drew1 | with_reducible apply below_drewN | (with_reducible apply below_step; with_reducible assumption) | (with_reducible apply below_sg2; (first | exact Nat.le_refl _ | (simp; done) | omega))))))
      case' rest1 => skip
      refine wpAnyH_take (i := 0) (oi := _) (v := ?v2) rfl (by kernel_rfl) (by kernel_rfl) (by kernel_rfl) (fun _ _ _ h => h) (Or.inl ⟨by rfl, ?hy2⟩) (by assumption) ?rest2
      case hy2 => ((intro w hSw; (try dsimp only at hSw); go_simp) <;> with_reducible rfl)
      case' rest2 => try simp only [List.getElem_toArray, List.getElem_cons_zero, List.getElem_cons_succ, Act.put, List.setIfInBounds_toArray, List.set_cons_zero, List.set_cons_succ]
      refine wpAnyH_take (i := 1) (oi := _) (v := ?v3) rfl (by kernel_rfl) (by kernel_rfl) (by kernel_rfl) (fun _ _ _ h => h) (Or.inl ⟨by rfl, ?hy3⟩) (by assumption) ?rest3
      case hy3 => ((intro w hSw; (try dsimp only at hSw); go_simp) <;> with_reducible rfl)
      case' rest3 => try simp only [List.getElem_toArray, List.getElem_cons_zero, List.getElem_cons_succ, Act.put, List.setIfInBounds_toArray, List.set_cons_zero, List.set_cons_succ]
      refine wpAnyH_take (i := 2) (oi := _) (v := ?v4) rfl (by kernel_rfl) (by kernel_rfl) (by kernel_rfl) (fun _ _ _ h => h) (Or.inl ⟨by rfl, ?hy4⟩) (by assumption) ?rest4
      case hy4 => ((intro w hSw; (try dsimp only at hSw); go_simp) <;> with_reducible rfl)
      case' rest4 => try simp only [List.getElem_toArray, List.getElem_cons_zero, List.getElem_cons_succ, Act.put, List.setIfInBounds_toArray, List.set_cons_zero, List.set_cons_succ]
      refine wpAnyH_take (i := 3) (oi := _) (v := ?v5) rfl (by kernel_rfl) (by kernel_rfl) (by kernel_rfl) (fun _ _ _ h => h) (Or.inl ⟨by rfl, ?hy5⟩) (by assumption) ?rest5
      case hy5 => ((intro w hSw; (try dsimp only at hSw); go_simp) <;> with_reducible rfl)
      case' rest5 => try simp only [List.getElem_toArray, List.getElem_cons_zero, List.getElem_cons_succ, Act.put, List.setIfInBounds_toArray, List.set_cons_zero, List.set_cons_succ]
      refine wpAnyH_take (i := 4) (oi := _) (v := ?v6) rfl (by kernel_rfl) (by kernel_rfl) (by kernel_rfl) (fun _ _ _ h => h) (Or.inl ⟨by rfl, ?hy6⟩) (by assumption) ?rest6
      case hy6 => ((intro w hSw; (try dsimp only at hSw); go_simp) <;> with_reducible rfl)
      case' rest6 => try simp only [List.getElem_toArray, List.getElem_cons_zero, List.getElem_cons_succ, Act.put, List.setIfInBounds_toArray, List.set_cons_zero, List.set_cons_succ]
      refine wpAnyH_take (i := 5) (oi := _) (v := ?v7) rfl (by kernel_rfl) (by kernel_rfl) (by kernel_rfl) (fun _ _ _ h => h) (Or.inl ⟨by rfl, ?hy7⟩) (by assumption) ?rest7
      case hy7 => ((intro w hSw; (try dsimp only at hSw); go_simp) <;> with_reducible rfl)
      case' rest7 => try simp only [List.getElem_toArray, List.getElem_cons_zero, List.getElem_cons_succ, Act.put, List.setIfInBounds_toArray, List.set_cons_zero, List.set_cons_succ]
      refine wpAnyH_take (i := 6) (oi := _) (v := ?v8) rfl (by kernel_rfl) (by kernel_rfl) (by kernel_rfl) (fun _ _ _ h => h) (Or.inl ⟨by rfl, ?hy8⟩) (by assumption) ?rest8
      case hy8 => ((intro w hSw; (try dsimp only at hSw); go_simp) <;> with_reducible rfl)
      case' rest8 => try simp only [List.getElem_toArray, List.getElem_cons_zero, List.getElem_cons_succ, Act.put, List.setIfInBounds_toArray, List.set_cons_zero, List.set_cons_succ]
      refine wpAnyH_take (i := 7) (oi := _) (v := ?v9) rfl (by kernel_rfl) (by kernel_rfl) (by kernel_rfl) (fun _ _ _ h => h) (Or.inl ⟨by rfl, ?hy9⟩) (by assumption) ?rest9
      case hy9 => ((intro w hSw; (try dsimp only at hSw); go_simp) <;> with_reducible rfl)
      case' rest9 => try simp only [List.getElem_toArray, List.getElem_cons_zero, List.getElem_cons_succ, Act.put, List.setIfInBounds_toArray, List.set_cons_zero, List.set_cons_succ]
      refine wpAnyH_ready (rs := [8]) (by kernel_rfl) (by simp) ?_
      refine AllReadyH.cons (o := _) rfl (fun K hK => ?_) AllReadyH.nil
      go_simp
      refine (ent_before E (plE ix sub) d.1 none E.df.length d.2 0 0 _).mono ?_
      rintro e w2 ⟨rfl, hb2⟩
      dsimp only
      refine hK.out _ _ ?hS12 (fun hHeld => ?rest12)
      case hS12 => ((try dsimp only); (((try go_split_ands); refine sn_of ?_; repeat' (first | with_reducible assumption | with_reducible exact Below.refl _ _ | with_reducible apply below_alloc | with_reducible apply below_drew1 | with_reducible apply below_drewN | (with_reducible apply below_step; with_reducible assumption) | (with_reducible apply below_sg2; (first | exact Nat.le_refl _ | (simp; done) | omega))))))
      case' rest12 => (clear hK K; try simp only [List.getElem_toArray, List.getElem_cons_zero, List.getElem_cons_succ, Act.put, List.setIfInBounds_toArray, List.set_cons_zero, List.set_cons_succ])
      refine wpAnyH_done (by kernel_rfl) ?_ _
      have hEnd := hHeld.2
      repeat (clear hHeld)
      have hb3 := hbr.trans (hEnd.mono (by have := hbr.size; simpa using this))
      cases hbe : befE E ix sub
      · have hsm : s ≤ m := by
          have := HBE.out
          rw [hbe, ← HSE.out] at this
          simpa using this.symm
        have HB := hide hbe
        have hbe' : beforeB E.ix E.sub (plE ix sub).ix (plE ix sub).sub = false := hbe
        rw [hbe']
        clear hbe hbe' HBE
        go_wp2_with fail
        go_roundw
        case rel => exact ⟨a, m, rfl, rfl, ha, hsm, by omega, hb3⟩
        case measure => simp [intOf]; omega
      · have hsm : m < s := by
          have := HBE.out
          rw [hbe, ← HSE.out] at this
          simpa using this.symm
        have HB := hide hbe
        have hbe' : beforeB E.ix E.sub (plE ix sub).ix (plE ix sub).sub = true := hbe
        rw [hbe']
        clear hbe hbe' HBE
        go_wp2_with fail
        go_roundw
        case rel => exact ⟨m + 1, b, by go_num, rfl, by omega, hb, hbn, hb3⟩
        case measure => simp [intOf]; omega
    · go_wp2_with fail
      go_ret
      refine ⟨ret_int (by omega), hbw.trans (hbr.mono (by omega))⟩
end
end
section
open Go.RowKit
set_option maxRecDepth 100000
set_option maxHeartbeats 2000000
section
variable {F : Nat → Prop} {p n cl cv : Nat} {Av : Option Addr} {L : List Ent} {V : List (List UInt8)} {ds es : List (Option Addr × Nat)} {gl : Nat}
theorem dict_find (ix sub : Int) (w : World) (hD : DB 102 w F p (some ⟨gl, 0, none⟩) n cl Av cv L V ds es) (hs : SortedE L) (hn : n ≤ 1000) :
    Calls Tryz.prog 84 #[.pointer (some ⟨p, 0, none⟩), .int .i64 ix, .int .i64 sub] w fun e w' => e = .returned (.tuple #[.int .i64 (locK L ix sub), .bool (hasL L ix sub)]) ∧ Below w.heap.size w w' := by
  have HC := hide (find_cases L ix sub hs)
  have HS := hide hs
  have HD := hide hD
  clear hs hD
  go_enter Tryz.func84, Tryz.ntmps84
  go_wp2_with fail
  refine (dict_seek ix sub _ HD.out HS.out hn).mono ?_
  rintro e w1 ⟨rfl, hb1⟩
  go_wp2_with fail
  refine (dict_at _ ix sub _ (HD.out.below hb1)).mono ?_
  rintro e w2 ⟨rfl, rfl⟩
  cases h : hereB L[seekL L ix sub]? ix sub
  · have HF : Hid (locK L ix sub = 0 ∧ hasL L ix sub = false) := hide (by
      have := HC.out
      rw [h] at this
      unfold locK hasL
      rcases this with ⟨h1, _⟩ | ⟨_, _, h1⟩ | ⟨_, _, _, h1⟩ | ⟨_, _, _, h1⟩
      · cases h1
      all_goals (rw [h1]; exact ⟨rfl, rfl⟩))
    clear h
    go_wp2_with fail
    go_ret2
    refine ⟨?_, hb1⟩
    rw [HF.out.1, HF.out.2]
    rfl
  · have HF : Hid (locK L ix sub = seekL L ix sub ∧ hasL L ix sub = true) := hide (by
      have := HC.out
      rw [h] at this
      unfold locK hasL
      rcases this with ⟨_, h1, _⟩ | ⟨h1, _⟩ | ⟨h1, _⟩ | ⟨h1, _⟩
      · rw [h1]; exact ⟨rfl, by simp⟩
      all_goals cases h1)
    clear h
    go_wp2_with fail
    go_ret2
    refine ⟨?_, hb1⟩
    rw [HF.out.1, HF.out.2]
    rfl
theorem dict_locate (ix sub : Int) (w : World) (hD : DB 102 w F p (some ⟨gl, 0, none⟩) n cl Av cv L V ds es) (hs : SortedE L) (hn : n ≤ 1000) :
    Calls Tryz.prog 76 #[.pointer (some ⟨p, 0, none⟩), .int .i64 ix, .int .i64 sub] w fun e w' => e = .returned (.tuple #[.int .i64 (locK L ix sub), .int .u32 (codeL L ix sub)]) ∧ Below w.heap.size w w' := by
  have HC := find_cases L ix sub hs
  have HS := hide hs
  have HD := hide hD
  have HL : seekL L ix sub ≤ n := by rw [hD.ents.hn]; exact seek_le L ix sub
  clear hs hD
  go_enter Tryz.func76, Tryz.ntmps76
  go_wp2_with fail
  refine (dict_there _ HD.out.blk).mono ?_
  rintro e w1 ⟨rfl, rfl⟩
  go_wp2_with fail
  refine (dict_seek ix sub _ HD.out HS.out hn).mono ?_
  rintro e w1 ⟨rfl, hb1⟩
  have HD1 := hide (HD.out.below hb1)
  rcases HC with ⟨h1, h2, h3⟩ | ⟨h1, h2, h3⟩ | ⟨h1, h2, h3, h4⟩ | ⟨h1, h2, h3, h4⟩
  · have HF : Hid (locK L ix sub = seekL L ix sub ∧ codeL L ix sub = 0) := hide (by unfold locK codeL; rw [h2]; exact ⟨rfl, if_pos (by omega)⟩)
    have H1 := hide h1
    clear h1 h2 h3
    go_wp2_with fail
    refine (dict_at _ ix sub _ HD1.out).mono ?_
    rintro e w2 ⟨rfl, rfl⟩
    rw [H1.out]
    go_wp2_with fail
    go_ret2
    refine ⟨?_, hb1⟩
    rw [HF.out.1, HF.out.2]
    rfl
  · have HF : Hid (locK L ix sub = 0 ∧ codeL L ix sub = 101253137) := hide (by unfold locK codeL; rw [h3]; exact ⟨rfl, rfl⟩)
    have H1 := hide h1
    have H2 := hide h2
    clear h1 h2 h3
    go_wp2_with fail
    refine (dict_at _ ix sub _ HD1.out).mono ?_
    rintro e w2 ⟨rfl, rfl⟩
    rw [H1.out]
    go_wp2_with fail
    refine (dict_in _ ix sub _ HD1.out).mono ?_
    rintro e w2 ⟨rfl, rfl⟩
    rw [H2.out]
    go_wp2_with fail
    go_ret2
    refine ⟨?_, hb1⟩
    rw [HF.out.1, HF.out.2]
    rfl
  · have HF : Hid (locK L ix sub = 0 ∧ codeL L ix sub = 101253137) := hide (by unfold locK codeL; rw [h4]; exact ⟨rfl, rfl⟩)
    have H1 := hide h1
    have H2 := hide h2
    have H3 := hide h3
    clear h1 h2 h3 h4
    go_wp2_with fail
    refine (dict_at _ ix sub _ HD1.out).mono ?_
    rintro e w2 ⟨rfl, rfl⟩
    rw [H1.out]
    go_wp2_with fail
    refine (dict_in _ ix sub _ HD1.out).mono ?_
    rintro e w2 ⟨rfl, rfl⟩
    rw [H2.out]
    go_wp2_with fail
    refine (dict_in _ ix sub _ HD1.out).mono ?_
    rintro e w2 ⟨rfl, rfl⟩
    rw [H3.out]
    go_wp2_with fail
    go_ret2
    refine ⟨?_, hb1⟩
    rw [HF.out.1, HF.out.2]
    rfl
  · have HF : Hid (locK L ix sub = 0 ∧ codeL L ix sub = 100794368) := hide (by unfold locK codeL; rw [h4]; exact ⟨rfl, rfl⟩)
    have H1 := hide h1
    have H2 := hide h2
    have H3 := hide h3
    clear h1 h2 h3 h4
    go_wp2_with fail
    refine (dict_at _ ix sub _ HD1.out).mono ?_
    rintro e w2 ⟨rfl, rfl⟩
    rw [H1.out]
    go_wp2_with fail
    refine (dict_in _ ix sub _ HD1.out).mono ?_
    rintro e w2 ⟨rfl, rfl⟩
    rw [H2.out]
    go_wp2_with fail
    refine (dict_in _ ix sub _ HD1.out).mono ?_
    rintro e w2 ⟨rfl, rfl⟩
    rw [H3.out]
    go_wp2_with fail
    go_ret2
    refine ⟨?_, hb1⟩
    rw [HF.out.1, HF.out.2]
    rfl
end
end
end
end Go.Proofs.YtehabbnohoomjaaGreatDoor
namespace Go.Proofs.YtehabbnohoomjaaGreatDoor
section
set_option linter.unusedVariables false
set_option linter.unusedSimpArgs false
set_option linter.unnecessarySimpa false
open Go.RowKit
set_option maxRecDepth 100000
set_option maxHeartbeats 1000000

/-- all cells of a block stored anew -/
theorem Blk.setAll {w : World} {g : Nat} {t : TypeId} (vs : List Value) : ∀ (pre : List Value) (cs : Array Value), cs.size = pre.length + vs.length → (∀ i, i < pre.length → cs[i]? = pre[i]?) → Blk w g t cs → Blk (w.setCells g pre.length vs) g t (pre ++ vs).toArray := by
  induction vs generalizing w with
  | nil =>
    intro pre cs hs hp hB
    have : cs = (pre ++ []).toArray := by
      apply Array.ext_getElem?
      intro i
      by_cases hi : i < pre.length
      · rw [hp i hi]; simp
      · rw [Array.getElem?_eq_none (by simp at hs; omega)]; simp; omega
    rw [← this]
    exact hB
  | cons v vs ih =>
    intro pre cs hs hp hB
    have h := ih (w := w.setCell ⟨g, pre.length, none⟩ v) (pre ++ [v]) (cs.setIfInBounds pre.length v) (by simp at hs ⊢; omega) (by
      intro i hi
      rw [Array.getElem?_setIfInBounds]
      simp at hi
      by_cases he : pre.length = i
      · subst he
        rw [if_pos rfl, if_pos (by simp at hs; omega)]
        simp
      · rw [if_neg he, hp i (by omega), List.getElem?_append_left (by omega)]) (hB.set_ _ _)
    simp only [List.length_append, List.length_cons, List.length_nil, Nat.zero_add, List.append_assoc, List.singleton_append] at h
    exact h
theorem Blk.all {w : World} {g : Nat} {t : TypeId} {cs : Array Value} (hB : Blk w g t cs) (vs : List Value) (hs : vs.length = cs.size) : Blk (w.setCells g 0 vs) g t vs.toArray := by
  have := Blk.setAll vs [] cs (by simpa using hs.symm) (by intro i hi; simp at hi) hB
  simpa using this
end
end Go.Proofs.YtehabbnohoomjaaGreatDoor
