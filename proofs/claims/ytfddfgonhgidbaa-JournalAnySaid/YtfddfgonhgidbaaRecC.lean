/- The reference's record: Build. -/
import Derived.Test.YtfddfgonhgidbaaRecB
import Derived.Lib.SlBytesConst
namespace Go.Proofs.Ytfddfgonhgidbaa
set_option linter.unusedVariables false
set_option linter.unusedSimpArgs false
set_option linter.unnecessarySimpa false
open Go.RowKit
set_option maxRecDepth 20000
set_option maxHeartbeats 1000000
attribute [local go_sem ↓] Go.wp_at_zero Go.wp_at_succ

/-- what '[]byte(..)' of a constant string does behind the draw: the row gets a mark behind its last cell -/
theorem conv_const (w : World) (C : Array Value) (n c : Nat) : (convert 22 22 (.slice (some ⟨w.heap.size, 0, none⟩) n c)).run Try.prog (w.alloc (.cells C 5)).drew = .ok (.slice (some ⟨w.heap.size, 0, none⟩) n c) (w.alloc (.cells C 5 (C.size, C.size + 1))).drew :=
  Lib.run_convert_bytes_const (P := Try.prog) w.drew 22 5 C n c Try.underlying22 Try.underlying5
theorem Sl.mark (w : World) (x : Value) (t : TypeId) (f : Nat × Nat) : Sl (w.alloc (.cells #[x] t f)).drew (some ⟨w.heap.size, 0, none⟩) [x] := by
  intro j u hu
  obtain ⟨hj, rfl⟩ := List.getElem?_eq_some_iff.1 hu
  obtain rfl : j = 0 := by simp at hj; omega
  refine ⟨_, rfl, ?_⟩
  have hh : ((w.alloc (.cells #[x] t f)).drew).heap[w.heap.size]? = some (.cells #[x] t f) := heap_alloc_new w _
  simp only [World.cell?, Addr.add, if_true]
  rw [hh]
  rfl
theorem rput07 (A : Option Addr) (n c x : Nat) (wd : Int) (l : List UInt8) (w : World) (hn : n = l.length) (hl : n ≤ 100) (hs : Sl w A (l.map bv)) (h1 : 1 ≤ wd) (h8 : wd ≤ 8) (hx : x < 256 ^ wd.toNat) (hu : U64 x) :
    Calls Try.prog 81 #[.slice A n c, .int .i64 wd, .int .u64 (x : Nat)] w fun e w' => ∃ A' n' c', e = .returned (.slice A' n' c') ∧ OwnB w' w.heap.size A' n' c' (l ++ leB wd.toNat x) ∧ Below w.heap.size w w' := by
  have HP := hide (rput_ok A n c l wd x w hu h1 h8 hx hn (by omega) hs)
  clear hn hx
  go_enter Try.func81, Try.ntmps81
  go_wp2_with fail
  refine HP.out.mono ?_
  rintro e w1 ⟨A1, n1, c1, rfl, hO1, hb1⟩
  go_wp2_with fail
  go_ret
  exact ⟨A1, n1, c1, rfl, hO1, hb1⟩

theorem rrec_build (A : Option Addr) (kind : Int) (num n c : Nat) (l : List UInt8) (w : World) (hn : n = l.length) (hs : Sl w A (l.map bv)) (hu : U32 num) :
    Calls Try.prog 41 #[.agg #[.int .i64 kind, .int .u32 (num : Nat), .slice A n c]] w fun e w' => ∃ A' n' c', e = .returned (.tuple #[.slice A' n' c', .int .i64 (rightR kind num n)]) ∧ OwnB w' w.heap.size A' n' c' (recB kind num l) ∧ Below w.heap.size w w' := by
  obtain ⟨er, her⟩ : ∃ er, er = rightR kind num n := ⟨_, rfl⟩
  have HR := hide (fun W => rright A kind num n c W)
  rw [← her] at HR ⊢
  by_cases h0 : er = 0
  · obtain ⟨k1, k2, k3, k4, k5⟩ := right_ok kind num n (by rw [← her]; exact h0)
    obtain ⟨k, rfl⟩ := Int.eq_ofNat_of_zero_le (show 0 ≤ kind by omega)
    have HB := hide (recB_yes k num n l hn (by rw [← her]; exact h0))
    subst h0
    have hu' : num ≤ 4294967295 := by unfold U32 at hu; omega
    have HP1 := hide (show ∀ A W, Sl W A (([87] : List UInt8).map bv) → _ from fun A W h => rput07 A 1 1 k 1 [87] W rfl (by decide) h (by omega) (by omega) (by rw [p1]; omega) (.small (by omega)))
    have HP2 := hide (show ∀ A n c l W, n = l.length → n ≤ 100 → Sl W A (l.map bv) → _ from fun A n c l W hn hl h => rput07 A n c num 4 l W hn hl h (by omega) (by omega) (by rw [p4]; omega) (.small (by omega)))
    have HP3 := hide (show ∀ A m c l W, m = l.length → m ≤ 100 → Sl W A (l.map bv) → _ from fun A m c l W hn hl h => rput07 A m c n 2 l W hn hl h (by omega) (by omega) (by rw [p2]; omega) (.small (by omega)))
    have HN := hide hn
    clear hn her k4 k5
    have i1 : IntKind.u64.wrap (k : Int) = k := u64_wrap (.small (by omega))
    have i2 : IntKind.u64.wrap (num : Int) = num := u64_wrap (.small (by omega))
    have i3 : IntKind.u64.wrap (n : Int) = n := u64_wrap (.small (by omega))
    go_enter Try.func41, Try.ntmps41
    go_wp2_with fail
    refine (HR.out _).mono ?_
    rintro e w1 ⟨rfl, hb1⟩
    have hbx := (blk_one _ _ _).below hb1 (by simp)
    have b0 := hbx.cell 0 rfl
    have b1 := hbx.cell 1 rfl
    have b2 := hbx.cell 2 rfl
    have z0 := hbx.lt
    have hbw1 := below_step hb1 (below_alloc (Below.refl w.heap.size w) _)
    go_wp2_with fail
    have kcv := conv_const w1
    refine wp_region_held_drew (S := (fun w' => (∀ qA : Addr, qA.block < (w1).heap.size → w'.cell? qA = (w1).cell? qA) ∧ Below (w1).heap.size (w1) w')) (by kernel_rfl) ?hS1 (fun hHeld => ?rest1)
    case hS1 => ((try dsimp only); (((try go_split_ands); refine sn_of ?_; repeat' (first | with_reducible assumption | with_reducible exact Below.refl _ _ | with_reducible apply below_alloc | with_reducible apply below_drew1 | with_reducible apply below_drewN | (with_reducible apply below_step; with_reducible assumption) | (with_reducible apply below_sg2; (first | exact Nat.le_refl _ | (simp; done) | omega))))))
    case' rest1 => skip
    refine wpAnyH_take (i := 2) (oi := _) (v := ?v2) rfl (by kernel_rfl) (by kernel_rfl) (by kernel_rfl) (fun _ _ _ h => h) (Or.inl ⟨by rfl, ?hy2⟩) (by assumption) ?rest2
    case hy2 => ((intro w hSw; (try dsimp only at hSw); go_simp) <;> with_reducible rfl)
    case' rest2 => try simp only [List.getElem_toArray, List.getElem_cons_zero, List.getElem_cons_succ, Act.put, List.setIfInBounds_toArray, List.set_cons_zero, List.set_cons_succ]
    refine wpAnyH_take (i := 3) (oi := _) (v := ?v3) rfl (by kernel_rfl) (by kernel_rfl) (by kernel_rfl) (fun _ _ _ h => h) (Or.inl ⟨by rfl, ?hy3⟩) (by assumption) ?rest3
    case hy3 => ((intro w hSw; (try dsimp only at hSw); go_simp) <;> with_reducible rfl)
    case' rest3 => try simp only [List.getElem_toArray, List.getElem_cons_zero, List.getElem_cons_succ, Act.put, List.setIfInBounds_toArray, List.set_cons_zero, List.set_cons_succ]
    refine wpAnyH_take (i := 4) (oi := _) (v := ?v4) rfl (by kernel_rfl) (by kernel_rfl) (by kernel_rfl) (fun _ _ _ h => h) (Or.inl ⟨by rfl, ?hy4⟩) (by assumption) ?rest4
    case hy4 => ((intro w hSw; (try dsimp only at hSw); go_simp) <;> with_reducible rfl)
    case' rest4 => try simp only [List.getElem_toArray, List.getElem_cons_zero, List.getElem_cons_succ, Act.put, List.setIfInBounds_toArray, List.set_cons_zero, List.set_cons_succ]
    refine wpAnyH_take (i := 6) (oi := _) (v := ?v5) rfl (by kernel_rfl) (by kernel_rfl) (by kernel_rfl) (fun _ _ _ h => h) (Or.inl ⟨by rfl, ?hy5⟩) (by assumption) ?rest5
    case hy5 => ((intro w hSw; (try dsimp only at hSw); go_simp) <;> with_reducible rfl)
    case' rest5 => try simp only [List.getElem_toArray, List.getElem_cons_zero, List.getElem_cons_succ, Act.put, List.setIfInBounds_toArray, List.set_cons_zero, List.set_cons_succ]
    refine wpAnyH_take (i := 7) (oi := _) (v := ?v6) rfl (by kernel_rfl) (by kernel_rfl) (by kernel_rfl) (fun _ _ _ h => h) (Or.inl ⟨by rfl, ?hy6⟩) (by assumption) ?rest6
    case hy6 => ((intro w hSw; (try dsimp only at hSw); go_simp) <;> with_reducible rfl)
    case' rest6 => try simp only [List.getElem_toArray, List.getElem_cons_zero, List.getElem_cons_succ, Act.put, List.setIfInBounds_toArray, List.set_cons_zero, List.set_cons_succ]
    refine wpAnyH_take (i := 8) (oi := _) (v := ?v7) rfl (by kernel_rfl) (by kernel_rfl) (by kernel_rfl) (fun _ _ _ h => h) (Or.inl ⟨by rfl, ?hy7⟩) (by assumption) ?rest7
    case hy7 => ((intro w hSw; (try dsimp only at hSw); go_simp) <;> with_reducible rfl)
    case' rest7 => try simp only [List.getElem_toArray, List.getElem_cons_zero, List.getElem_cons_succ, Act.put, List.setIfInBounds_toArray, List.set_cons_zero, List.set_cons_succ]
    refine wpAnyH_take (i := 10) (oi := _) (v := ?v8) rfl (by kernel_rfl) (by kernel_rfl) (by kernel_rfl) (fun _ _ _ h => h) (Or.inl ⟨by rfl, ?hy8⟩) (by assumption) ?rest8
    case hy8 => ((intro w hSw; (try dsimp only at hSw); go_simp) <;> with_reducible rfl)
    case' rest8 => try simp only [List.getElem_toArray, List.getElem_cons_zero, List.getElem_cons_succ, Act.put, List.setIfInBounds_toArray, List.set_cons_zero, List.set_cons_succ]
    refine wpAnyH_take (i := 11) (oi := _) (v := ?v9) rfl (by kernel_rfl) (by kernel_rfl) (by kernel_rfl) (fun _ _ _ h => h) (Or.inl ⟨by rfl, ?hy9⟩) (by assumption) ?rest9
    case hy9 => ((intro w hSw; (try dsimp only at hSw); go_simp) <;> with_reducible rfl)
    case' rest9 => try simp only [List.getElem_toArray, List.getElem_cons_zero, List.getElem_cons_succ, Act.put, List.setIfInBounds_toArray, List.set_cons_zero, List.set_cons_succ]
    refine wpAnyH_take (i := 12) (oi := _) (v := ?v10) rfl (by kernel_rfl) (by kernel_rfl) (by kernel_rfl) (fun _ _ _ h => h) (Or.inl ⟨by rfl, ?hy10⟩) (by assumption) ?rest10
    case hy10 => ((intro w hSw; (try dsimp only at hSw); go_simp) <;> with_reducible rfl)
    case' rest10 => try simp only [List.getElem_toArray, List.getElem_cons_zero, List.getElem_cons_succ, Act.put, List.setIfInBounds_toArray, List.set_cons_zero, List.set_cons_succ]
    refine wpAnyH_take (i := 13) (oi := _) (v := ?v11) rfl (by kernel_rfl) (by kernel_rfl) (by kernel_rfl) (fun _ _ _ h => h) (Or.inl ⟨by rfl, ?hy11⟩) (by assumption) ?rest11
    case hy11 => ((intro w hSw; (try dsimp only at hSw); go_simp) <;> with_reducible rfl)
    case' rest11 => try simp only [List.getElem_toArray, List.getElem_cons_zero, List.getElem_cons_succ, Act.put, List.setIfInBounds_toArray, List.set_cons_zero, List.set_cons_succ]
    refine wpAnyH_ready (rs := [0]) (by kernel_rfl) (by simp) ?_
    refine AllReadyH.cons (o := _) rfl (fun K hK => ?_) AllReadyH.nil
    go_simp
    refine hK.out _ _ ?hS14 (fun hHeld => ?rest14)
    case hS14 => ((try dsimp only); (((try go_split_ands); refine sn_of ?_; repeat' (first | with_reducible assumption | with_reducible exact Below.refl _ _ | with_reducible apply below_alloc | with_reducible apply below_drew1 | with_reducible apply below_drewN | (with_reducible apply below_step; with_reducible assumption) | (with_reducible apply below_sg2; (first | exact Nat.le_refl _ | (simp; done) | omega))))))
    case' rest14 => (clear hK K; try simp only [List.getElem_toArray, List.getElem_cons_zero, List.getElem_cons_succ, Act.put, List.setIfInBounds_toArray, List.set_cons_zero, List.set_cons_succ])
    refine wpAnyH_ready (rs := [1]) (by kernel_rfl) (by simp) ?_
    refine AllReadyH.cons (o := _) rfl (fun K hK => ?_) AllReadyH.nil
    go_simp
    refine hK.out _ _ ?hS17 (fun hHeld => ?rest17)
    case hS17 => ((try dsimp only); (((try go_split_ands); refine sn_of ?_; repeat' (first | with_reducible assumption | with_reducible exact Below.refl _ _ | with_reducible apply below_alloc | with_reducible apply below_drew1 | with_reducible apply below_drewN | (with_reducible apply below_step; with_reducible assumption) | (with_reducible apply below_sg2; (first | exact Nat.le_refl _ | (simp; done) | omega))))))
    case' rest17 => (clear hK K; try simp only [List.getElem_toArray, List.getElem_cons_zero, List.getElem_cons_succ, Act.put, List.setIfInBounds_toArray, List.set_cons_zero, List.set_cons_succ])
    refine wpAnyH_ready (rs := [5]) (by kernel_rfl) (by simp) ?_
    refine AllReadyH.cons (o := _) rfl (fun K hK => ?_) AllReadyH.nil
    go_simp
    refine (HP1.out _ _ (by exact Sl.mark _ _ _ _)).mono ?_
    rintro e w2 ⟨A2, n2, c2, rfl, hO2, hb2⟩
    have l2 : n2 ≤ 100 := by rw [hO2.hn]; simp [leB_length]
    dsimp only
    refine hK.out _ _ ?hS20 (fun hHeld => ?rest20)
    case hS20 => ((try dsimp only); (((try go_split_ands); refine sn_of ?_; repeat' (first | with_reducible assumption | with_reducible exact Below.refl _ _ | with_reducible apply below_alloc | with_reducible apply below_drew1 | with_reducible apply below_drewN | (with_reducible apply below_step; with_reducible assumption) | (with_reducible apply below_sg2; (first | exact Nat.le_refl _ | (simp; done) | omega))))))
    case' rest20 => (clear hK K; try simp only [List.getElem_toArray, List.getElem_cons_zero, List.getElem_cons_succ, Act.put, List.setIfInBounds_toArray, List.set_cons_zero, List.set_cons_succ])
    refine wpAnyH_ready (rs := [9]) (by kernel_rfl) (by simp) ?_
    refine AllReadyH.cons (o := _) rfl (fun K hK => ?_) AllReadyH.nil
    go_simp
    refine (HP2.out _ _ _ _ _ hO2.hn l2 hO2.sl).mono ?_
    rintro e w3 ⟨A3, n3, c3, rfl, hO3, hb3⟩
    have l3 : n3 ≤ 100 := by rw [hO3.hn]; simp [leB_length]
    dsimp only
    refine hK.out _ _ ?hS23 (fun hHeld => ?rest23)
    case hS23 => ((try dsimp only); (((try go_split_ands); refine sn_of ?_; repeat' (first | with_reducible assumption | with_reducible exact Below.refl _ _ | with_reducible apply below_alloc | with_reducible apply below_drew1 | with_reducible apply below_drewN | (with_reducible apply below_step; with_reducible assumption) | (with_reducible apply below_sg2; (first | exact Nat.le_refl _ | (simp; done) | omega))))))
    case' rest23 => (clear hK K; try simp only [List.getElem_toArray, List.getElem_cons_zero, List.getElem_cons_succ, Act.put, List.setIfInBounds_toArray, List.set_cons_zero, List.set_cons_succ])
    refine wpAnyH_ready (rs := [14]) (by kernel_rfl) (by simp) ?_
    refine AllReadyH.cons (o := _) rfl (fun K hK => ?_) AllReadyH.nil
    go_simp
    refine (HP3.out _ _ _ _ _ hO3.hn l3 hO3.sl).mono ?_
    rintro e w4 ⟨A4, n4, c4, rfl, hO4, hb4⟩
    have l4 : n4 ≤ 100 := by rw [hO4.hn]; simp [leB_length]
    dsimp only
    refine hK.out _ _ ?hS26 (fun hHeld => ?rest26)
    case hS26 => ((try dsimp only); (((try go_split_ands); refine sn_of ?_; repeat' (first | with_reducible assumption | with_reducible exact Below.refl _ _ | with_reducible apply below_alloc | with_reducible apply below_drew1 | with_reducible apply below_drewN | (with_reducible apply below_step; with_reducible assumption) | (with_reducible apply below_sg2; (first | exact Nat.le_refl _ | (simp; done) | omega))))))
    case' rest26 => (clear hK K; try simp only [List.getElem_toArray, List.getElem_cons_zero, List.getElem_cons_succ, Act.put, List.setIfInBounds_toArray, List.set_cons_zero, List.set_cons_succ])
    refine wpAnyH_ready (rs := [15]) (by kernel_rfl) (by simp) ?_
    refine AllReadyH.cons (o := _) rfl (fun K hK => ?_) AllReadyH.nil
    go_simp
    refine hK.out _ _ ?hS29 (fun hHeld => ?rest29)
    case hS29 => ((try dsimp only); (((try go_split_ands); refine sn_of ?_; repeat' (first | with_reducible assumption | with_reducible exact Below.refl _ _ | with_reducible apply below_alloc | with_reducible apply below_drew1 | with_reducible apply below_drewN | (with_reducible apply below_step; with_reducible assumption) | (with_reducible apply below_sg2; (first | exact Nat.le_refl _ | (simp; done) | omega))))))
    case' rest29 => (clear hK K; try simp only [List.getElem_toArray, List.getElem_cons_zero, List.getElem_cons_succ, Act.put, List.setIfInBounds_toArray, List.set_cons_zero, List.set_cons_succ])
    refine wpAnyH_done (by kernel_rfl) ?_ _
    have hEnd := hHeld.2
    repeat (clear hHeld)
    have hbS : Below w1.heap.size w1 w4 := hEnd
    have hbx5 := hbx.below hbS z0
    have hbw5 := below_step hbS hbw1
    have d3 := hbx5.cell 2 rfl
    have hs5 := hs.below hbw5
    have HJ := hide (show _ from join_any A4 A n4 n c4 c _ l w4 hO4.hn HN.out (by omega) (by omega) hO4.sl hs5)
    clear b0 b1 b2 kcv i1 i2 i3 HP1 HP2 HP3 hbx
    go_wp2_with fail
    refine HJ.out.mono ?_
    rintro e w6 ⟨A6, n6, c6, rfl, hO6, hb6⟩
    have hbw6 := below_step hb6 hbw5
    have l6 : n6 = n4 + n := by rw [hO6.hn, hO4.hn, HN.out]; simp; omega
    have HL6 := hide l6
    have l6' : n6 ≤ 1100 := by omega
    clear l6
    go_wp2_with fail
    refine (rsum_seal A6 _ c6 _ w6 hO6.hn (by omega) hO6.sl).mono ?_
    rintro e w7 ⟨A7, n7, c7, rfl, hO7, hb7⟩
    have hbw7 := below_step hb7 hbw6
    have l7 : n7 ≤ 1200 := by rw [hO7.hn, sealL_length, ← hO6.hn]; omega
    go_wp2_with (at_builtin; refine app_b _ rfl (.tmp 31) (.tmp 32) rfl w.heap.size _ _ _ _ rfl ((hO7.mono hbw6.size).alloc _) _ _ _ [0] rfl rfl (Sl.one _ _ _) (by omega) (below_alloc hbw7 _).size (n7 + 1) rfl ?_; intro A8 c8 w8 hown8 _ _ hb8)
    go_ret2
    exact ⟨A8, n7 + 1, c8, rfl, by rw [HB.out]; exact hown8, (below_alloc hbw7 _).trans hb8⟩
  · have h0' : (er != 0) = true := by simpa using h0
    have HB := hide (recB_no kind num n l hn (by rw [← her]; exact h0))
    clear hn her h0
    go_enter Try.func41, Try.ntmps41
    go_wp2_with fail
    refine (HR.out _).mono ?_
    rintro e w1 ⟨rfl, hb1⟩
    go_wp2_with fail
    go_ret2
    exact ⟨none, 0, 0, rfl, by rw [HB.out]; exact OwnB.nil _ _, below_step hb1 (below_alloc (Below.refl w.heap.size w) _)⟩
end Go.Proofs.Ytfddfgonhgidbaa
