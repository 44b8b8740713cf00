/- Package fault: Text. -/
import Derived.Test.YtkhbcmkcjnnejaaDoorFltJ
import Derived.Laws.BitsAllLaws
namespace Go.Proofs.YtkhbcmkcjnnejaaDoor
set_option linter.unusedVariables false
set_option linter.unusedSimpArgs false
set_option linter.unnecessarySimpa false
open Go.RowKit Go.Extern.Stop Go.Stop Go.Extern
set_option maxRecDepth 20000
set_option maxHeartbeats 8000000
theorem and15 (x : Nat) (hx : x ≤ 4294967295) : bits BinOp.and IntKind.u32 (x : Int) 15 = ((x % 16 : Nat) : Int) := by
  have h := u32_and_nat x 15 (by omega) (by omega)
  rw [show (15 : Nat) = 2 ^ 4 - 1 from rfl, Nat.and_two_pow_sub_one_eq_mod] at h
  exact h
/-- a digit's byte, as the table has it -/
def dgs : ByteArray := { data := #[48, 49, 50, 51, 52, 53, 54, 55, 56, 57, 97, 98, 99, 100, 101, 102] }
theorem dg_at (d : Nat) (h : d < 16) (h2 : d < dgs.size) : dgs[d] = hexd d := by
  have : ∀ d : Fin 16, dgs[d.val]'(by exact d.isLt) = hexd d.val := by decide
  exact this ⟨d, h⟩
theorem fa_Text (c : Nat) (w : World) (hc : c ≤ 4294967295) : Calls Tryd.prog 21 #[.int .u32 (c : Nat)] w fun e w' => e = .returned (.string (bs (textL c))) ∧ Below w.heap.size w w' := by
  have b0 : bits BinOp.and IntKind.u32 ((c : Int) / 268435456) 15 = ((c / 268435456 % 16 : Nat) : Int) := by
    rw [show ((c : Int) / 268435456) = ((c / 268435456 : Nat) : Int) by omega]
    exact and15 _ (by omega)
  have b1 : bits BinOp.and IntKind.u32 ((c : Int) / 16777216) 15 = ((c / 16777216 % 16 : Nat) : Int) := by
    rw [show ((c : Int) / 16777216) = ((c / 16777216 : Nat) : Int) by omega]
    exact and15 _ (by omega)
  have b2 : bits BinOp.and IntKind.u32 ((c : Int) / 1048576) 15 = ((c / 1048576 % 16 : Nat) : Int) := by
    rw [show ((c : Int) / 1048576) = ((c / 1048576 : Nat) : Int) by omega]
    exact and15 _ (by omega)
  have b3 : bits BinOp.and IntKind.u32 ((c : Int) / 65536) 15 = ((c / 65536 % 16 : Nat) : Int) := by
    rw [show ((c : Int) / 65536) = ((c / 65536 : Nat) : Int) by omega]
    exact and15 _ (by omega)
  have b4 : bits BinOp.and IntKind.u32 ((c : Int) / 4096) 15 = ((c / 4096 % 16 : Nat) : Int) := by
    rw [show ((c : Int) / 4096) = ((c / 4096 : Nat) : Int) by omega]
    exact and15 _ (by omega)
  have b5 : bits BinOp.and IntKind.u32 ((c : Int) / 256) 15 = ((c / 256 % 16 : Nat) : Int) := by
    rw [show ((c : Int) / 256) = ((c / 256 : Nat) : Int) by omega]
    exact and15 _ (by omega)
  have b6 : bits BinOp.and IntKind.u32 ((c : Int) / 16) 15 = ((c / 16 % 16 : Nat) : Int) := by
    rw [show ((c : Int) / 16) = ((c / 16 : Nat) : Int) by omega]
    exact and15 _ (by omega)
  have b7 : bits BinOp.and IntKind.u32 (c : Int) 15 = ((c / 1 % 16 : Nat) : Int) := by
    rw [Nat.div_one]
    exact and15 _ (by omega)
  obtain ⟨d0, hd0⟩ : ∃ d, d = c / 268435456 % 16 := ⟨_, rfl⟩
  rw [← hd0] at b0
  have l0 : d0 < 16 := by omega
  have m0 : (d0 : Int) < 16 := by omega
  obtain ⟨d1, hd1⟩ : ∃ d, d = c / 16777216 % 16 := ⟨_, rfl⟩
  rw [← hd1] at b1
  have l1 : d1 < 16 := by omega
  have m1 : (d1 : Int) < 16 := by omega
  obtain ⟨d2, hd2⟩ : ∃ d, d = c / 1048576 % 16 := ⟨_, rfl⟩
  rw [← hd2] at b2
  have l2 : d2 < 16 := by omega
  have m2 : (d2 : Int) < 16 := by omega
  obtain ⟨d3, hd3⟩ : ∃ d, d = c / 65536 % 16 := ⟨_, rfl⟩
  rw [← hd3] at b3
  have l3 : d3 < 16 := by omega
  have m3 : (d3 : Int) < 16 := by omega
  obtain ⟨d4, hd4⟩ : ∃ d, d = c / 4096 % 16 := ⟨_, rfl⟩
  rw [← hd4] at b4
  have l4 : d4 < 16 := by omega
  have m4 : (d4 : Int) < 16 := by omega
  obtain ⟨d5, hd5⟩ : ∃ d, d = c / 256 % 16 := ⟨_, rfl⟩
  rw [← hd5] at b5
  have l5 : d5 < 16 := by omega
  have m5 : (d5 : Int) < 16 := by omega
  obtain ⟨d6, hd6⟩ : ∃ d, d = c / 16 % 16 := ⟨_, rfl⟩
  rw [← hd6] at b6
  have l6 : d6 < 16 := by omega
  have m6 : (d6 : Int) < 16 := by omega
  obtain ⟨d7, hd7⟩ : ∃ d, d = c / 1 % 16 := ⟨_, rfl⟩
  rw [← hd7] at b7
  have l7 : d7 < 16 := by omega
  have m7 : (d7 : Int) < 16 := by omega
  have HT : Hid (textL c = [hexd d0, hexd d1, hexd d2, hexd d3, hexd d4, hexd d5, hexd d6, hexd d7] ++ 32 :: sayN c) := hide (by unfold textL digL; rw [hd0, hd1, hd2, hd3, hd4, hd5, hd6, hd7, Nat.div_one])
  have HSY := hide (fun W => fa_says c W)
  clear hd0 hd1 hd2 hd3 hd4 hd5 hd6 hd7 hc
  go_enter Tryd.func21, Tryd.ntmps21
  go_wp2_with fail
  refine wp_loop_rounds 9 ?_
  rw [rounds_succ]
  go_wp2_with fail
  rw [rounds_succ]
  go_wp2_with fail
  rw [rounds_succ]
  go_wp2_with fail
  rw [rounds_succ]
  go_wp2_with fail
  rw [rounds_succ]
  go_wp2_with fail
  rw [rounds_succ]
  go_wp2_with fail
  rw [rounds_succ]
  go_wp2_with fail
  rw [rounds_succ]
  go_wp2_with fail
  rw [rounds_succ]
  go_wp2_with fail
  obtain ⟨L, hL⟩ : ∃ L : List UInt8, L = [hexd d0, hexd d1, hexd d2, hexd d3, hexd d4, hexd d5, hexd d6, hexd d7] := ⟨_, rfl⟩
  refine wp_gen (P := fun W => Blk W w.heap.size 58 (L.map bv).toArray ∧ Below w.heap.size w W) ⟨?_, below_alloc (Below.refl _ _) _⟩ ?_
  · rw [hL]
    simp only [List.map_cons, List.map_nil, bv, ← dg_at d0 l0 l0, ← dg_at d1 l1 l1, ← dg_at d2 l2 l2, ← dg_at d3 l3 l3, ← dg_at d4 l4 l4, ← dg_at d5 l5 l5, ← dg_at d6 l6 l6, ← dg_at d7 l7 l7]
    exact blk_one _ _ _
  rintro W ⟨hB, hbW⟩
  have hlen : 8 = L.length := by rw [hL]; rfl
  have k1 := fun W' (h : Below W.heap.size W W') => str_b 8 hlen (show Sl W' (some ⟨w.heap.size, 0, none⟩) (L.map bv) from (by have := hB.sl; simpa using this : Sl W (some ⟨w.heap.size, 0, none⟩) (L.map bv)).below h)
  have HL := hide hL
  have HBW := hide hbW
  obtain ⟨s, hs⟩ : ∃ s, s = bs (sayN c) := ⟨_, rfl⟩
  rw [← hs] at HSY
  have hs30 : s.size ≤ 30 := by rw [hs]; exact sayN_le c
  have q1 : ¬ 9223372036854775807 < L.length + 1 := by omega
  have q2 : ¬ 9223372036854775807 < L.length + 1 + s.size := by omega
  have HS := hide hs
  clear hL hlen hbW hB hs
  refine wp_region_held_drew (S := (fun w' => (∀ qA : Addr, qA.block < (W).heap.size → w'.cell? qA = (W).cell? qA) ∧ Below (W).heap.size (W) w')) (by kernel_rfl) ?hS1 (fun hHeld => ?rest1)
  case hS1 => ((try dsimp only); (((try go_split_ands); refine sn_of ?_; repeat' (first | with_reducible assumption | with_reducible exact Below.refl _ _ | with_reducible apply below_alloc | with_reducible apply below_drew1 | with_reducible apply below_drewN | (with_reducible apply below_step; with_reducible assumption) | (with_reducible apply below_sg2; (first | exact Nat.le_refl _ | (simp; done) | omega))))))
  case' rest1 => skip
  refine wpAnyH_take (i := 0) (oi := _) (v := ?v2) rfl (by kernel_rfl) (by kernel_rfl) (by kernel_rfl) (fun _ _ _ h => h) (Or.inl ⟨by rfl, ?hy2⟩) (by assumption) ?rest2
  case hy2 => ((intro w hSw; (try dsimp only at hSw); go_simp) <;> with_reducible rfl)
  case' rest2 => try simp only [List.getElem_toArray, List.getElem_cons_zero, List.getElem_cons_succ, Act.put, List.setIfInBounds_toArray, List.set_cons_zero, List.set_cons_succ]
  refine wpAnyH_take (i := 1) (oi := _) (v := ?v3) rfl (by kernel_rfl) (by kernel_rfl) (by kernel_rfl) (fun _ _ _ h => h) (Or.inl ⟨by rfl, ?hy3⟩) (by assumption) ?rest3
  case hy3 => ((intro w hSw; (try dsimp only at hSw); go_simp) <;> with_reducible rfl)
  case' rest3 => try simp only [List.getElem_toArray, List.getElem_cons_zero, List.getElem_cons_succ, Act.put, List.setIfInBounds_toArray, List.set_cons_zero, List.set_cons_succ]
  refine wpAnyH_take (i := 2) (oi := _) (v := ?v4) rfl (by kernel_rfl) (by kernel_rfl) (by kernel_rfl) (fun _ _ _ h => h) (Or.inl ⟨by rfl, ?hy4⟩) (by assumption) ?rest4
  case hy4 => ((intro w hSw; (try dsimp only at hSw); go_simp) <;> with_reducible rfl)
  case' rest4 => try simp only [List.getElem_toArray, List.getElem_cons_zero, List.getElem_cons_succ, Act.put, List.setIfInBounds_toArray, List.set_cons_zero, List.set_cons_succ]
  refine wpAnyH_take (i := 3) (oi := _) (v := ?v5) rfl (by kernel_rfl) (by kernel_rfl) (by kernel_rfl) (fun _ _ _ h => h) (Or.inl ⟨by rfl, ?hy5⟩) (by assumption) ?rest5
  case hy5 => ((intro w hSw; (try dsimp only at hSw); go_simp) <;> with_reducible rfl)
  case' rest5 => try simp only [List.getElem_toArray, List.getElem_cons_zero, List.getElem_cons_succ, Act.put, List.setIfInBounds_toArray, List.set_cons_zero, List.set_cons_succ]
  refine wpAnyH_ready (rs := [4]) (by kernel_rfl) (by simp) ?_
  refine AllReadyH.cons (o := _) rfl (fun K hK => ?_) AllReadyH.nil
  go_simp
  refine (HSY.out _).mono ?_
  rintro e w2 ⟨rfl, rfl⟩
  try dsimp only
  refine hK.out _ _ ?hS8 (fun hHeld => ?rest8)
  case hS8 => ((try dsimp only); (((try go_split_ands); refine sn_of ?_; repeat' (first | with_reducible assumption | with_reducible exact Below.refl _ _ | with_reducible apply below_alloc | with_reducible apply below_drew1 | with_reducible apply below_drewN | (with_reducible apply below_step; with_reducible assumption) | (with_reducible apply below_sg2; (first | exact Nat.le_refl _ | (simp; done) | omega))))))
  case' rest8 => (clear hK K; try simp only [List.getElem_toArray, List.getElem_cons_zero, List.getElem_cons_succ, Act.put, List.setIfInBounds_toArray, List.set_cons_zero, List.set_cons_succ])
  refine wpAnyH_take (i := 5) (oi := _) (v := ?v9) rfl (by kernel_rfl) (by kernel_rfl) (by kernel_rfl) (fun _ _ _ h => h) (Or.inl ⟨by rfl, ?hy9⟩) (by assumption) ?rest9
  case hy9 => ((intro w hSw; (try dsimp only at hSw); go_simp) <;> with_reducible rfl)
  case' rest9 => try simp only [List.getElem_toArray, List.getElem_cons_zero, List.getElem_cons_succ, Act.put, List.setIfInBounds_toArray, List.set_cons_zero, List.set_cons_succ]
  refine wpAnyH_take (i := 6) (oi := _) (v := ?v10) rfl (by kernel_rfl) (by kernel_rfl) (by kernel_rfl) (fun _ _ _ h => h) (Or.inl ⟨by rfl, ?hy10⟩) (by assumption) ?rest10
  case hy10 => ((intro w hSw; (try dsimp only at hSw); go_simp) <;> with_reducible rfl)
  case' rest10 => try simp only [List.getElem_toArray, List.getElem_cons_zero, List.getElem_cons_succ, Act.put, List.setIfInBounds_toArray, List.set_cons_zero, List.set_cons_succ]
  refine wpAnyH_done (by kernel_rfl) ?_ _
  have hEnd := hHeld.2
  repeat (clear hHeld)
  go_wp2_with fail
  go_ret
  refine ⟨ret_str ?_, below_step hEnd HBW.out⟩
  rw [HT.out, HS.out, ← HL.out]
  show (bs L ++ bs [32]) ++ bs (sayN c) = _
  rw [bs_app, bs_app, List.append_assoc]
  rfl
end Go.Proofs.YtkhbcmkcjnnejaaDoor
