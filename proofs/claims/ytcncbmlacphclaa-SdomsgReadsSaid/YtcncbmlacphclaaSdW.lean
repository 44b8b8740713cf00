/- Law package 20: given, taken, known. -/
import Derived.Test.YtcncbmlacphclaaSdR
namespace Go.Proofs.Ytcncbmlacphclaa
set_option linter.unusedVariables false
set_option linter.unusedSimpArgs false
set_option linter.unnecessarySimpa false
open Go.RowKit
set_option maxRecDepth 100000
set_option maxHeartbeats 4000000

theorem given_20 (M : Ms) (A : Option Addr) (n c : Nat) (w : World) :
    Calls Try.prog 31 #[.agg (msV M A n c)] w fun e w' => e = .returned (.agg (msV M A n c)) ∧ Below w.heap.size w w' := by
  obtain ⟨kind, ix, sub, tg, la, cr, sz, size, code, data, sq, bl, em, sum⟩ := M
  simp only [msV] at *
  go_enter Try.func31, Try.ntmps31
  go_wp2_with fail
  exact bodyPost_ret (v := .agg #[.int .i64 kind, .int .i64 ix, .int .i64 sub, .bool tg, .bool la, .bool cr, .bool sz, .int .u32 (size : Nat), .int .u32 (code : Nat), .slice A n c, .int .i64 sq, .int .i64 bl, .int .i64 em, .int .u16 (sum : Nat)]) (by simp [results, Try.results31, go_sem]) rfl ⟨rfl, (by repeat' (first | with_reducible assumption | with_reducible exact Below.refl _ _ | with_reducible apply below_alloc | with_reducible apply below_drew1 | with_reducible apply below_drewN | (with_reducible apply below_step; with_reducible assumption) | (with_reducible apply below_sg2; (first | exact Nat.le_refl _ | (simp; done) | omega))))⟩
theorem taken_20 (M : Ms) (A : Option Addr) (n c : Nat) (w : World) :
    Calls Try.prog 43 #[.agg (msV M A n c)] w fun e w' => e = .returned (.agg (msV M A n c)) ∧ Below w.heap.size w w' := by
  obtain ⟨kind, ix, sub, tg, la, cr, sz, size, code, data, sq, bl, em, sum⟩ := M
  simp only [msV] at *
  go_enter Try.func43, Try.ntmps43
  go_wp2_with fail
  exact bodyPost_ret (v := .agg #[.int .i64 kind, .int .i64 ix, .int .i64 sub, .bool tg, .bool la, .bool cr, .bool sz, .int .u32 (size : Nat), .int .u32 (code : Nat), .slice A n c, .int .i64 sq, .int .i64 bl, .int .i64 em, .int .u16 (sum : Nat)]) (by simp [results, Try.results43, go_sem]) rfl ⟨rfl, (by repeat' (first | with_reducible assumption | with_reducible exact Below.refl _ _ | with_reducible apply below_alloc | with_reducible apply below_drew1 | with_reducible apply below_drewN | (with_reducible apply below_step; with_reducible assumption) | (with_reducible apply below_sg2; (first | exact Nat.le_refl _ | (simp; done) | omega))))⟩
def k20a : Ms := ⟨2, 4119, 0, false, false, false, true, 0, 0, [20, 0], 0, 0, 0, 0⟩
theorem k20_1 : canB k20a = true ∧ laidB k20a = [43, 23, 16, 0, 20, 0, 0, 0] ∧ resM reqK [43, 23, 16, 0, 20, 0, 0, 0] = k20a ∧ errI reqK [43, 23, 16, 0, 20, 0, 0, 0] = 0 ∧ errI reqK [32, 0, 16, 0, 5, 0, 0, 0] = 4 ∧ resM reqK [32, 0, 16, 0, 5, 0, 0, 0] = msZ ∧
    errI ansK [128, 0, 16, 0, 0, 0, 2, 6] = 0 ∧ resM ansK [128, 0, 16, 0, 0, 0, 2, 6] = ⟨1, 4096, 0, false, false, false, false, 0, 100794368, [], 0, 0, 0, 0⟩ := by decide +kernel
theorem sl_lit {w : World} {g t : Nat} {cs : Array Value} (h : Blk w g t cs) (l : List UInt8) (e : cs.toList = l.map bv) : Sl w (some ⟨g, 0, none⟩) (l.map bv) := by rw [← e]; exact h.sl
def k20b : Ms := ⟨1, 4096, 0, false, false, false, false, 0, 100794368, [], 0, 0, 0, 0⟩
theorem known_20 (w : World) : Calls Try.prog 30 #[] w (TrueB w) := by
  obtain ⟨d1, d2, d3, d4, d5, d6, d7, d8⟩ := k20_1
  have HB := hide (fun W h => sd_build k20a (some ⟨w.heap.size, 0, none⟩) 2 2 W rfl h (by decide) (by decide) (by decide))
  unfold BuildM at HB
  rw [d1, d2] at HB
  have HR1 := hide (fun A n c W h1 h2 h3 => sd_request A n c [43, 23, 16, 0, 20, 0, 0, 0] W h1 h2 h3)
  have HR2 := hide (fun A n c W h1 h2 h3 => sd_request A n c [32, 0, 16, 0, 5, 0, 0, 0] W h1 h2 h3)
  have HR3 := hide (fun A n c W h1 h2 h3 => sd_answer A n c [128, 0, 16, 0, 0, 0, 2, 6] W h1 h2 h3)
  unfold ReadR at HR1 HR2 HR3
  rw [d3, d4] at HR1
  rw [d5, d6] at HR2
  rw [d7, d8] at HR3
  simp only [k20a, msV, msZ, if_true] at HB HR1 HR2 HR3
  clear d1 d2 d3 d4 d5 d6 d7 d8
  go_enter Try.func30, Try.ntmps30
  go_wp2_with fail
  have q0 := blk_one w 5 #[.int .u8 20, .int .u8 0]
  refine (HB.out _ (sl_lit q0 [20, 0] rfl)).mono ?_
  rintro e w1 ⟨A1, n1, c1, rfl, hO1, hb1⟩
  have hbw1 := below_step hb1 (below_alloc (Below.refl w.heap.size w) (.cells #[.int .u8 20, .int .u8 0] 5))
  clear q0 HB
  go_wp2_with fail
  refine (HR1.out _ _ _ _ hO1.hn hO1.le hO1.sl).mono ?_
  rintro e w2 ⟨A2, n2, c2, rfl, hO2, hb2⟩
  have hn2 : n2 = 2 := hO2.hn
  subst hn2
  go_wp2_with fail
  obtain ⟨qa, qb⟩ := blk_two w2 44 5 #[.int .i64 2, .int .i64 4119, .int .i64 0, .bool false, .bool false, .bool false, .bool true, .int .u32 0, .int .u32 0, .slice A2 2 c2, .int .i64 0, .int .i64 0, .int .i64 0, .int .u16 0] #[.int .u8 32, .int .u8 0, .int .u8 16, .int .u8 0, .int .u8 5, .int .u8 0, .int .u8 0, .int .u8 0]
  refine (HR2.out _ 8 8 _ rfl (by decide) (sl_lit qb [32, 0, 16, 0, 5, 0, 0, 0] rfl)).mono ?_
  rintro e w3 ⟨A3, n3, c3, rfl, hO3, hb3⟩
  have qa3 := qa.below hb3 qa.lt
  have hbw3 := below_step hb3 (below_alloc (below_alloc (below_step hb2 hbw1) (.cells #[.int .i64 2, .int .i64 4119, .int .i64 0, .bool false, .bool false, .bool false, .bool true, .int .u32 0, .int .u32 0, .slice A2 2 c2, .int .i64 0, .int .i64 0, .int .i64 0, .int .u16 0] 44)) (.cells #[.int .u8 32, .int .u8 0, .int .u8 16, .int .u8 0, .int .u8 5, .int .u8 0, .int .u8 0, .int .u8 0] 5))
  have hO1' := (((hO1.below hb2).alloc (.cells #[.int .i64 2, .int .i64 4119, .int .i64 0, .bool false, .bool false, .bool false, .bool true, .int .u32 0, .int .u32 0, .slice A2 2 c2, .int .i64 0, .int .i64 0, .int .i64 0, .int .u16 0] 44)).alloc (.cells #[.int .u8 32, .int .u8 0, .int .u8 16, .int .u8 0, .int .u8 5, .int .u8 0, .int .u8 0, .int .u8 0] 5)).below hb3
  clear qa qb
  go_wp2_with fail
  obtain ⟨qa, qb⟩ := blk_two w3 44 5 #[.int .i64 0, .int .i64 0, .int .i64 0, .bool false, .bool false, .bool false, .bool false, .int .u32 0, .int .u32 0, .slice A3 n3 c3, .int .i64 0, .int .i64 0, .int .i64 0, .int .u16 0] #[.int .u8 128, .int .u8 0, .int .u8 16, .int .u8 0, .int .u8 0, .int .u8 0, .int .u8 2, .int .u8 6]
  refine (HR3.out _ 8 8 _ rfl (by decide) (sl_lit qb [128, 0, 16, 0, 0, 0, 2, 6] rfl)).mono ?_
  rintro e w4 ⟨A4, n4, c4, rfl, hO4, hb4⟩
  have qa4 := ((qa3.alloc (.cells #[.int .i64 0, .int .i64 0, .int .i64 0, .bool false, .bool false, .bool false, .bool false, .int .u32 0, .int .u32 0, .slice A3 n3 c3, .int .i64 0, .int .i64 0, .int .i64 0, .int .u16 0] 44)).alloc (.cells #[.int .u8 128, .int .u8 0, .int .u8 16, .int .u8 0, .int .u8 0, .int .u8 0, .int .u8 2, .int .u8 6] 5)).below hb4 (by have := qa3.lt; simp; omega)
  have hbw4 := below_step hb4 (below_alloc (below_alloc hbw3 (.cells #[.int .i64 0, .int .i64 0, .int .i64 0, .bool false, .bool false, .bool false, .bool false, .int .u32 0, .int .u32 0, .slice A3 n3 c3, .int .i64 0, .int .i64 0, .int .i64 0, .int .u16 0] 44)) (.cells #[.int .u8 128, .int .u8 0, .int .u8 16, .int .u8 0, .int .u8 0, .int .u8 0, .int .u8 2, .int .u8 6] 5))
  have t1 := str_b c1 hO1.hn ((((hO1'.alloc (.cells #[.int .i64 0, .int .i64 0, .int .i64 0, .bool false, .bool false, .bool false, .bool false, .int .u32 0, .int .u32 0, .slice A3 n3 c3, .int .i64 0, .int .i64 0, .int .i64 0, .int .u16 0] 44)).alloc (.cells #[.int .u8 128, .int .u8 0, .int .u8 16, .int .u8 0, .int .u8 0, .int .u8 0, .int .u8 2, .int .u8 6] 5)).below hb4).alloc (.cells #[.int .i64 1, .int .i64 4096, .int .i64 0, .bool false, .bool false, .bool false, .bool false, .int .u32 0, .int .u32 100794368, .slice A4 n4 c4, .int .i64 0, .int .i64 0, .int .i64 0, .int .u16 0] 44)).sl
  have l4 := qa4.lt
  have qa4_c0 := qa4.cell 0 rfl
  have qa4_f0 := qa4.frozen 0
  have qa4_c1 := qa4.cell 1 rfl
  have qa4_f1 := qa4.frozen 1
  have qa4_c2 := qa4.cell 2 rfl
  have qa4_f2 := qa4.frozen 2
  have qa4_c3 := qa4.cell 3 rfl
  have qa4_f3 := qa4.frozen 3
  have qa4_c4 := qa4.cell 4 rfl
  have qa4_f4 := qa4.frozen 4
  have qa4_c5 := qa4.cell 5 rfl
  have qa4_f5 := qa4.frozen 5
  have qa4_c6 := qa4.cell 6 rfl
  have qa4_f6 := qa4.frozen 6
  have qa4_c7 := qa4.cell 7 rfl
  have qa4_f7 := qa4.frozen 7
  have qa4_c8 := qa4.cell 8 rfl
  have qa4_f8 := qa4.frozen 8
  have qa4_c9 := qa4.cell 9 rfl
  have qa4_f9 := qa4.frozen 9
  have qa4_c10 := qa4.cell 10 rfl
  have qa4_f10 := qa4.frozen 10
  have qa4_c11 := qa4.cell 11 rfl
  have qa4_f11 := qa4.frozen 11
  have qa4_c12 := qa4.cell 12 rfl
  have qa4_f12 := qa4.frozen 12
  have qa4_c13 := qa4.cell 13 rfl
  have qa4_f13 := qa4.frozen 13
  clear qa qb hO1' qa3
  go_wp2_with fail
  go_ret
  exact ⟨rfl, (by repeat' (first | with_reducible assumption | with_reducible exact Below.refl _ _ | with_reducible apply below_alloc | with_reducible apply below_drew1 | with_reducible apply below_drewN | (with_reducible apply below_step; with_reducible assumption) | (with_reducible apply below_sg2; (first | exact Nat.le_refl _ | (simp; done) | omega))))⟩
end Go.Proofs.Ytcncbmlacphclaa
