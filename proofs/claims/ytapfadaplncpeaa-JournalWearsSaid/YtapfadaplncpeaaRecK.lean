/- Records: the law's own known(). -/
import Derived.Test.YtapfadaplncpeaaRecL
namespace Go.Proofs.Ytapfadaplncpeaa
set_option linter.unusedVariables false
set_option linter.unusedSimpArgs false
set_option linter.unnecessarySimpa false
open Go.RowKit
set_option maxRecDepth 20000
set_option maxHeartbeats 1000000
attribute [local go_sem ↓] Go.wp_at_zero Go.wp_at_succ

theorem kR21 : rightR 2 1 0 = 0 := by decide
theorem kR20 : rightR 2 0 0 = 1 := by decide
theorem kPar : recParse (recB 2 1 []) 0 = ⟨2, 1, [], 13, 0⟩ ∧ (recB 2 1 []).length = 13 := by
  have h := build_parse_rec [] [] [] 2 1 kR21 (by unfold U32; omega)
  simpa using h
theorem known_07 (w : World) : Calls Try.prog 28 #[] w (TrueB w) := by
  have HB1 := hide (fun W => show Calls Try.prog 29 #[.agg #[.int .i64 2, .int .u32 1, .slice none 0 0]] W _ from rec_build none 2 1 0 0 [] W rfl (Sl.nil _ _) (by unfold U32; omega))
  have HB2 := hide (fun W => show Calls Try.prog 29 #[.agg #[.int .i64 2, .int .u32 0, .slice none 0 0]] W _ from rec_build none 2 0 0 0 [] W rfl (Sl.nil _ _) (by unfold U32; omega))
  have HP := hide kPar
  have HL1 := hide (fun W => rec_blank none 0 0 [] W rfl (by omega) (Sl.nil _ _))
  have HL2 := hide (fun A W (h : Sl W A [bv 254]) => rec_blank A 1 1 [254] W rfl (by omega) h)
  have b1 : blankB [] = true := rfl
  have b2 : blankB [254] = false := by decide
  rw [b1] at HL1
  rw [b2] at HL2
  rw [kR21] at HB1
  rw [kR20] at HB2
  clear b1 b2
  go_enter Try.func28, Try.ntmps28
  go_wp2_with fail
  refine (HB1.out _).mono ?_
  rintro e w1 ⟨A1, n1, c1, rfl, hO1, hb1⟩
  obtain ⟨rfl⟩ : n1 = 13 := by rw [hO1.hn, HP.out.2]
  have hc1 := hO1.le
  go_wp2_with fail
  refine (rec_parse A1 13 c1 0 _ w1 _ rfl hO1.hn hc1 (by omega) hO1.sl).mono ?_
  rintro e w2 ⟨A2, n2, c2, rfl, hO2, hb2⟩
  rw [HP.out.1] at hO2 ⊢
  obtain rfl : n2 = 0 := hO2.hn
  have hk := blk_one w2 40 #[.int .i64 2, .int .u32 1, .slice A2 0 c2]
  have hbw2 := below_step hb2 hb1
  have z2 : w2.heap.size < (w2.alloc (.cells #[.int .i64 2, .int .u32 1, .slice A2 0 c2] 40)).heap.size := hk.lt
  go_wp2_with fail
  refine (HB2.out _).mono ?_
  rintro e w3 ⟨A3, n3, c3, rfl, hO3, hb3⟩
  have hk3 := hk.below hb3 (by simp)
  have d0 := hk3.cell 0 rfl
  have d1 := hk3.cell 1 rfl
  have hbw3 := below_step hb3 (below_alloc hbw2 _)
  go_wp2_with fail
  refine (HL1.out _).mono ?_
  rintro e w4 ⟨rfl, rfl⟩
  go_wp2_with fail
  refine (HL2.out _ _ (by exact Sl.one _ _ _)).mono ?_
  rintro e w4 ⟨rfl, rfl⟩
  go_wp2_with fail
  go_ret
  exact (⟨rfl, below_alloc hbw3 _⟩ : TrueB w _ _)
end Go.Proofs.Ytapfadaplncpeaa
