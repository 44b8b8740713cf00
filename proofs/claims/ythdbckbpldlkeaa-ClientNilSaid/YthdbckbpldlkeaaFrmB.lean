/- Package frame: a frame's text read. -/
import Derived.Test.YthdbckbpldlkeaaFrmA
import Derived.Test.YthdbckbpldlkeaaHeldT
import Derived.BigQuiet
namespace Go.Proofs.Ythdbckbpldlkeaa
set_option linter.unusedVariables false
set_option linter.unusedSimpArgs false
set_option linter.unnecessarySimpa false
open Go.RowKit
set_option maxRecDepth 100000
set_option maxHeartbeats 4000000
theorem frm_id5 (s : ByteArray) (hs : 4 < s.size) (h0 : (s.data.getD 0 0).toNat = 53) (h1 : (s.data.getD 1 0).toNat = 56) (h2 : (s.data.getD 2 0).toNat = 53) (h3 : (s.data.getD 3 0).toNat = 35) (w : World) :
    Calls Try.prog 46 #[.string s] w fun e w' => e = .returned (.tuple #[.int .i64 1413, .string (s.extract 4 s.size), .bool true]) ∧ Below w.heap.size w w' := by
  have n0 := fun ty => run_next_ascii (P := Try.prog) w s 0 ty (by omega) (by rw [gb s 0 (by omega), h0]; omega)
  have n1 := fun ty => run_next_ascii (P := Try.prog) w s 1 ty (by omega) (by rw [gb s 1 (by omega), h1]; omega)
  have n2 := fun ty => run_next_ascii (P := Try.prog) w s 2 ty (by omega) (by rw [gb s 2 (by omega), h2]; omega)
  have n3 := fun ty => run_next_ascii (P := Try.prog) w s 3 ty (by omega) (by rw [gb s 3 (by omega), h3]; omega)
  rw [gb s 0 (by omega), h0] at n0
  rw [gb s 1 (by omega), h1] at n1
  rw [gb s 2 (by omega), h2] at n2
  rw [gb s 3 (by omega), h3] at n3
  have hb := below_alloc (Below.refl w.heap.size w) (.stringIter s 4)
  have hs4 : 4 ≤ s.size := by omega
  clear h0 h1 h2 h3
  go_enter Try.func46, Try.ntmps46
  go_wp2_with fail
  refine wp_loop_rounds 5 ?_
  rw [rounds_succ]
  go_wp2_with fail
  refine (frm_value 53 (by omega) _).mono ?_
  rintro e w1 ⟨rfl, rfl⟩
  go_wp2_with fail
  rw [rounds_succ]
  go_wp2_with fail
  refine (frm_value 56 (by omega) _).mono ?_
  rintro e w1 ⟨rfl, rfl⟩
  go_wp2_with fail
  rw [rounds_succ]
  go_wp2_with fail
  refine (frm_value 53 (by omega) _).mono ?_
  rintro e w1 ⟨rfl, rfl⟩
  go_wp2_with fail
  rw [rounds_succ]
  go_wp2_with fail
  go_quiet (fail)
  go_wp2_with fail
  rw [show bits BinOp.or IntKind.i64 (wrap64 (bits BinOp.or IntKind.i64 (wrap64 (bits BinOp.or IntKind.i64 0 5 * 16)) 8 * 16)) 5 = 1413 by decide +kernel]
  go_ret3
  exact ⟨rfl, below_drewN hb _⟩
end Go.Proofs.Ythdbckbpldlkeaa
