/- A message handed back out of a result's block. -/
import Derived.Test.YthdbckbpldlkeaaMsF
namespace Go.Proofs.Ythdbckbpldlkeaa
set_option linter.unusedVariables false
set_option linter.unusedSimpArgs false
set_option linter.unnecessarySimpa false
open Go.RowKit
set_option maxRecDepth 100000
theorem msg_size : (Try.prog.info? 63).map (·.size) = some 14 := by kernel_rfl
theorem ret_msg {fn : Func} {p : Tmp} (h : fn.results = #[.cell p 63]) {a : Act} {w : World} {g : Nat} {M : Ms} {A : Option Addr} {n c : Nat} {R : Ending → World → Prop} (hd : a.defers = []) (hp : a.tmps.getD p undef = .pointer (some ⟨g, 0, none⟩))
    (hB : Blk w g 63 (msV M A n c)) (hR : R (.returned (.agg (msV M A n c))) w) : bodyPost Try.prog fn R .ret a w :=
  bodyPost_ret (results_cell_row h _ _ _ _ _ _ _ hp hB Try.underlying63 rfl msg_size) hd hR
end Go.Proofs.Ythdbckbpldlkeaa
