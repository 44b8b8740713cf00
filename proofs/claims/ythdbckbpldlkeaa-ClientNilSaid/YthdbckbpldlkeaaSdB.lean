/- Package sdomsg: only, what it says. -/
import Derived.Test.YthdbckbpldlkeaaSdA
import Derived.RegionTactic
import Derived.ChangeAlike
import Derived.Deep.Light
namespace Go.Proofs.Ythdbckbpldlkeaa
set_option linter.unusedVariables false
set_option linter.unusedSimpArgs false
set_option linter.unnecessarySimpa false
open Go.RowKit
set_option maxRecDepth 100000
set_option maxHeartbeats 2000000

def OnlyR (f : Int) (M : Ms) (A : Option Addr) (n c : Nat) (w : World) (e : Ending) (w' : World) : Prop :=
  e = .returned (.agg (msV (onlyM f M) (if dataB f = true then A else none) (if dataB f = true then n else 0) (if dataB f = true then c else 0))) ∧ Below w.heap.size w w'
end Go.Proofs.Ythdbckbpldlkeaa
