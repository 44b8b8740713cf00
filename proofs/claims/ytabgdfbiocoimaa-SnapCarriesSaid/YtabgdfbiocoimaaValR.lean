/- What a call that hands back values leaves. -/
import Derived.Test.YtabgdfbiocoimaaDicW
namespace Go.Proofs.Ytabgdfbiocoimaa
set_option linter.unusedVariables false
set_option linter.unusedSimpArgs false
set_option linter.unnecessarySimpa false
open Go.RowKit
def ValuesR (X : List SV) (w : World) (e : Ending) (w' : World) : Prop :=
  ∃ A n c ds, e = .returned (.slice A n c) ∧ OwnSV w' (fun g => w.heap.size ≤ g) A n c X ds ∧ Apart ds ∧ Below w.heap.size w w'
end Go.Proofs.Ytabgdfbiocoimaa
