/- The reference of sdomsg: what laid says. -/
import Derived.Test.YtcncbmlacphclaaRSdD
namespace Go.Proofs.Ytcncbmlacphclaa
set_option linter.unusedVariables false
set_option linter.unusedSimpArgs false
set_option linter.unnecessarySimpa false
open Go.RowKit

def LaidR (w : World) (l : List UInt8) (e : Ending) (w' : World) : Prop := ∃ g, e = .returned (.slice (some ⟨g, 0, none⟩) 8 8) ∧ OwnB w' w.heap.size (some ⟨g, 0, none⟩) 8 8 l ∧ Below w.heap.size w w'
end Go.Proofs.Ytcncbmlacphclaa
