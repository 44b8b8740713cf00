/- None -/
import Derived.Test.YtkkpjbjmhaecjaaGreatU39
namespace Go.Proofs.YtkkpjbjmhaecjaaGreat
set_option linter.all false
set_option maxRecDepth 100000
set_option maxHeartbeats 4000000
section
open Go.RowKit
set_option maxHeartbeats 4000000
end
section
open Go.RowKit
set_option maxHeartbeats 4000000
end
section
open Go.RowKit
set_option maxHeartbeats 4000000
end
section
open Go.RowKit
set_option maxHeartbeats 4000000
end
section
open Go.RowKit
section
variable {w W W':World} {gb x:Nat} {l:List UInt8} {cs:Array Value}
end
end
section
open Go.RowKit
set_option maxHeartbeats 8000000
end
section
section
open Go.RowKit
end
section
open Go.RowKit
end
section
open Go.RowKit
end
section
open Go.RowKit
end
end
section
open Go.RowKit Go.Maps
set_option maxHeartbeats 4000000
end
section
open Go.RowKit
section
variable {α:Type} {f: α→Option Addr×Nat→List Value} {k:Nat} {e:TypeId} {dat: α→List UInt8} {w w':World} {F F2 G:Nat→Prop} {n c n2 c2:Nat} {A A2:Option Addr} {L L2:List α} {ds ds2:List (Option Addr×Nat)}
end
theorem zb2.dsin {α:Type}{f: α→Option Addr×Nat→List Value}{k:Nat}{e:TypeId}{dat: α→List UInt8}{w:World}{F:Nat→Prop}{A:Option Addr}{n c:Nat}{L:List α}{ds:List (Option Addr×Nat)}(h:zb2 f k e dat w F A n c L ds):∀d ∈ ds,FIn F d.1:=by
 intro d hd;obtain⟨j,hj,rfl⟩:=List.getElem_of_mem hd;obtain⟨v,hv⟩:∃v,L[j]? =some v:=⟨L[j]'(by rw[←h.hd];exact hj),List.getElem?_eq_getElem _⟩;exact (h.data j v _ hv (List.getElem?_eq_getElem hj)).2
end
end Go.Proofs.YtkkpjbjmhaecjaaGreat
