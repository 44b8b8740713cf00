/- Package sdomsg: guess (printed by wip/tools/gen_guess.py). -/
import Derived.Test.YtcncbmlacphclaaSdE
import Derived.Test.YtcncbmlacphclaaSdA
import Derived.Test.YtcncbmlacphclaaSdHa
import Derived.Test.YtcncbmlacphclaaSdHb
import Derived.Test.YtcncbmlacphclaaSdHc
import Derived.Test.YtcncbmlacphclaaSdB4
import Derived.RegionTactic
import Derived.Deep.RegionHeld3
import Derived.Deep.DeepCutAuto
import Derived.Deep.CutBlock
import Derived.Deep.Light
namespace Go.Proofs.Ytcncbmlacphclaa
set_option linter.unusedVariables false
set_option linter.unusedSimpArgs false
set_option linter.unnecessarySimpa false
open Go.RowKit
set_option maxRecDepth 100000
set_option maxHeartbeats 4000000

theorem sd_guess (k : Int) (A : Option Addr) (n c : Nat) (b : List UInt8) (w : World) (hn : n = b.length) (h8 : b.length = 8) (hc : n ≤ c) (hs : Sl w A (b.map bv)) :
    Calls Try.prog 89 #[.int .i64 k, .slice A n c] w (GuessR k b w) := by
  have h := form_range k
  rcases (show (formI k = 0 ∨ formI k = 1 ∨ formI k = 4 ∨ formI k = 5 ∨ formI k = 10) ∨ (formI k = 2 ∨ formI k = 3 ∨ formI k = 6) ∨ (formI k = 7 ∨ formI k = 8 ∨ formI k = 9 ∨ formI k = 11) by omega) with g | g | g
  · exact sd_guessa k A n c b w hn h8 hc hs _ rfl g
  · exact sd_guessb k A n c b w hn h8 hc hs _ rfl g
  · exact sd_guessc k A n c b w hn h8 hc hs _ rfl g
end Go.Proofs.Ytcncbmlacphclaa
