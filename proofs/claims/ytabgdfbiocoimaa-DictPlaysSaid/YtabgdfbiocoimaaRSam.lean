/- The reference of entries: Same, at two entries that are alike. -/
import Derived.Test.YtabgdfbiocoimaaDicW
import Derived.RegionTactic
import Derived.Deep.RegionHeld3
import Derived.Deep.Light
namespace Go.Proofs.Ytabgdfbiocoimaa
set_option linter.unusedVariables false
set_option linter.unusedSimpArgs false
set_option linter.unnecessarySimpa false
open Go.RowKit
set_option maxRecDepth 100000
set_option maxHeartbeats 4000000
theorem same_yes (E : Ent) (A B : Option Addr) (n c m d : Nat) (w : World) (hn : n = E.df.length) (hm : m = E.df.length) (h1 : Sl w A (E.df.map bv)) (h2 : Sl w B (E.df.map bv)) :
    Calls Try.prog 22 #[.agg (entV E A n c), .agg (entV E B m d)] w fun e w' => e = .returned (.bool true) ∧ Below w.heap.size w w' := by
  have q := blk_two w 39 39 (entV E A n c) (entV E B m d)
  have hbw := below_alloc (below_alloc (Below.refl w.heap.size w) (.cells (entV E A n c) 39)) (.cells (entV E B m d) 39)
  have k1 := str_b c hn (h1.below hbw)
  have k2 := str_b d hm (h2.below hbw)
  clear hn hm h1 h2 q
  unfold entV at *
  go_enter Try.func22, Try.ntmps22
  go_wp2_with fail
  go_ret
  exact ⟨rfl, hbw⟩
end Go.Proofs.Ytabgdfbiocoimaa
