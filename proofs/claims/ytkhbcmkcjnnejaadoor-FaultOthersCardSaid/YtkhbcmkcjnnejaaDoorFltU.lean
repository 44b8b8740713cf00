/- law04: known. -/
import Derived.Test.YtkhbcmkcjnnejaaDoorFltT
namespace Go.Proofs.YtkhbcmkcjnnejaaDoor
set_option linter.unusedVariables false
set_option linter.unusedSimpArgs false
set_option linter.unnecessarySimpa false
open Go.RowKit Go.Extern.Stop Go.Stop Go.Extern
set_option maxRecDepth 20000
set_option maxHeartbeats 8000000

theorem la_known (a : Nat → Addr) (M : Nat) (w : World) (hG : GV w a M) (hM : M ≤ w.heap.size) :
    Calls Tryd.prog 8 #[] w fun e w' => e = .returned (.bool true) ∧ Below w.heap.size w w' := by
  have HN := hide (fa_New 101253169 a w (by decide) hG)
  rw [show cntN 101253169 = 101253169 from rfl] at HN
  have HG := hide hG
  have HM := hide hM
  clear hG hM
  go_enter Tryd.func8, Tryd.ntmps8
  go_wp2_with fail
  refine HN.out.mono ?_
  rintro e w1 ⟨v1, rfl, hC1, hb1⟩
  have HU := hide (fa_Under 134217728 a _ _ v1 w1 (by decide) hC1)
  rw [show cntN 134217728 = 134217728 from rfl] at HU
  have HB1 := hide hb1
  clear hC1 hb1
  go_wp2_with fail
  refine HU.out.mono ?_
  rintro e w2 ⟨v2, rfl, hC2, hb2⟩
  obtain ⟨tt, x, rfl⟩ := ch_iface hC2
  have HC2 := hide hC2
  have HB2 := hide (below_step hb2 HB1.out)
  clear hC2 hb2
  have hb := below_alloc (below_alloc (Below.refl w2.heap.size w2) (.cells #[.iface tt x] 28)) (.cells #[.nilIface] 28)
  have kk := blk_two w2 28 28 #[.iface tt x] #[.nilIface]
  obtain ⟨R, hR⟩ : ∃ R, R = w2.heap.size + 1 := ⟨_, rfl⟩
  have HR := hide hR
  have hGM := HM.out
  have hz := HB2.out.size
  have HP := hide (show Blk _ w2.heap.size 28 #[.iface tt x] ∧ Blk _ R 28 #[.nilIface] ∧ Ch _ a _ _ (.iface tt x) ∧ GV _ a M ∧ Below w.heap.size w _ from ⟨kk.1, by rw [hR]; exact kk.2, HC2.out.below hb, (HG.out.below HB2.out).below hb, below_step hb HB2.out⟩)
  clear hb kk hR hGM hz
  go_wp2_with fail
  rw [← HR.out]
  obtain ⟨W0, hW0⟩ : ∃ W, W = (w2.alloc (.cells #[.iface tt x] 28)).alloc (.cells #[.nilIface] 28) := ⟨_, rfl⟩
  rw [← hW0] at HP ⊢
  have K0 := HP
  clear hW0 HP HR HC2 HB2 HB1 HU HN
  refine (fa_Code a M _ _ _ _ W0 K0.out.2.2.2.1 K0.out.2.2.1).mono ?_
  rintro e W1 ⟨rfl, hb⟩
  have x0 := (K0.out.1.below hb K0.out.1.lt).cell 0 (u := .iface tt x) rfl
  have x1 := (K0.out.2.1.below hb K0.out.2.1.lt).cell 0 (u := .nilIface) rfl
  have K1 := hide (show Blk W1 w2.heap.size 28 #[.iface tt x] ∧ Blk W1 R 28 #[.nilIface] ∧ Ch W1 a (.sent (famN 101253169)) [134217728, 101253169] (.iface tt x) ∧ GV W1 a M ∧ Below w.heap.size w W1 from ⟨K0.out.1.below hb K0.out.1.lt, K0.out.2.1.below hb K0.out.2.1.lt, K0.out.2.2.1.below hb, K0.out.2.2.2.1.below hb, below_step hb K0.out.2.2.2.2⟩)
  clear hb
  go_wp2_with fail
  refine (fa_Family a M _ _ _ W1 K1.out.2.2.2.1 (by unfold goodE; decide) K1.out.2.2.1).mono ?_
  rintro e W2 ⟨rfl, hb⟩
  have x0 := (K1.out.1.below hb K1.out.1.lt).cell 0 (u := .iface tt x) rfl
  have x1 := (K1.out.2.1.below hb K1.out.2.1.lt).cell 0 (u := .nilIface) rfl
  have K2 := hide (show Blk W2 w2.heap.size 28 #[.iface tt x] ∧ Blk W2 R 28 #[.nilIface] ∧ Ch W2 a (.sent (famN 101253169)) [134217728, 101253169] (.iface tt x) ∧ GV W2 a M ∧ Below w.heap.size w W2 from ⟨K1.out.1.below hb K1.out.1.lt, K1.out.2.1.below hb K1.out.2.1.lt, K1.out.2.2.1.below hb, K1.out.2.2.2.1.below hb, below_step hb K1.out.2.2.2.2⟩)
  clear hb
  go_wp2_with fail
  refine (fa_Depth a M _ _ _ W2 K2.out.2.2.2.1 K2.out.2.2.1 (by have := K2.out.2.2.2.2.size; have := HM.out; omega) (by decide)).mono ?_
  rintro e W3 ⟨rfl, hb⟩
  have x0 := (K2.out.1.below hb K2.out.1.lt).cell 0 (u := .iface tt x) rfl
  have x1 := (K2.out.2.1.below hb K2.out.2.1.lt).cell 0 (u := .nilIface) rfl
  have K3 := hide (show Blk W3 w2.heap.size 28 #[.iface tt x] ∧ Blk W3 R 28 #[.nilIface] ∧ Ch W3 a (.sent (famN 101253169)) [134217728, 101253169] (.iface tt x) ∧ GV W3 a M ∧ Below w.heap.size w W3 from ⟨K2.out.1.below hb K2.out.1.lt, K2.out.2.1.below hb K2.out.2.1.lt, K2.out.2.2.1.below hb, K2.out.2.2.2.1.below hb, below_step hb K2.out.2.2.2.2⟩)
  clear hb
  go_wp2_with fail
  refine (fa_Has a M _ _ _ 101253169 W3 K3.out.2.2.2.1 K3.out.2.2.1 (by have := K3.out.2.2.2.2.size; have := HM.out; omega)).mono ?_
  rintro e W4 ⟨rfl, hb⟩
  have x0 := (K3.out.1.below hb K3.out.1.lt).cell 0 (u := .iface tt x) rfl
  have x1 := (K3.out.2.1.below hb K3.out.2.1.lt).cell 0 (u := .nilIface) rfl
  have K4 := hide (show Blk W4 w2.heap.size 28 #[.iface tt x] ∧ Blk W4 R 28 #[.nilIface] ∧ Ch W4 a (.sent (famN 101253169)) [134217728, 101253169] (.iface tt x) ∧ GV W4 a M ∧ Below w.heap.size w W4 from ⟨K3.out.1.below hb K3.out.1.lt, K3.out.2.1.below hb K3.out.2.1.lt, K3.out.2.2.1.below hb, K3.out.2.2.2.1.below hb, below_step hb K3.out.2.2.2.2⟩)
  clear hb
  go_wp2_with fail
  have HTX := fa_Text 100728834 W4 (by decide)
  rw [show bs (textL 100728834) = (⟨#[48, 54, 48, 49, 48, 48, 48, 50, 32, 114, 101, 97, 100, 32, 111, 110, 108, 121]⟩ : ByteArray) from by rfl] at HTX
  refine HTX.mono ?_
  clear HTX
  rintro e W5 ⟨rfl, hb⟩
  have x0 := (K4.out.1.below hb K4.out.1.lt).cell 0 (u := .iface tt x) rfl
  have x1 := (K4.out.2.1.below hb K4.out.2.1.lt).cell 0 (u := .nilIface) rfl
  have K5 := hide (show Blk W5 w2.heap.size 28 #[.iface tt x] ∧ Blk W5 R 28 #[.nilIface] ∧ Ch W5 a (.sent (famN 101253169)) [134217728, 101253169] (.iface tt x) ∧ GV W5 a M ∧ Below w.heap.size w W5 from ⟨K4.out.1.below hb K4.out.1.lt, K4.out.2.1.below hb K4.out.2.1.lt, K4.out.2.2.1.below hb, K4.out.2.2.2.1.below hb, below_step hb K4.out.2.2.2.2⟩)
  clear hb
  go_wp2_with fail
  refine (fa_Code0 W5).mono ?_
  rintro e W6 ⟨rfl, hb⟩
  have x0 := (K5.out.1.below hb K5.out.1.lt).cell 0 (u := .iface tt x) rfl
  have x1 := (K5.out.2.1.below hb K5.out.2.1.lt).cell 0 (u := .nilIface) rfl
  have K6 := hide (show Blk W6 w2.heap.size 28 #[.iface tt x] ∧ Blk W6 R 28 #[.nilIface] ∧ Ch W6 a (.sent (famN 101253169)) [134217728, 101253169] (.iface tt x) ∧ GV W6 a M ∧ Below w.heap.size w W6 from ⟨K5.out.1.below hb K5.out.1.lt, K5.out.2.1.below hb K5.out.2.1.lt, K5.out.2.2.1.below hb, K5.out.2.2.2.1.below hb, below_step hb K5.out.2.2.2.2⟩)
  clear hb
  go_wp2_with fail
  refine (fa_Depth0 W6).mono ?_
  rintro e W7 ⟨rfl, hb⟩
  have x0 := (K6.out.1.below hb K6.out.1.lt).cell 0 (u := .iface tt x) rfl
  have x1 := (K6.out.2.1.below hb K6.out.2.1.lt).cell 0 (u := .nilIface) rfl
  have K7 := hide (show Blk W7 w2.heap.size 28 #[.iface tt x] ∧ Blk W7 R 28 #[.nilIface] ∧ Ch W7 a (.sent (famN 101253169)) [134217728, 101253169] (.iface tt x) ∧ GV W7 a M ∧ Below w.heap.size w W7 from ⟨K6.out.1.below hb K6.out.1.lt, K6.out.2.1.below hb K6.out.2.1.lt, K6.out.2.2.1.below hb, K6.out.2.2.2.1.below hb, below_step hb K6.out.2.2.2.2⟩)
  clear hb
  go_wp2_with fail
  go_ret
  exact ⟨rfl, K7.out.2.2.2.2⟩
end Go.Proofs.YtkhbcmkcjnnejaaDoor
