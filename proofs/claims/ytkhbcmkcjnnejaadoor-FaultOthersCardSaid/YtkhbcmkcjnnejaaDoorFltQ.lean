/- Package fault: Say. -/
import Derived.Test.YtkhbcmkcjnnejaaDoorFltO
namespace Go.Proofs.YtkhbcmkcjnnejaaDoor
set_option linter.unusedVariables false
set_option linter.unusedSimpArgs false
set_option linter.unnecessarySimpa false
open Go.RowKit Go.Extern.Stop Go.Stop Go.Extern
set_option maxRecDepth 20000
set_option maxHeartbeats 8000000

theorem fa_Say0 (w : World) : Calls Tryd.prog 16 #[.agg #[.nilIface]] w fun e w' => e = .returned (.string (bs [])) ∧ Below w.heap.size w w' := by
  have HB := hide (below_alloc (below_alloc (Below.refl w.heap.size w) (.cells #[.nilIface] 28)) (.cells #[.pointer none] 48))
  go_enter Tryd.func16, Tryd.ntmps16
  go_wp2_with fail
  go_ret
  exact ⟨rfl, HB.out⟩
theorem fa_Say (a : Nat → Addr) (M : Nat) (e : FEnd) (c : Nat) (cs : List Nat) (v : Value) (w : World) (hG : GV w a M) (hC : Ch w a e (c :: cs) v) (hc : ∀ x ∈ c :: cs, x ≤ 4294967295) (hl : cs.length ≤ 1000) (he : endL e ≤ 1000000) (hM : M ≤ w.heap.size) :
    Calls Tryd.prog 16 #[.agg #[v]] w fun e' w' => e' = .returned (.string (bs (sayC (c :: cs) (endT e)))) ∧ Below w.heap.size w w' := by
  have hC0 := hC
  obtain ⟨p, u, rfl, hB, -⟩ := hC
  have hb := below_alloc (below_alloc (Below.refl w.heap.size w) (.cells #[.iface 48 (.pointer (some ⟨p, 0, none⟩))] 28)) (.cells #[.pointer none] 48)
  have kk := blk_two w 28 48 #[.iface 48 (.pointer (some ⟨p, 0, none⟩))] #[.pointer none]
  have HAS := hide (eAs_link p (w.heap.size + 1) (.pointer none) _ kk.2 (hG.below hb).et)
  have hC1 := hC0.below hb
  have hG1 := hG.below hb
  have hk2 := kk.2
  have HX := hide (fun W (hO : Only (fun k => k = w.heap.size + 1) _ W) => (hC1.only1 hk2 (by decide) (by decide) hO))
  have HY := hide (fun W (hO : Only (fun k => k = w.heap.size + 1) _ W) => (hG1.only hO (fun k hk => by omega)))
  have HB := hide hb
  have zp := hB.lt
  have hne : ¬ p = w.heap.size + 1 := by omega
  clear hB hb kk hG hC0 hC1 hG1 hk2
  go_enter Tryd.func16, Tryd.ntmps16
  go_wp2_with fail
  refine HAS.out.mono ?_
  rintro e' w2 ⟨rfl, hL, hO⟩
  have l0 := hL.cell 0 (u := .pointer (some ⟨p, 0, none⟩)) rfl
  have HB2 := hide (below_only hO HB.out (fun i hi => by omega))
  have HI := hide (fa_Error a M e cs c p w2 (HY.out w2 hO) (HX.out w2 hO) hc hl he (by have := HB2.out.size; omega))
  clear hL hO
  go_wp2_with fail
  refine HI.out.mono ?_
  rintro e' w3 ⟨rfl, hb3⟩
  have HB3 := hide (below_step hb3 HB2.out)
  clear hb3
  go_wp2_with fail
  go_ret
  exact ⟨rfl, HB3.out⟩
end Go.Proofs.YtkhbcmkcjnnejaaDoor
