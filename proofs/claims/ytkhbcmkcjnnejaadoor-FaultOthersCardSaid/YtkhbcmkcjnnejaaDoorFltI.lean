/- Package fault: Depth, Has. -/
import Derived.Test.YtkhbcmkcjnnejaaDoorFltH
namespace Go.Proofs.YtkhbcmkcjnnejaaDoor
set_option linter.unusedVariables false
set_option linter.unusedSimpArgs false
set_option linter.unnecessarySimpa false
open Go.RowKit Go.Extern.Stop Go.Stop Go.Extern
set_option maxRecDepth 20000
set_option maxHeartbeats 8000000

theorem each_nil (F : Value) (w : World) : Calls Tryd.prog 26 #[.agg #[.nilIface], F] w fun e w' => e = .returned (.tuple #[]) ∧ Below w.heap.size w w' := by
  have HB := hide (below_alloc (below_alloc (Below.refl w.heap.size w) (.cells #[.nilIface] 28)) (.cells #[.pointer none] 48))
  go_enter Tryd.func26, Tryd.ntmps26
  go_wp2_with fail
  refine wp_loop_rounds 1 ?_
  rw [rounds_succ]
  go_wp2_with fail
  go_end0
  exact ⟨rfl, HB.out⟩
theorem fa_Depth (a : Nat → Addr) (M : Nat) (e : FEnd) (cs : List Nat) (v : Value) (w : World) (hG : GV w a M) (hC : Ch w a e cs v) (hM : M ≤ w.heap.size) (hl : cs.length ≤ 1000) :
    Calls Tryd.prog 15 #[.agg #[v]] w fun e' w' => e' = .returned (.int .i64 (cs.length : Nat)) ∧ Below w.heap.size w w' := by
  have hb := below_alloc (below_alloc (Below.refl w.heap.size w) (.cells #[v] 28)) (.cells #[.int .i64 0] 3)
  have kk := blk_two w 28 3 #[v] #[.int .i64 0]
  have HE := hide (each_depth a M e cs v (w.heap.size + 1) 0 _ (hG.below hb) (hC.below hb) (by omega) kk.2 rfl hl)
  have HB := hide hb
  obtain ⟨n, hn⟩ : ∃ n, n = cs.length := ⟨_, rfl⟩
  rw [← hn] at HE ⊢
  obtain ⟨tt, x, rfl⟩ := ch_iface hC
  clear hG hC hb kk hn hl
  go_enter Tryd.func15, Tryd.ntmps15
  go_wp2_with fail
  refine HE.out.mono ?_
  rintro e' w2 ⟨rfl, hg, hO⟩
  have g0 := hg.cell 0 (u := .int .i64 (n : Nat)) rfl
  have HB2 := hide (below_only hO HB.out (fun i hi => by omega))
  clear hg hO
  go_wp2_with fail
  go_ret
  exact ⟨rfl, HB2.out⟩
theorem fa_Depth0 (w : World) : Calls Tryd.prog 15 #[.agg #[.nilIface]] w fun e w' => e = .returned (.int .i64 0) ∧ Below w.heap.size w w' := by
  have hb := below_alloc (below_alloc (Below.refl w.heap.size w) (.cells #[.nilIface] 28)) (.cells #[.int .i64 0] 3)
  have kk := blk_two w 28 3 #[.nilIface] #[.int .i64 0]
  have HK := hide kk.2
  have HB := hide hb
  clear hb kk
  go_enter Tryd.func15, Tryd.ntmps15
  go_wp2_with fail
  refine (each_nil _ _).mono ?_
  rintro e' w2 ⟨rfl, hb2⟩
  have g0 := (HK.out.below hb2 (by simp)).cell 0 (u := .int .i64 0) rfl
  have HB2 := hide (below_step hb2 HB.out)
  clear hb2
  go_wp2_with fail
  go_ret
  exact ⟨rfl, HB2.out⟩
theorem fa_Has (a : Nat → Addr) (M : Nat) (e : FEnd) (cs : List Nat) (v : Value) (x : Nat) (w : World) (hG : GV w a M) (hC : Ch w a e cs v) (hM : M ≤ w.heap.size) :
    Calls Tryd.prog 11 #[.agg #[v], .int .u32 (x : Nat)] w fun e' w' => e' = .returned (.bool (anyC x false cs)) ∧ Below w.heap.size w w' := by
  have hb := below_alloc (below_alloc (below_alloc (Below.refl w.heap.size w) (.cells #[v] 28)) (.cells #[.int .u32 (x : Nat)] 23)) (.cells #[.bool false] 4)
  have kk := blk_three w 28 23 4 #[v] #[.int .u32 (x : Nat)] #[.bool false]
  have HE := hide (each_has a M e cs v (w.heap.size + 2) (w.heap.size + 1) x false _ (hG.below hb) (hC.below hb) (by omega) kk.2.2 kk.2.1)
  have HB := hide hb
  obtain ⟨r, hr⟩ : ∃ n, n = anyC x false cs := ⟨_, rfl⟩
  rw [← hr] at HE ⊢
  obtain ⟨tt, xv, rfl⟩ := ch_iface hC
  clear hG hC hb kk hr
  go_enter Tryd.func11, Tryd.ntmps11
  go_wp2_with fail
  refine HE.out.mono ?_
  rintro e' w2 ⟨rfl, hg, hO⟩
  have g0 := hg.cell 0 (u := .bool r) rfl
  have HB2 := hide (below_only hO HB.out (fun i hi => by omega))
  clear hg hO
  go_wp2_with fail
  go_ret
  exact ⟨rfl, HB2.out⟩
theorem fa_Has0 (x : Nat) (w : World) : Calls Tryd.prog 11 #[.agg #[.nilIface], .int .u32 (x : Nat)] w fun e w' => e = .returned (.bool false) ∧ Below w.heap.size w w' := by
  have hb := below_alloc (below_alloc (below_alloc (Below.refl w.heap.size w) (.cells #[.nilIface] 28)) (.cells #[.int .u32 (x : Nat)] 23)) (.cells #[.bool false] 4)
  have kk := blk_three w 28 23 4 #[.nilIface] #[.int .u32 (x : Nat)] #[.bool false]
  have HK := hide kk.2.2
  have HB := hide hb
  clear hb kk
  go_enter Tryd.func11, Tryd.ntmps11
  go_wp2_with fail
  refine (each_nil _ _).mono ?_
  rintro e' w2 ⟨rfl, hb2⟩
  have g0 := (HK.out.below hb2 (by simp)).cell 0 (u := .bool false) rfl
  have HB2 := hide (below_step hb2 HB.out)
  clear hb2
  go_wp2_with fail
  go_ret
  exact ⟨rfl, HB2.out⟩
end Go.Proofs.YtkhbcmkcjnnejaaDoor
