/- Package sdomsg and its reference: Same. -/
import Derived.Test.YthdbckbpldlkeaaSdA
namespace Go.Proofs.Ythdbckbpldlkeaa
set_option linter.unusedVariables false
set_option linter.unusedSimpArgs false
set_option linter.unnecessarySimpa false
open Go.RowKit
set_option maxRecDepth 100000
set_option maxHeartbeats 4000000

theorem sd_same (M N : Ms) (A1 A2 : Option Addr) (n1 c1 n2 c2 : Nat) (w : World) (hn1 : n1 = M.data.length) (hn2 : n2 = N.data.length) (h1 : Sl w A1 (M.data.map bv)) (h2 : Sl w A2 (N.data.map bv)) :
    Calls Try.prog 88 #[.agg (msV M A1 n1 c1), .agg (msV N A2 n2 c2)] w fun e w' => e = .returned (.bool (sameB M N)) ∧ Below w.heap.size w w' := by
  have t1 := str_b c1 hn1 ((h1.alloc (.cells (msV M A1 n1 c1) 63)).alloc (.cells (msV N A2 n2 c2) 63))
  have t2 := str_b c2 hn2 ((h2.alloc (.cells (msV M A1 n1 c1) 63)).alloc (.cells (msV N A2 n2 c2) 63))
  obtain ⟨kind, ix, sub, tg, la, cr, sz, size, code, data, sq, bl, em, sum⟩ := M
  obtain ⟨kind', ix', sub', tg', la', cr', sz', size', code', data', sq', bl', em', sum'⟩ := N
  simp only [msV] at *
  by_cases he : kind = kind' ∧ ix = ix' ∧ sub = sub' ∧ tg = tg' ∧ la = la' ∧ cr = cr' ∧ sz = sz' ∧ size = size' ∧ code = code' ∧ sq = sq' ∧ bl = bl' ∧ em = em' ∧ sum = sum'
  · obtain ⟨rfl, rfl, rfl, rfl, rfl, rfl, rfl, rfl, rfl, rfl, rfl, rfl, rfl⟩ := he
    clear hn1 hn2 h1 h2
    go_enter Try.func88, Try.ntmps88
    go_wp2_with fail
    all_goals
      go_ret
      refine ⟨ret_bool ?_, below_alloc (below_alloc (Below.refl _ _) _) _⟩
      go_light
      clear t1 t2
      rw [Bool.eq_iff_iff]
      simp_all [sameB]
  · have HE := hide he
    have HNE : Hid (sameB ⟨kind, ix, sub, tg, la, cr, sz, size, code, data, sq, bl, em, sum⟩ ⟨kind', ix', sub', tg', la', cr', sz', size', code', data', sq', bl', em', sum'⟩ = false) := hide (by
      unfold sameB
      rw [decide_eq_false_iff_not]
      intro h
      injection h with h1 h2 h3 h4 h5 h6 h7 h8 h9 h10 h11 h12 h13 h14
      exact he ⟨h1, h2, h3, h4, h5, h6, h7, h8, h9, h11, h12, h13, h14⟩)
    clear hn1 hn2 h1 h2 he t1 t2
    go_enter Try.func88, Try.ntmps88
    go_wp2_with fail
    all_goals first
      | (go_ret
         exact ⟨ret_bool HNE.out.symm, below_alloc (below_alloc (Below.refl _ _) _) _⟩)
      | (exfalso
         go_light
         have := HE.out
         simp_all
         done)
      | (exfalso
         go_light
         have := HE.out
         simp_all
         omega)
end Go.Proofs.Ythdbckbpldlkeaa
