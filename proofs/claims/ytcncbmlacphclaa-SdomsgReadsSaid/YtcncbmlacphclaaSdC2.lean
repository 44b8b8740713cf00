/- Package sdomsg's reference: Same (printed by wip/tools/gen_same.py). -/
import Derived.Test.YtcncbmlacphclaaSdC2a
import Derived.Test.YtcncbmlacphclaaSdC2b
import Derived.Test.YtcncbmlacphclaaSdC2c
namespace Go.Proofs.Ytcncbmlacphclaa
set_option linter.unusedVariables false
set_option linter.unusedSimpArgs false
set_option linter.unnecessarySimpa false
open Go.RowKit
set_option maxRecDepth 100000
set_option maxHeartbeats 8000000


theorem rsd_same (M N : Ms) (A1 A2 : Option Addr) (n1 c1 n2 c2 : Nat) (w : World) (hn1 : n1 = M.data.length) (hn2 : n2 = N.data.length) (h1 : Sl w A1 (M.data.map bv)) (h2 : Sl w A2 (N.data.map bv)) :
    Calls Try.prog 36 #[.agg (msV M A1 n1 c1), .agg (msV N A2 n2 c2)] w fun e w' => e = .returned (.bool (sameB M N)) ∧ Below w.heap.size w w' := by
  have t1 := str_b c1 hn1 ((h1.alloc (.cells (msV M A1 n1 c1) 43)).alloc (.cells (msV N A2 n2 c2) 43))
  have t2 := str_b c2 hn2 ((h2.alloc (.cells (msV M A1 n1 c1) 43)).alloc (.cells (msV N A2 n2 c2) 43))
  clear hn1 hn2 h1 h2
  obtain ⟨kind, ix, sub, tg, la, cr, sz, size, code, data, sq, bl, em, sum⟩ := M
  obtain ⟨kind', ix', sub', tg', la', cr', sz', size', code', data', sq', bl', em', sum'⟩ := N
  simp only [msV] at *
  by_cases hne : kind = kind'
  case neg =>
    have HNE : sameB ⟨kind, ix, sub, tg, la, cr, sz, size, code, data, sq, bl, em, sum⟩ ⟨kind', ix', sub', tg', la', cr', sz', size', code', data', sq', bl', em', sum'⟩ = false := by
      unfold sameB
      rw [decide_eq_false_iff_not]
      intro h
      injection h with h1 h2 h3 h4 h5 h6 h7 h8 h9 h10 h11 h12 h13 h14
      exact hne (by assumption)
    rw [HNE]
    exact rsd_same_0 kind ix sub tg la cr sz size code sq bl em sum kind' ix' sub' tg' la' cr' sz' size' code' sq' bl' em' sum' ⟨data.toArray⟩ ⟨data'.toArray⟩ A1 A2 n1 c1 n2 c2 w hne t1 t2
  subst hne
  by_cases hne : ix = ix'
  case neg =>
    have HNE : sameB ⟨kind, ix, sub, tg, la, cr, sz, size, code, data, sq, bl, em, sum⟩ ⟨kind, ix', sub', tg', la', cr', sz', size', code', data', sq', bl', em', sum'⟩ = false := by
      unfold sameB
      rw [decide_eq_false_iff_not]
      intro h
      injection h with h1 h2 h3 h4 h5 h6 h7 h8 h9 h10 h11 h12 h13 h14
      exact hne (by assumption)
    rw [HNE]
    exact rsd_same_1 kind ix sub tg la cr sz size code sq bl em sum ix' sub' tg' la' cr' sz' size' code' sq' bl' em' sum' ⟨data.toArray⟩ ⟨data'.toArray⟩ A1 A2 n1 c1 n2 c2 w hne t1 t2
  subst hne
  by_cases hne : sub = sub'
  case neg =>
    have HNE : sameB ⟨kind, ix, sub, tg, la, cr, sz, size, code, data, sq, bl, em, sum⟩ ⟨kind, ix, sub', tg', la', cr', sz', size', code', data', sq', bl', em', sum'⟩ = false := by
      unfold sameB
      rw [decide_eq_false_iff_not]
      intro h
      injection h with h1 h2 h3 h4 h5 h6 h7 h8 h9 h10 h11 h12 h13 h14
      exact hne (by assumption)
    rw [HNE]
    exact rsd_same_2 kind ix sub tg la cr sz size code sq bl em sum sub' tg' la' cr' sz' size' code' sq' bl' em' sum' ⟨data.toArray⟩ ⟨data'.toArray⟩ A1 A2 n1 c1 n2 c2 w hne t1 t2
  subst hne
  by_cases hne : tg = tg'
  case neg =>
    have HNE : sameB ⟨kind, ix, sub, tg, la, cr, sz, size, code, data, sq, bl, em, sum⟩ ⟨kind, ix, sub, tg', la', cr', sz', size', code', data', sq', bl', em', sum'⟩ = false := by
      unfold sameB
      rw [decide_eq_false_iff_not]
      intro h
      injection h with h1 h2 h3 h4 h5 h6 h7 h8 h9 h10 h11 h12 h13 h14
      exact hne (by assumption)
    rw [HNE]
    exact rsd_same_3 kind ix sub tg la cr sz size code sq bl em sum tg' la' cr' sz' size' code' sq' bl' em' sum' ⟨data.toArray⟩ ⟨data'.toArray⟩ A1 A2 n1 c1 n2 c2 w hne t1 t2
  subst hne
  by_cases hne : la = la'
  case neg =>
    have HNE : sameB ⟨kind, ix, sub, tg, la, cr, sz, size, code, data, sq, bl, em, sum⟩ ⟨kind, ix, sub, tg, la', cr', sz', size', code', data', sq', bl', em', sum'⟩ = false := by
      unfold sameB
      rw [decide_eq_false_iff_not]
      intro h
      injection h with h1 h2 h3 h4 h5 h6 h7 h8 h9 h10 h11 h12 h13 h14
      exact hne (by assumption)
    rw [HNE]
    exact rsd_same_4 kind ix sub tg la cr sz size code sq bl em sum la' cr' sz' size' code' sq' bl' em' sum' ⟨data.toArray⟩ ⟨data'.toArray⟩ A1 A2 n1 c1 n2 c2 w hne t1 t2
  subst hne
  by_cases hne : cr = cr'
  case neg =>
    have HNE : sameB ⟨kind, ix, sub, tg, la, cr, sz, size, code, data, sq, bl, em, sum⟩ ⟨kind, ix, sub, tg, la, cr', sz', size', code', data', sq', bl', em', sum'⟩ = false := by
      unfold sameB
      rw [decide_eq_false_iff_not]
      intro h
      injection h with h1 h2 h3 h4 h5 h6 h7 h8 h9 h10 h11 h12 h13 h14
      exact hne (by assumption)
    rw [HNE]
    exact rsd_same_5 kind ix sub tg la cr sz size code sq bl em sum cr' sz' size' code' sq' bl' em' sum' ⟨data.toArray⟩ ⟨data'.toArray⟩ A1 A2 n1 c1 n2 c2 w hne t1 t2
  subst hne
  by_cases hne : sz = sz'
  case neg =>
    have HNE : sameB ⟨kind, ix, sub, tg, la, cr, sz, size, code, data, sq, bl, em, sum⟩ ⟨kind, ix, sub, tg, la, cr, sz', size', code', data', sq', bl', em', sum'⟩ = false := by
      unfold sameB
      rw [decide_eq_false_iff_not]
      intro h
      injection h with h1 h2 h3 h4 h5 h6 h7 h8 h9 h10 h11 h12 h13 h14
      exact hne (by assumption)
    rw [HNE]
    exact rsd_same_6 kind ix sub tg la cr sz size code sq bl em sum sz' size' code' sq' bl' em' sum' ⟨data.toArray⟩ ⟨data'.toArray⟩ A1 A2 n1 c1 n2 c2 w hne t1 t2
  subst hne
  by_cases hne : size = size'
  case neg =>
    have HNE : sameB ⟨kind, ix, sub, tg, la, cr, sz, size, code, data, sq, bl, em, sum⟩ ⟨kind, ix, sub, tg, la, cr, sz, size', code', data', sq', bl', em', sum'⟩ = false := by
      unfold sameB
      rw [decide_eq_false_iff_not]
      intro h
      injection h with h1 h2 h3 h4 h5 h6 h7 h8 h9 h10 h11 h12 h13 h14
      exact hne (by assumption)
    rw [HNE]
    exact rsd_same_7 kind ix sub tg la cr sz size code sq bl em sum size' code' sq' bl' em' sum' ⟨data.toArray⟩ ⟨data'.toArray⟩ A1 A2 n1 c1 n2 c2 w hne t1 t2
  subst hne
  by_cases hne : code = code'
  case neg =>
    have HNE : sameB ⟨kind, ix, sub, tg, la, cr, sz, size, code, data, sq, bl, em, sum⟩ ⟨kind, ix, sub, tg, la, cr, sz, size, code', data', sq', bl', em', sum'⟩ = false := by
      unfold sameB
      rw [decide_eq_false_iff_not]
      intro h
      injection h with h1 h2 h3 h4 h5 h6 h7 h8 h9 h10 h11 h12 h13 h14
      exact hne (by assumption)
    rw [HNE]
    exact rsd_same_8 kind ix sub tg la cr sz size code sq bl em sum code' sq' bl' em' sum' ⟨data.toArray⟩ ⟨data'.toArray⟩ A1 A2 n1 c1 n2 c2 w hne t1 t2
  subst hne
  by_cases hne : data = data'
  case neg =>
    have HNE : sameB ⟨kind, ix, sub, tg, la, cr, sz, size, code, data, sq, bl, em, sum⟩ ⟨kind, ix, sub, tg, la, cr, sz, size, code, data', sq', bl', em', sum'⟩ = false := by
      unfold sameB
      rw [decide_eq_false_iff_not]
      intro h
      injection h with h1 h2 h3 h4 h5 h6 h7 h8 h9 h10 h11 h12 h13 h14
      exact hne (by assumption)
    rw [HNE]
    exact rsd_same_9 kind ix sub tg la cr sz size code sq bl em sum sq' bl' em' sum' ⟨data.toArray⟩ ⟨data'.toArray⟩ A1 A2 n1 c1 n2 c2 w (fun h => hne (by simpa using h)) t1 t2
  subst hne
  by_cases hne : sq = sq'
  case neg =>
    have HNE : sameB ⟨kind, ix, sub, tg, la, cr, sz, size, code, data, sq, bl, em, sum⟩ ⟨kind, ix, sub, tg, la, cr, sz, size, code, data, sq', bl', em', sum'⟩ = false := by
      unfold sameB
      rw [decide_eq_false_iff_not]
      intro h
      injection h with h1 h2 h3 h4 h5 h6 h7 h8 h9 h10 h11 h12 h13 h14
      exact hne (by assumption)
    rw [HNE]
    exact rsd_same_10 kind ix sub tg la cr sz size code sq bl em sum sq' bl' em' sum' ⟨data.toArray⟩ A1 A2 n1 c1 n2 c2 w hne t1 t2
  subst hne
  by_cases hne : bl = bl'
  case neg =>
    have HNE : sameB ⟨kind, ix, sub, tg, la, cr, sz, size, code, data, sq, bl, em, sum⟩ ⟨kind, ix, sub, tg, la, cr, sz, size, code, data, sq, bl', em', sum'⟩ = false := by
      unfold sameB
      rw [decide_eq_false_iff_not]
      intro h
      injection h with h1 h2 h3 h4 h5 h6 h7 h8 h9 h10 h11 h12 h13 h14
      exact hne (by assumption)
    rw [HNE]
    exact rsd_same_11 kind ix sub tg la cr sz size code sq bl em sum bl' em' sum' ⟨data.toArray⟩ A1 A2 n1 c1 n2 c2 w hne t1 t2
  subst hne
  by_cases hne : em = em'
  case neg =>
    have HNE : sameB ⟨kind, ix, sub, tg, la, cr, sz, size, code, data, sq, bl, em, sum⟩ ⟨kind, ix, sub, tg, la, cr, sz, size, code, data, sq, bl, em', sum'⟩ = false := by
      unfold sameB
      rw [decide_eq_false_iff_not]
      intro h
      injection h with h1 h2 h3 h4 h5 h6 h7 h8 h9 h10 h11 h12 h13 h14
      exact hne (by assumption)
    rw [HNE]
    exact rsd_same_12 kind ix sub tg la cr sz size code sq bl em sum em' sum' ⟨data.toArray⟩ A1 A2 n1 c1 n2 c2 w hne t1 t2
  subst hne
  by_cases hne : sum = sum'
  case neg =>
    have HNE : sameB ⟨kind, ix, sub, tg, la, cr, sz, size, code, data, sq, bl, em, sum⟩ ⟨kind, ix, sub, tg, la, cr, sz, size, code, data, sq, bl, em, sum'⟩ = false := by
      unfold sameB
      rw [decide_eq_false_iff_not]
      intro h
      injection h with h1 h2 h3 h4 h5 h6 h7 h8 h9 h10 h11 h12 h13 h14
      exact hne (by assumption)
    rw [HNE]
    exact rsd_same_13 kind ix sub tg la cr sz size code sq bl em sum sum' ⟨data.toArray⟩ A1 A2 n1 c1 n2 c2 w hne t1 t2
  subst hne
  have HE : sameB ⟨kind, ix, sub, tg, la, cr, sz, size, code, data, sq, bl, em, sum⟩ ⟨kind, ix, sub, tg, la, cr, sz, size, code, data, sq, bl, em, sum⟩ = true := by unfold sameB; exact decide_eq_true rfl
  rw [HE]
  exact rsd_same_14 kind ix sub tg la cr sz size code sq bl em sum ⟨data.toArray⟩ A1 A2 n1 c1 n2 c2 w t1 t2
end Go.Proofs.Ytcncbmlacphclaa
