/- The walk of DictNil. -/
import Derived.Test.YtabgdfbiocoimaaKn15
import Derived.Test.YtabgdfbiocoimaaRSam
import Derived.Test.YtabgdfbiocoimaaDicV
import Derived.Test.YtabgdfbiocoimaaDicY
import Derived.Test.YtabgdfbiocoimaaDicZ
namespace Go.Proofs.Ytabgdfbiocoimaa
set_option linter.unusedVariables false
set_option linter.unusedSimpArgs false
set_option linter.unnecessarySimpa false
open Go.RowKit
set_option maxRecDepth 100000
set_option maxHeartbeats 4000000
theorem dictNil_walk (ix sub : Int) (A : Option Addr) (n c : Nat) (w : World) :
    Calls Try.prog 7 #[.int .i64 ix, .int .i64 sub, .slice A n c] w (TrueB w) := by
  by_cases hb : 1000 < n
  · go_enter Try.func7, Try.ntmps7
    go_wp2_with fail
    refine (known_15 _).mono ?_
    rintro e w1 ⟨rfl, hb1⟩
    go_wp2_with fail
    go_ret
    exact (⟨rfl, hb1⟩ : TrueB w _ _)
  · go_enter Try.func7, Try.ntmps7
    go_wp2_with fail
    refine (dict_reset0 _).mono ?_
    rintro e w1 ⟨rfl, rfl⟩
    go_wp2_with fail
    refine (dict_get0 ix sub _).mono ?_
    rintro e w1 ⟨rfl, hb1⟩
    go_wp2_with fail
    refine (dict_peek0 ix sub _).mono ?_
    rintro e w2 ⟨rfl, hb2⟩
    go_wp2_with fail
    refine (dict_find0 ix sub _).mono ?_
    rintro e w3 ⟨rfl, hb3⟩
    go_wp2_with fail
    refine (dict_entry0 ix _).mono ?_
    rintro e w4 ⟨rfl, hb4⟩
    have hbw := below_step hb4 (below_step hb3 (below_step hb2 hb1))
    unfold entV zeroE
    go_wp2_with fail
    refine (dict_set0 ix sub _ _).mono ?_
    rintro e w5 ⟨rfl, rfl⟩
    go_wp2_with fail
    refine (dict_poke0 ix sub _ _).mono ?_
    rintro e w5 ⟨rfl, rfl⟩
    go_wp2_with fail
    refine (dict_may0 ix sub _ _).mono ?_
    rintro e w5 ⟨rfl, rfl⟩
    have q := blk_one w4 39 (entV zeroE none 0 0)
    unfold entV zeroE at q
    have q_c0 := q.cell 0 rfl
    have q_f0 := q.frozen 0
    have q_c1 := q.cell 1 rfl
    have q_f1 := q.frozen 1
    have q_c2 := q.cell 2 rfl
    have q_f2 := q.frozen 2
    have q_c3 := q.cell 3 rfl
    have q_f3 := q.frozen 3
    have q_c4 := q.cell 4 rfl
    have q_f4 := q.frozen 4
    have q_c5 := q.cell 5 rfl
    have q_f5 := q.frozen 5
    have q_c6 := q.cell 6 rfl
    have q_f6 := q.frozen 6
    have q_c7 := q.cell 7 rfl
    have q_f7 := q.frozen 7
    have q_c8 := q.cell 8 rfl
    have q_f8 := q.frozen 8
    have q_c9 := q.cell 9 rfl
    have q_f9 := q.frozen 9
    have q_c10 := q.cell 10 rfl
    have q_f10 := q.frozen 10
    have hbx := below_alloc hbw (.cells (entV zeroE none 0 0) 39)
    go_wp2_with fail
    refine (same_yes zeroE none none 0 0 0 0 _ rfl rfl (Sl.nil _ _) (Sl.nil _ _)).mono ?_
    rintro e w5 ⟨rfl, hb5⟩
    have hby := below_step hb5 hbx
    go_wp2_with fail
    refine (dict_len0 _).mono ?_
    rintro e w6 ⟨rfl, rfl⟩
    go_wp2_with fail
    refine (dict_values0 _).mono ?_
    rintro e w6 ⟨rfl, rfl⟩
    go_wp2_with fail
    refine (dict_copy0 _).mono ?_
    rintro e w6 ⟨rfl, rfl⟩
    go_wp2_with fail
    refine (known_15 _).mono ?_
    rintro e w6 ⟨rfl, hb6⟩
    go_wp2_with fail
    go_ret
    exact (⟨rfl, below_step hb6 hby⟩ : TrueB w _ _)
end Go.Proofs.Ytabgdfbiocoimaa
