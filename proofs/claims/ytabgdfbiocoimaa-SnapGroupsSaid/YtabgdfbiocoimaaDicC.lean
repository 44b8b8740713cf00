/- Package dict: Find, locate. -/
import Derived.Test.YtabgdfbiocoimaaDicB
namespace Go.Proofs.Ytabgdfbiocoimaa
set_option linter.unusedVariables false
set_option linter.unusedSimpArgs false
set_option linter.unnecessarySimpa false
open Go.RowKit
set_option maxRecDepth 100000
set_option maxHeartbeats 2000000
section
variable {F : Nat → Prop} {p n cl cv : Nat} {Av : Option Addr} {L : List Ent} {V : List (List UInt8)} {ds es : List (Option Addr × Nat)} {gl : Nat}
theorem dict_find (ix sub : Int) (w : World) (hD : DB 86 w F p (some ⟨gl, 0, none⟩) n cl Av cv L V ds es) (hs : SortedE L) (hn : n ≤ 1000) :
    Calls Try.prog 21 #[.pointer (some ⟨p, 0, none⟩), .int .i64 ix, .int .i64 sub] w fun e w' => e = .returned (.tuple #[.int .i64 (locK L ix sub), .bool (hasL L ix sub)]) ∧ Below w.heap.size w w' := by
  have HC := hide (find_cases L ix sub hs)
  have HS := hide hs
  have HD := hide hD
  clear hs hD
  go_enter Try.func21, Try.ntmps21
  go_wp2_with fail
  refine (dict_seek ix sub _ HD.out HS.out hn).mono ?_
  rintro e w1 ⟨rfl, hb1⟩
  go_wp2_with fail
  refine (dict_at _ ix sub _ (HD.out.below hb1)).mono ?_
  rintro e w2 ⟨rfl, rfl⟩
  cases h : hereB L[seekL L ix sub]? ix sub
  · have HF : Hid (locK L ix sub = 0 ∧ hasL L ix sub = false) := hide (by
      have := HC.out
      rw [h] at this
      unfold locK hasL
      rcases this with ⟨h1, _⟩ | ⟨_, _, h1⟩ | ⟨_, _, _, h1⟩ | ⟨_, _, _, h1⟩
      · cases h1
      all_goals (rw [h1]; exact ⟨rfl, rfl⟩))
    clear h
    go_wp2_with fail
    go_ret2
    refine ⟨?_, hb1⟩
    rw [HF.out.1, HF.out.2]
    rfl
  · have HF : Hid (locK L ix sub = seekL L ix sub ∧ hasL L ix sub = true) := hide (by
      have := HC.out
      rw [h] at this
      unfold locK hasL
      rcases this with ⟨_, h1, _⟩ | ⟨h1, _⟩ | ⟨h1, _⟩ | ⟨h1, _⟩
      · rw [h1]; exact ⟨rfl, by simp⟩
      all_goals cases h1)
    clear h
    go_wp2_with fail
    go_ret2
    refine ⟨?_, hb1⟩
    rw [HF.out.1, HF.out.2]
    rfl
theorem dict_seek0 (ix sub : Int) (w : World) : Calls Try.prog 60 #[.pointer none, .int .i64 ix, .int .i64 sub] w fun e w' => e = .returned (.int .i64 0) ∧ Below w.heap.size w w' := by
  have hbw := below_alloc (Below.refl w.heap.size w) (.cells (entV (plE ix sub) none 0 0) 39)
  go_enter Try.func60, Try.ntmps60
  go_wp2_with fail
  refine (dict_len0 _).mono ?_
  rintro e w1 ⟨rfl, rfl⟩
  go_wp2_with fail
  go_loopw [8, 9] (fun lo hi wr => lo = .int .i64 0 ∧ hi = .int .i64 0 ∧ wr = (w.alloc (.cells (entV (plE ix sub) none 0 0) 39))) (fun lo hi _ => 0)
  case atStart => exact ⟨rfl, rfl, rfl⟩
  case round =>
    obtain ⟨rfl, rfl, rfl⟩ := hrel
    go_wp2_with fail
    go_ret
    exact ⟨rfl, hbw⟩
theorem dict_at0 (k : Nat) (ix sub : Int) (w : World) :
    Calls Try.prog 61 #[.pointer none, .int .i64 k, .int .i64 ix, .int .i64 sub] w fun e w' => e = .returned (.bool false) ∧ w = w' := by
  go_enter Try.func61, Try.ntmps61
  go_wp2_with fail
  refine (dict_len0 _).mono ?_
  rintro e w1 ⟨rfl, rfl⟩
  go_wp2_with fail
  go_ret
  exact ⟨rfl, rfl⟩
theorem dict_find0 (ix sub : Int) (w : World) : Calls Try.prog 21 #[.pointer none, .int .i64 ix, .int .i64 sub] w fun e w' => e = .returned (.tuple #[.int .i64 0, .bool false]) ∧ Below w.heap.size w w' := by
  go_enter Try.func21, Try.ntmps21
  go_wp2_with fail
  refine (dict_seek0 ix sub _).mono ?_
  rintro e w1 ⟨rfl, hb1⟩
  go_wp2_with fail
  refine (dict_at0 0 ix sub _).mono ?_
  rintro e w2 ⟨rfl, rfl⟩
  go_wp2_with fail
  go_ret2
  exact ⟨rfl, hb1⟩
theorem dict_locate0 (ix sub : Int) (w : World) : Calls Try.prog 57 #[.pointer none, .int .i64 ix, .int .i64 sub] w fun e w' => e = .returned (.tuple #[.int .i64 0, .int .u32 100925511]) ∧ w = w' := by
  go_enter Try.func57, Try.ntmps57
  go_wp2_with fail
  refine (dict_there0 _).mono ?_
  rintro e w1 ⟨rfl, rfl⟩
  go_wp2_with fail
  go_ret2
  exact ⟨rfl, rfl⟩
theorem dict_locate (ix sub : Int) (w : World) (hD : DB 86 w F p (some ⟨gl, 0, none⟩) n cl Av cv L V ds es) (hs : SortedE L) (hn : n ≤ 1000) :
    Calls Try.prog 57 #[.pointer (some ⟨p, 0, none⟩), .int .i64 ix, .int .i64 sub] w fun e w' => e = .returned (.tuple #[.int .i64 (locK L ix sub), .int .u32 (codeL L ix sub)]) ∧ Below w.heap.size w w' := by
  have HC := find_cases L ix sub hs
  have HS := hide hs
  have HD := hide hD
  have HL : seekL L ix sub ≤ n := by rw [hD.ents.hn]; exact seek_le L ix sub
  clear hs hD
  go_enter Try.func57, Try.ntmps57
  go_wp2_with fail
  refine (dict_there _ HD.out.blk).mono ?_
  rintro e w1 ⟨rfl, rfl⟩
  go_wp2_with fail
  refine (dict_seek ix sub _ HD.out HS.out hn).mono ?_
  rintro e w1 ⟨rfl, hb1⟩
  have HD1 := hide (HD.out.below hb1)
  rcases HC with ⟨h1, h2, h3⟩ | ⟨h1, h2, h3⟩ | ⟨h1, h2, h3, h4⟩ | ⟨h1, h2, h3, h4⟩
  · have HF : Hid (locK L ix sub = seekL L ix sub ∧ codeL L ix sub = 0) := hide (by unfold locK codeL; rw [h2]; exact ⟨rfl, if_pos (by omega)⟩)
    have H1 := hide h1
    clear h1 h2 h3
    go_wp2_with fail
    refine (dict_at _ ix sub _ HD1.out).mono ?_
    rintro e w2 ⟨rfl, rfl⟩
    rw [H1.out]
    go_wp2_with fail
    go_ret2
    refine ⟨?_, hb1⟩
    rw [HF.out.1, HF.out.2]
    rfl
  · have HF : Hid (locK L ix sub = 0 ∧ codeL L ix sub = 101253137) := hide (by unfold locK codeL; rw [h3]; exact ⟨rfl, rfl⟩)
    have H1 := hide h1
    have H2 := hide h2
    clear h1 h2 h3
    go_wp2_with fail
    refine (dict_at _ ix sub _ HD1.out).mono ?_
    rintro e w2 ⟨rfl, rfl⟩
    rw [H1.out]
    go_wp2_with fail
    refine (dict_in _ ix sub _ HD1.out).mono ?_
    rintro e w2 ⟨rfl, rfl⟩
    rw [H2.out]
    go_wp2_with fail
    go_ret2
    refine ⟨?_, hb1⟩
    rw [HF.out.1, HF.out.2]
    rfl
  · have HF : Hid (locK L ix sub = 0 ∧ codeL L ix sub = 101253137) := hide (by unfold locK codeL; rw [h4]; exact ⟨rfl, rfl⟩)
    have H1 := hide h1
    have H2 := hide h2
    have H3 := hide h3
    clear h1 h2 h3 h4
    go_wp2_with fail
    refine (dict_at _ ix sub _ HD1.out).mono ?_
    rintro e w2 ⟨rfl, rfl⟩
    rw [H1.out]
    go_wp2_with fail
    refine (dict_in _ ix sub _ HD1.out).mono ?_
    rintro e w2 ⟨rfl, rfl⟩
    rw [H2.out]
    go_wp2_with fail
    refine (dict_in _ ix sub _ HD1.out).mono ?_
    rintro e w2 ⟨rfl, rfl⟩
    rw [H3.out]
    go_wp2_with fail
    go_ret2
    refine ⟨?_, hb1⟩
    rw [HF.out.1, HF.out.2]
    rfl
  · have HF : Hid (locK L ix sub = 0 ∧ codeL L ix sub = 100794368) := hide (by unfold locK codeL; rw [h4]; exact ⟨rfl, rfl⟩)
    have H1 := hide h1
    have H2 := hide h2
    have H3 := hide h3
    clear h1 h2 h3 h4
    go_wp2_with fail
    refine (dict_at _ ix sub _ HD1.out).mono ?_
    rintro e w2 ⟨rfl, rfl⟩
    rw [H1.out]
    go_wp2_with fail
    refine (dict_in _ ix sub _ HD1.out).mono ?_
    rintro e w2 ⟨rfl, rfl⟩
    rw [H2.out]
    go_wp2_with fail
    refine (dict_in _ ix sub _ HD1.out).mono ?_
    rintro e w2 ⟨rfl, rfl⟩
    rw [H3.out]
    go_wp2_with fail
    go_ret2
    refine ⟨?_, hb1⟩
    rw [HF.out.1, HF.out.2]
    rfl
end
end Go.Proofs.Ytabgdfbiocoimaa
