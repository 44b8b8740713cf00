/- The walk of SnapBack. -/
import Derived.Test.YtapfadaplncpeaaSnapK
import Derived.Test.YtapfadaplncpeaaSnapL
namespace Go.Proofs.Ytapfadaplncpeaa
open Go.RowKit
set_option maxRecDepth 20000
set_option maxHeartbeats 1000000

def TrueB (w : World) (e : Ending) (w' : World) : Prop := e = .returned (.bool true) ∧ Below w.heap.size w w'

theorem snapBack_walk (A A2 : Option Addr) (n c n2 c2 : Nat) (L : List SV) (l : List UInt8) (w : World) (hn : n = L.length) (hc : n ≤ c) (hn2 : n2 = l.length) (hc2 : n2 ≤ c2)
    (hL : SlV w A L) (hs : Sl w A2 (l.map bv)) :
    Calls Try.prog 4 #[.slice A n c, .slice A2 n2 c2] w (TrueB w) := by
  have HN := hide hn
  have HN2 := hide hn2
  have HLT := hide (light_any A n c L w hn hc hL)
  clear hn hn2
  by_cases hlt : lightB L = true
  case neg =>
    have hlt : lightB L = false := by simpa using hlt
    go_enter Try.func4, Try.ntmps4
    go_wp2_with fail
    refine HLT.out.mono ?_
    rintro e w' ⟨rfl, rfl⟩
    go_wp2_with fail
    refine (known_18 _).mono ?_
    rintro e w1 ⟨rfl, hb1⟩
    go_wp2_with fail
    go_ret
    exact (⟨rfl, hb1⟩ : TrueB w _ _)
  case pos =>
    obtain ⟨hn200, hd⟩ := of_decide_eq_true (show decide (L.length ≤ 200 ∧ ∀ v ∈ L, v.data.length ≤ 2000) = true from hlt)
    have hn200 : n ≤ 200 := by have := HN.out; omega
    by_cases hbig : 5000 < n2
    · go_enter Try.func4, Try.ntmps4
      go_wp2_with fail
      refine HLT.out.mono ?_
      rintro e w' ⟨rfl, rfl⟩
      go_wp2_with fail
      refine (known_18 _).mono ?_
      rintro e w1 ⟨rfl, hb1⟩
      go_wp2_with fail
      go_ret
      exact (⟨rfl, hb1⟩ : TrueB w _ _)
    · have hfit : fitsV L := fun v hv => by have := hd v hv; omega
      have HD := hide hd
      clear hd
      go_enter Try.func4, Try.ntmps4
      go_wp2_with fail
      refine HLT.out.mono ?_
      rintro e w' ⟨rfl, rfl⟩
      go_wp2_with fail
      refine (snap_build A n c L w HN.out hc (by omega) hL hfit).mono ?_
      rintro e w1 ⟨A1, n1, c1, b1, er, rfl, hO1, hB1, hb1⟩
      by_cases her : er = 0
      · subst her
        obtain ⟨hP, hb960⟩ := build_parse hB1
        have hn1 : n1 ≤ 960 := by rw [hO1.hn]; exact hb960
        have HP := hide hP
        clear hB1 hP hb960
        go_wp2_with fail
        refine (snap_parse A1 n1 c1 b1 w1 hO1.hn hO1.own.le hO1.sl).mono ?_
        rintro e w2 ⟨A3, n3, c3, L3, ds3, er3, rfl, hO3, hP3, hb2⟩
        rw [HP.out] at hP3
        obtain ⟨rfl, rfl⟩ := Prod.mk.inj hP3
        have hbw2 := below_step hb2 hb1
        go_wp2_with fail
        refine (same_yes A A3 n n3 c c3 L w2 HN.out hO3.hn hc hO3.own.le (by omega) (hL.below hbw2) hO3.slV).mono ?_
        rintro e w3 ⟨rfl, hb3⟩
        have hbw3 := below_step hb3 hbw2
        clear hP3
        go_wp2_with fail
        refine (snap_parse A2 n2 c2 l w3 HN2.out hc2 (hs.below hbw3)).mono ?_
        rintro e w4 ⟨A4, n4, c4, L4, ds4, er4, rfl, hO4, hP4, hb4⟩
        have hbw4 := below_step hb4 hbw3
        by_cases her4 : er4 = 0
        · subst her4
          obtain ⟨hB4, hl960⟩ := parse_build hP4
          obtain ⟨hL4, hf4⟩ := build_sizes hB4
          have hfit4 : fitsV L4 := fun v hv => by have := hf4 v hv; omega
          have hn4 : n4 ≤ 960 := by rw [hO4.hn]; exact hL4
          have HB4 := hide hB4
          clear hP4 hB4 hf4 hL4 hl960
          go_wp2_with fail
          refine (snap_build A4 n4 c4 L4 w4 hO4.hn hO4.own.le (by omega) hO4.slV hfit4).mono ?_
          rintro e w5 ⟨A5, n5, c5, b5, er5, rfl, hO5, hB5, hb5⟩
          obtain ⟨rfl, rfl⟩ := BuildR_det hB5 HB4.out
          have hbw5 := below_step hb5 hbw4
          have k1 := str_b c5 hO5.hn hO5.sl
          have k2 := str_b c2 HN2.out (hs.below hbw5)
          clear hB5
          go_wp2_with fail
          refine (known_18 _).mono ?_
          rintro e w6 ⟨rfl, hb6⟩
          go_wp2_with fail
          go_ret
          exact (⟨rfl, below_step hb6 hbw5⟩ : TrueB w _ _)
        · have her4' : (er4 == 0) = false := by simpa using her4
          clear hP4
          go_wp2_with fail
          refine (known_18 _).mono ?_
          rintro e w6 ⟨rfl, hb6⟩
          go_wp2_with fail
          go_ret
          exact (⟨rfl, below_step hb6 hbw4⟩ : TrueB w _ _)
      · have her' : (er == 0) = false := by simpa using her
        clear hB1
        go_wp2_with fail
        refine (snap_parse A2 n2 c2 l w1 HN2.out hc2 (hs.below hb1)).mono ?_
        rintro e w4 ⟨A4, n4, c4, L4, ds4, er4, rfl, hO4, hP4, hb4⟩
        have hbw4 := below_step hb4 hb1
        by_cases her4 : er4 = 0
        · subst her4
          obtain ⟨hB4, hl960⟩ := parse_build hP4
          obtain ⟨hL4, hf4⟩ := build_sizes hB4
          have hfit4 : fitsV L4 := fun v hv => by have := hf4 v hv; omega
          have hn4 : n4 ≤ 960 := by rw [hO4.hn]; exact hL4
          have HB4 := hide hB4
          clear hP4 hB4 hf4 hL4 hl960
          go_wp2_with fail
          refine (snap_build A4 n4 c4 L4 w4 hO4.hn hO4.own.le (by omega) hO4.slV hfit4).mono ?_
          rintro e w5 ⟨A5, n5, c5, b5, er5, rfl, hO5, hB5, hb5⟩
          obtain ⟨rfl, rfl⟩ := BuildR_det hB5 HB4.out
          have hbw5 := below_step hb5 hbw4
          have k1 := str_b c5 hO5.hn hO5.sl
          have k2 := str_b c2 HN2.out (hs.below hbw5)
          clear hB5
          go_wp2_with fail
          refine (known_18 _).mono ?_
          rintro e w6 ⟨rfl, hb6⟩
          go_wp2_with fail
          go_ret
          exact (⟨rfl, below_step hb6 hbw5⟩ : TrueB w _ _)
        · have her4' : (er4 == 0) = false := by simpa using her4
          clear hP4
          go_wp2_with fail
          refine (known_18 _).mono ?_
          rintro e w6 ⟨rfl, hb6⟩
          go_wp2_with fail
          go_ret
          exact (⟨rfl, below_step hb6 hbw4⟩ : TrueB w _ _)
end Go.Proofs.Ytapfadaplncpeaa
