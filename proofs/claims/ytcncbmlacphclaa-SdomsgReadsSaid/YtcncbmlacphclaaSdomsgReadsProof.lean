/- Proved: for every input, law SdomsgReads answers true, and what was handed in reads as it did. No condition. -/
import Derived.Test.YtcncbmlacphclaaSdW
import Derived.Test.YtcncbmlacphclaaRSdO
import Derived.Test.YtcncbmlacphclaaSdC2
import Derived.Test.YtcncbmlacphclaaRef01b
import Derived.Deep.RegionHeld3
import Derived.Test.YtcncbmlacphclaaOpenB
namespace Go.Proofs.Ytcncbmlacphclaa
set_option linter.unusedVariables false
set_option linter.unusedSimpArgs false
set_option linter.unnecessarySimpa false
open Go.RowKit
set_option maxRecDepth 100000
set_option maxHeartbeats 4000000

theorem same_me (M : Ms) : sameB M M = true := by unfold sameB; exact decide_eq_true rfl
theorem dat_len (ks : List Int) (b : List UInt8) : (resM ks b).data.length ≤ b.length := by
  unfold resM
  split
  · have key : ∀ ks : List Int, ((ofM ks b).getD msZ).data.length ≤ b.length := by
      intro ks
      induction ks with
      | nil => simp [ofM, msZ]
      | cons k ks ih =>
        unfold ofM
        split
        · simp only [Option.getD_some, guessM, onlyM, preM]
          split
          · rw [List.length_take, List.length_drop]; omega
          · simp
        · exact ih
    exact key ks
  · simp [msZ]
theorem own_lt {w : World} {B n c : Nat} {A : Option Addr} {l : List UInt8} (h : OwnB w B A n c l) : ∀ g', Value.ownBlock (.slice A n c) = some g' → B ≤ g' ∧ g' < w.heap.size := by
  intro g' hg'
  rcases h.own.shape with ⟨h1, _⟩ | ⟨g1, h1, h2, h3⟩
  · rw [h1] at hg'; simp [Value.ownBlock] at hg'
  · rw [h1] at hg'; simp [Value.ownBlock] at hg'; omega
theorem blk_far {w w' : World} {g t n c N : Nat} {A : Option Addr} {cs : Array Value} (h : Blk w g t cs) (hg : w.grownBy w' (Value.ownBlock (.slice A n c))) (hA : ∀ g', Value.ownBlock (.slice A n c) = some g' → g' < N) (hN : N ≤ g) : Blk w' g t cs :=
  h.grown hg (by intro e; have := hA g e.symm; omega)
theorem own_far {w w' : World} {B n c n2 c2 : Nat} {A A2 : Option Addr} {l : List UInt8} (h : OwnB w B A2 n2 c2 l) (hg : w.grownBy w' (Value.ownBlock (.slice A n c))) (hA : ∀ g', Value.ownBlock (.slice A n c) = some g' → g' < B) : OwnB w' B A2 n2 c2 l := by
  refine ⟨h.hn, h.own.grown hg ?_⟩
  intro g' hg' he
  have h1 := hA g' he.symm
  rcases h.own.shape with ⟨h2, _⟩ | ⟨g2, h2, h3, _⟩
  · rw [h2] at hg'; cases hg'
  · rw [h2] at hg'
    injection hg' with hg'
    injection hg' with hg'
    omega
theorem sdomsgReads_walk (A : Option Addr) (n c : Nat) (b : List UInt8) (w : World) (hn : n = b.length) (hc : n ≤ c) (hs : Sl w A (b.map bv)) :
    Calls Try.prog 8 #[.slice A n c] w (TrueB w) := by
  by_cases hbig : 1000 < n
  · clear hn hc hs
    go_enter Try.func8, Try.ntmps8
    go_wp2_with fail
    refine (known_20 _).mono ?_
    rintro e w1 ⟨rfl, hb1⟩
    go_wp2_with fail
    go_ret
    exact ⟨rfl, hb1⟩
  have hn1000 : n ≤ 1000 := by omega
  clear hbig
  have HN := hide hn
  clear hn
  go_enter Try.func8, Try.ntmps8
  go_wp2_with fail
  refine (lent_any A n c b w HN.out (by omega) hs).mono ?_
  rintro e w0 ⟨g, c0, rfl, hO0, hb0⟩
  have hc0 : n + 1 ≤ c0 := hO0.own.le
  have hsl : Sl w0 (some ⟨g, 0, none⟩) (b.map bv) := by
    have := hO0.sl.take n
    rw [List.map_append, HN.out, List.take_left' (by simp)] at this
    exact this
  have hs0 := hs.below hb0
  have hdl1 := dat_len reqK b
  have HQ1 := hide (fun A n c W h1 h2 h3 => sd_request A n c b W h1 h2 h3)
  have HQ4 := hide (fun A n c W h1 h2 h3 => rsd_request A n c b W h1 h2 h3)
  unfold ReadR at HQ1 HQ4
  generalize resM reqK b = N1 at *
  generalize errI reqK b = er1 at *
  obtain ⟨kind1, ix1, sub1, tg1, la1, cr1, sz1, size1, code1, data1, sq1, bl1, em1, sum1⟩ := N1
  have hdl2 := dat_len ansK b
  have HQ2 := hide (fun A n c W h1 h2 h3 => sd_answer A n c b W h1 h2 h3)
  have HQ5 := hide (fun A n c W h1 h2 h3 => rsd_answer A n c b W h1 h2 h3)
  unfold ReadR at HQ2 HQ5
  generalize resM ansK b = N2 at *
  generalize errI ansK b = er2 at *
  obtain ⟨kind2, ix2, sub2, tg2, la2, cr2, sz2, size2, code2, data2, sq2, bl2, em2, sum2⟩ := N2
  have hdl3 := dat_len segK b
  have HQ3 := hide (fun A n c W h1 h2 h3 => sd_segment A n c b W h1 h2 h3)
  have HQ6 := hide (fun A n c W h1 h2 h3 => rsd_segment A n c b W h1 h2 h3)
  unfold ReadR at HQ3 HQ6
  generalize resM segK b = N3 at *
  generalize errI segK b = er3 at *
  obtain ⟨kind3, ix3, sub3, tg3, la3, cr3, sz3, size3, code3, data3, sq3, bl3, em3, sum3⟩ := N3
  simp only [msV] at HQ1 HQ2 HQ3 HQ4 HQ5 HQ6 hdl1 hdl2 hdl3
  go_wp2_with fail
  refine (HQ1.out (some ⟨g, 0, none⟩) n c0 _ HN.out (by omega) hsl).mono ?_
  rintro e w1 ⟨A1, n1, c1, rfl, hO1, hb1⟩
  have hA1 := own_lt hO1
  have hy1 : Below w0.heap.size w0 w1 := hb1
  have hz1 : Below w0.heap.size w0 (w1.alloc (.cells #[.int .i64 kind1, .int .i64 ix1, .int .i64 sub1, .bool tg1, .bool la1, .bool cr1, .bool sz1, .int .u32 (size1 : Nat), .int .u32 (code1 : Nat), .slice A1 n1 c1, .int .i64 sq1, .int .i64 bl1, .int .i64 em1, .int .u16 (sum1 : Nat)] 44)) := below_alloc hy1 _
  go_wp2_with fail
  refine (HQ2.out (some ⟨g, 0, none⟩) n c0 _ HN.out (by omega) (hsl.below hz1)).mono ?_
  rintro e w2 ⟨A2, n2, c2, rfl, hO2, hb2⟩
  have hA2 := own_lt hO2
  have hy2 : Below w0.heap.size w0 w2 := below_step hb2 hz1
  have hz2 : Below w0.heap.size w0 (w2.alloc (.cells #[.int .i64 kind2, .int .i64 ix2, .int .i64 sub2, .bool tg2, .bool la2, .bool cr2, .bool sz2, .int .u32 (size2 : Nat), .int .u32 (code2 : Nat), .slice A2 n2 c2, .int .i64 sq2, .int .i64 bl2, .int .i64 em2, .int .u16 (sum2 : Nat)] 44)) := below_alloc hy2 _
  have q1 := (Blk.new w1 44 #[.int .i64 kind1, .int .i64 ix1, .int .i64 sub1, .bool tg1, .bool la1, .bool cr1, .bool sz1, .int .u32 (size1 : Nat), .int .u32 (code1 : Nat), .slice A1 n1 c1, .int .i64 sq1, .int .i64 bl1, .int .i64 em1, .int .u16 (sum1 : Nat)]).below hb2 (by simp)
  replace hO1 := (hO1.alloc (.cells #[.int .i64 kind1, .int .i64 ix1, .int .i64 sub1, .bool tg1, .bool la1, .bool cr1, .bool sz1, .int .u32 (size1 : Nat), .int .u32 (code1 : Nat), .slice A1 n1 c1, .int .i64 sq1, .int .i64 bl1, .int .i64 em1, .int .u16 (sum1 : Nat)] 44)).below hb2
  go_wp2_with fail
  refine (HQ3.out (some ⟨g, 0, none⟩) n c0 _ HN.out (by omega) (hsl.below hz2)).mono ?_
  rintro e w3 ⟨A3, n3, c3, rfl, hO3, hb3⟩
  have hA3 := own_lt hO3
  have hy3 : Below w0.heap.size w0 w3 := below_step hb3 hz2
  have hz3 : Below w0.heap.size w0 (w3.alloc (.cells #[.int .i64 kind3, .int .i64 ix3, .int .i64 sub3, .bool tg3, .bool la3, .bool cr3, .bool sz3, .int .u32 (size3 : Nat), .int .u32 (code3 : Nat), .slice A3 n3 c3, .int .i64 sq3, .int .i64 bl3, .int .i64 em3, .int .u16 (sum3 : Nat)] 44)) := below_alloc hy3 _
  replace q1 := (q1.alloc (.cells #[.int .i64 kind2, .int .i64 ix2, .int .i64 sub2, .bool tg2, .bool la2, .bool cr2, .bool sz2, .int .u32 (size2 : Nat), .int .u32 (code2 : Nat), .slice A2 n2 c2, .int .i64 sq2, .int .i64 bl2, .int .i64 em2, .int .u16 (sum2 : Nat)] 44)).below hb3 (by have := q1.lt; simp; omega)
  replace hO1 := (hO1.alloc (.cells #[.int .i64 kind2, .int .i64 ix2, .int .i64 sub2, .bool tg2, .bool la2, .bool cr2, .bool sz2, .int .u32 (size2 : Nat), .int .u32 (code2 : Nat), .slice A2 n2 c2, .int .i64 sq2, .int .i64 bl2, .int .i64 em2, .int .u16 (sum2 : Nat)] 44)).below hb3
  have q2 := (Blk.new w2 44 #[.int .i64 kind2, .int .i64 ix2, .int .i64 sub2, .bool tg2, .bool la2, .bool cr2, .bool sz2, .int .u32 (size2 : Nat), .int .u32 (code2 : Nat), .slice A2 n2 c2, .int .i64 sq2, .int .i64 bl2, .int .i64 em2, .int .u16 (sum2 : Nat)]).below hb3 (by simp)
  replace hO2 := (hO2.alloc (.cells #[.int .i64 kind2, .int .i64 ix2, .int .i64 sub2, .bool tg2, .bool la2, .bool cr2, .bool sz2, .int .u32 (size2 : Nat), .int .u32 (code2 : Nat), .slice A2 n2 c2, .int .i64 sq2, .int .i64 bl2, .int .i64 em2, .int .u16 (sum2 : Nat)] 44)).below hb3
  go_wp2_with fail
  refine (HQ4.out A n c _ HN.out hc (hs0.below hz3)).mono ?_
  rintro e w4 ⟨A4, n4, c4, rfl, hO4, hb4⟩
  have hy4 : Below w0.heap.size w0 w4 := below_step hb4 hz3
  have hz4 : Below w0.heap.size w0 (w4.alloc (.cells #[.int .i64 kind1, .int .i64 ix1, .int .i64 sub1, .bool tg1, .bool la1, .bool cr1, .bool sz1, .int .u32 (size1 : Nat), .int .u32 (code1 : Nat), .slice A4 n4 c4, .int .i64 sq1, .int .i64 bl1, .int .i64 em1, .int .u16 (sum1 : Nat)] 43)) := below_alloc hy4 _
  replace q1 := (q1.alloc (.cells #[.int .i64 kind3, .int .i64 ix3, .int .i64 sub3, .bool tg3, .bool la3, .bool cr3, .bool sz3, .int .u32 (size3 : Nat), .int .u32 (code3 : Nat), .slice A3 n3 c3, .int .i64 sq3, .int .i64 bl3, .int .i64 em3, .int .u16 (sum3 : Nat)] 44)).below hb4 (by have := q1.lt; simp; omega)
  replace hO1 := (hO1.alloc (.cells #[.int .i64 kind3, .int .i64 ix3, .int .i64 sub3, .bool tg3, .bool la3, .bool cr3, .bool sz3, .int .u32 (size3 : Nat), .int .u32 (code3 : Nat), .slice A3 n3 c3, .int .i64 sq3, .int .i64 bl3, .int .i64 em3, .int .u16 (sum3 : Nat)] 44)).below hb4
  replace q2 := (q2.alloc (.cells #[.int .i64 kind3, .int .i64 ix3, .int .i64 sub3, .bool tg3, .bool la3, .bool cr3, .bool sz3, .int .u32 (size3 : Nat), .int .u32 (code3 : Nat), .slice A3 n3 c3, .int .i64 sq3, .int .i64 bl3, .int .i64 em3, .int .u16 (sum3 : Nat)] 44)).below hb4 (by have := q2.lt; simp; omega)
  replace hO2 := (hO2.alloc (.cells #[.int .i64 kind3, .int .i64 ix3, .int .i64 sub3, .bool tg3, .bool la3, .bool cr3, .bool sz3, .int .u32 (size3 : Nat), .int .u32 (code3 : Nat), .slice A3 n3 c3, .int .i64 sq3, .int .i64 bl3, .int .i64 em3, .int .u16 (sum3 : Nat)] 44)).below hb4
  have q3 := (Blk.new w3 44 #[.int .i64 kind3, .int .i64 ix3, .int .i64 sub3, .bool tg3, .bool la3, .bool cr3, .bool sz3, .int .u32 (size3 : Nat), .int .u32 (code3 : Nat), .slice A3 n3 c3, .int .i64 sq3, .int .i64 bl3, .int .i64 em3, .int .u16 (sum3 : Nat)]).below hb4 (by simp)
  replace hO3 := (hO3.alloc (.cells #[.int .i64 kind3, .int .i64 ix3, .int .i64 sub3, .bool tg3, .bool la3, .bool cr3, .bool sz3, .int .u32 (size3 : Nat), .int .u32 (code3 : Nat), .slice A3 n3 c3, .int .i64 sq3, .int .i64 bl3, .int .i64 em3, .int .u16 (sum3 : Nat)] 44)).below hb4
  go_wp2_with fail
  refine (HQ5.out A n c _ HN.out hc (hs0.below hz4)).mono ?_
  rintro e w5 ⟨A5, n5, c5, rfl, hO5, hb5⟩
  have hy5 : Below w0.heap.size w0 w5 := below_step hb5 hz4
  have hz5 : Below w0.heap.size w0 (w5.alloc (.cells #[.int .i64 kind2, .int .i64 ix2, .int .i64 sub2, .bool tg2, .bool la2, .bool cr2, .bool sz2, .int .u32 (size2 : Nat), .int .u32 (code2 : Nat), .slice A5 n5 c5, .int .i64 sq2, .int .i64 bl2, .int .i64 em2, .int .u16 (sum2 : Nat)] 43)) := below_alloc hy5 _
  replace q1 := (q1.alloc (.cells #[.int .i64 kind1, .int .i64 ix1, .int .i64 sub1, .bool tg1, .bool la1, .bool cr1, .bool sz1, .int .u32 (size1 : Nat), .int .u32 (code1 : Nat), .slice A4 n4 c4, .int .i64 sq1, .int .i64 bl1, .int .i64 em1, .int .u16 (sum1 : Nat)] 43)).below hb5 (by have := q1.lt; simp; omega)
  replace hO1 := (hO1.alloc (.cells #[.int .i64 kind1, .int .i64 ix1, .int .i64 sub1, .bool tg1, .bool la1, .bool cr1, .bool sz1, .int .u32 (size1 : Nat), .int .u32 (code1 : Nat), .slice A4 n4 c4, .int .i64 sq1, .int .i64 bl1, .int .i64 em1, .int .u16 (sum1 : Nat)] 43)).below hb5
  replace q2 := (q2.alloc (.cells #[.int .i64 kind1, .int .i64 ix1, .int .i64 sub1, .bool tg1, .bool la1, .bool cr1, .bool sz1, .int .u32 (size1 : Nat), .int .u32 (code1 : Nat), .slice A4 n4 c4, .int .i64 sq1, .int .i64 bl1, .int .i64 em1, .int .u16 (sum1 : Nat)] 43)).below hb5 (by have := q2.lt; simp; omega)
  replace hO2 := (hO2.alloc (.cells #[.int .i64 kind1, .int .i64 ix1, .int .i64 sub1, .bool tg1, .bool la1, .bool cr1, .bool sz1, .int .u32 (size1 : Nat), .int .u32 (code1 : Nat), .slice A4 n4 c4, .int .i64 sq1, .int .i64 bl1, .int .i64 em1, .int .u16 (sum1 : Nat)] 43)).below hb5
  replace q3 := (q3.alloc (.cells #[.int .i64 kind1, .int .i64 ix1, .int .i64 sub1, .bool tg1, .bool la1, .bool cr1, .bool sz1, .int .u32 (size1 : Nat), .int .u32 (code1 : Nat), .slice A4 n4 c4, .int .i64 sq1, .int .i64 bl1, .int .i64 em1, .int .u16 (sum1 : Nat)] 43)).below hb5 (by have := q3.lt; simp; omega)
  replace hO3 := (hO3.alloc (.cells #[.int .i64 kind1, .int .i64 ix1, .int .i64 sub1, .bool tg1, .bool la1, .bool cr1, .bool sz1, .int .u32 (size1 : Nat), .int .u32 (code1 : Nat), .slice A4 n4 c4, .int .i64 sq1, .int .i64 bl1, .int .i64 em1, .int .u16 (sum1 : Nat)] 43)).below hb5
  have q4 := (Blk.new w4 43 #[.int .i64 kind1, .int .i64 ix1, .int .i64 sub1, .bool tg1, .bool la1, .bool cr1, .bool sz1, .int .u32 (size1 : Nat), .int .u32 (code1 : Nat), .slice A4 n4 c4, .int .i64 sq1, .int .i64 bl1, .int .i64 em1, .int .u16 (sum1 : Nat)]).below hb5 (by simp)
  replace hO4 := (hO4.alloc (.cells #[.int .i64 kind1, .int .i64 ix1, .int .i64 sub1, .bool tg1, .bool la1, .bool cr1, .bool sz1, .int .u32 (size1 : Nat), .int .u32 (code1 : Nat), .slice A4 n4 c4, .int .i64 sq1, .int .i64 bl1, .int .i64 em1, .int .u16 (sum1 : Nat)] 43)).below hb5
  go_wp2_with fail
  refine (HQ6.out A n c _ HN.out hc (hs0.below hz5)).mono ?_
  rintro e w6 ⟨A6, n6, c6, rfl, hO6, hb6⟩
  have hy6 : Below w0.heap.size w0 w6 := below_step hb6 hz5
  have hz6 : Below w0.heap.size w0 (w6.alloc (.cells #[.int .i64 kind3, .int .i64 ix3, .int .i64 sub3, .bool tg3, .bool la3, .bool cr3, .bool sz3, .int .u32 (size3 : Nat), .int .u32 (code3 : Nat), .slice A6 n6 c6, .int .i64 sq3, .int .i64 bl3, .int .i64 em3, .int .u16 (sum3 : Nat)] 43)) := below_alloc hy6 _
  replace q1 := (q1.alloc (.cells #[.int .i64 kind2, .int .i64 ix2, .int .i64 sub2, .bool tg2, .bool la2, .bool cr2, .bool sz2, .int .u32 (size2 : Nat), .int .u32 (code2 : Nat), .slice A5 n5 c5, .int .i64 sq2, .int .i64 bl2, .int .i64 em2, .int .u16 (sum2 : Nat)] 43)).below hb6 (by have := q1.lt; simp; omega)
  replace hO1 := (hO1.alloc (.cells #[.int .i64 kind2, .int .i64 ix2, .int .i64 sub2, .bool tg2, .bool la2, .bool cr2, .bool sz2, .int .u32 (size2 : Nat), .int .u32 (code2 : Nat), .slice A5 n5 c5, .int .i64 sq2, .int .i64 bl2, .int .i64 em2, .int .u16 (sum2 : Nat)] 43)).below hb6
  replace q2 := (q2.alloc (.cells #[.int .i64 kind2, .int .i64 ix2, .int .i64 sub2, .bool tg2, .bool la2, .bool cr2, .bool sz2, .int .u32 (size2 : Nat), .int .u32 (code2 : Nat), .slice A5 n5 c5, .int .i64 sq2, .int .i64 bl2, .int .i64 em2, .int .u16 (sum2 : Nat)] 43)).below hb6 (by have := q2.lt; simp; omega)
  replace hO2 := (hO2.alloc (.cells #[.int .i64 kind2, .int .i64 ix2, .int .i64 sub2, .bool tg2, .bool la2, .bool cr2, .bool sz2, .int .u32 (size2 : Nat), .int .u32 (code2 : Nat), .slice A5 n5 c5, .int .i64 sq2, .int .i64 bl2, .int .i64 em2, .int .u16 (sum2 : Nat)] 43)).below hb6
  replace q3 := (q3.alloc (.cells #[.int .i64 kind2, .int .i64 ix2, .int .i64 sub2, .bool tg2, .bool la2, .bool cr2, .bool sz2, .int .u32 (size2 : Nat), .int .u32 (code2 : Nat), .slice A5 n5 c5, .int .i64 sq2, .int .i64 bl2, .int .i64 em2, .int .u16 (sum2 : Nat)] 43)).below hb6 (by have := q3.lt; simp; omega)
  replace hO3 := (hO3.alloc (.cells #[.int .i64 kind2, .int .i64 ix2, .int .i64 sub2, .bool tg2, .bool la2, .bool cr2, .bool sz2, .int .u32 (size2 : Nat), .int .u32 (code2 : Nat), .slice A5 n5 c5, .int .i64 sq2, .int .i64 bl2, .int .i64 em2, .int .u16 (sum2 : Nat)] 43)).below hb6
  replace q4 := (q4.alloc (.cells #[.int .i64 kind2, .int .i64 ix2, .int .i64 sub2, .bool tg2, .bool la2, .bool cr2, .bool sz2, .int .u32 (size2 : Nat), .int .u32 (code2 : Nat), .slice A5 n5 c5, .int .i64 sq2, .int .i64 bl2, .int .i64 em2, .int .u16 (sum2 : Nat)] 43)).below hb6 (by have := q4.lt; simp; omega)
  replace hO4 := (hO4.alloc (.cells #[.int .i64 kind2, .int .i64 ix2, .int .i64 sub2, .bool tg2, .bool la2, .bool cr2, .bool sz2, .int .u32 (size2 : Nat), .int .u32 (code2 : Nat), .slice A5 n5 c5, .int .i64 sq2, .int .i64 bl2, .int .i64 em2, .int .u16 (sum2 : Nat)] 43)).below hb6
  have q5 := (Blk.new w5 43 #[.int .i64 kind2, .int .i64 ix2, .int .i64 sub2, .bool tg2, .bool la2, .bool cr2, .bool sz2, .int .u32 (size2 : Nat), .int .u32 (code2 : Nat), .slice A5 n5 c5, .int .i64 sq2, .int .i64 bl2, .int .i64 em2, .int .u16 (sum2 : Nat)]).below hb6 (by simp)
  replace hO5 := (hO5.alloc (.cells #[.int .i64 kind2, .int .i64 ix2, .int .i64 sub2, .bool tg2, .bool la2, .bool cr2, .bool sz2, .int .u32 (size2 : Nat), .int .u32 (code2 : Nat), .slice A5 n5 c5, .int .i64 sq2, .int .i64 bl2, .int .i64 em2, .int .u16 (sum2 : Nat)] 43)).below hb6
  go_wp2_with fail
  have q6 := Blk.new w6 43 #[.int .i64 kind3, .int .i64 ix3, .int .i64 sub3, .bool tg3, .bool la3, .bool cr3, .bool sz3, .int .u32 (size3 : Nat), .int .u32 (code3 : Nat), .slice A6 n6 c6, .int .i64 sq3, .int .i64 bl3, .int .i64 em3, .int .u16 (sum3 : Nat)]
  replace q1 := q1.alloc (.cells #[.int .i64 kind3, .int .i64 ix3, .int .i64 sub3, .bool tg3, .bool la3, .bool cr3, .bool sz3, .int .u32 (size3 : Nat), .int .u32 (code3 : Nat), .slice A6 n6 c6, .int .i64 sq3, .int .i64 bl3, .int .i64 em3, .int .u16 (sum3 : Nat)] 43)
  replace q2 := q2.alloc (.cells #[.int .i64 kind3, .int .i64 ix3, .int .i64 sub3, .bool tg3, .bool la3, .bool cr3, .bool sz3, .int .u32 (size3 : Nat), .int .u32 (code3 : Nat), .slice A6 n6 c6, .int .i64 sq3, .int .i64 bl3, .int .i64 em3, .int .u16 (sum3 : Nat)] 43)
  replace q3 := q3.alloc (.cells #[.int .i64 kind3, .int .i64 ix3, .int .i64 sub3, .bool tg3, .bool la3, .bool cr3, .bool sz3, .int .u32 (size3 : Nat), .int .u32 (code3 : Nat), .slice A6 n6 c6, .int .i64 sq3, .int .i64 bl3, .int .i64 em3, .int .u16 (sum3 : Nat)] 43)
  replace q4 := q4.alloc (.cells #[.int .i64 kind3, .int .i64 ix3, .int .i64 sub3, .bool tg3, .bool la3, .bool cr3, .bool sz3, .int .u32 (size3 : Nat), .int .u32 (code3 : Nat), .slice A6 n6 c6, .int .i64 sq3, .int .i64 bl3, .int .i64 em3, .int .u16 (sum3 : Nat)] 43)
  replace q5 := q5.alloc (.cells #[.int .i64 kind3, .int .i64 ix3, .int .i64 sub3, .bool tg3, .bool la3, .bool cr3, .bool sz3, .int .u32 (size3 : Nat), .int .u32 (code3 : Nat), .slice A6 n6 c6, .int .i64 sq3, .int .i64 bl3, .int .i64 em3, .int .u16 (sum3 : Nat)] 43)
  replace hO1 := hO1.alloc (.cells #[.int .i64 kind3, .int .i64 ix3, .int .i64 sub3, .bool tg3, .bool la3, .bool cr3, .bool sz3, .int .u32 (size3 : Nat), .int .u32 (code3 : Nat), .slice A6 n6 c6, .int .i64 sq3, .int .i64 bl3, .int .i64 em3, .int .u16 (sum3 : Nat)] 43)
  have l1 := q1.lt
  replace hO2 := hO2.alloc (.cells #[.int .i64 kind3, .int .i64 ix3, .int .i64 sub3, .bool tg3, .bool la3, .bool cr3, .bool sz3, .int .u32 (size3 : Nat), .int .u32 (code3 : Nat), .slice A6 n6 c6, .int .i64 sq3, .int .i64 bl3, .int .i64 em3, .int .u16 (sum3 : Nat)] 43)
  have l2 := q2.lt
  replace hO3 := hO3.alloc (.cells #[.int .i64 kind3, .int .i64 ix3, .int .i64 sub3, .bool tg3, .bool la3, .bool cr3, .bool sz3, .int .u32 (size3 : Nat), .int .u32 (code3 : Nat), .slice A6 n6 c6, .int .i64 sq3, .int .i64 bl3, .int .i64 em3, .int .u16 (sum3 : Nat)] 43)
  have l3 := q3.lt
  replace hO4 := hO4.alloc (.cells #[.int .i64 kind3, .int .i64 ix3, .int .i64 sub3, .bool tg3, .bool la3, .bool cr3, .bool sz3, .int .u32 (size3 : Nat), .int .u32 (code3 : Nat), .slice A6 n6 c6, .int .i64 sq3, .int .i64 bl3, .int .i64 em3, .int .u16 (sum3 : Nat)] 43)
  have l4 := q4.lt
  replace hO5 := hO5.alloc (.cells #[.int .i64 kind3, .int .i64 ix3, .int .i64 sub3, .bool tg3, .bool la3, .bool cr3, .bool sz3, .int .u32 (size3 : Nat), .int .u32 (code3 : Nat), .slice A6 n6 c6, .int .i64 sq3, .int .i64 bl3, .int .i64 em3, .int .u16 (sum3 : Nat)] 43)
  have l5 := q5.lt
  replace hO6 := hO6.alloc (.cells #[.int .i64 kind3, .int .i64 ix3, .int .i64 sub3, .bool tg3, .bool la3, .bool cr3, .bool sz3, .int .u32 (size3 : Nat), .int .u32 (code3 : Nat), .slice A6 n6 c6, .int .i64 sq3, .int .i64 bl3, .int .i64 em3, .int .u16 (sum3 : Nat)] 43)
  have l6 := q6.lt
  generalize w6.alloc (.cells #[.int .i64 kind3, .int .i64 ix3, .int .i64 sub3, .bool tg3, .bool la3, .bool cr3, .bool sz3, .int .u32 (size3 : Nat), .int .u32 (code3 : Nat), .slice A6 n6 c6, .int .i64 sq3, .int .i64 bl3, .int .i64 em3, .int .u16 (sum3 : Nat)] 43) = W at *
  have q1_c0 := q1.cell 0 rfl
  have q1_f0 := q1.frozen 0
  have q1_c1 := q1.cell 1 rfl
  have q1_f1 := q1.frozen 1
  have q1_c2 := q1.cell 2 rfl
  have q1_f2 := q1.frozen 2
  have q1_c3 := q1.cell 3 rfl
  have q1_f3 := q1.frozen 3
  have q1_c4 := q1.cell 4 rfl
  have q1_f4 := q1.frozen 4
  have q1_c5 := q1.cell 5 rfl
  have q1_f5 := q1.frozen 5
  have q1_c6 := q1.cell 6 rfl
  have q1_f6 := q1.frozen 6
  have q1_c7 := q1.cell 7 rfl
  have q1_f7 := q1.frozen 7
  have q1_c8 := q1.cell 8 rfl
  have q1_f8 := q1.frozen 8
  have q1_c9 := q1.cell 9 rfl
  have q1_f9 := q1.frozen 9
  have q1_c10 := q1.cell 10 rfl
  have q1_f10 := q1.frozen 10
  have q1_c11 := q1.cell 11 rfl
  have q1_f11 := q1.frozen 11
  have q1_c12 := q1.cell 12 rfl
  have q1_f12 := q1.frozen 12
  have q1_c13 := q1.cell 13 rfl
  have q1_f13 := q1.frozen 13
  have q2_c0 := q2.cell 0 rfl
  have q2_f0 := q2.frozen 0
  have q2_c1 := q2.cell 1 rfl
  have q2_f1 := q2.frozen 1
  have q2_c2 := q2.cell 2 rfl
  have q2_f2 := q2.frozen 2
  have q2_c3 := q2.cell 3 rfl
  have q2_f3 := q2.frozen 3
  have q2_c4 := q2.cell 4 rfl
  have q2_f4 := q2.frozen 4
  have q2_c5 := q2.cell 5 rfl
  have q2_f5 := q2.frozen 5
  have q2_c6 := q2.cell 6 rfl
  have q2_f6 := q2.frozen 6
  have q2_c7 := q2.cell 7 rfl
  have q2_f7 := q2.frozen 7
  have q2_c8 := q2.cell 8 rfl
  have q2_f8 := q2.frozen 8
  have q2_c9 := q2.cell 9 rfl
  have q2_f9 := q2.frozen 9
  have q2_c10 := q2.cell 10 rfl
  have q2_f10 := q2.frozen 10
  have q2_c11 := q2.cell 11 rfl
  have q2_f11 := q2.frozen 11
  have q2_c12 := q2.cell 12 rfl
  have q2_f12 := q2.frozen 12
  have q2_c13 := q2.cell 13 rfl
  have q2_f13 := q2.frozen 13
  have q3_c0 := q3.cell 0 rfl
  have q3_f0 := q3.frozen 0
  have q3_c1 := q3.cell 1 rfl
  have q3_f1 := q3.frozen 1
  have q3_c2 := q3.cell 2 rfl
  have q3_f2 := q3.frozen 2
  have q3_c3 := q3.cell 3 rfl
  have q3_f3 := q3.frozen 3
  have q3_c4 := q3.cell 4 rfl
  have q3_f4 := q3.frozen 4
  have q3_c5 := q3.cell 5 rfl
  have q3_f5 := q3.frozen 5
  have q3_c6 := q3.cell 6 rfl
  have q3_f6 := q3.frozen 6
  have q3_c7 := q3.cell 7 rfl
  have q3_f7 := q3.frozen 7
  have q3_c8 := q3.cell 8 rfl
  have q3_f8 := q3.frozen 8
  have q3_c9 := q3.cell 9 rfl
  have q3_f9 := q3.frozen 9
  have q3_c10 := q3.cell 10 rfl
  have q3_f10 := q3.frozen 10
  have q3_c11 := q3.cell 11 rfl
  have q3_f11 := q3.frozen 11
  have q3_c12 := q3.cell 12 rfl
  have q3_f12 := q3.frozen 12
  have q3_c13 := q3.cell 13 rfl
  have q3_f13 := q3.frozen 13
  have q4_c0 := q4.cell 0 rfl
  have q4_f0 := q4.frozen 0
  have q4_c1 := q4.cell 1 rfl
  have q4_f1 := q4.frozen 1
  have q4_c2 := q4.cell 2 rfl
  have q4_f2 := q4.frozen 2
  have q4_c3 := q4.cell 3 rfl
  have q4_f3 := q4.frozen 3
  have q4_c4 := q4.cell 4 rfl
  have q4_f4 := q4.frozen 4
  have q4_c5 := q4.cell 5 rfl
  have q4_f5 := q4.frozen 5
  have q4_c6 := q4.cell 6 rfl
  have q4_f6 := q4.frozen 6
  have q4_c7 := q4.cell 7 rfl
  have q4_f7 := q4.frozen 7
  have q4_c8 := q4.cell 8 rfl
  have q4_f8 := q4.frozen 8
  have q4_c9 := q4.cell 9 rfl
  have q4_f9 := q4.frozen 9
  have q4_c10 := q4.cell 10 rfl
  have q4_f10 := q4.frozen 10
  have q4_c11 := q4.cell 11 rfl
  have q4_f11 := q4.frozen 11
  have q4_c12 := q4.cell 12 rfl
  have q4_f12 := q4.frozen 12
  have q4_c13 := q4.cell 13 rfl
  have q4_f13 := q4.frozen 13
  have q5_c0 := q5.cell 0 rfl
  have q5_f0 := q5.frozen 0
  have q5_c1 := q5.cell 1 rfl
  have q5_f1 := q5.frozen 1
  have q5_c2 := q5.cell 2 rfl
  have q5_f2 := q5.frozen 2
  have q5_c3 := q5.cell 3 rfl
  have q5_f3 := q5.frozen 3
  have q5_c4 := q5.cell 4 rfl
  have q5_f4 := q5.frozen 4
  have q5_c5 := q5.cell 5 rfl
  have q5_f5 := q5.frozen 5
  have q5_c6 := q5.cell 6 rfl
  have q5_f6 := q5.frozen 6
  have q5_c7 := q5.cell 7 rfl
  have q5_f7 := q5.frozen 7
  have q5_c8 := q5.cell 8 rfl
  have q5_f8 := q5.frozen 8
  have q5_c9 := q5.cell 9 rfl
  have q5_f9 := q5.frozen 9
  have q5_c10 := q5.cell 10 rfl
  have q5_f10 := q5.frozen 10
  have q5_c11 := q5.cell 11 rfl
  have q5_f11 := q5.frozen 11
  have q5_c12 := q5.cell 12 rfl
  have q5_f12 := q5.frozen 12
  have q5_c13 := q5.cell 13 rfl
  have q5_f13 := q5.frozen 13
  have q6_c0 := q6.cell 0 rfl
  have q6_f0 := q6.frozen 0
  have q6_c1 := q6.cell 1 rfl
  have q6_f1 := q6.frozen 1
  have q6_c2 := q6.cell 2 rfl
  have q6_f2 := q6.frozen 2
  have q6_c3 := q6.cell 3 rfl
  have q6_f3 := q6.frozen 3
  have q6_c4 := q6.cell 4 rfl
  have q6_f4 := q6.frozen 4
  have q6_c5 := q6.cell 5 rfl
  have q6_f5 := q6.frozen 5
  have q6_c6 := q6.cell 6 rfl
  have q6_f6 := q6.frozen 6
  have q6_c7 := q6.cell 7 rfl
  have q6_f7 := q6.frozen 7
  have q6_c8 := q6.cell 8 rfl
  have q6_f8 := q6.frozen 8
  have q6_c9 := q6.cell 9 rfl
  have q6_f9 := q6.frozen 9
  have q6_c10 := q6.cell 10 rfl
  have q6_f10 := q6.frozen 10
  have q6_c11 := q6.cell 11 rfl
  have q6_f11 := q6.frozen 11
  have q6_c12 := q6.cell 12 rfl
  have q6_f12 := q6.frozen 12
  have q6_c13 := q6.cell 13 rfl
  have q6_f13 := q6.frozen 13
  have HT1 := hide (fun (X : World) => taken_20 ⟨kind1, ix1, sub1, tg1, la1, cr1, sz1, size1, code1, data1, sq1, bl1, em1, sum1⟩ A1 n1 c1 X)
  have HS1 := hide (fun (X : World) h1 h2 => rsd_same ⟨kind1, ix1, sub1, tg1, la1, cr1, sz1, size1, code1, data1, sq1, bl1, em1, sum1⟩ ⟨kind1, ix1, sub1, tg1, la1, cr1, sz1, size1, code1, data1, sq1, bl1, em1, sum1⟩ A1 A4 n1 c1 n4 c4 X hO1.hn hO4.hn h1 h2)
  rw [same_me] at HS1
  simp only [msV] at HT1 HS1
  have HT2 := hide (fun (X : World) => taken_20 ⟨kind2, ix2, sub2, tg2, la2, cr2, sz2, size2, code2, data2, sq2, bl2, em2, sum2⟩ A2 n2 c2 X)
  have HS2 := hide (fun (X : World) h1 h2 => rsd_same ⟨kind2, ix2, sub2, tg2, la2, cr2, sz2, size2, code2, data2, sq2, bl2, em2, sum2⟩ ⟨kind2, ix2, sub2, tg2, la2, cr2, sz2, size2, code2, data2, sq2, bl2, em2, sum2⟩ A2 A5 n2 c2 n5 c5 X hO2.hn hO5.hn h1 h2)
  rw [same_me] at HS2
  simp only [msV] at HT2 HS2
  have HT3 := hide (fun (X : World) => taken_20 ⟨kind3, ix3, sub3, tg3, la3, cr3, sz3, size3, code3, data3, sq3, bl3, em3, sum3⟩ A3 n3 c3 X)
  have HS3 := hide (fun (X : World) h1 h2 => rsd_same ⟨kind3, ix3, sub3, tg3, la3, cr3, sz3, size3, code3, data3, sq3, bl3, em3, sum3⟩ ⟨kind3, ix3, sub3, tg3, la3, cr3, sz3, size3, code3, data3, sq3, bl3, em3, sum3⟩ A3 A6 n3 c3 n6 c6 X hO3.hn hO6.hn h1 h2)
  rw [same_me] at HS3
  simp only [msV] at HT3 HS3
  refine wp_region_held_drew (S := (fun w' => (∀ p : Addr, p.block < (W).heap.size → w'.cell? p = (W).cell? p) ∧ Below (W).heap.size (W) w')) (by kernel_rfl) ?hS1 (fun hHeld => ?rest1)
  case hS1 => ((try dsimp only); (((try go_split_ands); refine sn_of ?_; repeat' (first | with_reducible assumption | with_reducible exact Below.refl _ _ | with_reducible apply below_alloc | with_reducible apply below_drew1 | with_reducible apply below_drewN | (with_reducible apply below_step; with_reducible assumption) | (with_reducible apply below_sg2; (first | exact Nat.le_refl _ | (simp; done) | omega))))))
  case' rest1 => skip
  refine wpAnyH_take (i := 0) (oi := _) (v := ?v2) rfl (by kernel_rfl) (by kernel_rfl) (by kernel_rfl) (fun _ _ _ h => h) (Or.inl ⟨by rfl, ?hy2⟩) (by assumption) ?rest2
  case hy2 => ((intro w hSw; (try dsimp only at hSw); go_simp) <;> with_reducible rfl)
  case' rest2 => try simp only [List.getElem_toArray, List.getElem_cons_zero, List.getElem_cons_succ, Act.put, List.setIfInBounds_toArray, List.set_cons_zero, List.set_cons_succ]
  refine wpAnyH_take (i := 2) (oi := _) (v := ?v3) rfl (by kernel_rfl) (by kernel_rfl) (by kernel_rfl) (fun _ _ _ h => h) (Or.inl ⟨by rfl, ?hy3⟩) (by assumption) ?rest3
  case hy3 => ((intro w hSw; (try dsimp only at hSw); go_simp) <;> with_reducible rfl)
  case' rest3 => try simp only [List.getElem_toArray, List.getElem_cons_zero, List.getElem_cons_succ, Act.put, List.setIfInBounds_toArray, List.set_cons_zero, List.set_cons_succ]
  refine wpAnyH_ready (rs := [1]) (by kernel_rfl) (by simp) ?_
  refine AllReadyH.cons (o := _) rfl (fun K hK => ?_) AllReadyH.nil
  go_simp
  refine (HT1.out _).mono ?_
  rintro e x1 ⟨rfl, g1⟩
  try dsimp only
  refine hK.out _ _ ?hS6 (fun hHeld => ?rest6)
  case hS6 => ((try dsimp only); (((try go_split_ands); refine sn_of ?_; repeat' (first | with_reducible assumption | with_reducible exact Below.refl _ _ | with_reducible apply below_alloc | with_reducible apply below_drew1 | with_reducible apply below_drewN | (with_reducible apply below_step; with_reducible assumption) | (with_reducible apply below_sg2; (first | exact Nat.le_refl _ | (simp; done) | omega))))))
  case' rest6 => (clear hK K; try simp only [List.getElem_toArray, List.getElem_cons_zero, List.getElem_cons_succ, Act.put, List.setIfInBounds_toArray, List.set_cons_zero, List.set_cons_succ])
  refine wpAnyH_ready (rs := [3]) (by kernel_rfl) (by simp) ?_
  refine AllReadyH.cons (o := _) rfl (fun K hK => ?_) AllReadyH.nil
  go_simp
  refine (HS1.out _ (hO1.drew.below g1).sl (hO4.drew.below g1).sl).mono ?_
  rintro e x2 ⟨rfl, g2⟩
  try dsimp only
  refine hK.out _ _ ?hS9 (fun hHeld => ?rest9)
  case hS9 => ((try dsimp only); (((try go_split_ands); refine sn_of ?_; repeat' (first | with_reducible assumption | with_reducible exact Below.refl _ _ | with_reducible apply below_alloc | with_reducible apply below_drew1 | with_reducible apply below_drewN | (with_reducible apply below_step; with_reducible assumption) | (with_reducible apply below_sg2; (first | exact Nat.le_refl _ | (simp; done) | omega))))))
  case' rest9 => (clear hK K; try simp only [List.getElem_toArray, List.getElem_cons_zero, List.getElem_cons_succ, Act.put, List.setIfInBounds_toArray, List.set_cons_zero, List.set_cons_succ])
  have e1 := below_step g2 g1
  clear g1 g2
  refine wpAnyH_take (i := 4) (oi := _) (v := ?v10) rfl (by kernel_rfl) (by kernel_rfl) (by kernel_rfl) (fun _ _ _ h => h) (Or.inl ⟨by rfl, ?hy10⟩) (by assumption) ?rest10
  case hy10 => ((intro w hSw; (try dsimp only at hSw); go_simp) <;> with_reducible rfl)
  case' rest10 => try simp only [List.getElem_toArray, List.getElem_cons_zero, List.getElem_cons_succ, Act.put, List.setIfInBounds_toArray, List.set_cons_zero, List.set_cons_succ]
  refine wpAnyH_take (i := 5) (oi := _) (v := ?v11) rfl (by kernel_rfl) (by kernel_rfl) (by kernel_rfl) (fun _ _ _ h => h) (Or.inl ⟨by rfl, ?hy11⟩) (by assumption) ?rest11
  case hy11 => ((intro w hSw; (try dsimp only at hSw); go_simp) <;> with_reducible rfl)
  case' rest11 => try simp only [List.getElem_toArray, List.getElem_cons_zero, List.getElem_cons_succ, Act.put, List.setIfInBounds_toArray, List.set_cons_zero, List.set_cons_succ]
  refine wpAnyH_take (i := 6) (oi := _) (v := ?v12) rfl (by kernel_rfl) (by kernel_rfl) (by kernel_rfl) (fun _ _ _ h => h) (Or.inl ⟨by rfl, ?hy12⟩) (by assumption) ?rest12
  case hy12 => ((intro w hSw; (try dsimp only at hSw); go_simp) <;> with_reducible rfl)
  case' rest12 => try simp only [List.getElem_toArray, List.getElem_cons_zero, List.getElem_cons_succ, Act.put, List.setIfInBounds_toArray, List.set_cons_zero, List.set_cons_succ]
  refine wpAnyH_take (i := 7) (oi := _) (v := ?v13) rfl (by kernel_rfl) (by kernel_rfl) (by kernel_rfl) (fun _ _ _ h => h) (Or.inl ⟨by rfl, ?hy13⟩) (by assumption) ?rest13
  case hy13 => ((intro w hSw; (try dsimp only at hSw); go_simp) <;> with_reducible rfl)
  case' rest13 => try simp only [List.getElem_toArray, List.getElem_cons_zero, List.getElem_cons_succ, Act.put, List.setIfInBounds_toArray, List.set_cons_zero, List.set_cons_succ]
  refine wpAnyH_take (i := 8) (oi := _) (v := ?v14) rfl (by kernel_rfl) (by kernel_rfl) (by kernel_rfl) (fun _ _ _ h => h) (Or.inl ⟨by rfl, ?hy14⟩) (by assumption) ?rest14
  case hy14 => ((intro w hSw; (try dsimp only at hSw); go_simp) <;> with_reducible rfl)
  case' rest14 => try simp only [List.getElem_toArray, List.getElem_cons_zero, List.getElem_cons_succ, Act.put, List.setIfInBounds_toArray, List.set_cons_zero, List.set_cons_succ]
  refine wpAnyH_take (i := 9) (oi := _) (v := ?v15) rfl (by kernel_rfl) (by kernel_rfl) (by kernel_rfl) (fun _ _ _ h => h) (Or.inl ⟨by rfl, ?hy15⟩) (by assumption) ?rest15
  case hy15 => ((intro w hSw; (try dsimp only at hSw); go_simp) <;> with_reducible rfl)
  case' rest15 => try simp only [List.getElem_toArray, List.getElem_cons_zero, List.getElem_cons_succ, Act.put, List.setIfInBounds_toArray, List.set_cons_zero, List.set_cons_succ]
  refine wpAnyH_take (i := 10) (oi := _) (v := ?v16) rfl (by kernel_rfl) (by kernel_rfl) (by kernel_rfl) (fun _ _ _ h => h) (Or.inl ⟨by rfl, ?hy16⟩) (by assumption) ?rest16
  case hy16 => ((intro w hSw; (try dsimp only at hSw); go_simp) <;> with_reducible rfl)
  case' rest16 => try simp only [List.getElem_toArray, List.getElem_cons_zero, List.getElem_cons_succ, Act.put, List.setIfInBounds_toArray, List.set_cons_zero, List.set_cons_succ]
  refine wpAnyH_take (i := 12) (oi := _) (v := ?v17) rfl (by kernel_rfl) (by kernel_rfl) (by kernel_rfl) (fun _ _ _ h => h) (Or.inl ⟨by rfl, ?hy17⟩) (by assumption) ?rest17
  case hy17 => ((intro w hSw; (try dsimp only at hSw); go_simp) <;> with_reducible rfl)
  case' rest17 => try simp only [List.getElem_toArray, List.getElem_cons_zero, List.getElem_cons_succ, Act.put, List.setIfInBounds_toArray, List.set_cons_zero, List.set_cons_succ]
  refine wpAnyH_ready (rs := [11]) (by kernel_rfl) (by simp) ?_
  refine AllReadyH.cons (o := _) rfl (fun K hK => ?_) AllReadyH.nil
  go_simp
  refine (HT2.out _).mono ?_
  rintro e x3 ⟨rfl, g3⟩
  try dsimp only
  refine hK.out _ _ ?hS20 (fun hHeld => ?rest20)
  case hS20 => ((try dsimp only); (((try go_split_ands); refine sn_of ?_; repeat' (first | with_reducible assumption | with_reducible exact Below.refl _ _ | with_reducible apply below_alloc | with_reducible apply below_drew1 | with_reducible apply below_drewN | (with_reducible apply below_step; with_reducible assumption) | (with_reducible apply below_sg2; (first | exact Nat.le_refl _ | (simp; done) | omega))))))
  case' rest20 => (clear hK K; try simp only [List.getElem_toArray, List.getElem_cons_zero, List.getElem_cons_succ, Act.put, List.setIfInBounds_toArray, List.set_cons_zero, List.set_cons_succ])
  have e2 := below_step g3 e1
  clear e1
  refine wpAnyH_ready (rs := [13]) (by kernel_rfl) (by simp) ?_
  refine AllReadyH.cons (o := _) rfl (fun K hK => ?_) AllReadyH.nil
  go_simp
  refine (HS2.out _ (hO2.drew.below e2).sl (hO5.drew.below e2).sl).mono ?_
  rintro e x4 ⟨rfl, g4⟩
  try dsimp only
  refine hK.out _ _ ?hS23 (fun hHeld => ?rest23)
  case hS23 => ((try dsimp only); (((try go_split_ands); refine sn_of ?_; repeat' (first | with_reducible assumption | with_reducible exact Below.refl _ _ | with_reducible apply below_alloc | with_reducible apply below_drew1 | with_reducible apply below_drewN | (with_reducible apply below_step; with_reducible assumption) | (with_reducible apply below_sg2; (first | exact Nat.le_refl _ | (simp; done) | omega))))))
  case' rest23 => (clear hK K; try simp only [List.getElem_toArray, List.getElem_cons_zero, List.getElem_cons_succ, Act.put, List.setIfInBounds_toArray, List.set_cons_zero, List.set_cons_succ])
  have e3 := below_step g4 e2
  clear e2 g3 g4
  refine wpAnyH_take (i := 14) (oi := _) (v := ?v24) rfl (by kernel_rfl) (by kernel_rfl) (by kernel_rfl) (fun _ _ _ h => h) (Or.inl ⟨by rfl, ?hy24⟩) (by assumption) ?rest24
  case hy24 => ((intro w hSw; (try dsimp only at hSw); go_simp) <;> with_reducible rfl)
  case' rest24 => try simp only [List.getElem_toArray, List.getElem_cons_zero, List.getElem_cons_succ, Act.put, List.setIfInBounds_toArray, List.set_cons_zero, List.set_cons_succ]
  refine wpAnyH_take (i := 15) (oi := _) (v := ?v25) rfl (by kernel_rfl) (by kernel_rfl) (by kernel_rfl) (fun _ _ _ h => h) (Or.inl ⟨by rfl, ?hy25⟩) (by assumption) ?rest25
  case hy25 => ((intro w hSw; (try dsimp only at hSw); go_simp) <;> with_reducible rfl)
  case' rest25 => try simp only [List.getElem_toArray, List.getElem_cons_zero, List.getElem_cons_succ, Act.put, List.setIfInBounds_toArray, List.set_cons_zero, List.set_cons_succ]
  refine wpAnyH_take (i := 16) (oi := _) (v := ?v26) rfl (by kernel_rfl) (by kernel_rfl) (by kernel_rfl) (fun _ _ _ h => h) (Or.inl ⟨by rfl, ?hy26⟩) (by assumption) ?rest26
  case hy26 => ((intro w hSw; (try dsimp only at hSw); go_simp) <;> with_reducible rfl)
  case' rest26 => try simp only [List.getElem_toArray, List.getElem_cons_zero, List.getElem_cons_succ, Act.put, List.setIfInBounds_toArray, List.set_cons_zero, List.set_cons_succ]
  refine wpAnyH_take (i := 17) (oi := _) (v := ?v27) rfl (by kernel_rfl) (by kernel_rfl) (by kernel_rfl) (fun _ _ _ h => h) (Or.inl ⟨by rfl, ?hy27⟩) (by assumption) ?rest27
  case hy27 => ((intro w hSw; (try dsimp only at hSw); go_simp) <;> with_reducible rfl)
  case' rest27 => try simp only [List.getElem_toArray, List.getElem_cons_zero, List.getElem_cons_succ, Act.put, List.setIfInBounds_toArray, List.set_cons_zero, List.set_cons_succ]
  refine wpAnyH_take (i := 18) (oi := _) (v := ?v28) rfl (by kernel_rfl) (by kernel_rfl) (by kernel_rfl) (fun _ _ _ h => h) (Or.inl ⟨by rfl, ?hy28⟩) (by assumption) ?rest28
  case hy28 => ((intro w hSw; (try dsimp only at hSw); go_simp) <;> with_reducible rfl)
  case' rest28 => try simp only [List.getElem_toArray, List.getElem_cons_zero, List.getElem_cons_succ, Act.put, List.setIfInBounds_toArray, List.set_cons_zero, List.set_cons_succ]
  refine wpAnyH_take (i := 19) (oi := _) (v := ?v29) rfl (by kernel_rfl) (by kernel_rfl) (by kernel_rfl) (fun _ _ _ h => h) (Or.inl ⟨by rfl, ?hy29⟩) (by assumption) ?rest29
  case hy29 => ((intro w hSw; (try dsimp only at hSw); go_simp) <;> with_reducible rfl)
  case' rest29 => try simp only [List.getElem_toArray, List.getElem_cons_zero, List.getElem_cons_succ, Act.put, List.setIfInBounds_toArray, List.set_cons_zero, List.set_cons_succ]
  refine wpAnyH_take (i := 20) (oi := _) (v := ?v30) rfl (by kernel_rfl) (by kernel_rfl) (by kernel_rfl) (fun _ _ _ h => h) (Or.inl ⟨by rfl, ?hy30⟩) (by assumption) ?rest30
  case hy30 => ((intro w hSw; (try dsimp only at hSw); go_simp) <;> with_reducible rfl)
  case' rest30 => try simp only [List.getElem_toArray, List.getElem_cons_zero, List.getElem_cons_succ, Act.put, List.setIfInBounds_toArray, List.set_cons_zero, List.set_cons_succ]
  refine wpAnyH_take (i := 21) (oi := _) (v := ?v31) rfl (by kernel_rfl) (by kernel_rfl) (by kernel_rfl) (fun _ _ _ h => h) (Or.inl ⟨by rfl, ?hy31⟩) (by assumption) ?rest31
  case hy31 => ((intro w hSw; (try dsimp only at hSw); go_simp) <;> with_reducible rfl)
  case' rest31 => try simp only [List.getElem_toArray, List.getElem_cons_zero, List.getElem_cons_succ, Act.put, List.setIfInBounds_toArray, List.set_cons_zero, List.set_cons_succ]
  refine wpAnyH_take (i := 23) (oi := _) (v := ?v32) rfl (by kernel_rfl) (by kernel_rfl) (by kernel_rfl) (fun _ _ _ h => h) (Or.inl ⟨by rfl, ?hy32⟩) (by assumption) ?rest32
  case hy32 => ((intro w hSw; (try dsimp only at hSw); go_simp) <;> with_reducible rfl)
  case' rest32 => try simp only [List.getElem_toArray, List.getElem_cons_zero, List.getElem_cons_succ, Act.put, List.setIfInBounds_toArray, List.set_cons_zero, List.set_cons_succ]
  refine wpAnyH_ready (rs := [22]) (by kernel_rfl) (by simp) ?_
  refine AllReadyH.cons (o := _) rfl (fun K hK => ?_) AllReadyH.nil
  go_simp
  refine (HT3.out _).mono ?_
  rintro e x5 ⟨rfl, g5⟩
  try dsimp only
  refine hK.out _ _ ?hS35 (fun hHeld => ?rest35)
  case hS35 => ((try dsimp only); (((try go_split_ands); refine sn_of ?_; repeat' (first | with_reducible assumption | with_reducible exact Below.refl _ _ | with_reducible apply below_alloc | with_reducible apply below_drew1 | with_reducible apply below_drewN | (with_reducible apply below_step; with_reducible assumption) | (with_reducible apply below_sg2; (first | exact Nat.le_refl _ | (simp; done) | omega))))))
  case' rest35 => (clear hK K; try simp only [List.getElem_toArray, List.getElem_cons_zero, List.getElem_cons_succ, Act.put, List.setIfInBounds_toArray, List.set_cons_zero, List.set_cons_succ])
  have e4 := below_step g5 e3
  clear e3
  refine wpAnyH_ready (rs := [24]) (by kernel_rfl) (by simp) ?_
  refine AllReadyH.cons (o := _) rfl (fun K hK => ?_) AllReadyH.nil
  go_simp
  refine (HS3.out _ (hO3.drew.below e4).sl (hO6.drew.below e4).sl).mono ?_
  rintro e x6 ⟨rfl, g6⟩
  try dsimp only
  refine hK.out _ _ ?hS38 (fun hHeld => ?rest38)
  case hS38 => ((try dsimp only); (((try go_split_ands); refine sn_of ?_; repeat' (first | with_reducible assumption | with_reducible exact Below.refl _ _ | with_reducible apply below_alloc | with_reducible apply below_drew1 | with_reducible apply below_drewN | (with_reducible apply below_step; with_reducible assumption) | (with_reducible apply below_sg2; (first | exact Nat.le_refl _ | (simp; done) | omega))))))
  case' rest38 => (clear hK K; try simp only [List.getElem_toArray, List.getElem_cons_zero, List.getElem_cons_succ, Act.put, List.setIfInBounds_toArray, List.set_cons_zero, List.set_cons_succ])
  clear e4 g5 g6
  refine wpAnyH_take (i := 25) (oi := _) (v := ?v39) rfl (by kernel_rfl) (by kernel_rfl) (by kernel_rfl) (fun _ _ _ h => h) (Or.inl ⟨by rfl, ?hy39⟩) (by assumption) ?rest39
  case hy39 => ((intro w hSw; (try dsimp only at hSw); go_simp) <;> with_reducible rfl)
  case' rest39 => try simp only [List.getElem_toArray, List.getElem_cons_zero, List.getElem_cons_succ, Act.put, List.setIfInBounds_toArray, List.set_cons_zero, List.set_cons_succ]
  refine wpAnyH_take (i := 26) (oi := _) (v := ?v40) rfl (by kernel_rfl) (by kernel_rfl) (by kernel_rfl) (fun _ _ _ h => h) (Or.inl ⟨by rfl, ?hy40⟩) (by assumption) ?rest40
  case hy40 => ((intro w hSw; (try dsimp only at hSw); go_simp) <;> with_reducible rfl)
  case' rest40 => try simp only [List.getElem_toArray, List.getElem_cons_zero, List.getElem_cons_succ, Act.put, List.setIfInBounds_toArray, List.set_cons_zero, List.set_cons_succ]
  refine wpAnyH_take (i := 27) (oi := _) (v := ?v41) rfl (by kernel_rfl) (by kernel_rfl) (by kernel_rfl) (fun _ _ _ h => h) (Or.inl ⟨by rfl, ?hy41⟩) (by assumption) ?rest41
  case hy41 => ((intro w hSw; (try dsimp only at hSw); go_simp) <;> with_reducible rfl)
  case' rest41 => try simp only [List.getElem_toArray, List.getElem_cons_zero, List.getElem_cons_succ, Act.put, List.setIfInBounds_toArray, List.set_cons_zero, List.set_cons_succ]
  refine wpAnyH_take (i := 28) (oi := _) (v := ?v42) rfl (by kernel_rfl) (by kernel_rfl) (by kernel_rfl) (fun _ _ _ h => h) (Or.inl ⟨by rfl, ?hy42⟩) (by assumption) ?rest42
  case hy42 => ((intro w hSw; (try dsimp only at hSw); go_simp) <;> with_reducible rfl)
  case' rest42 => try simp only [List.getElem_toArray, List.getElem_cons_zero, List.getElem_cons_succ, Act.put, List.setIfInBounds_toArray, List.set_cons_zero, List.set_cons_succ]
  refine wpAnyH_take (i := 29) (oi := _) (v := ?v43) rfl (by kernel_rfl) (by kernel_rfl) (by kernel_rfl) (fun _ _ _ h => h) (Or.inl ⟨by rfl, ?hy43⟩) (by assumption) ?rest43
  case hy43 => ((intro w hSw; (try dsimp only at hSw); go_simp) <;> with_reducible rfl)
  case' rest43 => try simp only [List.getElem_toArray, List.getElem_cons_zero, List.getElem_cons_succ, Act.put, List.setIfInBounds_toArray, List.set_cons_zero, List.set_cons_succ]
  refine wpAnyH_take (i := 30) (oi := _) (v := ?v44) rfl (by kernel_rfl) (by kernel_rfl) (by kernel_rfl) (fun _ _ _ h => h) (Or.inl ⟨by rfl, ?hy44⟩) (by assumption) ?rest44
  case hy44 => ((intro w hSw; (try dsimp only at hSw); go_simp) <;> with_reducible rfl)
  case' rest44 => try simp only [List.getElem_toArray, List.getElem_cons_zero, List.getElem_cons_succ, Act.put, List.setIfInBounds_toArray, List.set_cons_zero, List.set_cons_succ]
  refine wpAnyH_ready (rs := [31]) (by kernel_rfl) (by simp) ?_
  refine AllReadyH.cons (o := _) rfl (fun K hK => ?_) AllReadyH.nil
  go_simp
  refine hK.out _ _ ?hS47 (fun hHeld => ?rest47)
  case hS47 => ((try dsimp only); (((try go_split_ands); refine sn_of ?_; repeat' (first | with_reducible assumption | with_reducible exact Below.refl _ _ | with_reducible apply below_alloc | with_reducible apply below_drew1 | with_reducible apply below_drewN | (with_reducible apply below_step; with_reducible assumption) | (with_reducible apply below_sg2; (first | exact Nat.le_refl _ | (simp; done) | omega))))))
  case' rest47 => (clear hK K; try simp only [List.getElem_toArray, List.getElem_cons_zero, List.getElem_cons_succ, Act.put, List.setIfInBounds_toArray, List.set_cons_zero, List.set_cons_succ])
  refine wpAnyH_done (by kernel_rfl) ?_ _
  have hEnd := hHeld.2
  repeat (clear hHeld)
  clear q1_c0 q1_f0 q1_c1 q1_f1 q1_c2 q1_f2 q1_c3 q1_f3 q1_c4 q1_f4 q1_c5 q1_f5 q1_c6 q1_f6 q1_c7 q1_f7 q1_c8 q1_f8 q1_c9 q1_f9 q1_c10 q1_f10 q1_c11 q1_f11 q1_c12 q1_f12 q1_c13 q1_f13
  clear q2_c0 q2_f0 q2_c1 q2_f1 q2_c2 q2_f2 q2_c3 q2_f3 q2_c4 q2_f4 q2_c5 q2_f5 q2_c6 q2_f6 q2_c7 q2_f7 q2_c8 q2_f8 q2_c9 q2_f9 q2_c10 q2_f10 q2_c11 q2_f11 q2_c12 q2_f12 q2_c13 q2_f13
  clear q3_c0 q3_f0 q3_c1 q3_f1 q3_c2 q3_f2 q3_c3 q3_f3 q3_c4 q3_f4 q3_c5 q3_f5 q3_c6 q3_f6 q3_c7 q3_f7 q3_c8 q3_f8 q3_c9 q3_f9 q3_c10 q3_f10 q3_c11 q3_f11 q3_c12 q3_f12 q3_c13 q3_f13
  clear q4_c0 q4_f0 q4_c1 q4_f1 q4_c2 q4_f2 q4_c3 q4_f3 q4_c4 q4_f4 q4_c5 q4_f5 q4_c6 q4_f6 q4_c7 q4_f7 q4_c8 q4_f8 q4_c9 q4_f9 q4_c10 q4_f10 q4_c11 q4_f11 q4_c12 q4_f12 q4_c13 q4_f13
  clear q5_c0 q5_f0 q5_c1 q5_f1 q5_c2 q5_f2 q5_c3 q5_f3 q5_c4 q5_f4 q5_c5 q5_f5 q5_c6 q5_f6 q5_c7 q5_f7 q5_c8 q5_f8 q5_c9 q5_f9 q5_c10 q5_f10 q5_c11 q5_f11 q5_c12 q5_f12 q5_c13 q5_f13
  clear q6_c0 q6_f0 q6_c1 q6_f1 q6_c2 q6_f2 q6_c3 q6_f3 q6_c4 q6_f4 q6_c5 q6_f5 q6_c6 q6_f6 q6_c7 q6_f7 q6_c8 q6_f8 q6_c9 q6_f9 q6_c10 q6_f10 q6_c11 q6_f11 q6_c12 q6_f12 q6_c13 q6_f13
  replace q1 := q1.below hEnd l1
  replace hO1 := hO1.below hEnd
  replace q2 := q2.below hEnd l2
  replace hO2 := hO2.below hEnd
  replace q3 := q3.below hEnd l3
  replace hO3 := hO3.below hEnd
  clear q4 q5 q6 hO4 hO5 hO6 HT1 HT2 HT3 HS1 HS2 HS3 l1 l2 l3 l4 l5 l6
  have hE0 := below_step hEnd hz6
  clear hEnd
  have d1 := q1.cell 9 rfl
  have m1 := q1.lt
  have y12 : w1.heap.size + 1 ≤ w2.heap.size := by have := hb2.size; simpa using this
  have y23 : w2.heap.size + 1 ≤ w3.heap.size := by have := hb3.size; simpa using this
  go_wp2_with fail
  refine (spoil_any A1 n1 c1 w0.heap.size data1 _ (by have := hO1.hn; have := HN.out; omega) hO1.own hE0.size).mono ?_
  rintro e v1 ⟨rfl, hg1⟩
  have hE1 := hE0.trans (below_grown hO1.own hE0.size hg1)
  replace q2 := blk_far q2 hg1 (fun g' h => (hA1 g' h).2) (by omega)
  replace q3 := blk_far q3 hg1 (fun g' h => (hA1 g' h).2) (by omega)
  replace hO2 := own_far hO2 hg1 (fun g' h => by have := (hA1 g' h).2; simp; omega)
  replace hO3 := own_far hO3 hg1 (fun g' h => by have := (hA1 g' h).2; simp; omega)
  have d2 := q2.cell 9 rfl
  have m2 := q2.lt
  go_wp2_with fail
  refine (spoil_any A2 n2 c2 _ data2 _ (by have := hO2.hn; have := HN.out; omega) hO2.own (by simp; omega)).mono ?_
  rintro e v2 ⟨rfl, hg2⟩
  have hE2 := hE1.trans (below_grown (hO2.mono (B' := w0.heap.size) (by have := hb1.size; simp; omega)).own hE1.size hg2)
  replace q3 := blk_far q3 hg2 (fun g' h => (hA2 g' h).2) (by omega)
  replace hO3 := own_far hO3 hg2 (fun g' h => by have := (hA2 g' h).2; simp; omega)
  have d3 := q3.cell 9 rfl
  have m3 := q3.lt
  go_wp2_with fail
  refine (spoil_any A3 n3 c3 _ data3 _ (by have := hO3.hn; have := HN.out; omega) hO3.own (by simp; omega)).mono ?_
  rintro e v3 ⟨rfl, hg3⟩
  have hE3 := hE2.trans (below_grown (hO3.mono (B' := w0.heap.size) (by have := hb1.size; simp; omega)).own hE2.size hg3)
  go_wp2_with fail
  refine (kept_yes g A n c0 c b v3 HN.out (by omega) hc0 (hO0.below hE3).sl (hs0.below hE3)).mono ?_
  rintro e v4 ⟨rfl, rfl⟩
  go_wp2_with fail
  refine (known_20 _).mono ?_
  rintro e v5 ⟨rfl, hb5⟩
  go_wp2_with fail
  go_ret
  exact ⟨rfl, below_step hb5 (hb0.trans (hE3.mono hb0.size))⟩
end Go.Proofs.Ytcncbmlacphclaa
namespace Go.Proofs.Ytcncbmlacphclaa.lawSdomsgReads
open Go.ChangeShapes Go.WideShapes Go.ChangeAt Go.RowKit Go.Joins
set_option linter.unusedVariables false

theorem own : ownKnob Try.prog.godebug = none := by kernel_rfl
theorem laidOut : laidOutB Try.prog = true := by kernel_rfl

set_option maxRecDepth 100000 in
theorem lifted (os : Os) (started : os.Started) (H : Type) (enc : TypeId × Value → H) :
    ReturnsInHanded {} Try.checked os 8 .any (Rows.sdomsgReadsSpec.pre6 enc Try.prog Try.f8 Rows.sdomsgReadsRow.domain false) (Rows.sdomsgReadsSpec.post enc Try.prog Try.f8 false true false false) := by
  refine returnsInHanded_of_change (C := Try.checked) own started (by kernel_rfl) Try.func8
    (ChangeSpec.witness6 (enc := enc) (C := Try.checked) false ⟨#[], #[.slice none 0 0], []⟩ 8 (by kernel_rfl) (by kernel_rfl) (by kernel_rfl) (by kernel_rfl)) ?_
  intro W base args ds gs before hval0 hW hcnd _
  have hval : ∀ (j : Nat) t v, Try.f8.params[j]? = some t → args[j]? = some v → Value.okWide Try.prog W .any base t v := hval0
  have hW' := hW
  obtain ⟨p, q, hA0, hV, rfl, hfz, hnd⟩ := hW
  have hA : DataW.TrodAll enc Try.prog W 0 (fun _ => true) true Try.f8.params.toList args.toList ds p := hA0
  rw [Try.params8] at hA hval
  obtain ⟨v0, vs0, d0, ds0, p0, q0, hargs, rfl, rfl, h0, r0⟩ := trodAll_cons hA
  obtain ⟨rfl, rfl, rfl⟩ := trodAll_nil r0
  obtain rfl : args = #[v0] := by cases args; simp_all
  obtain ⟨rfl, rfl⟩ := trodVars_none hV
  have k0 := h0
  have lt0 : ∀ x ∈ p0, x.block < W.heap.size := by obtain ⟨m, hm⟩ := k0; exact DataW.trod_lt m _ _ _ hm
  obtain ⟨a0, len0, cap0, rfl⟩ := okWide_slice Try.underlying22 (hval 0 22 v0 rfl rfl)
  obtain ⟨fu0, hm0⟩ := h0
  obtain ⟨A0, c0, l0, hv0, hc0, hs0⟩ := open_bytes hm0
  injection hv0 with e01 e02 e03
  subst e01 e02 e03
  clear hA0 hval0
  refine (sdomsgReads_walk _ _ _ l0 W rfl hc0 hs0).mono fun e W' hTB => ?_
  obtain ⟨he, bel⟩ := hTB
  subst he
  exact ⟨_, rfl, _, _, _, [], _, [], hW', trodAll_mk1 (shut_bool Try.underlying4 _), (trodAll_cons_mk (Below.trod laidOut (by kernel_rfl) (of_decide_eq_true (by kernel_rfl)) k0 bel lt0) trodAll_mk0), rfl, bel.frame _, fun h => by cases h⟩

theorem over : Rows.sdomsgReadsRow.holds Try.pinned (OpenSpec.ofChange Rows.sdomsgReadsSpec) :=
  OpenClaim.holds_of_wide 8 Try.f8 rfl rfl rfl rfl rfl rfl rfl ⟨rfl, rfl, rfl, rfl, rfl⟩ rfl rfl rfl rfl rfl (by kernel_rfl) Try.func8 (by kernel_rfl)
    (of_decide_eq_true (by kernel_rfl)) (by unfold Func.isWrapper; first | (rw [if_pos (by decide +kernel)]; kernel_rfl) | (rw [if_neg (by decide +kernel)]; exact ⟨rfl, rfl⟩))
    (fun os started H enc _ => lifted os started H enc)

theorem proved : Rows.SdomsgReadsSaid := over
#print axioms proved
end Go.Proofs.Ytcncbmlacphclaa.lawSdomsgReads
