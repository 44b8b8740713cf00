/- Law SdomsgBuilds: the walk (printed by wip/tools/gen_buildw.py). -/
import Derived.Test.YtcncbmlacphclaaSdW
import Derived.Test.YtcncbmlacphclaaRSdF
import Derived.Test.YtcncbmlacphclaaSdK
import Derived.Test.YtcncbmlacphclaaRef01b
import Derived.Deep.RegionHeld3
namespace Go.Proofs.Ytcncbmlacphclaa
set_option linter.unusedVariables false
set_option linter.unusedSimpArgs false
set_option linter.unnecessarySimpa false
open Go.RowKit
set_option maxRecDepth 100000
set_option maxHeartbeats 4000000

theorem sdomsgBuilds_walk (M N : Ms) (A A2 : Option Addr) (n c n2 c2 : Nat) (w : World) (hn : n = M.data.length) (hs : Sl w A (M.data.map bv)) (hn2 : n2 = N.data.length) (hs2 : Sl w A2 (N.data.map bv)) (hu1 : M.size ≤ 4294967295) (hu2 : M.code ≤ 4294967295) (hu3 : M.sum ≤ 65535) :
    Calls Try.prog 7 #[.agg (msV M A n c), .agg (msV N A2 n2 c2)] w (TrueB w) := by
  obtain ⟨q0, r0⟩ := blk_two w 43 43 (msV M A n c) (msV N A2 n2 c2)
  have hbw := below_alloc (below_alloc (Below.refl w.heap.size w) (.cells (msV M A n c) 43)) (.cells (msV N A2 n2 c2) 43)
  have hs1 := (hs.alloc (.cells (msV M A n c) 43)).alloc (.cells (msV N A2 n2 c2) 43)
  have hs3 := (hs2.alloc (.cells (msV M A n c) 43)).alloc (.cells (msV N A2 n2 c2) 43)
  have HGM := hide (fun W => given_20 M A n c W)
  have HGN := hide (fun W => given_20 N A2 n2 c2 W)
  have HB := hide (fun W g c' h => sd_build M (some ⟨g, 0, none⟩) n c' W hn h hu1 hu2 hu3)
  have HRB := hide (fun W h => rsd_build M A n c W hn h hu1 hu2 hu3)
  have HSM := hide (fun W h1 h2 => sd_same M N A A2 n c n2 c2 W hn hn2 h1 h2)
  have HRS := hide (fun W h1 h2 => rsd_same M N A A2 n c n2 c2 W hn hn2 h1 h2)
  have HN := hide hn
  unfold BuildM at HB HRB
  have hL8 : (if canB M = true then laidB M else []).length ≤ 8 := by
    cases h : canB M
    · simp
    · rw [if_pos rfl, laid_len M h]; omega
  generalize sameB M N = sm at *
  generalize (if canB M = true then laidB M else []) = L at *
  generalize (if canB M = true then (0 : Int) else 1) = er at *
  clear hs hs2 hn hn2 hu1 hu2 hu3
  obtain ⟨kind, ix, sub, tg, la, cr, sz, size, code, data, sq, bl, em, sum⟩ := M
  obtain ⟨kind', ix', sub', tg', la', cr', sz', size', code', data', sq', bl', em', sum'⟩ := N
  simp only [msV] at *
  have lq := q0.lt
  have lr := r0.lt
  by_cases hbig : 1000 < n
  case pos =>
    clear HGM HGN HB HRB HSM HRS hs1 hs3 HN
    go_enter Try.func7, Try.ntmps7
    go_wp2_with fail
    refine (known_20 _).mono ?_
    rintro e w1 ⟨rfl, hb1⟩
    go_wp2_with fail
    go_ret
    exact ⟨rfl, below_step hb1 hbw⟩
  by_cases hbig2 : 1000 < n2
  case pos =>
    clear HGM HGN HB HRB HSM HRS hs1 hs3 HN
    go_enter Try.func7, Try.ntmps7
    go_wp2_with fail
    refine (known_20 _).mono ?_
    rintro e w1 ⟨rfl, hb1⟩
    go_wp2_with fail
    go_ret
    exact ⟨rfl, below_step hb1 hbw⟩
  have h1000 : n ≤ 1000 := by omega
  have h1001 : n2 ≤ 1000 := by omega
  clear hbig hbig2
  have q0_c0 := q0.cell 0 rfl
  have q0_f0 := q0.frozen 0
  have q0_c1 := q0.cell 1 rfl
  have q0_f1 := q0.frozen 1
  have q0_c2 := q0.cell 2 rfl
  have q0_f2 := q0.frozen 2
  have q0_c3 := q0.cell 3 rfl
  have q0_f3 := q0.frozen 3
  have q0_c4 := q0.cell 4 rfl
  have q0_f4 := q0.frozen 4
  have q0_c5 := q0.cell 5 rfl
  have q0_f5 := q0.frozen 5
  have q0_c6 := q0.cell 6 rfl
  have q0_f6 := q0.frozen 6
  have q0_c7 := q0.cell 7 rfl
  have q0_f7 := q0.frozen 7
  have q0_c8 := q0.cell 8 rfl
  have q0_f8 := q0.frozen 8
  have q0_c9 := q0.cell 9 rfl
  have q0_f9 := q0.frozen 9
  have q0_c10 := q0.cell 10 rfl
  have q0_f10 := q0.frozen 10
  have q0_c11 := q0.cell 11 rfl
  have q0_f11 := q0.frozen 11
  have q0_c12 := q0.cell 12 rfl
  have q0_f12 := q0.frozen 12
  have q0_c13 := q0.cell 13 rfl
  have q0_f13 := q0.frozen 13
  have r0_c0 := r0.cell 0 rfl
  have r0_f0 := r0.frozen 0
  have r0_c1 := r0.cell 1 rfl
  have r0_f1 := r0.frozen 1
  have r0_c2 := r0.cell 2 rfl
  have r0_f2 := r0.frozen 2
  have r0_c3 := r0.cell 3 rfl
  have r0_f3 := r0.frozen 3
  have r0_c4 := r0.cell 4 rfl
  have r0_f4 := r0.frozen 4
  have r0_c5 := r0.cell 5 rfl
  have r0_f5 := r0.frozen 5
  have r0_c6 := r0.cell 6 rfl
  have r0_f6 := r0.frozen 6
  have r0_c7 := r0.cell 7 rfl
  have r0_f7 := r0.frozen 7
  have r0_c8 := r0.cell 8 rfl
  have r0_f8 := r0.frozen 8
  have r0_c9 := r0.cell 9 rfl
  have r0_f9 := r0.frozen 9
  have r0_c10 := r0.cell 10 rfl
  have r0_f10 := r0.frozen 10
  have r0_c11 := r0.cell 11 rfl
  have r0_f11 := r0.frozen 11
  have r0_c12 := r0.cell 12 rfl
  have r0_f12 := r0.frozen 12
  have r0_c13 := r0.cell 13 rfl
  have r0_f13 := r0.frozen 13
  go_enter Try.func7, Try.ntmps7
  go_wp2_with fail
  generalize (w.alloc (.cells #[.int .i64 kind, .int .i64 ix, .int .i64 sub, .bool tg, .bool la, .bool cr, .bool sz, .int .u32 (size : Nat), .int .u32 (code : Nat), .slice A n c, .int .i64 sq, .int .i64 bl, .int .i64 em, .int .u16 (sum : Nat)] 43)).alloc (.cells #[.int .i64 kind', .int .i64 ix', .int .i64 sub', .bool tg', .bool la', .bool cr', .bool sz', .int .u32 (size' : Nat), .int .u32 (code' : Nat), .slice A2 n2 c2, .int .i64 sq', .int .i64 bl', .int .i64 em', .int .u16 (sum' : Nat)] 43) = W1 at *
  refine (HGM.out W1).mono ?_
  rintro e w2 ⟨rfl, hb2⟩
  clear q0_c0 q0_f0 q0_c1 q0_f1 q0_c2 q0_f2 q0_c3 q0_f3 q0_c4 q0_f4 q0_c5 q0_f5 q0_c6 q0_f6 q0_c7 q0_f7 q0_c8 q0_f8 q0_c9 q0_f9 q0_c10 q0_f10 q0_c11 q0_f11 q0_c12 q0_f12 q0_c13 q0_f13
  clear r0_c0 r0_f0 r0_c1 r0_f1 r0_c2 r0_f2 r0_c3 r0_f3 r0_c4 r0_f4 r0_c5 r0_f5 r0_c6 r0_f6 r0_c7 r0_f7 r0_c8 r0_f8 r0_c9 r0_f9 r0_c10 r0_f10 r0_c11 r0_f11 r0_c12 r0_f12 r0_c13 r0_f13
  have q2 := (q0.below hb2 lq).alloc (.cells #[.int .i64 kind, .int .i64 ix, .int .i64 sub, .bool tg, .bool la, .bool cr, .bool sz, .int .u32 (size : Nat), .int .u32 (code : Nat), .slice A n c, .int .i64 sq, .int .i64 bl, .int .i64 em, .int .u16 (sum : Nat)] 44)
  have r2 := (r0.below hb2 lr).alloc (.cells #[.int .i64 kind, .int .i64 ix, .int .i64 sub, .bool tg, .bool la, .bool cr, .bool sz, .int .u32 (size : Nat), .int .u32 (code : Nat), .slice A n c, .int .i64 sq, .int .i64 bl, .int .i64 em, .int .u16 (sum : Nat)] 44)
  have o2 := Blk.new w2 44 #[.int .i64 kind, .int .i64 ix, .int .i64 sub, .bool tg, .bool la, .bool cr, .bool sz, .int .u32 (size : Nat), .int .u32 (code : Nat), .slice A n c, .int .i64 sq, .int .i64 bl, .int .i64 em, .int .u16 (sum : Nat)]
  have h2 : Below W1.heap.size W1 (w2.alloc (.cells #[.int .i64 kind, .int .i64 ix, .int .i64 sub, .bool tg, .bool la, .bool cr, .bool sz, .int .u32 (size : Nat), .int .u32 (code : Nat), .slice A n c, .int .i64 sq, .int .i64 bl, .int .i64 em, .int .u16 (sum : Nat)] 44)) := below_alloc hb2 _
  have lw2 : w2.heap.size < (w2.alloc (.cells #[.int .i64 kind, .int .i64 ix, .int .i64 sub, .bool tg, .bool la, .bool cr, .bool sz, .int .u32 (size : Nat), .int .u32 (code : Nat), .slice A n c, .int .i64 sq, .int .i64 bl, .int .i64 em, .int .u16 (sum : Nat)] 44)).heap.size := by simp
  have lqw : w.heap.size < w2.heap.size := Nat.lt_of_lt_of_le lq hb2.size
  have lrw : w.heap.size + 1 < w2.heap.size := Nat.lt_of_lt_of_le lr hb2.size
  clear q0 r0
  have q2_c0 := q2.cell 0 rfl
  have q2_f0 := q2.frozen 0
  have q2_c1 := q2.cell 1 rfl
  have q2_f1 := q2.frozen 1
  have q2_c2 := q2.cell 2 rfl
  have q2_f2 := q2.frozen 2
  have q2_c3 := q2.cell 3 rfl
  have q2_f3 := q2.frozen 3
  have q2_c4 := q2.cell 4 rfl
  have q2_f4 := q2.frozen 4
  have q2_c5 := q2.cell 5 rfl
  have q2_f5 := q2.frozen 5
  have q2_c6 := q2.cell 6 rfl
  have q2_f6 := q2.frozen 6
  have q2_c7 := q2.cell 7 rfl
  have q2_f7 := q2.frozen 7
  have q2_c8 := q2.cell 8 rfl
  have q2_f8 := q2.frozen 8
  have q2_c9 := q2.cell 9 rfl
  have q2_f9 := q2.frozen 9
  have q2_c10 := q2.cell 10 rfl
  have q2_f10 := q2.frozen 10
  have q2_c11 := q2.cell 11 rfl
  have q2_f11 := q2.frozen 11
  have q2_c12 := q2.cell 12 rfl
  have q2_f12 := q2.frozen 12
  have q2_c13 := q2.cell 13 rfl
  have q2_f13 := q2.frozen 13
  go_wp2_with fail
  generalize w2.alloc (.cells #[.int .i64 kind, .int .i64 ix, .int .i64 sub, .bool tg, .bool la, .bool cr, .bool sz, .int .u32 (size : Nat), .int .u32 (code : Nat), .slice A n c, .int .i64 sq, .int .i64 bl, .int .i64 em, .int .u16 (sum : Nat)] 44) = W2 at *
  refine (lent_any A n c data W2 HN.out (by omega) (hs1.below h2)).mono ?_
  rintro e w3 ⟨g, c4, rfl, hO4, hb3⟩
  have hc4 : n + 1 ≤ c4 := hO4.own.le
  clear q2_c0 q2_f0 q2_c1 q2_f1 q2_c2 q2_f2 q2_c3 q2_f3 q2_c4 q2_f4 q2_c5 q2_f5 q2_c6 q2_f6 q2_c7 q2_f7 q2_c8 q2_f8 q2_c9 q2_f9 q2_c10 q2_f10 q2_c11 q2_f11 q2_c12 q2_f12 q2_c13 q2_f13
  have h3 := below_step hb3 h2
  have q3 := q2.below hb3 (by omega)
  have r3 := r2.below hb3 (by omega)
  have o3 := o2.below hb3 lw2
  have lo3 := o3.lt
  clear q2 r2 o2
  have o3_c0 := o3.cell 0 rfl
  have o3_f0 := o3.frozen 0
  have o3_c1 := o3.cell 1 rfl
  have o3_f1 := o3.frozen 1
  have o3_c2 := o3.cell 2 rfl
  have o3_f2 := o3.frozen 2
  have o3_c3 := o3.cell 3 rfl
  have o3_f3 := o3.frozen 3
  have o3_c4 := o3.cell 4 rfl
  have o3_f4 := o3.frozen 4
  have o3_c5 := o3.cell 5 rfl
  have o3_f5 := o3.frozen 5
  have o3_c6 := o3.cell 6 rfl
  have o3_f6 := o3.frozen 6
  have o3_c7 := o3.cell 7 rfl
  have o3_f7 := o3.frozen 7
  have o3_c8 := o3.cell 8 rfl
  have o3_f8 := o3.frozen 8
  have o3_c9 := o3.cell 9 rfl
  have o3_f9 := o3.frozen 9
  have o3_c10 := o3.cell 10 rfl
  have o3_f10 := o3.frozen 10
  have o3_c11 := o3.cell 11 rfl
  have o3_f11 := o3.frozen 11
  have o3_c12 := o3.cell 12 rfl
  have o3_f12 := o3.frozen 12
  have o3_c13 := o3.cell 13 rfl
  have o3_f13 := o3.frozen 13
  go_wp2_with fail
  clear o3_c0 o3_f0 o3_c1 o3_f1 o3_c2 o3_f2 o3_c3 o3_f3 o3_c4 o3_f4 o3_c5 o3_f5 o3_c6 o3_f6 o3_c7 o3_f7 o3_c8 o3_f8 o3_c9 o3_f9 o3_c10 o3_f10 o3_c11 o3_f11 o3_c12 o3_f12 o3_c13 o3_f13
  have o4 := o3.set_ 9 (.slice (some ⟨g, 0, none⟩) n c4)
  simp only [List.setIfInBounds_toArray, List.set_cons_zero, List.set_cons_succ] at o4
  have q4 := q3.far (p := ⟨w2.heap.size, 9, none⟩) (by simp; omega) (.slice (some ⟨g, 0, none⟩) n c4)
  have r4 := r3.far (p := ⟨w2.heap.size, 9, none⟩) (by simp; omega) (.slice (some ⟨g, 0, none⟩) n c4)
  have h4 : Below W1.heap.size W1 (w3.setCell ⟨w2.heap.size, 9, none⟩ (.slice (some ⟨g, 0, none⟩) n c4)) := below_sg2 hb2.size h3
  have hO5 := hO4.set_ (p := ⟨w2.heap.size, 9, none⟩) lw2 (.slice (some ⟨g, 0, none⟩) n c4)
  clear o3 q3 r3 hO4
  generalize w3.setCell ⟨w2.heap.size, 9, none⟩ (.slice (some ⟨g, 0, none⟩) n c4) = Wb at *
  have lq4 := q4.lt
  have lr4 := r4.lt
  have lo4 := o4.lt
  have hsA := hs1.below h4
  have hsB := hs3.below h4
  have hsl : Sl Wb (some ⟨g, 0, none⟩) (data.map bv) := by
    have := hO5.sl.take n
    rw [List.map_append, HN.out, List.take_left' (by simp)] at this
    exact this
  refine (HB.out Wb g c4 hsl).mono ?_
  rintro e w5 ⟨A3, n3, c3, rfl, hO3, hb5⟩
  have q5 := q4.below hb5 lq4
  have lq5 := q5.lt
  have q5_c0 := q5.cell 0 rfl
  have q5_f0 := q5.frozen 0
  have q5_c1 := q5.cell 1 rfl
  have q5_f1 := q5.frozen 1
  have q5_c2 := q5.cell 2 rfl
  have q5_f2 := q5.frozen 2
  have q5_c3 := q5.cell 3 rfl
  have q5_f3 := q5.frozen 3
  have q5_c4 := q5.cell 4 rfl
  have q5_f4 := q5.frozen 4
  have q5_c5 := q5.cell 5 rfl
  have q5_f5 := q5.frozen 5
  have q5_c6 := q5.cell 6 rfl
  have q5_f6 := q5.frozen 6
  have q5_c7 := q5.cell 7 rfl
  have q5_f7 := q5.frozen 7
  have q5_c8 := q5.cell 8 rfl
  have q5_f8 := q5.frozen 8
  have q5_c9 := q5.cell 9 rfl
  have q5_f9 := q5.frozen 9
  have q5_c10 := q5.cell 10 rfl
  have q5_f10 := q5.frozen 10
  have q5_c11 := q5.cell 11 rfl
  have q5_f11 := q5.frozen 11
  have q5_c12 := q5.cell 12 rfl
  have q5_f12 := q5.frozen 12
  have q5_c13 := q5.cell 13 rfl
  have q5_f13 := q5.frozen 13
  go_wp2_with fail
  refine (HRB.out w5 (hsA.below hb5)).mono ?_
  rintro e w6 ⟨A4, n4, c6, rfl, hO4, hb6⟩
  have hb46 := below_step hb6 hb5
  clear q5_c0 q5_f0 q5_c1 q5_f1 q5_c2 q5_f2 q5_c3 q5_f3 q5_c4 q5_f4 q5_c5 q5_f5 q5_c6 q5_f6 q5_c7 q5_f7 q5_c8 q5_f8 q5_c9 q5_f9 q5_c10 q5_f10 q5_c11 q5_f11 q5_c12 q5_f12 q5_c13 q5_f13
  clear q5 lq5
  have q6 := q4.below hb46 lq4
  have o6 := o4.below hb46 lo4
  have lq6 := q6.lt
  have lo6 := o6.lt
  have k1 := q6.cell 9 rfl
  have k2 := o6.cell 9 rfl
  have hO3' := hO3.below hb6
  have t1 := str_b c3 hO3.hn hO3'.sl
  have t2 := str_b c6 hO4.hn hO4.sl
  have hn3 : n3 ≤ 8 := by have := hO3.hn; omega
  obtain ⟨s2, hs2⟩ : ∃ s : ByteArray, s = ⟨L.toArray⟩ := ⟨_, rfl⟩
  rw [← hs2] at t1 t2
  clear hs2
  go_wp2_with fail
  refine (kept_yes g A n c4 c data w6 HN.out (by omega) hc4 (hO5.below hb46).sl (hsA.below hb46)).mono ?_
  rintro e w7 ⟨rfl, rfl⟩
  go_wp2_with fail
  refine (spoil_any A3 n3 c3 Wb.heap.size L w6 (by omega) hO3'.own hb46.size).mono ?_
  rintro e w8 ⟨rfl, hg8⟩
  have hb48 : Below Wb.heap.size Wb w8 := hb46.trans (below_grown hO3'.own hb46.size hg8)
  clear k1 k2 q6 o6 lq6 lo6 t1 t2 hO3 hO3' hO4 hg8
  have q8 := q4.below hb48 lq4
  have r8 := r4.below hb48 lr4
  have o8 := o4.below hb48 lo4
  have lq8 := q8.lt
  have lr8 := r8.lt
  have lo8 := o8.lt
  have q8_c0 := q8.cell 0 rfl
  have q8_f0 := q8.frozen 0
  have q8_c1 := q8.cell 1 rfl
  have q8_f1 := q8.frozen 1
  have q8_c2 := q8.cell 2 rfl
  have q8_f2 := q8.frozen 2
  have q8_c3 := q8.cell 3 rfl
  have q8_f3 := q8.frozen 3
  have q8_c4 := q8.cell 4 rfl
  have q8_f4 := q8.frozen 4
  have q8_c5 := q8.cell 5 rfl
  have q8_f5 := q8.frozen 5
  have q8_c6 := q8.cell 6 rfl
  have q8_f6 := q8.frozen 6
  have q8_c7 := q8.cell 7 rfl
  have q8_f7 := q8.frozen 7
  have q8_c8 := q8.cell 8 rfl
  have q8_f8 := q8.frozen 8
  have q8_c9 := q8.cell 9 rfl
  have q8_f9 := q8.frozen 9
  have q8_c10 := q8.cell 10 rfl
  have q8_f10 := q8.frozen 10
  have q8_c11 := q8.cell 11 rfl
  have q8_f11 := q8.frozen 11
  have q8_c12 := q8.cell 12 rfl
  have q8_f12 := q8.frozen 12
  have q8_c13 := q8.cell 13 rfl
  have q8_f13 := q8.frozen 13
  have r8_c0 := r8.cell 0 rfl
  have r8_f0 := r8.frozen 0
  have r8_c1 := r8.cell 1 rfl
  have r8_f1 := r8.frozen 1
  have r8_c2 := r8.cell 2 rfl
  have r8_f2 := r8.frozen 2
  have r8_c3 := r8.cell 3 rfl
  have r8_f3 := r8.frozen 3
  have r8_c4 := r8.cell 4 rfl
  have r8_f4 := r8.frozen 4
  have r8_c5 := r8.cell 5 rfl
  have r8_f5 := r8.frozen 5
  have r8_c6 := r8.cell 6 rfl
  have r8_f6 := r8.frozen 6
  have r8_c7 := r8.cell 7 rfl
  have r8_f7 := r8.frozen 7
  have r8_c8 := r8.cell 8 rfl
  have r8_f8 := r8.frozen 8
  have r8_c9 := r8.cell 9 rfl
  have r8_f9 := r8.frozen 9
  have r8_c10 := r8.cell 10 rfl
  have r8_f10 := r8.frozen 10
  have r8_c11 := r8.cell 11 rfl
  have r8_f11 := r8.frozen 11
  have r8_c12 := r8.cell 12 rfl
  have r8_f12 := r8.frozen 12
  have r8_c13 := r8.cell 13 rfl
  have r8_f13 := r8.frozen 13
  have k2 := o8.cell 9 rfl
  go_wp2_with fail
  have hA8 : ∀ W, Below w8.heap.size w8 W → Below Wb.heap.size Wb W := fun W h => hb48.trans (h.mono hb48.size)
  have HA8 := hide hA8
  clear hA8
  refine wp_region_held_drew (S := (fun w' => (∀ p : Addr, p.block < (w8).heap.size → w'.cell? p = (w8).cell? p) ∧ Below (w8).heap.size (w8) w')) (by kernel_rfl) ?hS1 (fun hHeld => ?rest1)
  case hS1 => ((try dsimp only); (((try go_split_ands); refine sn_of ?_; repeat' (first | with_reducible assumption | with_reducible exact Below.refl _ _ | with_reducible apply below_alloc | with_reducible apply below_drew1 | with_reducible apply below_drewN | (with_reducible apply below_step; with_reducible assumption) | (with_reducible apply below_sg2; (first | exact Nat.le_refl _ | (simp; done) | omega))))))
  case' rest1 => skip
  refine wpAnyH_take (i := 0) (oi := _) (v := ?v2) rfl (by kernel_rfl) (by kernel_rfl) (by kernel_rfl) (fun _ _ _ h => h) (Or.inl ⟨by rfl, ?hy2⟩) (by assumption) ?rest2
  case hy2 => ((intro w hSw; (try dsimp only at hSw); go_simp) <;> with_reducible rfl)
  case' rest2 => try simp only [List.getElem_toArray, List.getElem_cons_zero, List.getElem_cons_succ, Act.put, List.setIfInBounds_toArray, List.set_cons_zero, List.set_cons_succ]
  refine wpAnyH_take (i := 1) (oi := _) (v := ?v3) rfl (by kernel_rfl) (by kernel_rfl) (by kernel_rfl) (fun _ _ _ h => h) (Or.inl ⟨by rfl, ?hy3⟩) (by assumption) ?rest3
  case hy3 => ((intro w hSw; (try dsimp only at hSw); go_simp) <;> with_reducible rfl)
  case' rest3 => try simp only [List.getElem_toArray, List.getElem_cons_zero, List.getElem_cons_succ, Act.put, List.setIfInBounds_toArray, List.set_cons_zero, List.set_cons_succ]
  refine wpAnyH_take (i := 2) (oi := _) (v := ?v4) rfl (by kernel_rfl) (by kernel_rfl) (by kernel_rfl) (fun _ _ _ h => h) (Or.inl ⟨by rfl, ?hy4⟩) (by assumption) ?rest4
  case hy4 => ((intro w hSw; (try dsimp only at hSw); go_simp) <;> with_reducible rfl)
  case' rest4 => try simp only [List.getElem_toArray, List.getElem_cons_zero, List.getElem_cons_succ, Act.put, List.setIfInBounds_toArray, List.set_cons_zero, List.set_cons_succ]
  refine wpAnyH_take (i := 3) (oi := _) (v := ?v5) rfl (by kernel_rfl) (by kernel_rfl) (by kernel_rfl) (fun _ _ _ h => h) (Or.inl ⟨by rfl, ?hy5⟩) (by assumption) ?rest5
  case hy5 => ((intro w hSw; (try dsimp only at hSw); go_simp) <;> with_reducible rfl)
  case' rest5 => try simp only [List.getElem_toArray, List.getElem_cons_zero, List.getElem_cons_succ, Act.put, List.setIfInBounds_toArray, List.set_cons_zero, List.set_cons_succ]
  refine wpAnyH_take (i := 4) (oi := _) (v := ?v6) rfl (by kernel_rfl) (by kernel_rfl) (by kernel_rfl) (fun _ _ _ h => h) (Or.inl ⟨by rfl, ?hy6⟩) (by assumption) ?rest6
  case hy6 => ((intro w hSw; (try dsimp only at hSw); go_simp) <;> with_reducible rfl)
  case' rest6 => try simp only [List.getElem_toArray, List.getElem_cons_zero, List.getElem_cons_succ, Act.put, List.setIfInBounds_toArray, List.set_cons_zero, List.set_cons_succ]
  refine wpAnyH_take (i := 5) (oi := _) (v := ?v7) rfl (by kernel_rfl) (by kernel_rfl) (by kernel_rfl) (fun _ _ _ h => h) (Or.inl ⟨by rfl, ?hy7⟩) (by assumption) ?rest7
  case hy7 => ((intro w hSw; (try dsimp only at hSw); go_simp) <;> with_reducible rfl)
  case' rest7 => try simp only [List.getElem_toArray, List.getElem_cons_zero, List.getElem_cons_succ, Act.put, List.setIfInBounds_toArray, List.set_cons_zero, List.set_cons_succ]
  refine wpAnyH_ready (rs := [6]) (by kernel_rfl) (by simp) ?_
  refine AllReadyH.cons (o := _) rfl (fun K hK => ?_) AllReadyH.nil
  go_simp
  refine (kept_yes g A n c4 c data w8.drew HN.out (by omega) hc4 ((hO5.below (below_drew1 hb48)).sl) (hsA.below (below_drew1 hb48))).mono ?_
  rintro e x1 ⟨rfl, rfl⟩
  try dsimp only
  refine hK.out _ _ ?hS10 (fun hHeld => ?rest10)
  case hS10 => ((try dsimp only); (((try go_split_ands); refine sn_of ?_; repeat' (first | with_reducible assumption | with_reducible exact Below.refl _ _ | with_reducible apply below_alloc | with_reducible apply below_drew1 | with_reducible apply below_drewN | (with_reducible apply below_step; with_reducible assumption) | (with_reducible apply below_sg2; (first | exact Nat.le_refl _ | (simp; done) | omega))))))
  case' rest10 => (clear hK K; try simp only [List.getElem_toArray, List.getElem_cons_zero, List.getElem_cons_succ, Act.put, List.setIfInBounds_toArray, List.set_cons_zero, List.set_cons_succ])
  refine wpAnyH_take (i := 7) (oi := _) (v := ?v11) rfl (by kernel_rfl) (by kernel_rfl) (by kernel_rfl) (fun _ _ _ h => h) (Or.inl ⟨by rfl, ?hy11⟩) (by assumption) ?rest11
  case hy11 => ((intro w hSw; (try dsimp only at hSw); go_simp) <;> with_reducible rfl)
  case' rest11 => try simp only [List.getElem_toArray, List.getElem_cons_zero, List.getElem_cons_succ, Act.put, List.setIfInBounds_toArray, List.set_cons_zero, List.set_cons_succ]
  refine wpAnyH_take (i := 8) (oi := _) (v := ?v12) rfl (by kernel_rfl) (by kernel_rfl) (by kernel_rfl) (fun _ _ _ h => h) (Or.inl ⟨by rfl, ?hy12⟩) (by assumption) ?rest12
  case hy12 => ((intro w hSw; (try dsimp only at hSw); go_simp) <;> with_reducible rfl)
  case' rest12 => try simp only [List.getElem_toArray, List.getElem_cons_zero, List.getElem_cons_succ, Act.put, List.setIfInBounds_toArray, List.set_cons_zero, List.set_cons_succ]
  refine wpAnyH_take (i := 9) (oi := _) (v := ?v13) rfl (by kernel_rfl) (by kernel_rfl) (by kernel_rfl) (fun _ _ _ h => h) (Or.inl ⟨by rfl, ?hy13⟩) (by assumption) ?rest13
  case hy13 => ((intro w hSw; (try dsimp only at hSw); go_simp) <;> with_reducible rfl)
  case' rest13 => try simp only [List.getElem_toArray, List.getElem_cons_zero, List.getElem_cons_succ, Act.put, List.setIfInBounds_toArray, List.set_cons_zero, List.set_cons_succ]
  refine wpAnyH_take (i := 11) (oi := _) (v := ?v14) rfl (by kernel_rfl) (by kernel_rfl) (by kernel_rfl) (fun _ _ _ h => h) (Or.inl ⟨by rfl, ?hy14⟩) (by assumption) ?rest14
  case hy14 => ((intro w hSw; (try dsimp only at hSw); go_simp) <;> with_reducible rfl)
  case' rest14 => try simp only [List.getElem_toArray, List.getElem_cons_zero, List.getElem_cons_succ, Act.put, List.setIfInBounds_toArray, List.set_cons_zero, List.set_cons_succ]
  refine wpAnyH_take (i := 14) (oi := _) (v := ?v15) rfl (by kernel_rfl) (by kernel_rfl) (by kernel_rfl) (fun _ _ _ h => h) (Or.inl ⟨by rfl, ?hy15⟩) (by assumption) ?rest15
  case hy15 => ((intro w hSw; (try dsimp only at hSw); go_simp) <;> with_reducible rfl)
  case' rest15 => try simp only [List.getElem_toArray, List.getElem_cons_zero, List.getElem_cons_succ, Act.put, List.setIfInBounds_toArray, List.set_cons_zero, List.set_cons_succ]
  refine wpAnyH_take (i := 15) (oi := _) (v := ?v16) rfl (by kernel_rfl) (by kernel_rfl) (by kernel_rfl) (fun _ _ _ h => h) (Or.inl ⟨by rfl, ?hy16⟩) (by assumption) ?rest16
  case hy16 => ((intro w hSw; (try dsimp only at hSw); go_simp) <;> with_reducible rfl)
  case' rest16 => try simp only [List.getElem_toArray, List.getElem_cons_zero, List.getElem_cons_succ, Act.put, List.setIfInBounds_toArray, List.set_cons_zero, List.set_cons_succ]
  refine wpAnyH_ready (rs := [10]) (by kernel_rfl) (by simp) ?_
  refine AllReadyH.cons (o := _) rfl (fun K hK => ?_) AllReadyH.nil
  go_simp
  refine (HGM.out _).mono ?_
  rintro e x2 ⟨rfl, g2⟩
  try dsimp only
  refine hK.out _ _ ?hS19 (fun hHeld => ?rest19)
  case hS19 => ((try dsimp only); (((try go_split_ands); refine sn_of ?_; repeat' (first | with_reducible assumption | with_reducible exact Below.refl _ _ | with_reducible apply below_alloc | with_reducible apply below_drew1 | with_reducible apply below_drewN | (with_reducible apply below_step; with_reducible assumption) | (with_reducible apply below_sg2; (first | exact Nat.le_refl _ | (simp; done) | omega))))))
  case' rest19 => (clear hK K; try simp only [List.getElem_toArray, List.getElem_cons_zero, List.getElem_cons_succ, Act.put, List.setIfInBounds_toArray, List.set_cons_zero, List.set_cons_succ])
  refine wpAnyH_ready (rs := [12]) (by kernel_rfl) (by simp) ?_
  refine AllReadyH.cons (o := _) rfl (fun K hK => ?_) AllReadyH.nil
  go_simp
  refine (HGN.out _).mono ?_
  rintro e x3 ⟨rfl, g3⟩
  try dsimp only
  refine hK.out _ _ ?hS22 (fun hHeld => ?rest22)
  case hS22 => ((try dsimp only); (((try go_split_ands); refine sn_of ?_; repeat' (first | with_reducible assumption | with_reducible exact Below.refl _ _ | with_reducible apply below_alloc | with_reducible apply below_drew1 | with_reducible apply below_drewN | (with_reducible apply below_step; with_reducible assumption) | (with_reducible apply below_sg2; (first | exact Nat.le_refl _ | (simp; done) | omega))))))
  case' rest22 => (clear hK K; try simp only [List.getElem_toArray, List.getElem_cons_zero, List.getElem_cons_succ, Act.put, List.setIfInBounds_toArray, List.set_cons_zero, List.set_cons_succ])
  refine wpAnyH_ready (rs := [13]) (by kernel_rfl) (by simp) ?_
  refine AllReadyH.cons (o := _) rfl (fun K hK => ?_) AllReadyH.nil
  go_simp
  refine (HSM.out _ (hsA.below (HA8.out _ (below_step g3 (below_step g2 (below_drew1 (Below.refl _ _)))))) (hsB.below (HA8.out _ (below_step g3 (below_step g2 (below_drew1 (Below.refl _ _))))))).mono ?_
  rintro e x4 ⟨rfl, g4⟩
  try dsimp only
  refine hK.out _ _ ?hS25 (fun hHeld => ?rest25)
  case hS25 => ((try dsimp only); (((try go_split_ands); refine sn_of ?_; repeat' (first | with_reducible assumption | with_reducible exact Below.refl _ _ | with_reducible apply below_alloc | with_reducible apply below_drew1 | with_reducible apply below_drewN | (with_reducible apply below_step; with_reducible assumption) | (with_reducible apply below_sg2; (first | exact Nat.le_refl _ | (simp; done) | omega))))))
  case' rest25 => (clear hK K; try simp only [List.getElem_toArray, List.getElem_cons_zero, List.getElem_cons_succ, Act.put, List.setIfInBounds_toArray, List.set_cons_zero, List.set_cons_succ])
  refine wpAnyH_ready (rs := [16]) (by kernel_rfl) (by simp) ?_
  refine AllReadyH.cons (o := _) rfl (fun K hK => ?_) AllReadyH.nil
  go_simp
  refine (HRS.out _ (hsA.below (HA8.out _ (below_step g4 (below_step g3 (below_step g2 (below_drew1 (Below.refl _ _))))))) (hsB.below (HA8.out _ (below_step g4 (below_step g3 (below_step g2 (below_drew1 (Below.refl _ _)))))))).mono ?_
  rintro e x5 ⟨rfl, g5⟩
  try dsimp only
  refine hK.out _ _ ?hS28 (fun hHeld => ?rest28)
  case hS28 => ((try dsimp only); (((try go_split_ands); refine sn_of ?_; repeat' (first | with_reducible assumption | with_reducible exact Below.refl _ _ | with_reducible apply below_alloc | with_reducible apply below_drew1 | with_reducible apply below_drewN | (with_reducible apply below_step; with_reducible assumption) | (with_reducible apply below_sg2; (first | exact Nat.le_refl _ | (simp; done) | omega))))))
  case' rest28 => (clear hK K; try simp only [List.getElem_toArray, List.getElem_cons_zero, List.getElem_cons_succ, Act.put, List.setIfInBounds_toArray, List.set_cons_zero, List.set_cons_succ])
  refine wpAnyH_take (i := 17) (oi := _) (v := ?v29) rfl (by kernel_rfl) (by kernel_rfl) (by kernel_rfl) (fun _ _ _ h => h) (Or.inl ⟨by rfl, ?hy29⟩) (by assumption) ?rest29
  case hy29 => ((intro w hSw; (try dsimp only at hSw); go_simp) <;> with_reducible rfl)
  case' rest29 => try simp only [List.getElem_toArray, List.getElem_cons_zero, List.getElem_cons_succ, Act.put, List.setIfInBounds_toArray, List.set_cons_zero, List.set_cons_succ]
  refine wpAnyH_take (i := 18) (oi := _) (v := ?v30) rfl (by kernel_rfl) (by kernel_rfl) (by kernel_rfl) (fun _ _ _ h => h) (Or.inl ⟨by rfl, ?hy30⟩) (by assumption) ?rest30
  case hy30 => ((intro w hSw; (try dsimp only at hSw); go_simp) <;> with_reducible rfl)
  case' rest30 => try simp only [List.getElem_toArray, List.getElem_cons_zero, List.getElem_cons_succ, Act.put, List.setIfInBounds_toArray, List.set_cons_zero, List.set_cons_succ]
  refine wpAnyH_take (i := 19) (oi := _) (v := ?v31) rfl (by kernel_rfl) (by kernel_rfl) (by kernel_rfl) (fun _ _ _ h => h) (Or.inl ⟨by rfl, ?hy31⟩) (by assumption) ?rest31
  case hy31 => ((intro w hSw; (try dsimp only at hSw); go_simp) <;> with_reducible rfl)
  case' rest31 => try simp only [List.getElem_toArray, List.getElem_cons_zero, List.getElem_cons_succ, Act.put, List.setIfInBounds_toArray, List.set_cons_zero, List.set_cons_succ]
  refine wpAnyH_ready (rs := [20]) (by kernel_rfl) (by simp) ?_
  refine AllReadyH.cons (o := _) rfl (fun K hK => ?_) AllReadyH.nil
  go_simp
  refine (known_20 _).mono ?_
  rintro e x6 ⟨rfl, g6⟩
  try dsimp only
  refine hK.out _ _ ?hS34 (fun hHeld => ?rest34)
  case hS34 => ((try dsimp only); (((try go_split_ands); refine sn_of ?_; repeat' (first | with_reducible assumption | with_reducible exact Below.refl _ _ | with_reducible apply below_alloc | with_reducible apply below_drew1 | with_reducible apply below_drewN | (with_reducible apply below_step; with_reducible assumption) | (with_reducible apply below_sg2; (first | exact Nat.le_refl _ | (simp; done) | omega))))))
  case' rest34 => (clear hK K; try simp only [List.getElem_toArray, List.getElem_cons_zero, List.getElem_cons_succ, Act.put, List.setIfInBounds_toArray, List.set_cons_zero, List.set_cons_succ])
  refine wpAnyH_take (i := 21) (oi := _) (v := ?v35) rfl (by kernel_rfl) (by kernel_rfl) (by kernel_rfl) (fun _ _ _ h => h) (Or.inl ⟨by rfl, ?hy35⟩) (by assumption) ?rest35
  case hy35 => ((intro w hSw; (try dsimp only at hSw); go_simp) <;> with_reducible rfl)
  case' rest35 => try simp only [List.getElem_toArray, List.getElem_cons_zero, List.getElem_cons_succ, Act.put, List.setIfInBounds_toArray, List.set_cons_zero, List.set_cons_succ]
  refine wpAnyH_ready (rs := [22]) (by kernel_rfl) (by simp) ?_
  refine AllReadyH.cons (o := _) rfl (fun K hK => ?_) AllReadyH.nil
  go_simp
  refine hK.out _ _ ?hS38 (fun hHeld => ?rest38)
  case hS38 => ((try dsimp only); (((try go_split_ands); refine sn_of ?_; repeat' (first | with_reducible assumption | with_reducible exact Below.refl _ _ | with_reducible apply below_alloc | with_reducible apply below_drew1 | with_reducible apply below_drewN | (with_reducible apply below_step; with_reducible assumption) | (with_reducible apply below_sg2; (first | exact Nat.le_refl _ | (simp; done) | omega))))))
  case' rest38 => (clear hK K; try simp only [List.getElem_toArray, List.getElem_cons_zero, List.getElem_cons_succ, Act.put, List.setIfInBounds_toArray, List.set_cons_zero, List.set_cons_succ])
  refine wpAnyH_done (by kernel_rfl) ?_ _
  have hEnd := hHeld.2
  repeat (clear hHeld)
  have hfin := HA8.out _ hEnd
  clear hEnd
  go_wp2_with fail
  go_ret
  refine ⟨?_, hbw.trans ((h4.trans (hfin.mono ?_)).mono ?_)⟩
  · rfl
  · exact h4.size
  · exact hbw.size
end Go.Proofs.Ytcncbmlacphclaa
