/- Law SdomsgOnly: the walk (printed by wip/tools/gen_only.py). -/
import Derived.Test.YtcncbmlacphclaaSdW
import Derived.Test.YtcncbmlacphclaaSdC2
namespace Go.Proofs.Ytcncbmlacphclaa
set_option linter.unusedVariables false
set_option linter.unusedSimpArgs false
set_option linter.unnecessarySimpa false
open Go.RowKit
set_option maxRecDepth 100000
set_option maxHeartbeats 4000000

def Hit (b : List UInt8) (N : Ms) (er : Int) : Prop := (er = 0 ∧ canB N = true ∧ laidB N = b) ∨ (er ≠ 0 ∧ N = msZ)
theorem hit_res (ks : List Int) (b : List UInt8) : Hit b (resM ks b) (errI ks b) := by
  by_cases h : errI ks b = 0
  · exact .inl ⟨h, resM_ok ks b h⟩
  · exact .inr ⟨h, resM_zero ks b h⟩
def Hit2 (b : List UInt8) (N : Ms) (eb : Bool) : Prop := (eb = true ∧ canB N = true ∧ laidB N = b) ∨ (eb = false ∧ N = msZ)
theorem hit2 {b : List UInt8} {N : Ms} {er : Int} (h : Hit b N er) : Hit2 b N (er == 0) := by
  rcases h with ⟨h, h2⟩ | ⟨h, h2⟩
  · exact .inl ⟨by simpa using h, h2⟩
  · exact .inr ⟨by simpa using h, h2⟩
theorem ofM_bd (ks : List Int) (b : List UInt8) (m : Ms) (h : ofM ks b = some m) : m.size ≤ 4294967295 ∧ m.code ≤ 4294967295 ∧ m.sum ≤ 65535 := by
  induction ks with
  | nil => cases h
  | cons k ks ih =>
    unfold ofM at h
    split at h
    · injection h with h
      subst h
      exact guess_bd k b
    · exact ih h
theorem res_bd (ks : List Int) (b : List UInt8) : (resM ks b).size ≤ 4294967295 ∧ (resM ks b).code ≤ 4294967295 ∧ (resM ks b).sum ≤ 65535 := by
  unfold resM
  split
  · cases h : ofM ks b with
    | none => exact ⟨by decide, by decide, by decide⟩
    | some m => exact ofM_bd ks b m h
  · exact ⟨by decide, by decide, by decide⟩
theorem str_len (l m : List UInt8) (h : l = m) : (⟨l.toArray⟩ : ByteArray) = ⟨m.toArray⟩ := by rw [h]
theorem sdomsgOnly_walk (A : Option Addr) (n c : Nat) (b : List UInt8) (w : World) (hn : n = b.length) (hc : n ≤ c) (hs : Sl w A (b.map bv)) :
    Calls Try.prog 10 #[.slice A n c] w (TrueB w) := by
  by_cases hbig : 1000 < n
  · clear hn hc hs
    go_enter Try.func10, Try.ntmps10
    go_wp2_with fail
    refine (known_20 _).mono ?_
    rintro e w1 ⟨rfl, hb1⟩
    go_wp2_with fail
    go_ret
    exact ⟨rfl, hb1⟩
  have hn1000 : n ≤ 1000 := by omega
  clear hbig
  have HN := hide hn
  clear hn
  go_enter Try.func10, Try.ntmps10
  go_wp2_with fail
  refine (sd_request A n c b _ HN.out hc hs).mono ?_
  rintro e w1 ⟨A1, n1, c1, rfl, hO1, hb1⟩
  have hh1 := hit_res reqK b
  have hbd1 := res_bd reqK b
  generalize resM reqK b = N1 at *
  generalize errI reqK b = er1 at *
  have HH1 := hide hh1
  clear hh1
  obtain ⟨kind1, ix1, sub1, tg1, la1, cr1, sz1, size1, code1, data1, sq1, bl1, em1, sum1⟩ := N1
  simp only [msV] at hO1 hbd1 ⊢
  have hbw1 := hb1
  go_wp2_with fail
  refine (sd_answer A n c b _ HN.out hc ((hs.below hbw1).alloc _)).mono ?_
  rintro e w2 ⟨A2, n2, c2, rfl, hO2, hb2⟩
  have hh2 := hit_res ansK b
  have hbd2 := res_bd ansK b
  generalize resM ansK b = N2 at *
  generalize errI ansK b = er2 at *
  have HH2 := hide hh2
  clear hh2
  obtain ⟨kind2, ix2, sub2, tg2, la2, cr2, sz2, size2, code2, data2, sq2, bl2, em2, sum2⟩ := N2
  simp only [msV] at hO2 hbd2 ⊢
  have hbw2 := below_step hb2 (below_alloc hbw1 (.cells #[.int .i64 kind1, .int .i64 ix1, .int .i64 sub1, .bool tg1, .bool la1, .bool cr1, .bool sz1, .int .u32 (size1 : Nat), .int .u32 (code1 : Nat), .slice A1 n1 c1, .int .i64 sq1, .int .i64 bl1, .int .i64 em1, .int .u16 (sum1 : Nat)] 44))
  have qs1 := (Blk.new w1 44 #[.int .i64 kind1, .int .i64 ix1, .int .i64 sub1, .bool tg1, .bool la1, .bool cr1, .bool sz1, .int .u32 (size1 : Nat), .int .u32 (code1 : Nat), .slice A1 n1 c1, .int .i64 sq1, .int .i64 bl1, .int .i64 em1, .int .u16 (sum1 : Nat)]).below hb2 (by simp)
  replace hO1 := (hO1.alloc (.cells #[.int .i64 kind1, .int .i64 ix1, .int .i64 sub1, .bool tg1, .bool la1, .bool cr1, .bool sz1, .int .u32 (size1 : Nat), .int .u32 (code1 : Nat), .slice A1 n1 c1, .int .i64 sq1, .int .i64 bl1, .int .i64 em1, .int .u16 (sum1 : Nat)] 44)).below hb2
  go_wp2_with fail
  refine (sd_segment A n c b _ HN.out hc ((hs.below hbw2).alloc _)).mono ?_
  rintro e w3 ⟨A3, n3, c3, rfl, hO3, hb3⟩
  have hh3 := hit_res segK b
  have hbd3 := res_bd segK b
  generalize resM segK b = N3 at *
  generalize errI segK b = er3 at *
  have HH3 := hide hh3
  clear hh3
  obtain ⟨kind3, ix3, sub3, tg3, la3, cr3, sz3, size3, code3, data3, sq3, bl3, em3, sum3⟩ := N3
  simp only [msV] at hO3 hbd3 ⊢
  have hbw3 := below_step hb3 (below_alloc hbw2 (.cells #[.int .i64 kind2, .int .i64 ix2, .int .i64 sub2, .bool tg2, .bool la2, .bool cr2, .bool sz2, .int .u32 (size2 : Nat), .int .u32 (code2 : Nat), .slice A2 n2 c2, .int .i64 sq2, .int .i64 bl2, .int .i64 em2, .int .u16 (sum2 : Nat)] 44))
  replace qs1 := (qs1.alloc (.cells #[.int .i64 kind2, .int .i64 ix2, .int .i64 sub2, .bool tg2, .bool la2, .bool cr2, .bool sz2, .int .u32 (size2 : Nat), .int .u32 (code2 : Nat), .slice A2 n2 c2, .int .i64 sq2, .int .i64 bl2, .int .i64 em2, .int .u16 (sum2 : Nat)] 44)).below hb3 (by have := qs1.lt; simp; omega)
  replace hO1 := (hO1.alloc (.cells #[.int .i64 kind2, .int .i64 ix2, .int .i64 sub2, .bool tg2, .bool la2, .bool cr2, .bool sz2, .int .u32 (size2 : Nat), .int .u32 (code2 : Nat), .slice A2 n2 c2, .int .i64 sq2, .int .i64 bl2, .int .i64 em2, .int .u16 (sum2 : Nat)] 44)).below hb3
  have qs2 := (Blk.new w2 44 #[.int .i64 kind2, .int .i64 ix2, .int .i64 sub2, .bool tg2, .bool la2, .bool cr2, .bool sz2, .int .u32 (size2 : Nat), .int .u32 (code2 : Nat), .slice A2 n2 c2, .int .i64 sq2, .int .i64 bl2, .int .i64 em2, .int .u16 (sum2 : Nat)]).below hb3 (by simp)
  replace hO2 := (hO2.alloc (.cells #[.int .i64 kind2, .int .i64 ix2, .int .i64 sub2, .bool tg2, .bool la2, .bool cr2, .bool sz2, .int .u32 (size2 : Nat), .int .u32 (code2 : Nat), .slice A2 n2 c2, .int .i64 sq2, .int .i64 bl2, .int .i64 em2, .int .u16 (sum2 : Nat)] 44)).below hb3
  have lq1 := qs1.lt
  have qs1_c0 := qs1.cell 0 rfl
  have qs1_f0 := qs1.frozen 0
  have qs1_c1 := qs1.cell 1 rfl
  have qs1_f1 := qs1.frozen 1
  have qs1_c2 := qs1.cell 2 rfl
  have qs1_f2 := qs1.frozen 2
  have qs1_c3 := qs1.cell 3 rfl
  have qs1_f3 := qs1.frozen 3
  have qs1_c4 := qs1.cell 4 rfl
  have qs1_f4 := qs1.frozen 4
  have qs1_c5 := qs1.cell 5 rfl
  have qs1_f5 := qs1.frozen 5
  have qs1_c6 := qs1.cell 6 rfl
  have qs1_f6 := qs1.frozen 6
  have qs1_c7 := qs1.cell 7 rfl
  have qs1_f7 := qs1.frozen 7
  have qs1_c8 := qs1.cell 8 rfl
  have qs1_f8 := qs1.frozen 8
  have qs1_c9 := qs1.cell 9 rfl
  have qs1_f9 := qs1.frozen 9
  have qs1_c10 := qs1.cell 10 rfl
  have qs1_f10 := qs1.frozen 10
  have qs1_c11 := qs1.cell 11 rfl
  have qs1_f11 := qs1.frozen 11
  have qs1_c12 := qs1.cell 12 rfl
  have qs1_f12 := qs1.frozen 12
  have qs1_c13 := qs1.cell 13 rfl
  have qs1_f13 := qs1.frozen 13
  have lq2 := qs2.lt
  have qs2_c0 := qs2.cell 0 rfl
  have qs2_f0 := qs2.frozen 0
  have qs2_c1 := qs2.cell 1 rfl
  have qs2_f1 := qs2.frozen 1
  have qs2_c2 := qs2.cell 2 rfl
  have qs2_f2 := qs2.frozen 2
  have qs2_c3 := qs2.cell 3 rfl
  have qs2_f3 := qs2.frozen 3
  have qs2_c4 := qs2.cell 4 rfl
  have qs2_f4 := qs2.frozen 4
  have qs2_c5 := qs2.cell 5 rfl
  have qs2_f5 := qs2.frozen 5
  have qs2_c6 := qs2.cell 6 rfl
  have qs2_f6 := qs2.frozen 6
  have qs2_c7 := qs2.cell 7 rfl
  have qs2_f7 := qs2.frozen 7
  have qs2_c8 := qs2.cell 8 rfl
  have qs2_f8 := qs2.frozen 8
  have qs2_c9 := qs2.cell 9 rfl
  have qs2_f9 := qs2.frozen 9
  have qs2_c10 := qs2.cell 10 rfl
  have qs2_f10 := qs2.frozen 10
  have qs2_c11 := qs2.cell 11 rfl
  have qs2_f11 := qs2.frozen 11
  have qs2_c12 := qs2.cell 12 rfl
  have qs2_f12 := qs2.frozen 12
  have qs2_c13 := qs2.cell 13 rfl
  have qs2_f13 := qs2.frozen 13
  go_wp2_with fail
  obtain ⟨_, qa, qi⟩ := blk_three w3 44 44 4 #[.int .i64 kind3, .int .i64 ix3, .int .i64 sub3, .bool tg3, .bool la3, .bool cr3, .bool sz3, .int .u32 (size3 : Nat), .int .u32 (code3 : Nat), .slice A3 n3 c3, .int .i64 sq3, .int .i64 bl3, .int .i64 em3, .int .u16 (sum3 : Nat)] #[.int .i64 kind1, .int .i64 ix1, .int .i64 sub1, .bool tg1, .bool la1, .bool cr1, .bool sz1, .int .u32 (size1 : Nat), .int .u32 (code1 : Nat), .slice A1 n1 c1, .int .i64 sq1, .int .i64 bl1, .int .i64 em1, .int .u16 (sum1 : Nat), .int .i64 kind2, .int .i64 ix2, .int .i64 sub2, .bool tg2, .bool la2, .bool cr2, .bool sz2, .int .u32 (size2 : Nat), .int .u32 (code2 : Nat), .slice A2 n2 c2, .int .i64 sq2, .int .i64 bl2, .int .i64 em2, .int .u16 (sum2 : Nat), .int .i64 kind3, .int .i64 ix3, .int .i64 sub3, .bool tg3, .bool la3, .bool cr3, .bool sz3, .int .u32 (size3 : Nat), .int .u32 (code3 : Nat), .slice A3 n3 c3, .int .i64 sq3, .int .i64 bl3, .int .i64 em3, .int .u16 (sum3 : Nat)] #[.bool (er1 == 0), .bool (er2 == 0), .bool (er3 == 0)]
  have ho1 := ((hO1.alloc (.cells #[.int .i64 kind3, .int .i64 ix3, .int .i64 sub3, .bool tg3, .bool la3, .bool cr3, .bool sz3, .int .u32 (size3 : Nat), .int .u32 (code3 : Nat), .slice A3 n3 c3, .int .i64 sq3, .int .i64 bl3, .int .i64 em3, .int .u16 (sum3 : Nat)] 44)).alloc (.cells #[.int .i64 kind1, .int .i64 ix1, .int .i64 sub1, .bool tg1, .bool la1, .bool cr1, .bool sz1, .int .u32 (size1 : Nat), .int .u32 (code1 : Nat), .slice A1 n1 c1, .int .i64 sq1, .int .i64 bl1, .int .i64 em1, .int .u16 (sum1 : Nat), .int .i64 kind2, .int .i64 ix2, .int .i64 sub2, .bool tg2, .bool la2, .bool cr2, .bool sz2, .int .u32 (size2 : Nat), .int .u32 (code2 : Nat), .slice A2 n2 c2, .int .i64 sq2, .int .i64 bl2, .int .i64 em2, .int .u16 (sum2 : Nat), .int .i64 kind3, .int .i64 ix3, .int .i64 sub3, .bool tg3, .bool la3, .bool cr3, .bool sz3, .int .u32 (size3 : Nat), .int .u32 (code3 : Nat), .slice A3 n3 c3, .int .i64 sq3, .int .i64 bl3, .int .i64 em3, .int .u16 (sum3 : Nat)] 44)).alloc (.cells #[.bool (er1 == 0), .bool (er2 == 0), .bool (er3 == 0)] 4)
  have hl1 := ho1.hn
  have hS1 := ho1.sl
  have ho2 := ((hO2.alloc (.cells #[.int .i64 kind3, .int .i64 ix3, .int .i64 sub3, .bool tg3, .bool la3, .bool cr3, .bool sz3, .int .u32 (size3 : Nat), .int .u32 (code3 : Nat), .slice A3 n3 c3, .int .i64 sq3, .int .i64 bl3, .int .i64 em3, .int .u16 (sum3 : Nat)] 44)).alloc (.cells #[.int .i64 kind1, .int .i64 ix1, .int .i64 sub1, .bool tg1, .bool la1, .bool cr1, .bool sz1, .int .u32 (size1 : Nat), .int .u32 (code1 : Nat), .slice A1 n1 c1, .int .i64 sq1, .int .i64 bl1, .int .i64 em1, .int .u16 (sum1 : Nat), .int .i64 kind2, .int .i64 ix2, .int .i64 sub2, .bool tg2, .bool la2, .bool cr2, .bool sz2, .int .u32 (size2 : Nat), .int .u32 (code2 : Nat), .slice A2 n2 c2, .int .i64 sq2, .int .i64 bl2, .int .i64 em2, .int .u16 (sum2 : Nat), .int .i64 kind3, .int .i64 ix3, .int .i64 sub3, .bool tg3, .bool la3, .bool cr3, .bool sz3, .int .u32 (size3 : Nat), .int .u32 (code3 : Nat), .slice A3 n3 c3, .int .i64 sq3, .int .i64 bl3, .int .i64 em3, .int .u16 (sum3 : Nat)] 44)).alloc (.cells #[.bool (er1 == 0), .bool (er2 == 0), .bool (er3 == 0)] 4)
  have hl2 := ho2.hn
  have hS2 := ho2.sl
  have ho3 := ((hO3.alloc (.cells #[.int .i64 kind3, .int .i64 ix3, .int .i64 sub3, .bool tg3, .bool la3, .bool cr3, .bool sz3, .int .u32 (size3 : Nat), .int .u32 (code3 : Nat), .slice A3 n3 c3, .int .i64 sq3, .int .i64 bl3, .int .i64 em3, .int .u16 (sum3 : Nat)] 44)).alloc (.cells #[.int .i64 kind1, .int .i64 ix1, .int .i64 sub1, .bool tg1, .bool la1, .bool cr1, .bool sz1, .int .u32 (size1 : Nat), .int .u32 (code1 : Nat), .slice A1 n1 c1, .int .i64 sq1, .int .i64 bl1, .int .i64 em1, .int .u16 (sum1 : Nat), .int .i64 kind2, .int .i64 ix2, .int .i64 sub2, .bool tg2, .bool la2, .bool cr2, .bool sz2, .int .u32 (size2 : Nat), .int .u32 (code2 : Nat), .slice A2 n2 c2, .int .i64 sq2, .int .i64 bl2, .int .i64 em2, .int .u16 (sum2 : Nat), .int .i64 kind3, .int .i64 ix3, .int .i64 sub3, .bool tg3, .bool la3, .bool cr3, .bool sz3, .int .u32 (size3 : Nat), .int .u32 (code3 : Nat), .slice A3 n3 c3, .int .i64 sq3, .int .i64 bl3, .int .i64 em3, .int .u16 (sum3 : Nat)] 44)).alloc (.cells #[.bool (er1 == 0), .bool (er2 == 0), .bool (er3 == 0)] 4)
  have hl3 := ho3.hn
  have hS3 := ho3.sl
  have hbX : Below w.heap.size w (((w3.alloc (.cells #[.int .i64 kind3, .int .i64 ix3, .int .i64 sub3, .bool tg3, .bool la3, .bool cr3, .bool sz3, .int .u32 (size3 : Nat), .int .u32 (code3 : Nat), .slice A3 n3 c3, .int .i64 sq3, .int .i64 bl3, .int .i64 em3, .int .u16 (sum3 : Nat)] 44)).alloc (.cells #[.int .i64 kind1, .int .i64 ix1, .int .i64 sub1, .bool tg1, .bool la1, .bool cr1, .bool sz1, .int .u32 (size1 : Nat), .int .u32 (code1 : Nat), .slice A1 n1 c1, .int .i64 sq1, .int .i64 bl1, .int .i64 em1, .int .u16 (sum1 : Nat), .int .i64 kind2, .int .i64 ix2, .int .i64 sub2, .bool tg2, .bool la2, .bool cr2, .bool sz2, .int .u32 (size2 : Nat), .int .u32 (code2 : Nat), .slice A2 n2 c2, .int .i64 sq2, .int .i64 bl2, .int .i64 em2, .int .u16 (sum2 : Nat), .int .i64 kind3, .int .i64 ix3, .int .i64 sub3, .bool tg3, .bool la3, .bool cr3, .bool sz3, .int .u32 (size3 : Nat), .int .u32 (code3 : Nat), .slice A3 n3 c3, .int .i64 sq3, .int .i64 bl3, .int .i64 em3, .int .u16 (sum3 : Nat)] 44)).alloc (.cells #[.bool (er1 == 0), .bool (er2 == 0), .bool (er3 == 0)] 4)) := below_alloc (below_alloc (below_alloc hbw3 _) _) _
  clear ho1 ho2 ho3 hO1 hO2 hO3 hb1 hb2 hb3 hbw1 hbw2 hbw3 lq1 lq2
  clear qs1_c0 qs1_f0 qs1_c1 qs1_f1 qs1_c2 qs1_f2 qs1_c3 qs1_f3 qs1_c4 qs1_f4 qs1_c5 qs1_f5 qs1_c6 qs1_f6 qs1_c7 qs1_f7 qs1_c8 qs1_f8 qs1_c9 qs1_f9 qs1_c10 qs1_f10 qs1_c11 qs1_f11 qs1_c12 qs1_f12 qs1_c13 qs1_f13
  clear qs2_c0 qs2_f0 qs2_c1 qs2_f1 qs2_c2 qs2_f2 qs2_c3 qs2_f3 qs2_c4 qs2_f4 qs2_c5 qs2_f5 qs2_c6 qs2_f6 qs2_c7 qs2_f7 qs2_c8 qs2_f8 qs2_c9 qs2_f9 qs2_c10 qs2_f10 qs2_c11 qs2_f11 qs2_c12 qs2_f12 qs2_c13 qs2_f13
  clear qs1 qs2
  have lqa := qa.lt
  have lqi := qi.lt
  generalize ((w3.alloc (.cells #[.int .i64 kind3, .int .i64 ix3, .int .i64 sub3, .bool tg3, .bool la3, .bool cr3, .bool sz3, .int .u32 (size3 : Nat), .int .u32 (code3 : Nat), .slice A3 n3 c3, .int .i64 sq3, .int .i64 bl3, .int .i64 em3, .int .u16 (sum3 : Nat)] 44)).alloc (.cells #[.int .i64 kind1, .int .i64 ix1, .int .i64 sub1, .bool tg1, .bool la1, .bool cr1, .bool sz1, .int .u32 (size1 : Nat), .int .u32 (code1 : Nat), .slice A1 n1 c1, .int .i64 sq1, .int .i64 bl1, .int .i64 em1, .int .u16 (sum1 : Nat), .int .i64 kind2, .int .i64 ix2, .int .i64 sub2, .bool tg2, .bool la2, .bool cr2, .bool sz2, .int .u32 (size2 : Nat), .int .u32 (code2 : Nat), .slice A2 n2 c2, .int .i64 sq2, .int .i64 bl2, .int .i64 em2, .int .u16 (sum2 : Nat), .int .i64 kind3, .int .i64 ix3, .int .i64 sub3, .bool tg3, .bool la3, .bool cr3, .bool sz3, .int .u32 (size3 : Nat), .int .u32 (code3 : Nat), .slice A3 n3 c3, .int .i64 sq3, .int .i64 bl3, .int .i64 em3, .int .u16 (sum3 : Nat)] 44)).alloc (.cells #[.bool (er1 == 0), .bool (er2 == 0), .bool (er3 == 0)] 4) = W0 at *
  have HE1 := hide (hit2 HH1.out)
  clear HH1
  generalize (er1 == 0) = eb1 at *
  have HE2 := hide (hit2 HH2.out)
  clear HH2
  generalize (er2 == 0) = eb2 at *
  have HE3 := hide (hit2 HH3.out)
  clear HH3
  generalize (er3 == 0) = eb3 at *
  have HL1 := hide hl1
  clear hl1
  have HL2 := hide hl2
  clear hl2
  have HL3 := hide hl3
  clear hl3
  go_loopw [11] (fun i wr => ∃ k : Nat, k ≤ 3 ∧ i = .int .i64 (k : Nat) ∧ Below W0.heap.size W0 wr) (fun i _ => 3 - (intOf i).toNat)
  case atStart => exact ⟨0, by omega, rfl, Below.refl _ _⟩
  case round =>
    obtain ⟨k, hk, rfl, hbr⟩ := hrel
    have hbwr := below_step hbr hbX
    have qar := qa.below hbr lqa
    have qir := qi.below hbr lqi
    rcases (show k = 0 ∨ k = 1 ∨ k = 2 ∨ k = 3 by omega) with rfl | rfl | rfl | rfl
    · have k0 := qir.cell 0 rfl
      have k1 := qar.cell 0 rfl
      have k2 := qar.cell 1 rfl
      have k3 := qar.cell 2 rfl
      have k4 := qar.cell 3 rfl
      have k5 := qar.cell 4 rfl
      have k6 := qar.cell 5 rfl
      have k7 := qar.cell 6 rfl
      have k8 := qar.cell 7 rfl
      have k9 := qar.cell 8 rfl
      have k10 := qar.cell 9 rfl
      have k11 := qar.cell 10 rfl
      have k12 := qar.cell 11 rfl
      have k13 := qar.cell 12 rfl
      have k14 := qar.cell 13 rfl
      rcases HE1.out with ⟨he, hcn, hla⟩ | ⟨he, hz⟩
      · subst he
        have HCN := hide hcn
        have HLA := hide hla
        clear hcn hla
        obtain ⟨bb1, bb2, bb3⟩ := hbd1
        have HB := hide (sd_build ⟨kind1, ix1, sub1, tg1, la1, cr1, sz1, size1, code1, data1, sq1, bl1, em1, sum1⟩ A1 n1 c1 wr HL1.out (hS1.below hbr) bb1 bb2 bb3)
        clear bb1 bb2 bb3
        go_wp2_with fail
        refine HB.out.mono ?_
        rintro e w5 ⟨A5, n5, c5, rfl, hO5, hb5⟩
        rw [HCN.out] at hO5 ⊢
        rw [if_pos rfl, HLA.out] at hO5
        rw [show (if true = true then (0 : Int) else 1) = 0 from rfl]
        have t1 := str_b c5 hO5.hn hO5.sl
        have t2 := str_b c HN.out (hs.below (below_step hb5 hbwr))
        obtain ⟨s2, hs2⟩ : ∃ s : ByteArray, s = ⟨b.toArray⟩ := ⟨_, rfl⟩
        rw [← hs2] at t1 t2
        clear hs2
        have qir5 := qir.below hb5 qir.lt
        have k0' := qir5.cell 0 rfl
        have lqir := qir5.lt
        go_wp2_with fail
        go_roundw
        case rel => exact ⟨1, by omega, rfl, below_step hb5 hbr⟩
        case measure => simp [intOf]
      · subst he
        have HZ := hide hz
        clear hz
        obtain ⟨bb1, bb2, bb3⟩ := hbd1
        have HB := hide (sd_build ⟨kind1, ix1, sub1, tg1, la1, cr1, sz1, size1, code1, data1, sq1, bl1, em1, sum1⟩ A1 n1 c1 wr HL1.out (hS1.below hbr) bb1 bb2 bb3)
        clear bb1 bb2 bb3
        go_wp2_with fail
        refine HB.out.mono ?_
        rintro e w5 ⟨A5, n5, c5, rfl, hO5, hb5⟩
        rw [show canB ⟨kind1, ix1, sub1, tg1, la1, cr1, sz1, size1, code1, data1, sq1, bl1, em1, sum1⟩ = false from by rw [HZ.out]; decide]
        rw [show (if false = true then (0 : Int) else 1) = 1 from rfl]
        have qir5 := qir.below hb5 qir.lt
        have qar5 := qar.below hb5 qar.lt
        have lqir := qir5.lt
        have lqar := qar5.lt
        have k0' := qir5.cell 0 rfl
        have k1' := qar5.cell 0 rfl
        have k2' := qar5.cell 1 rfl
        have k3' := qar5.cell 2 rfl
        have k4' := qar5.cell 3 rfl
        have k5' := qar5.cell 4 rfl
        have k6' := qar5.cell 5 rfl
        have k7' := qar5.cell 6 rfl
        have k8' := qar5.cell 7 rfl
        have k9' := qar5.cell 8 rfl
        have k10' := qar5.cell 9 rfl
        have k11' := qar5.cell 10 rfl
        have k12' := qar5.cell 11 rfl
        have k13' := qar5.cell 12 rfl
        have k14' := qar5.cell 13 rfl
        go_wp2_with fail
        refine (taken_20 ⟨kind1, ix1, sub1, tg1, la1, cr1, sz1, size1, code1, data1, sq1, bl1, em1, sum1⟩ A1 n1 c1 w5).mono ?_
        rintro e w6 ⟨rfl, hb6⟩
        go_wp2_with fail
        refine (rsd_same ⟨kind1, ix1, sub1, tg1, la1, cr1, sz1, size1, code1, data1, sq1, bl1, em1, sum1⟩ msZ A1 none n1 c1 0 0 w6 HL1.out rfl (hS1.below (below_step hb6 (below_step hb5 hbr))) (Sl.nil _ _)).mono ?_
        rintro e w7 ⟨rfl, hb7⟩
        rw [show sameB ⟨kind1, ix1, sub1, tg1, la1, cr1, sz1, size1, code1, data1, sq1, bl1, em1, sum1⟩ msZ = true from by rw [HZ.out]; decide]
        go_wp2_with fail
        go_roundw
        case rel => exact ⟨1, by omega, rfl, below_step hb7 (below_step hb6 (below_step hb5 hbr))⟩
        case measure => simp [intOf]
    · have k0 := qir.cell 1 rfl
      have k1 := qar.cell 14 rfl
      have k2 := qar.cell 15 rfl
      have k3 := qar.cell 16 rfl
      have k4 := qar.cell 17 rfl
      have k5 := qar.cell 18 rfl
      have k6 := qar.cell 19 rfl
      have k7 := qar.cell 20 rfl
      have k8 := qar.cell 21 rfl
      have k9 := qar.cell 22 rfl
      have k10 := qar.cell 23 rfl
      have k11 := qar.cell 24 rfl
      have k12 := qar.cell 25 rfl
      have k13 := qar.cell 26 rfl
      have k14 := qar.cell 27 rfl
      rcases HE2.out with ⟨he, hcn, hla⟩ | ⟨he, hz⟩
      · subst he
        have HCN := hide hcn
        have HLA := hide hla
        clear hcn hla
        obtain ⟨bb1, bb2, bb3⟩ := hbd2
        have HB := hide (sd_build ⟨kind2, ix2, sub2, tg2, la2, cr2, sz2, size2, code2, data2, sq2, bl2, em2, sum2⟩ A2 n2 c2 wr HL2.out (hS2.below hbr) bb1 bb2 bb3)
        clear bb1 bb2 bb3
        go_wp2_with fail
        refine HB.out.mono ?_
        rintro e w5 ⟨A5, n5, c5, rfl, hO5, hb5⟩
        rw [HCN.out] at hO5 ⊢
        rw [if_pos rfl, HLA.out] at hO5
        rw [show (if true = true then (0 : Int) else 1) = 0 from rfl]
        have t1 := str_b c5 hO5.hn hO5.sl
        have t2 := str_b c HN.out (hs.below (below_step hb5 hbwr))
        obtain ⟨s2, hs2⟩ : ∃ s : ByteArray, s = ⟨b.toArray⟩ := ⟨_, rfl⟩
        rw [← hs2] at t1 t2
        clear hs2
        have qir5 := qir.below hb5 qir.lt
        have k0' := qir5.cell 1 rfl
        have lqir := qir5.lt
        go_wp2_with fail
        go_roundw
        case rel => exact ⟨2, by omega, rfl, below_step hb5 hbr⟩
        case measure => simp [intOf]
      · subst he
        have HZ := hide hz
        clear hz
        obtain ⟨bb1, bb2, bb3⟩ := hbd2
        have HB := hide (sd_build ⟨kind2, ix2, sub2, tg2, la2, cr2, sz2, size2, code2, data2, sq2, bl2, em2, sum2⟩ A2 n2 c2 wr HL2.out (hS2.below hbr) bb1 bb2 bb3)
        clear bb1 bb2 bb3
        go_wp2_with fail
        refine HB.out.mono ?_
        rintro e w5 ⟨A5, n5, c5, rfl, hO5, hb5⟩
        rw [show canB ⟨kind2, ix2, sub2, tg2, la2, cr2, sz2, size2, code2, data2, sq2, bl2, em2, sum2⟩ = false from by rw [HZ.out]; decide]
        rw [show (if false = true then (0 : Int) else 1) = 1 from rfl]
        have qir5 := qir.below hb5 qir.lt
        have qar5 := qar.below hb5 qar.lt
        have lqir := qir5.lt
        have lqar := qar5.lt
        have k0' := qir5.cell 1 rfl
        have k1' := qar5.cell 14 rfl
        have k2' := qar5.cell 15 rfl
        have k3' := qar5.cell 16 rfl
        have k4' := qar5.cell 17 rfl
        have k5' := qar5.cell 18 rfl
        have k6' := qar5.cell 19 rfl
        have k7' := qar5.cell 20 rfl
        have k8' := qar5.cell 21 rfl
        have k9' := qar5.cell 22 rfl
        have k10' := qar5.cell 23 rfl
        have k11' := qar5.cell 24 rfl
        have k12' := qar5.cell 25 rfl
        have k13' := qar5.cell 26 rfl
        have k14' := qar5.cell 27 rfl
        go_wp2_with fail
        refine (taken_20 ⟨kind2, ix2, sub2, tg2, la2, cr2, sz2, size2, code2, data2, sq2, bl2, em2, sum2⟩ A2 n2 c2 w5).mono ?_
        rintro e w6 ⟨rfl, hb6⟩
        go_wp2_with fail
        refine (rsd_same ⟨kind2, ix2, sub2, tg2, la2, cr2, sz2, size2, code2, data2, sq2, bl2, em2, sum2⟩ msZ A2 none n2 c2 0 0 w6 HL2.out rfl (hS2.below (below_step hb6 (below_step hb5 hbr))) (Sl.nil _ _)).mono ?_
        rintro e w7 ⟨rfl, hb7⟩
        rw [show sameB ⟨kind2, ix2, sub2, tg2, la2, cr2, sz2, size2, code2, data2, sq2, bl2, em2, sum2⟩ msZ = true from by rw [HZ.out]; decide]
        go_wp2_with fail
        go_roundw
        case rel => exact ⟨2, by omega, rfl, below_step hb7 (below_step hb6 (below_step hb5 hbr))⟩
        case measure => simp [intOf]
    · have k0 := qir.cell 2 rfl
      have k1 := qar.cell 28 rfl
      have k2 := qar.cell 29 rfl
      have k3 := qar.cell 30 rfl
      have k4 := qar.cell 31 rfl
      have k5 := qar.cell 32 rfl
      have k6 := qar.cell 33 rfl
      have k7 := qar.cell 34 rfl
      have k8 := qar.cell 35 rfl
      have k9 := qar.cell 36 rfl
      have k10 := qar.cell 37 rfl
      have k11 := qar.cell 38 rfl
      have k12 := qar.cell 39 rfl
      have k13 := qar.cell 40 rfl
      have k14 := qar.cell 41 rfl
      rcases HE3.out with ⟨he, hcn, hla⟩ | ⟨he, hz⟩
      · subst he
        have HCN := hide hcn
        have HLA := hide hla
        clear hcn hla
        obtain ⟨bb1, bb2, bb3⟩ := hbd3
        have HB := hide (sd_build ⟨kind3, ix3, sub3, tg3, la3, cr3, sz3, size3, code3, data3, sq3, bl3, em3, sum3⟩ A3 n3 c3 wr HL3.out (hS3.below hbr) bb1 bb2 bb3)
        clear bb1 bb2 bb3
        go_wp2_with fail
        refine HB.out.mono ?_
        rintro e w5 ⟨A5, n5, c5, rfl, hO5, hb5⟩
        rw [HCN.out] at hO5 ⊢
        rw [if_pos rfl, HLA.out] at hO5
        rw [show (if true = true then (0 : Int) else 1) = 0 from rfl]
        have t1 := str_b c5 hO5.hn hO5.sl
        have t2 := str_b c HN.out (hs.below (below_step hb5 hbwr))
        obtain ⟨s2, hs2⟩ : ∃ s : ByteArray, s = ⟨b.toArray⟩ := ⟨_, rfl⟩
        rw [← hs2] at t1 t2
        clear hs2
        have qir5 := qir.below hb5 qir.lt
        have k0' := qir5.cell 2 rfl
        have lqir := qir5.lt
        go_wp2_with fail
        go_roundw
        case rel => exact ⟨3, by omega, rfl, below_step hb5 hbr⟩
        case measure => simp [intOf]
      · subst he
        have HZ := hide hz
        clear hz
        obtain ⟨bb1, bb2, bb3⟩ := hbd3
        have HB := hide (sd_build ⟨kind3, ix3, sub3, tg3, la3, cr3, sz3, size3, code3, data3, sq3, bl3, em3, sum3⟩ A3 n3 c3 wr HL3.out (hS3.below hbr) bb1 bb2 bb3)
        clear bb1 bb2 bb3
        go_wp2_with fail
        refine HB.out.mono ?_
        rintro e w5 ⟨A5, n5, c5, rfl, hO5, hb5⟩
        rw [show canB ⟨kind3, ix3, sub3, tg3, la3, cr3, sz3, size3, code3, data3, sq3, bl3, em3, sum3⟩ = false from by rw [HZ.out]; decide]
        rw [show (if false = true then (0 : Int) else 1) = 1 from rfl]
        have qir5 := qir.below hb5 qir.lt
        have qar5 := qar.below hb5 qar.lt
        have lqir := qir5.lt
        have lqar := qar5.lt
        have k0' := qir5.cell 2 rfl
        have k1' := qar5.cell 28 rfl
        have k2' := qar5.cell 29 rfl
        have k3' := qar5.cell 30 rfl
        have k4' := qar5.cell 31 rfl
        have k5' := qar5.cell 32 rfl
        have k6' := qar5.cell 33 rfl
        have k7' := qar5.cell 34 rfl
        have k8' := qar5.cell 35 rfl
        have k9' := qar5.cell 36 rfl
        have k10' := qar5.cell 37 rfl
        have k11' := qar5.cell 38 rfl
        have k12' := qar5.cell 39 rfl
        have k13' := qar5.cell 40 rfl
        have k14' := qar5.cell 41 rfl
        go_wp2_with fail
        refine (taken_20 ⟨kind3, ix3, sub3, tg3, la3, cr3, sz3, size3, code3, data3, sq3, bl3, em3, sum3⟩ A3 n3 c3 w5).mono ?_
        rintro e w6 ⟨rfl, hb6⟩
        go_wp2_with fail
        refine (rsd_same ⟨kind3, ix3, sub3, tg3, la3, cr3, sz3, size3, code3, data3, sq3, bl3, em3, sum3⟩ msZ A3 none n3 c3 0 0 w6 HL3.out rfl (hS3.below (below_step hb6 (below_step hb5 hbr))) (Sl.nil _ _)).mono ?_
        rintro e w7 ⟨rfl, hb7⟩
        rw [show sameB ⟨kind3, ix3, sub3, tg3, la3, cr3, sz3, size3, code3, data3, sq3, bl3, em3, sum3⟩ msZ = true from by rw [HZ.out]; decide]
        go_wp2_with fail
        go_roundw
        case rel => exact ⟨3, by omega, rfl, below_step hb7 (below_step hb6 (below_step hb5 hbr))⟩
        case measure => simp [intOf]
    · go_wp2_with fail
      refine (known_20 _).mono ?_
      rintro e w6 ⟨rfl, hb6⟩
      go_wp2_with fail
      go_ret
      exact ⟨rfl, below_step hb6 hbwr⟩
end Go.Proofs.Ytcncbmlacphclaa
