/- Package block: a server that is not there, and one without a dictionary. The walk of BlockNil. -/
import Derived.Test.YtimdmhhgomfijaaBlkN
import Derived.Test.YtimdmhhgomfijaaSegK
namespace Go.Proofs.Ytimdmhhgomfijaa
set_option linter.unusedVariables false
set_option linter.unusedSimpArgs false
set_option linter.unnecessarySimpa false
open Go.RowKit
set_option maxRecDepth 100000
set_option maxHeartbeats 4000000
def zblk : Array Value := #[.int .i64 0, .int .i64 0, .int .i64 0, .int .i64 0, .int .i64 0, .int .i64 0, .pointer none, .int .i64 0, .int .i64 0, .int .i64 0, .slice none 0 0, .bool false]
theorem blk_recv0 (M : Ms) (A3 : Option Addr) (m3 c3 : Nat) (w : World) :
    Calls Try.prog 22 #[.pointer none, .agg (msV M A3 m3 c3)] w fun e w' => e = .returned (.agg (outV none 0 0 outZ none 0 0)) ∧ Below w.heap.size w w' := by
  obtain ⟨k1, k2⟩ := blk_two w 39 44 (msV M A3 m3 c3) (outV none 0 0 outZ none 0 0)
  have hbw := below_alloc (below_alloc (Below.refl w.heap.size w) (.cells (msV M A3 m3 c3) 39)) (.cells (outV none 0 0 outZ none 0 0) 44)
  have HK := hide k2
  have HB := hide hbw
  unfold outV outZ at k2
  unfold msV at HK HB ⊢
  unfold outV outZ at HK HB
  clear k1 hbw k2
  go_enter Try.func22, Try.ntmps22
  go_wp2_with fail
  exact ret_out (O := outZ) rfl rfl rfl HK.out ⟨rfl, HB.out⟩
theorem blk_recvz (p : Nat) (M : Ms) (A3 : Option Addr) (m3 c3 : Nat) (w : World) (hB : Blk w p 73 zblk) :
    Calls Try.prog 22 #[.pointer (some ⟨p, 0, none⟩), .agg (msV M A3 m3 c3)] w fun e w' => e = .returned (.agg (outV none 0 0 outZ none 0 0)) ∧ Below w.heap.size w w' := by
  obtain ⟨k1, k2⟩ := blk_two w 39 44 (msV M A3 m3 c3) (outV none 0 0 outZ none 0 0)
  have hbw := below_alloc (below_alloc (Below.refl w.heap.size w) (.cells (msV M A3 m3 c3) 39)) (.cells (outV none 0 0 outZ none 0 0) 44)
  have hz := hB.lt
  have c0 : w.cell? ⟨p, 6, none⟩ = some (.pointer none) := hB.cell 6 rfl
  have HK := hide k2
  have HB := hide hbw
  unfold msV at HK HB ⊢
  unfold outV outZ at HK HB
  clear k1 hbw k2 hB
  go_enter Try.func22, Try.ntmps22
  go_wp2_with fail
  exact ret_out (O := outZ) rfl rfl rfl HK.out ⟨rfl, HB.out⟩
theorem blk_busyz (p : Nat) (w : World) (hB : Blk w p 73 zblk) : Calls Try.prog 28 #[.pointer (some ⟨p, 0, none⟩)] w fun e w' => e = .returned (.bool false) ∧ w = w' := by
  have c1 : w.cell? ⟨p, 7, none⟩ = some (.int .i64 0) := hB.cell 7 rfl
  go_enter Try.func28, Try.ntmps28
  go_wp2_with fail
  go_ret
  exact ⟨rfl, rfl⟩
theorem blockNil_walk (M : Ms) (A : Option Addr) (n c code : Nat) (w : World) (hn : n = M.data.length) : Calls Try.prog 8 #[.agg (msV M A n c), .int .u32 (code : Nat)] w (TrueB w) := by
  have q := blk_one w 51 (msV M A n c)
  have hbw := below_alloc (Below.refl w.heap.size w) (.cells (msV M A n c) 51)
  have HG := hide (fun W => given_21 M A n c W)
  have HR0 := hide (fun W => blk_recv0 M A n c W)
  have HRZ := hide (fun p W h => blk_recvz p M A n c W h)
  have HQ := hide q
  have HB := hide hbw
  clear hn q hbw
  unfold msV at HG HR0 HRZ ⊢
  unfold msV at HQ HB
  have qq := HQ.out
  have qq_c0 := qq.cell 0 rfl
  have qq_f0 := qq.frozen 0
  have qq_c1 := qq.cell 1 rfl
  have qq_f1 := qq.frozen 1
  have qq_c2 := qq.cell 2 rfl
  have qq_f2 := qq.frozen 2
  have qq_c3 := qq.cell 3 rfl
  have qq_f3 := qq.frozen 3
  have qq_c4 := qq.cell 4 rfl
  have qq_f4 := qq.frozen 4
  have qq_c5 := qq.cell 5 rfl
  have qq_f5 := qq.frozen 5
  have qq_c6 := qq.cell 6 rfl
  have qq_f6 := qq.frozen 6
  have qq_c7 := qq.cell 7 rfl
  have qq_f7 := qq.frozen 7
  have qq_c8 := qq.cell 8 rfl
  have qq_f8 := qq.frozen 8
  have qq_c9 := qq.cell 9 rfl
  have qq_f9 := qq.frozen 9
  have qq_c10 := qq.cell 10 rfl
  have qq_f10 := qq.frozen 10
  have qq_c11 := qq.cell 11 rfl
  have qq_f11 := qq.frozen 11
  have qq_c12 := qq.cell 12 rfl
  have qq_f12 := qq.frozen 12
  have qq_c13 := qq.cell 13 rfl
  have qq_f13 := qq.frozen 13
  by_cases h100 : 100 < n
  · go_enter Try.func8, Try.ntmps8
    go_wp2_with fail
    refine (known_22 _).mono ?_
    rintro e w1 ⟨rfl, hb1⟩
    go_wp2_with fail
    go_ret
    exact (⟨rfl, below_step hb1 HB.out⟩ : TrueB w _ _)
  · go_enter Try.func8, Try.ntmps8
    go_wp2_with fail
    refine (blk_drop0 _).mono ?_
    rintro e w1 ⟨rfl, rfl⟩
    go_wp2_with fail
    refine (HG.out _).mono ?_
    rintro e w2 ⟨rfl, hb2⟩
    go_wp2_with fail
    refine (HR0.out _).mono ?_
    rintro e w3 ⟨rfl, hb3⟩
    have hb13 := below_step hb3 hb2
    have q3 := HQ.out.below hb13 HQ.out.lt
    have HB3 := hide (below_step hb13 HB.out)
    have HQ3 := hide q3
    clear qq_c0 qq_f0 qq_c1 qq_f1 qq_c2 qq_f2 qq_c3 qq_f3 qq_c4 qq_f4 qq_c5 qq_f5 qq_c6 qq_f6 qq_c7 qq_f7 qq_c8 qq_f8 qq_c9 qq_f9 qq_c10 qq_f10 qq_c11 qq_f11 qq_c12 qq_f12 qq_c13 qq_f13
    clear qq hb2 hb3 hb13
    unfold outV outZ
    dsimp only
    obtain ⟨k1, k2⟩ := blk_two w3 44 73 #[.slice none 0 0, .bool false, .int .i64 0, .int .i64 0, .slice none 0 0] zblk
    have hbk := below_alloc (below_alloc (Below.refl w3.heap.size w3) (.cells #[.slice none 0 0, .bool false, .int .i64 0, .int .i64 0, .slice none 0 0] 44)) (.cells zblk 73)
    have HK1 := hide k1
    have HK2 := hide k2
    have HQ4 := hide (HQ3.out.below hbk HQ3.out.lt)
    have HB4 := hide (below_step hbk HB3.out)
    have qq := HQ4.out
    unfold zblk at HK1 HK2 HQ4 HB4 qq
    clear k1 k2 hbk q3
    have qq_c0 := qq.cell 0 rfl
    have qq_f0 := qq.frozen 0
    have qq_c1 := qq.cell 1 rfl
    have qq_f1 := qq.frozen 1
    have qq_c2 := qq.cell 2 rfl
    have qq_f2 := qq.frozen 2
    have qq_c3 := qq.cell 3 rfl
    have qq_f3 := qq.frozen 3
    have qq_c4 := qq.cell 4 rfl
    have qq_f4 := qq.frozen 4
    have qq_c5 := qq.cell 5 rfl
    have qq_f5 := qq.frozen 5
    have qq_c6 := qq.cell 6 rfl
    have qq_f6 := qq.frozen 6
    have qq_c7 := qq.cell 7 rfl
    have qq_f7 := qq.frozen 7
    have qq_c8 := qq.cell 8 rfl
    have qq_f8 := qq.frozen 8
    have qq_c9 := qq.cell 9 rfl
    have qq_f9 := qq.frozen 9
    have qq_c10 := qq.cell 10 rfl
    have qq_f10 := qq.frozen 10
    have qq_c11 := qq.cell 11 rfl
    have qq_f11 := qq.frozen 11
    have qq_c12 := qq.cell 12 rfl
    have qq_f12 := qq.frozen 12
    have qq_c13 := qq.cell 13 rfl
    have qq_f13 := qq.frozen 13
    go_wp2_with fail
    refine (HG.out _).mono ?_
    rintro e w5 ⟨rfl, hb5⟩
    go_wp2_with fail
    have HK25 := hide (HK2.out.below hb5 HK2.out.lt)
    have HK15 := hide (HK1.out.below hb5 HK1.out.lt)
    refine (HRZ.out _ _ HK25.out).mono ?_
    rintro e w6 ⟨rfl, hb6⟩
    have HB6 := hide (below_step (below_step hb6 hb5) HB4.out)
    have HK26 := hide ((HK25.out.below hb6 HK25.out.lt).alloc (.cells (outV none 0 0 outZ none 0 0) 44))
    have HK16 := hide ((HK15.out.below hb6 HK15.out.lt).alloc (.cells (outV none 0 0 outZ none 0 0) 44))
    have HY := hide (Blk.new w6 44 (outV none 0 0 outZ none 0 0))
    have HB7 := hide (below_alloc HB6.out (.cells (outV none 0 0 outZ none 0 0) 44))
    clear qq_c0 qq_f0 qq_c1 qq_f1 qq_c2 qq_f2 qq_c3 qq_f3 qq_c4 qq_f4 qq_c5 qq_f5 qq_c6 qq_f6 qq_c7 qq_f7 qq_c8 qq_f8 qq_c9 qq_f9 qq_c10 qq_f10 qq_c11 qq_f11 qq_c12 qq_f12 qq_c13 qq_f13
    clear qq hb5 hb6
    unfold outV outZ
    unfold outV outZ at HK26 HK16 HY HB7
    dsimp only
    have x1 := HK16.out
    have x2 := HY.out
    have x1_c0 := x1.cell 0 rfl
    have x1_f0 := x1.frozen 0
    have x1_c1 := x1.cell 1 rfl
    have x1_f1 := x1.frozen 1
    have x1_c2 := x1.cell 2 rfl
    have x1_f2 := x1.frozen 2
    have x1_c3 := x1.cell 3 rfl
    have x1_f3 := x1.frozen 3
    have x1_c4 := x1.cell 4 rfl
    have x1_f4 := x1.frozen 4
    have x2_c0 := x2.cell 0 rfl
    have x2_f0 := x2.frozen 0
    have x2_c1 := x2.cell 1 rfl
    have x2_f1 := x2.frozen 1
    have x2_c2 := x2.cell 2 rfl
    have x2_f2 := x2.frozen 2
    have x2_c3 := x2.cell 3 rfl
    have x2_f3 := x2.frozen 3
    have x2_c4 := x2.cell 4 rfl
    have x2_f4 := x2.frozen 4
    go_wp2_with fail
    refine (blk_answer0 code _).mono ?_
    rintro e w7 ⟨rfl, hw7⟩
    subst hw7
    go_wp2_with fail
    refine (blk_Abort0 code _).mono ?_
    rintro e w7 ⟨rfl, hw7⟩
    subst hw7
    go_wp2_with fail
    refine (blk_busy0 _).mono ?_
    rintro e w7 ⟨rfl, hw7⟩
    subst hw7
    go_wp2_with fail
    refine (blk_rows0 _).mono ?_
    rintro e w7 ⟨rfl, hw7⟩
    subst hw7
    go_wp2_with fail
    refine (blk_busyz _ _ HK26.out).mono ?_
    rintro e w7 ⟨rfl, hw7⟩
    subst hw7
    go_wp2_with fail
    refine (known_22 _).mono ?_
    rintro e w8 ⟨rfl, hb8⟩
    go_wp2_with fail
    go_ret
    exact (⟨rfl, below_step hb8 HB7.out⟩ : TrueB w _ _)
end Go.Proofs.Ytimdmhhgomfijaa
