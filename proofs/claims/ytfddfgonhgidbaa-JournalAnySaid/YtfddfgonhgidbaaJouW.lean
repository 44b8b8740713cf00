/- Law 9's known, the walk; the walk of JournalNil. -/
import Derived.Test.YtfddfgonhgidbaaJouK
namespace Go.Proofs.Ytfddfgonhgidbaa
set_option linter.unusedVariables false
set_option linter.unusedSimpArgs false
set_option linter.unnecessarySimpa false
open Go.RowKit
set_option maxRecDepth 20000
set_option maxHeartbeats 8000000

theorem known_09 (w : World) : Calls Try.prog 5 #[] w (TrueB w) := by
  obtain ⟨S1, hap, hb1, hoff1, hnow, hrec, hhas, hnum, hops1⟩ := known_app
  obtain ⟨S0, hS0⟩ : ∃ S, S = newF 3 9 := ⟨_, rfl⟩
  rw [← hS0] at hap
  have HS0 := hide hS0
  have hoff0 : S0.off = false := by rw [hS0]; rfl
  have h30 : 3 ≤ S0.wear.length := by rw [hS0]; decide
  have hops0 : S0.ops = 0 := by rw [hS0]; rfl
  have hlast0 : recJ (openJ S0) = (0, 0, []) ∧ (openJ S0).has = false := by
    rw [hS0]
    have hh : (openJ (newF 3 9)).has = false := by unfold openJ; rw [newF_new]
    exact ⟨by unfold recJ; rw [hh]; rfl, hh⟩
  have HNEW := hide (fun W => fl_New 3 9 W (by decide) (by decide) (by decide) (by decide))
  rw [show ofF (List.replicate (3 * 1024) 255) 3 9 = S0 from hS0.symm] at HNEW
  have HAP := hide hap
  have HOPS1 := hide hops1
  have HB1 := hide hb1
  have HX := hide (And.intro hoff0 (And.intro h30 (And.intro hops0 (And.intro hoff1 (And.intro hnow (And.intro hrec (And.intro hhas (And.intro hnum hlast0))))))))
  clear hap hops1 hb1 hoff1 hnow hrec hhas hnum hS0 hoff0 h30 hops0 hlast0
  go_enter Try.func5, Try.ntmps5
  go_wp2_with fail
  refine (HNEW.out _).mono ?_
  rintro e w1 ⟨q, rfl, hF1, hq1, hb1⟩
  have HF1 := hide hF1
  have HQ := hide hq1
  have HBW1 := hide hb1
  have HQL : Hid (∀ g, q.F g → g < w1.heap.size) := hide hF1.lt
  clear hF1 hq1 hb1
  go_wp2_with fail
  refine (jo_Open q S0 w1 HF1.out HX.out.1 HX.out.2.1).mono ?_
  rintro e w2 ⟨p, A, n, c, ds, rfl, hJ2, hb2⟩
  have HJ2 := hide hJ2
  have HBW2 := hide (below_step hb2 HBW1.out)
  have HF2 := hide (HF1.out.below hb2)
  have hz12 := hb2.size
  clear hJ2 hb2
  go_wp2_with fail
  have HL2 := hide (jo_Last w2 HJ2.out)
  rw [HX.out.2.2.2.2.2.2.2.2.1, HX.out.2.2.2.2.2.2.2.2.2] at HL2
  refine HL2.out.mono ?_
  rintro e w3 ⟨A3, c3, rfl, hO3, hb3⟩
  unfold rcV
  dsimp only
  have hb3' := below_alloc hb3 (.cells #[.int .i64 0, .int .u32 0, .slice A3 0 c3] 39)
  have HBW3 := hide (below_step hb3' HBW2.out)
  have HJ3 := hide (HJ2.out.below hb3')
  have HF3 := hide (HF2.out.below hb3')
  have kc := conv_c0 (w3.alloc (.cells #[.int .i64 0, .int .u32 0, .slice A3 0 c3] 39)) #[.int .u8 97] 1 1
  simp only [World.size_alloc] at kc
  have hz23 := hb3.size
  clear hO3 hb3 hb3' HL2
  go_wp2_with fail
  have hm := mark_c0 (w3.alloc (.cells #[.int .i64 0, .int .u32 0, .slice A3 0 c3] 39)) (bv 97) 5 (1, 2)
  simp only [World.size_alloc] at hm
  have hbA := below_alloc (Below.refl _ (w3.alloc (.cells #[.int .i64 0, .int .u32 0, .slice A3 0 c3] 39))) (.cells #[.int .u8 97] 5 (1, 2))
  have HDJ : Hid (∀ g, w1.heap.size ≤ g → ¬ q.F g) := hide (fun g hg hq => by have := HQL.out g hq; omega)
  have hapc := jo_Append_ok (c2 := 1) (d := [97]) 1 _ (HJ3.out.below hbA) (HF3.out.below hbA) HDJ.out rfl HX.out.1 (show 1 = [97].length from rfl) (by decide) hm (by rw [HX.out.2.2.1]; decide)
  rw [HAP.out] at hapc
  have HAPC := hide hapc
  have HBWA := hide (below_step hbA HBW3.out)
  clear kc hm hbA hapc
  refine HAPC.out.mono ?_
  rintro e w4 ⟨ds4, rfl, hJ4, hF4, hO4⟩
  have HJ4 := hide hJ4
  have HF4 := hide hF4
  have hz1 := HBW1.out.size
  have HBW4 := hide (below_only hO4 HBWA.out (fun g hg => by
    rcases hg with hg | hg
    · omega
    · exact HQ.out g hg))
  clear hJ4 hF4 hO4
  dsimp only
  go_wp2_with fail
  have HL4 := hide (jo_Last w4 HJ4.out)
  rw [HX.out.2.2.2.2.2.1, HX.out.2.2.2.2.2.2.1] at HL4
  refine HL4.out.mono ?_
  rintro e w5 ⟨A5, c5, rfl, hO5, hb5⟩
  unfold rcV
  dsimp only
  have HO5 := hide hO5
  have HBW5 := hide (below_step hb5 HBW4.out)
  have HJ5 := hide (HJ4.out.below hb5)
  have HF5 := hide (HF4.out.below hb5)
  clear hO5 hb5 HL4
  have q5 := blk_one w5 39 #[.int .i64 1, .int .u32 1, .slice A5 1 c5]
  have hbA5 := below_alloc (Below.refl w5.heap.size w5) (.cells #[.int .i64 1, .int .u32 1, .slice A5 1 c5] 39)
  have HQ5 := hide q5
  have HBA5 := hide hbA5
  clear q5 hbA5
  go_wp2_with fail
  have hlen1 : S1.b.length = 3072 := by
    rw [HB1.out]
    have hBl := (build_parse_rec [] [] [97] 1 1 (by decide) (by unfold U32; omega)).2
    rw [put_len (by rw [hBl, List.length_replicate]; decide), List.length_replicate]
  have hrd := fl_Read q S1 0 2 _ (HF5.out.below HBA5.out) HX.out.2.2.2.1 (by rw [hlen1]; decide)
  have hbytes : (S1.b.drop 0).take 2 = [87, 1] := by
    rw [HB1.out]
    rfl
  rw [hbytes] at hrd
  have HRD := hide hrd
  clear hrd hbytes hlen1
  refine HRD.out.mono ?_
  rintro e w6 ⟨A6, c6, rfl, hO6, hb6⟩
  have q6 := HQ5.out.below hb6 HQ5.out.lt
  have HB56 := hide (below_step hb6 HBA5.out)
  have HJ6 := hide (HJ5.out.below HB56.out)
  have HF6 := hide (HF5.out.below HB56.out)
  have HBW6 := hide (below_step HB56.out HBW5.out)
  have k1 := str_b c5 (rfl : 1 = [(97 : UInt8)].length) (HO5.out.below HB56.out).sl
  have k2 := str_b c6 (rfl : 2 = [(87 : UInt8), 1].length) hO6.sl
  have HAT := hide (jo_At w6 HJ6.out)
  rw [HX.out.2.2.2.2.1] at HAT
  have HAP2 := hide (jo_Append_ok (A2 := none) (c2 := 0) (d := []) 3 w6 HJ6.out HF6.out (fun g hg hq => by
    rcases hg with hg | hg
    · exact HDJ.out g hg hq
    · have := HQL.out g hq; simp at hg; omega) rfl HX.out.2.2.2.1 rfl (by decide) (Sl.nil _ _) (by rw [HOPS1.out]; decide))
  have hk3 : appJ (openJ S1) S1 3 [] = (openJ S1, S1, 1) := by
    have hr : rightR 3 (numJ (openJ S1) + 1) ([] : List UInt8).length = 1 := by rw [HX.out.2.2.2.2.2.2.2.1]; decide
    have := appJ_kind (openJ S1) S1 3 [] (by rw [HX.out.2.2.2.1]; rfl) (by rw [HX.out.2.2.2.2.2.2.2.1]; decide) (by rw [hr]; decide)
    rw [this, hr]
  rw [hk3] at HAP2
  obtain ⟨q6_c0, q6_c1, q6_c2⟩ := cel3 q6
  have q6_f := q6.frozen
  clear q6 hb6 hO6 hk3
  go_wp2_with fail
  refine HAT.out.mono ?_
  rintro e w7 ⟨rfl, rfl⟩
  go_wp2_with fail
  refine HAP2.out.mono ?_
  rintro e w8 ⟨ds8, rfl, hJ8, hF8, hO8⟩
  have HBW8 := hide (below_only hO8 HBW6.out (fun g hg => by
    rcases hg with (hg | hg) | hg
    · omega
    · have := HBWA.out.size; omega
    · exact HQ.out g hg))
  clear hJ8 hF8 hO8
  dsimp only
  go_wp2_with fail
  go_ret
  exact (⟨rfl, HBW8.out⟩ : TrueB w _ _)
theorem jo_Open0 (w : World) : Calls Try.prog 14 #[.pointer none] w fun e w' => e = .returned (.tuple #[.pointer none, .int .i64 17]) ∧ w = w' := by
  go_enter Try.func14, Try.ntmps14
  go_wp2_with fail
  go_ret2
  exact ⟨rfl, rfl⟩
theorem jo_Open_few (q : FP) (S : FS) (w : World) (hD : FD w q S) (hoff : S.off = false) (h3 : S.wear.length < 3) : Calls Try.prog 14 #[.pointer (some ⟨q.p, 0, none⟩)] w fun e w' => e = .returned (.tuple #[.pointer none, .int .i64 9]) ∧ w = w' := by
  have HON := hide (fl_On q S w hD)
  rw [hoff, Bool.not_false] at HON
  have HSE := hide (fl_Sectors q S w hD)
  obtain ⟨n, hn⟩ : ∃ n, n = S.wear.length := ⟨_, rfl⟩
  rw [← hn] at HSE h3
  have h3' : (n : Int) < 3 := by omega
  clear hD hoff hn
  go_enter Try.func14, Try.ntmps14
  go_wp2_with fail
  refine HON.out.mono ?_
  rintro e w1 ⟨rfl, rfl⟩
  go_wp2_with fail
  refine HSE.out.mono ?_
  rintro e w1 ⟨rfl, rfl⟩
  go_wp2_with fail
  go_ret2
  exact ⟨rfl, rfl⟩
theorem jo_Append0 (kd : Int) (b : Value) (w : World) : Calls Try.prog 12 #[.pointer none, .int .i64 kd, b] w fun e w' => e = .returned (.int .i64 17) ∧ w = w' := by
  go_enter Try.func12, Try.ntmps12
  go_wp2_with fail
  go_ret
  exact ⟨rfl, rfl⟩
theorem jo_Append_nil (kd : Int) (b : Value) (p : Nat) (w : World) (hc : w.cell? ⟨p, 3, none⟩ = some (.pointer none)) : Calls Try.prog 12 #[.pointer (some ⟨p, 0, none⟩), .int .i64 kd, b] w fun e w' => e = .returned (.int .i64 17) ∧ w = w' := by
  go_enter Try.func12, Try.ntmps12
  go_wp2_with fail
  go_ret
  exact ⟨rfl, rfl⟩
end Go.Proofs.Ytfddfgonhgidbaa
