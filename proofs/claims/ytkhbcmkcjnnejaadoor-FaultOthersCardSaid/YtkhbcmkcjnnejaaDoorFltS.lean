/- The reference of package fault: Chain. -/
import Derived.Test.YtkhbcmkcjnnejaaDoorFltR
namespace Go.Proofs.YtkhbcmkcjnnejaaDoor
set_option linter.unusedVariables false
set_option linter.unusedSimpArgs false
set_option linter.unnecessarySimpa false
open Go.RowKit Go.Extern.Stop Go.Stop Go.Extern
set_option maxRecDepth 20000
set_option maxHeartbeats 8000000

def cv (c : Nat) : Value := .int .u32 (c : Nat)
def cnts (L : List Nat) : Nat → Nat := fun i => cntN (L.getD i 0)
theorem jP_le (f : Nat → Nat) : ∀ k, (jP f k).length ≤ 41 * k
  | 0 => by simp [jP]
  | 1 => by have := textL_le (f 0); simp only [jP]; omega
  | k + 2 => by have h1 := textL_le (f (k + 1)); have h2 := jP_le f (k + 1); simp only [jP, List.length_append, List.length_cons, List.length_nil]; omega
theorem jP_succ (f : Nat → Nat) (k : Nat) (h : 0 < k) : jP f (k + 1) = jP f k ++ ([58, 32] ++ textL (f k)) := by
  obtain ⟨j, rfl⟩ : ∃ j, k = j + 1 := ⟨k - 1, by omega⟩
  rfl
theorem cntN_big (c : Nat) (h : c ≤ 4294967295) : cntN c ≤ 4294967295 := by unfold cntN; split <;> omega
theorem rf_Chain (A : Option Addr) (n cp : Nat) (L : List Nat) (w : World) (hn : n = L.length) (hn5 : n ≤ 60) (hs : Sl w A (L.map cv)) (hL : ∀ x ∈ L, x ≤ 4294967295) :
    Calls Tryd.prog 17 #[.slice A n cp] w fun e w' => e = .returned (.string (bs (jP (cnts L) n))) ∧ Below w.heap.size w w' := by
  have HN := hide hn
  have HS := hide hs
  have HL := hide hL
  clear hn hs hL
  go_enter Tryd.func17, Tryd.ntmps17
  go_wp2_with fail
  go_loopw [3, 4] (fun s i wr => ∃ (k : Nat) (S : List UInt8), k ≤ n ∧ i = .int .i64 (k : Nat) ∧ s = .string (bs S) ∧ Hid (S = jP (cnts L) k) ∧ Hid (Below w.heap.size w wr)) (fun _ i _ => n - (intOf i).toNat)
  case atStart => exact ⟨0, [], by omega, rfl, rfl, hide rfl, hide (Below.refl _ _)⟩
  case round =>
    obtain ⟨k, S, hk, rfl, rfl, HJ, HB⟩ := hrel
    by_cases hlt : k < n
    · obtain ⟨c, hc⟩ : ∃ c, c = L.getD k 0 := ⟨_, rfl⟩
      have hkL : k < L.length := by rw [← HN.out]; exact hlt
      have hcm : c = L[k] := by rw [hc, List.getD_eq_getElem?_getD, List.getElem?_eq_getElem hkL]; rfl
      have hcb : c ≤ 4294967295 := by rw [hcm]; exact HL.out _ (List.getElem_mem _)
      obtain ⟨b, off, rfl, c0⟩ := (HS.out.below HB.out).at_ (j := k) (u := .int .u32 (c : Nat)) (by rw [List.getElem?_map, List.getElem?_eq_getElem hkL, hcm]; rfl)
      obtain ⟨d, hd⟩ : ∃ d, d = cntN c := ⟨_, rfl⟩
      have HC := hide (rf_Counts c wr hcb)
      have HT := hide (fun W => rf_Text d W (by rw [hd]; exact cntN_big c hcb))
      rw [← hd] at HC
      obtain ⟨T, hT⟩ : ∃ T, T = textL d := ⟨_, rfl⟩
      have hT39 : (bs T).size ≤ 39 := by rw [hT]; exact textL_le d
      rw [← hT] at HT
      have HTT : Hid (T = textL (cnts L k)) := hide (by rw [hT, hd, hc]; rfl)
      have hS : (bs S).size ≤ 2460 := by rw [HJ.out]; have := jP_le (cnts L) k; rw [bs_size]; omega
      clear hd hc hcm hcb hT hkL
      by_cases h0 : k = 0
      · have HR : Hid (bs S ++ bs T = bs (jP (cnts L) (k + 1))) := hide (by rw [HJ.out, HTT.out, h0, bs_app]; rfl)
        subst h0
        rw [Nat.add_zero] at c0
        go_wp2_with fail
        refine HC.out.mono ?_
        rintro e w1 ⟨rfl, hb1⟩
        have HB1 := hide (below_step hb1 HB.out)
        clear hb1
        go_wp2_with fail
        refine (HT.out _).mono ?_
        rintro e w2 ⟨rfl, hb2⟩
        have HB2 := hide (below_step hb2 HB1.out)
        clear hb2
        go_wp2_with fail
        go_roundw
        case rel => exact ⟨0 + 1, _, by omega, by go_num, by rw [HR.out], hide rfl, HB2⟩
        case measure => simp [intOf]; omega
      · have HR : Hid ((bs S ++ bs [58, 32]) ++ bs T = bs (jP (cnts L) (k + 1))) := hide (by rw [HJ.out, HTT.out, jP_succ _ _ (by omega), bs_app, bs_app, List.append_assoc])
        go_wp2_with fail
        refine HC.out.mono ?_
        rintro e w1 ⟨rfl, hb1⟩
        have HB1 := hide (below_step hb1 HB.out)
        clear hb1
        go_wp2_with fail
        refine (HT.out _).mono ?_
        rintro e w2 ⟨rfl, hb2⟩
        have HB2 := hide (below_step hb2 HB1.out)
        clear hb2
        go_wp2_with fail
        go_roundw
        case rel => exact ⟨k + 1, _, by omega, by go_num, HR.out ▸ rfl, hide rfl, HB2⟩
        case measure => simp [intOf]; omega
    · obtain rfl : k = n := by omega
      go_wp2_with fail
      go_ret
      exact ⟨ret_str (congrArg bs HJ.out), HB.out⟩
end Go.Proofs.YtkhbcmkcjnnejaaDoor
