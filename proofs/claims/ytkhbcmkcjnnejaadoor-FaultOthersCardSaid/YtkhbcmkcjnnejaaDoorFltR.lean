/- The reference of package fault: Text. -/
import Derived.Test.YtkhbcmkcjnnejaaDoorFltM
import Derived.Test.YtkhbcmkcjnnejaaDoorFltK
namespace Go.Proofs.YtkhbcmkcjnnejaaDoor
set_option linter.unusedVariables false
set_option linter.unusedSimpArgs false
set_option linter.unnecessarySimpa false
open Go.RowKit Go.Extern.Stop Go.Stop Go.Extern
set_option maxRecDepth 20000
set_option maxHeartbeats 8000000

def hexS : ByteArray := ⟨#[48, 49, 50, 51, 52, 53, 54, 55, 56, 57, 97, 98, 99, 100, 101, 102]⟩
theorem hex_ext : ∀ d : Nat, d < 16 → hexS.extract d (d + 1) = bs [hexd d] := by
  have : ∀ d : Fin 16, (hexS.extract d.val (d.val + 1)).data.toList = [hexd d.val] := by decide
  intro d h
  apply ByteArray.ext
  have := this ⟨d, h⟩
  simp only at this
  rw [← Array.toList_inj, this]
  rfl
def digs (c : Nat) : Nat → List UInt8
  | 0 => []
  | k + 1 => hexd (c / 16 ^ k % 16) :: digs c k
theorem digs8 (c : Nat) : digs c 8 = digL c := by simp [digs, digL]
theorem digs_len (c k : Nat) : (digs c k).length = k := by induction k <;> simp_all [digs]
theorem rf_Text (c : Nat) (w : World) (hc : c ≤ 4294967295) : Calls Tryd.prog 22 #[.int .u32 (c : Nat)] w fun e w' => e = .returned (.string (bs (textL c))) ∧ Below w.heap.size w w' := by
  have HK := hide (fun W => rf_Known c W hc)
  have HF := hide (fun W => rf_find c W hc)
  go_enter Tryd.func22, Tryd.ntmps22
  go_wp2_with fail
  go_loop [3, 4, 5] (fun s n i => ∃ (k d : Nat) (L : List UInt8), k ≤ 8 ∧ i = .int .i64 (k : Nat) ∧ n = .int .u32 (d : Nat) ∧ s = .string (bs L) ∧ Hid (d = c / 16 ^ k) ∧ Hid (L = digs c k)) (fun _ _ i => 8 - (intOf i).toNat)
  case atStart => exact ⟨0, c, [], by omega, rfl, rfl, rfl, hide (by simp), hide rfl⟩
  case round =>
    obtain ⟨k, d, L, hk, rfl, rfl, rfl, HD, HL⟩ := hrel
    by_cases hlt : k < 8
    · have hd : d < 4294967296 := by rw [HD.out]; exact Nat.lt_of_le_of_lt (Nat.div_le_self _ _) (by omega)
      obtain ⟨r, hr⟩ : ∃ r, r = d % 16 := ⟨_, rfl⟩
      have hr16 : r < 16 := by omega
      have hri : (d : Int) % 16 = (r : Nat) := by omega
      have hx := hex_ext r hr16
      have HRR := hide hr
      clear hr
      have hsz : (bs L).size = k := by rw [bs_size, HL.out, digs_len]
      go_wp2_with fail
      go_round
      case rel => exact ⟨k + 1, d / 16, hexd r :: L, by omega, by go_num, by go_num, by (show _ = Value.string (bs ([hexd r] ++ L)); rw [← bs_app, ← hx]; rfl), hide (by rw [HD.out, Nat.pow_succ, Nat.div_div_eq_div_mul]), hide (by rw [HL.out, HRR.out, HD.out]; rfl)⟩
      case measure => simp [intOf]; omega
    · obtain rfl : k = 8 := by omega
      have HL8 : Hid (L = digL c) := hide (by rw [HL.out, digs8])
      have h8 : (bs L).size = 8 := by rw [bs_size, HL8.out]; rfl
      clear hlt hk
      by_cases hf : famN c = 0
      · have HN : Hid (sayN c = [117, 110, 107, 110, 111, 119, 110]) := hide (by unfold sayN; unfold famN at hf; split <;> rename_i h <;> simp [h] at hf ⊢; have h2 := List.mem_of_find?_eq_some h; have h3 := (fT_fam _ h2).1; omega)
        rw [show decide (famN c ≠ 0) = false by simp [hf]] at HK
        clear hf
        go_wp2_with fail
        refine (HK.out _).mono ?_
        rintro e w1 ⟨rfl, hb1⟩
        have HB := hide hb1
        clear hb1
        go_wp2_with fail
        go_ret
        refine ⟨ret_str ?_, HB.out⟩
        unfold textL
        rw [HN.out, ← HL8.out, ← bs_app]
        rfl
      · have HN : Hid ((fndR c).2.2 = sayN c) := hide (fnd_say c hf)
        rw [show decide (famN c ≠ 0) = true by simp [hf]] at HK
        obtain ⟨S, hS⟩ : ∃ S, S = (fndR c).2.2 := ⟨_, rfl⟩
        have hs30 : (bs S).size ≤ 30 := by rw [hS, fnd_say c hf]; exact sayN_le c
        obtain ⟨n1, hn1⟩ : ∃ n, n = (fndR c).1 := ⟨_, rfl⟩
        obtain ⟨n2, hn2⟩ : ∃ n, n = (fndR c).2.1 := ⟨_, rfl⟩
        unfold FindR at HF
        rw [← hS, ← hn1, ← hn2] at HF
        rw [← hS] at HN
        clear hf hS hn1 hn2
        have k2 := field2
        go_wp2_with fail
        refine (HK.out _).mono ?_
        rintro e w1 ⟨rfl, hb1⟩
        have HB := hide hb1
        clear hb1
        go_wp2_with fail
        refine (HF.out _).mono ?_
        rintro e w2 ⟨rfl, hb2⟩
        have HB2 := hide (below_step hb2 HB.out)
        clear hb2
        go_wp2_with fail
        go_ret
        refine ⟨ret_str ?_, HB2.out⟩
        unfold textL
        rw [← HN.out, ← HL8.out]
        show (bs L ++ bs [32]) ++ bs S = _
        rw [bs_app, bs_app, List.append_assoc]
        rfl
end Go.Proofs.YtkhbcmkcjnnejaaDoor
