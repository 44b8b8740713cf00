/- Law package 24: known. -/
import Derived.Test.YthdbckbpldlkeaaCliI
import Derived.Test.YthdbckbpldlkeaaFrmE
namespace Go.Proofs.Ythdbckbpldlkeaa
set_option linter.unusedVariables false
set_option linter.unusedSimpArgs false
set_option linter.unnecessarySimpa false
open Go.RowKit Go.Maps
set_option maxRecDepth 100000
set_option maxHeartbeats 8000000
def k24a : CliS := ⟨5, 12, 4119, 0, [30, 0], 3, 0, false, false, false, 0, 0, []⟩
def k24b : CliS := ⟨5, 0, 4119, 0, [30, 0], 3, 0, false, false, false, 0, 0, []⟩
theorem k24_1 : cWriteS (cliZ 5) 4119 0 [30, 0] 0 = k24a := by kernel_rfl
theorem k24_2 : cWriteL (cliZ 5) 4119 0 [30, 0] 0 = [⟨1541, false, [43, 23, 16, 0, 30, 0, 0, 0]⟩] := by kernel_rfl
theorem k24_3 : cRecvS k24a ⟨1413, false, [96, 23, 16, 0, 0, 0, 0, 0]⟩ = k24b := by kernel_rfl
theorem k24_4 : cRecvL k24a ⟨1413, false, [96, 23, 16, 0, 0, 0, 0, 0]⟩ = [] := by kernel_rfl
theorem k24_5 : (resM (cKs k24a [96, 23, 16, 0, 0, 0, 0, 0]) [96, 23, 16, 0, 0, 0, 0, 0]).kind = 12 := by kernel_rfl
theorem sl_blk24 {w w' : World} {A : Option Addr} {xs : List Value} (h : Sl w A xs) (hk : ∀ ad, A = some ad → w'.heap[ad.block]? = w.heap[ad.block]?) : Sl w' A xs := by
  intro j u hu
  obtain ⟨ad, rfl, hc⟩ := h j u hu
  refine ⟨ad, rfl, ?_⟩
  rw [← hc]
  unfold World.cell?
  rw [show (ad.add j).block = ad.block by unfold Addr.add; split <;> rfl, hk ad rfl]
theorem fr_one {w : World} {F : Nat → Prop} {A : Option Addr} {n c : Nat} {f : Frm} {ds : List (Option Addr × Nat)} (h : OwnFr w F A n c [f] ds) : ∃ g A' c', A = some ⟨g, 0, none⟩ ∧ n = 1 ∧ Sl w (some ⟨g, 0, none⟩) [.int .i64 f.id, .bool f.re, .slice A' f.data.length c'] ∧ OwnB w 0 A' f.data.length c' f.data := by
  obtain ⟨d, hd, hO, _⟩ := h.elem (j := 0) (v := f) rfl
  obtain ⟨g, hA, _, hc⟩ := h.cells frF_len (j := 0) (v := f) rfl hd (by omega)
  refine ⟨g, d.1, d.2, hA, h.hn, ?_, hO⟩
  intro j u hu
  refine ⟨_, rfl, ?_⟩
  have := hc j u hu
  simp only [Nat.zero_mul, Nat.zero_add] at this
  by_cases hj : j = 0
  · subst hj
    simpa [Addr.add] using this
  · simpa [Addr.add, hj] using this
theorem known_24 (w : World) : Calls Try.prog 6 #[] w (TrueB w) := by
  go_enter Try.func6, Try.ntmps6
  go_wp2_with fail
  refine (cl_new 5 _ ⟨by omega, by omega⟩).mono ?_
  rintro e w1 ⟨p, m, rfl, hS1, hb1, hp1, hm1⟩
  have HS1 := hide hS1
  have HB1 := hide hb1
  have hpl : p < w1.heap.size := by obtain ⟨R, hB, _⟩ := hS1; exact hB.lt
  have hml : m < w1.heap.size := by obtain ⟨R, _, hm, _⟩ := hS1; exact hm.lt
  have hq1 := hide (Blk.new w1 5 #[.int .u8 30, .int .u8 0])
  have HS2 : Hid (CV_ (w1.alloc (.cells #[.int .u8 30, .int .u8 0] 5)) (fun _ => False) p m (cliZ 5)) := hide (hS1.keep (fun q _ hq => (below_alloc (Below.refl _ w1) (.cells #[.int .u8 30, .int .u8 0] 5)).block q hq) (fun _ _ h => h))
  have HB2 := hide (below_alloc hb1 (.cells #[.int .u8 30, .int .u8 0] 5))
  have hz2 : (w1.alloc (.cells #[.int .u8 30, .int .u8 0] 5)).heap.size = w1.heap.size + 1 := by simp
  clear hS1 hb1
  go_wp2_with fail
  refine (cl_write_short (cliZ 5) 4119 0 [30, 0] (some ⟨w1.heap.size, 0, none⟩) 2 2 _ HS2.out ⟨by decide, by decide⟩ rfl ⟨by decide, by decide⟩ (by decide) (fun W' ho => sl_blk24 hq1.out.sl (fun ad e => by injection e with e; subst e; exact ho.block _ (by rw [hz2]; exact Nat.lt_succ_self _) (by rintro (h | h | h); exact absurd h (by simp only; omega); exact absurd h (by simp only; omega); exact h)))).mono ?_
  rintro e w3 ⟨N3, As3, ns3, cs3, ds3, rfl, hO3, hN3, hS3, ho3⟩
  rw [k24_1] at hS3
  rw [k24_2] at hO3
  obtain ⟨R3, hC3, _, _⟩ := hS3.cm
  have HB3 := hide (below_only ho3 HB2.out (fun i h => by rcases h with h | h | h; omega; omega; exact h.elim))
  have z3 : w1.heap.size + 1 ≤ w3.heap.size := by have := ho3.size; omega
  have HC3 := hide hC3
  have HS3 := hide hS3
  have HO3 := hide hO3
  have HN3 : Hid (w1.heap.size + 1 ≤ N3) := hide (by omega)
  clear HS1 HB1 HS2 HB2 hq1 hO3 hS3 ho3 hC3 hN3
  go_wp2_with fail
  refine (cl_busy _ HC3.out rfl).mono ?_
  rintro e w4 ⟨rfl, hw4⟩
  subst hw4
  rw [show decide (k24a.wk ≠ 0) = true from rfl]
  go_wp2_with fail
  refine (frm_p585 _).mono ?_
  rintro e w5 ⟨A5, n5, c5, rfl, hO5, hb5⟩
  have hn5 : n5 = 8 := hO5.hn
  subst hn5
  have hb6 := below_alloc hb5 (.cells (frV 1413 false A5 8 c5) 34)
  have HS6 := hide (HS3.out.keep (fun q _ hq => hb6.block q hq) (fun _ _ h => h))
  have HO6 := hide (hO5.alloc (.cells (frV 1413 false A5 8 c5) 34))
  have HF6 := hide (HO3.out.below hb6)
  have HB6 := hide (below_step hb6 HB3.out)
  have q6 := blk_one w5 34 (frV 1413 false A5 8 c5)
  have z6 := hb6.size
  clear hO5 hb5 hb6 HC3 HS3 HO3 HB3
  unfold frV at q6 HS6 HO6 HF6 HB6
  unfold frV
  obtain ⟨q6_c0, q6_c1, q6_c2⟩ := cel3 q6
  have q6_f := q6.frozen
  go_wp2_with fail
  refine (cl_recv_yes (G := _) k24a ⟨1413, false, [96, 23, 16, 0, 0, 0, 0, 0]⟩ A5 8 c5 _ HS6.out ⟨by decide, by decide⟩ (by decide) rfl HO6.out.le HO6.out.sl (by decide) (by decide) rfl rfl (fun he hk hf W R ks rs A n c h hE hb hn2 hM => cl_step12 k24a R _ A n c W h ⟨by decide, by decide⟩ hE hb hn2 rfl (by decide) (by decide) k24_5)).mono ?_
  rintro e w7 ⟨N7, As7, ns7, cs7, ds7, rfl, hO7, hN7, hS7, ho7⟩
  rw [k24_3] at hS7
  rw [k24_4] at hO7
  obtain rfl : ns7 = 0 := hO7.hn
  have hF7 := HF6.out.keep (w' := w7) (fun g hg hlt => ho7.block g hlt (by have := HN3.out; rintro (h | h | h); omega; omega; exact absurd h.2 (by omega)))
  have HB7 := hide (below_only ho7 HB6.out (fun i h => by rcases h with h | h | h; omega; omega; have := h.1; rcases this with h | h; exact h.elim; omega))
  obtain ⟨g8, A8, c8, rfl, rfl, hB8, hO8⟩ := fr_one hF7
  obtain ⟨R7, hC7, _, _⟩ := hS7.cm
  have HC7 := hide hC7
  have HB8 := hide hB8
  have HO8 := hide hO8
  clear hO7 hS7 ho7 hF7 hC7 hB8 hO8 HF6 HS6 HO6 HB6 q6
  clear q6_c0 q6_c1 q6_c2 q6_f
  go_wp2_with fail
  refine (frm_text6 g8 cs3 A8 8 c8 [43, 23, 16, 0, 30, 0, 0, 0] _ HB8.out rfl (by omega) HO8.out.sl).mono ?_
  rintro e w9 ⟨rfl, hb9⟩
  rw [show strL (54 :: 48 :: 53 :: 35 :: (hexL [43, 23, 16, 0, 30, 0, 0, 0] ++ [10])) = ⟨#[54, 48, 53, 35, 50, 98, 49, 55, 49, 48, 48, 48, 49, 101, 48, 48, 48, 48, 48, 48, 10]⟩ by decide]
  have HC9 := hide (HC7.out.step hb9)
  have HB9 := hide (below_step hb9 HB7.out)
  clear hb9 HC7 HB7 HB8 HO8
  go_wp2_with fail
  refine (cl_new_no 0 _ (by omega)).mono ?_
  rintro e w10 ⟨rfl, hb10⟩
  have HC10 := hide (HC9.out.step hb10)
  have HB10 := hide (below_step hb10 HB9.out)
  have c35 : w10.cell? ⟨p, 35, none⟩ = some (.int .u32 (0 : Nat)) := HC10.out.blk.cell 35 rfl
  clear hb10 HC9 HB9
  go_wp2_with fail
  refine (cl_busy _ HC10.out rfl).mono ?_
  rintro e w11 ⟨rfl, hw11⟩
  subst hw11
  rw [show decide (k24b.wk ≠ 0) = false from rfl]
  go_wp2_with fail
  refine (cl_code 0 _ c35).mono ?_
  rintro e w11 ⟨rfl, hw11⟩
  subst hw11
  go_wp2_with fail
  go_ret
  exact (⟨rfl, HB10.out⟩ : TrueB w _ _)
end Go.Proofs.Ythdbckbpldlkeaa
