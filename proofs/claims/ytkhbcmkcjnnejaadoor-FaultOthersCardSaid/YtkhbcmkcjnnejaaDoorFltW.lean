/- What the five walks share. -/
import Derived.Test.YtkhbcmkcjnnejaaDoorFltU
namespace Go.Proofs.YtkhbcmkcjnnejaaDoor
set_option linter.unusedVariables false
set_option linter.unusedSimpArgs false
set_option linter.unnecessarySimpa false
open Go.RowKit Go.Extern.Stop Go.Stop Go.Extern
set_option maxRecDepth 20000
set_option maxHeartbeats 8000000

theorem jP_congr (f g : Nat → Nat) : ∀ k, (∀ i, i < k → f i = g i) → jP f k = jP g k
  | 0, _ => rfl
  | 1, h => by simp only [jP]; rw [h 0 (by decide)]
  | k + 2, h => by simp only [jP]; rw [jP_congr f g (k + 1) (fun i hi => h i (by omega)), h (k + 1) (by omega)]
theorem say_chain (L : List Nat) (h : L ≠ []) (o : Option (List UInt8)) : sayC (L.map cntN) o = jP (cnts L) L.length ++ (match o with | none => [] | some t => [58, 32] ++ t) := by
  rw [sayC_jP _ (by simpa using h), List.length_map]
  have h2 := jP_congr (fun i => (L.map cntN).getD i 0) (cnts L) L.length (by
    intro i hi
    simp only [List.getD_eq_getElem?_getD, List.getElem?_map, List.getElem?_eq_getElem hi, cnts]
    rfl)
  rw [h2]
  cases o <;> rfl
theorem cnts_le {L : List Nat} (hL : ∀ x ∈ L, x ≤ 4294967295) : ∀ x ∈ L.map cntN, x ≤ 4294967295 := by
  intro x hx
  obtain ⟨y, hy, rfl⟩ := List.mem_map.1 hx
  exact cntN_le y (hL y hy)
theorem good_cnt (c : Nat) : goodE (.sent (famN (cntN c))) := by
  have h5 := famN_le (cntN c)
  have h1 := famN_cnt c
  show 1 ≤ famN (cntN c) ∧ famN (cntN c) ≤ 5
  omega
/-- a fault's box, with what is known of the world -/
structure FK (w : World) (a : Nat → Addr) (M b : Nat) (e : FEnd) (cs : List Nat) (v : Value) (W : World) : Prop where
  box : Blk W b 28 #[v]
  ch : Ch W a e cs v
  gv : GV W a M
  be : Below w.heap.size w W
  m : M ≤ W.heap.size
theorem FK.below {w : World} {a : Nat → Addr} {M b : Nat} {e : FEnd} {cs : List Nat} {v : Value} {W W' : World} (h : FK w a M b e cs v W) (hb : Below W.heap.size W W') : FK w a M b e cs v W' :=
  ⟨h.box.below hb h.box.lt, h.ch.below hb, h.gv.below hb, below_step hb h.be, Nat.le_trans h.m hb.size⟩

theorem faultSays_walk (a : Nat → Addr) (M : Nat) (A : Option Addr) (n cp : Nat) (L : List Nat) (w : World) (hG : GV w a M) (hM : M ≤ w.heap.size) (hn : n = L.length) (hs : Sl w A (L.map cv)) (hL : ∀ x ∈ L, x ≤ 4294967295) :
    Calls Tryd.prog 4 #[.slice A n cp] w (TrueB w) := by
  by_cases h0 : n = 0
  · have HK := hide (la_known a M w hG hM)
    clear hG hM hn hs hL
    subst h0
    go_enter Tryd.func4, Tryd.ntmps4
    go_wp2_with fail
    refine HK.out.mono ?_
    rintro e w1 ⟨rfl, hb⟩
    go_wp2_with fail
    go_ret
    exact (⟨rfl, hb⟩ : TrueB w _ _)
  by_cases h5 : 50 < n
  · have HK := hide (la_known a M w hG hM)
    clear hG hM hn hs hL
    go_enter Tryd.func4, Tryd.ntmps4
    go_wp2_with fail
    refine HK.out.mono ?_
    rintro e w1 ⟨rfl, hb⟩
    go_wp2_with fail
    go_ret
    exact (⟨rfl, hb⟩ : TrueB w _ _)
  have HW := hide (la_wrapped a M A n cp L w hG hM hn (by omega) hs hL)
  have HS := hide (fun W (h : Below w.heap.size w W) => rf_Chain A n cp L W hn (by omega) (hs.below h) hL)
  have HN := hide (show L ≠ [] ∧ n = L.length ∧ n ≤ 50 from ⟨fun h => by subst h; exact h0 hn, hn, by omega⟩)
  have HG := hide (And.intro hG (And.intro hM hL))
  obtain ⟨T, hT⟩ : ∃ T, T = bs (jP (cnts L) n) := ⟨_, rfl⟩
  rw [← hT] at HS
  have HT := hide hT
  have z0 : ((n : Int) == 0) = false := by simp; omega
  have z1 : decide (50 < (n : Int)) = false := by simp; omega
  clear hG hM hn hs hL hT h0
  go_enter Tryd.func4, Tryd.ntmps4
  go_wp2_with fail
  refine HW.out.mono ?_
  rintro e w1 ⟨u, rfl, hW, hb⟩
  have hC : Ch w1 a (endW L) (L.map cntN) u := by
    rcases hW with ⟨h1, _⟩ | ⟨_, h2⟩
    · have := HN.out.1
      have h3 : L.length = 0 := h1.symm
      exact absurd (List.eq_nil_of_length_eq_zero h3) this
    · exact h2
  have HSA : Hid (Calls Tryd.prog 16 #[.agg #[u]] w1 fun e' w' => e' = .returned (.string T) ∧ Below w1.heap.size w1 w') := by
    apply hide
    have hsc := say_chain L HN.out.1 none
    obtain ⟨hG, hM, hL⟩ := HG.out
    have hcl := cnts_le hL
    rw [HT.out, HN.out.2.1, show jP (cnts L) L.length = sayC (L.map cntN) none from by rw [hsc]; simp]
    obtain ⟨d, L', rfl⟩ : ∃ d L', L = d :: L' := by cases L with
      | nil => exact absurd rfl HN.out.1
      | cons d L' => exact ⟨d, L', rfl⟩
    have hl2 := HN.out.2.2
    have hl3 := HN.out.2.1
    rw [List.length_cons] at hl3
    exact fa_Say a M (endW (d :: L')) (cntN d) (L'.map cntN) u w1 (hG.below hb) hC hcl (by rw [List.length_map]; omega) (Nat.zero_le _) (Nat.le_trans hM hb.size)
  have HB := hide hb
  clear hW hC hb
  go_wp2_with fail
  refine HSA.out.mono ?_
  rintro e w2 ⟨rfl, hb2⟩
  have HB2 := hide (below_step hb2 HB.out)
  clear hb2
  go_wp2_with fail
  refine (HS.out _ HB2.out).mono ?_
  rintro e w3 ⟨rfl, hb3⟩
  have HB3 := hide (below_step hb3 HB2.out)
  clear hb3
  go_wp2_with fail
  refine (la_known a M _ (HG.out.1.below HB3.out) (Nat.le_trans HG.out.2.1 HB3.out.size)).mono ?_
  rintro e w4 ⟨rfl, hb4⟩
  go_wp2_with fail
  go_ret
  exact (⟨rfl, below_step hb4 HB3.out⟩ : TrueB w _ _)
end Go.Proofs.YtkhbcmkcjnnejaaDoor
