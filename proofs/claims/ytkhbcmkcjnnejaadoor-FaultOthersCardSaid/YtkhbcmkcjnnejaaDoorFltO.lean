/- Package fault: Error of links, Say. -/
import Derived.Test.YtkhbcmkcjnnejaaDoorFltN
import Derived.Test.YtkhbcmkcjnnejaaDoorFltK
namespace Go.Proofs.YtkhbcmkcjnnejaaDoor
set_option linter.unusedVariables false
set_option linter.unusedSimpArgs false
set_option linter.unnecessarySimpa false
open Go.RowKit Go.Extern.Stop Go.Stop Go.Extern
set_option maxRecDepth 20000
set_option maxHeartbeats 8000000

def endT (e : FEnd) : Option (List UInt8) := match e with | .sent _ => none | .txt t => some t
def endL (e : FEnd) : Nat := match e with | .sent _ => 0 | .txt t => t.length
theorem sayE_le (cs : List Nat) (e : FEnd) : (sayC cs (endT e)).length ≤ 41 * cs.length + endL e := by
  have := sayC_le cs (endT e)
  cases e <;> simpa [endT, endL] using this
theorem bs_sz (l : List UInt8) : (bs l).size = l.length := rfl
theorem fa_Error (a : Nat → Addr) (M : Nat) (e : FEnd) : ∀ (cs : List Nat) (c p : Nat) (w : World) (hG : GV w a M) (hC : Ch w a e (c :: cs) (.iface 48 (.pointer (some ⟨p, 0, none⟩)))) (hc : ∀ x ∈ c :: cs, x ≤ 4294967295) (hl : cs.length ≤ 1000) (he : endL e ≤ 1000000) (hM : M ≤ w.heap.size),
    Calls Tryd.prog 33 #[.pointer (some ⟨p, 0, none⟩)] w fun e' w' => e' = .returned (.string (bs (sayC (c :: cs) (endT e)))) ∧ Below w.heap.size w w' := by
  intro cs
  induction cs with
  | nil =>
    intro c p w hG hC hc hl he hM
    obtain ⟨p', u, hv, hB, hU⟩ := hC
    injection hv with _ hv
    injection hv with hv
    injection hv with hv
    injection hv with hv
    subst hv
    have HT := hide (fa_Text c w (hc c (by simp)))
    have c0 := hB.cell 0 (u := .int .u32 (c : Nat)) rfl
    have zp := hB.lt
    have hs39 := textL_le c
    obtain ⟨S, hS⟩ : ∃ S, S = bs (textL c) := ⟨_, rfl⟩
    have hS39 : S.size ≤ 39 := by rw [hS, bs_sz]; exact hs39
    rw [← hS] at HT
    have HS := hide hS
    have HB := hide hB
    have HG := hide hG
    cases e with
    | sent n =>
      have hu : u = .iface 97 (.pointer (some (a n))) := hU
      subst hu
      have HR : Hid (bs (sayC [c] (endT (.sent n))) = S) := hide (by rw [HS.out]; rfl)
      clear hG hB hU hc hS hs39
      go_enter Tryd.func33, Tryd.ntmps33
      go_wp2_with fail
      refine HT.out.mono ?_
      rintro e' w1 ⟨rfl, hb1⟩
      have hbA := below_step (below_alloc (Below.refl w1.heap.size w1) (.cells #[.pointer none] 48)) hb1
      have c1 := ((HB.out.below hbA HB.out.lt).cell 1 (u := .iface 97 (.pointer (some (a n)))) rfl)
      have HA1 := hide (eAs_str_l (a n) w1.heap.size _ (HG.out.below hbA).et)
      have HBA := hide hbA
      clear hbA hb1
      go_wp2_with fail
      refine HA1.out.mono ?_
      rintro e' w2 ⟨rfl, hb2⟩
      have hbB := below_step (below_alloc (Below.refl w2.heap.size w2) (.cells #[.pointer none] 61)) (below_step hb2 HBA.out)
      have c2 := ((HB.out.below hbB HB.out.lt).cell 1 (u := .iface 97 (.pointer (some (a n)))) rfl)
      have HA2 := hide (eAs_str_w (a n) w2.heap.size _ (HG.out.below hbB).et)
      have HBB := hide hbB
      clear hbB hb2
      go_wp2_with fail
      refine HA2.out.mono ?_
      rintro e' w3 ⟨rfl, hb3⟩
      have HB3 := hide (below_step hb3 HBB.out)
      clear hb3
      go_wp2_with fail
      go_ret
      exact ⟨ret_str HR.out.symm, HB3.out⟩
    | txt t =>
      obtain ⟨q, hu, hW⟩ := hU
      subst hu
      have ht : t.length ≤ 1000000 := he
      obtain ⟨X, hX⟩ : ∃ X, X = bs t := ⟨_, rfl⟩
      have hXl : X.size ≤ 1000000 := by rw [hX, bs_sz]; exact ht
      have q1 : ¬ 9223372036854775807 < S.size + 2 := by omega
      have q2 : ¬ 9223372036854775807 < S.size + 2 + X.size := by omega
      have HR : Hid (bs (sayC [c] (endT (.txt t))) = S ++ bs [58, 32] ++ X) := hide (by rw [HS.out, hX, bs_app, bs_app]; simp [sayC, endT])
      have HWW := hide hW
      rw [← hX] at HWW
      clear hG hB hW hc hS hs39 hX
      go_enter Tryd.func33, Tryd.ntmps33
      go_wp2_with fail
      refine HT.out.mono ?_
      rintro e' w1 ⟨rfl, hb1⟩
      have hbA := below_step (below_alloc (Below.refl w1.heap.size w1) (.cells #[.pointer none] 48)) hb1
      have c1 := ((HB.out.below hbA HB.out.lt).cell 1 (u := .iface 61 (.pointer (some ⟨q, 0, none⟩))) rfl)
      have HA1 := hide (eAs_wrd_l ⟨q, 0, none⟩ w1.heap.size _ (HG.out.below hbA).et)
      have HBA := hide hbA
      clear hbA hb1
      go_wp2_with fail
      refine HA1.out.mono ?_
      rintro e' w2 ⟨rfl, hb2⟩
      have hbB := below_step (below_alloc (Below.refl w2.heap.size w2) (.cells #[.pointer none] 61)) (below_step hb2 HBA.out)
      have c2 := ((HB.out.below hbB HB.out.lt).cell 1 (u := .iface 61 (.pointer (some ⟨q, 0, none⟩))) rfl)
      have HA2 := hide (eAs_words q w2.heap.size (.pointer none) _ (blk_one w2 61 #[.pointer none]) (HG.out.below hbB).et)
      have HBB := hide hbB
      have hz2 := (below_step hb2 HBA.out).size
      clear hbB hb2
      go_wp2_with fail
      refine HA2.out.mono ?_
      rintro e' w3 ⟨rfl, hL, hO⟩
      have l0 := hL.cell 0 (u := .pointer (some ⟨q, 0, none⟩)) rfl
      have hw2 := HWW.out.below HBB.out HWW.out.lt
      have hq : ¬ q = w2.heap.size := by have := HWW.out.lt; omega
      have hw3 : Blk w3 q 63 #[.string X] := (hO.block q hw2.lt hq).trans hw2
      have x0 := hw3.cell 0 (u := .string X) rfl
      have HB3 := hide (below_only hO HBB.out (fun i hi => by omega))
      clear hL hO hw2 hw3 hq
      go_wp2_with fail
      go_ret
      exact ⟨ret_str HR.out.symm, HB3.out⟩
  | cons c2 cs ih =>
    intro c p w hG hC hc hl he hM
    obtain ⟨p', u, hv, hB, hU⟩ := hC
    injection hv with _ hv
    injection hv with hv
    injection hv with hv
    injection hv with hv
    subst hv
    have hU0 := hU
    obtain ⟨p2, u2, hu, hB2, hU2⟩ := hU
    subst hu
    have HT := hide (fa_Text c w (hc c (by simp)))
    have c0 := hB.cell 0 (u := .int .u32 (c : Nat)) rfl
    have zp := hB.lt
    have zp2 := hB2.lt
    have hs39 := textL_le c
    have hrl := sayE_le (c2 :: cs) e
    have HIH := hide (fun W (h : GV W a M) (hc2 : Ch W a e (c2 :: cs) (.iface 48 (.pointer (some ⟨p2, 0, none⟩)))) (hM2 : M ≤ W.heap.size) => ih c2 p2 W h hc2 (fun x hx => hc x (by simp at hx ⊢; exact .inr hx)) (by simp at hl; omega) he hM2)
    obtain ⟨S, hS⟩ : ∃ S, S = bs (textL c) := ⟨_, rfl⟩
    have hS39 : S.size ≤ 39 := by rw [hS, bs_sz]; exact hs39
    obtain ⟨X, hX⟩ : ∃ X, X = bs (sayC (c2 :: cs) (endT e)) := ⟨_, rfl⟩
    have hXl : X.size ≤ 2000000 := by rw [hX, bs_sz]; simp at hl hrl; omega
    have q1 : ¬ 9223372036854775807 < S.size + 2 := by omega
    have q2 : ¬ 9223372036854775807 < S.size + 2 + X.size := by omega
    have HR : Hid (bs (sayC (c :: c2 :: cs) (endT e)) = S ++ bs [58, 32] ++ X) := hide (by rw [hS, hX, bs_app, bs_app, List.append_assoc]; rfl)
    rw [← hS] at HT
    rw [← hX] at HIH
    have HB := hide hB
    have HG := hide hG
    have HU := hide hU0
    clear hG hB hU0 hB2 hU2 hc hS hs39 hX hrl ih hl
    go_enter Tryd.func33, Tryd.ntmps33
    go_wp2_with fail
    refine HT.out.mono ?_
    rintro e' w1 ⟨rfl, hb1⟩
    have hbA := below_step (below_alloc (Below.refl w1.heap.size w1) (.cells #[.pointer none] 48)) hb1
    have c1 := ((HB.out.below hbA HB.out.lt).cell 1 (u := .iface 48 (.pointer (some ⟨p2, 0, none⟩))) rfl)
    have HA1 := hide (eAs_link p2 w1.heap.size (.pointer none) _ (blk_one w1 48 #[.pointer none]) (HG.out.below hbA).et)
    have HBA := hide hbA
    have HK := hide (blk_one w1 48 #[.pointer none])
    have hz1 := hb1.size
    clear hbA hb1
    go_wp2_with fail
    refine HA1.out.mono ?_
    rintro e' w2 ⟨rfl, hL, hO⟩
    have l0 := hL.cell 0 (u := .pointer (some ⟨p2, 0, none⟩)) rfl
    have hG2 := (HG.out.below HBA.out).only hO (fun k hk => by omega)
    have hC2 := (HU.out.below HBA.out).only1 HK.out (by decide) (by decide) hO
    have HB2 := hide (below_only hO HBA.out (fun i hi => by omega))
    have HI := hide (HIH.out w2 hG2 hC2 (by have := HB2.out.size; omega))
    clear hL hO hG2 hC2
    go_wp2_with fail
    refine HI.out.mono ?_
    rintro e' w3 ⟨rfl, hb3⟩
    have HB3 := hide (below_step hb3 HB2.out)
    clear hb3
    go_wp2_with fail
    go_ret
    exact ⟨ret_str HR.out.symm, HB3.out⟩
end Go.Proofs.YtkhbcmkcjnnejaaDoor
