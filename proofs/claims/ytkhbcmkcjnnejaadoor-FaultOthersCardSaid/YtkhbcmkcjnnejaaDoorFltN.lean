/- errors.Is with a text's target; Says. -/
import Derived.Test.YtkhbcmkcjnnejaaDoorFltI
namespace Go.Proofs.YtkhbcmkcjnnejaaDoor
set_option linter.unusedVariables false
set_option linter.unusedSimpArgs false
set_option linter.unnecessarySimpa false
open Go.RowKit Go.Extern.Stop Go.Stop Go.Extern
set_option maxRecDepth 20000
set_option maxHeartbeats 8000000

theorem isTxt_walk (a : Nat → Addr) (q : Nat) (t : List UInt8) (e : FEnd) (cs : List Nat) (v : Value) (w w0 : World) (hC : Ch w0 a e cs v) (h0 : Below w0.heap.size w0 w) (hq : Blk w q 63 #[.string (bs t)]) (hqn : w0.heap.size ≤ q) :
    Calls Tryd.prog 42 #[v, .iface 61 (.pointer (some ⟨q, 0, none⟩)), .bool true] w fun e' w' => e' = .returned (.bool (isT e t)) ∧ Below w.heap.size w w' := by
  obtain ⟨f, hf⟩ := ch_len w0 a e
  have HF := hide hf
  have HC := hide hC
  have H0 := hide h0
  have HQ := hide hq
  clear hf hC h0 hq
  go_enter Tryd.func42, Tryd.ntmps42
  go_wp2_with fail
  go_loopw [0, 6, 7, 8, 9, 10, 12, 13] (fun u _ _ _ _ _ _ _ wr => ∃ ds, Hid (Ch w0 a e ds u) ∧ Hid (Below w.heap.size w wr)) (fun u _ _ _ _ _ _ _ _ => f u)
  case atStart => exact ⟨cs, HC, hide (Below.refl _ _)⟩
  case round =>
    obtain ⟨ds, HCr, HBr⟩ := hrel
    have HB0 := hide (below_step HBr.out H0.out)
    cases ds with
    | cons c ds =>
      obtain ⟨p, u, rfl, hB, hU⟩ := HCr.out
      have HUN := hide (unwrap_any p c u wr (hB.below HB0.out hB.lt))
      have q1 := eq_lw (.pointer (some ⟨p, 0, none⟩)) (.pointer (some ⟨q, 0, none⟩))
      have t1 := ta_lnk_is (.pointer (some ⟨p, 0, none⟩))
      have t2 := ta_lnk_u (.pointer (some ⟨p, 0, none⟩))
      have m1 := m_unw (.pointer (some ⟨p, 0, none⟩))
      obtain ⟨tt, x, rfl⟩ := ch_iface hU
      have HU := hide hU
      clear hB hU
      go_wp2_with fail
      refine HUN.out.mono ?_
      rintro e w2 ⟨rfl, rfl⟩
      go_wp2_with fail
      go_roundw
      case rel => exact ⟨ds, HU, HBr⟩
      case measure => rw [HF.out _ _ HU.out, HF.out _ _ HCr.out]; simp
    | nil =>
      cases e with
      | sent n =>
        have hv : _ = _ := HCr.out
        subst hv
        obtain ⟨an, han⟩ : ∃ x, x = a n := ⟨_, rfl⟩
        rw [← han]
        have q1 := eq_sw' (.pointer (some an)) (.pointer (some ⟨q, 0, none⟩))
        have t1 := ta_str_is (.pointer (some an))
        have t2 := ta_str_u (.pointer (some an))
        have t3 := ta_str_us (.pointer (some an))
        clear han
        go_wp2_with fail
        go_ret
        exact ⟨rfl, HBr.out⟩
      | txt s =>
        obtain ⟨p, rfl, hB⟩ := HCr.out
        have hp2 := hB.below HB0.out hB.lt
        have hq2 := HQ.out.below HBr.out HQ.out.lt
        have hne : (⟨p, 0, none⟩ : Addr) ≠ ⟨q, 0, none⟩ := by intro e'; injection e' with e'; have := hB.lt; omega
        have q1 := eq_wn hne hp2 hq2
        have t1 := ta_wrd_is (.pointer (some ⟨p, 0, none⟩))
        have t2 := ta_wrd_u (.pointer (some ⟨p, 0, none⟩))
        have t3 := ta_wrd_us (.pointer (some ⟨p, 0, none⟩))
        have m1 := m_is (.pointer (some ⟨p, 0, none⟩))
        have HW := hide (wis_wrd p q s t wr hp2 hq2)
        obtain ⟨b, hb⟩ : ∃ b, b = decide (t = s) := ⟨_, rfl⟩
        have HR : Hid (isT (.txt s) t = b) := hide (by rw [hb]; rfl)
        rw [← hb] at HW
        clear hB hp2 hq2 hne hb
        go_wp2_with fail
        refine HW.out.mono ?_
        rintro e w2 ⟨rfl, hb2⟩
        have HB2 := hide (below_step hb2 HBr.out)
        clear hb2
        cases b
        · go_wp2_with fail
          go_ret
          exact ⟨ret_bool HR.out.symm, HB2.out⟩
        · go_wp2_with fail
          go_ret
          exact ⟨ret_bool HR.out.symm, HB2.out⟩
theorem fa_Says0 (t : List UInt8) (w : World) : Calls Tryd.prog 24 #[.agg #[.nilIface], .string (bs t)] w fun e w' => e = .returned (.bool false) ∧ Below w.heap.size w w' := by
  have HB := hide (below_alloc (Below.refl w.heap.size w) (.cells #[.nilIface] 28))
  go_enter Tryd.func24, Tryd.ntmps24
  go_wp2_with fail
  go_ret
  exact ⟨rfl, HB.out⟩
theorem eIs_txt (a : Nat → Addr) (q : Nat) (t : List UInt8) (e : FEnd) (cs : List Nat) (v : Value) (w w0 : World) (hC : Ch w0 a e cs v) (h0 : Below w0.heap.size w0 w) (hq : Blk w q 63 #[.string (bs t)]) (hqn : w0.heap.size ≤ q) :
    Calls Tryd.prog 29 #[v, .iface 61 (.pointer (some ⟨q, 0, none⟩))] w fun e' w' => e' = .returned (.bool (isT e t)) ∧ Below w.heap.size w w' := by
  have H := hide (isTxt_walk a q t e cs v w w0 hC h0 hq hqn)
  obtain ⟨tt, x, rfl⟩ := ch_iface hC
  have t1 := fun w => cf_typeof _ _ _ (ty_words (.pointer (some ⟨q, 0, none⟩)) w)
  have m1 := m_cmp (hdl 61)
  have c1 := fun w => cf_cmp _ _ w (cmp_w w)
  simp only [rvl, rty, hdl] at t1 m1 c1
  clear hC hq h0
  go_enter Tryd.func29, Tryd.ntmps29
  go_wp2_with fail
  refine H.out.mono ?_
  rintro e w2 ⟨rfl, hb2⟩
  have HB := hide hb2
  clear hb2
  go_wp2_with fail
  go_ret
  exact ⟨rfl, HB.out⟩
theorem fa_Says (a : Nat → Addr) (t : List UInt8) (e : FEnd) (cs : List Nat) (v : Value) (w : World) (hC : Ch w a e cs v) :
    Calls Tryd.prog 24 #[.agg #[v], .string (bs t)] w fun e' w' => e' = .returned (.bool (isT e t)) ∧ Below w.heap.size w w' := by
  have hb := below_alloc (below_alloc (Below.refl w.heap.size w) (.cells #[v] 28)) (.cells #[.string (bs t)] 63)
  have kk := blk_two w 28 63 #[v] #[.string (bs t)]
  have HI := hide (eIs_txt a (w.heap.size + 1) t e cs v _ w hC hb kk.2 (by omega))
  have HB := hide hb
  obtain ⟨b, hbb⟩ : ∃ b, b = isT e t := ⟨_, rfl⟩
  rw [← hbb] at HI ⊢
  obtain ⟨tt, x, rfl⟩ := ch_iface hC
  clear hC hb kk hbb
  go_enter Tryd.func24, Tryd.ntmps24
  go_wp2_with fail
  refine HI.out.mono ?_
  rintro e' w2 ⟨rfl, hb2⟩
  have HB2 := hide (below_step hb2 HB.out)
  clear hb2
  go_wp2_with fail
  go_ret
  exact ⟨rfl, HB2.out⟩
end Go.Proofs.YtkhbcmkcjnnejaaDoor
