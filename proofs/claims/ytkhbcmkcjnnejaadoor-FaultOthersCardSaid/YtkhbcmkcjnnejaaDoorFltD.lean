/- errors.is, errors.Is over chains of faults. -/
import Derived.Test.YtkhbcmkcjnnejaaDoorFltC
namespace Go.Proofs.YtkhbcmkcjnnejaaDoor
set_option linter.unusedVariables false
set_option linter.unusedSimpArgs false
set_option linter.unnecessarySimpa false
open Go.RowKit Go.Extern.Stop Go.Stop Go.Extern
set_option maxRecDepth 20000
set_option maxHeartbeats 8000000

theorem cmp_str : (Tryd.prog.info? 97).map (·.comparable) = some true := by kernel_rfl
theorem cmp_wrd : (Tryd.prog.info? 61).map (·.comparable) = some true := by kernel_rfl
theorem size_str : (Tryd.prog.info? 117).map (·.size) = some 1 := by kernel_rfl
theorem size_wrd : (Tryd.prog.info? 63).map (·.size) = some 1 := by kernel_rfl
def isE (e : FEnd) (m : Nat) : Bool := match e with | .sent n => decide (n = m) | .txt _ => false
def isT (e : FEnd) (t : List UInt8) : Bool := match e with | .sent _ => false | .txt s => decide (t = s)
def goodE (e : FEnd) : Prop := match e with | .sent n => 1 ≤ n ∧ n ≤ 5 | .txt _ => True
theorem ch_iface {w : World} {a : Nat → Addr} {e : FEnd} : ∀ {cs : List Nat} {v : Value}, Ch w a e cs v → ∃ t x, v = .iface t x
  | [], v, h => by
    cases e with
    | sent n => exact ⟨_, _, h⟩
    | txt t => obtain ⟨p, h, _⟩ := h; exact ⟨_, _, h⟩
  | c :: cs, v, h => by obtain ⟨p, u, h, _⟩ := h; exact ⟨_, _, h⟩
theorem eq_ls (x y : Value) (w : World) : (binOp .eql 26 (.iface 48 x) (.iface 97 y)).run Tryd.prog w = .ok (.bool false) w := run_eql_iface_types (P := Tryd.prog) _ _ x y Tryd.underlying26 (by decide) w
theorem eq_ws (x y : Value) (w : World) : (binOp .eql 26 (.iface 61 x) (.iface 97 y)).run Tryd.prog w = .ok (.bool false) w := run_eql_iface_types (P := Tryd.prog) _ _ x y Tryd.underlying26 (by decide) w
theorem eq_lw (x y : Value) (w : World) : (binOp .eql 26 (.iface 48 x) (.iface 61 y)).run Tryd.prog w = .ok (.bool false) w := run_eql_iface_types (P := Tryd.prog) _ _ x y Tryd.underlying26 (by decide) w
theorem eq_sw' (x y : Value) (w : World) : (binOp .eql 26 (.iface 97 x) (.iface 61 y)).run Tryd.prog w = .ok (.bool false) w := run_eql_iface_types (P := Tryd.prog) _ _ x y Tryd.underlying26 (by decide) w
theorem eq_ss (a : Addr) (w : World) : (binOp .eql 26 (.iface 97 (.pointer (some a))) (.iface 97 (.pointer (some a)))).run Tryd.prog w = .ok (.bool true) w := by
  obtain ⟨i, hi, hcmp⟩ := Option.map_eq_some_iff.1 cmp_str
  obtain ⟨j, hj, hjs⟩ := Option.map_eq_some_iff.1 size_str
  exact run_eql_iface_ptr_same (P := Tryd.prog) w a Tryd.underlying26 Tryd.underlying97 hi hcmp hj
theorem eq_sn {a b : Addr} {ca cb : Array Value} {ta tb : TypeId} {w : World} (hne : a ≠ b) (ha : w.heap[a.block]? = some (.cells ca ta (0, 0))) (hb : w.heap[b.block]? = some (.cells cb tb (0, 0))) : (binOp .eql 26 (.iface 97 (.pointer (some a))) (.iface 97 (.pointer (some b)))).run Tryd.prog w = .ok (.bool false) w := by
  obtain ⟨i, hi, hcmp⟩ := Option.map_eq_some_iff.1 cmp_str
  obtain ⟨j, hj, hjs⟩ := Option.map_eq_some_iff.1 size_str
  exact run_eql_iface_ptr_other (P := Tryd.prog) w Tryd.underlying26 Tryd.underlying97 hi hcmp hj (by rw [hjs]; decide) hne ha hb
theorem eq_wn {a b : Addr} {ca cb : Array Value} {ta tb : TypeId} {w : World} (hne : a ≠ b) (ha : w.heap[a.block]? = some (.cells ca ta (0, 0))) (hb : w.heap[b.block]? = some (.cells cb tb (0, 0))) : (binOp .eql 26 (.iface 61 (.pointer (some a))) (.iface 61 (.pointer (some b)))).run Tryd.prog w = .ok (.bool false) w := by
  obtain ⟨i, hi, hcmp⟩ := Option.map_eq_some_iff.1 cmp_wrd
  obtain ⟨j, hj, hjs⟩ := Option.map_eq_some_iff.1 size_wrd
  exact run_eql_iface_ptr_other (P := Tryd.prog) w Tryd.underlying26 Tryd.underlying61 hi hcmp hj (by rw [hjs]; decide) hne ha hb
theorem isSent_walk (a : Nat → Addr) (m : Nat) (e : FEnd) (cs : List Nat) (v : Value) (w : World) {M : Nat} (hG : GV w a M) (hm : 1 ≤ m) (hm5 : m ≤ 5) (he : goodE e) (hC : Ch w a e cs v) :
    Calls Tryd.prog 42 #[v, .iface 97 (.pointer (some (a m))), .bool true] w fun e' w' => e' = .returned (.bool (isE e m)) ∧ Below w.heap.size w w' := by
  obtain ⟨f, hf⟩ := ch_len w a e
  have HF := hide hf
  have HC := hide hC
  have HG := hide hG
  have HE := hide he
  obtain ⟨am, ham⟩ : ∃ x, x = a m := ⟨_, rfl⟩
  have HAM := hide ham
  rw [← ham]
  clear hf hC hG he ham
  go_enter Tryd.func42, Tryd.ntmps42
  go_wp2_with fail
  go_loopw [0, 6, 7, 8, 9, 10, 12, 13] (fun u _ _ _ _ _ _ _ wr => ∃ ds, Hid (Ch w a e ds u) ∧ Hid (Below w.heap.size w wr)) (fun u _ _ _ _ _ _ _ _ => f u)
  case atStart => exact ⟨cs, HC, hide (Below.refl _ _)⟩
  case round =>
    obtain ⟨ds, HCr, HBr⟩ := hrel
    cases ds with
    | cons c ds =>
      obtain ⟨p, u, rfl, hB, hU⟩ := HCr.out
      have HUN := hide (unwrap_any p c u wr (hB.below HBr.out hB.lt))
      have q1 := eq_ls (.pointer (some ⟨p, 0, none⟩)) (.pointer (some am))
      have t1 := ta_lnk_is (.pointer (some ⟨p, 0, none⟩))
      have t2 := ta_lnk_u (.pointer (some ⟨p, 0, none⟩))
      have m1 := m_unw (.pointer (some ⟨p, 0, none⟩))
      obtain ⟨tt, x, rfl⟩ := ch_iface hU
      have HU := hide hU
      clear hB hU
      go_wp2_with fail
      refine HUN.out.mono ?_
      rintro e w2 ⟨rfl, rfl⟩
      go_wp2_with fail
      go_roundw
      case rel => exact ⟨ds, HU, HBr⟩
      case measure => rw [HF.out _ _ HU.out, HF.out _ _ HCr.out]; simp
    | nil =>
      cases e with
      | sent n =>
        have hv : _ = _ := HCr.out
        subst hv
        obtain ⟨n1, n5⟩ : 1 ≤ n ∧ n ≤ 5 := HE.out
        by_cases hnm : n = m
        · subst hnm
          have q1 := fun w => eq_ss am w
          have HR : Hid (isE (.sent n) n = true) := hide (by simp [isE])
          rw [← HAM.out]
          go_wp2_with fail
          go_ret
          exact ⟨ret_bool HR.out.symm, HBr.out⟩
        · obtain ⟨c1, t1, r1⟩ := (HG.out.below HBr.out).row n n1 n5
          obtain ⟨c2, t2, r2⟩ := (HG.out.below HBr.out).row m hm hm5
          have hne := HG.out.ne n m n1 n5 hm hm5 hnm
          rw [← HAM.out] at r2 hne
          have HR : Hid (isE (.sent n) m = false) := hide (by simp [isE, hnm])
          obtain ⟨an, han⟩ : ∃ x, x = a n := ⟨_, rfl⟩
          rw [← han] at r1 hne ⊢
          have q1 := eq_sn hne r1 r2
          have t1 := ta_str_is (.pointer (some an))
          have t2 := ta_str_u (.pointer (some an))
          have t3 := ta_str_us (.pointer (some an))
          clear r1 r2 hne hnm han
          go_wp2_with fail
          go_ret
          exact ⟨ret_bool HR.out.symm, HBr.out⟩
      | txt s =>
        obtain ⟨p, rfl, hB⟩ := HCr.out
        have q1 := eq_ws (.pointer (some ⟨p, 0, none⟩)) (.pointer (some am))
        have t1 := ta_wrd_is (.pointer (some ⟨p, 0, none⟩))
        have t2 := ta_wrd_u (.pointer (some ⟨p, 0, none⟩))
        have t3 := ta_wrd_us (.pointer (some ⟨p, 0, none⟩))
        have m1 := m_is (.pointer (some ⟨p, 0, none⟩))
        clear hB
        go_wp2_with fail
        refine (wis_str ⟨p, 0, none⟩ (.pointer (some am)) wr).mono ?_
        rintro e w2 ⟨rfl, hb2⟩
        have HB2 := hide (below_step hb2 HBr.out)
        clear hb2
        go_wp2_with fail
        go_ret
        exact ⟨rfl, HB2.out⟩
theorem eIs_sent (a : Nat → Addr) (m : Nat) (e : FEnd) (cs : List Nat) (v : Value) (w : World) {M : Nat} (hG : GV w a M) (hm : 1 ≤ m) (hm5 : m ≤ 5) (he : goodE e) (hC : Ch w a e cs v) :
    Calls Tryd.prog 29 #[v, .iface 97 (.pointer (some (a m)))] w fun e' w' => e' = .returned (.bool (isE e m)) ∧ Below w.heap.size w w' := by
  have H := hide (isSent_walk a m e cs v w hG hm hm5 he hC)
  obtain ⟨tt, x, rfl⟩ := ch_iface hC
  obtain ⟨am, ham⟩ : ∃ x, x = a m := ⟨_, rfl⟩
  rw [← ham] at H ⊢
  have t1 := fun w => cf_typeof _ _ _ (ty_str (.pointer (some am)) w)
  have m1 := m_cmp (hdl 97)
  have c1 := fun w => cf_cmp _ _ w (cmp_s w)
  simp only [rvl, rty, hdl] at t1 m1 c1
  clear hG hC ham
  go_enter Tryd.func29, Tryd.ntmps29
  go_wp2_with fail
  refine H.out.mono ?_
  rintro e w2 ⟨rfl, hb2⟩
  have HB := hide hb2
  clear hb2
  go_wp2_with fail
  go_ret
  exact ⟨rfl, HB.out⟩
end Go.Proofs.YtkhbcmkcjnnejaaDoor
