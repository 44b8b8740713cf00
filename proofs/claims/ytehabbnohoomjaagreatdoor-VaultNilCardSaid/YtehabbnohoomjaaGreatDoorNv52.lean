/- Package vault: a vault that is not there. -/
import Derived.Test.YtehabbnohoomjaaGreatDoorNv03
import Derived.Test.YtehabbnohoomjaaGreatDoorNv51
import Derived.Test.YtehabbnohoomjaaGreatDoorRows
import Derived.ProofKit
import Derived.OpenShut
import Derived.ChangeOld
import Derived.Deep.Slices
import Derived.Deep.Fields
import Derived.Lib.SmallJoins
import Derived.Test.YtehabbnohoomjaaGreatDoorNv07
import Derived.ChangeSame
import Derived.ChangeVars
import Derived.JoinedOf
import Derived.RowKitTokens
import Derived.LaidLaws
import Derived.LaidHandle
import Derived.Stop.LaidErr
namespace Go.Proofs.YtehabbnohoomjaaGreatDoor
section
set_option linter.unusedVariables false
set_option linter.unusedSimpArgs false
set_option linter.unnecessarySimpa false
open Go.RowKit
set_option maxRecDepth 20000
set_option maxHeartbeats 4000000

theorem va_there0 (w : World) : Calls Tryz.prog 53 #[.pointer none] w fun e w' => e = .returned (.bool false) ∧ w = w' := by
  go_enter Tryz.func53, Tryz.ntmps53
  go_wp2_with fail
  go_ret
  exact ⟨rfl, rfl⟩
theorem va_values0 (w : World) : Calls Tryz.prog 17 #[.pointer none] w fun e w' => e = .returned (.slice none 0 0) ∧ w = w' := by
  go_enter Tryz.func17, Tryz.ntmps17
  go_wp2_with fail
  refine (va_there0 _).mono ?_
  rintro e w1 ⟨rfl, rfl⟩
  go_wp2_with fail
  go_ret
  exact ⟨rfl, rfl⟩
theorem va_odd0 (w : World) : Calls Tryz.prog 20 #[.pointer none] w fun e w' => e = .returned (.bool false) ∧ w = w' := by
  go_enter Tryz.func20, Tryz.ntmps20
  go_wp2_with fail
  refine (va_there0 _).mono ?_
  rintro e w1 ⟨rfl, rfl⟩
  go_wp2_with fail
  go_ret
  exact ⟨rfl, rfl⟩
theorem va_off0 (w : World) : Calls Tryz.prog 21 #[.pointer none] w fun e w' => e = .returned (.bool false) ∧ w = w' := by
  go_enter Tryz.func21, Tryz.ntmps21
  go_wp2_with fail
  refine (va_there0 _).mono ?_
  rintro e w1 ⟨rfl, rfl⟩
  go_wp2_with fail
  go_ret
  exact ⟨rfl, rfl⟩
theorem va_load0 (p : Option Addr) (w : World) : Calls Tryz.prog 15 #[.pointer none, .pointer p] w fun e w' => e = .returned (.int .i64 17) ∧ w = w' := by
  go_enter Tryz.func15, Tryz.ntmps15
  go_wp2_with fail
  refine (va_there0 _).mono ?_
  rintro e w1 ⟨rfl, rfl⟩
  go_wp2_with fail
  go_ret
  exact ⟨rfl, rfl⟩
theorem va_check0 (g : Int) (w : World) : Calls Tryz.prog 48 #[.pointer none, .int .i64 g] w fun e w' => e = .returned (.int .u32 100925511) ∧ w = w' := by
  go_enter Tryz.func48, Tryz.ntmps48
  go_wp2_with fail
  refine (va_there0 _).mono ?_
  rintro e w1 ⟨rfl, rfl⟩
  go_wp2_with fail
  go_ret
  exact ⟨rfl, rfl⟩
theorem va_store0 (p : Option Addr) (g : Int) (w : World) : Calls Tryz.prog 14 #[.pointer none, .pointer p, .int .i64 g] w fun e w' => e = .returned (.int .u32 100925511) ∧ w = w' := by
  go_enter Tryz.func14, Tryz.ntmps14
  go_wp2_with fail
  refine (va_check0 _ _).mono ?_
  rintro e w1 ⟨rfl, rfl⟩
  go_wp2_with fail
  go_ret
  exact ⟨rfl, rfl⟩
theorem va_restore0 (g : Int) (w : World) : Calls Tryz.prog 16 #[.pointer none, .int .i64 g] w fun e w' => e = .returned (.int .u32 100925511) ∧ w = w' := by
  go_enter Tryz.func16, Tryz.ntmps16
  go_wp2_with fail
  refine (va_check0 _ _).mono ?_
  rintro e w1 ⟨rfl, rfl⟩
  go_wp2_with fail
  go_ret
  exact ⟨rfl, rfl⟩
theorem va_open0 (p : Option Addr) (w : World) : Calls Tryz.prog 11 #[.pointer none, .pointer p] w fun e w' => e = .returned (.tuple #[.pointer none, .int .i64 17]) ∧ w = w' := by
  go_enter Tryz.func11, Tryz.ntmps11
  go_wp2_with fail
  go_ret2
  exact ⟨rfl, rfl⟩
theorem va_open1 (p : Addr) (w : World) : Calls Tryz.prog 11 #[.pointer (some p), .pointer none] w fun e w' => e = .returned (.tuple #[.pointer none, .int .i64 17]) ∧ w = w' := by
  go_enter Tryz.func11, Tryz.ntmps11
  go_wp2_with fail
  go_ret2
  exact ⟨rfl, rfl⟩
end
end Go.Proofs.YtehabbnohoomjaaGreatDoor
namespace Go.Proofs.YtehabbnohoomjaaGreatDoor
section
set_option linter.unusedVariables false
set_option linter.unusedSimpArgs false
set_option linter.unnecessarySimpa false
open Go.RowKit
set_option maxRecDepth 100000
set_option maxHeartbeats 8000000

theorem va_open_few (q : FP) (S : FS) (pd : Addr) (w : World) (hD : FD w q S) (hoff : S.off = false) (h3 : S.wear.length < 3) : Calls Tryz.prog 11 #[.pointer (some ⟨q.p, 0, none⟩), .pointer (some pd)] w fun e w' => e = .returned (.tuple #[.pointer none, .int .i64 9]) ∧ w = w' := by
  have HO := hide (jo_Open_few q S w hD hoff h3)
  clear hD hoff h3
  go_enter Tryz.func11, Tryz.ntmps11
  go_wp2_with fail
  refine HO.out.mono ?_
  rintro e w1 ⟨rfl, rfl⟩
  go_wp2_with fail
  go_ret2
  exact ⟨rfl, rfl⟩
theorem vaultNil_walk (a : Nat → Addr) (M : Nat) (g : Int) (w : World) (hG : GV w a M) (hM : M ≤ w.heap.size) : Calls Tryz.prog 4 #[.int .i64 g] w (TrueB w) := by
  have HG := hide hG
  have HM := hide hM
  clear hG hM
  go_enter Tryz.func4, Tryz.ntmps4
  go_wp2_with fail
  refine (dict_new none 0 0 [] _ rfl (by intro j E h; simp at h) (by intro E hE; cases hE)).mono ?_
  rintro e w1 ⟨v, er, at_, rfl, h1, h2, h3, hb1⟩
  obtain ⟨rfl, rfl⟩ := new_one h1 (show NewP [] 0 0 from .inr (.inr ⟨by decide, rfl, rfl, fun j hj => absurd hj (Nat.not_lt_zero _)⟩))
  obtain ⟨p, gl, n, cl, Av, cv, ds, es, rfl, hn, hD⟩ := h3 rfl
  have HB1 := hide hb1
  clear h1 h2 h3 hD hb1 hn
  go_wp2_with fail
  refine (va_open0 _ _).mono ?_
  rintro e w2 ⟨rfl, rfl⟩
  go_wp2_with fail
  have HFN := fl_New 3 1 w1 (by decide) (by decide) (by decide) (by decide)
  refine HFN.mono ?_
  clear HFN
  rintro e w2 ⟨qf, rfl, hF2, hq2, hb2⟩
  have HB2 := hide (below_step hb2 HB1.out)
  clear hF2 hq2 hb2
  go_wp2_with fail
  refine (va_open1 _ _).mono ?_
  rintro e w3 ⟨rfl, rfl⟩
  go_wp2_with fail
  have HFN := fl_New 2 1 w2 (by decide) (by decide) (by decide) (by decide)
  refine HFN.mono ?_
  clear HFN
  rintro e w3 ⟨qg, rfl, hF3, hq3, hb3⟩
  have HF3 := hide (show FD w3 qg (newF 2 1) from hF3)
  have HB3 := hide (below_step hb3 HB2.out)
  clear hF3 hq3 hb3
  go_wp2_with fail
  refine (va_open_few qg (newF 2 1) _ w3 HF3.out rfl (by decide)).mono ?_
  rintro e w4 ⟨rfl, rfl⟩
  go_wp2_with fail
  refine (va_values0 _).mono ?_
  rintro e w4 ⟨rfl, rfl⟩
  go_wp2_with fail
  refine (va_odd0 _).mono ?_
  rintro e w4 ⟨rfl, rfl⟩
  go_wp2_with fail
  refine (va_off0 _).mono ?_
  rintro e w4 ⟨rfl, rfl⟩
  go_wp2_with fail
  refine (va_load0 _ _).mono ?_
  rintro e w4 ⟨rfl, rfl⟩
  go_wp2_with fail
  refine (va_store0 _ _ _).mono ?_
  rintro e w4 ⟨rfl, rfl⟩
  go_wp2_with fail
  refine (va_restore0 _ _).mono ?_
  rintro e w4 ⟨rfl, rfl⟩
  go_wp2_with fail
  refine (known_19 a M _ (HG.out.below HB3.out) (Nat.le_trans HM.out HB3.out.size)).mono ?_
  rintro e w4 ⟨rfl, hb4⟩
  have HB4 := hide (below_step hb4 HB3.out)
  clear hb4
  go_wp2_with fail
  go_ret
  exact (⟨rfl, HB4.out⟩ : TrueB w _ _)
end
end Go.Proofs.YtehabbnohoomjaaGreatDoor
namespace Go.Proofs.YtehabbnohoomjaaGreatDoor
section
set_option linter.unusedVariables false
set_option linter.unusedSimpArgs false
set_option linter.unnecessarySimpa false
open Go.RowKit Go.ChangeShapes Go.WideShapes Go.Deep
set_option maxRecDepth 20000

section
variable {H : Type} {enc : TypeId × Value → H} {w : World} {base : Nat} {spare : Nat → Bool} {held : Bool}
end
end
end Go.Proofs.YtehabbnohoomjaaGreatDoor
namespace Go.Proofs.YtehabbnohoomjaaGreatDoor
section
set_option linter.unusedVariables false
set_option linter.unusedSimpArgs false
set_option linter.unnecessarySimpa false
open Go.RowKit Go.ChangeShapes Go.WideShapes
set_option maxRecDepth 100000
set_option maxHeartbeats 8000000

theorem g_et : Tryz.prog.globalNamed "errors.errorType" = some 0 := by kernel_rfl
theorem g_1 : Tryz.prog.globalNamed "wheelhouse/fault.errProtocol" = some 1 := by kernel_rfl
theorem g_2 : Tryz.prog.globalNamed "wheelhouse/fault.errAccess" = some 2 := by kernel_rfl
theorem g_3 : Tryz.prog.globalNamed "wheelhouse/fault.errSize" = some 3 := by kernel_rfl
theorem g_4 : Tryz.prog.globalNamed "wheelhouse/fault.errValue" = some 4 := by kernel_rfl
theorem g_5 : Tryz.prog.globalNamed "wheelhouse/fault.errDevice" = some 5 := by kernel_rfl
theorem gt_1 : (Tryz.prog.globals[1]?).map (·.type) = some 143 := by kernel_rfl
theorem gt_2 : (Tryz.prog.globals[2]?).map (·.type) = some 143 := by kernel_rfl
theorem gt_3 : (Tryz.prog.globals[3]?).map (·.type) = some 143 := by kernel_rfl
theorem gt_4 : (Tryz.prog.globals[4]?).map (·.type) = some 143 := by kernel_rfl
theorem gt_5 : (Tryz.prog.globals[5]?).map (·.type) = some 143 := by kernel_rfl
theorem rt_row : (Tryz.prog.cutTypes.find? (·.1 == "internal/reflectlite.rtype")).map (·.2) = some 238 := by kernel_rfl
theorem er_row : ((List.range Tryz.prog.types.size).filter fun t => Tryz.prog.rowNamed t [101, 114, 114, 111, 114]) = [143] := by kernel_rfl
theorem es_star : "*" ++ "errors.errorString" = "*errors.errorString" := by decide
theorem es_row (u : TypeId) (h : Tryz.prog.typeName? 3 u = some "*errors.errorString") : u = 279 :=
  typeName_ptr_named (nm := "errors.errorString") (by rw [es_star]; kernel_rfl) (by kernel_rfl) (by decide) u (by rw [es_star]; exact h)

def fiveL : List (String × DataW Unit) := [("wheelhouse/fault.errProtocol", Rows.laid_wheelhouse_fault_errProtocol), ("wheelhouse/fault.errAccess", Rows.laid_wheelhouse_fault_errAccess), ("wheelhouse/fault.errSize", Rows.laid_wheelhouse_fault_errSize), ("wheelhouse/fault.errValue", Rows.laid_wheelhouse_fault_errValue), ("wheelhouse/fault.errDevice", Rows.laid_wheelhouse_fault_errDevice)]
def sixL : List (String × DataW Unit) := ("errors.errorType", Rows.laid_errors_errorType) :: fiveL

theorem handle_of_laid {W : World} (h : handlesMet Tryz.prog [("errors.errorType", Rows.laid_errors_errorType)] W) : W.cell? ⟨0, 0, none⟩ = some (rty 143) := by
  obtain ⟨name, u, ty, e1, e2, e3, e4, e5⟩ := h _ (List.mem_singleton.2 rfl)
  have en : name = [101, 114, 114, 111, 114] := (Option.some.inj e1).symm
  subst en
  obtain rfl := Option.some.inj (rt_row.symm.trans e2)
  have hm : ty ∈ (List.range Tryz.prog.types.size).filter fun t => Tryz.prog.rowNamed t [101, 114, 114, 111, 114] := List.mem_filter.2 ⟨List.mem_range.2 e3, e4⟩
  rw [er_row] at hm
  obtain rfl := List.mem_singleton.1 hm
  have hh : typeHandle Tryz.prog 143 = hdl 143 := by kernel_rfl
  rw [hh] at e5
  unfold rty
  simpa using World.var?_cell g_et e5 0

theorem five_of_laid {W : World} (h : laidMet Tryz.prog fiveL W) : ∃ a : Nat → Addr,
    W.cell? ⟨1, 0, none⟩ = some (.iface 279 (.pointer (some (a 1)))) ∧
    W.cell? ⟨2, 0, none⟩ = some (.iface 279 (.pointer (some (a 2)))) ∧
    W.cell? ⟨3, 0, none⟩ = some (.iface 279 (.pointer (some (a 3)))) ∧
    W.cell? ⟨4, 0, none⟩ = some (.iface 279 (.pointer (some (a 4)))) ∧
    W.cell? ⟨5, 0, none⟩ = some (.iface 279 (.pointer (some (a 5)))) ∧
    (∀ n, 1 ≤ n → n ≤ 5 → ∃ c t, W.heap[(a n).block]? = some (.cells c t (0, 0))) ∧
    (∀ n m, 1 ≤ n → n ≤ 5 → 1 ≤ m → m ≤ 5 → n ≠ m → a n ≠ a m) := by
  obtain ⟨ps, ⟨g1, t1, cs1, f1, p1, q1, hg1, ht1, hv1, hd1, ⟨g2, t2, cs2, f2, p2, q2, hg2, ht2, hv2, hd2, ⟨g3, t3, cs3, f3, p3, q3, hg3, ht3, hv3, hd3, ⟨g4, t4, cs4, f4, p4, q4, hg4, ht4, hv4, hd4, ⟨g5, t5, cs5, f5, p5, q5, hg5, ht5, hv5, hd5, hq5, e5⟩, e4⟩, e3⟩, e2⟩, e1⟩, hnd, hrows⟩ := h
  obtain rfl := Option.some.inj (g_1.symm.trans hg1)
  obtain rfl := Option.some.inj (g_2.symm.trans hg2)
  obtain rfl := Option.some.inj (g_3.symm.trans hg3)
  obtain rfl := Option.some.inj (g_4.symm.trans hg4)
  obtain rfl := Option.some.inj (g_5.symm.trans hg5)
  obtain rfl := Option.some.inj (gt_1.symm.trans ht1)
  obtain rfl := Option.some.inj (gt_2.symm.trans ht2)
  obtain rfl := Option.some.inj (gt_3.symm.trans ht3)
  obtain rfl := Option.some.inj (gt_4.symm.trans ht4)
  obtain rfl := Option.some.inj (gt_5.symm.trans ht5)
  have hq5' : q5 = [] := hq5
  subst hq5'
  subst e5
  subst e4
  subst e3
  subst e2
  subst e1
  obtain ⟨l1⟩ := cs1
  obtain ⟨l2⟩ := cs2
  obtain ⟨l3⟩ := cs3
  obtain ⟨l4⟩ := cs4
  obtain ⟨l5⟩ := cs5
  have ok1 : ∀ u v, l1 = [.iface u v] → Value.okWide Tryz.prog W .any 0 u v := fun u v e => by
    subst e
    exact (hrows 1 0 (by simp [MemPlace.row])).2 u v (by simpa using World.var?_cell hg1 hv1 0)
  have ok2 : ∀ u v, l2 = [.iface u v] → Value.okWide Tryz.prog W .any 0 u v := fun u v e => by
    subst e
    exact (hrows 2 0 (by simp [MemPlace.row])).2 u v (by simpa using World.var?_cell hg2 hv2 0)
  have ok3 : ∀ u v, l3 = [.iface u v] → Value.okWide Tryz.prog W .any 0 u v := fun u v e => by
    subst e
    exact (hrows 3 0 (by simp [MemPlace.row])).2 u v (by simpa using World.var?_cell hg3 hv3 0)
  have ok4 : ∀ u v, l4 = [.iface u v] → Value.okWide Tryz.prog W .any 0 u v := fun u v e => by
    subst e
    exact (hrows 4 0 (by simp [MemPlace.row])).2 u v (by simpa using World.var?_cell hg4 hv4 0)
  have ok5 : ∀ u v, l5 = [.iface u v] → Value.okWide Tryz.prog W .any 0 u v := fun u v e => by
    subst e
    exact (hrows 5 0 (by simp [MemPlace.row])).2 u v (by simpa using World.var?_cell hg5 hv5 0)
  have cE : Tryz.prog.cellsOf 300 = 1 := by kernel_rfl
  have cS : Tryz.prog.cellsOf 9 = 1 := by kernel_rfl
  obtain ⟨a1, s1, rfl, -, -, -, rfl⟩ := errorString_of_trod Tryz.underlying143 es_row Tryz.underlying279 Tryz.underlying300 rfl rfl Tryz.underlying9 cE cS hd1 ok1
  obtain ⟨a2, s2, rfl, -, -, -, rfl⟩ := errorString_of_trod Tryz.underlying143 es_row Tryz.underlying279 Tryz.underlying300 rfl rfl Tryz.underlying9 cE cS hd2 ok2
  obtain ⟨a3, s3, rfl, -, -, -, rfl⟩ := errorString_of_trod Tryz.underlying143 es_row Tryz.underlying279 Tryz.underlying300 rfl rfl Tryz.underlying9 cE cS hd3 ok3
  obtain ⟨a4, s4, rfl, -, -, -, rfl⟩ := errorString_of_trod Tryz.underlying143 es_row Tryz.underlying279 Tryz.underlying300 rfl rfl Tryz.underlying9 cE cS hd4 ok4
  obtain ⟨a5, s5, rfl, -, -, -, rfl⟩ := errorString_of_trod Tryz.underlying143 es_row Tryz.underlying279 Tryz.underlying300 rfl rfl Tryz.underlying9 cE cS hd5 ok5
  have r1 := (hrows a1.block a1.off (by simp [MemPlace.row])).1
  have r2 := (hrows a2.block a2.off (by simp [MemPlace.row])).1
  have r3 := (hrows a3.block a3.off (by simp [MemPlace.row])).1
  have r4 := (hrows a4.block a4.off (by simp [MemPlace.row])).1
  have r5 := (hrows a5.block a5.off (by simp [MemPlace.row])).1
  have n12 : a1 ≠ a2 := by rintro rfl; simp [MemPlace.row] at hnd
  have n13 : a1 ≠ a3 := by rintro rfl; simp [MemPlace.row] at hnd
  have n14 : a1 ≠ a4 := by rintro rfl; simp [MemPlace.row] at hnd
  have n15 : a1 ≠ a5 := by rintro rfl; simp [MemPlace.row] at hnd
  have n23 : a2 ≠ a3 := by rintro rfl; simp [MemPlace.row] at hnd
  have n24 : a2 ≠ a4 := by rintro rfl; simp [MemPlace.row] at hnd
  have n25 : a2 ≠ a5 := by rintro rfl; simp [MemPlace.row] at hnd
  have n34 : a3 ≠ a4 := by rintro rfl; simp [MemPlace.row] at hnd
  have n35 : a3 ≠ a5 := by rintro rfl; simp [MemPlace.row] at hnd
  have n45 : a4 ≠ a5 := by rintro rfl; simp [MemPlace.row] at hnd
  have v1 := World.var?_cell hg1 hv1 0
  have v2 := World.var?_cell hg2 hv2 0
  have v3 := World.var?_cell hg3 hv3 0
  have v4 := World.var?_cell hg4 hv4 0
  have v5 := World.var?_cell hg5 hv5 0
  clear hnd hrows hv1 hv2 hv3 hv4 hv5 hd1 hd2 hd3 hd4 hd5 ok1 ok2 ok3 ok4 ok5
  refine ⟨fun n => if n = 1 then a1 else if n = 2 then a2 else if n = 3 then a3 else if n = 4 then a4 else a5, by simpa using v1, by simpa using v2, by simpa using v3, by simpa using v4, by simpa using v5, ?_, ?_⟩
  · intro n h1 h5
    have : n = 1 ∨ n = 2 ∨ n = 3 ∨ n = 4 ∨ n = 5 := by omega
    rcases this with rfl | rfl | rfl | rfl | rfl <;> assumption
  · intro n m h1 h5 h1' h5' hne
    have en : n = 1 ∨ n = 2 ∨ n = 3 ∨ n = 4 ∨ n = 5 := by omega
    have em : m = 1 ∨ m = 2 ∨ m = 3 ∨ m = 4 ∨ m = 5 := by omega
    rcases en with rfl | rfl | rfl | rfl | rfl <;> rcases em with rfl | rfl | rfl | rfl | rfl <;> first | exact absurd rfl hne | assumption | (apply Ne.symm; assumption)

theorem gv_of_laid {W : World} (h : laidMetH Tryz.prog sixL W) : ∃ a, GV W a W.heap.size := by
  have h' : laidMet Tryz.prog fiveL W ∧ handlesMet Tryz.prog [("errors.errorType", Rows.laid_errors_errorType)] W := h
  obtain ⟨a, c1, c2, c3, c4, c5, hr, hn⟩ := five_of_laid h'.1
  have ct := handle_of_laid h'.2
  exact ⟨a, ct, c1, c2, c3, c4, c5, hr, hn, ⟨lt_of_cell ct, lt_of_cell c1, lt_of_cell c2, lt_of_cell c3, lt_of_cell c4, lt_of_cell c5⟩, fun n h1 h5 => by obtain ⟨c, t, hc⟩ := hr n h1 h5; exact (Array.getElem?_eq_some_iff.1 hc).1⟩

noncomputable def low : Nat := (World.holding Tryz.prog default ⟨#[], #[], []⟩).heap.size
def laySent (g n : Nat) (h : Array Obj) : Array Obj := h.modify g fun
  | .cells _ t frozen => .cells #[.iface 279 (.pointer (some ⟨n, 0, none⟩))] t frozen
  | o => o
noncomputable def laidWorld (os : Os) : World :=
  let w0 := World.holding Tryz.prog os ⟨#[.cells #[.string ⟨#[112, 114, 111, 116, 111, 99, 111, 108]⟩] 300, .cells #[.string ⟨#[97, 99, 99, 101, 115, 115]⟩] 300, .cells #[.string ⟨#[115, 105, 122, 101]⟩] 300, .cells #[.string ⟨#[118, 97, 108, 117, 101]⟩] 300, .cells #[.string ⟨#[100, 101, 118, 105, 99, 101]⟩] 300], #[], []⟩
  { w0 with heap := laySent 5 (low + 4) (laySent 4 (low + 3) (laySent 3 (low + 2) (laySent 2 (low + 1) (laySent 1 low (w0.heap.modify 0 fun
      | .cells _ t frozen => .cells #[rty 143] t frozen
      | o => o))))) }
theorem laidWorld_met (os : Os) (args : Array Value) : laidMetH Tryz.prog sixL ((laidWorld os).forCall (fun _ _ => 0) ⟨#[], args, []⟩).memory :=
  laidMetH_of_parts (laidMet_of_run' 8 (by kernel_rfl) (by kernel_rfl)) (by kernel_rfl)
end
end Go.Proofs.YtehabbnohoomjaaGreatDoor
