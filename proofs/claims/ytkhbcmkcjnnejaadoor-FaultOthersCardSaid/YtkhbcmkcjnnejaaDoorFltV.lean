/- The package's variables, out of the row's condition; a world that meets it. -/
import Derived.Test.YtkhbcmkcjnnejaaDoorFltC
import Derived.Test.YtkhbcmkcjnnejaaDoorRows
import Derived.ChangeSame
import Derived.ChangeVars
import Derived.JoinedOf
import Derived.RowKitTokens
import Derived.LaidLaws
import Derived.LaidHandle
import Derived.Stop.LaidErr
namespace Go.Proofs.YtkhbcmkcjnnejaaDoor
set_option linter.unusedVariables false
set_option linter.unusedSimpArgs false
set_option linter.unnecessarySimpa false
open Go.RowKit Go.ChangeShapes Go.WideShapes
set_option maxRecDepth 100000
set_option maxHeartbeats 8000000

theorem g_et : Tryd.prog.globalNamed "errors.errorType" = some 0 := by kernel_rfl
theorem g_1 : Tryd.prog.globalNamed "wheelhouse/fault.errProtocol" = some 1 := by kernel_rfl
theorem g_2 : Tryd.prog.globalNamed "wheelhouse/fault.errAccess" = some 2 := by kernel_rfl
theorem g_3 : Tryd.prog.globalNamed "wheelhouse/fault.errSize" = some 3 := by kernel_rfl
theorem g_4 : Tryd.prog.globalNamed "wheelhouse/fault.errValue" = some 4 := by kernel_rfl
theorem g_5 : Tryd.prog.globalNamed "wheelhouse/fault.errDevice" = some 5 := by kernel_rfl
theorem gt_1 : (Tryd.prog.globals[1]?).map (·.type) = some 26 := by kernel_rfl
theorem gt_2 : (Tryd.prog.globals[2]?).map (·.type) = some 26 := by kernel_rfl
theorem gt_3 : (Tryd.prog.globals[3]?).map (·.type) = some 26 := by kernel_rfl
theorem gt_4 : (Tryd.prog.globals[4]?).map (·.type) = some 26 := by kernel_rfl
theorem gt_5 : (Tryd.prog.globals[5]?).map (·.type) = some 26 := by kernel_rfl
theorem rt_row : (Tryd.prog.cutTypes.find? (·.1 == "internal/reflectlite.rtype")).map (·.2) = some 82 := by kernel_rfl
theorem er_row : ((List.range Tryd.prog.types.size).filter fun t => Tryd.prog.rowNamed t [101, 114, 114, 111, 114]) = [26] := by kernel_rfl
theorem es_star : "*" ++ "errors.errorString" = "*errors.errorString" := by decide
theorem es_row (u : TypeId) (h : Tryd.prog.typeName? 3 u = some "*errors.errorString") : u = 97 :=
  typeName_ptr_named (nm := "errors.errorString") (by rw [es_star]; kernel_rfl) (by kernel_rfl) (by decide) u (by rw [es_star]; exact h)

def fiveL : List (String × DataW Unit) := [("wheelhouse/fault.errProtocol", Rows.laid_wheelhouse_fault_errProtocol), ("wheelhouse/fault.errAccess", Rows.laid_wheelhouse_fault_errAccess), ("wheelhouse/fault.errSize", Rows.laid_wheelhouse_fault_errSize), ("wheelhouse/fault.errValue", Rows.laid_wheelhouse_fault_errValue), ("wheelhouse/fault.errDevice", Rows.laid_wheelhouse_fault_errDevice)]
def sixL : List (String × DataW Unit) := ("errors.errorType", Rows.laid_errors_errorType) :: fiveL

theorem handle_of_laid {W : World} (h : handlesMet Tryd.prog [("errors.errorType", Rows.laid_errors_errorType)] W) : W.cell? ⟨0, 0, none⟩ = some (rty 26) := by
  obtain ⟨name, u, ty, e1, e2, e3, e4, e5⟩ := h _ (List.mem_singleton.2 rfl)
  have en : name = [101, 114, 114, 111, 114] := (Option.some.inj e1).symm
  subst en
  obtain rfl := Option.some.inj (rt_row.symm.trans e2)
  have hm : ty ∈ (List.range Tryd.prog.types.size).filter fun t => Tryd.prog.rowNamed t [101, 114, 114, 111, 114] := List.mem_filter.2 ⟨List.mem_range.2 e3, e4⟩
  rw [er_row] at hm
  obtain rfl := List.mem_singleton.1 hm
  have hh : typeHandle Tryd.prog 26 = hdl 26 := by kernel_rfl
  rw [hh] at e5
  unfold rty
  simpa using World.var?_cell g_et e5 0

theorem five_of_laid {W : World} (h : laidMet Tryd.prog fiveL W) : ∃ a : Nat → Addr,
    W.cell? ⟨1, 0, none⟩ = some (.iface 97 (.pointer (some (a 1)))) ∧
    W.cell? ⟨2, 0, none⟩ = some (.iface 97 (.pointer (some (a 2)))) ∧
    W.cell? ⟨3, 0, none⟩ = some (.iface 97 (.pointer (some (a 3)))) ∧
    W.cell? ⟨4, 0, none⟩ = some (.iface 97 (.pointer (some (a 4)))) ∧
    W.cell? ⟨5, 0, none⟩ = some (.iface 97 (.pointer (some (a 5)))) ∧
    (∀ n, 1 ≤ n → n ≤ 5 → ∃ c t, W.heap[(a n).block]? = some (.cells c t (0, 0))) ∧
    (∀ n m, 1 ≤ n → n ≤ 5 → 1 ≤ m → m ≤ 5 → n ≠ m → a n ≠ a m) := by
  obtain ⟨ps, ⟨g1, t1, cs1, f1, p1, q1, hg1, ht1, hv1, hd1, ⟨g2, t2, cs2, f2, p2, q2, hg2, ht2, hv2, hd2, ⟨g3, t3, cs3, f3, p3, q3, hg3, ht3, hv3, hd3, ⟨g4, t4, cs4, f4, p4, q4, hg4, ht4, hv4, hd4, ⟨g5, t5, cs5, f5, p5, q5, hg5, ht5, hv5, hd5, hq5, e5⟩, e4⟩, e3⟩, e2⟩, e1⟩, hnd, hrows⟩ := h
  obtain rfl := Option.some.inj (g_1.symm.trans hg1)
  obtain rfl := Option.some.inj (g_2.symm.trans hg2)
  obtain rfl := Option.some.inj (g_3.symm.trans hg3)
  obtain rfl := Option.some.inj (g_4.symm.trans hg4)
  obtain rfl := Option.some.inj (g_5.symm.trans hg5)
  obtain rfl := Option.some.inj (gt_1.symm.trans ht1)
  obtain rfl := Option.some.inj (gt_2.symm.trans ht2)
  obtain rfl := Option.some.inj (gt_3.symm.trans ht3)
  obtain rfl := Option.some.inj (gt_4.symm.trans ht4)
  obtain rfl := Option.some.inj (gt_5.symm.trans ht5)
  have hq5' : q5 = [] := hq5
  subst hq5'
  subst e5
  subst e4
  subst e3
  subst e2
  subst e1
  obtain ⟨l1⟩ := cs1
  obtain ⟨l2⟩ := cs2
  obtain ⟨l3⟩ := cs3
  obtain ⟨l4⟩ := cs4
  obtain ⟨l5⟩ := cs5
  have ok1 : ∀ u v, l1 = [.iface u v] → Value.okWide Tryd.prog W .any 0 u v := fun u v e => by
    subst e
    exact (hrows 1 0 (by simp [MemPlace.row])).2 u v (by simpa using World.var?_cell hg1 hv1 0)
  have ok2 : ∀ u v, l2 = [.iface u v] → Value.okWide Tryd.prog W .any 0 u v := fun u v e => by
    subst e
    exact (hrows 2 0 (by simp [MemPlace.row])).2 u v (by simpa using World.var?_cell hg2 hv2 0)
  have ok3 : ∀ u v, l3 = [.iface u v] → Value.okWide Tryd.prog W .any 0 u v := fun u v e => by
    subst e
    exact (hrows 3 0 (by simp [MemPlace.row])).2 u v (by simpa using World.var?_cell hg3 hv3 0)
  have ok4 : ∀ u v, l4 = [.iface u v] → Value.okWide Tryd.prog W .any 0 u v := fun u v e => by
    subst e
    exact (hrows 4 0 (by simp [MemPlace.row])).2 u v (by simpa using World.var?_cell hg4 hv4 0)
  have ok5 : ∀ u v, l5 = [.iface u v] → Value.okWide Tryd.prog W .any 0 u v := fun u v e => by
    subst e
    exact (hrows 5 0 (by simp [MemPlace.row])).2 u v (by simpa using World.var?_cell hg5 hv5 0)
  have cE : Tryd.prog.cellsOf 117 = 1 := by kernel_rfl
  have cS : Tryd.prog.cellsOf 9 = 1 := by kernel_rfl
  obtain ⟨a1, s1, rfl, -, -, -, rfl⟩ := errorString_of_trod Tryd.underlying26 es_row Tryd.underlying97 Tryd.underlying117 rfl rfl Tryd.underlying9 cE cS hd1 ok1
  obtain ⟨a2, s2, rfl, -, -, -, rfl⟩ := errorString_of_trod Tryd.underlying26 es_row Tryd.underlying97 Tryd.underlying117 rfl rfl Tryd.underlying9 cE cS hd2 ok2
  obtain ⟨a3, s3, rfl, -, -, -, rfl⟩ := errorString_of_trod Tryd.underlying26 es_row Tryd.underlying97 Tryd.underlying117 rfl rfl Tryd.underlying9 cE cS hd3 ok3
  obtain ⟨a4, s4, rfl, -, -, -, rfl⟩ := errorString_of_trod Tryd.underlying26 es_row Tryd.underlying97 Tryd.underlying117 rfl rfl Tryd.underlying9 cE cS hd4 ok4
  obtain ⟨a5, s5, rfl, -, -, -, rfl⟩ := errorString_of_trod Tryd.underlying26 es_row Tryd.underlying97 Tryd.underlying117 rfl rfl Tryd.underlying9 cE cS hd5 ok5
  have r1 := (hrows a1.block a1.off (by simp [MemPlace.row])).1
  have r2 := (hrows a2.block a2.off (by simp [MemPlace.row])).1
  have r3 := (hrows a3.block a3.off (by simp [MemPlace.row])).1
  have r4 := (hrows a4.block a4.off (by simp [MemPlace.row])).1
  have r5 := (hrows a5.block a5.off (by simp [MemPlace.row])).1
  have n12 : a1 ≠ a2 := by rintro rfl; simp [MemPlace.row] at hnd
  have n13 : a1 ≠ a3 := by rintro rfl; simp [MemPlace.row] at hnd
  have n14 : a1 ≠ a4 := by rintro rfl; simp [MemPlace.row] at hnd
  have n15 : a1 ≠ a5 := by rintro rfl; simp [MemPlace.row] at hnd
  have n23 : a2 ≠ a3 := by rintro rfl; simp [MemPlace.row] at hnd
  have n24 : a2 ≠ a4 := by rintro rfl; simp [MemPlace.row] at hnd
  have n25 : a2 ≠ a5 := by rintro rfl; simp [MemPlace.row] at hnd
  have n34 : a3 ≠ a4 := by rintro rfl; simp [MemPlace.row] at hnd
  have n35 : a3 ≠ a5 := by rintro rfl; simp [MemPlace.row] at hnd
  have n45 : a4 ≠ a5 := by rintro rfl; simp [MemPlace.row] at hnd
  have v1 := World.var?_cell hg1 hv1 0
  have v2 := World.var?_cell hg2 hv2 0
  have v3 := World.var?_cell hg3 hv3 0
  have v4 := World.var?_cell hg4 hv4 0
  have v5 := World.var?_cell hg5 hv5 0
  clear hnd hrows hv1 hv2 hv3 hv4 hv5 hd1 hd2 hd3 hd4 hd5 ok1 ok2 ok3 ok4 ok5
  refine ⟨fun n => if n = 1 then a1 else if n = 2 then a2 else if n = 3 then a3 else if n = 4 then a4 else a5, by simpa using v1, by simpa using v2, by simpa using v3, by simpa using v4, by simpa using v5, ?_, ?_⟩
  · intro n h1 h5
    have : n = 1 ∨ n = 2 ∨ n = 3 ∨ n = 4 ∨ n = 5 := by omega
    rcases this with rfl | rfl | rfl | rfl | rfl <;> assumption
  · intro n m h1 h5 h1' h5' hne
    have en : n = 1 ∨ n = 2 ∨ n = 3 ∨ n = 4 ∨ n = 5 := by omega
    have em : m = 1 ∨ m = 2 ∨ m = 3 ∨ m = 4 ∨ m = 5 := by omega
    rcases en with rfl | rfl | rfl | rfl | rfl <;> rcases em with rfl | rfl | rfl | rfl | rfl <;> first | exact absurd rfl hne | assumption | (apply Ne.symm; assumption)

theorem gv_of_laid {W : World} (h : laidMetH Tryd.prog sixL W) : ∃ a, GV W a W.heap.size := by
  have h' : laidMet Tryd.prog fiveL W ∧ handlesMet Tryd.prog [("errors.errorType", Rows.laid_errors_errorType)] W := h
  obtain ⟨a, c1, c2, c3, c4, c5, hr, hn⟩ := five_of_laid h'.1
  have ct := handle_of_laid h'.2
  exact ⟨a, ct, c1, c2, c3, c4, c5, hr, hn, ⟨lt_of_cell ct, lt_of_cell c1, lt_of_cell c2, lt_of_cell c3, lt_of_cell c4, lt_of_cell c5⟩, fun n h1 h5 => by obtain ⟨c, t, hc⟩ := hr n h1 h5; exact (Array.getElem?_eq_some_iff.1 hc).1⟩

noncomputable def low : Nat := (World.holding Tryd.prog default ⟨#[], #[], []⟩).heap.size
def laySent (g n : Nat) (h : Array Obj) : Array Obj := h.modify g fun
  | .cells _ t frozen => .cells #[.iface 97 (.pointer (some ⟨n, 0, none⟩))] t frozen
  | o => o
noncomputable def laidWorld (os : Os) : World :=
  let w0 := World.holding Tryd.prog os ⟨#[.cells #[.string ⟨#[112, 114, 111, 116, 111, 99, 111, 108]⟩] 117, .cells #[.string ⟨#[97, 99, 99, 101, 115, 115]⟩] 117, .cells #[.string ⟨#[115, 105, 122, 101]⟩] 117, .cells #[.string ⟨#[118, 97, 108, 117, 101]⟩] 117, .cells #[.string ⟨#[100, 101, 118, 105, 99, 101]⟩] 117], #[], []⟩
  { w0 with heap := laySent 5 (low + 4) (laySent 4 (low + 3) (laySent 3 (low + 2) (laySent 2 (low + 1) (laySent 1 low (w0.heap.modify 0 fun
      | .cells _ t frozen => .cells #[rty 26] t frozen
      | o => o))))) }
theorem laidWorld_met (os : Os) (args : Array Value) : laidMetH Tryd.prog sixL ((laidWorld os).forCall (fun _ _ => 0) ⟨#[], args, []⟩).memory :=
  laidMetH_of_parts (laidMet_of_run' 8 (by kernel_rfl) (by kernel_rfl)) (by kernel_rfl)
end Go.Proofs.YtkhbcmkcjnnejaaDoor
