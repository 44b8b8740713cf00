/- errors.As, by its contracts, over the faults' own types. -/
import Derived.Test.YtehabbnohoomjaaGreatDoorNv03
import Derived.Test.YtehabbnohoomjaaGreatDoorNv04
import Derived.Test.YtehabbnohoomjaaGreatDoorChecked
import Derived.WalkKit
import Derived.LaidEql
import Derived.Stop.Asserts
namespace Go.Proofs.YtehabbnohoomjaaGreatDoor
section
set_option linter.unusedVariables false
set_option linter.unusedSimpArgs false
set_option linter.unnecessarySimpa false
open Go.RowKit Go.Extern.Stop Go.Stop Go.Extern
set_option maxRecDepth 20000
set_option maxHeartbeats 4000000

def hdl (t : TypeId) : Value := .pointer (some ⟨6, t, none⟩)
def rty (t : TypeId) : Value := .iface 238 (.agg #[hdl t])
def rvl (t : TypeId) (a : Addr) (k : Int) : Value := .agg #[hdl t, .pointer (some a), .int .u64 k]
/-! closed facts on types -/
theorem ty_link (v : Value) (w : World) : (Extern.ReflectliteType.typeOf #[.iface 183 v]).run Tryz.prog w = .ok (rty 183) w := by kernel_rfl
theorem ty_words (v : Value) (w : World) : (Extern.ReflectliteType.typeOf #[.iface 180 v]).run Tryz.prog w = .ok (rty 180) w := by kernel_rfl
theorem ty_str (v : Value) (w : World) : (Extern.ReflectliteType.typeOf #[.iface 279 v]).run Tryz.prog w = .ok (rty 279) w := by kernel_rfl
theorem m_kind (v : Value) (n : Nat) (w : World) : (Go.method (n + 1) 238 (.agg #[v]) "Kind").run Tryz.prog w = .ok (238, v) w := by kernel_rfl
theorem m_elem (v : Value) (n : Nat) (w : World) : (Go.method (n + 1) 238 (.agg #[v]) "Elem").run Tryz.prog w = .ok (252, .agg #[v]) w := by kernel_rfl
theorem m_impl (v : Value) (n : Nat) (w : World) : (Go.method (n + 1) 238 (.agg #[v]) "Implements").run Tryz.prog w = .ok (253, .agg #[v]) w := by kernel_rfl
theorem m_asg (v : Value) (n : Nat) (w : World) : (Go.method (n + 1) 238 (.agg #[v]) "AssignableTo").run Tryz.prog w = .ok (250, .agg #[v]) w := by kernel_rfl
theorem m_cmp (v : Value) (n : Nat) (w : World) : (Go.method (n + 1) 238 (.agg #[v]) "Comparable").run Tryz.prog w = .ok (251, .agg #[v]) w := by kernel_rfl
theorem m_unw (v : Value) (n : Nat) (w : World) : (Go.method (n + 1) 183 v "Unwrap").run Tryz.prog w = .ok (245, v) w := by kernel_rfl
theorem m_is (v : Value) (n : Nat) (w : World) : (Go.method (n + 1) 180 v "Is").run Tryz.prog w = .ok (243, v) w := by kernel_rfl
/-! what values' types tell -/
theorem vo_tl (a : Addr) (w : World) : (Extern.ReflectliteValue.unpack (.iface 185 (.pointer (some a)))).run Tryz.prog w = .ok (rvl 185 ⟨w.heap.size, 0, none⟩ 150) (w.alloc (.cells #[.pointer (some a)] 185)) := by kernel_rfl
theorem vo_link (a : Addr) (w : World) : (Extern.ReflectliteValue.unpack (.iface 183 (.pointer (some a)))).run Tryz.prog w = .ok (rvl 183 ⟨w.heap.size, 0, none⟩ 150) (w.alloc (.cells #[.pointer (some a)] 183)) := by kernel_rfl
def fType : Array Value → Sem Value := Extern.ReflectliteValue.methodAny (Extern.ReflectliteValue.valueError "reflectlite.Value.Type" 0) fun t _ _ _ => Extern.ReflectliteType.toType t
def fNil : Array Value → Sem Value := Extern.ReflectliteValue.method (Extern.ReflectliteValue.valueError "reflectlite.Value.IsNil" 0) Extern.ReflectliteValue.isNil
def fElem : Array Value → Sem Value := Extern.ReflectliteValue.method (Extern.ReflectliteValue.valueError "reflectlite.Value.Elem" 0) Extern.ReflectliteValue.elem
def fKind : Array Value → Sem Value := Extern.ReflectliteType.abiMethod fun t => do pure (.int .u8 (← Extern.Rtype.kind t))
def fImpl : Array Value → Sem Value := Extern.ReflectliteType.relation "Implements" Extern.ReflectliteType.implements_
def fAsg : Array Value → Sem Value := Extern.ReflectliteType.relation "AssignableTo" Extern.ReflectliteType.assignableTo
theorem vt_l (a : Addr) (w : World) : (fType #[rvl 185 a 150]).run Tryz.prog w = .ok (rty 185) w := by kernel_rfl
theorem kd_tl (w : World) : (fKind #[hdl 185]).run Tryz.prog w = .ok (.int .u8 22) w := by kernel_rfl
theorem kd_l (w : World) : (fKind #[hdl 183]).run Tryz.prog w = .ok (.int .u8 22) w := by kernel_rfl
theorem el_l (w : World) : (Extern.ReflectliteType.method Extern.ReflectliteType.elem #[.agg #[hdl 185]]).run Tryz.prog w = .ok (rty 183) w := by kernel_rfl
theorem im_l (w : World) : (fImpl #[.agg #[hdl 183], rty 143]).run Tryz.prog w = .ok (.bool true) w := by kernel_rfl
theorem as_ll (w : World) : (fAsg #[.agg #[hdl 183], rty 183]).run Tryz.prog w = .ok (.bool true) w := by kernel_rfl
theorem as_sl (w : World) : (fAsg #[.agg #[hdl 279], rty 183]).run Tryz.prog w = .ok (.bool false) w := by kernel_rfl
theorem as_wl (w : World) : (fAsg #[.agg #[hdl 180], rty 183]).run Tryz.prog w = .ok (.bool false) w := by kernel_rfl
theorem lv (a : Addr) (w : World) : (loadVar 185 a).run Tryz.prog w = (load a).run Tryz.prog w := by kernel_rfl
theorem lv_l (a : Addr) (w : World) : (loadVar 183 a).run Tryz.prog w = (load a).run Tryz.prog w := by kernel_rfl
theorem eq_l (w : World) : (Extern.Rtype.elem? 185).run Tryz.prog w = .ok (some 183) w := by kernel_rfl
theorem mk_l (a : Addr) (w : World) : (Extern.ReflectliteValue.mk 183 a Extern.ReflectliteValue.flagAddr).run Tryz.prog w = .ok (rvl 183 a 406) w := by kernel_rfl
theorem da_l (w : World) : (Extern.Rtype.directlyAssignable 183 183).run Tryz.prog w = .ok true w := by kernel_rfl
theorem pa_l (a : Addr) (w : World) : (Extern.ReflectliteValue.parts (rvl 185 a 150)).run Tryz.prog w = .ok (some (185, a, 150)) w := by kernel_rfl
theorem pb_l (a : Addr) (w : World) : (Extern.ReflectliteValue.parts (rvl 183 a 150)).run Tryz.prog w = .ok (some (183, a, 150)) w := by kernel_rfl
theorem pc_l (a : Addr) (w : World) : (Extern.ReflectliteValue.parts (rvl 183 a 406)).run Tryz.prog w = .ok (some (183, a, 406)) w := by kernel_rfl
theorem nil_l (a b : Addr) (w : World) (h : w.cell? a = some (.pointer (some b))) : (fNil #[rvl 185 a 150]).run Tryz.prog w = .ok (.bool false) w := by
  show (Extern.ReflectliteValue.parts (rvl 185 a 150) >>= fun x => match x with | none => Extern.ReflectliteValue.valueError "reflectlite.Value.IsNil" 0 | some (t, a, fl) => Extern.ReflectliteValue.isNil t a fl (fl % 32)).run Tryz.prog w = _
  simp [pa_l, Extern.ReflectliteValue.isNil, lv, h]
theorem elem_l (a b : Addr) (w : World) (h : w.cell? a = some (.pointer (some b))) : (fElem #[rvl 185 a 150]).run Tryz.prog w = .ok (rvl 183 b 406) w := by
  show (Extern.ReflectliteValue.parts (rvl 185 a 150) >>= fun x => match x with | none => Extern.ReflectliteValue.valueError "reflectlite.Value.Elem" 0 | some (t, a, fl) => Extern.ReflectliteValue.elem t a fl (fl % 32)).run Tryz.prog w = _
  simp [pa_l, Extern.ReflectliteValue.elem, lv, eq_l, h, mk_l]
theorem sz_l : (Tryz.prog.info? 183).map (·.size) = some 1 := by kernel_rfl
theorem sv_one {t : TypeId} {b : Addr} {w : World} {v u : Value} (hi : (Tryz.prog.info? t).map (·.size) = some 1) (hc : w.cell? b = some u) (hf : w.frozen? b = false) (h1 : v.oneCell' = true) : (storeVar t b v).run Tryz.prog w = .ok () (w.setCell b v) := by
  have hvc : v.cells = #[v] := by cases v <;> first | rfl | cases h1
  have hadd : b.add 0 = b := by unfold Addr.add; split <;> simp_all
  have hst : (store (b.add 0) v).run Tryz.prog w = .ok () (w.setCell b v) := by
    rw [hadd, run_store Tryz.prog w b v _ h1, hc]
    simp [hf]
  cases hq : Tryz.prog.info? t with
  | none => simp [hq] at hi
  | some i =>
    have hs : i.size = 1 := by simpa [hq] using hi
    simp [storeVar, sizeOf, typeInfo, hq, hvc, hs, storeCells, hst]
theorem set_l (a b : Addr) (w : World) (v u : Value) (h : w.cell? a = some v) (hb : w.cell? b = some u) (hf : w.frozen? b = false) (h1 : v.oneCell' = true) : (Extern.ReflectliteValue.set #[rvl 183 b 406, rvl 183 a 150]).run Tryz.prog w = .ok (.tuple #[]) (w.setCell b v) := by
  have hs := sv_one sz_l hb hf h1
  refine (show (Bind.bind (Extern.ReflectliteValue.parts (rvl 183 b 406)) _).run Tryz.prog w = _ from ?_)
  rw [Sem.run_bind, pc_l, Result.andThen_ok]
  refine (show (Bind.bind (Extern.ReflectliteValue.parts (rvl 183 a 150)) _).run Tryz.prog w = _ from ?_)
  rw [Sem.run_bind, pb_l, Result.andThen_ok]
  simp [lv_l, h, Extern.ReflectliteValue.flagAddr, da_l, hs]
end
end Go.Proofs.YtehabbnohoomjaaGreatDoor
