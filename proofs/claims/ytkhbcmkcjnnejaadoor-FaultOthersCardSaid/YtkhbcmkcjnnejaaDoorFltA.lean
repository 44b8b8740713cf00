/- errors.As, by its contracts, over the faults' own types. -/
import Derived.Test.YtkhbcmkcjnnejaaDoorSeat
import Derived.Test.YtkhbcmkcjnnejaaDoorOwnF
import Derived.Test.YtkhbcmkcjnnejaaDoorChecked
import Derived.WalkKit
import Derived.LaidEql
import Derived.Stop.Asserts
namespace Go.Proofs.YtkhbcmkcjnnejaaDoor
set_option linter.unusedVariables false
set_option linter.unusedSimpArgs false
set_option linter.unnecessarySimpa false
open Go.RowKit Go.Extern.Stop Go.Stop Go.Extern
set_option maxRecDepth 20000
set_option maxHeartbeats 4000000

def hdl (t : TypeId) : Value := .pointer (some ⟨6, t, none⟩)
def rty (t : TypeId) : Value := .iface 82 (.agg #[hdl t])
def rvl (t : TypeId) (a : Addr) (k : Int) : Value := .agg #[hdl t, .pointer (some a), .int .u64 k]
/-! closed facts on types -/
theorem ty_link (v : Value) (w : World) : (Extern.ReflectliteType.typeOf #[.iface 48 v]).run Tryd.prog w = .ok (rty 48) w := by kernel_rfl
theorem ty_words (v : Value) (w : World) : (Extern.ReflectliteType.typeOf #[.iface 61 v]).run Tryd.prog w = .ok (rty 61) w := by kernel_rfl
theorem ty_str (v : Value) (w : World) : (Extern.ReflectliteType.typeOf #[.iface 97 v]).run Tryd.prog w = .ok (rty 97) w := by kernel_rfl
theorem m_kind (v : Value) (n : Nat) (w : World) : (Go.method (n + 1) 82 (.agg #[v]) "Kind").run Tryd.prog w = .ok (61, v) w := by kernel_rfl
theorem m_elem (v : Value) (n : Nat) (w : World) : (Go.method (n + 1) 82 (.agg #[v]) "Elem").run Tryd.prog w = .ok (73, .agg #[v]) w := by kernel_rfl
theorem m_impl (v : Value) (n : Nat) (w : World) : (Go.method (n + 1) 82 (.agg #[v]) "Implements").run Tryd.prog w = .ok (74, .agg #[v]) w := by kernel_rfl
theorem m_asg (v : Value) (n : Nat) (w : World) : (Go.method (n + 1) 82 (.agg #[v]) "AssignableTo").run Tryd.prog w = .ok (71, .agg #[v]) w := by kernel_rfl
theorem m_cmp (v : Value) (n : Nat) (w : World) : (Go.method (n + 1) 82 (.agg #[v]) "Comparable").run Tryd.prog w = .ok (72, .agg #[v]) w := by kernel_rfl
theorem m_unw (v : Value) (n : Nat) (w : World) : (Go.method (n + 1) 48 v "Unwrap").run Tryd.prog w = .ok (64, v) w := by kernel_rfl
theorem m_is (v : Value) (n : Nat) (w : World) : (Go.method (n + 1) 61 v "Is").run Tryd.prog w = .ok (66, v) w := by kernel_rfl
/-! what values' types tell -/
theorem vo_tl (a : Addr) (w : World) : (Extern.ReflectliteValue.unpack (.iface 50 (.pointer (some a)))).run Tryd.prog w = .ok (rvl 50 ⟨w.heap.size, 0, none⟩ 150) (w.alloc (.cells #[.pointer (some a)] 50)) := by kernel_rfl
theorem vo_tw (a : Addr) (w : World) : (Extern.ReflectliteValue.unpack (.iface 80 (.pointer (some a)))).run Tryd.prog w = .ok (rvl 80 ⟨w.heap.size, 0, none⟩ 150) (w.alloc (.cells #[.pointer (some a)] 80)) := by kernel_rfl
theorem vo_link (a : Addr) (w : World) : (Extern.ReflectliteValue.unpack (.iface 48 (.pointer (some a)))).run Tryd.prog w = .ok (rvl 48 ⟨w.heap.size, 0, none⟩ 150) (w.alloc (.cells #[.pointer (some a)] 48)) := by kernel_rfl
theorem vo_words (a : Addr) (w : World) : (Extern.ReflectliteValue.unpack (.iface 61 (.pointer (some a)))).run Tryd.prog w = .ok (rvl 61 ⟨w.heap.size, 0, none⟩ 150) (w.alloc (.cells #[.pointer (some a)] 61)) := by kernel_rfl
def fType : Array Value → Sem Value := Extern.ReflectliteValue.methodAny (Extern.ReflectliteValue.valueError "reflectlite.Value.Type" 0) fun t _ _ _ => Extern.ReflectliteType.toType t
def fNil : Array Value → Sem Value := Extern.ReflectliteValue.method (Extern.ReflectliteValue.valueError "reflectlite.Value.IsNil" 0) Extern.ReflectliteValue.isNil
def fElem : Array Value → Sem Value := Extern.ReflectliteValue.method (Extern.ReflectliteValue.valueError "reflectlite.Value.Elem" 0) Extern.ReflectliteValue.elem
def fKind : Array Value → Sem Value := Extern.ReflectliteType.abiMethod fun t => do pure (.int .u8 (← Extern.Rtype.kind t))
def fImpl : Array Value → Sem Value := Extern.ReflectliteType.relation "Implements" Extern.ReflectliteType.implements_
def fAsg : Array Value → Sem Value := Extern.ReflectliteType.relation "AssignableTo" Extern.ReflectliteType.assignableTo
theorem vt_l (a : Addr) (w : World) : (fType #[rvl 50 a 150]).run Tryd.prog w = .ok (rty 50) w := by kernel_rfl
theorem vt_w (a : Addr) (w : World) : (fType #[rvl 80 a 150]).run Tryd.prog w = .ok (rty 80) w := by kernel_rfl
theorem kd_tl (w : World) : (fKind #[hdl 50]).run Tryd.prog w = .ok (.int .u8 22) w := by kernel_rfl
theorem kd_tw (w : World) : (fKind #[hdl 80]).run Tryd.prog w = .ok (.int .u8 22) w := by kernel_rfl
theorem kd_l (w : World) : (fKind #[hdl 48]).run Tryd.prog w = .ok (.int .u8 22) w := by kernel_rfl
theorem kd_w (w : World) : (fKind #[hdl 61]).run Tryd.prog w = .ok (.int .u8 22) w := by kernel_rfl
theorem el_l (w : World) : (Extern.ReflectliteType.method Extern.ReflectliteType.elem #[.agg #[hdl 50]]).run Tryd.prog w = .ok (rty 48) w := by kernel_rfl
theorem el_w (w : World) : (Extern.ReflectliteType.method Extern.ReflectliteType.elem #[.agg #[hdl 80]]).run Tryd.prog w = .ok (rty 61) w := by kernel_rfl
theorem im_l (w : World) : (fImpl #[.agg #[hdl 48], rty 26]).run Tryd.prog w = .ok (.bool true) w := by kernel_rfl
theorem im_w (w : World) : (fImpl #[.agg #[hdl 61], rty 26]).run Tryd.prog w = .ok (.bool true) w := by kernel_rfl
theorem as_ll (w : World) : (fAsg #[.agg #[hdl 48], rty 48]).run Tryd.prog w = .ok (.bool true) w := by kernel_rfl
theorem as_ww (w : World) : (fAsg #[.agg #[hdl 61], rty 61]).run Tryd.prog w = .ok (.bool true) w := by kernel_rfl
theorem as_sl (w : World) : (fAsg #[.agg #[hdl 97], rty 48]).run Tryd.prog w = .ok (.bool false) w := by kernel_rfl
theorem as_sw (w : World) : (fAsg #[.agg #[hdl 97], rty 61]).run Tryd.prog w = .ok (.bool false) w := by kernel_rfl
theorem as_wl (w : World) : (fAsg #[.agg #[hdl 61], rty 48]).run Tryd.prog w = .ok (.bool false) w := by kernel_rfl
theorem oh (w : World) : (Extern.Rtype.ofHandle (hdl 50)).run Tryd.prog w = .ok 50 w := by kernel_rfl
theorem oh_w (w : World) : (Extern.Rtype.ofHandle (hdl 80)).run Tryd.prog w = .ok 80 w := by kernel_rfl
theorem oh_l (w : World) : (Extern.Rtype.ofHandle (hdl 48)).run Tryd.prog w = .ok 48 w := by kernel_rfl
theorem oh_v (w : World) : (Extern.Rtype.ofHandle (hdl 61)).run Tryd.prog w = .ok 61 w := by kernel_rfl
theorem np (s : String) (w : World) : (Extern.Rtype.noPack s 50).run Tryd.prog w = .ok () w := by kernel_rfl
theorem np_w (s : String) (w : World) : (Extern.Rtype.noPack s 80).run Tryd.prog w = .ok () w := by kernel_rfl
theorem np_l (s : String) (w : World) : (Extern.Rtype.noPack s 48).run Tryd.prog w = .ok () w := by kernel_rfl
theorem np_v (s : String) (w : World) : (Extern.Rtype.noPack s 61).run Tryd.prog w = .ok () w := by kernel_rfl
theorem lv (a : Addr) (w : World) : (loadVar 50 a).run Tryd.prog w = (load a).run Tryd.prog w := by kernel_rfl
theorem lv_w (a : Addr) (w : World) : (loadVar 80 a).run Tryd.prog w = (load a).run Tryd.prog w := by kernel_rfl
theorem lv_l (a : Addr) (w : World) : (loadVar 48 a).run Tryd.prog w = (load a).run Tryd.prog w := by kernel_rfl
theorem lv_v (a : Addr) (w : World) : (loadVar 61 a).run Tryd.prog w = (load a).run Tryd.prog w := by kernel_rfl
theorem eq_l (w : World) : (Extern.Rtype.elem? 50).run Tryd.prog w = .ok (some 48) w := by kernel_rfl
theorem eq_w (w : World) : (Extern.Rtype.elem? 80).run Tryd.prog w = .ok (some 61) w := by kernel_rfl
theorem mk_l (a : Addr) (w : World) : (Extern.ReflectliteValue.mk 48 a Extern.ReflectliteValue.flagAddr).run Tryd.prog w = .ok (rvl 48 a 406) w := by kernel_rfl
theorem mk_w (a : Addr) (w : World) : (Extern.ReflectliteValue.mk 61 a Extern.ReflectliteValue.flagAddr).run Tryd.prog w = .ok (rvl 61 a 406) w := by kernel_rfl
theorem da_l (w : World) : (Extern.Rtype.directlyAssignable 48 48).run Tryd.prog w = .ok true w := by kernel_rfl
theorem da_w (w : World) : (Extern.Rtype.directlyAssignable 61 61).run Tryd.prog w = .ok true w := by kernel_rfl
theorem pa_l (a : Addr) (w : World) : (Extern.ReflectliteValue.parts (rvl 50 a 150)).run Tryd.prog w = .ok (some (50, a, 150)) w := by kernel_rfl
theorem pa_w (a : Addr) (w : World) : (Extern.ReflectliteValue.parts (rvl 80 a 150)).run Tryd.prog w = .ok (some (80, a, 150)) w := by kernel_rfl
theorem pb_l (a : Addr) (w : World) : (Extern.ReflectliteValue.parts (rvl 48 a 150)).run Tryd.prog w = .ok (some (48, a, 150)) w := by kernel_rfl
theorem pb_w (a : Addr) (w : World) : (Extern.ReflectliteValue.parts (rvl 61 a 150)).run Tryd.prog w = .ok (some (61, a, 150)) w := by kernel_rfl
theorem pc_l (a : Addr) (w : World) : (Extern.ReflectliteValue.parts (rvl 48 a 406)).run Tryd.prog w = .ok (some (48, a, 406)) w := by kernel_rfl
theorem pc_w (a : Addr) (w : World) : (Extern.ReflectliteValue.parts (rvl 61 a 406)).run Tryd.prog w = .ok (some (61, a, 406)) w := by kernel_rfl
theorem nil_l (a b : Addr) (w : World) (h : w.cell? a = some (.pointer (some b))) : (fNil #[rvl 50 a 150]).run Tryd.prog w = .ok (.bool false) w := by
  show (Extern.ReflectliteValue.parts (rvl 50 a 150) >>= fun x => match x with | none => Extern.ReflectliteValue.valueError "reflectlite.Value.IsNil" 0 | some (t, a, fl) => Extern.ReflectliteValue.isNil t a fl (fl % 32)).run Tryd.prog w = _
  simp [pa_l, Extern.ReflectliteValue.isNil, lv, h]
theorem nil_w (a b : Addr) (w : World) (h : w.cell? a = some (.pointer (some b))) : (fNil #[rvl 80 a 150]).run Tryd.prog w = .ok (.bool false) w := by
  show (Extern.ReflectliteValue.parts (rvl 80 a 150) >>= fun x => match x with | none => Extern.ReflectliteValue.valueError "reflectlite.Value.IsNil" 0 | some (t, a, fl) => Extern.ReflectliteValue.isNil t a fl (fl % 32)).run Tryd.prog w = _
  simp [pa_w, Extern.ReflectliteValue.isNil, lv_w, h]
theorem elem_l (a b : Addr) (w : World) (h : w.cell? a = some (.pointer (some b))) : (fElem #[rvl 50 a 150]).run Tryd.prog w = .ok (rvl 48 b 406) w := by
  show (Extern.ReflectliteValue.parts (rvl 50 a 150) >>= fun x => match x with | none => Extern.ReflectliteValue.valueError "reflectlite.Value.Elem" 0 | some (t, a, fl) => Extern.ReflectliteValue.elem t a fl (fl % 32)).run Tryd.prog w = _
  simp [pa_l, Extern.ReflectliteValue.elem, lv, eq_l, h, mk_l]
theorem elem_w (a b : Addr) (w : World) (h : w.cell? a = some (.pointer (some b))) : (fElem #[rvl 80 a 150]).run Tryd.prog w = .ok (rvl 61 b 406) w := by
  show (Extern.ReflectliteValue.parts (rvl 80 a 150) >>= fun x => match x with | none => Extern.ReflectliteValue.valueError "reflectlite.Value.Elem" 0 | some (t, a, fl) => Extern.ReflectliteValue.elem t a fl (fl % 32)).run Tryd.prog w = _
  simp [pa_w, Extern.ReflectliteValue.elem, lv_w, eq_w, h, mk_w]
theorem sz_l : (Tryd.prog.info? 48).map (·.size) = some 1 := by kernel_rfl
theorem sz_w : (Tryd.prog.info? 61).map (·.size) = some 1 := by kernel_rfl
theorem sv_one {t : TypeId} {b : Addr} {w : World} {v u : Value} (hi : (Tryd.prog.info? t).map (·.size) = some 1) (hc : w.cell? b = some u) (hf : w.frozen? b = false) (h1 : v.oneCell' = true) : (storeVar t b v).run Tryd.prog w = .ok () (w.setCell b v) := by
  have hvc : v.cells = #[v] := by cases v <;> first | rfl | cases h1
  have hadd : b.add 0 = b := by unfold Addr.add; split <;> simp_all
  have hst : (store (b.add 0) v).run Tryd.prog w = .ok () (w.setCell b v) := by
    rw [hadd, run_store Tryd.prog w b v _ h1, hc]
    simp [hf]
  cases hq : Tryd.prog.info? t with
  | none => simp [hq] at hi
  | some i =>
    have hs : i.size = 1 := by simpa [hq] using hi
    simp [storeVar, sizeOf, typeInfo, hq, hvc, hs, storeCells, hst]
theorem set_l (a b : Addr) (w : World) (v u : Value) (h : w.cell? a = some v) (hb : w.cell? b = some u) (hf : w.frozen? b = false) (h1 : v.oneCell' = true) : (Extern.ReflectliteValue.set #[rvl 48 b 406, rvl 48 a 150]).run Tryd.prog w = .ok (.tuple #[]) (w.setCell b v) := by
  have hs := sv_one sz_l hb hf h1
  refine (show (Bind.bind (Extern.ReflectliteValue.parts (rvl 48 b 406)) _).run Tryd.prog w = _ from ?_)
  rw [Sem.run_bind, pc_l, Result.andThen_ok]
  refine (show (Bind.bind (Extern.ReflectliteValue.parts (rvl 48 a 150)) _).run Tryd.prog w = _ from ?_)
  rw [Sem.run_bind, pb_l, Result.andThen_ok]
  simp [lv_l, h, Extern.ReflectliteValue.flagAddr, da_l, hs]
theorem set_w (a b : Addr) (w : World) (v u : Value) (h : w.cell? a = some v) (hb : w.cell? b = some u) (hf : w.frozen? b = false) (h1 : v.oneCell' = true) : (Extern.ReflectliteValue.set #[rvl 61 b 406, rvl 61 a 150]).run Tryd.prog w = .ok (.tuple #[]) (w.setCell b v) := by
  have hs := sv_one sz_w hb hf h1
  refine (show (Bind.bind (Extern.ReflectliteValue.parts (rvl 61 b 406)) _).run Tryd.prog w = _ from ?_)
  rw [Sem.run_bind, pc_w, Result.andThen_ok]
  refine (show (Bind.bind (Extern.ReflectliteValue.parts (rvl 61 a 150)) _).run Tryd.prog w = _ from ?_)
  rw [Sem.run_bind, pb_w, Result.andThen_ok]
  simp [lv_v, h, Extern.ReflectliteValue.flagAddr, da_w, hs]
end Go.Proofs.YtkhbcmkcjnnejaaDoor
