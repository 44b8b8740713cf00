/- errors.As and errors.as: contracts. -/
import Derived.Test.YtkhbcmkcjnnejaaDoorFltA
namespace Go.Proofs.YtkhbcmkcjnnejaaDoor
set_option linter.unusedVariables false
set_option linter.unusedSimpArgs false
set_option linter.unnecessarySimpa false
open Go.RowKit Go.Extern.Stop Go.Stop Go.Extern
set_option maxRecDepth 20000
set_option maxHeartbeats 4000000

/-! the externs, called -/
theorem cf_vo (t : TypeId) (a : Addr) (r : Value) (w : World) (h : (Extern.ReflectliteValue.unpack (.iface t (.pointer (some a)))).run Tryd.prog w = .ok r (w.alloc (.cells #[.pointer (some a)] t))) : (callFunc 37 #[.iface t (.pointer (some a))]).run Tryd.prog w = .ok (.value r) (w.alloc (.cells #[.pointer (some a)] t)) := by
  rw [run_callFunc_extern (e := fun args => Extern.ReflectliteValue.unpack (args.getD 0 (.tuple #[]))) Tryd.func37 (by kernel_rfl) (by kernel_rfl) (by kernel_rfl) (by kernel_rfl)]
  show ((Extern.ReflectliteValue.unpack (.iface t (.pointer (some a)))).run Tryd.prog w).andThen _ = _
  rw [h]
  rfl
theorem cf_type (r x : Value) (w : World) (h : (fType #[x]).run Tryd.prog w = .ok r w) : (callFunc 38 #[x]).run Tryd.prog w = .ok (.value r) w := by
  rw [run_callFunc_extern (e := fType) Tryd.func38 (by kernel_rfl) (by kernel_rfl) (by kernel_rfl) (by kernel_rfl), h]
  rfl
theorem cf_nil (r x : Value) (w : World) (h : (fNil #[x]).run Tryd.prog w = .ok r w) : (callFunc 39 #[x]).run Tryd.prog w = .ok (.value r) w := by
  rw [run_callFunc_extern (e := fNil) Tryd.func39 (by kernel_rfl) (by kernel_rfl) (by kernel_rfl) (by kernel_rfl), h]
  rfl
theorem cf_elemv (r x : Value) (w : World) (h : (fElem #[x]).run Tryd.prog w = .ok r w) : (callFunc 45 #[x]).run Tryd.prog w = .ok (.value r) w := by
  rw [run_callFunc_extern (e := fElem) Tryd.func45 (by kernel_rfl) (by kernel_rfl) (by kernel_rfl) (by kernel_rfl), h]
  rfl
theorem cf_kind (r x : Value) (w : World) (h : (fKind #[x]).run Tryd.prog w = .ok r w) : (callFunc 61 #[x]).run Tryd.prog w = .ok (.value r) w := by
  rw [run_callFunc_extern (e := fKind) Tryd.func61 (by kernel_rfl) (by kernel_rfl) (by kernel_rfl) (by kernel_rfl), h]
  rfl
theorem cf_elem (r x : Value) (w : World) (h : (Extern.ReflectliteType.method Extern.ReflectliteType.elem #[x]).run Tryd.prog w = .ok r w) : (callFunc 73 #[x]).run Tryd.prog w = .ok (.value r) w := by
  rw [run_callFunc_extern (e := Extern.ReflectliteType.method Extern.ReflectliteType.elem) Tryd.func73 (by kernel_rfl) (by kernel_rfl) (by kernel_rfl) (by kernel_rfl), h]
  rfl
theorem cf_impl (r x y : Value) (w : World) (h : (fImpl #[x, y]).run Tryd.prog w = .ok r w) : (callFunc 74 #[x, y]).run Tryd.prog w = .ok (.value r) w := by
  rw [run_callFunc_extern (e := fImpl) Tryd.func74 (by kernel_rfl) (by kernel_rfl) (by kernel_rfl) (by kernel_rfl), h]
  rfl
theorem cf_asg (r x y : Value) (w : World) (h : (fAsg #[x, y]).run Tryd.prog w = .ok r w) : (callFunc 71 #[x, y]).run Tryd.prog w = .ok (.value r) w := by
  rw [run_callFunc_extern (e := fAsg) Tryd.func71 (by kernel_rfl) (by kernel_rfl) (by kernel_rfl) (by kernel_rfl), h]
  rfl
theorem cf_typeof (r x : Value) (w : World) (h : (Extern.ReflectliteType.typeOf #[x]).run Tryd.prog w = .ok r w) : (callFunc 41 #[x]).run Tryd.prog w = .ok (.value r) w := by
  rw [run_callFunc_extern (e := Extern.ReflectliteType.typeOf) Tryd.func41 (by kernel_rfl) (by kernel_rfl) (by kernel_rfl) (by kernel_rfl), h]
  rfl
theorem cf_set (x y : Value) (w w' : World) (h : (Extern.ReflectliteValue.set #[x, y]).run Tryd.prog w = .ok (.tuple #[]) w') : (callFunc 46 #[x, y]).run Tryd.prog w = .ok (.value (.tuple #[])) w' := by
  rw [run_callFunc_extern (e := Extern.ReflectliteValue.set) Tryd.func46 (by kernel_rfl) (by kernel_rfl) (by kernel_rfl) (by kernel_rfl), h]
  rfl
/-! what the assertions find -/
theorem ta_str_as (v : Value) (xT : TypeId) (w : World) : (Instr.typeAssert (.iface 97 v) xT 86 true).run Tryd.prog w = .ok (.tuple #[.nilIface, .bool false]) w := run_typeAssert_lacksB Tryd.underlying86 (by kernel_rfl) (by kernel_rfl) v xT w
theorem ta_str_u (v : Value) (xT : TypeId) (w : World) : (Instr.typeAssert (.iface 97 v) xT 89 true).run Tryd.prog w = .ok (.tuple #[.nilIface, .bool false]) w := run_typeAssert_lacksB Tryd.underlying89 (by kernel_rfl) (by kernel_rfl) v xT w
theorem ta_str_us (v : Value) (xT : TypeId) (w : World) : (Instr.typeAssert (.iface 97 v) xT 91 true).run Tryd.prog w = .ok (.tuple #[.nilIface, .bool false]) w := run_typeAssert_lacksB Tryd.underlying91 (by kernel_rfl) (by kernel_rfl) v xT w
theorem ta_str_is (v : Value) (xT : TypeId) (w : World) : (Instr.typeAssert (.iface 97 v) xT 94 true).run Tryd.prog w = .ok (.tuple #[.nilIface, .bool false]) w := run_typeAssert_lacksB Tryd.underlying94 (by kernel_rfl) (by kernel_rfl) v xT w
theorem ta_wrd_as (v : Value) (xT : TypeId) (w : World) : (Instr.typeAssert (.iface 61 v) xT 86 true).run Tryd.prog w = .ok (.tuple #[.nilIface, .bool false]) w := run_typeAssert_lacksB Tryd.underlying86 (by kernel_rfl) (by kernel_rfl) v xT w
theorem ta_wrd_u (v : Value) (xT : TypeId) (w : World) : (Instr.typeAssert (.iface 61 v) xT 89 true).run Tryd.prog w = .ok (.tuple #[.nilIface, .bool false]) w := run_typeAssert_lacksB Tryd.underlying89 (by kernel_rfl) (by kernel_rfl) v xT w
theorem ta_wrd_us (v : Value) (xT : TypeId) (w : World) : (Instr.typeAssert (.iface 61 v) xT 91 true).run Tryd.prog w = .ok (.tuple #[.nilIface, .bool false]) w := run_typeAssert_lacksB Tryd.underlying91 (by kernel_rfl) (by kernel_rfl) v xT w
theorem ta_wrd_is (v : Value) (xT : TypeId) (w : World) : (Instr.typeAssert (.iface 61 v) xT 94 true).run Tryd.prog w = .ok (.tuple #[.iface 61 v, .bool true]) w := run_typeAssert_hasB Tryd.underlying94 (by kernel_rfl) v xT w
theorem ta_lnk_is (v : Value) (xT : TypeId) (w : World) : (Instr.typeAssert (.iface 48 v) xT 94 true).run Tryd.prog w = .ok (.tuple #[.nilIface, .bool false]) w := run_typeAssert_lacksB Tryd.underlying94 (by kernel_rfl) (by kernel_rfl) v xT w
theorem ta_lnk_u (v : Value) (xT : TypeId) (w : World) : (Instr.typeAssert (.iface 48 v) xT 89 true).run Tryd.prog w = .ok (.tuple #[.iface 48 v, .bool true]) w := run_typeAssert_hasB Tryd.underlying89 (by kernel_rfl) v xT w
/-! errors.as -/
theorem as_link (g b : Nat) (a : Nat) (v0 : Value) (w : World) (hB : Blk w b 48 #[v0]) (hA : w.cell? ⟨a, 0, none⟩ = some (.pointer (some ⟨b, 0, none⟩))) :
    Calls Tryd.prog 40 #[.iface 48 (.pointer (some ⟨g, 0, none⟩)), .iface 50 (.pointer (some ⟨b, 0, none⟩)), rvl 50 ⟨a, 0, none⟩ 150, rty 48] w fun e w' => e = .returned (.bool true) ∧ Blk w' b 48 #[.pointer (some ⟨g, 0, none⟩)] ∧ Only (fun k => k = b) w w' := by
  have za := lt_of_cell hA
  have zb := hB.lt
  have kk := blk_two w 67 48 #[hdl 50, .pointer (some ⟨a, 0, none⟩), .int .u64 150] #[.pointer (some ⟨g, 0, none⟩)]
  have t1 := fun w => cf_typeof _ _ _ (ty_link (.pointer (some ⟨g, 0, none⟩)) w)
  have m1 := m_asg (hdl 48)
  have a1 := fun w => cf_asg _ _ _ w (as_ll w)
  have hbA := below_alloc (Below.refl w.heap.size w) (.cells #[hdl 50, .pointer (some ⟨a, 0, none⟩), .int .u64 150] 67)
  have e1 := cf_elemv _ _ _ (elem_l ⟨a, 0, none⟩ ⟨b, 0, none⟩ _ ((hbA.cell za).trans hA))
  have v1 := fun w => cf_vo _ _ _ w (vo_link ⟨g, 0, none⟩ w)
  have hB2 := (hB.alloc (.cells #[hdl 50, .pointer (some ⟨a, 0, none⟩), .int .u64 150] 67)).alloc (.cells #[.pointer (some ⟨g, 0, none⟩)] 48)
  have s1 := cf_set _ _ _ _ (set_l ⟨w.heap.size + 1, 0, none⟩ ⟨b, 0, none⟩ _ (.pointer (some ⟨g, 0, none⟩)) v0 (kk.2.cell 0 rfl) (hB2.cell 0 rfl) (hB2.frozen 0) rfl)
  have HB2 : Hid (Blk (((w.setCell ⟨b, 0, none⟩ (.pointer (some ⟨g, 0, none⟩))).alloc (.cells #[hdl 50, .pointer (some ⟨a, 0, none⟩), .int .u64 150] 67)).alloc (.cells #[.pointer (some ⟨g, 0, none⟩)] 48)) b 48 #[.pointer (some ⟨g, 0, none⟩)]) := hide (((hB.set_ 0 (.pointer (some ⟨g, 0, none⟩))).alloc _).alloc _)
  have HON : Hid (Only (fun k => k = b) w (((w.setCell ⟨b, 0, none⟩ (.pointer (some ⟨g, 0, none⟩))).alloc (.cells #[hdl 50, .pointer (some ⟨a, 0, none⟩), .int .u64 150] 67)).alloc (.cells #[.pointer (some ⟨g, 0, none⟩)] 48))) := hide (((Only.set (fun k => k = b) (Only.refl _ _) rfl _).new _).new _)
  simp only [rvl, rty, hdl] at t1 m1 a1 e1 v1 s1 HON HB2 ⊢
  clear hB kk hbA hB2 hA
  go_enter Tryd.func40, Tryd.ntmps40
  go_wp2_with fail
  refine wp_loop_rounds 1 ?_
  rw [rounds_succ]
  go_wp2_with fail
  go_ret
  exact ⟨rfl, HB2.out, HON.out⟩
theorem as_words (g b : Nat) (a : Nat) (v0 : Value) (w : World) (hB : Blk w b 61 #[v0]) (hA : w.cell? ⟨a, 0, none⟩ = some (.pointer (some ⟨b, 0, none⟩))) :
    Calls Tryd.prog 40 #[.iface 61 (.pointer (some ⟨g, 0, none⟩)), .iface 80 (.pointer (some ⟨b, 0, none⟩)), rvl 80 ⟨a, 0, none⟩ 150, rty 61] w fun e w' => e = .returned (.bool true) ∧ Blk w' b 61 #[.pointer (some ⟨g, 0, none⟩)] ∧ Only (fun k => k = b) w w' := by
  have za := lt_of_cell hA
  have zb := hB.lt
  have kk := blk_two w 67 61 #[hdl 80, .pointer (some ⟨a, 0, none⟩), .int .u64 150] #[.pointer (some ⟨g, 0, none⟩)]
  have t1 := fun w => cf_typeof _ _ _ (ty_words (.pointer (some ⟨g, 0, none⟩)) w)
  have m1 := m_asg (hdl 61)
  have a1 := fun w => cf_asg _ _ _ w (as_ww w)
  have hbA := below_alloc (Below.refl w.heap.size w) (.cells #[hdl 80, .pointer (some ⟨a, 0, none⟩), .int .u64 150] 67)
  have e1 := cf_elemv _ _ _ (elem_w ⟨a, 0, none⟩ ⟨b, 0, none⟩ _ ((hbA.cell za).trans hA))
  have v1 := fun w => cf_vo _ _ _ w (vo_words ⟨g, 0, none⟩ w)
  have hB2 := (hB.alloc (.cells #[hdl 80, .pointer (some ⟨a, 0, none⟩), .int .u64 150] 67)).alloc (.cells #[.pointer (some ⟨g, 0, none⟩)] 61)
  have s1 := cf_set _ _ _ _ (set_w ⟨w.heap.size + 1, 0, none⟩ ⟨b, 0, none⟩ _ (.pointer (some ⟨g, 0, none⟩)) v0 (kk.2.cell 0 rfl) (hB2.cell 0 rfl) (hB2.frozen 0) rfl)
  have HB2 : Hid (Blk (((w.setCell ⟨b, 0, none⟩ (.pointer (some ⟨g, 0, none⟩))).alloc (.cells #[hdl 80, .pointer (some ⟨a, 0, none⟩), .int .u64 150] 67)).alloc (.cells #[.pointer (some ⟨g, 0, none⟩)] 61)) b 61 #[.pointer (some ⟨g, 0, none⟩)]) := hide (((hB.set_ 0 (.pointer (some ⟨g, 0, none⟩))).alloc _).alloc _)
  have HON : Hid (Only (fun k => k = b) w (((w.setCell ⟨b, 0, none⟩ (.pointer (some ⟨g, 0, none⟩))).alloc (.cells #[hdl 80, .pointer (some ⟨a, 0, none⟩), .int .u64 150] 67)).alloc (.cells #[.pointer (some ⟨g, 0, none⟩)] 61))) := hide (((Only.set (fun k => k = b) (Only.refl _ _) rfl _).new _).new _)
  simp only [rvl, rty, hdl] at t1 m1 a1 e1 v1 s1 HON HB2 ⊢
  clear hB kk hbA hB2 hA
  go_enter Tryd.func40, Tryd.ntmps40
  go_wp2_with fail
  refine wp_loop_rounds 1 ?_
  rw [rounds_succ]
  go_wp2_with fail
  go_ret
  exact ⟨rfl, HB2.out, HON.out⟩
theorem as_str_l (p : Addr) (b : Addr) (a : Nat) (w : World) :
    Calls Tryd.prog 40 #[.iface 97 (.pointer (some p)), .iface 50 (.pointer (some b)), rvl 50 ⟨a, 0, none⟩ 150, rty 48] w fun e w' => e = .returned (.bool false) ∧ Below w.heap.size w w' := by
  have t1 := fun w => cf_typeof _ _ _ (ty_str (.pointer (some p)) w)
  have m1 := m_asg (hdl 97)
  have a1 := fun w => cf_asg _ _ _ w (as_sl w)
  have HB := hide (below_alloc (Below.refl w.heap.size w) (.cells #[hdl 50, .pointer (some ⟨a, 0, none⟩), .int .u64 150] 67))
  have x1 := fun xT w => ta_str_as (.pointer (some p)) xT w
  have x2 := fun xT w => ta_str_u (.pointer (some p)) xT w
  have x3 := fun xT w => ta_str_us (.pointer (some p)) xT w
  simp only [rvl, rty, hdl] at t1 m1 a1 HB ⊢
  go_enter Tryd.func40, Tryd.ntmps40
  go_wp2_with fail
  refine wp_loop_rounds 1 ?_
  rw [rounds_succ]
  go_wp2_with fail
  go_ret
  exact ⟨rfl, HB.out⟩
theorem as_str_w (p : Addr) (b : Addr) (a : Nat) (w : World) :
    Calls Tryd.prog 40 #[.iface 97 (.pointer (some p)), .iface 80 (.pointer (some b)), rvl 80 ⟨a, 0, none⟩ 150, rty 61] w fun e w' => e = .returned (.bool false) ∧ Below w.heap.size w w' := by
  have t1 := fun w => cf_typeof _ _ _ (ty_str (.pointer (some p)) w)
  have m1 := m_asg (hdl 97)
  have a1 := fun w => cf_asg _ _ _ w (as_sw w)
  have HB := hide (below_alloc (Below.refl w.heap.size w) (.cells #[hdl 80, .pointer (some ⟨a, 0, none⟩), .int .u64 150] 67))
  have x1 := fun xT w => ta_str_as (.pointer (some p)) xT w
  have x2 := fun xT w => ta_str_u (.pointer (some p)) xT w
  have x3 := fun xT w => ta_str_us (.pointer (some p)) xT w
  simp only [rvl, rty, hdl] at t1 m1 a1 HB ⊢
  go_enter Tryd.func40, Tryd.ntmps40
  go_wp2_with fail
  refine wp_loop_rounds 1 ?_
  rw [rounds_succ]
  go_wp2_with fail
  go_ret
  exact ⟨rfl, HB.out⟩
theorem as_wrd_l (p : Addr) (b : Addr) (a : Nat) (w : World) :
    Calls Tryd.prog 40 #[.iface 61 (.pointer (some p)), .iface 50 (.pointer (some b)), rvl 50 ⟨a, 0, none⟩ 150, rty 48] w fun e w' => e = .returned (.bool false) ∧ Below w.heap.size w w' := by
  have t1 := fun w => cf_typeof _ _ _ (ty_words (.pointer (some p)) w)
  have m1 := m_asg (hdl 61)
  have a1 := fun w => cf_asg _ _ _ w (as_wl w)
  have HB := hide (below_alloc (Below.refl w.heap.size w) (.cells #[hdl 50, .pointer (some ⟨a, 0, none⟩), .int .u64 150] 67))
  have x1 := fun xT w => ta_wrd_as (.pointer (some p)) xT w
  have x2 := fun xT w => ta_wrd_u (.pointer (some p)) xT w
  have x3 := fun xT w => ta_wrd_us (.pointer (some p)) xT w
  simp only [rvl, rty, hdl] at t1 m1 a1 HB ⊢
  go_enter Tryd.func40, Tryd.ntmps40
  go_wp2_with fail
  refine wp_loop_rounds 1 ?_
  rw [rounds_succ]
  go_wp2_with fail
  go_ret
  exact ⟨rfl, HB.out⟩
/-! errors.As -/
theorem eAs_nil (v : Value) (w : World) : Calls Tryd.prog 28 #[.nilIface, v] w fun e w' => e = .returned (.bool false) ∧ w = w' := by
  go_enter Tryd.func28, Tryd.ntmps28
  go_wp2_with fail
  go_ret
  exact ⟨rfl, rfl⟩
theorem eAs_link (g b : Nat) (v0 : Value) (w : World) (hB : Blk w b 48 #[v0]) (hG : w.cell? ⟨0, 0, none⟩ = some (rty 26)) :
    Calls Tryd.prog 28 #[.iface 48 (.pointer (some ⟨g, 0, none⟩)), .iface 50 (.pointer (some ⟨b, 0, none⟩))] w fun e w' => e = .returned (.bool true) ∧ Blk w' b 48 #[.pointer (some ⟨g, 0, none⟩)] ∧ Only (fun k => k = b) w w' := by
  have kk := blk_two w 50 67 #[.pointer (some ⟨b, 0, none⟩)] #[hdl 50, .pointer (some ⟨w.heap.size, 0, none⟩), .int .u64 150]
  have hb2 := below_alloc (below_alloc (Below.refl w.heap.size w) (.cells #[.pointer (some ⟨b, 0, none⟩)] 50)) (.cells #[hdl 50, .pointer (some ⟨w.heap.size, 0, none⟩), .int .u64 150] 67)
  have zG := lt_of_cell hG
  have hG2 := (hb2.cell zG).trans hG
  have v1 := fun w => cf_vo _ _ _ w (vo_tl ⟨b, 0, none⟩ w)
  have y1 := fun a w => cf_type _ _ w (vt_l a w)
  have k1 := fun w => cf_kind _ _ w (kd_tl w)
  have k2 := fun w => cf_kind _ _ w (kd_l w)
  have m1 := m_kind (hdl 50)
  have m2 := m_kind (hdl 48)
  have m3 := m_elem (hdl 50)
  have m4 := m_impl (hdl 48)
  have n1 := cf_nil _ _ _ (nil_l ⟨w.heap.size, 0, none⟩ ⟨b, 0, none⟩ _ (kk.1.cell 0 rfl))
  have l1 := fun w => cf_elem _ _ w (el_l w)
  have i1 := fun w => cf_impl _ _ _ w (im_l w)
  have hAS := as_link g b w.heap.size v0 _ ((hB.alloc (.cells #[.pointer (some ⟨b, 0, none⟩)] 50)).alloc (.cells #[hdl 50, .pointer (some ⟨w.heap.size, 0, none⟩), .int .u64 150] 67)) (kk.1.cell 0 rfl)
  simp only [rvl, rty, hdl] at v1 y1 k1 k2 m1 m2 m3 m4 n1 l1 i1 hG2 hAS hb2 ⊢
  have HAS := hide hAS
  have HB := hide hb2
  clear hB kk hb2 hG hAS
  go_enter Tryd.func28, Tryd.ntmps28
  go_wp2_with fail
  refine HAS.out.mono ?_
  rintro e w' ⟨rfl, h1, h2⟩
  have HH := hide (And.intro h1 h2)
  clear h1 h2
  go_wp2_with fail
  go_ret
  exact ⟨rfl, HH.out.1, (Only.of_below (F := fun k => k = b) HB.out).trans HH.out.2 (fun _ _ h => h)⟩
theorem eAs_words (g b : Nat) (v0 : Value) (w : World) (hB : Blk w b 61 #[v0]) (hG : w.cell? ⟨0, 0, none⟩ = some (rty 26)) :
    Calls Tryd.prog 28 #[.iface 61 (.pointer (some ⟨g, 0, none⟩)), .iface 80 (.pointer (some ⟨b, 0, none⟩))] w fun e w' => e = .returned (.bool true) ∧ Blk w' b 61 #[.pointer (some ⟨g, 0, none⟩)] ∧ Only (fun k => k = b) w w' := by
  have kk := blk_two w 80 67 #[.pointer (some ⟨b, 0, none⟩)] #[hdl 80, .pointer (some ⟨w.heap.size, 0, none⟩), .int .u64 150]
  have hb2 := below_alloc (below_alloc (Below.refl w.heap.size w) (.cells #[.pointer (some ⟨b, 0, none⟩)] 80)) (.cells #[hdl 80, .pointer (some ⟨w.heap.size, 0, none⟩), .int .u64 150] 67)
  have zG := lt_of_cell hG
  have hG2 := (hb2.cell zG).trans hG
  have v1 := fun w => cf_vo _ _ _ w (vo_tw ⟨b, 0, none⟩ w)
  have y1 := fun a w => cf_type _ _ w (vt_w a w)
  have k1 := fun w => cf_kind _ _ w (kd_tw w)
  have k2 := fun w => cf_kind _ _ w (kd_w w)
  have m1 := m_kind (hdl 80)
  have m2 := m_kind (hdl 61)
  have m3 := m_elem (hdl 80)
  have m4 := m_impl (hdl 61)
  have n1 := cf_nil _ _ _ (nil_w ⟨w.heap.size, 0, none⟩ ⟨b, 0, none⟩ _ (kk.1.cell 0 rfl))
  have l1 := fun w => cf_elem _ _ w (el_w w)
  have i1 := fun w => cf_impl _ _ _ w (im_w w)
  have hAS := as_words g b w.heap.size v0 _ ((hB.alloc (.cells #[.pointer (some ⟨b, 0, none⟩)] 80)).alloc (.cells #[hdl 80, .pointer (some ⟨w.heap.size, 0, none⟩), .int .u64 150] 67)) (kk.1.cell 0 rfl)
  simp only [rvl, rty, hdl] at v1 y1 k1 k2 m1 m2 m3 m4 n1 l1 i1 hG2 hAS hb2 ⊢
  have HAS := hide hAS
  have HB := hide hb2
  clear hB kk hb2 hG hAS
  go_enter Tryd.func28, Tryd.ntmps28
  go_wp2_with fail
  refine HAS.out.mono ?_
  rintro e w' ⟨rfl, h1, h2⟩
  have HH := hide (And.intro h1 h2)
  clear h1 h2
  go_wp2_with fail
  go_ret
  exact ⟨rfl, HH.out.1, (Only.of_below (F := fun k => k = b) HB.out).trans HH.out.2 (fun _ _ h => h)⟩
theorem eAs_str_l (p : Addr) (b : Nat) (w : World) (hG : w.cell? ⟨0, 0, none⟩ = some (rty 26)) :
    Calls Tryd.prog 28 #[.iface 97 (.pointer (some p)), .iface 50 (.pointer (some ⟨b, 0, none⟩))] w fun e w' => e = .returned (.bool false) ∧ Below w.heap.size w w' := by
  have kk := blk_two w 50 67 #[.pointer (some ⟨b, 0, none⟩)] #[hdl 50, .pointer (some ⟨w.heap.size, 0, none⟩), .int .u64 150]
  have hb2 := below_alloc (below_alloc (Below.refl w.heap.size w) (.cells #[.pointer (some ⟨b, 0, none⟩)] 50)) (.cells #[hdl 50, .pointer (some ⟨w.heap.size, 0, none⟩), .int .u64 150] 67)
  have zG := lt_of_cell hG
  have hG2 := (hb2.cell zG).trans hG
  have v1 := fun w => cf_vo _ _ _ w (vo_tl ⟨b, 0, none⟩ w)
  have y1 := fun a w => cf_type _ _ w (vt_l a w)
  have k1 := fun w => cf_kind _ _ w (kd_tl w)
  have k2 := fun w => cf_kind _ _ w (kd_l w)
  have m1 := m_kind (hdl 50)
  have m2 := m_kind (hdl 48)
  have m3 := m_elem (hdl 50)
  have m4 := m_impl (hdl 48)
  have n1 := cf_nil _ _ _ (nil_l ⟨w.heap.size, 0, none⟩ ⟨b, 0, none⟩ _ (kk.1.cell 0 rfl))
  have l1 := fun w => cf_elem _ _ w (el_l w)
  have i1 := fun w => cf_impl _ _ _ w (im_l w)
  have hAS := as_str_l p ⟨b, 0, none⟩ w.heap.size ((w.alloc (.cells #[.pointer (some ⟨b, 0, none⟩)] 50)).alloc (.cells #[hdl 50, .pointer (some ⟨w.heap.size, 0, none⟩), .int .u64 150] 67))
  simp only [rvl, rty, hdl] at v1 y1 k1 k2 m1 m2 m3 m4 n1 l1 i1 hG2 hAS hb2 ⊢
  have HAS := hide hAS
  have HB := hide hb2
  clear kk hb2 hG hAS
  go_enter Tryd.func28, Tryd.ntmps28
  go_wp2_with fail
  refine HAS.out.mono ?_
  rintro e w' ⟨rfl, h1⟩
  have HH := hide (below_step h1 HB.out)
  clear h1
  go_wp2_with fail
  go_ret
  exact ⟨rfl, HH.out⟩
theorem eAs_str_w (p : Addr) (b : Nat) (w : World) (hG : w.cell? ⟨0, 0, none⟩ = some (rty 26)) :
    Calls Tryd.prog 28 #[.iface 97 (.pointer (some p)), .iface 80 (.pointer (some ⟨b, 0, none⟩))] w fun e w' => e = .returned (.bool false) ∧ Below w.heap.size w w' := by
  have kk := blk_two w 80 67 #[.pointer (some ⟨b, 0, none⟩)] #[hdl 80, .pointer (some ⟨w.heap.size, 0, none⟩), .int .u64 150]
  have hb2 := below_alloc (below_alloc (Below.refl w.heap.size w) (.cells #[.pointer (some ⟨b, 0, none⟩)] 80)) (.cells #[hdl 80, .pointer (some ⟨w.heap.size, 0, none⟩), .int .u64 150] 67)
  have zG := lt_of_cell hG
  have hG2 := (hb2.cell zG).trans hG
  have v1 := fun w => cf_vo _ _ _ w (vo_tw ⟨b, 0, none⟩ w)
  have y1 := fun a w => cf_type _ _ w (vt_w a w)
  have k1 := fun w => cf_kind _ _ w (kd_tw w)
  have k2 := fun w => cf_kind _ _ w (kd_w w)
  have m1 := m_kind (hdl 80)
  have m2 := m_kind (hdl 61)
  have m3 := m_elem (hdl 80)
  have m4 := m_impl (hdl 61)
  have n1 := cf_nil _ _ _ (nil_w ⟨w.heap.size, 0, none⟩ ⟨b, 0, none⟩ _ (kk.1.cell 0 rfl))
  have l1 := fun w => cf_elem _ _ w (el_w w)
  have i1 := fun w => cf_impl _ _ _ w (im_w w)
  have hAS := as_str_w p ⟨b, 0, none⟩ w.heap.size ((w.alloc (.cells #[.pointer (some ⟨b, 0, none⟩)] 80)).alloc (.cells #[hdl 80, .pointer (some ⟨w.heap.size, 0, none⟩), .int .u64 150] 67))
  simp only [rvl, rty, hdl] at v1 y1 k1 k2 m1 m2 m3 m4 n1 l1 i1 hG2 hAS hb2 ⊢
  have HAS := hide hAS
  have HB := hide hb2
  clear kk hb2 hG hAS
  go_enter Tryd.func28, Tryd.ntmps28
  go_wp2_with fail
  refine HAS.out.mono ?_
  rintro e w' ⟨rfl, h1⟩
  have HH := hide (below_step h1 HB.out)
  clear h1
  go_wp2_with fail
  go_ret
  exact ⟨rfl, HH.out⟩
theorem eAs_wrd_l (p : Addr) (b : Nat) (w : World) (hG : w.cell? ⟨0, 0, none⟩ = some (rty 26)) :
    Calls Tryd.prog 28 #[.iface 61 (.pointer (some p)), .iface 50 (.pointer (some ⟨b, 0, none⟩))] w fun e w' => e = .returned (.bool false) ∧ Below w.heap.size w w' := by
  have kk := blk_two w 50 67 #[.pointer (some ⟨b, 0, none⟩)] #[hdl 50, .pointer (some ⟨w.heap.size, 0, none⟩), .int .u64 150]
  have hb2 := below_alloc (below_alloc (Below.refl w.heap.size w) (.cells #[.pointer (some ⟨b, 0, none⟩)] 50)) (.cells #[hdl 50, .pointer (some ⟨w.heap.size, 0, none⟩), .int .u64 150] 67)
  have zG := lt_of_cell hG
  have hG2 := (hb2.cell zG).trans hG
  have v1 := fun w => cf_vo _ _ _ w (vo_tl ⟨b, 0, none⟩ w)
  have y1 := fun a w => cf_type _ _ w (vt_l a w)
  have k1 := fun w => cf_kind _ _ w (kd_tl w)
  have k2 := fun w => cf_kind _ _ w (kd_l w)
  have m1 := m_kind (hdl 50)
  have m2 := m_kind (hdl 48)
  have m3 := m_elem (hdl 50)
  have m4 := m_impl (hdl 48)
  have n1 := cf_nil _ _ _ (nil_l ⟨w.heap.size, 0, none⟩ ⟨b, 0, none⟩ _ (kk.1.cell 0 rfl))
  have l1 := fun w => cf_elem _ _ w (el_l w)
  have i1 := fun w => cf_impl _ _ _ w (im_l w)
  have hAS := as_wrd_l p ⟨b, 0, none⟩ w.heap.size ((w.alloc (.cells #[.pointer (some ⟨b, 0, none⟩)] 50)).alloc (.cells #[hdl 50, .pointer (some ⟨w.heap.size, 0, none⟩), .int .u64 150] 67))
  simp only [rvl, rty, hdl] at v1 y1 k1 k2 m1 m2 m3 m4 n1 l1 i1 hG2 hAS hb2 ⊢
  have HAS := hide hAS
  have HB := hide hb2
  clear kk hb2 hG hAS
  go_enter Tryd.func28, Tryd.ntmps28
  go_wp2_with fail
  refine HAS.out.mono ?_
  rintro e w' ⟨rfl, h1⟩
  have HH := hide (below_step h1 HB.out)
  clear h1
  go_wp2_with fail
  go_ret
  exact ⟨rfl, HH.out⟩
end Go.Proofs.YtkhbcmkcjnnejaaDoor
