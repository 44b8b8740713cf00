/- Faults in memory: links, and what stands behind them; errors.Is. -/
import Derived.Test.YtkhbcmkcjnnejaaDoorFltB
import Derived.Test.YtkhbcmkcjnnejaaDoorFltP
import Derived.BigQuiet
import Derived.Deep.QuietTactic
namespace Go.Proofs.YtkhbcmkcjnnejaaDoor
set_option linter.unusedVariables false
set_option linter.unusedSimpArgs false
set_option linter.unnecessarySimpa false
open Go.RowKit Go.Extern.Stop Go.Stop Go.Extern
set_option maxRecDepth 20000
set_option maxHeartbeats 4000000

def fCmp : Array Value → Sem Value := Extern.ReflectliteType.method fun t => do Extern.Rtype.noPackHeld "Comparable" t; pure (.bool (← typeInfo t).comparable)
theorem cmp_s (w : World) : (fCmp #[.agg #[hdl 97]]).run Tryd.prog w = .ok (.bool true) w := by kernel_rfl
theorem cmp_w (w : World) : (fCmp #[.agg #[hdl 61]]).run Tryd.prog w = .ok (.bool true) w := by kernel_rfl
theorem cf_cmp (r x : Value) (w : World) (h : (fCmp #[x]).run Tryd.prog w = .ok r w) : (callFunc 72 #[x]).run Tryd.prog w = .ok (.value r) w := by
  rw [run_callFunc_extern (e := fCmp) Tryd.func72 (by kernel_rfl) (by kernel_rfl) (by kernel_rfl) (by kernel_rfl), h]
  rfl
/-- what stands behind the links: a family's error, or one of a text -/
inductive FEnd where
  | sent (n : Nat)
  | txt (t : List UInt8)
/-- the package's variables -/
structure GV (w : World) (a : Nat → Addr) (M : Nat) : Prop where
  et : w.cell? ⟨0, 0, none⟩ = some (rty 26)
  s1 : w.cell? ⟨1, 0, none⟩ = some (.iface 97 (.pointer (some (a 1))))
  s2 : w.cell? ⟨2, 0, none⟩ = some (.iface 97 (.pointer (some (a 2))))
  s3 : w.cell? ⟨3, 0, none⟩ = some (.iface 97 (.pointer (some (a 3))))
  s4 : w.cell? ⟨4, 0, none⟩ = some (.iface 97 (.pointer (some (a 4))))
  s5 : w.cell? ⟨5, 0, none⟩ = some (.iface 97 (.pointer (some (a 5))))
  row : ∀ n, 1 ≤ n → n ≤ 5 → ∃ c t, w.heap[(a n).block]? = some (.cells c t (0, 0))
  ne : ∀ n m, 1 ≤ n → n ≤ 5 → 1 ≤ m → m ≤ 5 → n ≠ m → a n ≠ a m
  gl : 0 < M ∧ 1 < M ∧ 2 < M ∧ 3 < M ∧ 4 < M ∧ 5 < M
  lt : ∀ n, 1 ≤ n → n ≤ 5 → (a n).block < M
theorem GV.below {w w' : World} {a : Nat → Addr} {M : Nat} (h : GV w a M) (hb : Below w.heap.size w w') : GV w' a M := by
  have k : ∀ {p v}, w.cell? p = some v → w'.cell? p = some v := fun hc => (hb.cell (lt_of_cell hc)).trans hc
  refine ⟨k h.et, k h.s1, k h.s2, k h.s3, k h.s4, k h.s5, ?_, h.ne, h.gl, h.lt⟩
  intro n h1 h5
  obtain ⟨c, t, hc⟩ := h.row n h1 h5
  exact ⟨c, t, (hb.block _ (Array.getElem?_eq_some_iff.1 hc).1).trans hc⟩
theorem GV.only {w w' : World} {a : Nat → Addr} {M : Nat} {F : Nat → Prop} (h : GV w a M) (ho : Only F w w') (hF : ∀ k, F k → M ≤ k) : GV w' a M := by
  have k : ∀ {p : Addr} {v}, p.block < M → w.cell? p = some v → w'.cell? p = some v := fun {p v} hp hc => (World.cell?_of_block (ho.block _ (lt_of_cell hc) (fun e => by have := hF _ e; omega))).trans hc
  have hl := h.gl
  refine ⟨k (by simp only []; omega) h.et, k (by simp only []; omega) h.s1, k (by simp only []; omega) h.s2, k (by simp only []; omega) h.s3, k (by simp only []; omega) h.s4, k (by simp only []; omega) h.s5, ?_, h.ne, h.gl, h.lt⟩
  intro n h1 h5
  obtain ⟨c, t, hc⟩ := h.row n h1 h5
  exact ⟨c, t, (ho.block _ (Array.getElem?_eq_some_iff.1 hc).1 (fun e => by have := hF _ e; have := h.lt n h1 h5; omega)).trans hc⟩
/-- the value is a chain of links with these codes, over that end -/
def Ch (w : World) (a : Nat → Addr) (e : FEnd) : List Nat → Value → Prop
  | [], v => match e with
    | .sent n => v = .iface 97 (.pointer (some (a n)))
    | .txt t => ∃ p, v = .iface 61 (.pointer (some ⟨p, 0, none⟩)) ∧ Blk w p 63 #[.string (bs t)]
  | c :: cs, v => ∃ p u, v = .iface 48 (.pointer (some ⟨p, 0, none⟩)) ∧ Blk w p 52 #[.int .u32 (c : Nat), u] ∧ Ch w a e cs u
theorem Ch.below {w w' : World} {a : Nat → Addr} {e : FEnd} (hb : Below w.heap.size w w') : ∀ {cs : List Nat} {v : Value}, Ch w a e cs v → Ch w' a e cs v
  | [], v, h => by
    cases e with
    | sent n => exact h
    | txt t => obtain ⟨p, h1, h2⟩ := h; exact ⟨p, h1, h2.below hb h2.lt⟩
  | c :: cs, v, h => by
    obtain ⟨p, u, h1, h2, h3⟩ := h
    exact ⟨p, u, h1, h2.below hb h2.lt, h3.below hb⟩
theorem Ch.det {w : World} {a : Nat → Addr} {e : FEnd} : ∀ {cs ds : List Nat} {v : Value}, Ch w a e cs v → Ch w a e ds v → cs = ds
  | [], [], _, _, _ => rfl
  | [], d :: ds, v, h1, h2 => by
    obtain ⟨p, u, h3, _⟩ := h2
    cases e with
    | sent n => rw [h3] at h1; injection h1 with h1; exact absurd h1 (by decide)
    | txt t => obtain ⟨q, h4, _⟩ := h1; rw [h3] at h4; injection h4 with h4; exact absurd h4 (by decide)
  | c :: cs, [], v, h1, h2 => by
    obtain ⟨p, u, h3, _⟩ := h1
    cases e with
    | sent n => rw [h3] at h2; injection h2 with h2; exact absurd h2 (by decide)
    | txt t => obtain ⟨q, h4, _⟩ := h2; rw [h3] at h4; injection h4 with h4; exact absurd h4 (by decide)
  | c :: cs, d :: ds, v, h1, h2 => by
    obtain ⟨p, u, rfl, h4, h5⟩ := h1
    obtain ⟨q, u', h6, h7, h8⟩ := h2
    injection h6 with _ h6
    injection h6 with h6
    injection h6 with h6
    injection h6 with h6
    subst h6
    have h9 := h4.symm.trans h7
    injection h9 with h9
    injection h9 with h9
    injection h9 with h9
    injection h9 with h10 h11
    injection h11 with h11 _
    subst h11
    injection h10 with _ h10
    have : c = d := by omega
    subst this
    rw [Ch.det h5 h8]
/-- one block of another type is stored into -/
theorem Ch.only1 {w w' : World} {a : Nat → Addr} {e : FEnd} {g : Nat} {t : TypeId} {xs : Array Value} (hB : Blk w g t xs) (h1 : t ≠ 52) (h2 : t ≠ 63) (ho : Only (fun k => k = g) w w') : ∀ {cs : List Nat} {v : Value}, Ch w a e cs v → Ch w' a e cs v
  | [], v, h => by
    cases e with
    | sent n => exact h
    | txt s =>
      obtain ⟨p, h3, h4⟩ := h
      refine ⟨p, h3, (ho.block p h4.lt ?_).trans h4⟩
      rintro rfl
      have h5 := hB.symm.trans h4
      injection h5 with h5
      injection h5 with _ h5
      exact h2 h5
  | c :: cs, v, h => by
    obtain ⟨p, x, h3, h4, h6⟩ := h
    refine ⟨p, x, h3, (ho.block p h4.lt ?_).trans h4, h6.only1 hB h1 h2 ho⟩
    rintro rfl
    have h5 := hB.symm.trans h4
    injection h5 with h5
    injection h5 with _ h5
    exact h1 h5
/-- a measure: how many links -/
theorem ch_len (w : World) (a : Nat → Addr) (e : FEnd) : ∃ f : Value → Nat, ∀ cs v, Ch w a e cs v → f v = cs.length := by
  classical
  refine ⟨fun v => if h : ∃ cs, Ch w a e cs v then (Classical.choose h).length else 0, ?_⟩
  intro cs v h
  have hx : ∃ cs, Ch w a e cs v := ⟨cs, h⟩
  simp only [dif_pos hx]
  rw [Ch.det (Classical.choose_spec hx) h]
theorem unwrap_any (p c : Nat) (u : Value) (w : World) (hB : Blk w p 52 #[.int .u32 (c : Nat), u]) :
    Calls Tryd.prog 64 #[.pointer (some ⟨p, 0, none⟩)] w fun e w' => e = .returned u ∧ w = w' := by
  have c1 := hB.cell 1 (u := u) rfl
  clear hB
  go_enter Tryd.func64, Tryd.ntmps64
  go_wp2_with fail
  go_ret
  exact ⟨rfl, rfl⟩
theorem ta_w_str (v : Value) (xT : TypeId) (w : World) : (Instr.typeAssert (.iface 97 v) xT 61 true).run Tryd.prog w = .ok (.tuple #[.pointer none, .bool false]) w := by kernel_rfl
theorem ta_w_wrd (v : Value) (xT : TypeId) (w : World) : (Instr.typeAssert (.iface 61 v) xT 61 true).run Tryd.prog w = .ok (.tuple #[v, .bool true]) w := by kernel_rfl
theorem wis_str (p : Addr) (q : Value) (w : World) : Calls Tryd.prog 66 #[.pointer (some p), .iface 97 q] w fun e w' => e = .returned (.bool false) ∧ Below w.heap.size w w' := by
  have t1 := fun xT w => ta_w_str q xT w
  go_enter Tryd.func66, Tryd.ntmps66
  go_wp2_with fail
  go_quiet (fail)
  go_wp2_with fail
  go_ret
  exact ⟨rfl, by repeat' (first | with_reducible assumption | with_reducible exact Below.refl _ _ | with_reducible apply below_alloc | with_reducible apply below_drew1 | with_reducible apply below_drewN | (with_reducible apply below_step; with_reducible assumption) | (with_reducible apply below_sg2; (first | exact Nat.le_refl _ | (simp; done) | omega)))⟩
theorem bs_list (l : List UInt8) : (bs l).toList = l := by unfold bs; exact Go.ByteArray.toList_mk l
theorem wis_wrd (p q : Nat) (s t : List UInt8) (w : World) (hp : Blk w p 63 #[.string (bs s)]) (hq : Blk w q 63 #[.string (bs t)]) :
    Calls Tryd.prog 66 #[.pointer (some ⟨p, 0, none⟩), .iface 61 (.pointer (some ⟨q, 0, none⟩))] w fun e w' => e = .returned (.bool (decide (t = s))) ∧ Below w.heap.size w w' := by
  have t1 := fun xT w => ta_w_wrd (.pointer (some ⟨q, 0, none⟩)) xT w
  have c1 := hp.cell 0 (u := .string (bs s)) rfl
  have c2 := hq.cell 0 (u := .string (bs t)) rfl
  have l1 := bs_list s
  have l2 := bs_list t
  clear hp hq
  by_cases h : t = s
  · subst h
    go_enter Tryd.func66, Tryd.ntmps66
    go_wp2_with fail
    go_quiet (fail)
    go_wp2_with fail
    go_ret
    exact ⟨ret_bool (by simp), by repeat' (first | with_reducible assumption | with_reducible exact Below.refl _ _ | with_reducible apply below_alloc | with_reducible apply below_drew1 | with_reducible apply below_drewN | (with_reducible apply below_step; with_reducible assumption) | (with_reducible apply below_sg2; (first | exact Nat.le_refl _ | (simp; done) | omega)))⟩
  · have h1 : (t == s) = false := beq_false_of_ne h
    have HD := hide (show decide (t = s) = false by simpa using h)
    go_enter Tryd.func66, Tryd.ntmps66
    go_wp2_with fail
    go_quiet (fail)
    go_wp2_with fail
    go_ret
    exact ⟨ret_bool (by rw [HD.out]), by repeat' (first | with_reducible assumption | with_reducible exact Below.refl _ _ | with_reducible apply below_alloc | with_reducible apply below_drew1 | with_reducible apply below_drewN | (with_reducible apply below_step; with_reducible assumption) | (with_reducible apply below_sg2; (first | exact Nat.le_refl _ | (simp; done) | omega)))⟩
end Go.Proofs.YtkhbcmkcjnnejaaDoor
