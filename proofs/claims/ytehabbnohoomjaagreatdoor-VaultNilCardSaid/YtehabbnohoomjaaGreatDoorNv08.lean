/- A region that draws its order and writes, at its end, what it read at its beginning: operations that wait for every operation of a list T owe nothing to S. No program in sight. -/
import Derived.RegionTactic
import Derived.Deep.RegionHeld3
import Derived.Test.YtehabbnohoomjaaGreatDoorNv07
namespace Go.Proofs.YtehabbnohoomjaaGreatDoor
section
set_option linter.unusedVariables false
set_option linter.unusedSimpArgs false
set_option linter.unnecessarySimpa false
open Go
section
variable {P : Program} {ops : Array Oper} {Q : Exit → Act → World → Prop} {md : Region.Mode} {S : World → Prop} {T : List Nat}

/-- operation j waits for i, by itself or by what it waits for -/
def waitsF (md : Region.Mode) (ops : Array Oper) : Nat → Nat → Nat → Bool
  | 0, _, _ => false
  | f + 1, i, j => match ops[j]? with | some o => o.after.any (fun e => Region.binds md e && (e.on == i || waitsF md ops f i e.on)) | none => false
/-- operation j waits for each one of T -/
def waitsT (md : Region.Mode) (ops : Array Oper) (T : List Nat) (j : Nat) : Bool := T.all fun i => waitsF md ops ops.size i j
/-- what a listed operation waits for is listed -/
def closedL (md : Region.Mode) (ops : Array Oper) (listed : Array Bool) : Prop := ∀ (k : Nat) (o : Oper), ops[k]? = some o → listed.getD k false = true → ∀ e ∈ o.after, Region.binds md e = true → listed.getD e.on false = true
def closedB (md : Region.Mode) (ops : Array Oper) (listed : Array Bool) : Bool := (List.range ops.size).all fun k => !(listed.getD k false) || match ops[k]? with | some o => o.after.all (fun e => !(Region.binds md e) || listed.getD e.on false) | none => true
theorem closed_of {listed : Array Bool} (h : closedB md ops listed = true) : closedL md ops listed := by
  intro k o ho hk e he hb
  unfold closedB at h
  rw [List.all_eq_true] at h
  have h1 := h k (List.mem_range.2 (Array.getElem?_eq_some_iff.1 ho).1)
  rw [hk, ho] at h1
  simp only [Bool.not_true, Bool.false_or] at h1
  have h2 := Array.all_eq_true_iff_forall_mem.1 h1 e he
  rw [hb] at h2
  simpa using h2
theorem waitsF_listed {listed : Array Bool} (hc : closedL md ops listed) {i : Nat} : ∀ (f j : Nat) (o : Oper), ops[j]? = some o → (∀ e ∈ o.after, Region.binds md e = true → listed.getD e.on false = true) → waitsF md ops f i j = true → listed.getD i false = true := by
  intro f
  induction f with
  | zero => intro j o _ _ h; cases h
  | succ f ih =>
    intro j o ho hall h
    rw [waitsF, ho] at h
    obtain ⟨e, he, hb⟩ := Array.any_eq_true'.1 h
    simp only [Bool.and_eq_true, Bool.or_eq_true, beq_iff_eq] at hb
    have hl := hall e he hb.1
    rcases hb.2 with h1 | h1
    · rw [← h1]; exact hl
    · cases hk : ops[e.on]? with
      | none =>
        cases f with
        | zero => cases h1
        | succ f => rw [waitsF, hk] at h1; cases h1
      | some o' => exact ih e.on o' hk (hc e.on o' hk hl) h1
/-- whatever comes up: S is owed behind each operation that does not wait for all of T -/
def wpAnyT (P : Program) (md : Region.Mode) (ops : Array Oper) (Q : Exit → Act → World → Prop) (S : World → Prop) (T : List Nat) : Nat → Array Bool → Act → World → Prop
  | 0, listed, a, w => Region.ready md ops listed = [] ∧ Q .normal a w
  | f + 1, listed, a, w => (Region.ready md ops listed = [] → Q .normal a w) ∧
    ∀ j ∈ Region.ready md ops listed, wpOp P ops Q j (fun a' w' => (waitsT md ops T j = false → S w') ∧ wpAnyT P md ops Q S T f (listed.setIfInBounds j true) a' w') a w
theorem wpAnyT.any : ∀ {f : Nat} {listed : Array Bool} {a : Act} {w : World}, wpAnyT P md ops Q S T f listed a w → wpAny P md ops Q f listed a w
  | 0, _, _, _, h => h
  | _ + 1, _, _, _, h => And.intro h.1 (fun j hj => wpOp_mono (fun _ _ h' => wpAnyT.any h'.2) (h.2 j hj))
theorem waitsT_no {listed : Array Bool} (hc : closedL md ops listed) {i j : Nat} (hT : i ∈ T) (hi : listed.getD i true = false) (hj : j ∈ Region.ready md ops listed) : waitsT md ops T j = false := by
  obtain ⟨_, o, ho, hall⟩ := mem_ready.1 hj
  unfold waitsT
  rw [List.all_eq_false]
  refine ⟨i, hT, ?_⟩
  intro h
  have h1 := waitsF_listed hc _ j o ho hall h
  rcases Nat.lt_or_ge i listed.size with h2 | h2
  · rw [Array.getD, dif_pos h2] at h1 hi
    rw [h1] at hi
    cases hi
  · rw [Array.getD, dif_neg (by omega)] at h1
    cases h1
theorem closed_step {listed : Array Bool} (hc : closedL md ops listed) {j : Nat} (hj : j ∈ Region.ready md ops listed) : closedL md ops (listed.setIfInBounds j true) := by
  intro k o ho hk e he hb
  refine getD_set_true ?_
  rcases Nat.decEq j k with hne | rfl
  · refine hc k o ho ?_ e he hb
    simpa [Array.getElem?_setIfInBounds_ne hne] using hk
  · obtain ⟨_, o', ho', hall⟩ := mem_ready.1 hj
    rw [ho] at ho'
    injection ho' with ho'
    subst ho'
    exact hall e he hb
theorem wpAnyT.first {i : Nat} {oi : Oper} {v : Value} (hT : i ∈ T) (hi : ops[i]? = some oi) (hsel : ∀ (j : Nat) (o : Oper) cs b, ops[j]? = some o → o.op ≠ .select cs b)
    (hQ : ∀ c a w, Q (.panic c) (a.put oi.dst v) w → Q (.panic c) a w) (f : Nat) :
    ∀ (listed : Array Bool) (a : Act) (w : World), closedL md ops listed →
      (∀ j oj, ops[j]? = some oj → j ≠ i → listed.getD j true = false → (∀ e ∈ oj.after, Region.binds md e = true → e.on ≠ i) → oi.apart ops oj = true) →
      i ∈ Region.ready md ops listed → YieldsIf P ops S oi v a → S w →
      wpAnyT P md ops Q S T f (listed.setIfInBounds i true) (a.put oi.dst v) w → wpAnyT P md ops Q S T (f + 1) listed a w := by
  induction f with
  | zero =>
    intro listed a w _ _ hr hy hS H
    refine ⟨fun h0 => (by rw [h0] at hr; cases hr), fun j hj => ?_⟩
    rcases Nat.decEq j i with hji | rfl
    · have h1 := ready_mono hj hji
      rw [H.1] at h1
      cases h1
    · exact hy.wpOp hi hS ⟨fun _ => hS, H⟩
  | succ f ih =>
    intro listed a w hcl hfr hr hy hS H
    refine ⟨fun h0 => (by rw [h0] at hr; cases hr), fun j hj => ?_⟩
    rcases Nat.decEq j i with hji | rfl
    · have hnw := waitsT_no hcl hT (mem_ready.1 hr).1 hj
      have hju := (mem_ready.1 hj).1
      obtain ⟨_, oj, hoj, hall⟩ := mem_ready.1 hj
      have hno : ∀ e ∈ oj.after, Region.binds md e = true → e.on ≠ i := by
        rintro e he hb rfl
        have h1 := hall e he hb
        have h0 := (mem_ready.1 hr).1
        rcases Nat.lt_or_ge e.on listed.size with h2 | h2
        · rw [Array.getD, dif_pos h2] at h0 h1
          rw [h1] at h0
          cases h0
        · rw [Array.getD, dif_neg (by omega)] at h1
          cases h1
      have hp := wpOp_putIf hoj (hfr j oj hoj hji hju hno) (fun cs b => hsel i oi cs b hi) (fun cs b => hsel j oj cs b hoj) hQ hy (H.2 j (ready_mono hj hji))
      refine wpOp_mono ?_ hp
      rintro a' w' ⟨hy', hS', hrest⟩
      refine ⟨fun _ => hS' hnw, ih (listed.setIfInBounds j true) a' w' (closed_step hcl hj) ?_ (ready_mono hr (Ne.symm hji)) hy' (hS' hnw) (by rw [Array.setIfInBounds_comm _ _ hji]; exact hrest)⟩
      intro m om hm hmi hmu hmn
      refine hfr m om hm hmi ?_ hmn
      rcases Nat.decEq j m with hjm | rfl
      · rw [getD_set_ne true hjm] at hmu; exact hmu
      · exact hju
    · exact hy.wpOp hi hS ⟨fun _ => hS, H⟩
/-- take number i of T first -/
theorem wpAnyT_take {i : Nat} {oi : Oper} {v : Value} {f : Nat} {listed : Array Bool} {a : Act} {w : World} (hT : T.contains i = true) (hcl : closedB md ops listed = true) (hi : ops[i]? = some oi)
    (hs : Region.noSelect ops = true) (hf : Region.free md ops listed i = true) (hr : (Region.ready md ops listed).contains i = true)
    (hQ : ∀ c a w, Q (.panic c) (a.put oi.dst v) w → Q (.panic c) a w) (hy : YieldsIf P ops S oi v a) (hS : S w)
    (h : wpAnyT P md ops Q S T f (listed.setIfInBounds i true) (a.put oi.dst v) w) : wpAnyT P md ops Q S T (f + 1) listed a w :=
  wpAnyT.first (by simpa using hT) hi (Region.noSelect_spec hs) hQ f listed a w (closed_of hcl) (Region.free_spec hi hf) (by simpa using hr) hy hS h
/-- number i comes up alone; S is shown behind it -/
theorem wpAnyT_one {i : Nat} {o : Oper} {f : Nat} {listed : Array Bool} {a : Act} {w : World} (ho : ops[i]? = some o) (hr : Region.ready md ops listed = [i])
    (h : ∀ K' : Act → World → Prop, Shut (∀ a w, S w → (S w → wpAnyT P md ops Q S T f (listed.setIfInBounds i true) a w) → K' a w) → if Region.wanted o (yielded ops a.tmps) = true then Oper.wp P o a w K' Q else K' (a.put o.dst undef) w) :
    wpAnyT P md ops Q S T (f + 1) listed a w := by
  refine ⟨fun h0 => (by rw [hr] at h0; cases h0), ?_⟩
  rw [hr]
  intro j hj
  obtain rfl := List.mem_singleton.1 hj
  exact wpOp_step ho (fun K' hK => h K' (fun a w hS hW => hK a w ⟨fun _ => hS, hW hS⟩))
/-- number i comes up alone and waits for all of T: it owes nothing -/
theorem wpAnyT_late {i : Nat} {o : Oper} {f : Nat} {listed : Array Bool} {a : Act} {w : World} (ho : ops[i]? = some o) (hr : Region.ready md ops listed = [i]) (hw : waitsT md ops T i = true)
    (h : ∀ K' : Act → World → Prop, Shut (∀ a w, wpAnyT P md ops Q S T f (listed.setIfInBounds i true) a w → K' a w) → if Region.wanted o (yielded ops a.tmps) = true then Oper.wp P o a w K' Q else K' (a.put o.dst undef) w) :
    wpAnyT P md ops Q S T (f + 1) listed a w := by
  refine ⟨fun h0 => (by rw [hr] at h0; cases h0), ?_⟩
  rw [hr]
  intro j hj
  obtain rfl := List.mem_singleton.1 hj
  exact wpOp_step ho (fun K' hK => h K' (fun a w hW => hK a w ⟨fun h0 => (by rw [hw] at h0; cases h0), hW⟩))
theorem wpAnyT_done {listed : Array Bool} {a : Act} {w : World} (hr : Region.ready md ops listed = []) (h : Q .normal a w) : ∀ f, wpAnyT P md ops Q S T f listed a w
  | 0 => ⟨hr, h⟩
  | _ + 1 => ⟨fun _ => h, by rw [hr]; intro j hj; cases hj⟩
theorem wp_region_T (S : World → Prop) (T : List Nat) {id : Nat} {a : Act} {w : World} (hm : P.follows .mixedOrders = true) (hS : S w.drew)
    (h : S w.drew → wpAnyT P .any ops Q S T ops.size (Array.replicate ops.size false) a w.drew) : (Code.region id ops true).wp P Q a w :=
  wp_region_any hm (wpAnyT.any (h hS))
end
end
end Go.Proofs.YtehabbnohoomjaaGreatDoor
namespace Go.Proofs.YtehabbnohoomjaaGreatDoor
section
set_option linter.unusedVariables false
set_option linter.unusedSimpArgs false
set_option linter.unnecessarySimpa false
open Go.RowKit Go.Extern.Stop Go.Stop Go.Extern
set_option maxRecDepth 20000
set_option maxHeartbeats 8000000

theorem fs_size : (Tryz.prog.info? 145).map (·.size) = some 1 := by kernel_rfl
/-- a fault made: a chain, in new memory -/
def MadeF (a : Nat → Addr) (e : FEnd) (cs : List Nat) (w : World) (r : Ending) (w' : World) : Prop := ∃ v, r = .returned (.agg #[v]) ∧ Ch w' a e cs v ∧ Below w.heap.size w w'
theorem ret_fault {fn : Func} {p : Tmp} (h : fn.results = #[.cell p 145]) {x : Act} {w : World} {g : Nat} {v : Value} {R : Ending → World → Prop} (hd : x.defers = []) (hp : x.tmps.getD p undef = .pointer (some ⟨g, 0, none⟩))
    (hB : Blk w g 145 #[v]) (hR : R (.returned (.agg #[v])) w) : bodyPost Tryz.prog fn R .ret x w := by
  exact bodyPost_ret (results_cell_row (P := Tryz.prog) h x.tmps w g _ #[v] (0, 0) _ hp hB Tryz.underlying145 rfl fs_size) hd hR
theorem blk_tne {w : World} {g p : Nat} {t u : TypeId} {cs ds : Array Value} (h : Blk w g t cs) (k : Blk w p u ds) (hne : t ≠ u) : p ≠ g := by
  rintro rfl
  have h1 := h.symm.trans k
  injection h1 with h1
  injection h1 with _ h1
  exact hne h1
theorem fa_New (c : Nat) (a : Nat → Addr) (w : World) (hc : c ≤ 4294967295) {M : Nat} (hG : GV w a M) : Calls Tryz.prog 161 #[.int .u32 (c : Nat)] w (MadeF a (.sent (famN (cntN c))) [cntN c] w) := by
  have hq := blk_one w 145 #[.nilIface]
  have hb := below_alloc (Below.refl w.heap.size w) (.cells #[.nilIface] 145)
  have hk : cntN c ≤ 4294967295 := by unfold cntN; split <;> omega
  have HC := hide (fun W => fa_counts c W hc)
  have h1 := famN_cnt c
  have h5 := famN_le (cntN c)
  obtain ⟨k, hkk⟩ : ∃ k, k = cntN c := ⟨_, rfl⟩
  rw [← hkk] at HC hk h1 h5 ⊢
  have HF := hide (fun W => fa_family k W hk)
  obtain ⟨n, hn⟩ : ∃ n, n = famN k := ⟨_, rfl⟩
  rw [← hn] at HF h1 h5 ⊢
  have HBS := hide (fun W (h : Below w.heap.size w W) => fa_base n a W (hG.below h) h1 h5)
  have HB := hide hb
  clear hkk hn hG hb hc
  go_enter Tryz.func161, Tryz.ntmps161
  go_wp2_with fail
  refine (HC.out _).mono ?_
  rintro e w1 ⟨rfl, rfl⟩
  go_wp2_with fail
  refine (HF.out _).mono ?_
  rintro e w1 ⟨rfl, rfl⟩
  go_wp2_with fail
  refine (HBS.out _ HB.out).mono ?_
  rintro e w1 ⟨rfl, rfl⟩
  go_wp2_with fail
  have kk := blk_two w 145 187 #[.iface 183 (.pointer (some ⟨w.heap.size + 1, 0, none⟩))] #[.int .u32 (k : Nat), .iface 279 (.pointer (some (a n)))]
  refine ret_fault rfl rfl (by rfl) kk.1 ?_
  exact ⟨_, rfl, ⟨_, _, rfl, kk.2, rfl⟩, below_alloc (below_alloc (Below.refl _ _) _) _⟩
theorem fa_Of (c : Nat) (a : Nat → Addr) (t : List UInt8) (w : World) (hc : c ≤ 4294967295) : Calls Tryz.prog 160 #[.int .u32 (c : Nat), .string (bs t)] w (MadeF a (.txt t) [cntN c] w) := by
  have HC := hide (fun W => fa_counts c W hc)
  obtain ⟨k, hkk⟩ : ∃ k, k = cntN c := ⟨_, rfl⟩
  rw [← hkk] at HC ⊢
  clear hkk hc
  go_enter Tryz.func160, Tryz.ntmps160
  go_wp2_with fail
  refine (HC.out _).mono ?_
  rintro e w1 ⟨rfl, rfl⟩
  go_wp2_with fail
  have kk := blk_three w 145 182 187 #[.iface 183 (.pointer (some ⟨w.heap.size + 2, 0, none⟩))] #[.string (bs t)] #[.int .u32 (k : Nat), .iface 180 (.pointer (some ⟨w.heap.size + 1, 0, none⟩))]
  refine ret_fault rfl rfl (by rfl) kk.1 ?_
  exact ⟨_, rfl, ⟨_, _, rfl, kk.2.2, _, rfl, kk.2.1⟩, below_alloc (below_alloc (below_alloc (Below.refl _ _) _) _) _⟩
end
end Go.Proofs.YtehabbnohoomjaaGreatDoor
namespace Go.Proofs.YtehabbnohoomjaaGreatDoor
section
set_option linter.unusedVariables false
set_option linter.unusedSimpArgs false
set_option linter.unnecessarySimpa false
open Go.RowKit Go.Extern.Stop Go.Stop Go.Extern
set_option maxRecDepth 20000
set_option maxHeartbeats 8000000

theorem fa_Code0 (w : World) : Calls Tryz.prog 92 #[.agg #[.nilIface]] w fun e w' => e = .returned (.int .u32 0) ∧ Below w.heap.size w w' := by
  have HB := hide (below_alloc (below_alloc (Below.refl w.heap.size w) (.cells #[.nilIface] 145)) (.cells #[.pointer none] 183))
  go_enter Tryz.func92, Tryz.ntmps92
  go_wp2_with fail
  go_ret
  exact ⟨rfl, HB.out⟩
theorem fa_Code (a : Nat → Addr) (M : Nat) (e : FEnd) (c : Nat) (cs : List Nat) (v : Value) (w : World) (hG : GV w a M) (hC : Ch w a e (c :: cs) v) :
    Calls Tryz.prog 92 #[.agg #[v]] w fun e' w' => e' = .returned (.int .u32 (c : Nat)) ∧ Below w.heap.size w w' := by
  obtain ⟨p, u, rfl, hB, -⟩ := hC
  have hb := below_alloc (below_alloc (Below.refl w.heap.size w) (.cells #[.iface 183 (.pointer (some ⟨p, 0, none⟩))] 145)) (.cells #[.pointer none] 183)
  have kk := blk_two w 145 183 #[.iface 183 (.pointer (some ⟨p, 0, none⟩))] #[.pointer none]
  have HAS := hide (eAs_link p (w.heap.size + 1) (.pointer none) _ kk.2 (hG.below hb).et)
  have HP := hide (hB.below hb hB.lt)
  have HB := hide hb
  have zp := hB.lt
  have hne : ¬ p = w.heap.size + 1 := by omega
  clear hB hb kk hG
  go_enter Tryz.func92, Tryz.ntmps92
  go_wp2_with fail
  refine HAS.out.mono ?_
  rintro e w2 ⟨rfl, hL, hO⟩
  have l0 := hL.cell 0 (u := .pointer (some ⟨p, 0, none⟩)) rfl
  have hp2 : Blk w2 p 187 #[.int .u32 (c : Nat), u] := (hO.block p HP.out.lt hne).trans HP.out
  have p0 := hp2.cell 0 (u := .int .u32 (c : Nat)) rfl
  have HB2 := hide (below_only hO HB.out (fun i hi => by omega))
  clear hL hO hp2
  go_wp2_with fail
  go_ret
  exact ⟨rfl, HB2.out⟩
def famE (e : FEnd) : Nat := match e with | .sent n => n | .txt _ => 5
end
end Go.Proofs.YtehabbnohoomjaaGreatDoor
namespace Go.Proofs.YtehabbnohoomjaaGreatDoor
section
set_option linter.unusedVariables false
set_option linter.unusedSimpArgs false
set_option linter.unnecessarySimpa false
open Go.RowKit Go.Extern.Stop Go.Stop Go.Extern
set_option maxRecDepth 20000
set_option maxHeartbeats 8000000

def offT : List UInt8 := [116, 104, 101, 32, 112, 111, 119, 101, 114, 32, 105, 115, 32, 111, 102, 102]
def wornT : List UInt8 := [110, 111, 32, 115, 101, 99, 116, 111, 114, 32, 98, 101, 97, 114, 115, 32, 105, 116]
def codeV (e : Int) : Nat := if e = 0 then 0 else if e = 7 ∨ e = 10 ∨ e = 6 then 101056512 else if e = 3 then 84148229 else 100925511
def endV (e : Int) : FEnd := if e = 7 then .txt offT else if e = 10 ∨ e = 6 then .txt wornT else .sent (famN (codeV e))
/-- what stands in the fault -/
def CauV (w : World) (a : Nat → Addr) (e : Int) (u : Value) : Prop := (e = 0 ∧ u = .nilIface) ∨ (e ≠ 0 ∧ Ch w a (endV e) [codeV e] u)
def CauseR (a : Nat → Addr) (e : Int) (w : World) (E : Ending) (w' : World) : Prop := ∃ u, E = .returned (.agg #[u]) ∧ CauV w' a e u ∧ Below w.heap.size w w'
theorem CauV.below {w w' : World} {a : Nat → Addr} {e : Int} {u : Value} (h : CauV w a e u) (hb : Below w.heap.size w w') : CauV w' a e u := h.elim .inl (fun h => .inr ⟨h.1, Ch.below hb h.2⟩)
theorem CauV.only {w w' : World} {a : Nat → Addr} {e : Int} {u : Value} {g : Nat} {xs : Array Value} (h : CauV w a e u) (hB : Blk w g 145 xs) (ho : Only (fun k => k = g) w w') : CauV w' a e u := h.elim .inl (fun h => .inr ⟨h.1, Ch.only1 hB (by decide) (by decide) ho h.2⟩)
theorem CauV.shape {w : World} {a : Nat → Addr} {e : Int} {u : Value} (h : CauV w a e u) : (e = 0 ∧ u = .nilIface) ∨ (e ≠ 0 ∧ ∃ tt x, u = .iface tt x) := h.elim .inl (fun h => .inr ⟨h.1, ch_iface h.2⟩)
theorem va_cause (e : Int) (a : Nat → Addr) (w : World) {M : Nat} (hG : GV w a M) : Calls Tryz.prog 133 #[.int .i64 e] w (CauseR a e w) := by
  have q0 := blk_one w 145 #[.nilIface]
  have hb0 := below_alloc (Below.refl w.heap.size w) (.cells #[.nilIface] 145)
  obtain ⟨W0, hW0⟩ : ∃ W, W = w.alloc (.cells #[.nilIface] 145) := ⟨_, rfl⟩
  rw [← hW0] at q0 hb0
  have hG0 := hG.below hb0
  have HO := hide (fa_Of 101056512 a offT W0 (by decide))
  have HW := hide (fa_Of 101056512 a wornT W0 (by decide))
  have HM := hide (fa_New 84148229 a W0 (by decide) hG0)
  have HI := hide (fa_New 100925511 a W0 (by decide) hG0)
  rw [show cntN 101056512 = 101056512 from rfl, show bs offT = (⟨#[116, 104, 101, 32, 112, 111, 119, 101, 114, 32, 105, 115, 32, 111, 102, 102]⟩ : ByteArray) from rfl] at HO
  rw [show cntN 101056512 = 101056512 from rfl, show bs wornT = (⟨#[110, 111, 32, 115, 101, 99, 116, 111, 114, 32, 98, 101, 97, 114, 115, 32, 105, 116]⟩ : ByteArray) from rfl] at HW
  rw [show cntN 84148229 = 84148229 from rfl] at HM
  rw [show cntN 100925511 = 100925511 from rfl] at HI
  have HQ := hide q0
  have HB := hide hb0
  have HW0 := hide hW0
  obtain ⟨P, hP⟩ : ∃ P, P = w.heap.size := ⟨_, rfl⟩
  rw [← hP] at HQ
  have HP := hide hP
  have c0 := HQ.out.cell 0 (u := .nilIface) rfl
  have f0 := HQ.out.frozen 0
  have fin : ∀ (u : Value) (w1 : World) (E : FEnd) (c : Nat), Ch w1 a E [c] u → Below W0.heap.size W0 w1 → e ≠ 0 → endV e = E → codeV e = c → CauseR a e w (.returned (.agg #[u])) (w1.setCell ⟨P, 0, none⟩ u) := by
    intro u w1 E c hC hb h0 hE hc
    subst hE hc
    have q1 := HQ.out.below hb HQ.out.lt
    refine ⟨u, rfl, ?_, below_set (below_step hb HB.out) (p := ⟨P, 0, none⟩) (by rw [HP.out]; exact Nat.le_refl _) _⟩
    exact CauV.only (.inr ⟨h0, hC⟩) q1 (Only.set (fun k => k = P) (Only.refl _ w1) (p := P) (i := 0) rfl u)
  have HFIN := hide fin
  clear hG hG0 q0 hb0 hW0 hP fin
  by_cases h0 : e = 0
  · subst h0
    have HZ := hide (show CauseR a 0 w (.returned (.agg #[.nilIface])) W0 from ⟨.nilIface, rfl, .inl ⟨rfl, rfl⟩, HB.out⟩)
    go_enter Tryz.func133, Tryz.ntmps133
    go_wp2_with fail
    rw [← HW0.out, ← HP.out]
    exact ret_fault rfl rfl (by rfl) HQ.out HZ.out
  by_cases h7 : e = 7
  · subst h7
    clear h0
    go_enter Tryz.func133, Tryz.ntmps133
    go_wp2_with fail
    rw [← HW0.out, ← HP.out]
    refine HO.out.mono ?_
    rintro e w1 ⟨u, rfl, hC, hb⟩
    obtain ⟨tt, x, rfl⟩ := ch_iface hC
    have q1 := HQ.out.below hb HQ.out.lt
    have c1 := q1.cell 0 (u := .nilIface) rfl
    have f1 := q1.frozen 0
    have HF := hide (HFIN.out _ w1 _ _ hC hb (by decide) rfl rfl)
    clear hC hb c0 f0
    go_wp2_with fail
    exact ret_fault rfl rfl (by rfl) (q1.set_ 0 _) HF.out
  by_cases h10 : e = 10
  · subst h10
    clear h0 h7
    go_enter Tryz.func133, Tryz.ntmps133
    go_wp2_with fail
    rw [← HW0.out, ← HP.out]
    refine HW.out.mono ?_
    rintro e w1 ⟨u, rfl, hC, hb⟩
    obtain ⟨tt, x, rfl⟩ := ch_iface hC
    have q1 := HQ.out.below hb HQ.out.lt
    have c1 := q1.cell 0 (u := .nilIface) rfl
    have f1 := q1.frozen 0
    have HF := hide (HFIN.out _ w1 _ _ hC hb (by decide) rfl rfl)
    clear hC hb c0 f0
    go_wp2_with fail
    exact ret_fault rfl rfl (by rfl) (q1.set_ 0 _) HF.out
  by_cases h6 : e = 6
  · subst h6
    clear h0 h7 h10
    go_enter Tryz.func133, Tryz.ntmps133
    go_wp2_with fail
    rw [← HW0.out, ← HP.out]
    refine HW.out.mono ?_
    rintro e w1 ⟨u, rfl, hC, hb⟩
    obtain ⟨tt, x, rfl⟩ := ch_iface hC
    have q1 := HQ.out.below hb HQ.out.lt
    have c1 := q1.cell 0 (u := .nilIface) rfl
    have f1 := q1.frozen 0
    have HF := hide (HFIN.out _ w1 _ _ hC hb (by decide) rfl rfl)
    clear hC hb c0 f0
    go_wp2_with fail
    exact ret_fault rfl rfl (by rfl) (q1.set_ 0 _) HF.out
  by_cases h3 : e = 3
  · subst h3
    clear h0 h7 h10 h6
    go_enter Tryz.func133, Tryz.ntmps133
    go_wp2_with fail
    rw [← HW0.out, ← HP.out]
    refine HM.out.mono ?_
    rintro e w1 ⟨u, rfl, hC, hb⟩
    obtain ⟨tt, x, rfl⟩ := ch_iface hC
    have q1 := HQ.out.below hb HQ.out.lt
    have c1 := q1.cell 0 (u := .nilIface) rfl
    have f1 := q1.frozen 0
    have HF := hide (HFIN.out _ w1 _ _ hC hb (by decide) rfl rfl)
    clear hC hb c0 f0
    go_wp2_with fail
    exact ret_fault rfl rfl (by rfl) (q1.set_ 0 _) HF.out
  have g0 : (e == 0) = false := by simpa using h0
  have g7 : (e == 7) = false := by simpa using h7
  have g10 : (e == 10) = false := by simpa using h10
  have g6 : (e == 6) = false := by simpa using h6
  have g3 : (e == 3) = false := by simpa using h3
  have HE := hide (show e ≠ 0 ∧ endV e = .sent (famN 100925511) ∧ codeV e = 100925511 from by
    have hc : codeV e = 100925511 := by unfold codeV; rw [if_neg h0, if_neg (by omega), if_neg h3]
    refine ⟨h0, ?_, hc⟩
    unfold endV
    rw [if_neg h7, if_neg (by omega), hc])
  clear h0 h7 h10 h6 h3
  go_enter Tryz.func133, Tryz.ntmps133
  go_wp2_with fail
  rw [← HW0.out, ← HP.out]
  refine HI.out.mono ?_
  rintro e w1 ⟨u, rfl, hC, hb⟩
  obtain ⟨tt, x, rfl⟩ := ch_iface hC
  have q1 := HQ.out.below hb HQ.out.lt
  have c1 := q1.cell 0 (u := .nilIface) rfl
  have f1 := q1.frozen 0
  have HF := hide (HFIN.out _ w1 _ _ hC hb HE.out.1 HE.out.2.1 HE.out.2.2)
  clear hC hb c0 f0
  go_wp2_with fail
  exact ret_fault rfl rfl (by rfl) (q1.set_ 0 _) HF.out
end
end Go.Proofs.YtehabbnohoomjaaGreatDoor
