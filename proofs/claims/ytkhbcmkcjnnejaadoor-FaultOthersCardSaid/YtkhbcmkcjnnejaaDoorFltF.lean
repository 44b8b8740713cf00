/- Package fault: New, Under, Of. -/
import Derived.Test.YtkhbcmkcjnnejaaDoorFltE
import Derived.Test.YtkhbcmkcjnnejaaDoorHeldT
namespace Go.Proofs.YtkhbcmkcjnnejaaDoor
set_option linter.unusedVariables false
set_option linter.unusedSimpArgs false
set_option linter.unnecessarySimpa false
open Go.RowKit Go.Extern.Stop Go.Stop Go.Extern
set_option maxRecDepth 20000
set_option maxHeartbeats 8000000

theorem fs_size : (Tryd.prog.info? 28).map (·.size) = some 1 := by kernel_rfl
/-- a fault made: a chain, in new memory -/
def MadeF (a : Nat → Addr) (e : FEnd) (cs : List Nat) (w : World) (r : Ending) (w' : World) : Prop := ∃ v, r = .returned (.agg #[v]) ∧ Ch w' a e cs v ∧ Below w.heap.size w w'
theorem ret_fault {fn : Func} {p : Tmp} (h : fn.results = #[.cell p 28]) {x : Act} {w : World} {g : Nat} {v : Value} {R : Ending → World → Prop} (hd : x.defers = []) (hp : x.tmps.getD p undef = .pointer (some ⟨g, 0, none⟩))
    (hB : Blk w g 28 #[v]) (hR : R (.returned (.agg #[v])) w) : bodyPost Tryd.prog fn R .ret x w := by
  exact bodyPost_ret (results_cell_row (P := Tryd.prog) h x.tmps w g _ #[v] (0, 0) _ hp hB Tryd.underlying28 rfl fs_size) hd hR
theorem blk_tne {w : World} {g p : Nat} {t u : TypeId} {cs ds : Array Value} (h : Blk w g t cs) (k : Blk w p u ds) (hne : t ≠ u) : p ≠ g := by
  rintro rfl
  have h1 := h.symm.trans k
  injection h1 with h1
  injection h1 with _ h1
  exact hne h1
/-- a fault's own cell is stored into -/
theorem Ch.far {w : World} {a : Nat → Addr} {e : FEnd} {g i : Nat} {xs : Array Value} (hB : Blk w g 28 xs) (u : Value) : ∀ {cs : List Nat} {v : Value}, Ch w a e cs v → Ch (w.setCell ⟨g, i, none⟩ u) a e cs v
  | [], v, h => by
    cases e with
    | sent n => exact h
    | txt t => obtain ⟨p, h1, h2⟩ := h; exact ⟨p, h1, h2.far (p := ⟨g, i, none⟩) (blk_tne hB h2 (by decide)) u⟩
  | c :: cs, v, h => by
    obtain ⟨p, x, h1, h2, h3⟩ := h
    exact ⟨p, x, h1, h2.far (p := ⟨g, i, none⟩) (blk_tne hB h2 (by decide)) u, h3.far hB u⟩
theorem fa_New (c : Nat) (a : Nat → Addr) (w : World) (hc : c ≤ 4294967295) {M : Nat} (hG : GV w a M) : Calls Tryd.prog 18 #[.int .u32 (c : Nat)] w (MadeF a (.sent (famN (cntN c))) [cntN c] w) := by
  have hq := blk_one w 28 #[.nilIface]
  have hb := below_alloc (Below.refl w.heap.size w) (.cells #[.nilIface] 28)
  have hk : cntN c ≤ 4294967295 := by unfold cntN; split <;> omega
  have HC := hide (fun W => fa_counts c W hc)
  have h1 := famN_cnt c
  have h5 := famN_le (cntN c)
  obtain ⟨k, hkk⟩ : ∃ k, k = cntN c := ⟨_, rfl⟩
  rw [← hkk] at HC hk h1 h5 ⊢
  have HF := hide (fun W => fa_family k W hk)
  obtain ⟨n, hn⟩ : ∃ n, n = famN k := ⟨_, rfl⟩
  rw [← hn] at HF h1 h5 ⊢
  have HBS := hide (fun W (h : Below w.heap.size w W) => fa_base n a W (hG.below h) h1 h5)
  have HB := hide hb
  clear hkk hn hG hb hc
  go_enter Tryd.func18, Tryd.ntmps18
  go_wp2_with fail
  refine (HC.out _).mono ?_
  rintro e w1 ⟨rfl, rfl⟩
  go_wp2_with fail
  refine (HF.out _).mono ?_
  rintro e w1 ⟨rfl, rfl⟩
  go_wp2_with fail
  refine (HBS.out _ HB.out).mono ?_
  rintro e w1 ⟨rfl, rfl⟩
  go_wp2_with fail
  have kk := blk_two w 28 52 #[.iface 48 (.pointer (some ⟨w.heap.size + 1, 0, none⟩))] #[.int .u32 (k : Nat), .iface 97 (.pointer (some (a n)))]
  refine ret_fault rfl rfl (by rfl) kk.1 ?_
  exact ⟨_, rfl, ⟨_, _, rfl, kk.2, rfl⟩, below_alloc (below_alloc (Below.refl _ _) _) _⟩
theorem fa_Of (c : Nat) (a : Nat → Addr) (t : List UInt8) (w : World) (hc : c ≤ 4294967295) : Calls Tryd.prog 25 #[.int .u32 (c : Nat), .string (bs t)] w (MadeF a (.txt t) [cntN c] w) := by
  have HC := hide (fun W => fa_counts c W hc)
  obtain ⟨k, hkk⟩ : ∃ k, k = cntN c := ⟨_, rfl⟩
  rw [← hkk] at HC ⊢
  clear hkk hc
  go_enter Tryd.func25, Tryd.ntmps25
  go_wp2_with fail
  refine (HC.out _).mono ?_
  rintro e w1 ⟨rfl, rfl⟩
  go_wp2_with fail
  have kk := blk_three w 28 63 52 #[.iface 48 (.pointer (some ⟨w.heap.size + 2, 0, none⟩))] #[.string (bs t)] #[.int .u32 (k : Nat), .iface 61 (.pointer (some ⟨w.heap.size + 1, 0, none⟩))]
  refine ret_fault rfl rfl (by rfl) kk.1 ?_
  exact ⟨_, rfl, ⟨_, _, rfl, kk.2.2, _, rfl, kk.2.1⟩, below_alloc (below_alloc (below_alloc (Below.refl _ _) _) _) _⟩
theorem fa_Under0 (c : Nat) (a : Nat → Addr) (w : World) (hc : c ≤ 4294967295) {M : Nat} (hG : GV w a M) : Calls Tryd.prog 23 #[.int .u32 (c : Nat), .agg #[.nilIface]] w (MadeF a (.sent (famN (cntN c))) [cntN c] w) := by
  have hb := below_alloc (below_alloc (Below.refl w.heap.size w) (.cells #[.nilIface] 28)) (.cells #[.nilIface] 28)
  have HN := hide (fa_New c a _ hc (hG.below hb))
  have kk := blk_two w 28 28 #[.nilIface] #[.nilIface]
  have HB := hide hb
  have HK := hide kk.2
  clear hG hb kk hc
  go_enter Tryd.func23, Tryd.ntmps23
  go_wp2_with fail
  refine HN.out.mono ?_
  rintro e w1 ⟨v, rfl, hC, hb1⟩
  have q1 := HK.out.below hb1 (by simp)
  have HQ1 := hide q1
  have HB1 := hide (below_step hb1 HB.out)
  have HC := hide hC
  have x1 := q1.cell 0 (u := .nilIface) rfl
  have x2 := q1.frozen 0
  obtain ⟨tt, x, rfl⟩ := ch_iface hC
  clear hC hb1 q1
  go_wp2_with fail
  refine ret_fault rfl rfl (by rfl) (HQ1.out.set_ 0 _) ?_
  exact ⟨_, rfl, HC.out.far HQ1.out _, below_set HB1.out (p := ⟨w.heap.size + 1, 0, none⟩) (by simp) _⟩
theorem fa_Under (c : Nat) (a : Nat → Addr) (e : FEnd) (cs : List Nat) (v : Value) (w : World) (hc : c ≤ 4294967295) (hC : Ch w a e cs v) : Calls Tryd.prog 23 #[.int .u32 (c : Nat), .agg #[v]] w (MadeF a e (cntN c :: cs) w) := by
  have HK := hide (fun W => fa_counts c W hc)
  obtain ⟨k, hkk⟩ : ∃ k, k = cntN c := ⟨_, rfl⟩
  rw [← hkk] at HK ⊢
  obtain ⟨tt, x, rfl⟩ := ch_iface hC
  have kk := blk_two w 28 28 #[.iface tt x] #[.nilIface]
  have hb := below_alloc (below_alloc (Below.refl w.heap.size w) (.cells #[.iface tt x] 28)) (.cells #[.nilIface] 28)
  have HC := hide (hC.below hb)
  have HB := hide hb
  have HKK := hide kk
  obtain ⟨R, hR⟩ : ∃ R, R = w.heap.size + 1 := ⟨_, rfl⟩
  have HR := hide hR
  have hRw : w.heap.size < R := by omega
  rw [← hR] at HKK
  clear hkk hc hC hb kk hR
  go_enter Tryd.func23, Tryd.ntmps23
  go_wp2_with fail
  rw [← HR.out]
  refine wp_gen (P := fun W => Blk W w.heap.size 28 #[.iface tt x] ∧ Blk W R 28 #[.nilIface] ∧ Ch W a e cs (.iface tt x) ∧ Below w.heap.size w W) ⟨HKK.out.1, HKK.out.2, HC.out, HB.out⟩ ?_
  rintro W ⟨hk0, hk1, hCW, hBW⟩
  have x0 := hk0.cell 0 (u := .iface tt x) rfl
  have x1 := hk1.cell 0 (u := .nilIface) rfl
  have x2 := hk1.frozen 0
  have hk3 := (hk1.drew.alloc (.cells #[.int .u32 (k : Nat), .iface tt x] 52))
  have y0 := (hk0.drew.alloc (.cells #[.int .u32 (k : Nat), .iface tt x] 52)).cell 0 (u := .iface tt x) rfl
  have y1 := hk3.cell 0 (u := .nilIface) rfl
  have y2 := (hk1.alloc (.cells #[.int .u32 (k : Nat), .iface tt x] 52)).frozen 0
  have y3 := (hk1.alloc (.cells #[.int .u32 (k : Nat), .iface tt x] 52)).cell 0 (u := .nilIface) rfl
  have HK1 := hide hk1
  have HCW := hide hCW
  have HBW := hide hBW
  clear hk0 hk1 hCW hBW hk3
  refine wp_region_T (fun w' => w'.cell? ⟨w.heap.size, 0, none⟩ = some (.iface tt x) ∧ w'.cell? ⟨R, 0, none⟩ = some .nilIface) [0, 1, 2, 3, 4, 5, 6, 7] (by kernel_rfl) ?hS1 (fun hHeld => ?rest1)
  case hS1 => ((try dsimp only); exact ⟨x0, x1⟩)
  case' rest1 => skip
  refine wpAnyT_take (by kernel_rfl) (by kernel_rfl) (i := 0) (oi := _) (v := ?v2) rfl (by kernel_rfl) (by kernel_rfl) (by kernel_rfl) (fun _ _ _ h => h) (Or.inl ⟨by rfl, ?hy2⟩) (by assumption) ?rest2
  case hy2 => ((intro w hSw; (try dsimp only at hSw); go_simp) <;> with_reducible rfl)
  case' rest2 => try simp only [List.getElem_toArray, List.getElem_cons_zero, List.getElem_cons_succ, Act.put, List.setIfInBounds_toArray, List.set_cons_zero, List.set_cons_succ]
  refine wpAnyT_take (by kernel_rfl) (by kernel_rfl) (i := 2) (oi := _) (v := ?v3) rfl (by kernel_rfl) (by kernel_rfl) (by kernel_rfl) (fun _ _ _ h => h) (Or.inl ⟨by rfl, ?hy3⟩) (by assumption) ?rest3
  case hy3 => ((intro w hSw; (try dsimp only at hSw); go_simp) <;> with_reducible rfl)
  case' rest3 => try simp only [List.getElem_toArray, List.getElem_cons_zero, List.getElem_cons_succ, Act.put, List.setIfInBounds_toArray, List.set_cons_zero, List.set_cons_succ]
  refine wpAnyT_take (by kernel_rfl) (by kernel_rfl) (i := 3) (oi := _) (v := ?v4) rfl (by kernel_rfl) (by kernel_rfl) (by kernel_rfl) (fun _ _ _ h => h) (Or.inl ⟨by rfl, ?hy4⟩) (by assumption) ?rest4
  case hy4 => ((intro w hSw; (try dsimp only at hSw); go_simp) <;> with_reducible rfl)
  case' rest4 => try simp only [List.getElem_toArray, List.getElem_cons_zero, List.getElem_cons_succ, Act.put, List.setIfInBounds_toArray, List.set_cons_zero, List.set_cons_succ]
  refine wpAnyT_one (i := 1) (o := _) rfl (by kernel_rfl) (fun K hK => ?_)
  go_simp
  refine (HK.out _).mono ?_
  rintro e w1 ⟨rfl, rfl⟩
  try dsimp only
  refine hK.out _ _ ?hS6 (fun hHeld => ?rest6)
  case hS6 => ((try dsimp only); (exact ⟨x0, x1⟩))
  case' rest6 => (clear hK K; try simp only [List.getElem_toArray, List.getElem_cons_zero, List.getElem_cons_succ, Act.put, List.setIfInBounds_toArray, List.set_cons_zero, List.set_cons_succ])
  refine wpAnyT_take (by kernel_rfl) (by kernel_rfl) (i := 4) (oi := _) (v := ?v7) rfl (by kernel_rfl) (by kernel_rfl) (by kernel_rfl) (fun _ _ _ h => h) (Or.inl ⟨by rfl, ?hy7⟩) (by assumption) ?rest7
  case hy7 => ((intro w hSw; (try dsimp only at hSw); go_simp) <;> with_reducible rfl)
  case' rest7 => try simp only [List.getElem_toArray, List.getElem_cons_zero, List.getElem_cons_succ, Act.put, List.setIfInBounds_toArray, List.set_cons_zero, List.set_cons_succ]
  refine wpAnyT_one (i := 5) (o := _) rfl (by kernel_rfl) (fun K hK => ?_)
  go_simp
  refine hK.out _ _ ?hS9 (fun hHeld => ?rest9)
  case hS9 => ((try dsimp only); (exact ⟨y0, y1⟩))
  case' rest9 => (clear hK K; try simp only [List.getElem_toArray, List.getElem_cons_zero, List.getElem_cons_succ, Act.put, List.setIfInBounds_toArray, List.set_cons_zero, List.set_cons_succ])
  refine wpAnyT_take (by kernel_rfl) (by kernel_rfl) (i := 6) (oi := _) (v := ?v10) rfl (by kernel_rfl) (by kernel_rfl) (by kernel_rfl) (fun _ _ _ h => h) (Or.inl ⟨by rfl, ?hy10⟩) (by assumption) ?rest10
  case hy10 => ((intro w hSw; (try dsimp only at hSw); go_simp) <;> with_reducible rfl)
  case' rest10 => try simp only [List.getElem_toArray, List.getElem_cons_zero, List.getElem_cons_succ, Act.put, List.setIfInBounds_toArray, List.set_cons_zero, List.set_cons_succ]
  refine wpAnyT_take (by kernel_rfl) (by kernel_rfl) (i := 7) (oi := _) (v := ?v11) rfl (by kernel_rfl) (by kernel_rfl) (by kernel_rfl) (fun _ _ _ h => h) (Or.inl ⟨by rfl, ?hy11⟩) (by assumption) ?rest11
  case hy11 => ((intro w hSw; (try dsimp only at hSw); go_simp) <;> with_reducible rfl)
  case' rest11 => try simp only [List.getElem_toArray, List.getElem_cons_zero, List.getElem_cons_succ, Act.put, List.setIfInBounds_toArray, List.set_cons_zero, List.set_cons_succ]
  refine wpAnyT_late (i := 8) (o := _) rfl (by kernel_rfl) (by kernel_rfl) (fun K hK => ?_)
  go_simp
  refine hK.out _ _ ?rest13
  case' rest13 => (clear hK K; try simp only [List.getElem_toArray, List.getElem_cons_zero, List.getElem_cons_succ, Act.put, List.setIfInBounds_toArray, List.set_cons_zero, List.set_cons_succ])
  refine wpAnyT_done (by kernel_rfl) ?_ _
  repeat (clear hHeld)
  go_wp2_with fail
  have hz := HK1.out.lt
  refine ret_fault rfl rfl (by rfl) (((HK1.out.alloc _).set_ 0 _).drew) ?_
  refine ⟨_, rfl, ⟨_, _, rfl, ((blk_one _ _ _).far (p := ⟨R, 0, none⟩) (by simp; omega) _).drew, ?_⟩, below_drew1 (below_set (below_alloc HBW.out _) (p := ⟨R, 0, none⟩) (by simp; omega) _)⟩
  exact ((HCW.out.below (below_alloc (Below.refl _ _) _)).far (HK1.out.alloc _) _).below (below_drew1 (Below.refl _ _))
end Go.Proofs.YtkhbcmkcjnnejaaDoor
