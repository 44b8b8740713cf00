/- Package journal: look, Open. -/
import Derived.Test.YtehabbnohoomjaaGreatDoorNv20
import Derived.Test.YtehabbnohoomjaaGreatDoorNv08
namespace Go.Proofs.YtehabbnohoomjaaGreatDoor
section
set_option linter.unusedVariables false
set_option linter.unusedSimpArgs false
set_option linter.unnecessarySimpa false
open Go.RowKit
set_option maxRecDepth 20000
set_option maxHeartbeats 4000000

/-- a look appended, in a region that draws its order -/
theorem wp_app_lk {F : Nat → Prop} {o : Oper} {a : Act} {K : Act → World → Prop} {Q : Exit → Act → World → Prop} {w : World} (s x : Operand)
    (ho : o.op = .call { callee := .builtin .append, args := #[s, x], argTypes := #[125, 125] })
    (A : Option Addr) (n c : Nat) (L : List LK) (ds : List (Option Addr × Nat)) (hs : a.eval s = .slice A n c) (hown : OwnLk w F A n c L ds)
    (v : LK) (d : Option Addr × Nat) (A2 : Option Addr) (hx : a.eval x = .slice A2 1 1)
    (hr : Sl w A2 (lkF v d)) (hv : OwnB w 0 d.1 v.d.length d.2 v.d) (hvF : FIn F d.1) (hF : ∀ g, w.heap.size ≤ g → F g)
    (hb : n ≤ 34359738)
    (h : ∀ A' c' w', OwnLk w' F A' (n + 1) c' (L ++ [v]) (ds ++ [d]) → w.grownBy w' (Value.ownBlock (.slice A n c)) → (A' = A ∨ A' = some ⟨w.heap.size, 0, none⟩) → K (a.put o.dst (.slice A' (n + 1) c')) w') : Oper.wp Tryz.prog o a w K Q := by
  obtain ⟨i0, hi0, hz0, hz1, hz2⟩ := info_parts infoLk
  obtain ⟨A', c', w', hr', h2, h3, h4⟩ := run_app (P := Tryz.prog) w 0 125 o.type 131 i0 _ 6 64 Tryz.underlying125 hi0 hz0 hz1 hz2 rfl (by omega) A n c _ hown.own A2 1 1 _ (by rw [lkF_len]) hr (lkF_one v d) (by unfold maxLen; omega) (by omega) (Nat.zero_le _)
  unfold Oper.wp execOp
  simp only [ho, resolve, invoke, builtin, Sem.run_bind, Sem.run_pure, Result.andThen_ok, List.map_toArray, List.map_cons, List.map_nil, hs, hx, hr']
  exact h A' c' w' (hown.snoc (by decide) h2 h3 h4 hF hv hvF) h3 h4
theorem lk_size : (Tryz.prog.info? 131).map (·.size) = some 6 := by kernel_rfl
def lkV (x : LK) (A : Option Addr) (c : Nat) : Array Value := #[.int .i64 x.k, .int .u32 (x.m : Nat), .slice A x.d.length c, .int .i64 (x.cnt : Nat), .int .i64 (x.en : Nat), .bool x.cl]
theorem ret_lk_tmp {fn : Func} {p u : Tmp} (h : fn.results = #[.cell p 131, .tmp u]) {a : Act} {w : World} {g : Nat} {x : LK} {A : Option Addr} {c : Nat} {R : Ending → World → Prop} (hd : a.defers = []) (hp : a.tmps.getD p undef = .pointer (some ⟨g, 0, none⟩))
    (hB : Blk w g 131 (lkV x A c)) (hR : R (.returned (.tuple #[.agg (lkV x A c), a.tmps.getD u undef])) w) : bodyPost Tryz.prog fn R .ret a w := by
  refine bodyPost_ret ?_ hd hR
  rw [results_cell_tmp h, hp]
  simp only [asAddr, Sem.run_pure, Result.andThen_ok]
  rw [run_loadVar_row w g _ _ _ _ _ hB Tryz.underlying131 rfl (show _ = some (lkV x A c).size from lk_size)]
  rfl
/-- a look stored whole into a block of the call's own -/
theorem put6_blk {w : World} {g : Nat} {t : TypeId} {l : List Value} (hB : Blk w g t l.toArray) (hl : l.length = 6) (x : LK) (A : Option Addr) (c : Nat) :
    Blk ((((((w.setCell ⟨g, 0, none⟩ (.int .i64 x.k)).setCell ⟨g, 1, none⟩ (.int .u32 (x.m : Nat))).setCell ⟨g, 2, none⟩ (.slice A x.d.length c)).setCell ⟨g, 3, none⟩ (.int .i64 (x.cnt : Nat))).setCell ⟨g, 4, none⟩ (.int .i64 (x.en : Nat))).setCell ⟨g, 5, none⟩ (.bool x.cl)) g t (lkV x A c) := by
  have h := blk_setL (blk_setL (blk_setL (blk_setL (blk_setL (blk_setL hB 0 (.int .i64 x.k)) 1 (.int .u32 (x.m : Nat))) 2 (.slice A x.d.length c)) 3 (.int .i64 (x.cnt : Nat))) 4 (.int .i64 (x.en : Nat))) 5 (.bool x.cl)
  have e : (((((l.set 0 (.int .i64 x.k)).set 1 (.int .u32 (x.m : Nat))).set 2 (.slice A x.d.length c)).set 3 (.int .i64 (x.cnt : Nat))).set 4 (.int .i64 (x.en : Nat))).set 5 (.bool x.cl) = [.int .i64 x.k, .int .u32 (x.m : Nat), .slice A x.d.length c, .int .i64 (x.cnt : Nat), .int .i64 (x.en : Nat), .bool x.cl] := by
    match l, hl with
    | [_, _, _, _, _, _], _ => rfl
  rw [e] at h
  exact h
theorem put6_only (w : World) (g : Nat) (x : LK) (A : Option Addr) (c : Nat) :
    Only (fun k => k = g) w ((((((w.setCell ⟨g, 0, none⟩ (.int .i64 x.k)).setCell ⟨g, 1, none⟩ (.int .u32 (x.m : Nat))).setCell ⟨g, 2, none⟩ (.slice A x.d.length c)).setCell ⟨g, 3, none⟩ (.int .i64 (x.cnt : Nat))).setCell ⟨g, 4, none⟩ (.int .i64 (x.en : Nat))).setCell ⟨g, 5, none⟩ (.bool x.cl)) :=
  Only.set (fun k => k = g) (Only.set (fun k => k = g) (Only.set (fun k => k = g) (Only.set (fun k => k = g) (Only.set (fun k => k = g) (Only.set (fun k => k = g) (Only.refl _ _) rfl _) rfl _) rfl _) rfl _) rfl _) rfl _
theorem jo_look (q : FP) (S : FS) (i : Nat) (w : World) (hD : FD w q S) (hoff : S.off = false) (hi : i < S.wear.length) :
    Calls Tryz.prog 80 #[.pointer (some ⟨q.p, 0, none⟩), .int .i64 (i : Nat)] w fun e w' => ∃ A c, e = .returned (.tuple #[.agg (lkV (lookL (secB S.b i)) A c), .int .i64 0]) ∧ OwnB w' w.heap.size A (lookL (secB S.b i)).d.length c (lookL (secB S.b i)).d ∧ Below w.heap.size w w' := by
  have q0 := blk_one w 131 #[.int .i64 0, .int .u32 0, .slice none 0 0, .int .i64 0, .int .i64 0, .bool false]
  have hb0 := below_alloc (Below.refl w.heap.size w) (.cells #[.int .i64 0, .int .u32 0, .slice none 0 0, .int .i64 0, .int .i64 0, .bool false] 131)
  have hlen := hD.fit.len
  have h8 := hD.fit.wl8
  have HRD := hide (fl_Read q S (1024 * i) 1024 _ (hD.below hb0) hoff (by omega))
  have hsl : (secB S.b i).length = 1024 := secB_len (by omega)
  rw [show (S.b.drop (1024 * i)).take 1024 = secB S.b i from rfl] at HRD
  obtain ⟨l, hl⟩ : ∃ l, l = secB S.b i := ⟨_, rfl⟩
  rw [← hl] at HRD hsl ⊢
  obtain ⟨x, hx⟩ : ∃ x, x = lookL l := ⟨_, rfl⟩
  have HX := hide hx
  rw [← hx]
  obtain ⟨k, hk⟩ : ∃ k, k = 1024 * i := ⟨_, rfl⟩
  have hki : ((i : Int) * 1024) = ((k : Nat) : Int) := by omega
  rw [← hk] at HRD
  have hi8 : i ≤ 7 := by omega
  have HSL := hide hsl
  clear hD hoff hlen hx hl hk hsl h8 hi
  have HQ := hide q0
  have HB0 := hide hb0
  clear q0 hb0
  unfold lkV
  go_enter Tryz.func80, Tryz.ntmps80
  go_wp2_with fail
  refine HRD.out.mono ?_
  rintro e w1 ⟨A1, c1, rfl, hO1, hb1⟩
  have HO1 := hide hO1
  have q1 := HQ.out.below hb1 HQ.out.lt
  have HQ1 := hide q1
  have hbw1 := below_step hb1 HB0.out
  clear hO1
  obtain ⟨q1_c0, q1_c1, q1_c2, q1_c3, q1_c4, q1_c5⟩ := cel6 q1
  have q1_f := q1.frozen
  go_wp2_with fail
  refine (sec_of A1 1024 c1 l w1 HSL.out.symm HO1.out.le (by omega) HO1.out.sl).mono ?_
  rintro e w2 ⟨A2, n2, c2, rfl, hO2, hb2⟩
  rw [← HX.out] at hO2 ⊢
  obtain rfl : n2 = x.d.length := hO2.hn
  have q2 := HQ1.out.below hb2 HQ1.out.lt
  have HQ2 := hide q2
  have HO2 := hide hO2
  have hbw2 := below_step hb2 hbw1
  have z1 := hb1.size
  clear hO2
  clear q1_c0 q1_c1 q1_c2 q1_c3 q1_c4 q1_c5 q1_f
  obtain ⟨q2_c0, q2_c1, q2_c2, q2_c3, q2_c4, q2_c5⟩ := cel6 q2
  have q2_f := q2.frozen
  go_wp2_with fail
  simp only [World.size_alloc] at z1
  refine ret_lk_tmp (x := x) (A := A2) (c := c2) rfl rfl (by rfl) (put6_blk HQ2.out rfl x A2 c2) ?_
  refine ⟨A2, c2, rfl, ?_, ?_⟩
  · exact ⟨HO2.out.hn, HO2.out.own.keep (fun g hg hlt _ => (put6_only w2 w.heap.size x A2 c2).block g hlt (by omega)) |>.mono (by omega)⟩
  · exact below_only (put6_only w2 w.heap.size x A2 c2) hbw2 (fun i hi => by omega)
end
end Go.Proofs.YtehabbnohoomjaaGreatDoor
