/- Package flash: do over a byte, Program. -/
import Derived.Test.YtehabbnohoomjaaGreatDoorNv18
import Derived.Test.YtehabbnohoomjaaGreatDoorNv08
namespace Go.Proofs.YtehabbnohoomjaaGreatDoor
section
set_option linter.unusedVariables false
set_option linter.unusedSimpArgs false
set_option linter.unnecessarySimpa false
open Go.RowKit
set_option maxRecDepth 20000
set_option maxHeartbeats 2000000

theorem and_byte (x y : UInt8) : bits BinOp.and IntKind.u8 (x.toNat : Int) (y.toNat : Int) = (((x &&& y).toNat : Nat) : Int) := by
  rw [u8_and_nat _ _ x.toNat_lt y.toNat_lt, UInt8.toNat_and]
theorem or_byte (x y : UInt8) : bits BinOp.or IntKind.u8 (x.toNat : Int) (y.toNat : Int) = (((x ||| y).toNat : Nat) : Int) := by
  rw [u8_or_nat _ _ x.toNat_lt y.toNat_lt, UInt8.toNat_or]
theorem fl_all (q : FP) (S : FS) (j : Nat) (x : UInt8) (w : World) (hD : FD w q S) (hj : j < S.b.length) :
    Calls Tryz.prog 195 #[.agg #[.pointer (some ⟨q.p, 0, none⟩), .int .u8 (x.toNat : Nat)], .int .i64 (j : Nat)] w fun e w' => e = .returned (.tuple #[]) ∧ FD w' q { S with b := S.b.set j (S.b.getD j 0 &&& x) } ∧ Only q.F w w' := by
  have HD := hide hD
  obtain ⟨⟨c0, -⟩, -⟩ := hD.c
  obtain ⟨cb, fb⟩ := hD.byte hj
  obtain ⟨y, hy⟩ : ∃ y, y = S.b.getD j 0 := ⟨_, rfl⟩
  rw [← hy] at cb ⊢
  obtain ⟨n, hn⟩ : ∃ n, n = S.b.length := ⟨_, rfl⟩
  rw [← hn] at c0 hj
  obtain ⟨i1, i2, i3⟩ := idx_at hj
  have hand := and_byte y x
  have zp := hD.blk.lt
  have zb := hD.gb_lt
  clear hD hn hy
  have q0 := blk_one w 265 #[.pointer (some ⟨q.p, 0, none⟩), .int .u8 (x.toNat : Nat)]
  have hb1 := below_alloc (Below.refl w.heap.size w) (.cells #[.pointer (some ⟨q.p, 0, none⟩), .int .u8 (x.toNat : Nat)] 265)
  have d0 := (hb1.cell (p := ⟨q.p, 0, none⟩) zp).trans c0
  have db := (hb1.cell (p := ⟨q.gb, j, none⟩) zb).trans cb
  have df := (hb1.frozen (p := ⟨q.gb, j, none⟩) zb).trans fb
  have HB1 := hide hb1
  obtain ⟨q0_c0, q0_c1⟩ := cel2 q0
  have q0_f := q0.frozen
  clear hb1 c0 cb fb q0
  go_enter Tryz.func195, Tryz.ntmps195
  go_wp2_with fail
  refine wp_region_T (fun w' => w'.cell? ⟨w.heap.size, 0, none⟩ = some (.pointer (some ⟨q.p, 0, none⟩)) ∧ w'.cell? ⟨w.heap.size, 1, none⟩ = some (.int .u8 (x.toNat : Nat)) ∧ w'.cell? ⟨q.p, 0, none⟩ = some (.slice (some ⟨q.gb, 0, none⟩) n q.cb) ∧ w'.cell? ⟨q.gb, j, none⟩ = some (.int .u8 (y.toNat : Nat))) [0, 1, 2, 3, 4, 5, 6, 7, 8, 9, 10, 11] (by kernel_rfl) ?hS1 (fun hHeld => ?rest1)
  case hS1 => ((try dsimp only); exact ⟨q0_c0, q0_c1, d0, db⟩)
  case' rest1 => skip
  refine wpAnyT_take (by kernel_rfl) (by kernel_rfl) (i := 0) (oi := _) (v := ?v2) rfl (by kernel_rfl) (by kernel_rfl) (by kernel_rfl) (fun _ _ _ h => h) (Or.inl ⟨by rfl, ?hy2⟩) (by assumption) ?rest2
  case hy2 => ((intro w hSw; (try dsimp only at hSw); go_simp) <;> with_reducible rfl)
  case' rest2 => try simp only [List.getElem_toArray, List.getElem_cons_zero, List.getElem_cons_succ, Act.put, List.setIfInBounds_toArray, List.set_cons_zero, List.set_cons_succ]
  refine wpAnyT_take (by kernel_rfl) (by kernel_rfl) (i := 1) (oi := _) (v := ?v3) rfl (by kernel_rfl) (by kernel_rfl) (by kernel_rfl) (fun _ _ _ h => h) (Or.inl ⟨by rfl, ?hy3⟩) (by assumption) ?rest3
  case hy3 => ((intro w hSw; (try dsimp only at hSw); go_simp) <;> with_reducible rfl)
  case' rest3 => try simp only [List.getElem_toArray, List.getElem_cons_zero, List.getElem_cons_succ, Act.put, List.setIfInBounds_toArray, List.set_cons_zero, List.set_cons_succ]
  refine wpAnyT_take (by kernel_rfl) (by kernel_rfl) (i := 2) (oi := _) (v := ?v4) rfl (by kernel_rfl) (by kernel_rfl) (by kernel_rfl) (fun _ _ _ h => h) (Or.inl ⟨by rfl, ?hy4⟩) (by assumption) ?rest4
  case hy4 => ((intro w hSw; (try dsimp only at hSw); go_simp) <;> with_reducible rfl)
  case' rest4 => try simp only [List.getElem_toArray, List.getElem_cons_zero, List.getElem_cons_succ, Act.put, List.setIfInBounds_toArray, List.set_cons_zero, List.set_cons_succ]
  refine wpAnyT_take (by kernel_rfl) (by kernel_rfl) (i := 3) (oi := _) (v := ?v5) rfl (by kernel_rfl) (by kernel_rfl) (by kernel_rfl) (fun _ _ _ h => h) (Or.inl ⟨by rfl, ?hy5⟩) (by assumption) ?rest5
  case hy5 => ((intro w hSw; (try dsimp only at hSw); go_simp) <;> with_reducible rfl)
  case' rest5 => try simp only [List.getElem_toArray, List.getElem_cons_zero, List.getElem_cons_succ, Act.put, List.setIfInBounds_toArray, List.set_cons_zero, List.set_cons_succ]
  refine wpAnyT_take (by kernel_rfl) (by kernel_rfl) (i := 4) (oi := _) (v := ?v6) rfl (by kernel_rfl) (by kernel_rfl) (by kernel_rfl) (fun _ _ _ h => h) (Or.inl ⟨by rfl, ?hy6⟩) (by assumption) ?rest6
  case hy6 => ((intro w hSw; (try dsimp only at hSw); go_simp) <;> with_reducible rfl)
  case' rest6 => try simp only [List.getElem_toArray, List.getElem_cons_zero, List.getElem_cons_succ, Act.put, List.setIfInBounds_toArray, List.set_cons_zero, List.set_cons_succ]
  refine wpAnyT_take (by kernel_rfl) (by kernel_rfl) (i := 5) (oi := _) (v := ?v7) rfl (by kernel_rfl) (by kernel_rfl) (by kernel_rfl) (fun _ _ _ h => h) (Or.inl ⟨by rfl, ?hy7⟩) (by assumption) ?rest7
  case hy7 => ((intro w hSw; (try dsimp only at hSw); go_simp) <;> with_reducible rfl)
  case' rest7 => try simp only [List.getElem_toArray, List.getElem_cons_zero, List.getElem_cons_succ, Act.put, List.setIfInBounds_toArray, List.set_cons_zero, List.set_cons_succ]
  refine wpAnyT_take (by kernel_rfl) (by kernel_rfl) (i := 6) (oi := _) (v := ?v8) rfl (by kernel_rfl) (by kernel_rfl) (by kernel_rfl) (fun _ _ _ h => h) (Or.inl ⟨by rfl, ?hy8⟩) (by assumption) ?rest8
  case hy8 => ((intro w hSw; (try dsimp only at hSw); go_simp) <;> with_reducible rfl)
  case' rest8 => try simp only [List.getElem_toArray, List.getElem_cons_zero, List.getElem_cons_succ, Act.put, List.setIfInBounds_toArray, List.set_cons_zero, List.set_cons_succ]
  refine wpAnyT_take (by kernel_rfl) (by kernel_rfl) (i := 7) (oi := _) (v := ?v9) rfl (by kernel_rfl) (by kernel_rfl) (by kernel_rfl) (fun _ _ _ h => h) (Or.inl ⟨by rfl, ?hy9⟩) (by assumption) ?rest9
  case hy9 => ((intro w hSw; (try dsimp only at hSw); go_simp) <;> with_reducible rfl)
  case' rest9 => try simp only [List.getElem_toArray, List.getElem_cons_zero, List.getElem_cons_succ, Act.put, List.setIfInBounds_toArray, List.set_cons_zero, List.set_cons_succ]
  refine wpAnyT_take (by kernel_rfl) (by kernel_rfl) (i := 8) (oi := _) (v := ?v10) rfl (by kernel_rfl) (by kernel_rfl) (by kernel_rfl) (fun _ _ _ h => h) (Or.inl ⟨by rfl, ?hy10⟩) (by assumption) ?rest10
  case hy10 => ((intro w hSw; (try dsimp only at hSw); go_simp) <;> with_reducible rfl)
  case' rest10 => try simp only [List.getElem_toArray, List.getElem_cons_zero, List.getElem_cons_succ, Act.put, List.setIfInBounds_toArray, List.set_cons_zero, List.set_cons_succ]
  refine wpAnyT_take (by kernel_rfl) (by kernel_rfl) (i := 9) (oi := _) (v := ?v11) rfl (by kernel_rfl) (by kernel_rfl) (by kernel_rfl) (fun _ _ _ h => h) (Or.inl ⟨by rfl, ?hy11⟩) (by assumption) ?rest11
  case hy11 => ((intro w hSw; (try dsimp only at hSw); go_simp) <;> with_reducible rfl)
  case' rest11 => try simp only [List.getElem_toArray, List.getElem_cons_zero, List.getElem_cons_succ, Act.put, List.setIfInBounds_toArray, List.set_cons_zero, List.set_cons_succ]
  refine wpAnyT_take (by kernel_rfl) (by kernel_rfl) (i := 10) (oi := _) (v := ?v12) rfl (by kernel_rfl) (by kernel_rfl) (by kernel_rfl) (fun _ _ _ h => h) (Or.inl ⟨by rfl, ?hy12⟩) (by assumption) ?rest12
  case hy12 => ((intro w hSw; (try dsimp only at hSw); go_simp) <;> with_reducible rfl)
  case' rest12 => try simp only [List.getElem_toArray, List.getElem_cons_zero, List.getElem_cons_succ, Act.put, List.setIfInBounds_toArray, List.set_cons_zero, List.set_cons_succ]
  refine wpAnyT_take (by kernel_rfl) (by kernel_rfl) (i := 11) (oi := _) (v := ?v13) rfl (by kernel_rfl) (by kernel_rfl) (by kernel_rfl) (fun _ _ _ h => h) (Or.inl ⟨by rfl, ?hy13⟩) (by assumption) ?rest13
  case hy13 => ((intro w hSw; (try dsimp only at hSw); go_simp) <;> with_reducible rfl)
  case' rest13 => try simp only [List.getElem_toArray, List.getElem_cons_zero, List.getElem_cons_succ, Act.put, List.setIfInBounds_toArray, List.set_cons_zero, List.set_cons_succ]
  refine wpAnyT_late (i := 12) (o := _) rfl (by kernel_rfl) (by kernel_rfl) (fun K hK => ?_)
  go_simp
  refine hK.out _ _ ?rest15
  case' rest15 => (clear hK K; try simp only [List.getElem_toArray, List.getElem_cons_zero, List.getElem_cons_succ, Act.put, List.setIfInBounds_toArray, List.set_cons_zero, List.set_cons_succ])
  refine wpAnyT_done (by kernel_rfl) ?_ _
  repeat (clear hHeld)
  go_wp2_with fail
  go_end0
  refine ⟨rfl, ?_, ?_⟩
  · have hs := HD.out.setB j (y &&& x)
    rw [UInt8.toNat_and] at hs
    exact hs.below (below_drew1 (below_alloc (Below.refl _ _) _))
  · exact (Only.set q.F (Only.refl _ _) (Or.inr (Or.inl rfl)) _).step (below_drew1 (below_alloc (Below.refl _ _) _))
theorem xor_all : ∀ n : Fin 256, 255 ^^^ n.val = 255 - n.val := by decide +kernel
theorem not_byte (m : Nat) (hm : m ≤ 4294967295) : bits BinOp.xor IntKind.u8 IntKind.u8.max (IntKind.u8.wrap (m : Int)) = (((~~~ (UInt8.ofNat m)).toNat : Nat) : Int) := by
  have hsz : UInt8.size = 256 := rfl
  have h1 : IntKind.u8.wrap (m : Int) = ((m % 256 : Nat) : Int) := by rw [IntKind.wrap_u8]; omega
  have h2 : IntKind.u8.max = ((255 : Nat) : Int) := rfl
  have h3 := xor_all ⟨m % 256, by omega⟩
  simp only [] at h3
  rw [h1, h2, u8_xor_nat _ _ (by omega) (by omega), h3, UInt8.toNat_not, UInt8.toNat_ofNat', hsz]
theorem fl_some (q : FP) (S : FS) (j : Nat) (x : UInt8) (w : World) (hD : FD w q S) (hj : j < S.b.length) :
    Calls Tryz.prog 196 #[.agg #[.pointer (some ⟨q.p, 0, none⟩), .int .u8 (x.toNat : Nat)], .int .i64 (j : Nat)] w fun e w' => e = .returned (.tuple #[]) ∧ FD w' q { S with b := S.b.set j (tornB (S.b.getD j 0) x S.mask) } ∧ Only q.F w w' := by
  have HD := hide hD
  obtain ⟨⟨c0, -, -, -, -, c5, -⟩, -⟩ := hD.c
  obtain ⟨cb, fb⟩ := hD.byte hj
  have hm : S.mask ≤ 4294967295 := by have := hD.fit.mask; unfold U32 at this; omega
  obtain ⟨m, hmm⟩ : ∃ m, m = S.mask := ⟨_, rfl⟩
  rw [← hmm] at c5 hm ⊢
  obtain ⟨y, hy⟩ : ∃ y, y = S.b.getD j 0 := ⟨_, rfl⟩
  rw [← hy] at cb ⊢
  obtain ⟨n, hn⟩ : ∃ n, n = S.b.length := ⟨_, rfl⟩
  rw [← hn] at c0 hj
  obtain ⟨i1, i2, i3⟩ := idx_at hj
  have hnot := not_byte m hm
  have hor := or_byte x (~~~ (UInt8.ofNat m))
  have hand := and_byte y (x ||| ~~~ (UInt8.ofNat m))
  have HNOT := hide hnot
  have HOR := hide hor
  have HAND := hide hand
  clear hnot hor hand
  have zp := hD.blk.lt
  have zb := hD.gb_lt
  have HMM := hide hmm
  clear hD hn hy hmm
  have q0 := blk_one w 265 #[.pointer (some ⟨q.p, 0, none⟩), .int .u8 (x.toNat : Nat)]
  have hb1 := below_alloc (Below.refl w.heap.size w) (.cells #[.pointer (some ⟨q.p, 0, none⟩), .int .u8 (x.toNat : Nat)] 265)
  have d0 := (hb1.cell (p := ⟨q.p, 0, none⟩) zp).trans c0
  have d5 := (hb1.cell (p := ⟨q.p, 5, none⟩) zp).trans c5
  have db := (hb1.cell (p := ⟨q.gb, j, none⟩) zb).trans cb
  have df := (hb1.frozen (p := ⟨q.gb, j, none⟩) zb).trans fb
  have HB1 := hide hb1
  obtain ⟨q0_c0, q0_c1⟩ := cel2 q0
  have q0_f := q0.frozen
  clear hb1 c0 cb fb q0 c5
  go_enter Tryz.func196, Tryz.ntmps196
  go_wp2_with fail
  refine wp_region_T (fun w' => w'.cell? ⟨w.heap.size, 0, none⟩ = some (.pointer (some ⟨q.p, 0, none⟩)) ∧ w'.cell? ⟨w.heap.size, 1, none⟩ = some (.int .u8 (x.toNat : Nat)) ∧ w'.cell? ⟨q.p, 0, none⟩ = some (.slice (some ⟨q.gb, 0, none⟩) n q.cb) ∧ w'.cell? ⟨q.p, 5, none⟩ = some (.int .u32 (m : Nat)) ∧ w'.cell? ⟨q.gb, j, none⟩ = some (.int .u8 (y.toNat : Nat))) [0, 1, 2, 3, 4, 5, 6, 7, 8, 9, 10, 11, 12, 13, 14, 15, 16, 17, 18, 19] (by kernel_rfl) ?hS17 (fun hHeld => ?rest17)
  case hS17 => ((try dsimp only); exact ⟨q0_c0, q0_c1, d0, d5, db⟩)
  case' rest17 => skip
  refine wpAnyT_take (by kernel_rfl) (by kernel_rfl) (i := 0) (oi := _) (v := ?v18) rfl (by kernel_rfl) (by kernel_rfl) (by kernel_rfl) (fun _ _ _ h => h) (Or.inl ⟨by rfl, ?hy18⟩) (by assumption) ?rest18
  case hy18 => ((intro w hSw; (try dsimp only at hSw); go_simp) <;> with_reducible rfl)
  case' rest18 => try simp only [List.getElem_toArray, List.getElem_cons_zero, List.getElem_cons_succ, Act.put, List.setIfInBounds_toArray, List.set_cons_zero, List.set_cons_succ]
  refine wpAnyT_take (by kernel_rfl) (by kernel_rfl) (i := 1) (oi := _) (v := ?v19) rfl (by kernel_rfl) (by kernel_rfl) (by kernel_rfl) (fun _ _ _ h => h) (Or.inl ⟨by rfl, ?hy19⟩) (by assumption) ?rest19
  case hy19 => ((intro w hSw; (try dsimp only at hSw); go_simp) <;> with_reducible rfl)
  case' rest19 => try simp only [List.getElem_toArray, List.getElem_cons_zero, List.getElem_cons_succ, Act.put, List.setIfInBounds_toArray, List.set_cons_zero, List.set_cons_succ]
  refine wpAnyT_take (by kernel_rfl) (by kernel_rfl) (i := 2) (oi := _) (v := ?v20) rfl (by kernel_rfl) (by kernel_rfl) (by kernel_rfl) (fun _ _ _ h => h) (Or.inl ⟨by rfl, ?hy20⟩) (by assumption) ?rest20
  case hy20 => ((intro w hSw; (try dsimp only at hSw); go_simp) <;> with_reducible rfl)
  case' rest20 => try simp only [List.getElem_toArray, List.getElem_cons_zero, List.getElem_cons_succ, Act.put, List.setIfInBounds_toArray, List.set_cons_zero, List.set_cons_succ]
  refine wpAnyT_take (by kernel_rfl) (by kernel_rfl) (i := 3) (oi := _) (v := ?v21) rfl (by kernel_rfl) (by kernel_rfl) (by kernel_rfl) (fun _ _ _ h => h) (Or.inl ⟨by rfl, ?hy21⟩) (by assumption) ?rest21
  case hy21 => ((intro w hSw; (try dsimp only at hSw); go_simp) <;> with_reducible rfl)
  case' rest21 => try simp only [List.getElem_toArray, List.getElem_cons_zero, List.getElem_cons_succ, Act.put, List.setIfInBounds_toArray, List.set_cons_zero, List.set_cons_succ]
  refine wpAnyT_take (by kernel_rfl) (by kernel_rfl) (i := 4) (oi := _) (v := ?v22) rfl (by kernel_rfl) (by kernel_rfl) (by kernel_rfl) (fun _ _ _ h => h) (Or.inl ⟨by rfl, ?hy22⟩) (by assumption) ?rest22
  case hy22 => ((intro w hSw; (try dsimp only at hSw); go_simp) <;> with_reducible rfl)
  case' rest22 => try simp only [List.getElem_toArray, List.getElem_cons_zero, List.getElem_cons_succ, Act.put, List.setIfInBounds_toArray, List.set_cons_zero, List.set_cons_succ]
  refine wpAnyT_take (by kernel_rfl) (by kernel_rfl) (i := 5) (oi := _) (v := ?v23) rfl (by kernel_rfl) (by kernel_rfl) (by kernel_rfl) (fun _ _ _ h => h) (Or.inl ⟨by rfl, ?hy23⟩) (by assumption) ?rest23
  case hy23 => ((intro w hSw; (try dsimp only at hSw); go_simp) <;> with_reducible rfl)
  case' rest23 => try simp only [List.getElem_toArray, List.getElem_cons_zero, List.getElem_cons_succ, Act.put, List.setIfInBounds_toArray, List.set_cons_zero, List.set_cons_succ]
  refine wpAnyT_take (by kernel_rfl) (by kernel_rfl) (i := 6) (oi := _) (v := ?v24) rfl (by kernel_rfl) (by kernel_rfl) (by kernel_rfl) (fun _ _ _ h => h) (Or.inl ⟨by rfl, ?hy24⟩) (by assumption) ?rest24
  case hy24 => ((intro w hSw; (try dsimp only at hSw); go_simp) <;> with_reducible rfl)
  case' rest24 => try simp only [List.getElem_toArray, List.getElem_cons_zero, List.getElem_cons_succ, Act.put, List.setIfInBounds_toArray, List.set_cons_zero, List.set_cons_succ]
  refine wpAnyT_take (by kernel_rfl) (by kernel_rfl) (i := 7) (oi := _) (v := ?v25) rfl (by kernel_rfl) (by kernel_rfl) (by kernel_rfl) (fun _ _ _ h => h) (Or.inl ⟨by rfl, ?hy25⟩) (by assumption) ?rest25
  case hy25 => ((intro w hSw; (try dsimp only at hSw); go_simp) <;> with_reducible rfl)
  case' rest25 => try simp only [List.getElem_toArray, List.getElem_cons_zero, List.getElem_cons_succ, Act.put, List.setIfInBounds_toArray, List.set_cons_zero, List.set_cons_succ]
  refine wpAnyT_take (by kernel_rfl) (by kernel_rfl) (i := 8) (oi := _) (v := ?v26) rfl (by kernel_rfl) (by kernel_rfl) (by kernel_rfl) (fun _ _ _ h => h) (Or.inl ⟨by rfl, ?hy26⟩) (by assumption) ?rest26
  case hy26 => ((intro w hSw; (try dsimp only at hSw); go_simp) <;> with_reducible rfl)
  case' rest26 => try simp only [List.getElem_toArray, List.getElem_cons_zero, List.getElem_cons_succ, Act.put, List.setIfInBounds_toArray, List.set_cons_zero, List.set_cons_succ]
  refine wpAnyT_take (by kernel_rfl) (by kernel_rfl) (i := 9) (oi := _) (v := ?v27) rfl (by kernel_rfl) (by kernel_rfl) (by kernel_rfl) (fun _ _ _ h => h) (Or.inl ⟨by rfl, ?hy27⟩) (by assumption) ?rest27
  case hy27 => ((intro w hSw; (try dsimp only at hSw); go_simp) <;> with_reducible rfl)
  case' rest27 => try simp only [List.getElem_toArray, List.getElem_cons_zero, List.getElem_cons_succ, Act.put, List.setIfInBounds_toArray, List.set_cons_zero, List.set_cons_succ]
  refine wpAnyT_take (by kernel_rfl) (by kernel_rfl) (i := 10) (oi := _) (v := ?v28) rfl (by kernel_rfl) (by kernel_rfl) (by kernel_rfl) (fun _ _ _ h => h) (Or.inl ⟨by rfl, ?hy28⟩) (by assumption) ?rest28
  case hy28 => ((intro w hSw; (try dsimp only at hSw); go_simp) <;> with_reducible rfl)
  case' rest28 => try simp only [List.getElem_toArray, List.getElem_cons_zero, List.getElem_cons_succ, Act.put, List.setIfInBounds_toArray, List.set_cons_zero, List.set_cons_succ]
  refine wpAnyT_take (by kernel_rfl) (by kernel_rfl) (i := 11) (oi := _) (v := ?v29) rfl (by kernel_rfl) (by kernel_rfl) (by kernel_rfl) (fun _ _ _ h => h) (Or.inl ⟨by rfl, ?hy29⟩) (by assumption) ?rest29
  case hy29 => ((intro w hSw; (try dsimp only at hSw); go_simp) <;> with_reducible rfl)
  case' rest29 => try simp only [List.getElem_toArray, List.getElem_cons_zero, List.getElem_cons_succ, Act.put, List.setIfInBounds_toArray, List.set_cons_zero, List.set_cons_succ]
  refine wpAnyT_take (by kernel_rfl) (by kernel_rfl) (i := 12) (oi := _) (v := ?v30) rfl (by kernel_rfl) (by kernel_rfl) (by kernel_rfl) (fun _ _ _ h => h) (Or.inl ⟨by rfl, ?hy30⟩) (by assumption) ?rest30
  case hy30 => ((intro w hSw; (try dsimp only at hSw); go_simp) <;> with_reducible rfl)
  case' rest30 => try simp only [List.getElem_toArray, List.getElem_cons_zero, List.getElem_cons_succ, Act.put, List.setIfInBounds_toArray, List.set_cons_zero, List.set_cons_succ]
  refine wpAnyT_take (by kernel_rfl) (by kernel_rfl) (i := 13) (oi := _) (v := ?v31) rfl (by kernel_rfl) (by kernel_rfl) (by kernel_rfl) (fun _ _ _ h => h) (Or.inl ⟨by rfl, ?hy31⟩) (by assumption) ?rest31
  case hy31 => ((intro w hSw; (try dsimp only at hSw); go_simp) <;> with_reducible rfl)
  case' rest31 => try simp only [List.getElem_toArray, List.getElem_cons_zero, List.getElem_cons_succ, Act.put, List.setIfInBounds_toArray, List.set_cons_zero, List.set_cons_succ]
  refine wpAnyT_take (by kernel_rfl) (by kernel_rfl) (i := 14) (oi := _) (v := ?v32) rfl (by kernel_rfl) (by kernel_rfl) (by kernel_rfl) (fun _ _ _ h => h) (Or.inl ⟨by rfl, ?hy32⟩) (by assumption) ?rest32
  case hy32 => ((intro w hSw; (try dsimp only at hSw); go_simp) <;> with_reducible rfl)
  case' rest32 => try simp only [List.getElem_toArray, List.getElem_cons_zero, List.getElem_cons_succ, Act.put, List.setIfInBounds_toArray, List.set_cons_zero, List.set_cons_succ]
  refine wpAnyT_take (by kernel_rfl) (by kernel_rfl) (i := 15) (oi := _) (v := ?v33) rfl (by kernel_rfl) (by kernel_rfl) (by kernel_rfl) (fun _ _ _ h => h) (Or.inl ⟨by rfl, ?hy33⟩) (by assumption) ?rest33
  case hy33 => ((intro w hSw; (try dsimp only at hSw); go_simp) <;> with_reducible rfl)
  case' rest33 => try simp only [List.getElem_toArray, List.getElem_cons_zero, List.getElem_cons_succ, Act.put, List.setIfInBounds_toArray, List.set_cons_zero, List.set_cons_succ]
  refine wpAnyT_take (by kernel_rfl) (by kernel_rfl) (i := 16) (oi := _) (v := ?v34) rfl (by kernel_rfl) (by kernel_rfl) (by kernel_rfl) (fun _ _ _ h => h) (Or.inl ⟨by rfl, ?hy34⟩) (by assumption) ?rest34
  case hy34 => ((intro w hSw; (try dsimp only at hSw); go_simp) <;> with_reducible rfl)
  case' rest34 => try simp only [List.getElem_toArray, List.getElem_cons_zero, List.getElem_cons_succ, Act.put, List.setIfInBounds_toArray, List.set_cons_zero, List.set_cons_succ]
  refine wpAnyT_take (by kernel_rfl) (by kernel_rfl) (i := 17) (oi := _) (v := ?v35) rfl (by kernel_rfl) (by kernel_rfl) (by kernel_rfl) (fun _ _ _ h => h) (Or.inl ⟨by rfl, ?hy35⟩) (by assumption) ?rest35
  case hy35 => ((intro w hSw; (try dsimp only at hSw); go_simp) <;> with_reducible rfl)
  case' rest35 => try simp only [List.getElem_toArray, List.getElem_cons_zero, List.getElem_cons_succ, Act.put, List.setIfInBounds_toArray, List.set_cons_zero, List.set_cons_succ]
  refine wpAnyT_take (by kernel_rfl) (by kernel_rfl) (i := 18) (oi := _) (v := ?v36) rfl (by kernel_rfl) (by kernel_rfl) (by kernel_rfl) (fun _ _ _ h => h) (Or.inl ⟨by rfl, ?hy36⟩) (by assumption) ?rest36
  case hy36 => ((intro w hSw; (try dsimp only at hSw); go_simp) <;> with_reducible rfl)
  case' rest36 => try simp only [List.getElem_toArray, List.getElem_cons_zero, List.getElem_cons_succ, Act.put, List.setIfInBounds_toArray, List.set_cons_zero, List.set_cons_succ]
  refine wpAnyT_take (by kernel_rfl) (by kernel_rfl) (i := 19) (oi := _) (v := ?v37) rfl (by kernel_rfl) (by kernel_rfl) (by kernel_rfl) (fun _ _ _ h => h) (Or.inl ⟨by rfl, ?hy37⟩) (by assumption) ?rest37
  case hy37 => ((intro w hSw; (try dsimp only at hSw); go_simp) <;> with_reducible rfl)
  case' rest37 => try simp only [List.getElem_toArray, List.getElem_cons_zero, List.getElem_cons_succ, Act.put, List.setIfInBounds_toArray, List.set_cons_zero, List.set_cons_succ]
  refine wpAnyT_late (i := 20) (o := _) rfl (by kernel_rfl) (by kernel_rfl) (fun K hK => ?_)
  go_simp
  refine hK.out _ _ ?rest39
  case' rest39 => (clear hK K; try simp only [List.getElem_toArray, List.getElem_cons_zero, List.getElem_cons_succ, Act.put, List.setIfInBounds_toArray, List.set_cons_zero, List.set_cons_succ])
  refine wpAnyT_done (by kernel_rfl) ?_ _
  repeat (clear hHeld)
  go_wp2_with fail
  go_end0
  refine ⟨rfl, ?_, ?_⟩
  · have hs := HD.out.setB j (tornB y x m)
    have hv : bits BinOp.and IntKind.u8 (y.toNat : Int) (bits BinOp.or IntKind.u8 (x.toNat : Int) (bits BinOp.xor IntKind.u8 IntKind.u8.max (IntKind.u8.wrap (m : Int)))) = (((tornB y x m).toNat : Nat) : Int) := by
      rw [HNOT.out, HOR.out, HAND.out]; rfl
    rw [hv]
    have hm2 := HMM.out
    subst hm2
    exact hs.below (below_drew1 (below_alloc (Below.refl _ _) _))
  · exact (Only.set q.F (Only.refl _ _) (Or.inr (Or.inl rfl)) _).step (below_drew1 (below_alloc (Below.refl _ _) _))
/-- a byte's operation -/
def doP (S : FS) (j : Nat) (x : UInt8) : FS × Int :=
  if S.ahead = 0 then ({ S with b := S.b.set j (tornB (S.b.getD j 0) x S.mask), ahead := -1, off := true }, 7)
  else ({ S with b := S.b.set j (S.b.getD j 0 &&& x), ahead := decA S.ahead, ops := S.ops + 1 }, 0)
theorem do_prog (q : FP) (S : FS) (j : Nat) (x : UInt8) (w : World) (hD : FD w q S) (hj : j < S.b.length) (hops : S.ops < 4611686018427387904) :
    Calls Tryz.prog 192 #[.pointer (some ⟨q.p, 0, none⟩), .int .i64 (j : Nat), .func (.func 195) #[.agg #[.pointer (some ⟨q.p, 0, none⟩), .int .u8 (x.toNat : Nat)]] #[], .func (.func 196) #[.agg #[.pointer (some ⟨q.p, 0, none⟩), .int .u8 (x.toNat : Nat)]] #[]] w (DoR q (doP S j x) w) := by
  have HD := hide hD
  have HI := hide hj
  obtain ⟨⟨c0, c1, c2, c3, c4, c5, c6⟩, hfz⟩ := hD.c
  have f4 := hfz 4
  have f6 := hfz 6
  have ha2 := hD.fit.ah2
  have ha1 := hD.fit.ah1
  obtain ⟨ah, hah⟩ : ∃ a, a = S.ahead := ⟨_, rfl⟩
  rw [← hah] at c4 ha1 ha2
  have HF := hide hD.fit
  clear hD hj hfz
  by_cases h0 : ah = 0
  · subst h0
    have HE : Hid (doP S j x = ({ S with b := S.b.set j (tornB (S.b.getD j 0) x S.mask), ahead := -1, off := true }, 7)) := hide (by unfold doP; rw [if_pos hah.symm])
    rw [HE.out]
    clear hah
    go_enter Tryz.func192, Tryz.ntmps192
    go_wp2_with fail
    refine (fl_some q S j x w HD.out HI.out).mono ?_
    rintro e w1 ⟨rfl, h1, h2⟩
    obtain ⟨⟨d0, d1, d2, d3, d4, d5, d6⟩, hfz⟩ := h1.c
    have g4 := hfz 4
    have g3 := hfz 3
    have HH := hide (And.intro h1 h2)
    clear h1 h2 hfz c0 c1 c2 c3 c4 c5 c6
    go_wp2_with fail
    go_ret
    refine ⟨rfl, ?_, ?_⟩
    · exact FD.reblk HH.out.1 (only2 _ _ _ _) (blk_setL (blk_setL HH.out.1.blk 4 _) 3 _) rfl rfl (fit_of HH.out.1.fit rfl rfl rfl rfl (.inr (.inr rfl)))
    · exact Only.set _ (Only.set _ HH.out.2 (.inl rfl) _) (.inl rfl) _
  · have HE : Hid (doP S j x = ({ S with b := S.b.set j (S.b.getD j 0 &&& x), ahead := decA ah, ops := S.ops + 1 }, 0)) := hide (by unfold doP; rw [if_neg (by rw [← hah]; exact h0), hah])
    rw [HE.out]
    have HA := hide hah
    clear hah
    by_cases hp : 0 < ah
    · have HDA := hide (show decA ah = ah - 1 by unfold decA; rw [if_pos hp])
      rw [HDA.out]
      go_enter Tryz.func192, Tryz.ntmps192
      go_wp2_with fail
      have h1 : FD ((w.setCell ⟨q.p, 4, none⟩ (.int .i64 (ah - 1))).setCell ⟨q.p, 6, none⟩ (.int .i64 ((S.ops : Int) + 1))) q { S with ahead := ah - 1, ops := S.ops + 1 } := FD.reblk HD.out (only2 _ _ _ _) (blk_setL (blk_setL HD.out.blk 4 _) 6 _) rfl rfl (fit_of HF.out rfl rfl rfl rfl (.inr (.inl (by rw [← HA.out, HDA.out]))))
      have HW : Hid (Only (fun g => g = q.p) w ((w.setCell ⟨q.p, 4, none⟩ (.int .i64 (ah - 1))).setCell ⟨q.p, 6, none⟩ (.int .i64 ((S.ops : Int) + 1)))) := hide (only2 _ _ _ _)
      have HC := hide (fl_all q _ j x _ h1 HI.out)
      clear h1 c0 c1 c2 c3 c4 c5 c6
      go_wp2_with fail
      refine HC.out.mono ?_
      rintro e w1 ⟨rfl, h1, h2⟩
      have HH := hide (And.intro h1 h2)
      clear h1 h2
      go_wp2_with fail
      go_ret
      exact ⟨rfl, HH.out.1, (only_F HW.out (fun g e => .inl e)).trans HH.out.2 (fun _ _ h => h)⟩
    · have HDA := hide (show decA ah = ah by unfold decA; rw [if_neg hp])
      rw [HDA.out]
      go_enter Tryz.func192, Tryz.ntmps192
      go_wp2_with fail
      have h1 : FD (w.setCell ⟨q.p, 6, none⟩ (.int .i64 ((S.ops : Int) + 1))) q { S with ahead := ah, ops := S.ops + 1 } := by
        have := HA.out
        subst this
        exact FD.reblk HD.out (only1 _ _) (blk_setL HD.out.blk 6 _) rfl rfl (fit_of HF.out rfl rfl rfl rfl (.inl rfl))
      have HW : Hid (Only (fun g => g = q.p) w (w.setCell ⟨q.p, 6, none⟩ (.int .i64 ((S.ops : Int) + 1)))) := hide (only1 _ _)
      have HC := hide (fl_all q _ j x _ h1 HI.out)
      clear h1 c0 c1 c2 c3 c4 c5 c6
      go_wp2_with fail
      refine HC.out.mono ?_
      rintro e w1 ⟨rfl, h1, h2⟩
      have HH := hide (And.intro h1 h2)
      clear h1 h2
      go_wp2_with fail
      go_ret
      exact ⟨rfl, HH.out.1, (only_F HW.out (fun g e => .inl e)).trans HH.out.2 (fun _ _ h => h)⟩
def roomE (S : FS) (k n : Int) : Int := if S.off = true then 7 else if k < 0 ∨ n < 0 ∨ (S.b.length : Int) < k ∨ (S.b.length : Int) - k < n then 9 else 0
theorem fl_room (q : FP) (S : FS) (k n : Int) (w : World) (hD : FD w q S) (hk : -4611686018427387904 ≤ k) (hk2 : k ≤ 4611686018427387904) :
    Calls Tryz.prog 147 #[.pointer (some ⟨q.p, 0, none⟩), .int .i64 k, .int .i64 n] w fun e w' => e = .returned (.int .i64 (roomE S k n)) ∧ w = w' := by
  obtain ⟨⟨c0, c1, c2, c3, c4, c5, c6⟩, -⟩ := hD.c
  have hl : S.b.length ≤ 8192 := by have := hD.fit.len; have := hD.fit.wl8; omega
  obtain ⟨N, hN⟩ : ∃ n, n = S.b.length := ⟨_, rfl⟩
  obtain ⟨off, ho⟩ : ∃ o, o = S.off := ⟨_, rfl⟩
  rw [← hN] at c0 hl
  rw [← ho] at c3
  have HE : Hid (roomE S k n = if off = true then 7 else if k < 0 ∨ n < 0 ∨ (N : Int) < k ∨ (N : Int) - k < n then 9 else 0) := hide (by unfold roomE; rw [hN, ho])
  rw [HE.out]
  clear hD hN ho c1 c2 c4 c5 c6
  cases off
  · by_cases h1 : k < 0
    · go_enter Tryz.func147, Tryz.ntmps147
      go_wp2_with fail
      go_ret
      exact ⟨ret_int (by simp [h1]), rfl⟩
    · by_cases h2 : n < 0
      · go_enter Tryz.func147, Tryz.ntmps147
        go_wp2_with fail
        go_ret
        exact ⟨ret_int (by simp [h2]), rfl⟩
      · by_cases h3 : (N : Int) < k
        · go_enter Tryz.func147, Tryz.ntmps147
          go_wp2_with fail
          go_ret
          exact ⟨ret_int (by simp [h3]), rfl⟩
        · by_cases h4 : (N : Int) - k < n
          · go_enter Tryz.func147, Tryz.ntmps147
            go_wp2_with fail
            go_ret
            exact ⟨ret_int (by simp [h4]), rfl⟩
          · go_enter Tryz.func147, Tryz.ntmps147
            go_wp2_with fail
            go_ret
            exact ⟨ret_int (by simp [h1, h2, h3, h4]), rfl⟩
  · go_enter Tryz.func147, Tryz.ntmps147
    go_wp2_with fail
    go_ret
    exact ⟨ret_int (by simp), rfl⟩
end
end Go.Proofs.YtehabbnohoomjaaGreatDoor
