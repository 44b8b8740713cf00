/- Package block: give. -/
import Derived.Test.YtimdmhhgomfijaaBlkH
namespace Go.Proofs.Ytimdmhhgomfijaa
set_option linter.unusedVariables false
set_option linter.unusedSimpArgs false
set_option linter.unnecessarySimpa false
open Go.RowKit
set_option maxRecDepth 100000
set_option maxHeartbeats 4000000
/-- copy into a row of the call's own, from any source: what it does -/
theorem run_cpy {P : Program} {w : World} (dT sT ty elem : TypeId) (hu : P.underlying dT = some (.slice elem)) (hsz : (P.info? elem).map (·.size) = some 1)
    (B e : Nat) (A : Option Addr) (n c : Nat) (xs : List Value) (hown : Own w B e 1 A n c xs)
    (A2 : Option Addr) (m c2 : Nat) (ys : List Value) (hl : ys.length = m) (hr : Sl w A2 ys) (h1 : ∀ u ∈ ys, u.oneCell' = true) :
    ∃ w', (Builtin.copy_ #[dT, sT] ty #[.slice A n c, .slice A2 m c2]).run P w = .ok (goInt (Nat.min m n)) w' ∧ Own w' B e 1 A n c (ys.take n ++ xs.drop m) ∧ w.grownBy w' (Value.ownBlock (.slice A n c)) ∧ Below B w w' := by
  have hxl : xs.length = n := by simpa using hown.len
  by_cases h0 : Nat.min m n = 0
  · refine ⟨w, by rw [h0]; exact run_copy_none (P := P) w dT sT ty elem A A2 n c m c2 hu hsz h0, ?_, World.grownBy.refl _ _, Below.refl _ _⟩
    have hm : m = 0 ∨ n = 0 := by
      rcases Nat.le_total m n with h' | h'
      · left; rw [← h0]; exact (Nat.min_eq_left h').symm
      · right; rw [← h0]; exact (Nat.min_eq_right h').symm
    rcases hm with rfl | rfl
    · rw [List.eq_nil_of_length_eq_zero hl]; simpa using hown
    · rw [List.eq_nil_of_length_eq_zero hxl] at hown ⊢; simpa using hown
  · have hn0 : 0 < n := by
      rcases Nat.eq_zero_or_pos n with h' | h'
      · subst h'; simp at h0
      · exact h'
    have hm0 : 0 < m := by
      rcases Nat.eq_zero_or_pos m with h' | h'
      · subst h'; simp at h0
      · exact h'
    obtain ⟨ad, rfl, _⟩ := hr 0 _ (List.getElem?_eq_getElem (by omega))
    rcases hown.2 with ⟨hv, hz⟩ | ⟨g, cap, cur, hv, hb, hg, hnc, hcm, hcs, htake⟩
    · omega
    · injection hv with hA _ hcc
      subst hA
      subst hcc
      have hmn : Nat.min m n ≤ n := Nat.min_le_right _ _
      have hcl : (ys.take n).length = Nat.min m n := by rw [List.length_take, hl]; exact Nat.min_comm _ _
      have hrun := run_copy_row (P := P) w dT sT ty elem g 0 n c ad m c2 cur e (ys.take n) hu hsz hg hcl (by
        intro j v hv
        rw [List.getElem?_take] at hv
        split at hv
        · obtain ⟨ad', h', hc⟩ := hr j v hv
          injection h' with h'
          subst h'
          exact hc
        · simp at hv) (by rw [hcl]; omega) (by intro v hv; exact h1 v (List.mem_of_mem_take hv))
      rw [hcl] at hrun
      refine ⟨_, hrun, ?_⟩
      have hnl : (ys.take n ++ xs.drop m).length = n := by
        rw [List.length_append, hcl, List.length_drop, hxl]
        show min m n + (n - m) = n
        omega
      refine ⟨⟨by simpa using hnl, .inr ⟨g, c, _, rfl, hb, setRow_heap w g _ _ e _ hg, hnc, hcm, ?_, ?_⟩⟩, ⟨rfl, rfl, rfl, by simp [World.setRow], fun k hk hne => setRow_other w g k _ (by simpa [Value.ownBlock] using hne)⟩, below_setRow (Below.refl _ _) hb _⟩
      · simp only [List.size_toArray, List.take_zero, List.nil_append, List.length_append, List.length_drop, Array.length_toList, hcl]
        omega
      · simp only [List.take_zero, List.nil_append, Nat.zero_add, Nat.mul_one]
        rw [List.take_append, hcl]
        have e1 : (ys.take n).take n = ys.take n := by rw [List.take_take, Nat.min_self]
        rw [e1]
        congr 1
        rw [List.take_drop]
        have e2 : Nat.min m n + (n - Nat.min m n) = n := by omega
        rw [e2]
        rw [Nat.mul_one] at htake
        rw [htake]
        rcases Nat.le_total m n with h' | h'
        · rw [show Nat.min m n = m from Nat.min_eq_left h']
        · rw [show Nat.min m n = n from Nat.min_eq_right h', List.drop_eq_nil_of_le (by omega), List.drop_eq_nil_of_le (by omega)]
theorem wp_cpy_b {o : Oper} {a : Act} {K : Act → World → Prop} {Q : Exit → Act → World → Prop} {w : World} (d s : Operand)
    (ho : o.op = .call { callee := .builtin .copy, args := #[d, s], argTypes := #[22, 22] })
    (B : Nat) (A : Option Addr) (n c : Nat) {l : List UInt8} (hd : a.eval d = .slice A n c) (hown : OwnB w B A n c l)
    (A2 : Option Addr) (m c2 : Nat) (l2 : List UInt8) (hs : a.eval s = .slice A2 m c2) (hm : m = l2.length) (hr : Sl w A2 (l2.map bv))
    (l3 : List UInt8) (hl3 : l2.take n ++ l.drop m = l3)
    (h : ∀ w', OwnB w' B A n c l3 → w.grownBy w' (Value.ownBlock (.slice A n c)) → Below B w w' → K (a.put o.dst (goInt (Nat.min m n))) w') : Oper.wp Try.prog o a w K Q := by
  obtain ⟨w', hrun, h1, h2, h3⟩ := run_cpy (P := Try.prog) (w := w) 22 22 o.type 5 Try.underlying22 sizeU8 B _ A n c _ hown.own A2 m c2 (l2.map bv) (by simp [hm]) hr (bv_one _)
  unfold Oper.wp
  simp [execOp, ho, resolve, invoke, builtin, hd, hs, hrun, Result.andThen]
  refine h w' ⟨?_, ?_⟩ h2 h3
  · have := hown.hn
    rw [← hl3]
    simp
    omega
  · rw [← hl3]
    simpa using h1
def msF (M : Ms) (d : Option Addr × Nat) : List Value := [.int .i64 M.kind, .int .i64 M.ix, .int .i64 M.sub, .bool M.tg, .bool M.la, .bool M.cr, .bool M.sz, .int .u32 (M.size : Nat), .int .u32 (M.code : Nat), .slice d.1 M.data.length d.2, .int .i64 M.sq, .int .i64 M.bl, .int .i64 M.em, .int .u16 (M.sum : Nat)]
theorem msF_len (M : Ms) (d : Option Addr × Nat) : (msF M d).length = 14 := rfl
theorem msF_one (M : Ms) (d : Option Addr × Nat) : ∀ u ∈ msF M d, u.oneCell' = true := by
  intro u hu
  simp [msF] at hu
  rcases hu with rfl | rfl | rfl | rfl | rfl | rfl | rfl | rfl | rfl | rfl | rfl | rfl | rfl | rfl <;> rfl
theorem infoMs : (Try.prog.info? 39).map (fun i => (i.zero, i.size, i.bytes)) = some (some (.agg #[.int .i64 0, .int .i64 0, .int .i64 0, .bool false, .bool false, .bool false, .bool false, .int .u32 0, .int .u32 0, .slice none 0 0, .int .i64 0, .int .i64 0, .int .i64 0, .int .u16 0]), 14, 96) := by kernel_rfl
abbrev OwnM (w : World) (F : Nat → Prop) (A : Option Addr) (n c : Nat) (L : List Ms) (ds : List (Option Addr × Nat)) : Prop := OwnF msF 14 39 Ms.data w F A n c L ds
/-- an answer of many messages -/
def BOutF (w : World) (G : Nat → Prop) (p pd : Nat) (S' : BlkS) (L : List Ms) (e : Ending) (w' : World) : Prop :=
  ∃ As ns cs ds, e = .returned (.agg (outV As ns cs outZ none 0 0)) ∧ OwnM w' (fun g => w.heap.size ≤ g) As ns cs L ds ∧ BV_ w' G p pd S' ∧ Only (fun q => q = p) w w'
/-- the messages of a row as far as k -/
def bgiveT (tot h : Nat) (b : List UInt8) (k : Nat) : List Ms := (List.range k).map fun (i : Nat) => bsegM ((i : Int) + 1) (decide ((h : Int) + (i : Int) + 1 = (tot : Int))) (bpiece b (h + i))
theorem bgiveT_succ (tot h : Nat) (b : List UInt8) (k : Nat) : bgiveT tot h b (k + 1) = bgiveT tot h b k ++ [bsegM ((k : Int) + 1) (decide ((h : Int) + (k : Int) + 1 = (tot : Int))) (bpiece b (h + k))] := by
  unfold bgiveT
  rw [List.range_succ, List.map_append]
  rfl
theorem piece_len22 (B : List UInt8) (k : Nat) : (bpiece B k).length = 7 := by
  unfold bpiece
  simp only [List.length_append, List.length_take, List.length_drop, List.length_replicate]
  omega
def BGL (w1 : World) (b : List UInt8) (r tot h : Nat) (vl vi : Value) (wr : World) : Prop :=
  ∃ k A' c' ds, vi = .int .i64 (k : Nat) ∧ vl = .slice A' k c' ∧ k ≤ r ∧ OwnM wr (fun g => w1.heap.size ≤ g) A' k c' (bgiveT tot h b k) ds ∧ Below w1.heap.size w1 wr
theorem blk_give (p pd : Nat) (S : BlkS) (G : Nat → Prop) (w : World) (hS : BV_ w G p pd S) (h1 : S.st ≠ 0) (h256 : S.b.length ≤ 1000) (h : Nat) (hh : S.ha = (h : Int)) (hht : h < btotal S.b) (hta : 0 ≤ S.ta ∧ S.ta ≤ 1000) :
    Calls Try.prog 47 #[.pointer (some ⟨p, 0, none⟩)] w (BOutF w G p pd (bgiveS S) (bgiveL S)) := by
  obtain ⟨mo, sz, nx, ha, ta, ro, st, ix, sub, b, sm⟩ := S
  obtain ⟨A, n1, c1, hB, hby⟩ := id hS
  obtain ⟨hn1, hc1, hsl, hAn, hAG⟩ := hby h1
  obtain rfl : ha = (h : Int) := hh
  replace h256 : b.length ≤ 1000 := h256
  replace hn1 : n1 = b.length := hn1
  obtain ⟨hta0, hta1⟩ : 0 ≤ ta ∧ ta ≤ 1000 := hta
  obtain ⟨tot, ht⟩ : ∃ tot, tot = btotal b := ⟨_, rfl⟩
  replace hht : h < tot := by rw [ht]; exact hht
  have ht40 : tot ≤ 1000 := by rw [ht]; unfold btotal; omega
  obtain ⟨rw_, hrw⟩ : ∃ r : Nat, (r : Int) = min ta ((tot : Int) - (h : Int)) := ⟨(min ta ((tot : Int) - (h : Int))).toNat, by omega⟩
  have hrow : browN ⟨mo, sz, nx, (h : Int), ta, ro, st, ix, sub, b, sm⟩ = (rw_ : Int) := by unfold browN; rw [hrw, ht]
  obtain ⟨P, hP⟩ : ∃ P, P = BOutF w G p pd (bgiveS ⟨mo, sz, nx, (h : Int), ta, ro, st, ix, sub, b, sm⟩) (bgiveL ⟨mo, sz, nx, (h : Int), ta, ro, st, ix, sub, b, sm⟩) := ⟨_, rfl⟩
  have HR : Hid (P = BOutF w G p pd ⟨mo, sz, nx, (h : Int), ta, (rw_ : Int), 5, ix, sub, b, sm⟩ (bgiveT tot h b rw_)) := hide (by
    rw [hP]
    congr 1
    · unfold bgiveS; rw [hrow]
    · unfold bgiveL bgiveT; rw [hrow, ← ht]; rfl)
  rw [← hP]
  have hz := hB.lt
  have HN1 := hide hn1
  have HT := hide ht
  have HAG := hide hAG
  have HAN := hide hAn
  have hnb : n1 ≤ 1000 := by omega
  have hr1000 : rw_ ≤ 1000 := by omega
  have hmin1 : (if (tot : Int) - (h : Int) < ta then (tot : Int) - (h : Int) else ta) = (rw_ : Int) := by split <;> omega
  have hsub1 : IntKind.i64.wrap ((tot : Int) - (h : Int)) = (tot : Int) - (h : Int) := by unfold IntKind.wrap; simp [IntKind.signed, IntKind.bits]; omega
  have hne0 : w.heap.size ≠ p := by omega
  have hSl := fun W (ho : Only (fun q => q = p) w W) => sl_blk hsl (fun ad e => ho.block ad.block (hAG ad e).2.1 (hAG ad e).2.2)
  have HSL := hide hSl
  have hB1 := hB.set_ 7 (.int .i64 5)
  have hB1' : Blk (w.setCell ⟨p, 7, none⟩ (.int .i64 5)) p 73 (bsrV ⟨mo, sz, nx, (h : Int), ta, ro, 5, ix, sub, b, sm⟩ pd A n1 c1) := hB1
  have hO1 : Only (fun q => q = p) w (w.setCell ⟨p, 7, none⟩ (.int .i64 5)) := Only.of_set (F := fun q => q = p) rfl _
  have hzz : (w.setCell ⟨p, 7, none⟩ (.int .i64 5)).heap.size = w.heap.size := by simp [World.setCell]
  have hKn := Blk.new (w.setCell ⟨p, 7, none⟩ (.int .i64 5)) 44 (outV none 0 0 outZ none 0 0)
  rw [hzz] at hKn
  have HI := hide (And.intro (hO1.new (.cells (outV none 0 0 outZ none 0 0) 44)) (And.intro (hB1'.alloc (.cells (outV none 0 0 outZ none 0 0) 44)) hKn))
  have bb := hB
  unfold bsrV at bb
  dsimp only at bb
  have bb_c0 := bb.cell 0 rfl
  have bb_f0 := bb.frozen 0
  have bb_c1 := bb.cell 1 rfl
  have bb_f1 := bb.frozen 1
  have bb_c2 := bb.cell 2 rfl
  have bb_f2 := bb.frozen 2
  have bb_c3 := bb.cell 3 rfl
  have bb_f3 := bb.frozen 3
  have bb_c4 := bb.cell 4 rfl
  have bb_f4 := bb.frozen 4
  have bb_c5 := bb.cell 5 rfl
  have bb_f5 := bb.frozen 5
  have bb_c6 := bb.cell 6 rfl
  have bb_f6 := bb.frozen 6
  have bb_c7 := bb.cell 7 rfl
  have bb_f7 := bb.frozen 7
  have bb_c8 := bb.cell 8 rfl
  have bb_f8 := bb.frozen 8
  have bb_c9 := bb.cell 9 rfl
  have bb_f9 := bb.frozen 9
  have bb_c10 := bb.cell 10 rfl
  have bb_f10 := bb.frozen 10
  have bb_c11 := bb.cell 11 rfl
  have bb_f11 := bb.frozen 11
  clear hP hS hB hby hn1 hsl hAn hAG ht hSl hB1 hB1' hO1 hzz hKn hrow hrw h1
  unfold outV outZ at HI
  go_enter Try.func47, Try.ntmps47
  go_upto_region 2 with fail
  refine wp_gen (P := fun W => Only (fun q => q = p) w W ∧ Blk W p 73 (bsrV ⟨mo, sz, nx, (h : Int), ta, ro, 5, ix, sub, b, sm⟩ pd A n1 c1) ∧ Blk W w.heap.size 44 (outV none 0 0 outZ none 0 0)) HI.out (fun W hW => ?_)
  clear bb_c0 bb_f0 bb_c1 bb_f1 bb_c2 bb_f2 bb_c3 bb_f3 bb_c4 bb_f4 bb_c5 bb_f5 bb_c6 bb_f6 bb_c7 bb_f7 bb_c8 bb_f8 bb_c9 bb_f9 bb_c10 bb_f10 bb_c11 bb_f11
  clear HI bb
  obtain ⟨hO, hBW, hK⟩ := hW
  have HO := hide hO
  have HBW := hide hBW
  have HK := hide hK
  have zp := hBW.lt
  have b3 : W.cell? ⟨p, 3, none⟩ = some (.int .i64 (h : Int)) := hBW.cell 3 rfl
  have b4 : W.cell? ⟨p, 4, none⟩ = some (.int .i64 ta) := hBW.cell 4 rfl
  have b5w : W.cell? ⟨p, 5, none⟩ = some (.int .i64 ro) := hBW.cell 5 rfl
  have f5w := hBW.frozen 5
  have HX2 := hide (hBW.set_ 5 (.int .i64 (rw_ : Nat)))
  clear hO hBW hK
  refine wp_region_T (fun w' => w'.cell? ⟨p, 3, none⟩ = some (.int .i64 (h : Int)) ∧ w'.cell? ⟨p, 4, none⟩ = some (.int .i64 ta)) [0, 1, 2, 3, 4, 5, 6, 8, 9, 10, 11, 12, 13, 14, 15, 16, 17] (by kernel_rfl) ?hS1 (fun hHeld => ?rest1)
  case hS1 => ((try dsimp only); exact ⟨b3, b4⟩)
  case' rest1 => skip
  refine wpAnyT_take (by kernel_rfl) (by kernel_rfl) (i := 0) (oi := _) (v := ?v2) rfl (by kernel_rfl) (by kernel_rfl) (by kernel_rfl) (fun _ _ _ h => h) (Or.inl ⟨by rfl, ?hy2⟩) (by assumption) ?rest2
  case hy2 => ((intro w hSw; (try dsimp only at hSw); go_simp) <;> with_reducible rfl)
  case' rest2 => try simp only [List.getElem_toArray, List.getElem_cons_zero, List.getElem_cons_succ, Act.put, List.setIfInBounds_toArray, List.set_cons_zero, List.set_cons_succ]
  refine wpAnyT_take (by kernel_rfl) (by kernel_rfl) (i := 1) (oi := _) (v := ?v3) rfl (by kernel_rfl) (by kernel_rfl) (by kernel_rfl) (fun _ _ _ h => h) (Or.inl ⟨by rfl, ?hy3⟩) (by assumption) ?rest3
  case hy3 => ((intro w hSw; (try dsimp only at hSw); go_simp) <;> with_reducible rfl)
  case' rest3 => try simp only [List.getElem_toArray, List.getElem_cons_zero, List.getElem_cons_succ, Act.put, List.setIfInBounds_toArray, List.set_cons_zero, List.set_cons_succ]
  refine wpAnyT_take (by kernel_rfl) (by kernel_rfl) (i := 2) (oi := _) (v := ?v4) rfl (by kernel_rfl) (by kernel_rfl) (by kernel_rfl) (fun _ _ _ h => h) (Or.inl ⟨by rfl, ?hy4⟩) (by assumption) ?rest4
  case hy4 => ((intro w hSw; (try dsimp only at hSw); go_simp) <;> with_reducible rfl)
  case' rest4 => try simp only [List.getElem_toArray, List.getElem_cons_zero, List.getElem_cons_succ, Act.put, List.setIfInBounds_toArray, List.set_cons_zero, List.set_cons_succ]
  refine wpAnyT_take (by kernel_rfl) (by kernel_rfl) (i := 3) (oi := _) (v := ?v5) rfl (by kernel_rfl) (by kernel_rfl) (by kernel_rfl) (fun _ _ _ h => h) (Or.inl ⟨by rfl, ?hy5⟩) (by assumption) ?rest5
  case hy5 => ((intro w hSw; (try dsimp only at hSw); go_simp) <;> with_reducible rfl)
  case' rest5 => try simp only [List.getElem_toArray, List.getElem_cons_zero, List.getElem_cons_succ, Act.put, List.setIfInBounds_toArray, List.set_cons_zero, List.set_cons_succ]
  refine wpAnyT_take (by kernel_rfl) (by kernel_rfl) (i := 4) (oi := _) (v := ?v6) rfl (by kernel_rfl) (by kernel_rfl) (by kernel_rfl) (fun _ _ _ h => h) (Or.inl ⟨by rfl, ?hy6⟩) (by assumption) ?rest6
  case hy6 => ((intro w hSw; (try dsimp only at hSw); go_simp) <;> with_reducible rfl)
  case' rest6 => try simp only [List.getElem_toArray, List.getElem_cons_zero, List.getElem_cons_succ, Act.put, List.setIfInBounds_toArray, List.set_cons_zero, List.set_cons_succ]
  refine wpAnyT_take (by kernel_rfl) (by kernel_rfl) (i := 5) (oi := _) (v := ?v7) rfl (by kernel_rfl) (by kernel_rfl) (by kernel_rfl) (fun _ _ _ h => h) (Or.inl ⟨by rfl, ?hy7⟩) (by assumption) ?rest7
  case hy7 => ((intro w hSw; (try dsimp only at hSw); go_simp) <;> with_reducible rfl)
  case' rest7 => try simp only [List.getElem_toArray, List.getElem_cons_zero, List.getElem_cons_succ, Act.put, List.setIfInBounds_toArray, List.set_cons_zero, List.set_cons_succ]
  refine wpAnyT_take (by kernel_rfl) (by kernel_rfl) (i := 6) (oi := _) (v := ?v8) rfl (by kernel_rfl) (by kernel_rfl) (by kernel_rfl) (fun _ _ _ h => h) (Or.inl ⟨by rfl, ?hy8⟩) (by assumption) ?rest8
  case hy8 => ((intro w hSw; (try dsimp only at hSw); go_simp) <;> with_reducible rfl)
  case' rest8 => try simp only [List.getElem_toArray, List.getElem_cons_zero, List.getElem_cons_succ, Act.put, List.setIfInBounds_toArray, List.set_cons_zero, List.set_cons_succ]
  refine wpAnyT_take (by kernel_rfl) (by kernel_rfl) (i := 8) (oi := _) (v := ?v9) rfl (by kernel_rfl) (by kernel_rfl) (by kernel_rfl) (fun _ _ _ h => h) (Or.inl ⟨by rfl, ?hy9⟩) (by assumption) ?rest9
  case hy9 => ((intro w hSw; (try dsimp only at hSw); go_simp) <;> with_reducible rfl)
  case' rest9 => try simp only [List.getElem_toArray, List.getElem_cons_zero, List.getElem_cons_succ, Act.put, List.setIfInBounds_toArray, List.set_cons_zero, List.set_cons_succ]
  refine wpAnyT_take (by kernel_rfl) (by kernel_rfl) (i := 9) (oi := _) (v := ?v10) rfl (by kernel_rfl) (by kernel_rfl) (by kernel_rfl) (fun _ _ _ h => h) (Or.inl ⟨by rfl, ?hy10⟩) (by assumption) ?rest10
  case hy10 => ((intro w hSw; (try dsimp only at hSw); go_simp) <;> with_reducible rfl)
  case' rest10 => try simp only [List.getElem_toArray, List.getElem_cons_zero, List.getElem_cons_succ, Act.put, List.setIfInBounds_toArray, List.set_cons_zero, List.set_cons_succ]
  refine wpAnyT_take (by kernel_rfl) (by kernel_rfl) (i := 10) (oi := _) (v := ?v11) rfl (by kernel_rfl) (by kernel_rfl) (by kernel_rfl) (fun _ _ _ h => h) (Or.inl ⟨by rfl, ?hy11⟩) (by assumption) ?rest11
  case hy11 => ((intro w hSw; (try dsimp only at hSw); go_simp) <;> with_reducible rfl)
  case' rest11 => try simp only [List.getElem_toArray, List.getElem_cons_zero, List.getElem_cons_succ, Act.put, List.setIfInBounds_toArray, List.set_cons_zero, List.set_cons_succ]
  refine wpAnyT_take (by kernel_rfl) (by kernel_rfl) (i := 11) (oi := _) (v := ?v12) rfl (by kernel_rfl) (by kernel_rfl) (by kernel_rfl) (fun _ _ _ h => h) (Or.inl ⟨by rfl, ?hy12⟩) (by assumption) ?rest12
  case hy12 => ((intro w hSw; (try dsimp only at hSw); go_simp) <;> with_reducible rfl)
  case' rest12 => try simp only [List.getElem_toArray, List.getElem_cons_zero, List.getElem_cons_succ, Act.put, List.setIfInBounds_toArray, List.set_cons_zero, List.set_cons_succ]
  refine wpAnyT_take (by kernel_rfl) (by kernel_rfl) (i := 12) (oi := _) (v := ?v13) rfl (by kernel_rfl) (by kernel_rfl) (by kernel_rfl) (fun _ _ _ h => h) (Or.inl ⟨by rfl, ?hy13⟩) (by assumption) ?rest13
  case hy13 => ((intro w hSw; (try dsimp only at hSw); go_simp) <;> with_reducible rfl)
  case' rest13 => try simp only [List.getElem_toArray, List.getElem_cons_zero, List.getElem_cons_succ, Act.put, List.setIfInBounds_toArray, List.set_cons_zero, List.set_cons_succ]
  refine wpAnyT_one (i := 7) (o := _) rfl (by kernel_rfl) (fun K hK => ?_)
  go_simp
  refine (blk_total p pd _ A n1 c1 W.drew HBW.out HN1.out (by omega)).mono ?_
  rintro e w8 ⟨rfl, hw8⟩
  subst hw8
  rw [show btotal (BlkS.b ⟨mo, sz, nx, (h : Int), ta, ro, 5, ix, sub, b, sm⟩) = tot from HT.out.symm]
  dsimp only
  refine hK.out _ _ ?hS15 (fun hHeld => ?rest15)
  case hS15 => ((try dsimp only); (exact ⟨b3, b4⟩))
  case' rest15 => (clear hK K; try simp only [List.getElem_toArray, List.getElem_cons_zero, List.getElem_cons_succ, Act.put, List.setIfInBounds_toArray, List.set_cons_zero, List.set_cons_succ])
  refine wpAnyT_take (by kernel_rfl) (by kernel_rfl) (i := 13) (oi := _) (v := ?v16) rfl (by kernel_rfl) (by kernel_rfl) (by kernel_rfl) (fun _ _ _ h => h) (Or.inl ⟨by rfl, ?hy16⟩) (by assumption) ?rest16
  case hy16 => ((intro w hSw; (try dsimp only at hSw); go_simp) <;> with_reducible rfl)
  case' rest16 => try simp only [List.getElem_toArray, List.getElem_cons_zero, List.getElem_cons_succ, Act.put, List.setIfInBounds_toArray, List.set_cons_zero, List.set_cons_succ]
  refine wpAnyT_take (by kernel_rfl) (by kernel_rfl) (i := 14) (oi := _) (v := ?v17) rfl (by kernel_rfl) (by kernel_rfl) (by kernel_rfl) (fun _ _ _ h => h) (Or.inl ⟨by rfl, ?hy17⟩) (by assumption) ?rest17
  case hy17 => ((intro w hSw; (try dsimp only at hSw); go_simp) <;> with_reducible rfl)
  case' rest17 => try simp only [List.getElem_toArray, List.getElem_cons_zero, List.getElem_cons_succ, Act.put, List.setIfInBounds_toArray, List.set_cons_zero, List.set_cons_succ]
  refine wpAnyT_take (by kernel_rfl) (by kernel_rfl) (i := 15) (oi := _) (v := ?v18) rfl (by kernel_rfl) (by kernel_rfl) (by kernel_rfl) (fun _ _ _ h => h) (Or.inl ⟨by rfl, ?hy18⟩) (by assumption) ?rest18
  case hy18 => ((intro w hSw; (try dsimp only at hSw); go_simp) <;> with_reducible rfl)
  case' rest18 => try simp only [List.getElem_toArray, List.getElem_cons_zero, List.getElem_cons_succ, Act.put, List.setIfInBounds_toArray, List.set_cons_zero, List.set_cons_succ]
  refine wpAnyT_take (by kernel_rfl) (by kernel_rfl) (i := 16) (oi := _) (v := ?v19) rfl (by kernel_rfl) (by kernel_rfl) (by kernel_rfl) (fun _ _ _ h => h) (Or.inl ⟨by rfl, ?hy19⟩) (by assumption) ?rest19
  case hy19 => ((intro w hSw; (try dsimp only at hSw); go_simp) <;> with_reducible rfl)
  case' rest19 => try simp only [List.getElem_toArray, List.getElem_cons_zero, List.getElem_cons_succ, Act.put, List.setIfInBounds_toArray, List.set_cons_zero, List.set_cons_succ]
  refine wpAnyT_take (by kernel_rfl) (by kernel_rfl) (i := 17) (oi := _) (v := ?v20) rfl (by kernel_rfl) (by kernel_rfl) (by kernel_rfl) (fun _ _ _ h => h) (Or.inl ⟨by rfl, ?hy20⟩) (by assumption) ?rest20
  case hy20 => ((intro w hSw; (try dsimp only at hSw); go_simp) <;> with_reducible rfl)
  case' rest20 => try simp only [List.getElem_toArray, List.getElem_cons_zero, List.getElem_cons_succ, Act.put, List.setIfInBounds_toArray, List.set_cons_zero, List.set_cons_succ]
  refine wpAnyT_late (i := 18) (o := _) rfl (by kernel_rfl) (by kernel_rfl) (fun K hK => ?_)
  go_simp
  refine hK.out _ _ ?rest22
  case' rest22 => (clear hK K; try simp only [List.getElem_toArray, List.getElem_cons_zero, List.getElem_cons_succ, Act.put, List.setIfInBounds_toArray, List.set_cons_zero, List.set_cons_succ])
  refine wpAnyT_done (by kernel_rfl) ?_ _
  repeat (clear hHeld)
  clear b3 b4 b5w f5w
  have HI := hide (And.intro ((HO.out.drew.set _ rfl (.int .i64 (rw_ : Nat)) : Only (fun q => q = p) w (W.drew.setCell ⟨p, 5, none⟩ (.int .i64 (rw_ : Nat))))) (And.intro HX2.out (HK.out.far (p := ⟨p, 5, none⟩) hne0 (.int .i64 (rw_ : Nat)))))
  go_upto_region 3 with fail
  refine wp_gen (P := fun W2 => Only (fun q => q = p) w W2 ∧ Blk W2 p 73 (bsrV ⟨mo, sz, nx, (h : Int), ta, (rw_ : Int), 5, ix, sub, b, sm⟩ pd A n1 c1) ∧ Blk W2 w.heap.size 44 (outV none 0 0 outZ none 0 0)) HI.out (fun W2 hW2 => ?_)
  clear HI HO HBW HK HX2 zp
  obtain ⟨hO, hBW, hK⟩ := hW2
  have HO := hide hO
  have HBW := hide hBW
  have HK := hide hK
  have zp := hBW.lt
  have zk := hK.lt
  have b5 : W2.cell? ⟨p, 5, none⟩ = some (.int .i64 (rw_ : Nat)) := hBW.cell 5 rfl
  clear hO hBW hK
  obtain ⟨i0, hi0, hz0, hz1, hz2⟩ := info_parts infoMs
  go_wp2_with fail
  go_loopw [3, 4, 5, 6, 33] (fun vl _ _ _ vi wr => BGL W2 b rw_ tot h vl vi wr) (fun _ _ _ _ vi _ => rw_ - (intOf vi).toNat)
  case atStart => exact ⟨0, none, 0, [], rfl, rfl, Nat.zero_le _, OwnF.nil _ _, Below.refl _ _⟩
  case round =>
    obtain ⟨k, A', c', ds, rfl, rfl, hk, hOM, hbr⟩ := hrel
    have HOM := hide hOM
    have HBR := hide hbr
    have hBr := HBW.out.below hbr zp
    have HBr := hide hBr
    have zpr := hBr.lt
    have hzr := hbr.size
    by_cases hlt : k < rw_
    · obtain ⟨kk, hkk⟩ : ∃ kk, kk = h + k := ⟨_, rfl⟩
      have hki : (h : Int) + (k : Int) = (kk : Int) := by omega
      have hkk2 : kk ≤ 2000 := by omega
      obtain ⟨mm, hmm⟩ : ∃ mm, mm = min (7 * kk) n1 := ⟨_, rfl⟩
      have hmin2 : (if (n1 : Int) < (kk : Int) * 7 then (n1 : Int) else (kk : Int) * 7) = (mm : Int) := by split <;> omega
      have hwk : IntKind.i64.wrap ((kk : Int) * 7) = (kk : Int) * 7 := by unfold IntKind.wrap; simp [IntKind.signed, IntKind.bits]; omega
      have hmm1 : mm ≤ n1 := by omega
      have hmc : (mm : Int) ≤ (n1 : Int) := by omega
      have hmc2 : (n1 : Int) ≤ (c1 : Int) := by omega
      have HE : Hid ((b.drop mm).take 7 ++ (List.replicate 7 0).drop (n1 - mm) = bpiece b kk) := hide (by
        unfold bpiece
        rw [List.drop_replicate, ← HN1.out]
        by_cases h7 : 7 * kk ≤ n1
        · rw [show mm = 7 * kk by omega]
        · rw [show mm = n1 by omega, List.drop_of_length_le (by rw [← HN1.out]; exact Nat.le_refl _), List.drop_of_length_le (l := b) (i := 7 * kk) (by rw [← HN1.out]; omega)]
          congr 2
          omega)
      have HKK := hide hkk
      have b3 : wr.cell? ⟨p, 3, none⟩ = some (.int .i64 (h : Int)) := hBr.cell 3 rfl
      clear hOM hbr hBr hkk hmm
      go_upto_region 9 with (at_make; refine mk_b _ rfl _ _ rfl .i64 .i64 7 7 7 7 rfl rfl rfl rfl (Nat.le_refl _) (by omega) wr.heap.size rfl ?_; intro w6 hO6 hz6 hb6; have HO6 := hide hO6; clear hO6)
      have HB6 := hide (HBr.out.below hb6 zpr)
      have HM6 := hide (HOM.out.below hb6)
      have HBL6 := hide (below_step hb6 HBR.out)
      have HBL67 := hide hb6
      have zp6 := HB6.out.lt
      have g10 : w6.cell? ⟨p, 10, none⟩ = some (.slice A n1 c1) := HB6.out.cell 10 rfl
      obtain ⟨Am, hAm⟩ : ∃ Am, Am = (if c1 = mm then A else Option.map (fun x => x.add mm) A) := ⟨_, rfl⟩
      have hAm' := hAm.symm
      have HSd : Hid (Sl w6 Am ((b.drop mm).map bv)) := hide (by
        rw [hAm]
        have h2 := (HSL.out w6 (HO.out.step HBL6.out)).cut1 (k := mm) (c := c1) (by simp; have := HN1.out; omega)
        unfold cutA at h2
        rw [Nat.mul_one, ← List.map_drop] at h2
        exact h2)
      clear hb6 hAm
      refine wp_region_T (fun w' => w'.cell? ⟨p, 10, none⟩ = some (.slice A n1 c1)) [0, 1, 2, 3, 4, 5, 6, 7, 8, 9, 10, 11, 12, 13] (by kernel_rfl) ?hS24 (fun hHeld => ?rest24)
      case hS24 => ((try dsimp only); exact g10)
      case' rest24 => skip
      refine wpAnyT_take (by kernel_rfl) (by kernel_rfl) (i := 0) (oi := _) (v := ?v25) rfl (by kernel_rfl) (by kernel_rfl) (by kernel_rfl) (fun _ _ _ h => h) (Or.inl ⟨by rfl, ?hy25⟩) (by assumption) ?rest25
      case hy25 => ((intro w hSw; (try dsimp only at hSw); go_simp) <;> with_reducible rfl)
      case' rest25 => try simp only [List.getElem_toArray, List.getElem_cons_zero, List.getElem_cons_succ, Act.put, List.setIfInBounds_toArray, List.set_cons_zero, List.set_cons_succ]
      refine wpAnyT_take (by kernel_rfl) (by kernel_rfl) (i := 1) (oi := _) (v := ?v26) rfl (by kernel_rfl) (by kernel_rfl) (by kernel_rfl) (fun _ _ _ h => h) (Or.inl ⟨by rfl, ?hy26⟩) (by assumption) ?rest26
      case hy26 => ((intro w hSw; (try dsimp only at hSw); go_simp) <;> with_reducible rfl)
      case' rest26 => try simp only [List.getElem_toArray, List.getElem_cons_zero, List.getElem_cons_succ, Act.put, List.setIfInBounds_toArray, List.set_cons_zero, List.set_cons_succ]
      refine wpAnyT_take (by kernel_rfl) (by kernel_rfl) (i := 2) (oi := _) (v := ?v27) rfl (by kernel_rfl) (by kernel_rfl) (by kernel_rfl) (fun _ _ _ h => h) (Or.inl ⟨by rfl, ?hy27⟩) (by assumption) ?rest27
      case hy27 => ((intro w hSw; (try dsimp only at hSw); go_simp) <;> with_reducible rfl)
      case' rest27 => try simp only [List.getElem_toArray, List.getElem_cons_zero, List.getElem_cons_succ, Act.put, List.setIfInBounds_toArray, List.set_cons_zero, List.set_cons_succ]
      refine wpAnyT_take (by kernel_rfl) (by kernel_rfl) (i := 3) (oi := _) (v := ?v28) rfl (by kernel_rfl) (by kernel_rfl) (by kernel_rfl) (fun _ _ _ h => h) (Or.inl ⟨by rfl, ?hy28⟩) (by assumption) ?rest28
      case hy28 => ((intro w hSw; (try dsimp only at hSw); go_simp) <;> with_reducible rfl)
      case' rest28 => try simp only [List.getElem_toArray, List.getElem_cons_zero, List.getElem_cons_succ, Act.put, List.setIfInBounds_toArray, List.set_cons_zero, List.set_cons_succ]
      refine wpAnyT_take (by kernel_rfl) (by kernel_rfl) (i := 4) (oi := _) (v := ?v29) rfl (by kernel_rfl) (by kernel_rfl) (by kernel_rfl) (fun _ _ _ h => h) (Or.inl ⟨by rfl, ?hy29⟩) (by assumption) ?rest29
      case hy29 => ((intro w hSw; (try dsimp only at hSw); go_simp) <;> with_reducible rfl)
      case' rest29 => try simp only [List.getElem_toArray, List.getElem_cons_zero, List.getElem_cons_succ, Act.put, List.setIfInBounds_toArray, List.set_cons_zero, List.set_cons_succ]
      refine wpAnyT_take (by kernel_rfl) (by kernel_rfl) (i := 5) (oi := _) (v := ?v30) rfl (by kernel_rfl) (by kernel_rfl) (by kernel_rfl) (fun _ _ _ h => h) (Or.inl ⟨by rfl, ?hy30⟩) (by assumption) ?rest30
      case hy30 => ((intro w hSw; (try dsimp only at hSw); go_simp) <;> with_reducible rfl)
      case' rest30 => try simp only [List.getElem_toArray, List.getElem_cons_zero, List.getElem_cons_succ, Act.put, List.setIfInBounds_toArray, List.set_cons_zero, List.set_cons_succ]
      refine wpAnyT_take (by kernel_rfl) (by kernel_rfl) (i := 6) (oi := _) (v := ?v31) rfl (by kernel_rfl) (by kernel_rfl) (by kernel_rfl) (fun _ _ _ h => h) (Or.inl ⟨by rfl, ?hy31⟩) (by assumption) ?rest31
      case hy31 => ((intro w hSw; (try dsimp only at hSw); go_simp) <;> with_reducible rfl)
      case' rest31 => try simp only [List.getElem_toArray, List.getElem_cons_zero, List.getElem_cons_succ, Act.put, List.setIfInBounds_toArray, List.set_cons_zero, List.set_cons_succ]
      refine wpAnyT_take (by kernel_rfl) (by kernel_rfl) (i := 7) (oi := _) (v := ?v32) rfl (by kernel_rfl) (by kernel_rfl) (by kernel_rfl) (fun _ _ _ h => h) (Or.inl ⟨by rfl, ?hy32⟩) (by assumption) ?rest32
      case hy32 => ((intro w hSw; (try dsimp only at hSw); go_simp) <;> with_reducible rfl)
      case' rest32 => try simp only [List.getElem_toArray, List.getElem_cons_zero, List.getElem_cons_succ, Act.put, List.setIfInBounds_toArray, List.set_cons_zero, List.set_cons_succ]
      refine wpAnyT_take (by kernel_rfl) (by kernel_rfl) (i := 8) (oi := _) (v := ?v33) rfl (by kernel_rfl) (by kernel_rfl) (by kernel_rfl) (fun _ _ _ h => h) (Or.inl ⟨by rfl, ?hy33⟩) (by assumption) ?rest33
      case hy33 => ((intro w hSw; (try dsimp only at hSw); go_simp) <;> with_reducible rfl)
      case' rest33 => try simp only [List.getElem_toArray, List.getElem_cons_zero, List.getElem_cons_succ, Act.put, List.setIfInBounds_toArray, List.set_cons_zero, List.set_cons_succ]
      refine wpAnyT_take (by kernel_rfl) (by kernel_rfl) (i := 9) (oi := _) (v := ?v34) rfl (by kernel_rfl) (by kernel_rfl) (by kernel_rfl) (fun _ _ _ h => h) (Or.inl ⟨by rfl, ?hy34⟩) (by assumption) ?rest34
      case hy34 => ((intro w hSw; (try dsimp only at hSw); go_simp) <;> with_reducible rfl)
      case' rest34 => try simp only [List.getElem_toArray, List.getElem_cons_zero, List.getElem_cons_succ, Act.put, List.setIfInBounds_toArray, List.set_cons_zero, List.set_cons_succ]
      refine wpAnyT_take (by kernel_rfl) (by kernel_rfl) (i := 10) (oi := _) (v := ?v35) rfl (by kernel_rfl) (by kernel_rfl) (by kernel_rfl) (fun _ _ _ h => h) (Or.inl ⟨by rfl, ?hy35⟩) (by assumption) ?rest35
      case hy35 => ((intro w hSw; (try dsimp only at hSw); go_simp) <;> with_reducible rfl)
      case' rest35 => try simp only [List.getElem_toArray, List.getElem_cons_zero, List.getElem_cons_succ, Act.put, List.setIfInBounds_toArray, List.set_cons_zero, List.set_cons_succ]
      refine wpAnyT_take (by kernel_rfl) (by kernel_rfl) (i := 11) (oi := _) (v := ?v36) rfl (by kernel_rfl) (by kernel_rfl) (by kernel_rfl) (fun _ _ _ h => h) (Or.inl ⟨by rfl, ?hy36⟩) (by assumption) ?rest36
      case hy36 => ((intro w hSw; (try dsimp only at hSw); go_simp) <;> with_reducible rfl)
      case' rest36 => try simp only [List.getElem_toArray, List.getElem_cons_zero, List.getElem_cons_succ, Act.put, List.setIfInBounds_toArray, List.set_cons_zero, List.set_cons_succ]
      refine wpAnyT_take (by kernel_rfl) (by kernel_rfl) (i := 12) (oi := _) (v := ?v37) rfl (by kernel_rfl) (by kernel_rfl) (by kernel_rfl) (fun _ _ _ h => h) (Or.inl ⟨by rfl, ?hy37⟩) (by assumption) ?rest37
      case hy37 => ((intro w hSw; (try dsimp only at hSw); go_simp) <;> with_reducible rfl)
      case' rest37 => try simp only [List.getElem_toArray, List.getElem_cons_zero, List.getElem_cons_succ, Act.put, List.setIfInBounds_toArray, List.set_cons_zero, List.set_cons_succ]
      refine wpAnyT_take (by kernel_rfl) (by kernel_rfl) (i := 13) (oi := _) (v := ?v38) rfl (by kernel_rfl) (by kernel_rfl) (by kernel_rfl) (fun _ _ _ h => h) (Or.inl ⟨by rfl, ?hy38⟩) (by assumption) ?rest38
      case hy38 => ((intro w hSw; (try dsimp only at hSw); go_simp) <;> with_reducible rfl)
      case' rest38 => try simp only [List.getElem_toArray, List.getElem_cons_zero, List.getElem_cons_succ, Act.put, List.setIfInBounds_toArray, List.set_cons_zero, List.set_cons_succ]
      refine wpAnyT_late (i := 14) (o := _) rfl (by kernel_rfl) (by kernel_rfl) (fun K hK => ?_)
      rw [if_pos (show Region.wanted _ _ = true by kernel_rfl)]
      refine wp_cpy_b _ _ rfl wr.heap.size _ 7 _ rfl HO6.out.drew _ _ _ (b.drop mm) rfl (by rw [List.length_drop, ← HN1.out]) HSd.out (bpiece b kk) HE.out ?_
      intro w7 hO7 hg7 hb7
      have HO7 := hide hO7
      have HB7 := hide hb7
      clear hO7 hg7 hb7
      refine hK.out _ _ ?restcp
      case' restcp => (clear hK K; try simp only [List.getElem_toArray, List.getElem_cons_zero, List.getElem_cons_succ, Act.put, List.setIfInBounds_toArray, List.set_cons_zero, List.set_cons_succ])
      refine wpAnyT_done (by kernel_rfl) ?_ _
      repeat (clear hHeld)
      go_upto_region 10 with fail
      have hb7 : Below wr.heap.size w6 w7 := (below_drew1 (Below.refl _ _)).trans HB7.out
      obtain ⟨dd, hdd⟩ : ∃ dd, dd = bpiece b kk := ⟨_, rfl⟩
      have hdl : dd.length = 7 := by rw [hdd]; exact piece_len22 b kk
      obtain ⟨la, hla⟩ : ∃ la, la = decide ((h : Int) + (k : Int) + 1 = (tot : Int)) := ⟨_, rfl⟩
      have hlb : ((kk : Int) + 1 == (tot : Int)) = la := by
        rw [hla, ← hki]
        by_cases hx : (h : Int) + (k : Int) + 1 = (tot : Int)
        · simp [hx]
        · simp [hx]
      have HM7 := hide (((HOM.out.mono (G := fun g => W2.heap.size ≤ g ∧ g < wr.heap.size) (fun g h1 h2 => ⟨h2, h1⟩)).keep (w' := w6) (fun g hg _ => HBL67.out.block g hg.2)).keep (w' := w7) (fun g hg _ => hb7.block g hg.2))
      have hBp7 := (HB6.out.below hb7 zpr)
      have HBp7 := hide hBp7
      have HBL7 := hide (HBL6.out.trans (hb7.mono hzr))
      have zw7 : w6.heap.size ≤ w7.heap.size := hb7.size
      have HC7 : Hid (∀ o : Obj, OwnM (w7.alloc o) (fun g => W2.heap.size ≤ g) A' k c' (bgiveT tot h b k) ds) := hide (fun o => (HM7.out.below (below_alloc (Below.refl _ _) o)).mono (fun g _ hg => hg.1))
      have HOd : Hid (∀ o : Obj, OwnB (w7.alloc o) 0 (some ⟨wr.heap.size, 0, none⟩) dd.length 7 dd) := hide (fun o => by rw [hdl, hdd]; exact (HO7.out.alloc o).mono (Nat.zero_le _))
      have HDL := hide hdl
      have HDD := hide hdd
      have HLA := hide hla
      have zp7 := hBp7.lt
      clear hb7 hBp7 hdl hdd hla g10
      go_wp2_with fail
      refine (blk_total p pd ⟨mo, sz, nx, (h : Int), ta, (rw_ : Int), 5, ix, sub, b, sm⟩ A n1 c1 w7 HBp7.out HN1.out (by omega)).mono ?_
      rintro e w8 ⟨rfl, hw8⟩
      subst hw8
      rw [show btotal (BlkS.b ⟨mo, sz, nx, (h : Int), ta, (rw_ : Int), 5, ix, sub, b, sm⟩) = tot from HT.out.symm]
      go_wp2_with (at_builtin; refine app_f _ rfl _ _ 40 rfl msF_len msF_one (by decide) i0 _ 96 Try.underlying40 hi0 hz0 hz1 hz2 rfl (by omega) (by omega) A' k c' (bgiveT tot h b k) ds rfl (HC7.out _) (⟨21, 0, 0, false, la, false, false, 0, 0, dd, (k : Int) + 1, 0, 0, 0⟩ : Ms) (some ⟨wr.heap.size, 0, none⟩, 7) _ rfl (by simp only [msF]; rw [HDL.out]; exact (Blk.new _ _ _).sl) (HOd.out _) (by intro g hg; injection hg with hg; injection hg with hg; subst hg; exact hzr) (fun g hg => by have hz9 := HBL7.out.size; simp at hg; omega) (by omega) (k + 1) rfl ?_; intro A4 c4 w9 hO9 hg9 hA9)
      have hin := HOM.out.inF
      have hgo := Only.of_grown (F := fun g => A' = some ⟨g, 0, none⟩) hg9 (fun q hq => by
        rcases HOM.out.own.shape with ⟨h1, _⟩ | ⟨q', h1, _⟩
        · rw [h1] at hq; simp [Value.ownBlock] at hq
        · rw [h1] at hq
          simp [Value.ownBlock] at hq
          subst hq
          exact h1)
      have hzA : ∀ o : Obj, W2.heap.size ≤ (w7.alloc o).heap.size := fun o => by have := HBL7.out.size; simp; omega
      have HB9 := hide ((below_alloc HBL7.out _).trans (hgo.below (N := W2.heap.size) (hzA _) (fun q hq => hin q hq)))
      have HO9 := hide hO9
      clear hO9 hg9 hA9 hgo hin hzA
      go_roundw
      case rel =>
        refine ⟨k + 1, A4, c4, ds ++ [(some ⟨wr.heap.size, 0, none⟩, 7)], by go_num, rfl, by omega, ?_, HB9.out⟩
        rw [bgiveT_succ]
        have h9 := HO9.out
        rw [HLA.out, HDD.out, HKK.out] at h9
        exact h9
      case measure => simp [intOf]; omega
    · have hkr : k = rw_ := by omega
      subst hkr
      have HKr := hide (HK.out.below hbr zk)
      clear hOM hbr hBr
      go_wp2_with fail
      refine (blk_send A' k c' _).mono ?_
      rintro e w4 ⟨rfl, hb4⟩
      have HK4 := hide (HKr.out.below hb4 HKr.out.lt)
      have HB4 := hide (HBr.out.below hb4 HBr.out.lt)
      have HM4 := hide (HOM.out.below hb4)
      have HO4 := hide (HO.out.step (below_step hb4 HBR.out))
      have k2 := HK4.out
      unfold outV outZ at k2
      unfold outV outZ
      dsimp only
      have k2_c0 := k2.cell 0 rfl
      have k2_f0 := k2.frozen 0
      have k2_c1 := k2.cell 1 rfl
      have k2_f1 := k2.frozen 1
      have k2_c2 := k2.cell 2 rfl
      have k2_f2 := k2.frozen 2
      have k2_c3 := k2.cell 3 rfl
      have k2_f3 := k2.frozen 3
      have k2_c4 := k2.cell 4 rfl
      have k2_f4 := k2.frozen 4
      clear hb4
      go_wp2_with fail
      have F1 := putO_blk (As' := A') (ns' := k) (cs' := c') (O' := outZ) (A' := none) (n' := 0) (c' := 0) HK4.out
      have F2 : BOutF w G p pd ⟨mo, sz, nx, (h : Int), ta, (k : Int), 5, ix, sub, b, sm⟩ (bgiveT tot h b k) (.returned (.agg (outV A' k c' outZ none 0 0))) (putO w4 w.heap.size A' k c' outZ none 0 0) := by
        refine ⟨A', k, c', ds, rfl, (HM4.out.keep (fun g hg _ => putO_heap (show g ≠ w.heap.size by omega) _ _ _ _ _ _ _)).mono (fun g _ hg => by omega), ⟨A, n1, c1, putO_far HB4.out (fun e => hne0 e.symm) _ _ _ _ _ _ _, fun _ => ⟨HN1.out, hc1, ?_, HAN.out, fun ad e => ⟨(HAG.out ad e).1, ?_, (HAG.out ad e).2.2⟩⟩⟩, putO_only HO4.out (Nat.le_refl _) _ _ _ _ _ _ _⟩
        · exact sl_blk (HSL.out w4 HO4.out) (fun ad e => putO_heap (by have := (HAG.out ad e).2.1; omega) _ _ _ _ _ _ _)
        · rw [putO_size]
          exact Nat.lt_of_lt_of_le (HAG.out ad e).2.1 HO4.out.size
      rw [← HR.out] at F2
      unfold putO outZ at F1 F2
      dsimp only at F1 F2
      refine ret_out (O := ⟨[], false, 0, 0, []⟩) rfl rfl rfl F1 ?_
      exact F2
end Go.Proofs.Ytimdmhhgomfijaa
