/- Sectors: same, blank, and the law's own known(). -/
import Derived.Test.YtapfadaplncpeaaSecB
import Derived.Test.YtapfadaplncpeaaSecD
namespace Go.Proofs.Ytapfadaplncpeaa
set_option linter.unusedVariables false
set_option linter.unusedSimpArgs false
set_option linter.unnecessarySimpa false
open Go.RowKit
set_option maxRecDepth 20000
set_option maxHeartbeats 2000000
attribute [local go_sem ↓] Go.wp_at_zero Go.wp_at_succ

theorem sec_same (A1 A2 : Option Addr) (k cnt en : Int) (m n1 c1 n2 c2 : Nat) (cl : Bool) (d : List UInt8) (w : World) (hn1 : n1 = d.length) (hn2 : n2 = d.length) (h1 : Sl w A1 (d.map bv)) (h2 : Sl w A2 (d.map bv)) :
    Calls Try.prog 41 #[.agg #[.int .i64 k, .int .u32 (m : Nat), .slice A1 n1 c1, .int .i64 cnt, .int .i64 en, .bool cl], .agg #[.int .i64 k, .int .u32 (m : Nat), .slice A2 n2 c2, .int .i64 cnt, .int .i64 en, .bool cl]] w
      fun e w' => e = .returned (.bool true) ∧ Below w.heap.size w w' := by
  have kk := blk_two w 55 58 #[.int .i64 k, .int .u32 (m : Nat), .slice A1 n1 c1, .int .i64 cnt, .int .i64 en, .bool cl] #[.int .i64 k, .int .u32 (m : Nat), .slice A2 n2 c2, .int .i64 cnt, .int .i64 en, .bool cl]
  have hbk := below_alloc (below_alloc (Below.refl w.heap.size w) (.cells #[.int .i64 k, .int .u32 (m : Nat), .slice A1 n1 c1, .int .i64 cnt, .int .i64 en, .bool cl] 55)) (.cells #[.int .i64 k, .int .u32 (m : Nat), .slice A2 n2 c2, .int .i64 cnt, .int .i64 en, .bool cl] 58)
  have HS := hide (fun W (h : Below w.heap.size w W) => rsame A1 A2 k k m m n1 c1 n2 c2 d d W hn1 hn2 (h1.below h) (h2.below h))
  rw [same_self] at HS
  have KK := hide kk
  clear hn1 hn2 kk
  go_enter Try.func41, Try.ntmps41
  go_wp2_with fail
  refine (HS.out _ hbk).mono ?_
  rintro e w1 ⟨rfl, hb1⟩
  have k1 := KK.out.1.below hb1 (by simp; omega)
  have k2 := KK.out.2.below hb1 (by simp)
  have x3 := k1.cell 3 rfl
  have x4 := k1.cell 4 rfl
  have x5 := k1.cell 5 rfl
  have y3 := k2.cell 3 rfl
  have y4 := k2.cell 4 rfl
  have y5 := k2.cell 5 rfl
  cases cl
  all_goals
    go_wp2_with fail
    go_ret
    exact ⟨rfl, below_step hb1 hbk⟩

def ones (n : Nat) : List UInt8 := List.replicate n 255
theorem ones_succ (n : Nat) : ones (n + 1) = ones n ++ [255] := by unfold ones; rw [List.replicate_succ']
theorem ones_blank (n : Nat) : blankB ((ones n).drop 0) = true := by
  refine blank_yes _ ?_
  intro k hk
  simp [ones]
theorem ones_length (n : Nat) : (ones n).length = n := by unfold ones; rw [List.length_replicate]
theorem sec_blank (n : Nat) (hl : n ≤ 35184372088) (w : World) :
    Calls Try.prog 76 #[.int .i64 (n : Nat)] w fun e w' => ∃ A' c', e = .returned (.slice A' n c') ∧ OwnB w' w.heap.size A' n c' (ones n) ∧ Below w.heap.size w w' := by
  go_enter Try.func76, Try.ntmps76
  go_wp2_with fail
  go_loopw [3, 4] (fun v i wr => ∃ k A c, k ≤ n ∧ i = .int .i64 (k : Nat) ∧ v = .slice A k c ∧ OwnB wr w.heap.size A k c (ones k) ∧ Below w.heap.size w wr) (fun _ i _ => n - (intOf i).toNat)
  case atStart => exact ⟨0, none, 0, by omega, rfl, rfl, OwnB.nil _ _, Below.refl _ _⟩
  case round =>
    obtain ⟨k, A, c, hk, rfl, rfl, hO, hbr⟩ := hrel
    by_cases hlt : k < n
    · go_wp2_with (at_builtin; refine app_b _ rfl (.tmp 10) (.tmp 11) rfl w.heap.size _ _ _ _ rfl (hO.alloc _) _ _ _ [255] rfl rfl (Sl.one _ _ _) (by omega) (below_alloc hbr _).size (k + 1) rfl ?_; intro A3 c3 w3 hown3 _ _ hb3)
      go_roundw
      case rel => exact ⟨k + 1, A3, c3, by omega, by go_num, rfl, by rw [ones_succ]; exact hown3, (below_alloc hbr _).trans hb3⟩
      case measure => simp [intOf]; omega
    · obtain rfl : k = n := by omega
      go_wp2_with fail
      go_ret
      exact ⟨A, c, rfl, hO, hbr⟩

theorem kLook1 : lookL (ones 1024) = ⟨0, 0, [], 0, 0, true⟩ := by
  have hp : recParse (ones 1024) ((0 : Nat) : Int) = ⟨0, 0, [], 0, 4⟩ := by
    rw [recParse_at _ 0 (by omega), List.drop_zero, recAt_letter (by rw [ones_length]; omega)]
    rw [List.getD_eq_getElem?_getD, ones, List.getElem?_replicate]
    decide
  have he : lookE (ones 1024) = lookZ := by
    unfold lookE
    refine look_stop ?_
    show stopB lookZ (recParse (ones 1024) ((0 : Nat) : Int)) = true
    rw [hp]; rfl
  unfold lookL
  rw [he]
  have hb : blankB ((ones 1024).drop lookZ.en) = true := ones_blank 1024
  rw [hb]
  rfl
theorem kR15 : rightR 1 1 1 = 0 ∧ rightR 1 5 1 = 0 := by decide
theorem kLook2 : lookL (recB 1 5 [97]) = ⟨1, 5, [97], 1, 14, true⟩ := by
  obtain ⟨hp, hlen⟩ := build_parse_rec [] [] [97] 1 5 kR15.2 (by unfold U32; omega)
  simp only [List.nil_append, List.append_nil, List.length_nil, List.length_cons] at hp hlen
  have hp0 : recParse (recB 1 5 [97]) ((0 : Nat) : Int) = ⟨1, 5, [97], 14, 0⟩ := by rw [hp]; rfl
  have hp1 : recParse (recB 1 5 [97]) ((14 : Nat) : Int) = ⟨0, 0, [], 0, 2⟩ := by
    rw [recParse_at _ 14 (by omega), recAt_short (by rw [List.length_drop]; omega)]
  have he : lookE (recB 1 5 [97]) = ⟨1, 5, [97], 1, 14, false⟩ := by
    unfold lookE
    rw [show (recB 1 5 [97]).length = 13 + 1 by omega, look_go (by show stopB lookZ (recParse (recB 1 5 [97]) ((0 : Nat) : Int)) = false; rw [hp0]; rfl)]
    show lookF _ _ ⟨(recParse (recB 1 5 [97]) ((0 : Nat) : Int)).kind, (recParse (recB 1 5 [97]) ((0 : Nat) : Int)).num, (recParse (recB 1 5 [97]) ((0 : Nat) : Int)).data, 0 + 1, 0 + (recParse (recB 1 5 [97]) ((0 : Nat) : Int)).data.length + 13, false⟩ = _
    rw [hp0]
    refine look_stop ?_
    show stopB _ (recParse (recB 1 5 [97]) ((14 : Nat) : Int)) = true
    rw [hp1]; rfl
  unfold lookL
  rw [he]
  have : (recB 1 5 [97]).drop 14 = [] := List.drop_eq_nil_of_le (by omega)
  show LK.mk 1 5 [97] 1 14 (blankB ((recB 1 5 [97]).drop 14)) = _
  rw [this]
  rfl
theorem conv_const0 (w : World) (C : Array Value) (n c : Nat) : (convert 23 23 (.slice (some ⟨w.heap.size, 0, none⟩) n c)).run Try.prog (w.alloc (.cells C 5)) = .ok (.slice (some ⟨w.heap.size, 0, none⟩) n c) (w.alloc (.cells C 5 (C.size, C.size + 1))) :=
  Lib.run_convert_bytes_const (P := Try.prog) w 23 5 C n c Try.underlying23 Try.underlying5
theorem Sl.mark0 (w : World) (x : Value) (t : TypeId) (f : Nat × Nat) : Sl (w.alloc (.cells #[x] t f)) (some ⟨w.heap.size, 0, none⟩) [x] := Sl.mark w x t f
def kv1 (A : Option Addr) (c : Nat) : KV := ⟨0, 0, A, 0, c, 0, 0, true⟩
def kv2 (A : Option Addr) (c : Nat) : KV := ⟨1, 5, A, 1, c, 1, 14, true⟩
theorem kNext (A A' B : Option Addr) (c c' d : Nat) : nextS [kv1 A c, kv1 A' c', kv2 B d] [3, 2] [] (newestS [kv1 A c, kv1 A' c', kv2 B d] 3) 3 = (1, true) := rfl
theorem kNewest (A B : Option Addr) (c d : Nat) : newestS [kv1 A c, kv2 B d] 2 = (1, true) := rfl

def kvC (v : KV) : List Value := [.int .i64 v.k, .int .u32 (v.m : Nat), .slice v.sa v.sn v.sc, .int .i64 v.cnt, .int .i64 v.en, .bool v.cl]
theorem kvC_at : ∀ (L : List KV) (j i : Nat) (v : KV), L[j]? = some v → i < 6 → (L.flatMap kvC)[j * 6 + i]? = (kvC v)[i]? := by
  intro L
  induction L with
  | nil => intro j i v h; simp at h
  | cons u L ih =>
    intro j i v h hi
    rw [List.flatMap_cons]
    cases j with
    | zero =>
      simp at h
      subst h
      rw [List.getElem?_append_left (by simp [kvC]; omega)]
      simp
    | succ j =>
      rw [List.getElem?_append_right (by simp [kvC]; omega)]
      rw [← ih j i v (by simpa using h) hi]
      congr 1
      simp [kvC]
      omega
theorem slk_blk {w : World} {g : Nat} {t : TypeId} (L : List KV) (h : Blk w g t (L.flatMap kvC).toArray) : SlK w (some ⟨g, 0, none⟩) L := by
  intro j v hv
  have c : ∀ i u, i < 6 → (kvC v)[i]? = some u → w.cell? ⟨g, 0 + j * 6 + i, none⟩ = some u := by
    intro i u hi hu
    rw [Nat.zero_add]
    exact h.cell (j * 6 + i) (by rw [List.getElem?_toArray, kvC_at L j i v hv hi]; exact hu)
  exact ⟨g, 0, rfl, c 0 _ (by omega) rfl, c 1 _ (by omega) rfl, c 2 _ (by omega) rfl, c 3 _ (by omega) rfl, c 4 _ (by omega) rfl, c 5 _ (by omega) rfl⟩
theorem sl_ints {w : World} {g : Nat} {t : TypeId} (xs : List Int) (h : Blk w g t (xs.map (Value.int .i64)).toArray) : Sl w (some ⟨g, 0, none⟩) (xs.map (Value.int .i64)) := by
  have := h.sl
  simpa using this

theorem known_08 (w : World) : Calls Try.prog 39 #[] w (TrueB w) := by
  have HB := hide (sec_blank 1024 (by omega) w)
  rw [show ((1024 : Nat) : Int) = 1024 from rfl] at HB
  go_enter Try.func39, Try.ntmps39
  go_wp2_with fail
  refine HB.out.mono ?_
  rintro e w1 ⟨A1, c1, rfl, hO1, hb1⟩
  go_wp2_with fail
  refine (sec_of A1 1024 c1 _ w1 hO1.hn hO1.le (by omega) hO1.sl).mono ?_
  rintro e w2 ⟨A2, n2, c2, rfl, hO2, hb2⟩
  rw [kLook1] at hO2 ⊢
  obtain rfl : n2 = 0 := hO2.hn
  have hbw2 := below_step hb2 hb1
  simp only []
  have q1 := blk_one w2 55 #[.int .i64 0, .int .u32 0, .slice A2 0 c2, .int .i64 0, .int .i64 0, .bool true]
  have hbq := below_alloc hbw2 (.cells #[.int .i64 0, .int .u32 0, .slice A2 0 c2, .int .i64 0, .int .i64 0, .bool true] 55)
  have kc := conv_const0 (w2.alloc (.cells #[.int .i64 0, .int .u32 0, .slice A2 0 c2, .int .i64 0, .int .i64 0, .bool true] 55)) #[.int .u8 97] 1 1
  simp only [World.size_alloc] at kc
  have zq := q1.lt
  simp only [World.size_alloc] at zq
  have HQ := hide (And.intro q1 hbq)
  clear q1 hbq
  go_wp2_with fail
  have HBB := hide (fun W A c (h : Sl W A [bv 97]) => show Calls Try.prog 30 #[.agg #[.int .i64 1, .int .u32 5, .slice A 1 c]] W _ from rrec_build A 1 5 1 c [97] W rfl h (by unfold U32; omega))
  rw [kR15.2] at HBB
  have hm := Sl.mark0 (w2.alloc (.cells #[.int .i64 0, .int .u32 0, .slice A2 0 c2, .int .i64 0, .int .i64 0, .bool true] 55)) (bv 97) 5 (1, 2)
  simp only [World.size_alloc] at hm
  refine (HBB.out _ _ _ hm).mono ?_
  rintro e w3 ⟨A3, n3, c3, rfl, hO3, hb3⟩
  have q3 := (HQ.out.1.alloc (.cells #[.int .u8 97] 5 (1, 2))).below hb3 (by simp; omega)
  have hbw3 := below_step hb3 (below_alloc HQ.out.2 (.cells #[.int .u8 97] 5 (1, 2)))
  have z3 := q3.lt
  clear kc hm
  have hn3 : n3 = 14 := by
    obtain ⟨_, hlen⟩ := build_parse_rec [] [] [97] 1 5 kR15.2 (by unfold U32; omega)
    rw [hO3.hn, hlen]; rfl
  subst hn3
  go_wp2_with fail
  refine (sec_of A3 14 c3 _ w3 hO3.hn hO3.le (by omega) hO3.sl).mono ?_
  rintro e w4 ⟨A4, n4, c4, rfl, hO4, hb4⟩
  rw [kLook2] at hO4 ⊢
  obtain rfl : n4 = 1 := hO4.hn
  simp only []
  have q4 := (q3.below hb4 z3).alloc (.cells #[.int .i64 1, .int .u32 5, .slice A4 1 c4, .int .i64 1, .int .i64 14, .bool true] 55)
  have p4 := blk_one w4 55 #[.int .i64 1, .int .u32 5, .slice A4 1 c4, .int .i64 1, .int .i64 14, .bool true]
  have hbw4 := below_alloc (below_step hb4 hbw3) (.cells #[.int .i64 1, .int .u32 5, .slice A4 1 c4, .int .i64 1, .int .i64 14, .bool true] 55)
  have z4 : w2.heap.size < w4.heap.size := by have := hb4.size; omega
  have a0 := q4.cell 0 rfl
  have a1 := q4.cell 1 rfl
  have a2 := q4.cell 2 rfl
  have a3 := q4.cell 3 rfl
  have a4 := q4.cell 4 rfl
  have a5 := q4.cell 5 rfl
  have b0 := p4.cell 0 rfl
  have b1 := p4.cell 1 rfl
  have b2 := p4.cell 2 rfl
  have b3 := p4.cell 3 rfl
  have b4 := p4.cell 4 rfl
  have b5 := p4.cell 5 rfl
  have zp := p4.lt
  have HW := hide (And.intro q4 (And.intro p4 hbw4))
  clear q4 p4 hbw4
  go_wp2_with fail
  have kk := blk_two (w4.alloc (.cells #[.int .i64 1, .int .u32 5, .slice A4 1 c4, .int .i64 1, .int .i64 14, .bool true] 55)) 55 3 (List.flatMap kvC [kv1 A2 c2, kv1 A2 c2, kv2 A4 c4]).toArray #[.int .i64 3, .int .i64 2]
  simp only [World.size_alloc] at kk
  have s1 := slk_blk [kv1 A2 c2, kv1 A2 c2, kv2 A4 c4] kk.1
  have s2 := sl_ints [3, 2] kk.2
  have hn1 := sec_next (some ⟨w4.heap.size + 1, 0, none⟩) (some ⟨w4.heap.size + 1 + 1, 0, none⟩) none 3 3 2 2 0 0 [kv1 A2 c2, kv1 A2 c2, kv2 A4 c4] [3, 2] [] _ rfl (by omega) s1 rfl (by omega) s2 rfl (by omega) (Sl.nil _ _)
  rw [kNext] at hn1
  refine hn1.mono ?_
  clear hn1 s1 s2 kk
  rintro e w5 ⟨rfl, hb5⟩
  obtain ⟨q4, p4, hbw4⟩ := HW.out
  have q5 := ((q4.alloc (.cells (List.flatMap kvC [kv1 A2 c2, kv1 A2 c2, kv2 A4 c4]).toArray 55)).alloc (.cells #[.int .i64 3, .int .i64 2] 3)).below hb5 (by simp; omega)
  have p5 := ((p4.alloc (.cells (List.flatMap kvC [kv1 A2 c2, kv1 A2 c2, kv2 A4 c4]).toArray 55)).alloc (.cells #[.int .i64 3, .int .i64 2] 3)).below hb5 (by simp; omega)
  have hbw5 := below_step hb5 (below_alloc (below_alloc hbw4 (.cells (List.flatMap kvC [kv1 A2 c2, kv1 A2 c2, kv2 A4 c4]).toArray 55)) (.cells #[.int .i64 3, .int .i64 2] 3))
  clear a0 a1 a2 a3 a4 a5 b0 b1 b2 b3 b4 b5 q4 p4 hbw4 HW
  have a0 := q5.cell 0 rfl
  have a1 := q5.cell 1 rfl
  have a2 := q5.cell 2 rfl
  have a3 := q5.cell 3 rfl
  have a4 := q5.cell 4 rfl
  have a5 := q5.cell 5 rfl
  have b0 := p5.cell 0 rfl
  have b1 := p5.cell 1 rfl
  have b2 := p5.cell 2 rfl
  have b3 := p5.cell 3 rfl
  have b4 := p5.cell 4 rfl
  have b5 := p5.cell 5 rfl
  have z5 := q5.lt
  have z6 := p5.lt
  simp only []
  go_wp2_with fail
  have k2 := blk_one w5 55 (List.flatMap kvC [kv1 A2 c2, kv2 A4 c4]).toArray
  have s3 := slk_blk [kv1 A2 c2, kv2 A4 c4] k2
  have hn2 := sec_newest (some ⟨w5.heap.size, 0, none⟩) 2 2 [kv1 A2 c2, kv2 A4 c4] _ rfl (by omega) s3
  rw [kNewest] at hn2
  refine hn2.mono ?_
  clear hn2 s3 k2
  rintro e w6 ⟨rfl, hb6⟩
  have q6 := (q5.alloc (.cells (List.flatMap kvC [kv1 A2 c2, kv2 A4 c4]).toArray 55)).below hb6 (by simp; omega)
  have p6 := (p5.alloc (.cells (List.flatMap kvC [kv1 A2 c2, kv2 A4 c4]).toArray 55)).below hb6 (by simp; omega)
  have hbw6 := below_step hb6 (below_alloc hbw5 (.cells (List.flatMap kvC [kv1 A2 c2, kv2 A4 c4]).toArray 55))
  clear a0 a1 a2 a3 a4 a5 b0 b1 b2 b3 b4 b5
  have a0 := q6.cell 0 rfl
  have a1 := q6.cell 1 rfl
  have a2 := q6.cell 2 rfl
  have a3 := q6.cell 3 rfl
  have a4 := q6.cell 4 rfl
  have a5 := q6.cell 5 rfl
  have b1 := p6.cell 1 rfl
  have b3 := p6.cell 3 rfl
  have b4 := p6.cell 4 rfl
  simp only []
  go_wp2_with fail
  refine (sec_room 0 0 A2 0 c2 0 0 true 960 _ (by omega) (by omega)).mono ?_
  rintro e w7 ⟨rfl, hb7⟩
  have q7 := q6.below hb7 q6.lt
  have a0' := q7.cell 0 rfl
  have a1' := q7.cell 1 rfl
  have a2' := q7.cell 2 rfl
  have a3' := q7.cell 3 rfl
  have a4' := q7.cell 4 rfl
  have a5' := q7.cell 5 rfl
  clear a0 a1 a2 a3 a4 a5 b1 b3 b4
  rw [show (true && decide (0 ≤ (960 : Int) ∧ (960 : Int) ≤ 960 ∧ (0 : Int) ≤ 0 ∧ (0 : Int) ≤ 1011 - 960)) = true by decide]
  go_wp2_with fail
  refine (sec_room 0 0 A2 0 c2 0 0 true 1020 _ (by omega) (by omega)).mono ?_
  rintro e w8 ⟨rfl, hb8⟩
  rw [show (true && decide (0 ≤ (1020 : Int) ∧ (1020 : Int) ≤ 960 ∧ (0 : Int) ≤ 0 ∧ (0 : Int) ≤ 1011 - 1020)) = false by decide]
  go_wp2_with fail
  go_ret
  exact (⟨rfl, below_step hb8 (below_step hb7 hbw6)⟩ : TrueB w _ _)
end Go.Proofs.Ytapfadaplncpeaa
