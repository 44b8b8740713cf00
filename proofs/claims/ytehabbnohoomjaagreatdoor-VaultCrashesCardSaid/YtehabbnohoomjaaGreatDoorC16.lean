/- Package journal: number, wears, place, Last. -/
import Derived.Test.YtehabbnohoomjaaGreatDoorC15
import Derived.Test.YtehabbnohoomjaaGreatDoorC01
import Derived.Test.YtehabbnohoomjaaGreatDoorC13
namespace Go.Proofs.YtehabbnohoomjaaGreatDoor
section
set_option linter.unusedVariables false
set_option linter.unusedSimpArgs false
set_option linter.unnecessarySimpa false
open Go.RowKit
set_option maxRecDepth 20000
set_option maxHeartbeats 4000000

theorem infoIn : (Tryz.prog.info? 3).map (fun i => (i.zero, i.size, i.bytes)) = some (some (.int .i64 0), 1, 8) := by kernel_rfl
/-- a number appended onto a row of the call's own -/
theorem app_i {ops : Array Oper} {rest : List Oper} {o : Oper} {a : Act} {Q : Exit → Act → World → Prop} (w : World) (hgd : o.guard = none) (s x : Operand) (ho : o.op = .call { callee := .builtin .append, args := #[s, x], argTypes := #[72, 72] })
    (B : Nat) (A : Option Addr) (n c : Nat) (xs : List Value) (hs : a.eval s = .slice A n c) (hown : Own w B 3 1 A n c xs)
    (A2 : Option Addr) (c2 : Nat) (v : Int) (hx : a.eval x = .slice A2 1 c2) (hr : Sl w A2 [.int .i64 v]) (hb : n ≤ 1000000) (hB : B ≤ w.heap.size)
    (h : ∀ A' c' w', Own w' B 3 1 A' (n + 1) c' (xs ++ [.int .i64 v]) → w.grownBy w' (Value.ownBlock (.slice A n c)) → (A' = A ∨ A' = some ⟨w.heap.size, 0, none⟩) → Below B w w' →
      wpList Tryz.prog ops Q rest (a.put o.dst (.slice A' (n + 1) c')) w') : wpList Tryz.prog ops Q (o :: rest) a w := by
  obtain ⟨i0, hi0, hz0, hz1, hz2⟩ := info_parts infoIn
  refine wpList_app w hgd s x _ ho B 3 i0 _ 1 8 Tryz.underlying72 hi0 hz0 hz1 hz2 rfl (by omega) A n c _ hs hown A2 1 c2 [.int .i64 v] hx rfl hr (by intro u hu; simp at hu; subst hu; rfl) (by unfold maxLen; omega) (by omega) hB (n + 1) rfl _ rfl ?_
  intro A' c' w' h1 h2 h3 h4
  exact h A' c' w' h1 h2 h3 h4
section
variable {F : Nat → Prop} {p n c : Nat} {A : Option Addr} {J : JS} {ds : List (Option Addr × Nat)} {q : FP} {S : FS}
theorem numJ_u32 (h : ∀ x ∈ J.looks, FitK x) : U32 (numJ J) := by
  unfold numJ lastJ
  split
  · rw [List.getD_eq_getElem?_getD]
    cases hx : J.looks[J.now]? with
    | none => show (0 : Nat) < _; decide
    | some x => exact (h x (List.mem_of_getElem? hx)).m
  · show (0 : Nat) < _; decide
theorem lastJ_at {w : World} {pf : Nat} (h : JD w F p pf A n c J ds) (hh : J.has = true) : J.looks[J.now]? = some (lastJ J) := by
  have h1 := h.at_ hh
  rw [h.lks.hn] at h1
  unfold lastJ
  rw [List.getD_eq_getElem?_getD, List.getElem?_eq_getElem h1]
  rfl
theorem jo_number {pf : Nat} (w : World) (hD : JD w F p pf A n c J ds) : Calls Tryz.prog 163 #[.agg #[.slice A n c, .int .i64 (J.now : Nat), .bool J.has]] w fun e w' => e = .returned (.int .u32 ((numJ J : Nat) : Int)) ∧ Below w.heap.size w w' := by
  have q0 := blk_one w 127 #[.slice A n c, .int .i64 (J.now : Nat), .bool J.has]
  have hb := below_alloc (Below.refl w.heap.size w) (.cells #[.slice A n c, .int .i64 (J.now : Nat), .bool J.has] 127)
  have HB := hide hb
  cases hh : J.has
  · have HN : Hid (numJ J = 0) := hide (by unfold numJ; rw [hh]; rfl)
    rw [HN.out]
    rw [hh] at q0 HB
    obtain ⟨q0_c0, q0_c1, q0_c2⟩ := cel3 q0
    have q0_f := q0.frozen
    clear q0 hb
    go_enter Tryz.func163, Tryz.ntmps163
    go_wp2_with fail
    go_ret
    exact ⟨rfl, HB.out⟩
  · have hl := lastJ_at hD hh
    have HN : Hid (numJ J = (lastJ J).m) := hide (by unfold numJ; rw [hh]; rfl)
    rw [HN.out]
    obtain ⟨g, d, hA, hg, hd, hO, hfx, hlt, ⟨c0, c1, c2, c3, c4, c5⟩, hF, hFd⟩ := (hD.below hb).look hl
    rw [hh] at q0 HB c1
    obtain ⟨x, hx⟩ : ∃ x, x = lastJ J := ⟨_, rfl⟩
    rw [← hx] at c1 ⊢
    obtain ⟨k, hk⟩ : ∃ k, k = J.now := ⟨_, rfl⟩
    rw [← hk] at c1 hlt q0 HB ⊢
    obtain ⟨i1, i2, i3⟩ := idx_at hlt
    subst hA
    obtain ⟨q0_c0, q0_c1, q0_c2⟩ := cel3 q0
    have q0_f := q0.frozen
    clear q0 hb hl hO hfx c0 c2 c3 c4 c5 hx hk hD hd
    go_enter Tryz.func163, Tryz.ntmps163
    go_wp2_with fail
    go_ret
    exact ⟨rfl, HB.out⟩
theorem jo_wears (w : World) (hD : JD w F p q.p A n c J ds) (hS : FD w q S) (hn : n = S.wear.length) :
    Calls Tryz.prog 190 #[.pointer (some ⟨p, 0, none⟩)] w fun e w' => ∃ A1 c1 A2 c2, e = .returned (.tuple #[.slice A1 n c1, .slice A2 n c2]) ∧ Sl w' A1 ((S.wear.map fun x => ((x : Nat) : Int)).map (Value.int .i64)) ∧ Sl w' A2 ((S.wear.map fun x => S.most - ((x : Nat) : Int)).map (Value.int .i64)) ∧ Below w.heap.size w w' := by
  have HW := hide (fun i W (hi : i < n) (hb : Below w.heap.size w W) => fl_Worn q S W i (hS.below hb) (by rw [← hn]; exact hi))
  have HL := hide (fun i W (hi : i < n) (hb : Below w.heap.size w W) => fl_Left q S W i (hS.below hb) (by rw [← hn]; exact hi))
  have HD := hide hD
  have hp := hD.blk
  unfold joC at hp
  have h8 := hD.n8
  have zp := hp.lt
  have HN := hide hn
  obtain ⟨wear, hwe⟩ : ∃ l, l = S.wear := ⟨_, rfl⟩
  obtain ⟨most, hmo⟩ : ∃ l, l = S.most := ⟨_, rfl⟩
  rw [← hwe] at HW HL HN ⊢
  rw [← hmo] at HL ⊢
  obtain ⟨hp_c0, hp_c1, hp_c2, hp_c3, hp_c4⟩ := cel5 hp
  have hp_f := hp.frozen
  clear hD hS hn hp hwe hmo
  go_enter Tryz.func190, Tryz.ntmps190
  go_wp2_with fail
  go_loopw [2, 3, 4, 11] (fun v u _ i wr => ∃ k A1 c1 A2 c2, k ≤ n ∧ i = .int .i64 (k : Nat) ∧ v = .slice A1 k c1 ∧ u = .slice A2 k c2 ∧ Hid (Own wr w.heap.size 3 1 A1 k c1 (((wear.take k).map fun x => ((x : Nat) : Int)).map (Value.int .i64))) ∧ Hid (Own wr w.heap.size 3 1 A2 k c2 (((wear.take k).map fun x => most - ((x : Nat) : Int)).map (Value.int .i64))) ∧ Hid (∀ g, A1 = some ⟨g, 0, none⟩ → A2 ≠ some ⟨g, 0, none⟩) ∧ Below w.heap.size w wr) (fun _ _ _ i _ => n - (intOf i).toNat)
  case atStart => exact ⟨0, none, 0, none, 0, by omega, rfl, rfl, rfl, hide (Own.nil _ _ _ _), hide (Own.nil _ _ _ _), hide (fun g h => by cases h), Below.refl _ _⟩
  case round =>
    obtain ⟨k, A1, c1, A2, c2, hk, rfl, rfl, rfl, H1, H2, HNE, hbr⟩ := hrel
    have e3 := (hbr.cell (p := ⟨p, 3, none⟩) zp).trans hp_c3
    by_cases hlt : k < n
    · have HT1 : Hid ((wear.take (k + 1)).map (fun x => ((x : Nat) : Int)) = (wear.take k).map (fun x => ((x : Nat) : Int)) ++ [((wear.getD k 0 : Nat) : Int)]) := hide (by
        have hk' : k < wear.length := by rw [← HN.out]; exact hlt
        rw [List.take_succ_eq_append_getElem hk', List.map_append, List.getD_eq_getElem?_getD, List.getElem?_eq_getElem hk']
        rfl)
      have HT2 : Hid ((wear.take (k + 1)).map (fun x => most - ((x : Nat) : Int)) = (wear.take k).map (fun x => most - ((x : Nat) : Int)) ++ [most - ((wear.getD k 0 : Nat) : Int)]) := hide (by
        have hk' : k < wear.length := by rw [← HN.out]; exact hlt
        rw [List.take_succ_eq_append_getElem hk', List.map_append, List.getD_eq_getElem?_getD, List.getElem?_eq_getElem hk']
        rfl)
      have HWk := hide (HW.out k wr hlt hbr)
      have HLk := hide (fun W (hb : Below w.heap.size w W) => HL.out k W hlt hb)
      obtain ⟨x, hx⟩ : ∃ x, x = ((wear.getD k 0 : Nat) : Int) := ⟨_, rfl⟩
      rw [← hx] at HWk HLk HT1 HT2
      obtain ⟨y, hy⟩ : ∃ y, y = most - x := ⟨_, rfl⟩
      rw [← hy] at HLk HT2
      clear hx hy
      go_wp2_with fail
      refine HWk.out.mono ?_
      rintro e w1 ⟨rfl, rfl⟩
      have hbA := below_alloc hbr (.cells #[.int .i64 x] 3)
      go_wp2_with (at_builtin; refine app_i _ rfl _ _ rfl w.heap.size A1 k c1 _ rfl (H1.out.alloc _) _ 1 x rfl (Sl.one _ _ _) (by omega) hbA.size ?_; intro A3 c3 w3 hown3 hg3 hr3 hb3; have hbw3 := hbA.trans hb3; have e33 := (hbw3.cell (p := ⟨p, 3, none⟩) zp).trans hp_c3; have HG3 := hide (And.intro hown3 (And.intro hg3 (And.intro hr3 hbw3))); clear hown3 hg3 hr3 hb3 hbw3)
      obtain ⟨hown3, hg3, hr3, hbw3⟩ := HG3.out
      have h23 : Own w3 w.heap.size 3 1 A2 k c2 (((wear.take k).map fun x => most - ((x : Nat) : Int)).map (Value.int .i64)) := (H2.out.alloc (.cells #[.int .i64 x] 3)).grown hg3 (by
        intro g hA2 he
        rcases H1.out.shape with ⟨h1, _⟩ | ⟨g1, h1, _⟩
        · rw [h1] at he; simp [Value.ownBlock] at he
        · rw [h1] at he; simp [Value.ownBlock] at he
          subst he
          exact HNE.out g h1 hA2)
      have H23 := hide h23
      have hz3 : wr.heap.size < w3.heap.size := by have := hg3.size; simp at this; omega
      have HA3 : Hid ((A3 = A1 ∨ A3 = some ⟨(wr.alloc (.cells #[.int .i64 x] 3)).heap.size, 0, none⟩) ∧ (∀ g, A3 = some ⟨g, 0, none⟩ → g < w3.heap.size)) := hide ⟨hr3, fun g hg => (hown3.fin g hg).2⟩
      have H3 := hide hown3
      clear hown3 hg3 hr3 h23 HG3
      refine (HLk.out w3 hbw3).mono ?_
      rintro e w4 ⟨rfl, hb4⟩
      have hbw4 := below_step hb4 hbw3
      have hbB := below_alloc hbw4 (.cells #[.int .i64 y] 3)
      have hz4 := hb4.size
      go_wp2_with (at_builtin; refine app_i _ rfl _ _ rfl w.heap.size A2 k c2 _ rfl ((H23.out.below hb4).alloc _) _ 1 y rfl (Sl.one _ _ _) (by omega) hbB.size ?_; intro A4 c4 w5 hown5 hg5 hr5 hb5)
      have hbw5 := hbB.trans hb5
      have H4 : Hid (Own w5 w.heap.size 3 1 A4 (k + 1) c4 (((wear.take (k + 1)).map fun x => most - ((x : Nat) : Int)).map (Value.int .i64))) := hide (by rw [HT2.out, List.map_append]; exact hown5)
      have H35 : Hid (Own w5 w.heap.size 3 1 A3 (k + 1) c3 (((wear.take (k + 1)).map fun x => ((x : Nat) : Int)).map (Value.int .i64))) := hide (by
        rw [HT1.out, List.map_append]
        refine ((H3.out.below hb4).alloc (.cells #[.int .i64 y] 3)).grown hg5 ?_
        intro g hA3 he
        rcases H2.out.shape with ⟨h1, _⟩ | ⟨g1, h1, _, h3⟩
        · rw [h1] at he; simp [Value.ownBlock] at he
        · rw [h1] at he; simp [Value.ownBlock] at he
          subst he
          rcases HA3.out.1 with h5 | h5
          · exact HNE.out g (by rw [← h5]; exact hA3) h1
          · rw [h5] at hA3
            injection hA3 with hA3
            injection hA3 with hA3
            simp at hA3
            omega)
      have HNE2 : Hid (∀ g, A3 = some ⟨g, 0, none⟩ → A4 ≠ some ⟨g, 0, none⟩) := hide (by
        intro g hA3 hA4
        have hg3 := HA3.out.2 g hA3
        rcases hr5 with h5 | h5
        · rw [h5] at hA4
          have hg2 := (H2.out.fin g hA4).2
          rcases HA3.out.1 with h6 | h6
          · exact HNE.out g (by rw [← h6]; exact hA3) hA4
          · rw [h6] at hA3
            injection hA3 with hA3
            injection hA3 with hA3
            simp at hA3
            omega
        · rw [h5] at hA4
          injection hA4 with hA4
          injection hA4 with hA4
          simp at hA4
          omega)
      go_roundw
      case rel => exact ⟨k + 1, A3, c3, A4, c4, by omega, by go_num, rfl, rfl, H35, H4, HNE2, hbw5⟩
      case measure => simp [intOf]; omega
    · obtain rfl : k = n := by omega
      go_wp2_with fail
      go_ret2
      have hf : wear.take k = wear := List.take_of_length_le (by rw [← HN.out]; exact Nat.le_refl _)
      have h1 := H1.out.sl
      have h2 := H2.out.sl
      rw [hf] at h1 h2
      exact ⟨A1, c1, A2, c2, rfl, h1, h2, hbr⟩
end
end
end Go.Proofs.YtehabbnohoomjaaGreatDoor
namespace Go.Proofs.YtehabbnohoomjaaGreatDoor
section
set_option linter.unusedVariables false
set_option linter.unusedSimpArgs false
set_option linter.unnecessarySimpa false
section
open Go.RowKit
set_option maxRecDepth 20000
set_option maxHeartbeats 2000000
structure RF (w : World) (q : FP) (S : FS) : Prop where
  blk : Blk w q.p 74 (flC q S).toArray
  bs : Own w 0 5 1 (some ⟨q.gb, 0, none⟩) S.b.length q.cb (S.b.map bv)
  ws : Own w 0 3 1 (some ⟨q.gw, 0, none⟩) S.wear.length q.cw (S.wear.map iv)
  fit : FitF S
section
variable {w w' : World} {q : FP} {S : FS}
end
end
section
open Go.RowKit
set_option maxRecDepth 20000
set_option maxHeartbeats 4000000

/-- as it was, but for bytes, wear and count; the power is on, no cut is planned -/
structure Live (S S' : FS) (k : Nat) : Prop where
  len : S'.b.length = S.b.length
  wl : S'.wear.length = S.wear.length
  most : S'.most = S.most
  off : S'.off = false
  ah : S'.ahead = -1
  ops : S'.ops ≤ S.ops + k
end
section
open Go.RowKit
set_option maxRecDepth 20000
set_option maxHeartbeats 4000000

theorem rmkF {w : World} {g gw cb cw k p : Nat} {l : List UInt8} {m : Int} (hB : Blk w p 74 #[.slice (some ⟨g, 0, none⟩) l.length cb, .slice (some ⟨gw, 0, none⟩) k cw, .int .i64 m, .bool false, .int .i64 (-1), .int .u32 0, .int .i64 0])
    (hb : Own w 0 5 1 (some ⟨g, 0, none⟩) l.length cb (l.map bv)) (hw : Own w 0 3 1 (some ⟨gw, 0, none⟩) k cw ((List.replicate k 0).map iv)) (hf : FitF (ofF l k m)) : RF w ⟨p, g, gw, cb, cw⟩ (ofF l k m) := by
  refine ⟨?_, hb, ?_, hf⟩
  · have e : (flC ⟨p, g, gw, cb, cw⟩ (ofF l k m)).toArray = #[.slice (some ⟨g, 0, none⟩) l.length cb, .slice (some ⟨gw, 0, none⟩) k cw, .int .i64 m, .bool false, .int .i64 (-1), .int .u32 0, .int .i64 0] := by simp [flC, ofF]
    rw [e]
    exact hB
  · simp only [ofF, List.length_replicate]
    exact hw
end
end
end Go.Proofs.YtehabbnohoomjaaGreatDoor
namespace Go.Proofs.YtehabbnohoomjaaGreatDoor
section
set_option linter.unusedVariables false
set_option linter.unusedSimpArgs false
set_option linter.unnecessarySimpa false
open Go.RowKit
set_option maxRecDepth 20000
set_option maxHeartbeats 4000000
theorem rfl_OfM_no (A : Option Addr) (n c : Nat) (w : World) (hno : n = 0 ∨ n % 1024 ≠ 0 ∨ 8192 < n) (hb : n ≤ 100000) (m : Int) (hm : 1 ≤ m) :
    Calls Tryz.prog 39 #[.slice A n c, .int .i64 m] w fun e w' => ∃ p, e = .returned (.tuple #[.pointer p, .bool false]) ∧ Below w.heap.size w w' := by
  have hb0 := below_alloc (Below.refl w.heap.size w) (.cells #[.slice none 0 0, .slice none 0 0, .int .i64 0, .bool false, .int .i64 (-1), .int .u32 0, .int .i64 0] 74)
  have HB := hide hb0
  clear hb0
  by_cases h0 : n = 0
  · have e1 : ((n : Int) == 0) = true := by simp; omega
    clear hno h0
    go_enter Tryz.func39, Tryz.ntmps39
    go_wp2_with fail
    go_ret2
    exact ⟨_, rfl, HB.out⟩
  have e1 : ((n : Int) == 0) = false := by simp; omega
  obtain ⟨y, hy⟩ : ∃ y, y = n % 1024 := ⟨_, rfl⟩
  have e2 : ((n : Int) % 1024) = (y : Int) := by omega
  rw [← hy] at hno
  clear hy
  by_cases h1 : y = 0
  · have hbig : (8192 : Int) < (n : Int) := by omega
    subst h1
    clear hno h0
    go_enter Tryz.func39, Tryz.ntmps39
    go_wp2_with fail
    go_ret2
    exact ⟨_, rfl, HB.out⟩
  · have e3 : ((y : Int) == 0) = false := by simp; omega
    have e4 : ((y : Int) != 0) = true := by simp; omega
    clear hno h0 h1
    go_enter Tryz.func39, Tryz.ntmps39
    go_wp2_with fail
    go_ret2
    exact ⟨_, rfl, HB.out⟩
theorem rfl_OfM (A : Option Addr) (n c : Nat) (l : List UInt8) (k : Nat) (w : World) (hn : n = l.length) (hk : n = 1024 * k) (h1 : 1 ≤ k) (h8 : k ≤ 8) (m : Int) (hm : 1 ≤ m) (hm2 : m ≤ 9223372036854775807) (hs : Sl w A (l.map bv)) :
    Calls Tryz.prog 39 #[.slice A n c, .int .i64 m] w fun e w' => ∃ q : FP, e = .returned (.tuple #[.pointer (some ⟨q.p, 0, none⟩), .bool true]) ∧ RF w' q (ofF l k m) ∧ (∀ g, q.F g → w.heap.size ≤ g) ∧ Below w.heap.size w w' := by
  have HN := hide hn
  have HS := hide hs
  have HF := hide (ofF_fit (l := l) (m := m) (by omega) h1 h8 hm hm2)
  have e1 : ((n : Int) / 1024) = ((k : Nat) : Int) := by omega
  have e2 : ((n : Int) % 1024) = 0 := by omega
  have hn0 : 0 < n := by omega
  have hnb : n ≤ 8192 := by omega
  have hne : ((n : Int) == 0) = false := by simp; omega
  have q0 := blk_one w 74 #[.slice none 0 0, .slice none 0 0, .int .i64 m, .bool false, .int .i64 (-1), .int .u32 0, .int .i64 0]
  have hb0 := below_alloc (Below.refl w.heap.size w) (.cells #[.slice none 0 0, .slice none 0 0, .int .i64 m, .bool false, .int .i64 (-1), .int .u32 0, .int .i64 0] 74)
  have HQ := hide q0
  have HB0 := hide hb0
  obtain ⟨q0_c0, q0_c1, q0_c2, q0_c3, q0_c4, q0_c5, q0_c6⟩ := cel7 q0
  have q0_f := q0.frozen
  clear hn hs hk q0 hb0
  go_enter Tryz.func39, Tryz.ntmps39
  go_wp2_with (at_builtin; refine app_b _ rfl _ _ rfl (w.heap.size + 1) none 0 0 [] rfl (OwnB.nil _ _) A n c l rfl HN.out (HS.out.alloc _) (by omega) (by simp) n (by omega) ?_; intro A3 c3 w3 hO3 _ _ hb3; have q3f := (HQ.out.below hb3 (by omega)).frozen 0; have q3c := (HQ.out.below hb3 (by omega)).cell 0 (u := .slice none 0 0) rfl; have HH3 := hide (And.intro hO3 hb3); clear hO3 hb3)
  obtain ⟨hO3, hb3⟩ := HH3.out
  rw [List.nil_append] at hO3
  obtain ⟨gb, rfl, hg1, hg2⟩ := hO3.own.at_ hn0
  have HO3 := hide hO3
  have HB3 := hide (below_set (HB0.out.trans (hb3.mono (by omega))) (p := ⟨w.heap.size, 0, none⟩) (Nat.le_refl _) (.slice (some ⟨gb, 0, none⟩) n c3))
  have HQ3 := hide (blk_setL (l := [.slice none 0 0, .slice none 0 0, .int .i64 m, .bool false, .int .i64 (-1), .int .u32 0, .int .i64 0]) (HQ.out.below hb3 (by omega)) 0 (.slice (some ⟨gb, 0, none⟩) n c3))
  have HO4 : Hid (OwnB (w3.setCell ⟨w.heap.size, 0, none⟩ (.slice (some ⟨gb, 0, none⟩) n c3)) (w.heap.size + 1) (some ⟨gb, 0, none⟩) n c3 l) := hide (hO3.set_ (by simp) _)
  clear hO3 hb3 HH3 q3f q3c q0_c0 q0_c1 q0_c2 q0_c3 q0_c4 q0_c5 q0_c6 q0_f HO3
  simp only [List.set_cons_zero] at HQ3
  go_loopw [7] (fun i wr => ∃ j A4 c4, j ≤ k ∧ i = .int .i64 (j : Nat) ∧ Hid (Blk wr w.heap.size 74 #[.slice (some ⟨gb, 0, none⟩) n c3, .slice A4 j c4, .int .i64 m, .bool false, .int .i64 (-1), .int .u32 0, .int .i64 0]) ∧
    Hid (OwnB wr (w.heap.size + 1) (some ⟨gb, 0, none⟩) n c3 l) ∧ Hid (Own wr (w.heap.size + 1) 3 1 A4 j c4 ((List.replicate j 0).map iv)) ∧ Hid (Below w.heap.size w wr)) (fun i _ => k - (intOf i).toNat)
  case atStart => exact ⟨0, none, 0, by omega, rfl, HQ3, HO4, hide (Own.nil _ _ _ _), HB3⟩
  case round =>
    obtain ⟨j, A4, c4, hj, rfl, HBr, HOr, HWr, HBB⟩ := hrel
    have qr := HBr.out
    have zr := qr.lt
    obtain ⟨qr_c0, qr_c1, qr_c2, qr_c3, qr_c4, qr_c5, qr_c6⟩ := cel7 qr
    have qr_f := qr.frozen
    by_cases hlt : j < k
    · have HZ : Hid (((List.replicate (j + 1) 0).map iv) = ((List.replicate j 0).map iv) ++ [.int .i64 0]) := hide (by rw [List.replicate_succ', List.map_append]; rfl)
      clear qr
      go_wp2_with (at_builtin; refine app_i _ rfl _ _ rfl (w.heap.size + 1) A4 j c4 _ rfl (HWr.out.alloc _) _ 1 0 rfl (Sl.one _ _ _) (by omega) (by simp; omega) ?_; intro A5 c5 w5 hO5 hg5 hr5 hb5; have q5f := ((HBr.out.alloc (.cells #[.int .i64 0] 3)).below hb5 (by omega)).frozen 1; have q5c := ((HBr.out.alloc (.cells #[.int .i64 0] 3)).below hb5 (by omega)).cell 1 (u := .slice A4 j c4) rfl; have HH5 := hide (And.intro hO5 (And.intro hg5 hb5)); clear hO5 hg5 hb5)
      obtain ⟨hO5, hg5, hb5⟩ := HH5.out
      have hB5 := blk_setL (l := [.slice (some ⟨gb, 0, none⟩) n c3, .slice A4 j c4, .int .i64 m, .bool false, .int .i64 (-1), .int .u32 0, .int .i64 0]) ((HBr.out.alloc (.cells #[.int .i64 0] 3)).below hb5 (by omega)) 1 (.slice A5 (j + 1) c5)
      have hob : OwnB w5 (w.heap.size + 1) (some ⟨gb, 0, none⟩) n c3 l := ⟨HOr.out.hn, (HOr.out.own.alloc (.cells #[.int .i64 0] 3)).grown hg5 (own_ne' (HOr.out.own.alloc (.cells #[.int .i64 0] 3)) (HWr.out.alloc (.cells #[.int .i64 0] 3)) (by decide))⟩
      have HB5 := hide hB5
      have HOB := hide (hob.set_ (p := ⟨w.heap.size, 1, none⟩) (by simp) (.slice A5 (j + 1) c5))
      have HW5 : Hid (Own (w5.setCell ⟨w.heap.size, 1, none⟩ (.slice A5 (j + 1) c5)) (w.heap.size + 1) 3 1 A5 (j + 1) c5 ((List.replicate (j + 1) 0).map iv)) := hide (by rw [HZ.out]; exact hO5.set_ (by simp) _)
      have HBN := hide (below_set ((below_alloc HBB.out (.cells #[.int .i64 0] 3)).trans (hb5.mono (by omega))) (p := ⟨w.heap.size, 1, none⟩) (Nat.le_refl _) (.slice A5 (j + 1) c5))
      go_roundw
      case rel => exact ⟨j + 1, A5, c5, by omega, by go_num, HB5, HOB, HW5, HBN⟩
      case measure => simp [intOf]; omega
    · obtain rfl : j = k := by omega
      clear qr
      obtain ⟨gw, rfl, hgw, _⟩ := HWr.out.at_ h1
      go_wp2_with fail
      go_ret2
      have hn := HN.out
      subst hn
      refine ⟨⟨w.heap.size, gb, gw, c3, c4⟩, rfl, rmkF HBr.out (HOr.out.own.mono (Nat.zero_le _)) (HWr.out.mono (Nat.zero_le _)) HF.out, ?_, HBB.out⟩
      rintro g (rfl | rfl | rfl)
      · exact Nat.le_refl _
      · exact Nat.le_trans (Nat.le_succ _) hg1
      · exact Nat.le_trans (Nat.le_succ _) hgw
theorem fl_OfM_no (A : Option Addr) (n c : Nat) (w : World) (hno : n = 0 ∨ n % 1024 ≠ 0 ∨ 8192 < n) (hb : n ≤ 100000) (m : Int) (hm : 1 ≤ m) :
    Calls Tryz.prog 38 #[.slice A n c, .int .i64 m] w fun e w' => e = .returned (.pointer none) ∧ Below w.heap.size w w' := by
  obtain ⟨k, hk⟩ : ∃ k, k = n / 1024 := ⟨_, rfl⟩
  have e1 : ((n : Int) / 1024) = ((k : Nat) : Int) := by omega
  have e4 : IntKind.i64.wrap ((n : Int) / 1024) = ((k : Nat) : Int) := by rw [IntKind.wrap_i64]; omega
  have hk8 : k ≤ 100 := by omega
  by_cases h0 : k < 1
  · have h1 : (k : Int) < 1 := by omega
    clear hno hk h0
    go_enter Tryz.func38, Tryz.ntmps38
    go_wp2_with fail
    all_goals
      go_ret
      exact ⟨rfl, by repeat' (first | with_reducible assumption | with_reducible exact Below.refl _ _ | with_reducible apply below_alloc | with_reducible apply below_drew1 | with_reducible apply below_drewN | (with_reducible apply below_step; with_reducible assumption) | (with_reducible apply below_sg2; (first | exact Nat.le_refl _ | (simp; done) | omega)))⟩
  · have h1 : decide ((k : Int) < 1) = false := by simp; omega
    by_cases h2 : 8 < k
    · have h3 : decide ((8 : Int) < (k : Int)) = true := by simp; omega
      clear hno hk h0 h2
      go_enter Tryz.func38, Tryz.ntmps38
      go_wp2_with fail
      all_goals
        go_ret
        exact ⟨rfl, by repeat' (first | with_reducible assumption | with_reducible exact Below.refl _ _ | with_reducible apply below_alloc | with_reducible apply below_drew1 | with_reducible apply below_drewN | (with_reducible apply below_step; with_reducible assumption) | (with_reducible apply below_sg2; (first | exact Nat.le_refl _ | (simp; done) | omega)))⟩
    · have h3 : decide ((8 : Int) < (k : Int)) = false := by simp; omega
      have h4 : ((k : Int) * 1024 == (n : Int)) = false := by simp; omega
      have h5 : ((k : Int) * 1024 != (n : Int)) = true := by simp; omega
      have h6 : decide ((8 : Int) < (k : Int)) = false := h3
      clear hno hk h0 h2
      go_enter Tryz.func38, Tryz.ntmps38
      go_wp2_with fail
      all_goals
        go_ret
        exact ⟨rfl, by repeat' (first | with_reducible assumption | with_reducible exact Below.refl _ _ | with_reducible apply below_alloc | with_reducible apply below_drew1 | with_reducible apply below_drewN | (with_reducible apply below_step; with_reducible assumption) | (with_reducible apply below_sg2; (first | exact Nat.le_refl _ | (simp; done) | omega)))⟩
theorem rfl_Made (k : Nat) (m : Int) (w : World) (h1 : 1 ≤ k) (h8 : k ≤ 8) (hm : 1 ≤ m) (hm2 : m ≤ 9223372036854775807) :
    Calls Tryz.prog 40 #[.int .i64 (k : Nat), .int .i64 m] w fun e w' => ∃ q : FP, e = .returned (.tuple #[.pointer (some ⟨q.p, 0, none⟩), .bool true]) ∧ RF w' q (ofF (List.replicate (k * 1024) 255) k m) ∧ (∀ g, q.F g → w.heap.size ≤ g) ∧ Below w.heap.size w w' := by
  obtain ⟨n, hn⟩ : ∃ n, n = k * 1024 := ⟨_, rfl⟩
  have e3 : ((k : Int) * 1024) = ((n : Nat) : Int) := by omega
  have hnb : n ≤ 8192 := by omega
  have HN := hide hn
  rw [← hn]
  clear hn
  go_enter Tryz.func40, Tryz.ntmps40
  go_wp2_with fail
  go_loopw [6, 7] (fun v i wr => ∃ j A c, j ≤ n ∧ i = .int .i64 (j : Nat) ∧ v = .slice A j c ∧ Hid (OwnB wr w.heap.size A j c (List.replicate j 255)) ∧ Hid (Below w.heap.size w wr)) (fun _ i _ => n - (intOf i).toNat)
  case atStart => exact ⟨0, none, 0, by omega, rfl, rfl, hide (OwnB.nil _ _), hide (Below.refl _ _)⟩
  case round =>
    obtain ⟨j, A, c, hj, rfl, rfl, HO, HB⟩ := hrel
    by_cases hlt : j < n
    · have HZ : Hid (List.replicate (j + 1) (255 : UInt8) = List.replicate j 255 ++ [255]) := hide (by rw [List.replicate_succ'])
      go_wp2_with (at_builtin; refine app_b _ rfl _ _ rfl w.heap.size A j c (List.replicate j 255) rfl (HO.out.alloc _) _ 1 _ [255] rfl rfl (Sl.one _ _ _) (by omega) (by have := HB.out.size; simp; omega) (j + 1) (by omega) ?_; intro A3 c3 w3 hO3 _ _ hb3)
      have HO3 : Hid (OwnB w3 w.heap.size A3 (j + 1) c3 (List.replicate (j + 1) 255)) := hide (by rw [HZ.out]; exact hO3)
      have HB3 := hide ((below_alloc HB.out (.cells #[.int .u8 255] 5)).trans hb3)
      clear hO3 hb3
      go_roundw
      case rel => exact ⟨j + 1, A3, c3, by omega, by go_num, rfl, HO3, HB3⟩
      case measure => simp [intOf]; omega
    · obtain rfl : j = n := by omega
      go_wp2_with fail
      refine (rfl_OfM A j c (List.replicate j 255) k _ (by simp) (by have := HN.out; omega) h1 h8 m hm hm2 HO.out.sl).mono ?_
      rintro e w2 ⟨q, rfl, hF, hq, hb⟩
      have HX := hide (And.intro hF (And.intro hq hb))
      clear hF hq hb
      go_wp2_with fail
      go_ret2
      exact ⟨q, rfl, HX.out.1, fun g hg => Nat.le_trans HB.out.size (HX.out.2.1 g hg), below_step HX.out.2.2 HB.out⟩
end
end Go.Proofs.YtehabbnohoomjaaGreatDoor
