/- Package journal: number, wears, place, Last. -/
import Derived.Test.YtehabbnohoomjaaGreatDoorNv22
namespace Go.Proofs.YtehabbnohoomjaaGreatDoor
section
set_option linter.unusedVariables false
set_option linter.unusedSimpArgs false
set_option linter.unnecessarySimpa false
open Go.RowKit
set_option maxRecDepth 20000
set_option maxHeartbeats 4000000

theorem infoIn : (Tryz.prog.info? 3).map (fun i => (i.zero, i.size, i.bytes)) = some (some (.int .i64 0), 1, 8) := by kernel_rfl
/-- a number appended onto a row of the call's own -/
theorem app_i {ops : Array Oper} {rest : List Oper} {o : Oper} {a : Act} {Q : Exit → Act → World → Prop} (w : World) (hgd : o.guard = none) (s x : Operand) (ho : o.op = .call { callee := .builtin .append, args := #[s, x], argTypes := #[72, 72] })
    (B : Nat) (A : Option Addr) (n c : Nat) (xs : List Value) (hs : a.eval s = .slice A n c) (hown : Own w B 3 1 A n c xs)
    (A2 : Option Addr) (c2 : Nat) (v : Int) (hx : a.eval x = .slice A2 1 c2) (hr : Sl w A2 [.int .i64 v]) (hb : n ≤ 1000000) (hB : B ≤ w.heap.size)
    (h : ∀ A' c' w', Own w' B 3 1 A' (n + 1) c' (xs ++ [.int .i64 v]) → w.grownBy w' (Value.ownBlock (.slice A n c)) → (A' = A ∨ A' = some ⟨w.heap.size, 0, none⟩) → Below B w w' →
      wpList Tryz.prog ops Q rest (a.put o.dst (.slice A' (n + 1) c')) w') : wpList Tryz.prog ops Q (o :: rest) a w := by
  obtain ⟨i0, hi0, hz0, hz1, hz2⟩ := info_parts infoIn
  refine wpList_app w hgd s x _ ho B 3 i0 _ 1 8 Tryz.underlying72 hi0 hz0 hz1 hz2 rfl (by omega) A n c _ hs hown A2 1 c2 [.int .i64 v] hx rfl hr (by intro u hu; simp at hu; subst hu; rfl) (by unfold maxLen; omega) (by omega) hB (n + 1) rfl _ rfl ?_
  intro A' c' w' h1 h2 h3 h4
  exact h A' c' w' h1 h2 h3 h4
section
variable {F : Nat → Prop} {p n c : Nat} {A : Option Addr} {J : JS} {ds : List (Option Addr × Nat)} {q : FP} {S : FS}
theorem numJ_u32 (h : ∀ x ∈ J.looks, FitK x) : U32 (numJ J) := by
  unfold numJ lastJ
  split
  · rw [List.getD_eq_getElem?_getD]
    cases hx : J.looks[J.now]? with
    | none => show (0 : Nat) < _; decide
    | some x => exact (h x (List.mem_of_getElem? hx)).m
  · show (0 : Nat) < _; decide
theorem lastJ_at {w : World} {pf : Nat} (h : JD w F p pf A n c J ds) (hh : J.has = true) : J.looks[J.now]? = some (lastJ J) := by
  have h1 := h.at_ hh
  rw [h.lks.hn] at h1
  unfold lastJ
  rw [List.getD_eq_getElem?_getD, List.getElem?_eq_getElem h1]
  rfl
theorem jo_number {pf : Nat} (w : World) (hD : JD w F p pf A n c J ds) : Calls Tryz.prog 163 #[.agg #[.slice A n c, .int .i64 (J.now : Nat), .bool J.has]] w fun e w' => e = .returned (.int .u32 ((numJ J : Nat) : Int)) ∧ Below w.heap.size w w' := by
  have q0 := blk_one w 127 #[.slice A n c, .int .i64 (J.now : Nat), .bool J.has]
  have hb := below_alloc (Below.refl w.heap.size w) (.cells #[.slice A n c, .int .i64 (J.now : Nat), .bool J.has] 127)
  have HB := hide hb
  cases hh : J.has
  · have HN : Hid (numJ J = 0) := hide (by unfold numJ; rw [hh]; rfl)
    rw [HN.out]
    rw [hh] at q0 HB
    obtain ⟨q0_c0, q0_c1, q0_c2⟩ := cel3 q0
    have q0_f := q0.frozen
    clear q0 hb
    go_enter Tryz.func163, Tryz.ntmps163
    go_wp2_with fail
    go_ret
    exact ⟨rfl, HB.out⟩
  · have hl := lastJ_at hD hh
    have HN : Hid (numJ J = (lastJ J).m) := hide (by unfold numJ; rw [hh]; rfl)
    rw [HN.out]
    obtain ⟨g, d, hA, hg, hd, hO, hfx, hlt, ⟨c0, c1, c2, c3, c4, c5⟩, hF, hFd⟩ := (hD.below hb).look hl
    rw [hh] at q0 HB c1
    obtain ⟨x, hx⟩ : ∃ x, x = lastJ J := ⟨_, rfl⟩
    rw [← hx] at c1 ⊢
    obtain ⟨k, hk⟩ : ∃ k, k = J.now := ⟨_, rfl⟩
    rw [← hk] at c1 hlt q0 HB ⊢
    obtain ⟨i1, i2, i3⟩ := idx_at hlt
    subst hA
    obtain ⟨q0_c0, q0_c1, q0_c2⟩ := cel3 q0
    have q0_f := q0.frozen
    clear q0 hb hl hO hfx c0 c2 c3 c4 c5 hx hk hD hd
    go_enter Tryz.func163, Tryz.ntmps163
    go_wp2_with fail
    go_ret
    exact ⟨rfl, HB.out⟩
theorem jo_wears (w : World) (hD : JD w F p q.p A n c J ds) (hS : FD w q S) (hn : n = S.wear.length) :
    Calls Tryz.prog 190 #[.pointer (some ⟨p, 0, none⟩)] w fun e w' => ∃ A1 c1 A2 c2, e = .returned (.tuple #[.slice A1 n c1, .slice A2 n c2]) ∧ Sl w' A1 ((S.wear.map fun x => ((x : Nat) : Int)).map (Value.int .i64)) ∧ Sl w' A2 ((S.wear.map fun x => S.most - ((x : Nat) : Int)).map (Value.int .i64)) ∧ Below w.heap.size w w' := by
  have HW := hide (fun i W (hi : i < n) (hb : Below w.heap.size w W) => fl_Worn q S W i (hS.below hb) (by rw [← hn]; exact hi))
  have HL := hide (fun i W (hi : i < n) (hb : Below w.heap.size w W) => fl_Left q S W i (hS.below hb) (by rw [← hn]; exact hi))
  have HD := hide hD
  have hp := hD.blk
  unfold joC at hp
  have h8 := hD.n8
  have zp := hp.lt
  have HN := hide hn
  obtain ⟨wear, hwe⟩ : ∃ l, l = S.wear := ⟨_, rfl⟩
  obtain ⟨most, hmo⟩ : ∃ l, l = S.most := ⟨_, rfl⟩
  rw [← hwe] at HW HL HN ⊢
  rw [← hmo] at HL ⊢
  obtain ⟨hp_c0, hp_c1, hp_c2, hp_c3, hp_c4⟩ := cel5 hp
  have hp_f := hp.frozen
  clear hD hS hn hp hwe hmo
  go_enter Tryz.func190, Tryz.ntmps190
  go_wp2_with fail
  go_loopw [2, 3, 4, 11] (fun v u _ i wr => ∃ k A1 c1 A2 c2, k ≤ n ∧ i = .int .i64 (k : Nat) ∧ v = .slice A1 k c1 ∧ u = .slice A2 k c2 ∧ Hid (Own wr w.heap.size 3 1 A1 k c1 (((wear.take k).map fun x => ((x : Nat) : Int)).map (Value.int .i64))) ∧ Hid (Own wr w.heap.size 3 1 A2 k c2 (((wear.take k).map fun x => most - ((x : Nat) : Int)).map (Value.int .i64))) ∧ Hid (∀ g, A1 = some ⟨g, 0, none⟩ → A2 ≠ some ⟨g, 0, none⟩) ∧ Below w.heap.size w wr) (fun _ _ _ i _ => n - (intOf i).toNat)
  case atStart => exact ⟨0, none, 0, none, 0, by omega, rfl, rfl, rfl, hide (Own.nil _ _ _ _), hide (Own.nil _ _ _ _), hide (fun g h => by cases h), Below.refl _ _⟩
  case round =>
    obtain ⟨k, A1, c1, A2, c2, hk, rfl, rfl, rfl, H1, H2, HNE, hbr⟩ := hrel
    have e3 := (hbr.cell (p := ⟨p, 3, none⟩) zp).trans hp_c3
    by_cases hlt : k < n
    · have HT1 : Hid ((wear.take (k + 1)).map (fun x => ((x : Nat) : Int)) = (wear.take k).map (fun x => ((x : Nat) : Int)) ++ [((wear.getD k 0 : Nat) : Int)]) := hide (by
        have hk' : k < wear.length := by rw [← HN.out]; exact hlt
        rw [List.take_succ_eq_append_getElem hk', List.map_append, List.getD_eq_getElem?_getD, List.getElem?_eq_getElem hk']
        rfl)
      have HT2 : Hid ((wear.take (k + 1)).map (fun x => most - ((x : Nat) : Int)) = (wear.take k).map (fun x => most - ((x : Nat) : Int)) ++ [most - ((wear.getD k 0 : Nat) : Int)]) := hide (by
        have hk' : k < wear.length := by rw [← HN.out]; exact hlt
        rw [List.take_succ_eq_append_getElem hk', List.map_append, List.getD_eq_getElem?_getD, List.getElem?_eq_getElem hk']
        rfl)
      have HWk := hide (HW.out k wr hlt hbr)
      have HLk := hide (fun W (hb : Below w.heap.size w W) => HL.out k W hlt hb)
      obtain ⟨x, hx⟩ : ∃ x, x = ((wear.getD k 0 : Nat) : Int) := ⟨_, rfl⟩
      rw [← hx] at HWk HLk HT1 HT2
      obtain ⟨y, hy⟩ : ∃ y, y = most - x := ⟨_, rfl⟩
      rw [← hy] at HLk HT2
      clear hx hy
      go_wp2_with fail
      refine HWk.out.mono ?_
      rintro e w1 ⟨rfl, rfl⟩
      have hbA := below_alloc hbr (.cells #[.int .i64 x] 3)
      go_wp2_with (at_builtin; refine app_i _ rfl _ _ rfl w.heap.size A1 k c1 _ rfl (H1.out.alloc _) _ 1 x rfl (Sl.one _ _ _) (by omega) hbA.size ?_; intro A3 c3 w3 hown3 hg3 hr3 hb3; have hbw3 := hbA.trans hb3; have e33 := (hbw3.cell (p := ⟨p, 3, none⟩) zp).trans hp_c3; have HG3 := hide (And.intro hown3 (And.intro hg3 (And.intro hr3 hbw3))); clear hown3 hg3 hr3 hb3 hbw3)
      obtain ⟨hown3, hg3, hr3, hbw3⟩ := HG3.out
      have h23 : Own w3 w.heap.size 3 1 A2 k c2 (((wear.take k).map fun x => most - ((x : Nat) : Int)).map (Value.int .i64)) := (H2.out.alloc (.cells #[.int .i64 x] 3)).grown hg3 (by
        intro g hA2 he
        rcases H1.out.shape with ⟨h1, _⟩ | ⟨g1, h1, _⟩
        · rw [h1] at he; simp [Value.ownBlock] at he
        · rw [h1] at he; simp [Value.ownBlock] at he
          subst he
          exact HNE.out g h1 hA2)
      have H23 := hide h23
      have hz3 : wr.heap.size < w3.heap.size := by have := hg3.size; simp at this; omega
      have HA3 : Hid ((A3 = A1 ∨ A3 = some ⟨(wr.alloc (.cells #[.int .i64 x] 3)).heap.size, 0, none⟩) ∧ (∀ g, A3 = some ⟨g, 0, none⟩ → g < w3.heap.size)) := hide ⟨hr3, fun g hg => (hown3.fin g hg).2⟩
      have H3 := hide hown3
      clear hown3 hg3 hr3 h23 HG3
      refine (HLk.out w3 hbw3).mono ?_
      rintro e w4 ⟨rfl, hb4⟩
      have hbw4 := below_step hb4 hbw3
      have hbB := below_alloc hbw4 (.cells #[.int .i64 y] 3)
      have hz4 := hb4.size
      go_wp2_with (at_builtin; refine app_i _ rfl _ _ rfl w.heap.size A2 k c2 _ rfl ((H23.out.below hb4).alloc _) _ 1 y rfl (Sl.one _ _ _) (by omega) hbB.size ?_; intro A4 c4 w5 hown5 hg5 hr5 hb5)
      have hbw5 := hbB.trans hb5
      have H4 : Hid (Own w5 w.heap.size 3 1 A4 (k + 1) c4 (((wear.take (k + 1)).map fun x => most - ((x : Nat) : Int)).map (Value.int .i64))) := hide (by rw [HT2.out, List.map_append]; exact hown5)
      have H35 : Hid (Own w5 w.heap.size 3 1 A3 (k + 1) c3 (((wear.take (k + 1)).map fun x => ((x : Nat) : Int)).map (Value.int .i64))) := hide (by
        rw [HT1.out, List.map_append]
        refine ((H3.out.below hb4).alloc (.cells #[.int .i64 y] 3)).grown hg5 ?_
        intro g hA3 he
        rcases H2.out.shape with ⟨h1, _⟩ | ⟨g1, h1, _, h3⟩
        · rw [h1] at he; simp [Value.ownBlock] at he
        · rw [h1] at he; simp [Value.ownBlock] at he
          subst he
          rcases HA3.out.1 with h5 | h5
          · exact HNE.out g (by rw [← h5]; exact hA3) h1
          · rw [h5] at hA3
            injection hA3 with hA3
            injection hA3 with hA3
            simp at hA3
            omega)
      have HNE2 : Hid (∀ g, A3 = some ⟨g, 0, none⟩ → A4 ≠ some ⟨g, 0, none⟩) := hide (by
        intro g hA3 hA4
        have hg3 := HA3.out.2 g hA3
        rcases hr5 with h5 | h5
        · rw [h5] at hA4
          have hg2 := (H2.out.fin g hA4).2
          rcases HA3.out.1 with h6 | h6
          · exact HNE.out g (by rw [← h6]; exact hA3) hA4
          · rw [h6] at hA3
            injection hA3 with hA3
            injection hA3 with hA3
            simp at hA3
            omega
        · rw [h5] at hA4
          injection hA4 with hA4
          injection hA4 with hA4
          simp at hA4
          omega)
      go_roundw
      case rel => exact ⟨k + 1, A3, c3, A4, c4, by omega, by go_num, rfl, rfl, H35, H4, HNE2, hbw5⟩
      case measure => simp [intOf]; omega
    · obtain rfl : k = n := by omega
      go_wp2_with fail
      go_ret2
      have hf : wear.take k = wear := List.take_of_length_le (by rw [← HN.out]; exact Nat.le_refl _)
      have h1 := H1.out.sl
      have h2 := H2.out.sl
      rw [hf] at h1 h2
      exact ⟨A1, c1, A2, c2, rfl, h1, h2, hbr⟩
end
end
end Go.Proofs.YtehabbnohoomjaaGreatDoor
