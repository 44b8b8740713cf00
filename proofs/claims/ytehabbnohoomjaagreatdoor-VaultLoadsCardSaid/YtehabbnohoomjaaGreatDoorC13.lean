/- Package flash: Of, New. -/
import Derived.Test.YtehabbnohoomjaaGreatDoorC01
import Derived.Test.YtehabbnohoomjaaGreatDoorC12
namespace Go.Proofs.YtehabbnohoomjaaGreatDoor
section
set_option linter.unusedVariables false
set_option linter.unusedSimpArgs false
set_option linter.unnecessarySimpa false
open Go.RowKit
set_option maxRecDepth 20000
set_option maxHeartbeats 4000000

theorem infoI : (Tryz.prog.info? 3).map (fun i => (i.zero, i.size, i.bytes)) = some (some (.int .i64 0), 1, 8) := by kernel_rfl
theorem wp_mk_i {o : Oper} {a : Act} {K : Act → World → Prop} {Q : Exit → Act → World → Prop} {w : World} (l cc : Operand) (ho : o.op = Op.makeSlice 72 l cc) (kl kc : IntKind) (n : Nat) (hl : a.eval l = .int kl (n : Nat)) (hc : a.eval cc = .int kc (n : Nat)) (hb : n ≤ 100000)
    (h : ∀ w', Own w' w.heap.size 3 1 (some ⟨w.heap.size, 0, none⟩) n n ((List.replicate n 0).map iv) → Below w.heap.size w w' → K (a.put o.dst (.slice (some ⟨w.heap.size, 0, none⟩) n n)) w') : Oper.wp Tryz.prog o a w K Q := by
  obtain ⟨i, hi, hz, hsize, hby⟩ := info_parts infoI
  have hr := run_make (P := Tryz.prog) w 72 3 i (.int .i64 0) Tryz.underlying72 hi hz kl kc n n (by omega) (by omega) (by rw [hby]; omega) (by omega)
  simp only [Int.toNat_natCast, hsize, Nat.mul_one] at hr
  unfold Oper.wp execOp
  simp only [ho, hl, hc, hr, Sem.run_bind, Result.andThen_ok]
  have hmc : (madeCells (Value.int .i64 0).cells n) = (List.replicate n (Value.int .i64 0)).toArray := by
    apply Array.ext'
    simp [madeCells, Value.cells]
    apply List.ext_getElem
    · simp
    · intro k h1 h2
      simp [Nat.mod_one]
  refine h _ ⟨by simp, .inr ⟨w.heap.size, n, _, rfl, Nat.le_refl _, heap_alloc_new w _, Nat.le_refl _, by unfold maxLen; omega, by simp [size_madeCells, Value.cells], ?_⟩⟩ (Below.alloc (Below.refl _ _) (Nat.le_refl _) _)
  rw [hmc]
  simp [iv]
theorem wp_app_new {o : Oper} {a : Act} {K : Act → World → Prop} {Q : Exit → Act → World → Prop} {w : World} (s x : Operand) (ho : o.op = .call { callee := .builtin .append, args := #[s, x], argTypes := #[23, 23] })
    (hs : a.eval s = .slice none 0 0) (A2 : Option Addr) (m c2 : Nat) (l2 : List UInt8) (hx : a.eval x = .slice A2 m c2) (hm : m = l2.length) (hm0 : 0 < m) (hr : Sl w A2 (l2.map bv)) (hb : m ≤ 140737488355328)
    (h : ∀ g c' w', OwnB w' w.heap.size (some ⟨g, 0, none⟩) m c' l2 → w.heap.size ≤ g → Below w.heap.size w w' → K (a.put o.dst (.slice (some ⟨g, 0, none⟩) m c')) w') : Oper.wp Tryz.prog o a w K Q := by
  obtain ⟨i0, hi0, hz0, hz1, hz2⟩ := info_parts infoU8
  obtain ⟨A', c', w', hr', h2, h3, h4⟩ := run_app (P := Tryz.prog) w w.heap.size 23 o.type 5 i0 _ 1 1 Tryz.underlying23 hi0 hz0 hz1 hz2 rfl (by omega) none 0 0 _ (OwnB.nil _ _).own A2 m c2 (l2.map bv) (by simp [hm]) hr (bv_one _) (by unfold maxLen; omega) (by omega) (Nat.le_refl _)
  rw [Nat.zero_add] at hr' h2
  unfold Oper.wp execOp
  simp only [ho, resolve, invoke, builtin, Sem.run_bind, Sem.run_pure, Result.andThen_ok, List.map_toArray, List.map_cons, List.map_nil, hs, hx, hr']
  obtain ⟨g, rfl, hg1, hg2⟩ := h2.at_ hm0
  exact h g c' w' ⟨hm, h2⟩ hg1 (below_grown (OwnB.nil w w.heap.size).own (Nat.le_refl _) h3)
def ofF (l : List UInt8) (n : Nat) (m : Int) : FS := ⟨l, List.replicate n 0, m, false, -1, 0, 0⟩
/-- a new flash -/
def FNewR (S : FS) (w : World) (e : Ending) (w' : World) : Prop := ∃ q : FP, e = .returned (.pointer (some ⟨q.p, 0, none⟩)) ∧ FD w' q S ∧ (∀ g, q.F g → w.heap.size ≤ g) ∧ Below w.heap.size w w'
theorem ofF_fit {l : List UInt8} {n : Nat} {m : Int} (hl : l.length = 1024 * n) (h1 : 1 ≤ n) (h8 : n ≤ 8) (hm : 1 ≤ m) (hm2 : m ≤ 9223372036854775807) : FitF (ofF l n m) := by
  refine ⟨by simp [ofF, hl], by simp [ofF, h1], by simp [ofF, h8], by show (0 : Nat) < _; decide, by simp [ofF], by simp [ofF], by simp only [ofF]; omega, by simp only [ofF]; omega, ?_⟩
  intro x hx
  simp only [ofF, List.mem_replicate] at hx
  simp only [ofF]
  omega
theorem mkF {w : World} {g gw cb cw k : Nat} {l : List UInt8} {m : Int} (hb : Own w 0 5 1 (some ⟨g, 0, none⟩) l.length cb (l.map bv)) (hw : Own w 0 3 1 (some ⟨gw, 0, none⟩) k cw ((List.replicate k 0).map iv)) (hf : FitF (ofF l k m)) :
    FD (w.alloc (.cells #[.slice (some ⟨g, 0, none⟩) l.length cb, .slice (some ⟨gw, 0, none⟩) k cw, .int .i64 m, .bool false, .int .i64 (-1), .int .u32 0, .int .i64 0] 117)) ⟨w.heap.size, g, gw, cb, cw⟩ (ofF l k m) := by
  have h1 := blk_one w 117 #[.slice (some ⟨g, 0, none⟩) l.length cb, .slice (some ⟨gw, 0, none⟩) k cw, .int .i64 m, .bool false, .int .i64 (-1), .int .u32 0, .int .i64 0]
  refine ⟨?_, hb.alloc _, ?_, hf⟩
  · have e : (flC ⟨w.heap.size, g, gw, cb, cw⟩ (ofF l k m)).toArray = #[.slice (some ⟨g, 0, none⟩) l.length cb, .slice (some ⟨gw, 0, none⟩) k cw, .int .i64 m, .bool false, .int .i64 (-1), .int .u32 0, .int .i64 0] := by simp [flC, ofF]
    rw [e]
    exact h1
  · have := hw.alloc (.cells #[.slice (some ⟨g, 0, none⟩) l.length cb, .slice (some ⟨gw, 0, none⟩) k cw, .int .i64 m, .bool false, .int .i64 (-1), .int .u32 0, .int .i64 0] 117)
    simp only [ofF, List.length_replicate]
    exact this
theorem fl_Of (A : Option Addr) (n c : Nat) (l : List UInt8) (k : Nat) (m : Int) (w : World) (hn : n = l.length) (hk : n = 1024 * k) (h1 : 1 ≤ k) (h8 : k ≤ 8) (hm : 1 ≤ m) (hm2 : m ≤ 9223372036854775807) (hs : Sl w A (l.map bv)) :
    Calls Tryz.prog 38 #[.slice A n c, .int .i64 m] w (FNewR (ofF l k m) w) := by
  have HN := hide hn
  have HS := hide hs
  have HK := hide hk
  have e1 : ((n : Int) / 1024) = ((k : Nat) : Int) := by omega
  have e2 : IntKind.i64.wrap ((k : Int) * 1024) = ((n : Nat) : Int) := by rw [IntKind.wrap_i64]; omega
  have e3 : ((k : Int) * 1024) = ((n : Nat) : Int) := by omega
  have e4 : IntKind.i64.wrap ((n : Int) / 1024) = ((k : Nat) : Int) := by rw [IntKind.wrap_i64]; omega
  have hf := ofF_fit (l := l) (m := m) (by omega) h1 h8 hm hm2
  have HF := hide hf
  have hn0 : 0 < n := by omega
  have hnb : n ≤ 8192 := by omega
  clear hn hs hk hf
  go_enter Tryz.func38, Tryz.ntmps38
  go_wp2_with fail
  refine wp_region_held_drew (S := (fun w' => Below w.heap.size w w')) (by kernel_rfl) ?hS1 (fun hHeld => ?rest1)
  case hS1 => ((try dsimp only); (exact below_drew1 (Below.refl _ _)))
  case' rest1 => skip
  refine tkH 0 ?_
  try simp only [PqL, Act.put]
  refine tkH 2 ?_
  try simp only [PqL, Act.put]
  refine tkH 4 ?_
  try simp only [PqL, Act.put]
  refine wpAnyH_ready (rs := [1, 3]) (by kernel_rfl) (by simp) (AllReadyH.cons (o := _) rfl (fun K hK => ?_) (AllReadyH.cons (o := _) rfl (fun K hK => ?_) AllReadyH.nil))
  · rw [if_pos (show Region.wanted _ _ = true by kernel_rfl)]
    refine wp_app_new _ _ rfl (by rfl) A n c l (by rfl) HN.out hn0 HS.out.drew (by omega) ?_
    intro g c' w1 hO1 hg1 hb1
    have hbw1 : Below w.heap.size w w1 := ⟨hb1.os, hb1.tape, hb1.output, hb1.size, hb1.block⟩
    refine hK.out _ _ ?hS6 (fun hHeld => ?rest6)
    case hS6 => ((try dsimp only); (exact hbw1))
    case' rest6 => (clear hK K; try simp only [PqL, Act.put])
    refine wpAnyH_ready (rs := [3]) (by kernel_rfl) (by simp) ?_
    refine AllReadyH.cons (o := _) rfl (fun K hK => ?_) AllReadyH.nil
    rw [if_pos (show Region.wanted _ _ = true by kernel_rfl)]
    refine wp_mk_i _ _ rfl .i64 .i64 k (by rfl) (by rfl) (by omega) ?_
    intro w2 hO2 hb2
    have hbw2 := below_step hb2 hbw1
    refine hK.out _ _ ?hS9 (fun hHeld => ?rest9)
    case hS9 => ((try dsimp only); (exact hbw2))
    case' rest9 => (clear hK K; try simp only [PqL, Act.put])
    refine tkH 5 ?_
    try simp only [PqL, Act.put]
    refine wpAnyH_ready (rs := [6]) (by kernel_rfl) (by simp) ?_
    refine AllReadyH.cons (o := _) rfl (fun K hK => ?_) AllReadyH.nil
    go_simp
    refine hK.out _ _ ?hS13 (fun hHeld => ?rest13)
    case hS13 => ((try dsimp only); (exact (below_alloc hbw2 _)))
    case' rest13 => (clear hK K; try simp only [PqL, Act.put])
    refine tkH 7 ?_
    try simp only [PqL, Act.put]
    refine wpAnyH_done (by kernel_rfl) ?_ _
    have hEnd := hHeld.2
    repeat (clear hHeld)
    go_wp2_with fail
    go_ret
    have hn := HN.out
    subst hn
    refine ⟨⟨w2.heap.size, g, w1.heap.size, c', k⟩, rfl, mkF ((hO1.own.below hb2).mono (Nat.zero_le _)) (hO2.mono (Nat.zero_le _)) HF.out, ?_, below_alloc hbw2 _⟩
    rintro x (rfl | rfl | rfl)
    · exact hbw2.size
    · exact hg1
    · exact hbw1.size
  · rw [if_pos (show Region.wanted _ _ = true by kernel_rfl)]
    refine wp_mk_i _ _ rfl .i64 .i64 k (by rfl) (by rfl) (by omega) ?_
    intro w1 hO1 hb1
    have hbw1 : Below w.heap.size w w1 := ⟨hb1.os, hb1.tape, hb1.output, hb1.size, hb1.block⟩
    refine hK.out _ _ ?hS16 (fun hHeld => ?rest16)
    case hS16 => ((try dsimp only); (exact hbw1))
    case' rest16 => (clear hK K; try simp only [PqL, Act.put])
    refine wpAnyH_ready (rs := [1]) (by kernel_rfl) (by simp) ?_
    refine AllReadyH.cons (o := _) rfl (fun K hK => ?_) AllReadyH.nil
    rw [if_pos (show Region.wanted _ _ = true by kernel_rfl)]
    refine wp_app_new _ _ rfl (by rfl) A n c l (by rfl) HN.out hn0 (HS.out.below hbw1) (by omega) ?_
    intro g c' w2 hO2 hg2 hb2
    have hbw2 := below_step hb2 hbw1
    refine hK.out _ _ ?hS19 (fun hHeld => ?rest19)
    case hS19 => ((try dsimp only); (exact hbw2))
    case' rest19 => (clear hK K; try simp only [PqL, Act.put])
    refine tkH 5 ?_
    try simp only [PqL, Act.put]
    refine wpAnyH_ready (rs := [6]) (by kernel_rfl) (by simp) ?_
    refine AllReadyH.cons (o := _) rfl (fun K hK => ?_) AllReadyH.nil
    go_simp
    refine hK.out _ _ ?hS23 (fun hHeld => ?rest23)
    case hS23 => ((try dsimp only); (exact (below_alloc hbw2 _)))
    case' rest23 => (clear hK K; try simp only [PqL, Act.put])
    refine tkH 7 ?_
    try simp only [PqL, Act.put]
    refine wpAnyH_done (by kernel_rfl) ?_ _
    have hEnd := hHeld.2
    repeat (clear hHeld)
    go_wp2_with fail
    go_ret
    have hn := HN.out
    subst hn
    refine ⟨⟨w2.heap.size, g, w.heap.size, c', k⟩, rfl, mkF (hO2.own.mono (Nat.zero_le _)) ((hO1.below hb2).mono (Nat.zero_le _)) HF.out, ?_, below_alloc hbw2 _⟩
    rintro x (rfl | rfl | rfl)
    · exact hbw2.size
    · exact Nat.le_trans hbw1.size hg2
    · exact Nat.le_refl _
def fillL (n k : Nat) : List UInt8 := List.replicate k 255 ++ List.replicate (n - k) 0
theorem fill_len {n k : Nat} (h : k ≤ n) : (fillL n k).length = n := by unfold fillL; simp; omega
theorem fill_set {n k : Nat} (h : k < n) : (fillL n k).set k 255 = fillL n (k + 1) := by
  unfold fillL
  apply List.ext_getElem?
  intro j
  rw [List.getElem?_set, List.length_append, List.length_replicate, List.length_replicate]
  by_cases h1 : k = j
  · subst h1
    rw [if_pos rfl, if_pos (by omega), List.getElem?_append_left (by rw [List.length_replicate]; omega), List.getElem?_replicate, if_pos (by omega)]
  · rw [if_neg h1]
    by_cases h2 : j < k
    · rw [List.getElem?_append_left (by rw [List.length_replicate]; omega), List.getElem?_append_left (by rw [List.length_replicate]; omega), List.getElem?_replicate, List.getElem?_replicate, if_pos h2, if_pos (by omega)]
    · rw [List.getElem?_append_right (by rw [List.length_replicate]; omega), List.getElem?_append_right (by rw [List.length_replicate]; omega), List.getElem?_replicate, List.getElem?_replicate, List.length_replicate, List.length_replicate]
      by_cases h3 : j < n
      · rw [if_pos (by omega), if_pos (by omega)]
      · rw [if_neg (by omega), if_neg (by omega)]
/-- an erased flash -/
theorem fl_New (k : Nat) (m : Int) (w : World) (h1 : 1 ≤ k) (h8 : k ≤ 8) (hm : 1 ≤ m) (hm2 : m ≤ 9223372036854775807) :
    Calls Tryz.prog 19 #[.int .i64 (k : Nat), .int .i64 m] w (FNewR (ofF (List.replicate (k * 1024) 255) k m) w) := by
  obtain ⟨n, hn⟩ : ∃ n, n = k * 1024 := ⟨_, rfl⟩
  have e3 : ((k : Int) * 1024) = ((n : Nat) : Int) := by omega
  have hnb : n ≤ 8192 := by omega
  have HN := hide hn
  rw [← hn]
  obtain ⟨R, hR⟩ : ∃ R : List UInt8, R = List.replicate n 255 := ⟨_, rfl⟩
  have HR := hide hR
  rw [← hR]
  clear hn hR
  go_enter Tryz.func19, Tryz.ntmps19
  go_wp2_with (at_make; refine mk_b _ rfl _ _ rfl _ _ _ _ n n rfl rfl rfl rfl (Nat.le_refl _) (by omega) w.heap.size rfl ?_; intro w1 hO1 hz1 hb1)
  have HO1 : Hid (OwnB w1 w.heap.size (some ⟨w.heap.size, 0, none⟩) n n (fillL n 0)) := hide (by
    have e : fillL n 0 = List.replicate n 0 := by unfold fillL; simp
    rw [e]; exact hO1)
  clear hO1
  go_loopw [6, 18] (fun _ i wr => ∃ j, j ≤ n ∧ i = .int .i64 (j : Nat) ∧ Hid (OwnB wr w.heap.size (some ⟨w.heap.size, 0, none⟩) n n (fillL n j)) ∧ Below w.heap.size w wr) (fun _ i _ => n - (intOf i).toNat)
  case atStart => exact ⟨0, by omega, rfl, HO1, hb1⟩
  case round =>
    obtain ⟨j, hj, rfl, HO, hbr⟩ := hrel
    by_cases hlt : j < n
    · obtain ⟨g', u, hA', _, _, _, hcj, hfj⟩ := HO.out.own.cell hlt
      injection hA' with hA'
      injection hA' with hA'
      subst hA'
      obtain ⟨i1, i2, i3⟩ := idx_at hlt
      go_wp2_with fail
      have hs := HO.out.own.stored j (.int .u8 255)
      have HO2 : Hid (OwnB (wr.setCell ⟨w.heap.size, j, none⟩ (.int .u8 255)) w.heap.size (some ⟨w.heap.size, 0, none⟩) n n (fillL n (j + 1))) := hide ⟨by rw [fill_len (by omega)], by
        rw [← fill_set hlt, List.map_set]
        exact hs⟩
      have hb2 := below_set hbr (p := ⟨w.heap.size, j, none⟩) (Nat.le_refl _) (.int .u8 255)
      go_roundw
      case rel => exact ⟨j + 1, by omega, by go_num, HO2, hb2⟩
      case measure => simp [intOf]; omega
    · obtain rfl : j = n := by omega
      have e : fillL j j = R := by rw [HR.out]; unfold fillL; simp
      have HO2 := HO.out
      rw [e] at HO2
      have HO3 := hide HO2
      clear HO2 e
      go_wp2_with fail
      refine (fl_Of (some ⟨w.heap.size, 0, none⟩) j j R k m _ (by rw [HR.out, List.length_replicate]) (by have := HN.out; omega) h1 h8 hm hm2 HO3.out.sl).mono ?_
      rintro e w2 ⟨q, rfl, h2, h3, h4⟩
      have HH := hide (And.intro h2 (And.intro h3 h4))
      clear h2 h3 h4
      go_wp2_with fail
      go_ret
      exact (⟨q, rfl, HH.out.1, fun g hg => Nat.le_trans hbr.size (HH.out.2.1 g hg), below_step HH.out.2.2 hbr⟩ : FNewR _ _ _ _)
end
end Go.Proofs.YtehabbnohoomjaaGreatDoor
namespace Go.Proofs.YtehabbnohoomjaaGreatDoor
section
set_option linter.unusedVariables false
set_option linter.unusedSimpArgs false
set_option linter.unnecessarySimpa false
open Go.RowKit
set_option maxRecDepth 20000
set_option maxHeartbeats 2000000

theorem blk_setL {w : World} {g : Nat} {t : TypeId} {l : List Value} (h : Blk w g t l.toArray) (i : Nat) (v : Value) : Blk (w.setCell ⟨g, i, none⟩ v) g t (l.set i v).toArray := by
  have := h.set_ i v
  rwa [List.setIfInBounds_toArray] at this
theorem only_F {q : FP} {w w' : World} {G : Nat → Prop} (h : Only G w w') (hG : ∀ g, G g → q.F g) : Only q.F w w' := h.mono (fun g _ hg => hG g hg)
/-- an erasing's operation -/
def doE (S : FS) (i : Nat) : FS × Int :=
  if S.ahead = 0 then ({ S with b := put S.b (1024 * i) (List.replicate (S.mask % 1025) 255), ahead := -1, off := true }, 7)
  else ({ S with b := put S.b (1024 * i) (List.replicate 1024 255), ahead := decA S.ahead, ops := S.ops + 1 }, 0)
def DoR (q : FP) (r : FS × Int) (w : World) (e : Ending) (w' : World) : Prop := e = .returned (.int .i64 r.2) ∧ FD w' q r.1 ∧ Only q.F w w'
theorem do_erase (q : FP) (S : FS) (i : Nat) (w : World) (hD : FD w q S) (hi : i < S.wear.length) (hops : S.ops < 4611686018427387904) :
    Calls Tryz.prog 192 #[.pointer (some ⟨q.p, 0, none⟩), .int .i64 (i : Nat), .func (.func 193) #[.pointer (some ⟨q.p, 0, none⟩)] #[], .func (.func 194) #[.pointer (some ⟨q.p, 0, none⟩)] #[]] w (DoR q (doE S i) w) := by
  have HD := hide hD
  have HI := hide hi
  obtain ⟨⟨c0, c1, c2, c3, c4, c5, c6⟩, hfz⟩ := hD.c
  have f4 := hfz 4
  have f6 := hfz 6
  have ha2 := hD.fit.ah2
  have ha1 := hD.fit.ah1
  obtain ⟨ah, hah⟩ : ∃ a, a = S.ahead := ⟨_, rfl⟩
  rw [← hah] at c4 ha1 ha2
  have HF := hide hD.fit
  clear hD hi hfz
  by_cases h0 : ah = 0
  · subst h0
    have HE : Hid (doE S i = ({ S with b := put S.b (1024 * i) (List.replicate (S.mask % 1025) 255), ahead := -1, off := true }, 7)) := hide (by unfold doE; rw [if_pos hah.symm])
    rw [HE.out]
    clear hah
    go_enter Tryz.func192, Tryz.ntmps192
    go_wp2_with fail
    refine (fl_begin q S i w HD.out HI.out).mono ?_
    rintro e w1 ⟨rfl, h1, h2⟩
    obtain ⟨⟨d0, d1, d2, d3, d4, d5, d6⟩, hfz⟩ := h1.c
    have g4 := hfz 4
    have g3 := hfz 3
    have HH := hide (And.intro h1 h2)
    clear h1 h2 hfz c0 c1 c2 c3 c4 c5 c6
    go_wp2_with fail
    go_ret
    refine ⟨rfl, ?_, ?_⟩
    · exact FD.reblk HH.out.1 (only2 _ _ _ _) (blk_setL (blk_setL HH.out.1.blk 4 _) 3 _) rfl rfl (fit_of HH.out.1.fit rfl rfl rfl rfl (.inr (.inr rfl)))
    · exact Only.set _ (Only.set _ (only_F HH.out.2 (fun g e => .inr (.inl e))) (.inl rfl) _) (.inl rfl) _
  · have HE : Hid (doE S i = ({ S with b := put S.b (1024 * i) (List.replicate 1024 255), ahead := decA ah, ops := S.ops + 1 }, 0)) := hide (by unfold doE; rw [if_neg (by rw [← hah]; exact h0), hah])
    rw [HE.out]
    have HA := hide hah
    clear hah
    by_cases hp : 0 < ah
    · have HDA := hide (show decA ah = ah - 1 by unfold decA; rw [if_pos hp])
      rw [HDA.out]
      go_enter Tryz.func192, Tryz.ntmps192
      go_wp2_with fail
      have h1 : FD ((w.setCell ⟨q.p, 4, none⟩ (.int .i64 (ah - 1))).setCell ⟨q.p, 6, none⟩ (.int .i64 ((S.ops : Int) + 1))) q { S with ahead := ah - 1, ops := S.ops + 1 } := FD.reblk HD.out (only2 _ _ _ _) (blk_setL (blk_setL HD.out.blk 4 _) 6 _) rfl rfl (fit_of HF.out rfl rfl rfl rfl (.inr (.inl (by rw [← HA.out, HDA.out]))))
      have HW : Hid (Only (fun g => g = q.p) w ((w.setCell ⟨q.p, 4, none⟩ (.int .i64 (ah - 1))).setCell ⟨q.p, 6, none⟩ (.int .i64 ((S.ops : Int) + 1)))) := hide (only2 _ _ _ _)
      have HC := hide (fl_erase q _ i _ h1 HI.out)
      clear h1 c0 c1 c2 c3 c4 c5 c6
      go_wp2_with fail
      refine HC.out.mono ?_
      rintro e w1 ⟨rfl, h1, h2⟩
      have HH := hide (And.intro h1 h2)
      clear h1 h2
      go_wp2_with fail
      go_ret
      exact ⟨rfl, HH.out.1, (only_F HW.out (fun g e => .inl e)).trans (only_F HH.out.2 (fun g e => .inr (.inl e))) (fun _ _ h => h)⟩
    · have HDA := hide (show decA ah = ah by unfold decA; rw [if_neg hp])
      rw [HDA.out]
      go_enter Tryz.func192, Tryz.ntmps192
      go_wp2_with fail
      have h1 : FD (w.setCell ⟨q.p, 6, none⟩ (.int .i64 ((S.ops : Int) + 1))) q { S with ahead := ah, ops := S.ops + 1 } := by
        have := HA.out
        subst this
        exact FD.reblk HD.out (only1 _ _) (blk_setL HD.out.blk 6 _) rfl rfl (fit_of HF.out rfl rfl rfl rfl (.inl rfl))
      have HW : Hid (Only (fun g => g = q.p) w (w.setCell ⟨q.p, 6, none⟩ (.int .i64 ((S.ops : Int) + 1)))) := hide (only1 _ _)
      have HC := hide (fl_erase q _ i _ h1 HI.out)
      clear h1 c0 c1 c2 c3 c4 c5 c6
      go_wp2_with fail
      refine HC.out.mono ?_
      rintro e w1 ⟨rfl, h1, h2⟩
      have HH := hide (And.intro h1 h2)
      clear h1 h2
      go_wp2_with fail
      go_ret
      exact ⟨rfl, HH.out.1, (only_F HW.out (fun g e => .inl e)).trans (only_F HH.out.2 (fun g e => .inr (.inl e))) (fun _ _ h => h)⟩
/-- Erase -/
def eraseA (S : FS) (i : Nat) : FS × Int := if S.most ≤ (S.wear.getD i 0 : Nat) then (S, 10) else eraseF S i
theorem eraseF_do (S : FS) (i : Nat) : eraseF S i = doE { S with wear := S.wear.set i (S.wear.getD i 0 + 1) } i := by
  unfold eraseF doE
  simp only []
theorem fl_Erase (q : FP) (S : FS) (i : Nat) (w : World) (hD : FD w q S) (hi : i < S.wear.length) (hoff : S.off = false) (hops : S.ops < 4611686018427387904) :
    Calls Tryz.prog 166 #[.pointer (some ⟨q.p, 0, none⟩), .int .i64 (i : Nat)] w (DoR q (eraseA S i) w) := by
  have HD := hide hD
  have HI := hide hi
  obtain ⟨⟨c0, c1, c2, c3, c4, c5, c6⟩, hfz⟩ := hD.c
  rw [hoff] at c3
  obtain ⟨cw, fw⟩ := hD.wcell hi
  obtain ⟨x, hx⟩ : ∃ x, x = S.wear.getD i 0 := ⟨_, rfl⟩
  obtain ⟨most, hmo⟩ : ∃ m, m = S.most := ⟨_, rfl⟩
  obtain ⟨nw, hnw⟩ : ∃ m, m = S.wear.length := ⟨_, rfl⟩
  have m2 := hD.fit.m2
  have h8 := hD.fit.wl8
  rw [← hnw] at c1 hi h8
  rw [← hx] at cw
  rw [← hmo] at c2 m2
  have i1 : (0 : Int) ≤ (i : Int) := by omega
  have i2 : (i : Int) < (nw : Int) := by omega
  have zp := HD.out.blk.lt
  have zw := HD.out.gw_lt
  have HX := hide hx
  have HM := hide hmo
  clear hD hfz hoff hx hmo hnw
  by_cases hle : most ≤ (x : Int)
  · have HE : Hid (eraseA S i = (S, 10)) := hide (by unfold eraseA; rw [if_pos (by rw [← HX.out, ← HM.out]; exact hle)])
    rw [HE.out]
    go_enter Tryz.func166, Tryz.ntmps166
    go_wp2_with fail
    go_quiet (fail)
    go_wp2_with fail
    go_ret
    exact ⟨rfl, HD.out.below (below_drewN (Below.refl _ _) _), Only.of_below (below_drewN (Below.refl _ _) _)⟩
  · have HE : Hid (eraseA S i = doE { S with wear := S.wear.set i (x + 1) } i) := hide (by unfold eraseA; rw [if_neg (by rw [← HX.out, ← HM.out]; exact hle), eraseF_do, HX.out])
    rw [HE.out]
    have hlt : (x : Int) < most := by omega
    have HLT := hide hlt
    go_enter Tryz.func166, Tryz.ntmps166
    go_wp2_with fail
    go_quiet (fail)
    go_wp2_with fail
    have h1 := fun nq => (HD.out.below (below_drewN (Below.refl w.heap.size w) nq)).setW i (x + 1) (by rw [← HM.out]; have := HLT.out; omega)
    rw [show (((x + 1 : Nat) : Int)) = (x : Int) + 1 by omega] at h1
    have HW : Hid (∀ nq, Only (fun g => g = q.gw) w ((w.drewN nq).setCell ⟨q.gw, i, none⟩ (.int .i64 ((x : Int) + 1)))) := hide (fun nq => Only.set (fun g => g = q.gw) (Only.of_below (below_drewN (Below.refl _ _) _)) rfl _)
    have HC := hide (fun nq => do_erase q _ i _ (h1 nq) (by simp only [List.length_set]; exact HI.out) hops)
    clear h1 c0 c1 c2 c3 c4 c5 c6 cw fw
    go_wp2_with fail
    refine (HC.out _).mono ?_
    rintro e w1 ⟨rfl, h1, h2⟩
    have HH := hide (And.intro h1 h2)
    clear h1 h2
    go_wp2_with fail
    go_ret
    exact ⟨rfl, HH.out.1, (only_F (HW.out _) (fun g e => .inr (.inr e))).trans HH.out.2 (fun _ _ h => h)⟩
end
end Go.Proofs.YtehabbnohoomjaaGreatDoor
